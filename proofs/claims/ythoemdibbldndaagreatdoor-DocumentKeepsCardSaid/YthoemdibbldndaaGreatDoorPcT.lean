/- The contract of the maker Target: the source's items with other texts. -/
import Derived.Test.YthoemdibbldndaaGreatDoorRpp
import Derived.Deep.CutRange
set_option linter.all false
set_option maxHeartbeats 0
set_option maxRecDepth 20000
open Go.Value renaming int->Yh,string->Yi,slice->Yj,bool->Yk,pointer->Yl
open Go.IntKind renaming i64->Yn
open Go.Obj renaming cells->Yo
open Go.Ending renaming returned->Yp
open Option renaming none->Yq,some->Yr
open Go renaming World->Ys
namespace Go.Proofs.YthoemdibbldndaaGreatDoor
open Go.RowKit
section
namespace St
structure ld (f t:List It) (e:Nat):Prop where
 nm:Nm t
 fit:bY t=bY f
 len:t.length<=2*f.length
 aV:aV t<=aV f+e
 pos:aA t<=aA f+e
theorem Px:ld [] [] 0:=⟨nQ,rfl,by simp,by simp,by simp⟩
theorem qb(f:List It)(x:It):bY (aL f x)=bY f++bY [x]:=by
 rw[<-eT,Dz,km,eT,eT]
theorem AJ(u:List UInt8)(i:Int):bY [(1,u,i)]=[]:=by simp[bY]
theorem M1{f t:List It}{e n:Nat}{x:It}(h:ld f t e)(hx:x.1=1){u:List UInt8}(hu:u.length<=x.2.1.length+n):ld (f++[x]) (aL t (1,u,x.2.2)) (e+n):=by
 have h1:=(gL t (1,u,x.2.2)).1;have h2:=gW t (1,u,x.2.2);have h3:=po t (1,u,x.2.2);have hw:aZ x=x.2.1.length:=by unfold aZ;rw[if_pos hx]
 refine⟨eH h.nm _,?_,?_,?_,?_⟩
 ·rw[qb,km,AJ,h.fit];have:bY [x]=[]:=by simp[bY,hx]
  rw[this]
 ·have:=h.len;simp;omega
 ·have:=h.aV;rw[cw];simp only at h2;omega
 have:=h.pos
 rw[gG,hw,h3];simp only[aZ,if_true];omega
theorem M0{f t:List It}{e n:Nat}{x:It}(h:ld f t e)(hx:x.1≠1){u:List UInt8}(hu:u.length<=n):ld (f++[x]) (aL (aL t (1,u,0)) x) (e+n):=by
 have h1:=(gL t (1,u,0)).1;have h2:=gW t (1,u,0);have h3:=po t (1,u,0);have k1:=(gL (aL t (1,u,0)) x).1;have k2:=gW (aL t (1,u,0)) x;have k3:=po (aL t (1,u,0)) x;refine⟨eH (eH h.nm _) _,?_,?_,?_,?_⟩
 ·rw[qb,qb,km,AJ,h.fit,List.append_nil]
 ·have:=h.len;simp;omega
 ·have:=h.aV;rw[cw];simp only at h2;omega
 have:=h.pos
 rw[gG,k3,h3];have:aZ (1,u,0)=u.length:=by simp[aZ]
 omega
theorem K1{f t:List It}{e n:Nat}{x:It}(h:ld f t e)(hx:x.1≠1):ld (f++[x]) (aL t x) (e+n):=by
 have k1:=(gL t x).1;have k2:=gW t x;have k3:=po t x;refine⟨eH h.nm _,?_,?_,?_,?_⟩
 ·rw[qb,km,h.fit]
 ·have:=h.len;simp;omega
 ·have:=h.aV;rw[cw];omega
 have:=h.pos;rw[gG,k3];omega
end St
structure gQ (g h:Nat) (a b:Ys):Prop where
 os:b.os=a.os
 tape:b.tape=a.tape
 output:b.output=a.output
 size:a.1.size<=b.1.size
 block:∀k,k<a.1.size->k≠g->k≠h->b.1[k]?=a.1[k]?
theorem gQ.refl(g h:Nat)(a:Ys):gQ g h a a:=⟨rfl,rfl,rfl,Nat.le_refl _,λ_ _ _ _=>rfl⟩
theorem gQ.trans{g h:Nat}{a b c:Ys}(p:gQ g h a b)(q:gQ g h b c):gQ g h a c:=
 ⟨q.os.trans p.os,q.tape.trans p.tape,q.output.trans p.output,Nat.le_trans p.size q.size,λk hk h1 h2=>(q.block k (Nat.lt_of_lt_of_le hk p.size) h1 h2).trans (p.block k hk h1 h2)⟩
theorem gQ.of{g h:Nat}{a b:Ys}(p:a.grownBy b (Yr g)):gQ g h a b:=⟨p.os,p.tape,p.output,p.size,λk hk h1 _=>p.block k hk (λe=>h1 (by cases e;rfl))⟩
theorem gQ.set(g h i:Nat)(a:Ys)(v:Value):gQ g h a (a.setCell ⟨h,i,Yq⟩ v):=by
 have k:=cJ a ⟨h,i,Yq⟩ v;exact⟨k.os,k.tape,k.output,k.size,λj hj _ h2=>k.block j hj (λe=>h2 (by cases e;rfl))⟩
theorem gQ.gb{g h:Nat}{a b w:Ys}(p:gQ g h a b)(k:w.grownBy a (Yr g))(hh:w.1.size<=h):w.grownBy b (Yr g):=
 ⟨p.os.trans k.os,p.tape.trans k.tape,p.output.trans k.output,Nat.le_trans k.size p.size,λj hj hne=>(p.block j (Nat.lt_of_lt_of_le hj k.size) (λe=>hne (by rw[e])) (by omega)).trans (k.block j hj hne)⟩
theorem gQ.cell{g h:Nat}{a b:Ys}(p:gQ g h a b){q:Addr}(hq:q.block<a.1.size)(h1:q.block≠g)(h2:q.block≠h):b.cell? q=a.cell? q:=World.cell?_of_block (p.block _ hq h1 h2)
theorem O4{w w':Ys}{B e size n g h:Nat}{v:Value}{xs:List Value}(ho:w.ownsRow B e size v n xs)(k:gQ g h w w')(hg:g<B)(hh:∀x,v.ownBlock=Yr x->x≠h):w'.ownsRow B e size v n xs:=
 ⟨ho.1,ho.2.imp id λ⟨b,cap,cur,h1,h2,h3,h4⟩=>⟨b,cap,cur,h1,h2,by rw[k.block b (ae h3) (by omega) (hh b (by rw[h1];rfl))];exact h3,h4⟩⟩
def Eb(tx:ByteArray)(r:Nat):ByteArray:=if r=0 then⟨#[114,111,116]⟩else if r=1 then⟨#[100,97,115,32,65,117,116,111]⟩else if r=2 then⟨#[]⟩else if r=3 then⟨#[101,105,110,32]⟩++tx else tx
theorem R2(tx:ByteArray)(r:Nat):(Eb tx r).size<=tx.size+8:=by
 unfold Eb
 split
 ·show 3<=_;omega
 split
 ·show 8<=_;omega
 split
 ·show 0<=_;omega
 split
 ·rw[ByteArray.size_append];show 4+_<=_;omega
 omega
def BG(w:Ys)(B g P:Nat)(f:List St.It)(s5 db:Value)(wr:Ys):Prop:=
 ∃(k:Nat) (t:List St.It),k<=f.length/\db=Yh Yn k/\wr.ownsRow w.1.size 36 3 s5 t.length (ak t)/\St.ld (f.take k) t (12*k)/\bp wr B g (P+7*k)/\w.grownBy wr (Yr g)
def pM(w:Ys)(B g P:Nat)(f:List St.It)(e:Ending)(w':Ys):Prop:=∃(v:Value) (t:List St.It),e=Yp v/\w'.ownsRow w.1.size 36 3 v t.length (ak t)/\St.ld f t (12*f.length)/\bp w' B g (P+7*f.length)/\w.grownBy w' (Yr g)
def UQ(B g Q bx:Nat)(tx:ByteArray)(id:Int)(ρ:Nat->Value)(L:Nat->Bool)(W:Ys):Prop:=
 bp W B g (Q+if L 7 then 1 else 0)/\W.1[bx]?=Yr (Yo #[Yh Yn 1,if L 11 then ρ 9 else Yi tx,Yh Yn id] 36)
theorem AA{w w':Ys}{A:Option Addr}{f:List St.It}{g:Nat}(h:aH w A f)(k:w.grownBy w' (Yr g))(hne:0<f.length->∀b off,A=Yr ⟨b,off,Yq⟩->b≠g):aH w' A f:=λh0=>Az h k (hne h0) h0
theorem KY{α:Type}(f:List α)(k:Nat)(h:k<f.length):f.take (k+1)=f.take k++[f[k]]:=by rw[List.take_add_one,List.getElem?_eq_getElem h];rfl
theorem ID(B g P n c:Nat)(A:Option Addr)(f:List St.It)(w:Ys)(hG:bp w B g P)(hP:P<=100000)(hn:f.length=n)(h:aH w A f)(hne:0<n->∀b off,A=Yr ⟨b,off,Yq⟩->b≠g)(hl:n<=600)(ht:aV f<=2000000) :
  Calls Tryz.prog 65 #[Yl (Yr ⟨g,0,Yq⟩),Yj A n c] w (pM w B g P f):=by
 have HG:=aa hG;have H:=aa h;have HN:=aa hn;have iy:=aa hne;obtain⟨ka,hB⟩:=hG.lt;clear hG h hn hne;go_enter Tryz.func65,Tryz.ntmps65;go_wp2_with fail;go_loopw [5,10] (λs5 db wr=>BG w B g P f s5 db wr) (λ_ db _=>n+1-(intOf db).toNat)
 case atStart=>exact⟨0,[],by omega,rfl,World.ownsRow_nil _ _ _ _,by simpa using St.Px,HG.out,bA _ _⟩
 case round=>
  clear HG;obtain⟨k,t,hk,rfl,hown,hT,hG,hkk⟩:=hrel;have HG:=aa hG;have HK:=aa hkk;have HO:=aa hown;have HT:=aa hT;have hN:=HN.out;have hI:=AA H.out hkk (λh0=>iy.out (by have:=HN.out;omega));have yL:=hkk.size;clear hG
  by_cases hlt:k<n
  ·have aI:k<f.length:=by omega
   obtain⟨b,off,rfl,hb,hc⟩:=hI (by omega);obtain⟨c0,c1,c2⟩:=hc k aI;have hbg:=iy.out (by omega) b off rfl;have htk:=KY f k aI;have q6:=jw f k aI;have htl:=fK f (k+1);have hlen:=hT.len;have XX:=hT.aV;have uT:(f.take k).length=k:=by rw[List.length_take];omega
   rw[uT]at hlen;generalize f[k]=x at c0 c1 c2 htk q6;obtain⟨kd,u7,id⟩:=x;simp only at c0 c1 c2 q6;have pJ:=aa htk;obtain⟨A5,c5,rfl,_,_,hA5⟩:=aR hown;have L1:∀x,(Yj A5 t.length c5).ownBlock=Yr x->x<wr.1.size:=λx hx=>(hown.lt x hx).2
   have hown':wr.ownsRow w.1.size 36 3 (Yj A5 t.length c5) t.length (ak t):=hown
   have kQ:∀(A':Option Addr) (c':Nat) (t':List St.It) (W:Ys) (b:Nat) (x:St.It),St.Nm t'->t'.length<=5000->aV t'+x.2.1.length<=4611686018427387904->(A'=Yq->c'=0)->t'.length<=c'->aH W A' t'->aH W (Yr ⟨b,0,Yq⟩) [x]->Calls Tryz.prog 44 #[Yj A' t'.length c',Yj (Yr ⟨b,0,Yq⟩) 1 1] W λe w'=>∃v,e=Yp v/\w'.ownsRow W.1.size 36 3 v (St.aL t' x).length (ak (St.aL t' x))/\ac W w':=by
    intro A' c' t' W b x be hl' ht' hA' hc' h h';have:=gZ A' t'.length c' t' (Yr ⟨b,0,Yq⟩) 1 1 [x] W rfl rfl (λe=>by have:=hA' e;omega) (λe=>by cases e) h h' (by omega) (by rw[cw];exact ht')
    rw[St.eh,be]at this;exact this
   have ee:=aa kQ;have hst:(⟨u7.toArray⟩:ByteArray).1.1=u7:=by simp
   have hsz:(⟨u7.toArray⟩:ByteArray).size=u7.length:=by show u7.toArray.size=_;simp
   generalize(⟨u7.toArray⟩:ByteArray)=tx at c1 hst hsz;haveI:af b wr:=af.of hb;have z1:(k:Int)<(n:Int):=by omega
   have z2:¬(k:Int)<0:=by omega
   clear hc kQ hkk aI hown hT hI;have cZ:=heap_alloc_new wr (Yo #[Yh Yn kd,Yi tx,Yh Yn id] 36);have mF:=aa cZ
   by_cases cN:kd=1
   ·subst cN;have wC:=aa (HG.out.ai ((ac.refl wr).alloc (Yo #[Yh Yn 1,Yi tx,Yh Yn id] 36)));have zv:=aa (bK HK.out ((ac.refl wr).alloc (Yo #[Yh Yn 1,Yi tx,Yh Yn id] 36)));have nD:=aa (HO.out.alloc (Yo #[Yh Yn 1,Yi tx,Yh Yn id] 36));have hsa:wr.1.size<(wr.alloc (Yo #[Yh Yn 1,Yi tx,Yh Yn id] 36)).1.size:=by simp
    clear HG HK HO cZ;go_wp2_with fail;clear c0 c1 c2;generalize wr.alloc (Yo #[Yh Yn 1,Yi tx,Yh Yn id] 36)=w1 at *;obtain⟨bx,hbxe⟩:∃bx,bx=wr.1.size:=⟨_,rfl⟩;rw[<-hbxe]at mF hsa L1 |-;have hgx:g≠bx:=by omega
    have hwx:w.1.size<=bx:=by omega
    have TL:B<=bx:=by omega
    clear hbxe;obtain⟨Q,hQ⟩:∃Q,Q=P+7*k:=⟨_,rfl⟩;rw[<-hQ]at wC;refine wl (λa b=>gQ g bx a b) (λρ L W=>UQ B g Q bx tx id ρ L W) [λv _=>v=Yl (Yr ⟨bx,1,Yq⟩),λv _=>v=Yi tx,λv _=>v=Yi (⟨#[101,105,110,32]⟩++tx),λv _=>v=Yl (Yr ⟨bx,1,Yq⟩),λv _=>v=Yi tx,λv W=>∃b,v=Yj (Yr ⟨b,0,Yq⟩) 5 5/\b≠g/\b≠bx/\b<W.1.size/\∀r,r<5->W.cell? ⟨b,r,Yq⟩=Yr (Yi (Eb tx r)),λv _=>v=Yl (Yr ⟨g,0,Yq⟩),λv _=>∃r:Nat,r<5/\v=Yh Yn r,λv W=>∃b r,r<5/\v=Yl (Yr ⟨b,r,Yq⟩)/\b≠g/\b≠bx/\b<W.1.size/\W.cell? ⟨b,r,Yq⟩=Yr (Yi (Eb tx r)),λv _=>∃r:Nat,r<5/\v=Yi (Eb tx r),λv _=>v=Yl (Yr ⟨bx,1,Yq⟩),λ_ _=>True] (gQ.refl g bx) (λa b c h k=>gQ.trans h k) (by kernel_rfl) (by rfl) (by kernel_rfl) (by kernel_rfl) ?_ ?_ ?_ ?_ ?_;rotate_left 1
    ·intro ρ;simp only[bZ,Act.put,ax,aw,ay,Nat.zero_add,Nat.reduceAdd];exact rfl
    ·intro ρ;exact⟨wC.out.ai ((ac.refl _).drew),mF.out⟩
    ·refine gV.cons (λρ L W hR hI hL hD hO hF K hK=>?_) ?_
     ·obtain⟨dp,hI2⟩:=hI;have n6:bx<W.1.size:=ae hI2;have ew:g<W.1.size:=Nat.lt_of_lt_of_le dp.lt.1 dp.lt.2;clear hF hD hO hR;simp only[Act.put,ax,aw,ay]at hK |-;go_simp;refine hK _ _ (gQ.refl g bx W) ⟨by simpa[ar]using dp,by simpa[ar,gz]using hI2⟩ (λW2 h2=>rfl)
     refine gV.cons (λρ L W hR hI hL hD hO hF K hK=>?_) ?_
     ·have f0:=ag hF (j:=0) (by decide);have nn:L 11=false:=hD.not (p:=11) rfl (q:=9) (by decide) (hD.not (p:=9) rfl (q:=8) (by decide) (hD.not (p:=8) rfl (q:=5) (by decide) (hD.not (p:=5) rfl (q:=2) (by decide) (hD.not (p:=2) rfl (q:=1) (by decide) hL))));obtain⟨dp,hI2⟩:=hI;have n6:bx<W.1.size:=ae hI2;have ew:g<W.1.size:=Nat.lt_of_lt_of_le dp.lt.1 dp.lt.2;clear hF hD hO hR;simp only[Act.put,ax,aw,ay]at hK |-;have e0:ρ 0=Yl (Yr ⟨bx,1,Yq⟩):=f0;rw[e0]at hK |-;rw[nn]at hI2;have Ak:W.cell? ⟨bx,1,Yq⟩=Yr (Yi tx):=by rw[aj hI2];rfl
      haveI:af bx W:=af.of n6;go_simp;refine hK _ _ (gQ.refl g bx W) ⟨by simpa[ar]using dp,by simpa[ar,gz,nn]using hI2⟩ (λW2 h2=>rfl)
     refine gV.cons (λρ L W hR hI hL hD hO hF K hK=>?_) ?_
     ·have f1:=ag hF (j:=1) (by decide);obtain⟨dp,hI2⟩:=hI;have n6:bx<W.1.size:=ae hI2;have ew:g<W.1.size:=Nat.lt_of_lt_of_le dp.lt.1 dp.lt.2;clear hF hD hO hR;simp only[Act.put,ax,aw,ay]at hK |-;have e1:ρ 1=Yi tx:=f1;rw[e1]at hK |-;have y1:¬9223372036854775807<4+u7.length:=by omega
      go_simp;refine hK _ _ (gQ.refl g bx W) ⟨by simpa[ar]using dp,by simpa[ar,gz]using hI2⟩ (λW2 h2=>rfl)
     refine gV.cons (λρ L W hR hI hL hD hO hF K hK=>?_) ?_
     ·obtain⟨dp,hI2⟩:=hI;have n6:bx<W.1.size:=ae hI2;have ew:g<W.1.size:=Nat.lt_of_lt_of_le dp.lt.1 dp.lt.2;clear hF hD hO hR;simp only[Act.put,ax,aw,ay]at hK |-;go_simp;refine hK _ _ (gQ.refl g bx W) ⟨by simpa[ar]using dp,by simpa[ar,gz]using hI2⟩ (λW2 h2=>rfl)
     refine gV.cons (λρ L W hR hI hL hD hO hF K hK=>?_) ?_
     ·have f3:=ag hF (j:=3) (by decide);have nn:L 11=false:=hD.not (p:=11) rfl (q:=9) (by decide) (hD.not (p:=9) rfl (q:=8) (by decide) (hD.not (p:=8) rfl (q:=5) (by decide) (hD.not (p:=5) rfl (q:=4) (by decide) hL)));obtain⟨dp,hI2⟩:=hI;have n6:bx<W.1.size:=ae hI2;have ew:g<W.1.size:=Nat.lt_of_lt_of_le dp.lt.1 dp.lt.2;clear hF hD hO hR;simp only[Act.put,ax,aw,ay]at hK |-;have e3:ρ 3=Yl (Yr ⟨bx,1,Yq⟩):=f3;rw[e3]at hK |-;rw[nn]at hI2;have Ak:W.cell? ⟨bx,1,Yq⟩=Yr (Yi tx):=by rw[aj hI2];rfl
      haveI:af bx W:=af.of n6;go_simp;refine hK _ _ (gQ.refl g bx W) ⟨by simpa[ar]using dp,by simpa[ar,gz,nn]using hI2⟩ (λW2 h2=>rfl)
     refine gV.cons (λρ L W hR hI hL hD hO hF K hK=>?_) ?_
     ·have f2:=ag hF (j:=2) (by decide);have f4:=ag hF (j:=4) (by decide);obtain⟨dp,hI2⟩:=hI;have n6:bx<W.1.size:=ae hI2;have ew:g<W.1.size:=Nat.lt_of_lt_of_le dp.lt.1 dp.lt.2;clear hF hD hO hR;simp only[Act.put,ax,aw,ay]at hK |-;have e2:ρ 2=Yi (⟨#[101,105,110,32]⟩++tx):=f2;have e4:ρ 4=Yi tx:=f4;rw[e2,e4]at hK |-;go_simp;refine hK _ _ (gQ.of (((ac.refl W).alloc _).gb _)) ⟨by simpa[ar]using dp.ai ((ac.refl W).alloc _),by simpa[ar,gz]using(((ac.refl W).alloc _).below.block bx n6).trans hI2⟩ (λW2 h2=>⟨W.1.size,rfl,by omega,by omega,by have:=h2.size;simp at this;omega,λr hr=>?_⟩);rw[h2.cell (q:=⟨W.1.size,r,Yq⟩) (by simp) (by simp;omega) (by simp;omega),World.cell?_alloc_at _ _ _ _ rfl];rcases(show r=0\/r=1\/r=2\/r=3\/r=4 by omega)with h|h|h|h|h<;>subst h<;>rfl
     refine gV.cons (λρ L W hR hI hL hD hO hF K hK=>?_) ?_
     ·obtain⟨dp,hI2⟩:=hI;have n6:bx<W.1.size:=ae hI2;have ew:g<W.1.size:=Nat.lt_of_lt_of_le dp.lt.1 dp.lt.2;clear hF hD hO hR;simp only[Act.put,ax,aw,ay]at hK |-;go_simp;refine hK _ _ (gQ.refl g bx W) ⟨by simpa[ar]using dp,by simpa[ar,gz]using hI2⟩ (λW2 h2=>rfl)
     refine gV.cons (λρ L W hR hI hL hD hO hF K hK=>?_) ?_
     ·have f6:=ag hF (j:=6) (by decide);obtain⟨dp,hI2⟩:=hI;have n6:bx<W.1.size:=ae hI2;have ew:g<W.1.size:=Nat.lt_of_lt_of_le dp.lt.1 dp.lt.2;clear hF hD hO hR;simp only[Act.put,ax,aw,ay]at hK |-;have e6:ρ 6=Yl (Yr ⟨g,0,Yq⟩):=f6;rw[e6]at hK |-;rw[hL]at dp;refine ej (o:=⟨Yr 27,_,_,_,_,_⟩) rfl 64 #[Yl (Yr ⟨g,0,Yq⟩),Yh Yn 5] _ (bR B g Q 5 W dp (by omega) (by omega) (by omega)) ?_ ?_
      ·go_simp;done
      rintro e w' ⟨r,rfl,hr,hG2,hk2⟩;exact⟨_,rfl,hK _ _ (gQ.of hk2) ⟨by simpa[ar]using hG2,by simpa[ar,gz]using(hk2.block bx n6 (by simp;omega)).trans hI2⟩ (λW2 h2=>⟨r,by omega,rfl⟩)⟩
     refine gV.cons (λρ L W hR hI hL hD hO hF K hK=>?_) ?_
     ·have f5:=ag hF (j:=5) (by decide);have f7:=ag hF (j:=7) (by decide);obtain⟨dp,hI2⟩:=hI;have n6:bx<W.1.size:=ae hI2;have ew:g<W.1.size:=Nat.lt_of_lt_of_le dp.lt.1 dp.lt.2;clear hF hD hO hR;simp only[Act.put,ax,aw,ay]at hK |-;obtain⟨b5,e5,q1,q2,q3,q4⟩:=f5;obtain⟨r,hr,e7⟩:=f7;rw[e5,e7]at hK |-;have XT:(r:Int)<5:=by omega
      have sP:¬(r:Int)<0:=by omega
      haveI:af b5 W:=af.of q3;go_simp;refine hK _ _ (gQ.refl g bx W) ⟨by simpa[ar]using dp,by simpa[ar,gz]using hI2⟩ (λW2 h2=>⟨b5,r,hr,by rfl,q1,q2,Nat.lt_of_lt_of_le q3 h2.size,(h2.cell (q:=⟨b5,r,Yq⟩) q3 q1 q2).trans (q4 r hr)⟩)
     refine gV.cons (λρ L W hR hI hL hD hO hF K hK=>?_) ?_
     ·have f8:=ag hF (j:=8) (by decide);have nn:L 11=false:=hD.not (p:=11) rfl (q:=9) (by decide) hL;obtain⟨dp,hI2⟩:=hI;have n6:bx<W.1.size:=ae hI2;have ew:g<W.1.size:=Nat.lt_of_lt_of_le dp.lt.1 dp.lt.2;clear hF hD hO hR;simp only[Act.put,ax,aw,ay]at hK |-;obtain⟨b5,r,hr,e8,q1,q2,q3,q4⟩:=f8;rw[e8]at hK |-;rw[nn]at hI2;haveI:af b5 W:=af.of q3;go_simp;refine hK _ _ (gQ.refl g bx W) ⟨by simpa[ar]using dp,by simpa[ar,gz,nn]using hI2⟩ (λW2 h2=>⟨r,hr,rfl⟩)
     refine gV.cons (λρ L W hR hI hL hD hO hF K hK=>?_) ?_
     ·obtain⟨dp,hI2⟩:=hI;have n6:bx<W.1.size:=ae hI2;have ew:g<W.1.size:=Nat.lt_of_lt_of_le dp.lt.1 dp.lt.2;clear hF hD hO hR;simp only[Act.put,ax,aw,ay]at hK |-;go_simp;refine hK _ _ (gQ.refl g bx W) ⟨by simpa[ar]using dp,by simpa[ar,gz]using hI2⟩ (λW2 h2=>rfl)
     refine gV.cons (λρ L W hR hI hL hD hO hF K hK=>?_) ?_
     ·have f9:=ag hF (j:=9) (by decide);have f10:=ag hF (j:=10) (by decide);obtain⟨dp,hI2⟩:=hI;have n6:bx<W.1.size:=ae hI2;have ew:g<W.1.size:=Nat.lt_of_lt_of_le dp.lt.1 dp.lt.2;clear hF hD hO hR;simp only[Act.put,ax,aw,ay]at hK |-;obtain⟨r,hr,e9⟩:=f9;have e10:ρ 10=Yl (Yr ⟨bx,1,Yq⟩):=f10;rw[e9,e10]at hK |-;have hfz:W.frozen? ⟨bx,1,Yq⟩=false:=bz hI2 1;have Ak:∃v,W.cell? ⟨bx,1,Yq⟩=Yr v:=⟨_,aj hI2 1⟩;obtain⟨v9,Ak⟩:=Ak;haveI:af bx W:=af.of n6;have iQ:=heap_setCell_same _ _ 1 _ _ (Yi (Eb tx r)) hI2;go_simp;refine hK undef _ (gQ.set g bx 1 W _) ⟨by simpa[ar]using dp.gb (cJ W ⟨bx,1,Yq⟩ _) (λx e=>by cases e;exact TL),?_⟩ (λW2 h2=>trivial);rw[iQ];simp[ar,gz,e9]
     exact gV.nil
    intro ρ L W hR hI hL hF;obtain⟨_,_,_,_,_,_,_,_,_,e9,_⟩:=hF;obtain⟨r,hr,e9⟩:=e9;obtain⟨dp,hI2⟩:=hI;rw[hL 11 (by decide)]at hI2;rw[hL 7 (by decide)]at dp;simp only[if_true]at dp hI2;rw[e9]at hI2;have XW:=hR.size;have Th:=aa (hR.gb (bK zv.out (show ac w1 w1.drew from(ac.refl _).drew)) hwx);have HOW:=aa (O4 (dV nD.out (show ac w1 w1.drew from(ac.refl _).drew)) hR (by omega) (λx hx=>by have:=L1 x hx;omega));have PM:=aa dp;have lR:=aa hI2;have XY:=R2 tx r;generalize Eb tx r=u at *;have d0:W.cell? ⟨bx,0,Yq⟩=Yr (Yh Yn 1):=by rw[aj lR.out];rfl
    have d1:W.cell? ⟨bx,1,Yq⟩=Yr (Yi u):=by rw[aj lR.out];rfl
    have d2:W.cell? ⟨bx,2,Yq⟩=Yr (Yh Yn id):=by rw[aj lR.out];rfl
    haveI:af bx W:=af.of (ae lR.out);have hsw:w.1.size<=W.1.size:=Th.out.size;clear hR dp hI2 hL nD zv wC;go_wp2_with fail;refine(ee.out A5 c5 t _ _ (1,u.1.1,id) HT.out.nm (by omega) ?_ hA5 (by omega) ?_ ?_).mono ?_
    ·have:=St.aC u;simp only;omega
    ·exact(aW HOW.out rfl).ai ((ac.refl _).alloc _)
    ·rw[<-bn u];exact eg _ _ _ _ _ (by simp) (by simp) (by simp) (by simp)
    rintro e w7 ⟨v7,rfl,cW,bM⟩
    have hrel:BG w B g P f v7 (Yh Yn ((k:Int)+1)) w7:=⟨k+1,_,by omega,congrArg (Yh Yn) (by omega),cH cW (by simp;omega),by
     rw[pJ.out]
     exact St.M1 HT.out rfl (by rw[St.aC];simp only;omega),((PM.out.ai ((ac.refl _).alloc _)).ai bM).le (by omega),bK Th.out (((ac.refl _).alloc _).trans bM)⟩
    have br:=aa hrel;clear hrel cW bM;go_wp2;exact⟨br.out,by simp[intOf];omega⟩
   have z3:(kd==1)=false:=by simpa using cN
   have wC:=aa (HG.out.ai ((ac.refl wr).alloc (Yo #[Yh Yn kd,Yi tx,Yh Yn id] 36)));have zv:=aa (bK HK.out ((ac.refl wr).alloc (Yo #[Yh Yn kd,Yi tx,Yh Yn id] 36)));have nD:=aa (HO.out.alloc (Yo #[Yh Yn kd,Yi tx,Yh Yn id] 36));have hsa:wr.1.size<(wr.alloc (Yo #[Yh Yn kd,Yi tx,Yh Yn id] 36)).1.size:=by simp
   clear HG HK HO cZ;go_wp2_with fail;clear c0 c1 c2;generalize wr.alloc (Yo #[Yh Yn kd,Yi tx,Yh Yn id] 36)=w1 at *;obtain⟨bx,hbxe⟩:∃bx,bx=wr.1.size:=⟨_,rfl⟩;rw[<-hbxe]at mF hsa L1 |-;have hgx:g≠bx:=by omega
   have hwx:w.1.size<=bx:=by omega
   have TL:B<=bx:=by omega
   clear hbxe;refine(bR B g _ 3 _ wC.out (by omega) (by omega) (by omega)).mono ?_;rintro e w2 ⟨r,rfl,hr,hG2,hk2⟩;have HG2:=aa hG2;have fX:=aa (aO zv.out hk2 (λ_ e=>.inl e));have jZ:=aa (eA nD.out hk2 (by omega));have pD:=aa ((hk2.block bx hsa (by simp;omega)).trans mF.out);have hs2:=hk2.size;clear hG2 hk2 wC zv nD mF;have d0:w2.cell? ⟨bx,0,Yq⟩=Yr (Yh Yn kd):=by rw[aj pD.out];rfl
   have d1:w2.cell? ⟨bx,1,Yq⟩=Yr (Yi tx):=by rw[aj pD.out];rfl
   have d2:w2.cell? ⟨bx,2,Yq⟩=Yr (Yh Yn id):=by rw[aj pD.out];rfl
   haveI:af bx w2:=af.of (ae pD.out);have hsw:w.1.size<=w2.1.size:=fX.out.size
   by_cases sP:r=0
   ·subst sP;clear d0 d1 d2;go_wp2_with fail;refine(vH B g _ 2 _ HG2.out (by omega) (by omega)).mono ?_;rintro e w3 ⟨u,rfl,kg,hG3,hk3⟩;have ix:=aa hG3;have fH:=aa (aO fX.out hk3 (λ_ e=>.inl e));have fo:=aa (eA jZ.out hk3 (by omega));have pE:=aa ((hk3.block bx (ae pD.out) (by simp;omega)).trans pD.out);have hs3:=hk3.size;have mN:=St.aC u;clear hG3 hk3 HG2 fX jZ pD;go_wp2_with fail;refine(ee.out A5 c5 t _ _ (1,u.1.1,0) HT.out.nm (by omega) ?_ hA5 (by omega) ?_ ?_).mono ?_
    ·simp only;omega
    ·exact(aW fo.out rfl).ai ((ac.refl _).alloc _)
    ·rw[<-bn u];exact eg _ _ _ _ _ (by simp) (by simp) (by simp) (by simp)
    rintro e w4 ⟨v4,rfl,jz,bf⟩;have C2:ac w3 w4:=ac.trans ((ac.refl _).alloc _) bf;have eL:=aa (ix.out.ai C2);have dm:=aa (bK fH.out C2);have Nj:=aa ((C2.below.block bx (ae pE.out)).trans pE.out);have iA:=aa (cH jz (by simp;omega):w4.ownsRow w.1.size 36 3 v4 _ _);obtain⟨A4,c4,rfl,hc41,_,hA4⟩:=aR jz;have a1:=(St.gL t (1,u.1.1,0)).1;have a2:=gW t (1,u.1.1,0);simp only at a2;have hs4:=C2.size;clear jz bf C2 ix fH fo pE;have d0:w4.cell? ⟨bx,0,Yq⟩=Yr (Yh Yn kd):=by rw[aj Nj.out];rfl
    have d1:w4.cell? ⟨bx,1,Yq⟩=Yr (Yi tx):=by rw[aj Nj.out];rfl
    have d2:w4.cell? ⟨bx,2,Yq⟩=Yr (Yh Yn id):=by rw[aj Nj.out];rfl
    haveI:af bx w4:=af.of (ae Nj.out);have Wg:=St.eH HT.out.nm (1,u.1.1,0);have VX:=aa (St.M0 (n:=12) HT.out (x:=(kd,u7,id)) cN (u:=u.1.1) (by omega));generalize St.aL t (1,u.1.1,0)=t4 at *;go_wp2_with fail;refine(ee.out A4 c4 t4 _ _ (kd,u7,id) Wg (by omega) ?_ hA4 hc41 ?_ ?_).mono ?_
    ·simp only;omega
    ·exact(aW iA.out rfl).ai ((ac.refl _).alloc _)
    ·rw[<-hst,<-bn tx];exact eg _ _ _ _ _ (by simp) (by simp) (by simp) (by simp)
    rintro e w7 ⟨v7,rfl,cW,bM⟩
    have hrel:BG w B g P f v7 (Yh Yn ((k:Int)+1)) w7:=⟨k+1,_,by omega,congrArg (Yh Yn) (by omega),cH cW (by simp;omega),by
     rw[pJ.out];exact VX.out,((eL.out.ai ((ac.refl _).alloc _)).ai bM).le (by omega),bK dm.out (((ac.refl _).alloc _).trans bM)⟩
    have br:=aa hrel;clear hrel cW bM;go_wp2;exact⟨br.out,by simp[intOf];omega⟩
   have z4:((r:Int)==0)=false:=by simp;omega
   go_wp2_with fail;refine(ee.out A5 c5 t _ _ (kd,u7,id) HT.out.nm (by omega) ?_ hA5 (by omega) ?_ ?_).mono ?_
   ·simp only;omega
   ·exact(aW jZ.out rfl).ai ((ac.refl _).alloc _)
   ·rw[<-hst,<-bn tx];exact eg _ _ _ _ _ (by simp) (by simp) (by simp) (by simp)
   rintro e w7 ⟨v7,rfl,cW,bM⟩
   have hrel:BG w B g P f v7 (Yh Yn ((k:Int)+1)) w7:=⟨k+1,_,by omega,congrArg (Yh Yn) (by omega),cH cW (by simp;omega),by
    rw[pJ.out];exact St.K1 HT.out cN,((HG2.out.ai ((ac.refl _).alloc _)).ai bM).le (by omega),bK fX.out (((ac.refl _).alloc _).trans bM)⟩
   have br:=aa hrel;clear hrel cW bM;go_wp2;exact⟨br.out,by simp[intOf];omega⟩
  have hkn:k=f.length:=by omega
  have z1:¬(k:Int)<(n:Int):=by omega
  have hft:f.take k=f:=List.take_of_length_le (by omega);rw[hft]at hT;obtain⟨A5,c5,rfl,_,_,hA5⟩:=aR hown;have HE:=aa (show pM w B g P f (Yp (Yj A5 t.length c5)) wr from⟨_,t,rfl,HO.out,by rw[<-hkn];exact hT,by rw[<-hkn];exact HG.out,HK.out⟩);clear hown hT hI hkk hft HG HO HK HT;go_wp2;go_ret;exact HE.out
end
section
namespace St
def CA:Int->List (Int × Int)->Int
 | x,[]=>x
 | _,r :: rs=>CA r.2 rs
theorem Cl{N:Nat}{r:Int × Int}:∀(rs:List (Int × Int)) (x:Int),dd N x rs=true->CA x rs<=r.1->r.1<=r.2->r.2<=N->dd N x (rs++[r])=true/\CA x (rs++[r])=r.2
 | [],x,_,h1,h2,h3=>by
  simp only[CA]at h1;refine⟨?_,rfl⟩;rw[List.nil_append,dd,if_neg (by omega)];rfl
 | q :: rs,x,h,h1,h2,h3=>by
  rw[dd]at h
  split at h
  ·cases h
  rename_i hn
  obtain⟨g1,g2⟩:=Cl rs q.2 h h1 h2 h3;refine⟨?_,g2⟩;rw[List.cons_append,dd,if_neg hn];exact g1
def qn(f:List It):List (Int × Int)->List (List It)->Prop
 | r :: rs,t :: ts=>ld (aY r.1.toNat r.2.toNat 0 f) t (12*(aY r.1.toNat r.2.toNat 0 f).length)/\qn f rs ts
 | [],[]=>True
 | _,_=>False
theorem CE{f:List It}{r:Int × Int}{t:List It}(hr:ld (aY r.1.toNat r.2.toNat 0 f) t (12*(aY r.1.toNat r.2.toNat 0 f).length)):∀(rs:List (Int × Int)) (ts:List (List It)),qn f rs ts->qn f (rs++[r]) (ts++[t])
 | [],[],_=>⟨hr,trivial⟩
 | q :: rs,u :: ts,h=>⟨h.1,CE hr rs ts h.2⟩
 | [],_ :: _,h=>h.elim
 | _ :: _,[],h=>h.elim
theorem qn.fits{f:List It}:∀ {rs:List (Int × Int)} {ts:List (List It)},qn f rs ts->Fits f rs ts
 | [],[],_=>trivial
 | q :: rs,u :: ts,h=>⟨h.1.fit,qn.fits h.2⟩
 | [],_ :: _,h=>h.elim
 | _ :: _,[],h=>h.elim
end St
theorem Hl:(Tryz.prog.info? 33).map (λi=>(i.zero,i.size,i.bytes))=some (some (.agg #[.int .i64 0,.int .i64 0]),2,16):=by kernel_rfl
theorem xE:(Tryz.prog.info? 37).map (λi=>(i.zero,i.size,i.bytes))=some (some (.slice none 0 0),1,24):=by kernel_rfl
def oO(rs:List (Int × Int)):List Value:=rs.flatMap λr=>[Yh Yn r.1,Yh Yn r.2]
theorem Ee(rs:List (Int × Int))(r:Int × Int):oO (rs++[r])=oO rs++[Yh Yn r.1,Yh Yn r.2]:=by simp[oO]
theorem zN:∀(rs:List (Int × Int)) (j:Nat) (h:j<rs.length),(oO rs)[j*2]?=Yr (Yh Yn rs[j].1)/\(oO rs)[j*2+1]?=Yr (Yh Yn rs[j].2)
 | r :: rs,0,_=>⟨rfl,rfl⟩
 | r :: rs,j+1,h=>by
  have:=zN rs j (by simpa using h)
  have e:(j+1)*2=j*2+2:=by omega
  have e2:(j+1)*2+1=j*2+1+2:=by omega
  exact⟨by rw[e];exact this.1,by rw[e2];exact this.2⟩
theorem Ib{w:Ys}{B n c:Nat}{A:Option Addr}{rs:List (Int × Int)}(h:w.ownsRow B 33 2 (Yj A n c) n (oO rs))(hn:rs.length=n):eQ w A rs:=by
 intro h0;obtain⟨g,rfl,_,hg,hc⟩:=dU h (by omega);refine⟨g,0,rfl,hg,λj hj=>?_⟩;obtain⟨a,b⟩:=zN rs j hj;rw[Nat.zero_add];exact⟨hc _ _ a,hc _ _ b⟩
def oM(B:Nat)(W:Ys)(vs:List Value)(ts:List (List St.It)):Prop:=vs.length=ts.length/\∀(j:Nat) (h:j<vs.length) (h':j<ts.length),W.ownsRow B 36 3 vs[j] ts[j].length (ak ts[j])
theorem Pw(B:Nat)(W:Ys):oM B W [] []:=⟨rfl,λj h=>by simp at h⟩
theorem MZ{B:Nat}{W:Ys}{vs:List Value}{ts:List (List St.It)}(h:oM B W vs ts){v:Value}{t:List St.It}(ho:W.ownsRow B 36 3 v t.length (ak t)):oM B W (vs++[v]) (ts++[t]):=by
 refine⟨by simp[h.1],λj hj hj'=>?_⟩
 by_cases hlt:j<vs.length
 ·rw[List.getElem_append_left hlt,List.getElem_append_left (by rw[<-h.1];exact hlt)];exact h.2 j hlt _
 have hl:=h.1;have:j=vs.length:=by simp at hj;omega
 subst this;simp only[List.getElem_append_right (Nat.le_refl _),Nat.sub_self,List.getElem_cons_zero]
 have e:(ts++[t])[vs.length]'(by simp;omega)=t:=by
  rw[List.getElem_append_right (by omega)];simp[hl]
 rw[e];exact ho
theorem wh{B:Nat}{W W':Ys}{vs:List Value}{ts:List (List St.It)}(h:oM B W vs ts)(hk:∀v n xs,W.ownsRow B 36 3 v n xs->W'.ownsRow B 36 3 v n xs):oM B W' vs ts:=⟨h.1,λj hj hj'=>hk _ _ _ (h.2 j hj hj')⟩
theorem R3{w:Ys}{B n c:Nat}{A:Option Addr}{vs:List Value}{ts:List (List St.It)}(h:w.ownsRow B 37 1 (Yj A n c) n vs)(hn:vs.length=n)(ht:oM B w vs ts):gJ w A ts:=by
 intro h0;have hl:=ht.1;obtain⟨g,rfl,_,hg,hc⟩:=dU h (by omega);refine⟨g,0,rfl,hg,λj hj=>?_⟩;have hj':j<vs.length:=by omega
 have ho:=ht.2 j hj' hj;obtain⟨A',c',e,h1,h2,h3⟩:=aR ho;have JL:=hc j vs[j] (List.getElem?_eq_getElem hj');rw[e]at ho JL;exact⟨A',c',by rw[Nat.zero_add];exact JL,aW ho rfl,h1,by unfold maxLen at h2;omega,h3⟩
theorem RU(w2:Ys)(x y:Value)(e:TypeId)(b:Nat)(hb:b=w2.1.size):∀j u,[x,y][j]?=Yr u->(w2.alloc (Yo #[x,y] e)).cell? ((⟨b,0,Yq⟩:Addr).add j)=Yr u:=by
 subst hb;intro j u h
 match j,h with
 | 0,h=>simp at h;subst h;exact World.cell?_alloc_at _ _ _ _ rfl
 | 1,h=>simp at h;subst h;exact World.cell?_alloc_at _ _ _ _ rfl
 | j+2,h=>simp at h
theorem lN{w w':Ys}{B e e' size size' n n':Nat}{v v':Value}{xs xs':List Value}(h:w.ownsRow B e size v n xs)(h':w.ownsRow B e' size' v' n' xs')(hne:e≠e')(k:w.grownBy w' v'.ownBlock):w'.ownsRow B e size v n xs:=by
 refine h.kept k ?_;rcases da h h' hne with e|e
 ·exact .inl e
 exact .inr e
structure SO (w:Ys) (B g P:Nat) (kB:Bool) (f:List St.It) (rs:List (Int × Int)) (ts:List (List St.It)) (a k:Nat) (s8 s9:Value) (vs:List Value) (wr:Ys):Prop where
 o8:wr.ownsRow w.1.size 33 2 s8 rs.length (oO rs)
 o9:wr.ownsRow w.1.size 37 1 s9 vs.length vs
 tg:oM w.1.size wr vs ts
 ln:rs.length=k/\vs.length=k
 asc:St.dd (St.aA f) 0 rs=true
 en:St.CA 0 rs=a
 al:a<=St.aA f
 fit:kB=false->St.qn f rs ts
 bd:∀t∈ts,t.length<=2*f.length+6/\aV t<=aV f+12*f.length+69
 gen:bp wr B g (P+1+(7*f.length+40)*k)
 gb:w.grownBy wr (Yr g)
def NE(w:Ys)(B g P:Nat)(kB:Bool)(f:List St.It)(s8 s9 db s12:Value)(wr:Ys):Prop:=
 ∃(i k a:Nat) (rs:List (Int × Int)) (ts:List (List St.It)) (vs:List Value),s12=Yh Yn i/\db=Yh Yn a/\k+i<=3/\SO w B g P kB f rs ts a k s8 s9 vs wr
def ND(w:Ys)(B g P:Nat)(kB:Bool)(f:List St.It)(e:Ending)(w':Ys):Prop:=
 ∃(Ar At:Option Addr) (cr ct:Nat) (rs:List (Int × Int)) (ts:List (List St.It)),e=Yp (.tuple #[Yj Ar rs.length cr,Yj At ts.length ct])/\eQ w' Ar rs/\gJ w' At ts/\rs.length=ts.length/\rs.length<=3/\rs.length<=cr/\ts.length<=ct/\cr<=9223372036854775807/\ct<=9223372036854775807 /\
  St.dd (St.aA f) 0 rs=true/\(kB=false->St.qn f rs ts)/\(∀t∈ts,t.length<=2*f.length+6/\aV t<=aV f+12*f.length+69)/\w.grownBy w' (Yr g)
def NC(w wr:Ys)(B g Q:Nat)(kB:Bool)(f x:List St.It)(nT:Value)(wx:Ys):Prop:=
 ∃t:List St.It,wx.ownsRow w.1.size 36 3 nT t.length (ak t)/\(kB=false->St.ld x t (12*x.length))/\t.length<=2*f.length+6/\aV t<=aV f+12*f.length+69/\bp wx B g (Q+7*f.length+35)/\wr.grownBy wx (Yr g)
theorem H6(B g P n c:Nat)(kB:Bool)(A:Option Addr)(f:List St.It)(w:Ys)(hG:bp w B g P)(hP:P<=1000)(hn:f.length=n)(h:aH w A f)(hne:0<n->∀b off,A=Yr ⟨b,off,Yq⟩->b≠g)(hl:n<=512)(ht:aV f<=1500000)
  (TO:kB=true->∀(Q:Nat) (ns:Bool) (W:Ys),bp W B g Q->Q<=50000->Calls Tryz.prog 66 #[Yl (Yr ⟨g,0,Yq⟩),Yh Yn 3,Yk true,Yk ns] W λe w'=>∃(v:Value) (t:List St.It),e=Yp v/\w'.ownsRow W.1.size 36 3 v t.length (ak t)/\t.length<=6/\aV t<=69/\bp w' B g (Q+28)/\W.grownBy w' (Yr g)) :
  Calls Tryz.prog 30 #[Yl (Yr ⟨g,0,Yq⟩),Yj A n c,Yk kB] w (ND w B g P kB f):=by
 have HG:=aa hG;have H:=aa h;have HN:=aa hn;have iy:=aa hne;have VB:=aa TO;obtain⟨ka,hB⟩:=hG.lt;have hll:=gM f;have hlen:=la A n c f w hn h (by omega) (by omega);obtain⟨i8,h8a,h8b,h8c,h8d⟩:=info_parts Hl;obtain⟨i9,h9a,h9b,h9c,h9d⟩:=info_parts xE;obtain⟨N,hNl⟩:∃N,N=St.aA f:=⟨_,rfl⟩;rw[<-hNl]at hll hlen;have HLEN:=aa hlen;have EU:=aa hNl;clear hG h hn hne TO hlen hNl;go_enter Tryz.func30,Tryz.ntmps30;go_wp2_with fail;refine HLEN.out.mono ?_;rintro e w1 ⟨rfl,rfl⟩;go_wp2_with fail;refine(bR B g P 4 _ HG.out (by omega) (by omega) (by omega)).mono ?_;rintro e w2 ⟨r,rfl,hr,hG2,hk2⟩;have HG2:=aa hG2;have fX:=aa hk2;clear hG2 hk2 HG HLEN;go_wp2_with fail;go_loopw [8,9,10,12] (λs8 s9 db s12 wr=>NE w B g P kB f s8 s9 db s12 wr) (λ_ _ _ s12 _=>(intOf s12).toNat)
 case atStart=>exact⟨r,0,0,[],[],[],rfl,rfl,by omega,World.ownsRow_nil _ _ _ _,World.ownsRow_nil _ _ _ _,Pw _ _,⟨rfl,rfl⟩,rfl,rfl,by omega,(λ_=>trivial),(λt ht=>by cases ht),by simpa using HG2.out,fX.out⟩
 case round=>
  clear HG2 fX;obtain⟨i,k,a,rs,ts,vs,rfl,rfl,hki,hI⟩:=hrel;have HI:=aa hI;have hal:=hI.al;rw[<-EU.out]at hal;have hsz:=hI.gb.size;have sN:=hI.ln;have hN:=HN.out;have XL:(7*f.length+40)*k<=(7*f.length+40)*3:=Nat.mul_le_mul (Nat.le_refl _) (by omega);clear hI
  by_cases hi:0<i
  ·have z:(0:Int)<(i:Int):=by omega
   go_wp2_with fail;refine(bR B g _ ((N:Int)-(a:Int)+1) _ HI.out.gen (by omega) (by omega) (by omega)).mono ?_;rintro e w3 ⟨r1,rfl,hr1,hG3,hk3⟩;have ix:=aa hG3;have fH:=aa hk3;obtain⟨p,hp⟩:∃p:Nat,p=a+r1:=⟨_,rfl⟩;have hap:(a:Int)+(r1:Int)=(p:Int):=by omega
   have XP:p<=N:=by omega
   have Xc:a<=p:=by omega
   clear hG3 hk3 hp hr1;go_wp2_with fail;refine(bR B g _ ((N:Int)-(p:Int)+1) _ ix.out (by omega) (by omega) (by omega)).mono ?_;rintro e w4 ⟨r2,rfl,hr2,hG4,hk4⟩;have eL:=aa hG4;have dm:=aa (aO fH.out hk4 (λ_ e=>.inl e));obtain⟨q,hq⟩:∃q:Nat,q=p+r2:=⟨_,rfl⟩;have mm:(p:Int)+(r2:Int)=(q:Int):=by omega
   have XQ:q<=N:=by omega
   have U9:p<=q:=by omega
   clear hq hr2;have TQ:=AA H.out (aO HI.out.gb dm.out (λ_ e=>.inl e)) (λh0=>iy.out (by have:=HN.out;omega));have hs4:=dm.out.size;have hsl:=sl A n c f p q w4 HN.out TQ (by omega) (by omega) U9 (by have:=EU.out;omega);have bm:=aa hsl;clear hG4 hk4 ix fH hsl TQ;go_wp2_with fail;refine bm.out.mono ?_;rintro e w5 ⟨v5,rfl,dC,bg⟩;have hxl:=rq p q f 0;have XZ:=rz p q f 0;obtain⟨A5,c5,rfl,_,_,_⟩:=aR dC;have nL:=aW dC rfl;have hnb:=λb off (e:A5=Yr ⟨b,off,Yq⟩)=>(show w4.1.size<=b from aB dC b (by rw[e];rfl))
   have jO:=aa (eL.out.ai bg);have oF:=aa (bK dm.out bg);have hs5:=bg.size;have hfit:St.aY p q 0 f=St.aY ((p:Int).toNat) ((q:Int).toNat) 0 f:=by rw[Int.toNat_natCast,Int.toNat_natCast]
   have mG:=aa hfit;generalize St.aY p q 0 f=x at *;have EP:=aa nL;have Tl:=aa hnb;clear dC bg bm nL hnb hfit eL dm;go_wp2_with fail;refine(ID B g _ x.length c5 A5 x w5 jO.out (by omega) rfl EP.out (λ_ b off e=>by have:=Tl.out b off e;omega) (by omega) (by omega)).mono ?_;rintro e w6 ⟨v6,t,rfl,pe,hT,NR,Ft⟩;have qI:=aa (NR.le (Q:=P+1+(7*f.length+40)*k+2+7*f.length) (by omega));have wF:=aa (aO oF.out Ft (λ_ e=>.inl e));have EW:=aa (cH pe (by omega):w6.ownsRow w.1.size 36 3 v6 t.length (ak t));have QP:=hT.len;have XE:=hT.aV;have HT:=aa hT;have J1:=wF.out.size;clear pe hT NR Ft jO oF EP Tl;go_upto_region 11 with fail;go_cut [57]from 22 to 73 (λWO wx=>∃b:Bool,WO=Yk b/\(b=true->kB=true)/\bp wx B g (P+1+(7*f.length+40)*k+2+7*f.length+1)/\w6.grownBy wx (Yr g))
   case first=>
    cases kB
    ·go_wp2;go_meet;exact⟨false,rfl,(λe=>by cases e),qI.out.le (by omega),bA _ _⟩
    go_wp2_with fail;refine(bR B g _ 3 _ qI.out (by omega) (by omega) (by omega)).mono ?_;rintro e w7 ⟨r3,rfl,hr3,hG7,hk7⟩;have HE:=aa (And.intro hG7 hk7);clear hG7 hk7;go_wp2;go_meet;exact⟨_,rfl,(λ_=>by first|rfl|trivial),HE.out.1.le (by omega),HE.out.2⟩
   case rest=>
   obtain⟨b,rfl,QY,hG7,hk7⟩:=hcut;have wD:=aa hG7;have IT:=aa (aO wF.out hk7 (λ_ e=>.inl e));have Tn:=aa (eA EW.out hk7 (by omega));have PF:=aa QY;have XV:=IT.out.size;clear hG7 hk7 qI wF EW QY;go_upto_if 57 with fail;go_cut [17]from 22 to 73 (λnT wx=>NC w wr B g (P+1+(7*f.length+40)*k) kB f x nT wx)
   case first=>
    cases b
    ·go_wp2;go_meet;exact⟨t,Tn.out,λ_=>HT.out,by omega,by omega,wD.out.le (by omega),IT.out⟩
    obtain rfl:=PF.out rfl;go_wp2_with fail;refine(bR B g _ 2 _ wD.out (by omega) (by omega) (by omega)).mono ?_;rintro e w8 ⟨r4,rfl,hr4,hG8,hk8⟩;have Np:=aa hG8;have Tf:=aa (aO IT.out hk8 (λ_ e=>.inl e));have Wr:=Tf.out.size;have hfr:=λns=>VB.out (by first|rfl|trivial) _ ns _ Np.out (by omega)
    have VA:=aa hfr;clear hG8 hk8 wD IT hfr;go_wp2_with fail;refine(VA.out _).mono ?_;rintro e w9 ⟨v9,t9,rfl,sO,q1,q2,hG9,hk9⟩;have HE:=aa (show NC w wr B g (P+1+(7*f.length+40)*k) true f x v9 w9 from⟨t9,cH sO (by omega),(λe=>by cases e),by omega,by omega,hG9.le (by omega),aO Tf.out hk9 (λ_ e=>.inl e)⟩);clear sO hG9 hk9;go_wp2;go_meet;exact HE.out
   case rest=>
    obtain⟨t,ho,hT,htl,q6,hG,hk⟩:=hcut;have HO:=aa ho;have Qd:=aa hT;have HG:=aa hG;have HK:=aa hk;have lT:=aa (eA HI.out.o8 hk (by omega));have pI:=aa (eA HI.out.o9 hk (by omega));have dR:=aa (wh HI.out.tg (λv m xs h=>eA h hk (by omega)));have PK:=aa (aO HI.out.gb hk (λ_ e=>.inl e));have pi:=PK.out.size;have pf:rs.length<=3:=by omega
    have XU:vs.length<=3:=by omega
    clear ho hT hG hk Tn HT wD IT;obtain⟨M7,c17,rfl,_,_,_⟩:=aR HO.out;go_wp2_with (at_builtin;refine wpList_append_own _ rfl _ _ 34 rfl w.1.size 33 i8 (.agg #[.int .i64 0,.int .i64 0]) 2 16 Tryz.underlying34 h8a h8b h8c h8d rfl (by decide) _ rs.length _ rfl (lT.out.alloc _) _ 1 1 [.int .i64 (p:Int),.int .i64 (q:Int)] rfl rfl ?qa1 ?qa2 (by unfold maxLen;omega) (by omega) ?qa3 ?_)
    case qa1=>exact RU _ _ _ _ _ rfl
    case qa2=>intro u hu;simp only[List.mem_cons,List.not_mem_nil,or_false]at hu;rcases hu with rfl|rfl<;>rfl
    case qa3=>simp;omega
    intro v8 w8 N4 qV _;have QV:=aB lT.out;have Np:=aa ((HG.out.ai ((ac.refl wc).alloc (.cells #[.int .i64 (p:Int),.int .i64 (q:Int)] 33))).gb qV (λx e=>by have:=QV x e;omega));have Le:=aa (aO (bK PK.out ((ac.refl wc).alloc (.cells #[.int .i64 (p:Int),.int .i64 (q:Int)] 33))) qV (λx e=>.inr (QV x e)));have yg:=aa (lN (pI.out.alloc _) (lT.out.alloc _) (by decide) qV);have P3:=aa (lN (HO.out.alloc _) (lT.out.alloc _) (by decide) qV);have Qa:=aa (wh dR.out (λv m xs h=>lN (h.alloc _) (lT.out.alloc _) (by decide) qV));have P1:=aa N4;have Wr:=Le.out.size;clear N4 qV QV HG HO lT pI dR PK;go_wp2_with (at_builtin;refine wpList_append_own _ rfl _ _ 38 rfl w.1.size 37 i9 (.slice none 0 0) 1 24 Tryz.underlying38 h9a h9b h9c h9d rfl (by decide) _ vs.length _ rfl (yg.out.alloc _) _ 1 1 [.slice M7 t.length c17] rfl rfl ?qb1 ?qb2 (by unfold maxLen;omega) (by omega) ?qb3 ?_)
    case qb1=>exact gy _ _ _
    case qb2=>intro u hu;simp only[List.mem_cons,List.not_mem_nil,or_false]at hu;rcases hu with rfl;rfl
    case qb3=>simp;omega
    intro v9 w9 N6 qW _;have xp:=aB yg.out;have Tb:=aa ((Np.out.ai ((ac.refl w8).alloc (Yo #[Yj M7 t.length c17] 37))).gb qW (λx e=>by have:=xp x e;omega));have PL:=aa (aO (bK Le.out ((ac.refl w8).alloc (Yo #[Yj M7 t.length c17] 37))) qW (λx e=>.inr (xp x e)));have P2:=aa (lN (P1.out.alloc _) (yg.out.alloc _) (by decide) qW);have P4:=aa (lN (P3.out.alloc _) (yg.out.alloc _) (by decide) qW);have Qb:=aa (wh Qa.out (λv m xs h=>lN (h.alloc _) (yg.out.alloc _) (by decide) qW))
    have hrel:NE w B g P kB f v8 v9 (Yh Yn (q:Int)) (Yh Yn ((i:Int)-1)) w9:=by
     have n3:=HI.out;have Wn:(7*f.length+40)*(k+1)=(7*f.length+40)*k+(7*f.length+40):=Nat.mul_succ _ _;obtain⟨g1,g2⟩:=St.Cl (r:=((p:Int),(q:Int))) rs 0 n3.asc (by rw[n3.en];simp only;omega) (by simp only;omega) (by simp only;have:=EU.out;omega);refine⟨i-1,k+1,q,rs++[((p:Int),(q:Int))],ts++[t],vs++[Yj M7 t.length c17],congrArg (Yh Yn) (by omega),rfl,by omega,?_⟩;refine⟨?_,?_,MZ Qb.out P4.out,by simp;omega,g1,g2,by have:=EU.out;omega,λe=>?_,λu hu=>?_,?_,PL.out⟩
     ·rw[Ee,List.length_append,sN.1];exact P2.out
     ·rw[List.length_append,sN.2];exact N6
     ·exact St.CE (by simp only;rw[<-mG.out];exact Qd.out e) rs ts (n3.fit e)
     ·rcases List.mem_append.1 hu with hu|hu
      ·exact n3.bd u hu
      simp at hu;subst hu;exact⟨htl,q6⟩
     rw[Wn];exact Tb.out.le (by omega)
    have br:=aa hrel;clear hrel N6 qW xp Np Le yg P3 Qa P1 Tb PL P2 P4 Qb;go_wp2
    first|exact⟨br.out,by simp[intOf];omega⟩|(refine⟨?_,by simp[intOf];omega⟩;(repeat apply Exists.intro);exact⟨br.out,rfl⟩)
  have z1:¬(0:Int)<(i:Int):=by omega
  have n3:=HI.out;obtain⟨Ar,cr,rfl,hr1,hr2⟩:=aJ n3.o8;obtain⟨At,ct,hse,ht1,ht2⟩:=aJ n3.o9;have T7:=n3.tg.1;have hte:vs.length=ts.length:=T7;rw[hte]at hse ht1;subst hse
  have HE:=aa (show ND w B g P kB f (Yp (.tuple #[Yj Ar rs.length cr,Yj At ts.length ct])) wr from
   ⟨Ar,At,cr,ct,rs,ts,rfl,Ib n3.o8 rfl,R3 (by have:=n3.o9;rw[<-hte]at this;exact this) rfl n3.tg,by omega,by omega,hr1,ht1,by unfold maxLen at hr2;omega,by unfold maxLen at ht2;omega,n3.asc,n3.fit,n3.bd,n3.gb⟩)
  have PI:=HE.out;rw[sN.1]at PI;have HE:=aa PI;clear n3 hr1 hr2 ht1 ht2 T7 HI PI;go_wp2;go_ret2;exact HE.out
end
