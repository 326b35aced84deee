/- The contract of the maker Target: the source's items with other texts. -/
import Derived.Test.YthoemdibbldndaaGreatDoorRpp
import Derived.Deep.CutRange
set_option linter.all false
set_option maxHeartbeats 0
set_option maxRecDepth 20000
open Go.Value renaming int->Yp,string->Yq,slice->Yr,bool->Ys,pointer->Yt
open Go.IntKind renaming i64->Yv
open Go.Obj renaming cells->Yw
open Go.Ending renaming returned->Yx
open Option renaming none->Yy,some->Yz
open Go renaming World->YA
namespace Go.Proofs.YthoemdibbldndaaGreatDoor
open Go.RowKit
section
namespace St
structure ll (f t:List It) (e:Nat):Prop where
 nm:Nm t
 fit:b6 t=b6 f
 len:t.length<=2*f.length
 aY:aY t<=aY f+e
 pos:aA t<=aA f+e
theorem P9:ll [] [] 0:=⟨nQ,rfl,by simp,by simp,by simp⟩
theorem ql(f:List It)(x:It):b6 (aK f x)=b6 f++b6 [x]:=by
 rw[<-dX,Er,kp,dX,dX]
theorem Bz(u:List UInt8)(i:Int):b6 [(1,u,i)]=[]:=by simp[b6]
theorem NL{f t:List It}{e n:Nat}{x:It}(h:ll f t e)(hx:x.1=1){u:List UInt8}(hu:u.length<=x.2.1.length+n):ll (f++[x]) (aK t (1,u,x.2.2)) (e+n):=by
 have h1:=(gN t (1,u,x.2.2)).1;have h2:=ik t (1,u,x.2.2);have h3:=pw t (1,u,x.2.2);have hw:aV x=x.2.1.length:=by unfold aV;rw[if_pos hx]
 refine⟨eJ h.nm _,?_,?_,?_,?_⟩
 ·rw[ql,kp,Bz,h.fit];have:b6 [x]=[]:=by simp[b6,hx]
  rw[this]
 ·have:=h.len;simp;omega
 ·have:=h.aY;rw[cA];simp only at h2;omega
 have:=h.pos
 rw[gM,hw,h3];simp only[aV,if_true];omega
theorem NK{f t:List It}{e n:Nat}{x:It}(h:ll f t e)(hx:x.1≠1){u:List UInt8}(hu:u.length<=n):ll (f++[x]) (aK (aK t (1,u,0)) x) (e+n):=by
 have h1:=(gN t (1,u,0)).1;have h2:=ik t (1,u,0);have h3:=pw t (1,u,0);have k1:=(gN (aK t (1,u,0)) x).1;have k2:=ik (aK t (1,u,0)) x;have k3:=pw (aK t (1,u,0)) x;refine⟨eJ (eJ h.nm _) _,?_,?_,?_,?_⟩
 ·rw[ql,ql,kp,Bz,h.fit,List.append_nil]
 ·have:=h.len;simp;omega
 ·have:=h.aY;rw[cA];simp only at h2;omega
 have:=h.pos
 rw[gM,k3,h3];have:aV (1,u,0)=u.length:=by simp[aV]
 omega
theorem LQ{f t:List It}{e n:Nat}{x:It}(h:ll f t e)(hx:x.1≠1):ll (f++[x]) (aK t x) (e+n):=by
 have k1:=(gN t x).1;have k2:=ik t x;have k3:=pw t x;refine⟨eJ h.nm _,?_,?_,?_,?_⟩
 ·rw[ql,kp,h.fit]
 ·have:=h.len;simp;omega
 ·have:=h.aY;rw[cA];omega
 have:=h.pos;rw[gM,k3];omega
end St
structure gW (g h:Nat) (a b:YA):Prop where
 os:b.os=a.os
 tape:b.tape=a.tape
 output:b.output=a.output
 size:a.1.size<=b.1.size
 block:∀k,k<a.1.size->k≠g->k≠h->b.1[k]?=a.1[k]?
theorem gW.refl(g h:Nat)(a:YA):gW g h a a:=⟨rfl,rfl,rfl,Nat.le_refl _,λ_ _ _ _=>rfl⟩
theorem gW.trans{g h:Nat}{a b c:YA}(p:gW g h a b)(q:gW g h b c):gW g h a c:=
 ⟨q.os.trans p.os,q.tape.trans p.tape,q.output.trans p.output,Nat.le_trans p.size q.size,λk hk h1 h2=>(q.block k (Nat.lt_of_lt_of_le hk p.size) h1 h2).trans (p.block k hk h1 h2)⟩
theorem gW.of{g h:Nat}{a b:YA}(p:a.grownBy b (Yz g)):gW g h a b:=⟨p.os,p.tape,p.output,p.size,λk hk h1 _=>p.block k hk (λe=>h1 (by cases e;rfl))⟩
theorem gW.set(g h i:Nat)(a:YA)(v:Value):gW g h a (a.setCell ⟨h,i,Yy⟩ v):=by
 have k:=cH a ⟨h,i,Yy⟩ v;exact⟨k.os,k.tape,k.output,k.size,λj hj _ h2=>k.block j hj (λe=>h2 (by cases e;rfl))⟩
theorem gW.gb{g h:Nat}{a b w:YA}(p:gW g h a b)(k:w.grownBy a (Yz g))(hh:w.1.size<=h):w.grownBy b (Yz g):=
 ⟨p.os.trans k.os,p.tape.trans k.tape,p.output.trans k.output,Nat.le_trans k.size p.size,λj hj hne=>(p.block j (Nat.lt_of_lt_of_le hj k.size) (λe=>hne (by rw[e])) (by omega)).trans (k.block j hj hne)⟩
theorem gW.cell{g h:Nat}{a b:YA}(p:gW g h a b){q:Addr}(hq:q.block<a.1.size)(h1:q.block≠g)(h2:q.block≠h):b.cell? q=a.cell? q:=World.cell?_of_block (p.block _ hq h1 h2)
theorem PF{w w':YA}{B e size n g h:Nat}{v:Value}{xs:List Value}(ho:w.ownsRow B e size v n xs)(k:gW g h w w')(hg:g<B)(hh:∀x,v.ownBlock=Yz x->x≠h):w'.ownsRow B e size v n xs:=
 ⟨ho.1,ho.2.imp id λ⟨b,cap,cur,h1,h2,h3,h4⟩=>⟨b,cap,cur,h1,h2,by rw[k.block b (ae h3) (by omega) (hh b (by rw[h1];rfl))];exact h3,h4⟩⟩
def E2(tx:ByteArray)(r:Nat):ByteArray:=if r=0 then⟨#[114,111,116]⟩else if r=1 then⟨#[100,97,115,32,65,117,116,111]⟩else if r=2 then⟨#[]⟩else if r=3 then⟨#[101,105,110,32]⟩++tx else tx
theorem Sq(tx:ByteArray)(r:Nat):(E2 tx r).size<=tx.size+8:=by
 unfold E2
 split
 ·show 3<=_;omega
 split
 ·show 8<=_;omega
 split
 ·show 0<=_;omega
 split
 ·rw[ByteArray.size_append];show 4+_<=_;omega
 omega
def Cm(w:YA)(B g P:Nat)(f:List St.It)(s5 dy:Value)(wr:YA):Prop:=
 ∃(k:Nat) (t:List St.It),k<=f.length/\dy=Yp Yv k/\wr.ownsRow w.1.size 36 3 s5 t.length (ak t)/\St.ll (f.take k) t (12*k)/\bp wr B g (P+7*k)/\w.grownBy wr (Yz g)
def pT(w:YA)(B g P:Nat)(f:List St.It)(e:Ending)(w':YA):Prop:=∃(v:Value) (t:List St.It),e=Yx v/\w'.ownsRow w.1.size 36 3 v t.length (ak t)/\St.ll f t (12*f.length)/\bp w' B g (P+7*f.length)/\w.grownBy w' (Yz g)
def U1(B g Q bx:Nat)(tx:ByteArray)(id:Int)(ρ:Nat->Value)(L:Nat->Bool)(W:YA):Prop:=
 bp W B g (Q+if L 7 then 1 else 0)/\W.1[bx]?=Yz (Yw #[Yp Yv 1,if L 11 then ρ 9 else Yq tx,Yp Yv id] 36)
theorem Bq{w w':YA}{A:Option Addr}{f:List St.It}{g:Nat}(h:aJ w A f)(k:w.grownBy w' (Yz g))(hne:0<f.length->∀b off,A=Yz ⟨b,off,Yy⟩->b≠g):aJ w' A f:=λh0=>Bp h k (hne h0) h0
theorem LL{α:Type}(f:List α)(k:Nat)(h:k<f.length):f.take (k+1)=f.take k++[f[k]]:=by rw[List.take_add_one,List.getElem?_eq_getElem h];rfl
theorem Jl(B g P n c:Nat)(A:Option Addr)(f:List St.It)(w:YA)(hG:bp w B g P)(hP:P<=100000)(hn:f.length=n)(h:aJ w A f)(hne:0<n->∀b off,A=Yz ⟨b,off,Yy⟩->b≠g)(hl:n<=600)(ht:aY f<=2000000) :
  Calls Tryz.prog 65 #[Yt (Yz ⟨g,0,Yy⟩),Yr A n c] w (pT w B g P f):=by
 have HG:=aa hG;have H:=aa h;have HN:=aa hn;have gK:=aa hne;obtain⟨kg,hB⟩:=hG.lt;clear hG h hn hne;go_enter Tryz.func65,Tryz.ntmps65;go_wp2_with fail;go_loopw [5,10] (λs5 dy wr=>Cm w B g P f s5 dy wr) (λ_ dy _=>n+1-(intOf dy).toNat)
 case atStart=>exact⟨0,[],by omega,rfl,World.ownsRow_nil _ _ _ _,by simpa using St.P9,HG.out,bC _ _⟩
 case round=>
  clear HG;obtain⟨k,t,hk,rfl,hown,hT,hG,hkk⟩:=hrel;have HG:=aa hG;have HK:=aa hkk;have HO:=aa hown;have HT:=aa hT;have hN:=HN.out;have hI:=Bq H.out hkk (λh0=>gK.out (by have:=HN.out;omega));have zG:=hkk.size;clear hG
  by_cases hlt:k<n
  ·have aO:k<f.length:=by omega
   obtain⟨b,off,rfl,hb,hc⟩:=hI (by omega);obtain⟨c0,c1,c2⟩:=hc k aO;have hbg:=gK.out (by omega) b off rfl;have htk:=LL f k aO;have rv:=jB f k aO;have htl:=fO f (k+1);have hlen:=hT.len;have X8:=hT.aY;have vt:(f.take k).length=k:=by rw[List.length_take];omega
   rw[vt]at hlen;generalize f[k]=x at c0 c1 c2 htk rv;obtain⟨kd,vJ,id⟩:=x;simp only at c0 c1 c2 rv;have n4:=aa htk;obtain⟨A5,c5,rfl,_,_,hA5⟩:=aW hown;have MP:∀x,(Yr A5 t.length c5).ownBlock=Yz x->x<wr.1.size:=λx hx=>(hown.lt x hx).2
   have hown':wr.ownsRow w.1.size 36 3 (Yr A5 t.length c5) t.length (ak t):=hown
   have kZ:∀(A':Option Addr) (c':Nat) (t':List St.It) (W:YA) (b:Nat) (x:St.It),St.Nm t'->t'.length<=5000->aY t'+x.2.1.length<=4611686018427387904->(A'=Yy->c'=0)->t'.length<=c'->aJ W A' t'->aJ W (Yz ⟨b,0,Yy⟩) [x]->Calls Tryz.prog 44 #[Yr A' t'.length c',Yr (Yz ⟨b,0,Yy⟩) 1 1] W λe w'=>∃v,e=Yx v/\w'.ownsRow W.1.size 36 3 v (St.aK t' x).length (ak (St.aK t' x))/\ac W w':=by
    intro A' c' t' W b x bh hl' ht' hA' hc' h h';have:=l5 A' t'.length c' t' (Yz ⟨b,0,Yy⟩) 1 1 [x] W rfl rfl (λe=>by have:=hA' e;omega) (λe=>by cases e) h h' (by omega) (by rw[cA];exact ht')
    rw[St.ek,bh]at this;exact this
   have eg:=aa kZ;have hst:(⟨vJ.toArray⟩:ByteArray).1.1=vJ:=by simp
   have hsz:(⟨vJ.toArray⟩:ByteArray).size=vJ.length:=by show vJ.toArray.size=_;simp
   generalize(⟨vJ.toArray⟩:ByteArray)=tx at c1 hst hsz;haveI:af b wr:=af.of hb;have z1:(k:Int)<(n:Int):=by omega
   have z2:¬(k:Int)<0:=by omega
   clear hc kZ hkk aO hown hT hI;have dj:=heap_alloc_new wr (Yw #[Yp Yv kd,Yq tx,Yp Yv id] 36);have mH:=aa dj
   by_cases dr:kd=1
   ·subst dr;have xf:=aa (HG.out.ai ((ac.refl wr).alloc (Yw #[Yp Yv 1,Yq tx,Yp Yv id] 36)));have Aj:=aa (bO HK.out ((ac.refl wr).alloc (Yw #[Yp Yv 1,Yq tx,Yp Yv id] 36)));have nD:=aa (HO.out.alloc (Yw #[Yp Yv 1,Yq tx,Yp Yv id] 36));have hsa:wr.1.size<(wr.alloc (Yw #[Yp Yv 1,Yq tx,Yp Yv id] 36)).1.size:=by simp
    clear HG HK HO dj;go_wp2_with fail;clear c0 c1 c2;generalize wr.alloc (Yw #[Yp Yv 1,Yq tx,Yp Yv id] 36)=w1 at *;obtain⟨bx,hbxe⟩:∃bx,bx=wr.1.size:=⟨_,rfl⟩;rw[<-hbxe]at mH hsa MP |-;have hgx:g≠bx:=by omega
    have hwx:w.1.size<=bx:=by omega
    have T4:B<=bx:=by omega
    clear hbxe;obtain⟨Q,hQ⟩:∃Q,Q=P+7*k:=⟨_,rfl⟩;rw[<-hQ]at xf;refine wW (λa b=>gW g bx a b) (λρ L W=>U1 B g Q bx tx id ρ L W) [λv _=>v=Yt (Yz ⟨bx,1,Yy⟩),λv _=>v=Yq tx,λv _=>v=Yq (⟨#[101,105,110,32]⟩++tx),λv _=>v=Yt (Yz ⟨bx,1,Yy⟩),λv _=>v=Yq tx,λv W=>∃b,v=Yr (Yz ⟨b,0,Yy⟩) 5 5/\b≠g/\b≠bx/\b<W.1.size/\∀r,r<5->W.cell? ⟨b,r,Yy⟩=Yz (Yq (E2 tx r)),λv _=>v=Yt (Yz ⟨g,0,Yy⟩),λv _=>∃r:Nat,r<5/\v=Yp Yv r,λv W=>∃b r,r<5/\v=Yt (Yz ⟨b,r,Yy⟩)/\b≠g/\b≠bx/\b<W.1.size/\W.cell? ⟨b,r,Yy⟩=Yz (Yq (E2 tx r)),λv _=>∃r:Nat,r<5/\v=Yq (E2 tx r),λv _=>v=Yt (Yz ⟨bx,1,Yy⟩),λ_ _=>True] (gW.refl g bx) (λa b c h k=>gW.trans h k) (by kernel_rfl) (by rfl) (by kernel_rfl) (by kernel_rfl) ?_ ?_ ?_ ?_ ?_;rotate_left 1
    ·intro ρ;simp only[cf,Act.put,ax,aw,ay,Nat.zero_add,Nat.reduceAdd];exact rfl
    ·intro ρ;exact⟨xf.out.ai ((ac.refl _).drew),mH.out⟩
    ·refine ie.cons (λρ L W hR hI hL hD hO hF K hK=>?_) ?_
     ·obtain⟨dp,hI2⟩:=hI;have ob:bx<W.1.size:=ae hI2;have ez:g<W.1.size:=Nat.lt_of_lt_of_le dp.lt.1 dp.lt.2;clear hF hD hO hR;simp only[Act.put,ax,aw,ay]at hK |-;go_simp;refine hK _ _ (gW.refl g bx W) ⟨by simpa[ar]using dp,by simpa[ar,gD]using hI2⟩ (λW2 h2=>rfl)
     refine ie.cons (λρ L W hR hI hL hD hO hF K hK=>?_) ?_
     ·have f0:=ag hF (j:=0) (by decide);have nn:L 11=false:=hD.not (p:=11) rfl (q:=9) (by decide) (hD.not (p:=9) rfl (q:=8) (by decide) (hD.not (p:=8) rfl (q:=5) (by decide) (hD.not (p:=5) rfl (q:=2) (by decide) (hD.not (p:=2) rfl (q:=1) (by decide) hL))));obtain⟨dp,hI2⟩:=hI;have ob:bx<W.1.size:=ae hI2;have ez:g<W.1.size:=Nat.lt_of_lt_of_le dp.lt.1 dp.lt.2;clear hF hD hO hR;simp only[Act.put,ax,aw,ay]at hK |-;have e0:ρ 0=Yt (Yz ⟨bx,1,Yy⟩):=f0;rw[e0]at hK |-;rw[nn]at hI2;have Ky:W.cell? ⟨bx,1,Yy⟩=Yz (Yq tx):=by rw[aj hI2];rfl
      haveI:af bx W:=af.of ob;go_simp;refine hK _ _ (gW.refl g bx W) ⟨by simpa[ar]using dp,by simpa[ar,gD,nn]using hI2⟩ (λW2 h2=>rfl)
     refine ie.cons (λρ L W hR hI hL hD hO hF K hK=>?_) ?_
     ·have f1:=ag hF (j:=1) (by decide);obtain⟨dp,hI2⟩:=hI;have ob:bx<W.1.size:=ae hI2;have ez:g<W.1.size:=Nat.lt_of_lt_of_le dp.lt.1 dp.lt.2;clear hF hD hO hR;simp only[Act.put,ax,aw,ay]at hK |-;have e1:ρ 1=Yq tx:=f1;rw[e1]at hK |-;have y1:¬9223372036854775807<4+vJ.length:=by omega
      go_simp;refine hK _ _ (gW.refl g bx W) ⟨by simpa[ar]using dp,by simpa[ar,gD]using hI2⟩ (λW2 h2=>rfl)
     refine ie.cons (λρ L W hR hI hL hD hO hF K hK=>?_) ?_
     ·obtain⟨dp,hI2⟩:=hI;have ob:bx<W.1.size:=ae hI2;have ez:g<W.1.size:=Nat.lt_of_lt_of_le dp.lt.1 dp.lt.2;clear hF hD hO hR;simp only[Act.put,ax,aw,ay]at hK |-;go_simp;refine hK _ _ (gW.refl g bx W) ⟨by simpa[ar]using dp,by simpa[ar,gD]using hI2⟩ (λW2 h2=>rfl)
     refine ie.cons (λρ L W hR hI hL hD hO hF K hK=>?_) ?_
     ·have f3:=ag hF (j:=3) (by decide);have nn:L 11=false:=hD.not (p:=11) rfl (q:=9) (by decide) (hD.not (p:=9) rfl (q:=8) (by decide) (hD.not (p:=8) rfl (q:=5) (by decide) (hD.not (p:=5) rfl (q:=4) (by decide) hL)));obtain⟨dp,hI2⟩:=hI;have ob:bx<W.1.size:=ae hI2;have ez:g<W.1.size:=Nat.lt_of_lt_of_le dp.lt.1 dp.lt.2;clear hF hD hO hR;simp only[Act.put,ax,aw,ay]at hK |-;have e3:ρ 3=Yt (Yz ⟨bx,1,Yy⟩):=f3;rw[e3]at hK |-;rw[nn]at hI2;have Ky:W.cell? ⟨bx,1,Yy⟩=Yz (Yq tx):=by rw[aj hI2];rfl
      haveI:af bx W:=af.of ob;go_simp;refine hK _ _ (gW.refl g bx W) ⟨by simpa[ar]using dp,by simpa[ar,gD,nn]using hI2⟩ (λW2 h2=>rfl)
     refine ie.cons (λρ L W hR hI hL hD hO hF K hK=>?_) ?_
     ·have f2:=ag hF (j:=2) (by decide);have f4:=ag hF (j:=4) (by decide);obtain⟨dp,hI2⟩:=hI;have ob:bx<W.1.size:=ae hI2;have ez:g<W.1.size:=Nat.lt_of_lt_of_le dp.lt.1 dp.lt.2;clear hF hD hO hR;simp only[Act.put,ax,aw,ay]at hK |-;have e2:ρ 2=Yq (⟨#[101,105,110,32]⟩++tx):=f2;have e4:ρ 4=Yq tx:=f4;rw[e2,e4]at hK |-;go_simp;refine hK _ _ (gW.of (((ac.refl W).alloc _).gb _)) ⟨by simpa[ar]using dp.ai ((ac.refl W).alloc _),by simpa[ar,gD]using(((ac.refl W).alloc _).below.block bx ob).trans hI2⟩ (λW2 h2=>⟨W.1.size,rfl,by omega,by omega,by have:=h2.size;simp at this;omega,λr hr=>?_⟩);rw[h2.cell (q:=⟨W.1.size,r,Yy⟩) (by simp) (by simp;omega) (by simp;omega),World.cell?_alloc_at _ _ _ _ rfl];rcases(show r=0\/r=1\/r=2\/r=3\/r=4 by omega)with h|h|h|h|h<;>subst h<;>rfl
     refine ie.cons (λρ L W hR hI hL hD hO hF K hK=>?_) ?_
     ·obtain⟨dp,hI2⟩:=hI;have ob:bx<W.1.size:=ae hI2;have ez:g<W.1.size:=Nat.lt_of_lt_of_le dp.lt.1 dp.lt.2;clear hF hD hO hR;simp only[Act.put,ax,aw,ay]at hK |-;go_simp;refine hK _ _ (gW.refl g bx W) ⟨by simpa[ar]using dp,by simpa[ar,gD]using hI2⟩ (λW2 h2=>rfl)
     refine ie.cons (λρ L W hR hI hL hD hO hF K hK=>?_) ?_
     ·have f6:=ag hF (j:=6) (by decide);obtain⟨dp,hI2⟩:=hI;have ob:bx<W.1.size:=ae hI2;have ez:g<W.1.size:=Nat.lt_of_lt_of_le dp.lt.1 dp.lt.2;clear hF hD hO hR;simp only[Act.put,ax,aw,ay]at hK |-;have e6:ρ 6=Yt (Yz ⟨g,0,Yy⟩):=f6;rw[e6]at hK |-;rw[hL]at dp;refine eR (o:=⟨Yz 27,_,_,_,_,_⟩) rfl 64 #[Yt (Yz ⟨g,0,Yy⟩),Yp Yv 5] _ (bW B g Q 5 W dp (by omega) (by omega) (by omega)) ?_ ?_
      ·go_simp;done
      rintro e w' ⟨r,rfl,hr,hG2,hk2⟩;exact⟨_,rfl,hK _ _ (gW.of hk2) ⟨by simpa[ar]using hG2,by simpa[ar,gD]using(hk2.block bx ob (by simp;omega)).trans hI2⟩ (λW2 h2=>⟨r,by omega,rfl⟩)⟩
     refine ie.cons (λρ L W hR hI hL hD hO hF K hK=>?_) ?_
     ·have f5:=ag hF (j:=5) (by decide);have f7:=ag hF (j:=7) (by decide);obtain⟨dp,hI2⟩:=hI;have ob:bx<W.1.size:=ae hI2;have ez:g<W.1.size:=Nat.lt_of_lt_of_le dp.lt.1 dp.lt.2;clear hF hD hO hR;simp only[Act.put,ax,aw,ay]at hK |-;obtain⟨b5,e5,q1,q2,q3,q4⟩:=f5;obtain⟨r,hr,e7⟩:=f7;rw[e5,e7]at hK |-;have X1:(r:Int)<5:=by omega
      have tn:¬(r:Int)<0:=by omega
      haveI:af b5 W:=af.of q3;go_simp;refine hK _ _ (gW.refl g bx W) ⟨by simpa[ar]using dp,by simpa[ar,gD]using hI2⟩ (λW2 h2=>⟨b5,r,hr,by rfl,q1,q2,Nat.lt_of_lt_of_le q3 h2.size,(h2.cell (q:=⟨b5,r,Yy⟩) q3 q1 q2).trans (q4 r hr)⟩)
     refine ie.cons (λρ L W hR hI hL hD hO hF K hK=>?_) ?_
     ·have f8:=ag hF (j:=8) (by decide);have nn:L 11=false:=hD.not (p:=11) rfl (q:=9) (by decide) hL;obtain⟨dp,hI2⟩:=hI;have ob:bx<W.1.size:=ae hI2;have ez:g<W.1.size:=Nat.lt_of_lt_of_le dp.lt.1 dp.lt.2;clear hF hD hO hR;simp only[Act.put,ax,aw,ay]at hK |-;obtain⟨b5,r,hr,e8,q1,q2,q3,q4⟩:=f8;rw[e8]at hK |-;rw[nn]at hI2;haveI:af b5 W:=af.of q3;go_simp;refine hK _ _ (gW.refl g bx W) ⟨by simpa[ar]using dp,by simpa[ar,gD,nn]using hI2⟩ (λW2 h2=>⟨r,hr,rfl⟩)
     refine ie.cons (λρ L W hR hI hL hD hO hF K hK=>?_) ?_
     ·obtain⟨dp,hI2⟩:=hI;have ob:bx<W.1.size:=ae hI2;have ez:g<W.1.size:=Nat.lt_of_lt_of_le dp.lt.1 dp.lt.2;clear hF hD hO hR;simp only[Act.put,ax,aw,ay]at hK |-;go_simp;refine hK _ _ (gW.refl g bx W) ⟨by simpa[ar]using dp,by simpa[ar,gD]using hI2⟩ (λW2 h2=>rfl)
     refine ie.cons (λρ L W hR hI hL hD hO hF K hK=>?_) ?_
     ·have f9:=ag hF (j:=9) (by decide);have f10:=ag hF (j:=10) (by decide);obtain⟨dp,hI2⟩:=hI;have ob:bx<W.1.size:=ae hI2;have ez:g<W.1.size:=Nat.lt_of_lt_of_le dp.lt.1 dp.lt.2;clear hF hD hO hR;simp only[Act.put,ax,aw,ay]at hK |-;obtain⟨r,hr,e9⟩:=f9;have e10:ρ 10=Yt (Yz ⟨bx,1,Yy⟩):=f10;rw[e9,e10]at hK |-;have hfz:W.frozen? ⟨bx,1,Yy⟩=false:=bu hI2 1;have Ky:∃v,W.cell? ⟨bx,1,Yy⟩=Yz v:=⟨_,aj hI2 1⟩;obtain⟨v9,Ky⟩:=Ky;haveI:af bx W:=af.of ob;have iV:=heap_setCell_same _ _ 1 _ _ (Yq (E2 tx r)) hI2;go_simp;refine hK undef _ (gW.set g bx 1 W _) ⟨by simpa[ar]using dp.gb (cH W ⟨bx,1,Yy⟩ _) (λx e=>by cases e;exact T4),?_⟩ (λW2 h2=>trivial);rw[iV];simp[ar,gD,e9]
     exact ie.nil
    intro ρ L W hR hI hL hF;obtain⟨_,_,_,_,_,_,_,_,_,e9,_⟩:=hF;obtain⟨r,hr,e9⟩:=e9;obtain⟨dp,hI2⟩:=hI;rw[hL 11 (by decide)]at hI2;rw[hL 7 (by decide)]at dp;simp only[if_true]at dp hI2;rw[e9]at hI2;have X4:=hR.size;have TC:=aa (hR.gb (bO Aj.out (show ac w1 w1.drew from(ac.refl _).drew)) hwx);have HOW:=aa (PF (dN nD.out (show ac w1 w1.drew from(ac.refl _).drew)) hR (by omega) (λx hx=>by have:=MP x hx;omega));have Qp:=aa dp;have kT:=aa hI2;have X9:=Sq tx r;generalize E2 tx r=u at *;have d0:W.cell? ⟨bx,0,Yy⟩=Yz (Yp Yv 1):=by rw[aj kT.out];rfl
    have d1:W.cell? ⟨bx,1,Yy⟩=Yz (Yq u):=by rw[aj kT.out];rfl
    have d2:W.cell? ⟨bx,2,Yy⟩=Yz (Yp Yv id):=by rw[aj kT.out];rfl
    haveI:af bx W:=af.of (ae kT.out);have hsw:w.1.size<=W.1.size:=TC.out.size;clear hR dp hI2 hL nD Aj xf;go_wp2_with fail;refine(eg.out A5 c5 t _ _ (1,u.1.1,id) HT.out.nm (by omega) ?_ hA5 (by omega) ?_ ?_).mono ?_
    ·have:=St.aB u;simp only;omega
    ·exact(a7 HOW.out rfl).ai ((ac.refl _).alloc _)
    ·rw[<-bo u];exact ej _ _ _ _ _ (by simp) (by simp) (by simp) (by simp)
    rintro e w7 ⟨v7,rfl,dk,bR⟩
    have hrel:Cm w B g P f v7 (Yp Yv ((k:Int)+1)) w7:=⟨k+1,_,by omega,congrArg (Yp Yv) (by omega),cT dk (by simp;omega),by
     rw[n4.out]
     exact St.NL HT.out rfl (by rw[St.aB];simp only;omega),((Qp.out.ai ((ac.refl _).alloc _)).ai bR).le (by omega),bO TC.out (((ac.refl _).alloc _).trans bR)⟩
    have bw:=aa hrel;clear hrel dk bR;go_wp2;exact⟨bw.out,by simp[intOf];omega⟩
   have z3:(kd==1)=false:=by simpa using dr
   have xf:=aa (HG.out.ai ((ac.refl wr).alloc (Yw #[Yp Yv kd,Yq tx,Yp Yv id] 36)));have Aj:=aa (bO HK.out ((ac.refl wr).alloc (Yw #[Yp Yv kd,Yq tx,Yp Yv id] 36)));have nD:=aa (HO.out.alloc (Yw #[Yp Yv kd,Yq tx,Yp Yv id] 36));have hsa:wr.1.size<(wr.alloc (Yw #[Yp Yv kd,Yq tx,Yp Yv id] 36)).1.size:=by simp
   clear HG HK HO dj;go_wp2_with fail;clear c0 c1 c2;generalize wr.alloc (Yw #[Yp Yv kd,Yq tx,Yp Yv id] 36)=w1 at *;obtain⟨bx,hbxe⟩:∃bx,bx=wr.1.size:=⟨_,rfl⟩;rw[<-hbxe]at mH hsa MP |-;have hgx:g≠bx:=by omega
   have hwx:w.1.size<=bx:=by omega
   have T4:B<=bx:=by omega
   clear hbxe;refine(bW B g _ 3 _ xf.out (by omega) (by omega) (by omega)).mono ?_;rintro e w2 ⟨r,rfl,hr,hG2,hk2⟩;have HG2:=aa hG2;have gi:=aa (aN Aj.out hk2 (λ_ e=>.inl e));have j4:=aa (eB nD.out hk2 (by omega));have pM:=aa ((hk2.block bx hsa (by simp;omega)).trans mH.out);have hs2:=hk2.size;clear hG2 hk2 xf Aj nD mH;have d0:w2.cell? ⟨bx,0,Yy⟩=Yz (Yp Yv kd):=by rw[aj pM.out];rfl
   have d1:w2.cell? ⟨bx,1,Yy⟩=Yz (Yq tx):=by rw[aj pM.out];rfl
   have d2:w2.cell? ⟨bx,2,Yy⟩=Yz (Yp Yv id):=by rw[aj pM.out];rfl
   haveI:af bx w2:=af.of (ae pM.out);have hsw:w.1.size<=w2.1.size:=gi.out.size
   by_cases tn:r=0
   ·subst tn;clear d0 d1 d2;go_wp2_with fail;refine(wA B g _ 2 _ HG2.out (by omega) (by omega)).mono ?_;rintro e w3 ⟨u,rfl,jl,hG3,hk3⟩;have iG:=aa hG3;have fL:=aa (aN gi.out hk3 (λ_ e=>.inl e));have ft:=aa (eB j4.out hk3 (by omega));have pN:=aa ((hk3.block bx (ae pM.out) (by simp;omega)).trans pM.out);have hs3:=hk3.size;have mM:=St.aB u;clear hG3 hk3 HG2 gi j4 pM;go_wp2_with fail;refine(eg.out A5 c5 t _ _ (1,u.1.1,0) HT.out.nm (by omega) ?_ hA5 (by omega) ?_ ?_).mono ?_
    ·simp only;omega
    ·exact(a7 ft.out rfl).ai ((ac.refl _).alloc _)
    ·rw[<-bo u];exact ej _ _ _ _ _ (by simp) (by simp) (by simp) (by simp)
    rintro e w4 ⟨v4,rfl,kW,bj⟩;have DM:ac w3 w4:=ac.trans ((ac.refl _).alloc _) bj;have eS:=aa (iG.out.ai DM);have dm:=aa (bO fL.out DM);have N3:=aa ((DM.below.block bx (ae pN.out)).trans pN.out);have iH:=aa (cT kW (by simp;omega):w4.ownsRow w.1.size 36 3 v4 _ _);obtain⟨A4,c4,rfl,hc41,_,hA4⟩:=aW kW;have a1:=(St.gN t (1,u.1.1,0)).1;have a2:=ik t (1,u.1.1,0);simp only at a2;have hs4:=DM.size;clear kW bj DM iG fL ft pN;have d0:w4.cell? ⟨bx,0,Yy⟩=Yz (Yp Yv kd):=by rw[aj N3.out];rfl
    have d1:w4.cell? ⟨bx,1,Yy⟩=Yz (Yq tx):=by rw[aj N3.out];rfl
    have d2:w4.cell? ⟨bx,2,Yy⟩=Yz (Yp Yv id):=by rw[aj N3.out];rfl
    haveI:af bx w4:=af.of (ae N3.out);have Wp:=St.eJ HT.out.nm (1,u.1.1,0);have V6:=aa (St.NK (n:=12) HT.out (x:=(kd,vJ,id)) dr (u:=u.1.1) (by omega));generalize St.aK t (1,u.1.1,0)=t4 at *;go_wp2_with fail;refine(eg.out A4 c4 t4 _ _ (kd,vJ,id) Wp (by omega) ?_ hA4 hc41 ?_ ?_).mono ?_
    ·simp only;omega
    ·exact(a7 iH.out rfl).ai ((ac.refl _).alloc _)
    ·rw[<-hst,<-bo tx];exact ej _ _ _ _ _ (by simp) (by simp) (by simp) (by simp)
    rintro e w7 ⟨v7,rfl,dk,bR⟩
    have hrel:Cm w B g P f v7 (Yp Yv ((k:Int)+1)) w7:=⟨k+1,_,by omega,congrArg (Yp Yv) (by omega),cT dk (by simp;omega),by
     rw[n4.out];exact V6.out,((eS.out.ai ((ac.refl _).alloc _)).ai bR).le (by omega),bO dm.out (((ac.refl _).alloc _).trans bR)⟩
    have bw:=aa hrel;clear hrel dk bR;go_wp2;exact⟨bw.out,by simp[intOf];omega⟩
   have z4:((r:Int)==0)=false:=by simp;omega
   go_wp2_with fail;refine(eg.out A5 c5 t _ _ (kd,vJ,id) HT.out.nm (by omega) ?_ hA5 (by omega) ?_ ?_).mono ?_
   ·simp only;omega
   ·exact(a7 j4.out rfl).ai ((ac.refl _).alloc _)
   ·rw[<-hst,<-bo tx];exact ej _ _ _ _ _ (by simp) (by simp) (by simp) (by simp)
   rintro e w7 ⟨v7,rfl,dk,bR⟩
   have hrel:Cm w B g P f v7 (Yp Yv ((k:Int)+1)) w7:=⟨k+1,_,by omega,congrArg (Yp Yv) (by omega),cT dk (by simp;omega),by
    rw[n4.out];exact St.LQ HT.out dr,((HG2.out.ai ((ac.refl _).alloc _)).ai bR).le (by omega),bO gi.out (((ac.refl _).alloc _).trans bR)⟩
   have bw:=aa hrel;clear hrel dk bR;go_wp2;exact⟨bw.out,by simp[intOf];omega⟩
  have hkn:k=f.length:=by omega
  have z1:¬(k:Int)<(n:Int):=by omega
  have hft:f.take k=f:=List.take_of_length_le (by omega);rw[hft]at hT;obtain⟨A5,c5,rfl,_,_,hA5⟩:=aW hown;have HE:=aa (show pT w B g P f (Yx (Yr A5 t.length c5)) wr from⟨_,t,rfl,HO.out,by rw[<-hkn];exact hT,by rw[<-hkn];exact HG.out,HK.out⟩);clear hown hT hI hkk hft HG HO HK HT;go_wp2;go_ret;exact HE.out
end
section
namespace St
def De:Int->List (Int × Int)->Int
 | x,[]=>x
 | _,r :: rs=>De r.2 rs
theorem CZ{N:Nat}{r:Int × Int}:∀(rs:List (Int × Int)) (x:Int),bV N x rs=true->De x rs<=r.1->r.1<=r.2->r.2<=N->bV N x (rs++[r])=true/\De x (rs++[r])=r.2
 | [],x,_,h1,h2,h3=>by
  simp only[De]at h1;refine⟨?_,rfl⟩;rw[List.nil_append,bV,if_neg (by omega)];rfl
 | q :: rs,x,h,h1,h2,h3=>by
  rw[bV]at h
  split at h
  ·cases h
  rename_i hn
  obtain⟨g1,g2⟩:=CZ rs q.2 h h1 h2 h3;refine⟨?_,g2⟩;rw[List.cons_append,bV,if_neg hn];exact g1
def lr(f:List It):List (Int × Int)->List (List It)->Prop
 | r :: rs,t :: ts=>ll (aR r.1.toNat r.2.toNat 0 f) t (12*(aR r.1.toNat r.2.toNat 0 f).length)/\lr f rs ts
 | [],[]=>True
 | _,_=>False
theorem Dh{f:List It}{r:Int × Int}{t:List It}(hr:ll (aR r.1.toNat r.2.toNat 0 f) t (12*(aR r.1.toNat r.2.toNat 0 f).length)):∀(rs:List (Int × Int)) (ts:List (List It)),lr f rs ts->lr f (rs++[r]) (ts++[t])
 | [],[],_=>⟨hr,trivial⟩
 | q :: rs,u :: ts,h=>⟨h.1,Dh hr rs ts h.2⟩
 | [],_ :: _,h=>h.elim
 | _ :: _,[],h=>h.elim
theorem lr.fits{f:List It}:∀ {rs:List (Int × Int)} {ts:List (List It)},lr f rs ts->Fits f rs ts
 | [],[],_=>trivial
 | q :: rs,u :: ts,h=>⟨h.1.fit,lr.fits h.2⟩
 | [],_ :: _,h=>h.elim
 | _ :: _,[],h=>h.elim
end St
theorem IC:(Tryz.prog.info? 33).map (λi=>(i.zero,i.size,i.bytes))=some (some (.agg #[.int .i64 0,.int .i64 0]),2,16):=by kernel_rfl
theorem sc:(Tryz.prog.info? 37).map (λi=>(i.zero,i.size,i.bytes))=some (some (.slice none 0 0),1,24):=by kernel_rfl
def oS(rs:List (Int × Int)):List Value:=rs.flatMap λr=>[Yp Yv r.1,Yp Yv r.2]
theorem E7(rs:List (Int × Int))(r:Int × Int):oS (rs++[r])=oS rs++[Yp Yv r.1,Yp Yv r.2]:=by simp[oS]
theorem AH:∀(rs:List (Int × Int)) (j:Nat) (h:j<rs.length),(oS rs)[j*2]?=Yz (Yp Yv rs[j].1)/\(oS rs)[j*2+1]?=Yz (Yp Yv rs[j].2)
 | r :: rs,0,_=>⟨rfl,rfl⟩
 | r :: rs,j+1,h=>by
  have:=AH rs j (by simpa using h)
  have e:(j+1)*2=j*2+2:=by omega
  have e2:(j+1)*2+1=j*2+1+2:=by omega
  exact⟨by rw[e];exact this.1,by rw[e2];exact this.2⟩
theorem IW{w:YA}{B n c:Nat}{A:Option Addr}{rs:List (Int × Int)}(h:w.ownsRow B 33 2 (Yr A n c) n (oS rs))(hn:rs.length=n):eC w A rs:=by
 intro h0;obtain⟨g,rfl,_,hg,hc⟩:=eE h (by omega);refine⟨g,0,rfl,hg,λj hj=>?_⟩;obtain⟨a,b⟩:=AH rs j hj;rw[Nat.zero_add];exact⟨hc _ _ a,hc _ _ b⟩
def nH(B:Nat)(W:YA)(vs:List Value)(ts:List (List St.It)):Prop:=vs.length=ts.length/\∀(j:Nat) (h:j<vs.length) (h':j<ts.length),W.ownsRow B 36 3 vs[j] ts[j].length (ak ts[j])
theorem GW(B:Nat)(W:YA):nH B W [] []:=⟨rfl,λj h=>by simp at h⟩
theorem E3{B:Nat}{W:YA}{vs:List Value}{ts:List (List St.It)}(h:nH B W vs ts){v:Value}{t:List St.It}(ho:W.ownsRow B 36 3 v t.length (ak t)):nH B W (vs++[v]) (ts++[t]):=by
 refine⟨by simp[h.1],λj hj hj'=>?_⟩
 by_cases hlt:j<vs.length
 ·rw[List.getElem_append_left hlt,List.getElem_append_left (by rw[<-h.1];exact hlt)];exact h.2 j hlt _
 have hl:=h.1;have:j=vs.length:=by simp at hj;omega
 subst this;simp only[List.getElem_append_right (Nat.le_refl _),Nat.sub_self,List.getElem_cons_zero]
 have e:(ts++[t])[vs.length]'(by simp;omega)=t:=by
  rw[List.getElem_append_right (by omega)];simp[hl]
 rw[e];exact ho
theorem pH{B:Nat}{W W':YA}{vs:List Value}{ts:List (List St.It)}(h:nH B W vs ts)(hk:∀v n xs,W.ownsRow B 36 3 v n xs->W'.ownsRow B 36 3 v n xs):nH B W' vs ts:=⟨h.1,λj hj hj'=>hk _ _ _ (h.2 j hj hj')⟩
theorem LP{w:YA}{B n c:Nat}{A:Option Addr}{vs:List Value}{ts:List (List St.It)}(h:w.ownsRow B 37 1 (Yr A n c) n vs)(hn:vs.length=n)(ht:nH B w vs ts):gk w A ts:=by
 intro h0;have hl:=ht.1;obtain⟨g,rfl,_,hg,hc⟩:=eE h (by omega);refine⟨g,0,rfl,hg,λj hj=>?_⟩;have hj':j<vs.length:=by omega
 have ho:=ht.2 j hj' hj;obtain⟨A',c',e,h1,h2,h3⟩:=aW ho;have Kv:=hc j vs[j] (List.getElem?_eq_getElem hj');rw[e]at ho Kv;exact⟨A',c',by rw[Nat.zero_add];exact Kv,a7 ho rfl,h1,by unfold maxLen at h2;omega,h3⟩
theorem Sj(w2:YA)(x y:Value)(e:TypeId)(b:Nat)(hb:b=w2.1.size):∀j u,[x,y][j]?=Yz u->(w2.alloc (Yw #[x,y] e)).cell? ((⟨b,0,Yy⟩:Addr).add j)=Yz u:=by
 subst hb;intro j u h
 match j,h with
 | 0,h=>simp at h;subst h;exact World.cell?_alloc_at _ _ _ _ rfl
 | 1,h=>simp at h;subst h;exact World.cell?_alloc_at _ _ _ _ rfl
 | j+2,h=>simp at h
theorem jm{w w':YA}{B e e' size size' n n':Nat}{v v':Value}{xs xs':List Value}(h:w.ownsRow B e size v n xs)(h':w.ownsRow B e' size' v' n' xs')(hne:e≠e')(k:w.grownBy w' v'.ownBlock):w'.ownsRow B e size v n xs:=by
 refine h.kept k ?_;rcases da h h' hne with e|e
 ·exact .inl e
 exact .inr e
structure Tb (w:YA) (B g P:Nat) (kD:Bool) (f:List St.It) (rs:List (Int × Int)) (ts:List (List St.It)) (a k:Nat) (s8 s9:Value) (vs:List Value) (wr:YA):Prop where
 o8:wr.ownsRow w.1.size 33 2 s8 rs.length (oS rs)
 o9:wr.ownsRow w.1.size 37 1 s9 vs.length vs
 tg:nH w.1.size wr vs ts
 ln:rs.length=k/\vs.length=k
 asc:St.bV (St.aA f) 0 rs=true
 en:St.De 0 rs=a
 al:a<=St.aA f
 fit:kD=false->St.lr f rs ts
 bd:∀t∈ts,t.length<=2*f.length+6/\aY t<=aY f+12*f.length+69
 gen:bp wr B g (P+1+(7*f.length+40)*k)
 gb:w.grownBy wr (Yz g)
def Ol(w:YA)(B g P:Nat)(kD:Bool)(f:List St.It)(s8 s9 dy s12:Value)(wr:YA):Prop:=
 ∃(i k a:Nat) (rs:List (Int × Int)) (ts:List (List St.It)) (vs:List Value),s12=Yp Yv i/\dy=Yp Yv a/\k+i<=3/\Tb w B g P kD f rs ts a k s8 s9 vs wr
def Ok(w:YA)(B g P:Nat)(kD:Bool)(f:List St.It)(e:Ending)(w':YA):Prop:=
 ∃(Ar At:Option Addr) (cr ct:Nat) (rs:List (Int × Int)) (ts:List (List St.It)),e=Yx (.tuple #[Yr Ar rs.length cr,Yr At ts.length ct])/\eC w' Ar rs/\gk w' At ts/\rs.length=ts.length/\rs.length<=3/\rs.length<=cr/\ts.length<=ct/\cr<=9223372036854775807/\ct<=9223372036854775807 /\
  St.bV (St.aA f) 0 rs=true/\(kD=false->St.lr f rs ts)/\(∀t∈ts,t.length<=2*f.length+6/\aY t<=aY f+12*f.length+69)/\w.grownBy w' (Yz g)
def Oj(w wr:YA)(B g Q:Nat)(kD:Bool)(f x:List St.It)(rI:Value)(wx:YA):Prop:=
 ∃t:List St.It,wx.ownsRow w.1.size 36 3 rI t.length (ak t)/\(kD=false->St.ll x t (12*x.length))/\t.length<=2*f.length+6/\aY t<=aY f+12*f.length+69/\bp wx B g (Q+7*f.length+35)/\wr.grownBy wx (Yz g)
theorem yv(B g P n c:Nat)(kD:Bool)(A:Option Addr)(f:List St.It)(w:YA)(hG:bp w B g P)(hP:P<=1000)(hn:f.length=n)(h:aJ w A f)(hne:0<n->∀b off,A=Yz ⟨b,off,Yy⟩->b≠g)(hl:n<=512)(ht:aY f<=1500000)
  (T6:kD=true->∀(Q:Nat) (ns:Bool) (W:YA),bp W B g Q->Q<=50000->Calls Tryz.prog 66 #[Yt (Yz ⟨g,0,Yy⟩),Yp Yv 3,Ys true,Ys ns] W λe w'=>∃(v:Value) (t:List St.It),e=Yx v/\w'.ownsRow W.1.size 36 3 v t.length (ak t)/\t.length<=6/\aY t<=69/\bp w' B g (Q+28)/\W.grownBy w' (Yz g)) :
  Calls Tryz.prog 30 #[Yt (Yz ⟨g,0,Yy⟩),Yr A n c,Ys kD] w (Ok w B g P kD f):=by
 have HG:=aa hG;have H:=aa h;have HN:=aa hn;have gK:=aa hne;have VK:=aa T6;obtain⟨kg,hB⟩:=hG.lt;have hll:=gv f;have hlen:=ny A n c f w hn h (by omega) (by omega);obtain⟨i8,h8a,h8b,h8c,h8d⟩:=info_parts IC;obtain⟨i9,h9a,h9b,h9c,h9d⟩:=info_parts sc;obtain⟨N,hNl⟩:∃N,N=St.aA f:=⟨_,rfl⟩;rw[<-hNl]at hll hlen;have HLEN:=aa hlen;have FL:=aa hNl;clear hG h hn hne T6 hlen hNl;go_enter Tryz.func30,Tryz.ntmps30;go_wp2_with fail;refine HLEN.out.mono ?_;rintro e w1 ⟨rfl,rfl⟩;go_wp2_with fail;refine(bW B g P 4 _ HG.out (by omega) (by omega) (by omega)).mono ?_;rintro e w2 ⟨r,rfl,hr,hG2,hk2⟩;have HG2:=aa hG2;have gi:=aa hk2;clear hG2 hk2 HG HLEN;go_wp2_with fail;go_loopw [8,9,10,12] (λs8 s9 dy s12 wr=>Ol w B g P kD f s8 s9 dy s12 wr) (λ_ _ _ s12 _=>(intOf s12).toNat)
 case atStart=>exact⟨r,0,0,[],[],[],rfl,rfl,by omega,World.ownsRow_nil _ _ _ _,World.ownsRow_nil _ _ _ _,GW _ _,⟨rfl,rfl⟩,rfl,rfl,by omega,(λ_=>trivial),(λt ht=>by cases ht),by simpa using HG2.out,gi.out⟩
 case round=>
  clear HG2 gi;obtain⟨i,k,a,rs,ts,vs,rfl,rfl,hki,hI⟩:=hrel;have HI:=aa hI;have hal:=hI.al;rw[<-FL.out]at hal;have hsz:=hI.gb.size;have tj:=hI.ln;have hN:=HN.out;have XS:(7*f.length+40)*k<=(7*f.length+40)*3:=Nat.mul_le_mul (Nat.le_refl _) (by omega);clear hI
  by_cases hi:0<i
  ·have z:(0:Int)<(i:Int):=by omega
   go_wp2_with fail;refine(bW B g _ ((N:Int)-(a:Int)+1) _ HI.out.gen (by omega) (by omega) (by omega)).mono ?_;rintro e w3 ⟨r1,rfl,hr1,hG3,hk3⟩;have iG:=aa hG3;have fL:=aa hk3;obtain⟨p,hp⟩:∃p:Nat,p=a+r1:=⟨_,rfl⟩;have hap:(a:Int)+(r1:Int)=(p:Int):=by omega
   have XW:p<=N:=by omega
   have Xh:a<=p:=by omega
   clear hG3 hk3 hp hr1;go_wp2_with fail;refine(bW B g _ ((N:Int)-(p:Int)+1) _ iG.out (by omega) (by omega) (by omega)).mono ?_;rintro e w4 ⟨r2,rfl,hr2,hG4,hk4⟩;have eS:=aa hG4;have dm:=aa (aN fL.out hk4 (λ_ e=>.inl e));obtain⟨q,hq⟩:∃q:Nat,q=p+r2:=⟨_,rfl⟩;have pk:(p:Int)+(r2:Int)=(q:Int):=by omega
   have XX:q<=N:=by omega
   have Vj:p<=q:=by omega
   clear hq hr2;have T8:=Bq H.out (aN HI.out.gb dm.out (λ_ e=>.inl e)) (λh0=>gK.out (by have:=HN.out;omega));have hs4:=dm.out.size;have hsl:=sK A n c f p q w4 HN.out T8 (by omega) (by omega) Vj (by have:=FL.out;omega);have bB:=aa hsl;clear hG4 hk4 iG fL hsl T8;go_wp2_with fail;refine bB.out.mono ?_;rintro e w5 ⟨v5,rfl,fh,bt⟩;have hxl:=yG p q f 0;have Ya:=uR p q f 0;obtain⟨A5,c5,rfl,_,_,_⟩:=aW fh;have lg:=a7 fh rfl;have hnb:=λb off (e:A5=Yz ⟨b,off,Yy⟩)=>(show w4.1.size<=b from aD fh b (by rw[e];rfl))
   have jS:=aa (eS.out.ai bt);have oJ:=aa (bO dm.out bt);have hs5:=bt.size;have hfit:St.aR p q 0 f=St.aR ((p:Int).toNat) ((q:Int).toNat) 0 f:=by rw[Int.toNat_natCast,Int.toNat_natCast]
   have mI:=aa hfit;generalize St.aR p q 0 f=x at *;have vo:=aa lg;have TF:=aa hnb;clear fh bt bB lg hnb hfit eS dm;go_wp2_with fail;refine(Jl B g _ x.length c5 A5 x w5 jS.out (by omega) rfl vo.out (λ_ b off e=>by have:=TF.out b off e;omega) (by omega) (by omega)).mono ?_;rintro e w6 ⟨v6,t,rfl,qd,hT,Ox,Gd⟩;have qT:=aa (Ox.le (Q:=P+1+(7*f.length+40)*k+2+7*f.length) (by omega));have xh:=aa (aN oJ.out Gd (λ_ e=>.inl e));have tE:=aa (cT qd (by omega):w6.ownsRow w.1.size 36 3 v6 t.length (ak t));have Rg:=hT.len;have XM:=hT.aY;have HT:=aa hT;have KK:=xh.out.size;clear qd hT Ox Gd jS oJ vo TF;go_upto_region 11 with fail;go_cut [57]from 22 to 73 (λEK wx=>∃b:Bool,EK=Ys b/\(b=true->kD=true)/\bp wx B g (P+1+(7*f.length+40)*k+2+7*f.length+1)/\w6.grownBy wx (Yz g))
   case first=>
    cases kD
    ·go_wp2;go_meet;exact⟨false,rfl,(λe=>by cases e),qT.out.le (by omega),bC _ _⟩
    go_wp2_with fail;refine(bW B g _ 3 _ qT.out (by omega) (by omega) (by omega)).mono ?_;rintro e w7 ⟨r3,rfl,hr3,hG7,hk7⟩;have HE:=aa (And.intro hG7 hk7);clear hG7 hk7;go_wp2;go_meet;exact⟨_,rfl,(λ_=>by first|rfl|trivial),HE.out.1.le (by omega),HE.out.2⟩
   case rest=>
   obtain⟨b,rfl,Ro,hG7,hk7⟩:=hcut;have xg:=aa hG7;have Jw:=aa (aN xh.out hk7 (λ_ e=>.inl e));have TH:=aa (eB tE.out hk7 (by omega));have Qh:=aa Ro;have X3:=Jw.out.size;clear hG7 hk7 qT xh tE Ro;go_upto_if 57 with fail;go_cut [17]from 22 to 73 (λrI wx=>Oj w wr B g (P+1+(7*f.length+40)*k) kD f x rI wx)
   case first=>
    cases b
    ·go_wp2;go_meet;exact⟨t,TH.out,λ_=>HT.out,by omega,by omega,xg.out.le (by omega),Jw.out⟩
    obtain rfl:=Qh.out rfl;go_wp2_with fail;refine(bW B g _ 2 _ xg.out (by omega) (by omega) (by omega)).mono ?_;rintro e w8 ⟨r4,rfl,hr4,hG8,hk8⟩;have N8:=aa hG8;have TB:=aa (aN Jw.out hk8 (λ_ e=>.inl e));have WB:=TB.out.size;have hfr:=λns=>VK.out (by first|rfl|trivial) _ ns _ N8.out (by omega)
    have VJ:=aa hfr;clear hG8 hk8 xg Jw hfr;go_wp2_with fail;refine(VJ.out _).mono ?_;rintro e w9 ⟨v9,t9,rfl,tm,q1,q2,hG9,hk9⟩;have HE:=aa (show Oj w wr B g (P+1+(7*f.length+40)*k) true f x v9 w9 from⟨t9,cT tm (by omega),(λe=>by cases e),by omega,by omega,hG9.le (by omega),aN TB.out hk9 (λ_ e=>.inl e)⟩);clear tm hG9 hk9;go_wp2;go_meet;exact HE.out
   case rest=>
    obtain⟨t,ho,hT,htl,rv,hG,hk⟩:=hcut;have HO:=aa ho;have QD:=aa hT;have HG:=aa hG;have HK:=aa hk;have lY:=aa (eB HI.out.o8 hk (by omega));have pR:=aa (eB HI.out.o9 hk (by omega));have dT:=aa (pH HI.out.tg (λv m xs h=>eB h hk (by omega)));have Qn:=aa (aN HI.out.gb hk (λ_ e=>.inl e));have uo:=Qn.out.size;have pn:rs.length<=3:=by omega
    have X2:vs.length<=3:=by omega
    clear ho hT hG hk TH HT xg Jw;obtain⟨NR,c17,rfl,_,_,_⟩:=aW HO.out;go_wp2_with (at_builtin;refine wpList_append_own _ rfl _ _ 34 rfl w.1.size 33 i8 (.agg #[.int .i64 0,.int .i64 0]) 2 16 Tryz.underlying34 h8a h8b h8c h8d rfl (by decide) _ rs.length _ rfl (lY.out.alloc _) _ 1 1 [.int .i64 (p:Int),.int .i64 (q:Int)] rfl rfl ?qa1 ?qa2 (by unfold maxLen;omega) (by omega) ?qa3 ?_)
    case qa1=>exact Sj _ _ _ _ _ rfl
    case qa2=>intro u hu;simp only[List.mem_cons,List.not_mem_nil,or_false]at hu;rcases hu with rfl|rfl<;>rfl
    case qa3=>simp;omega
    intro v8 w8 OL rn _;have Rl:=aD lY.out;have N8:=aa ((HG.out.ai ((ac.refl wc).alloc (.cells #[.int .i64 (p:Int),.int .i64 (q:Int)] 33))).gb rn (λx e=>by have:=Rl x e;omega));have L5:=aa (aN (bO Qn.out ((ac.refl wc).alloc (.cells #[.int .i64 (p:Int),.int .i64 (q:Int)] 33))) rn (λx e=>.inr (Rl x e)));have yQ:=aa (jm (pR.out.alloc _) (lY.out.alloc _) (by decide) rn);have Qu:=aa (jm (HO.out.alloc _) (lY.out.alloc _) (by decide) rn);have QA:=aa (pH dT.out (λv m xs h=>jm (h.alloc _) (lY.out.alloc _) (by decide) rn));have Qs:=aa OL;have WB:=L5.out.size;clear OL rn Rl HG HO lY pR dT Qn;go_wp2_with (at_builtin;refine wpList_append_own _ rfl _ _ 38 rfl w.1.size 37 i9 (.slice none 0 0) 1 24 Tryz.underlying38 h9a h9b h9c h9d rfl (by decide) _ vs.length _ rfl (yQ.out.alloc _) _ 1 1 [.slice NR t.length c17] rfl rfl ?qb1 ?qb2 (by unfold maxLen;omega) (by omega) ?qb3 ?_)
    case qb1=>exact gS _ _ _
    case qb2=>intro u hu;simp only[List.mem_cons,List.not_mem_nil,or_false]at hu;rcases hu with rfl;rfl
    case qb3=>simp;omega
    intro v9 w9 OM rp _;have xU:=aD yQ.out;have Tw:=aa ((N8.out.ai ((ac.refl w8).alloc (Yw #[Yr NR t.length c17] 37))).gb rp (λx e=>by have:=xU x e;omega));have Qo:=aa (aN (bO L5.out ((ac.refl w8).alloc (Yw #[Yr NR t.length c17] 37))) rp (λx e=>.inr (xU x e)));have Qt:=aa (jm (Qs.out.alloc _) (yQ.out.alloc _) (by decide) rp);have Qv:=aa (jm (Qu.out.alloc _) (yQ.out.alloc _) (by decide) rp);have QB:=aa (pH QA.out (λv m xs h=>jm (h.alloc _) (yQ.out.alloc _) (by decide) rp))
    have hrel:Ol w B g P kD f v8 v9 (Yp Yv (q:Int)) (Yp Yv ((i:Int)-1)) w9:=by
     have n7:=HI.out;have OI:(7*f.length+40)*(k+1)=(7*f.length+40)*k+(7*f.length+40):=Nat.mul_succ _ _;obtain⟨g1,g2⟩:=St.CZ (r:=((p:Int),(q:Int))) rs 0 n7.asc (by rw[n7.en];simp only;omega) (by simp only;omega) (by simp only;have:=FL.out;omega);refine⟨i-1,k+1,q,rs++[((p:Int),(q:Int))],ts++[t],vs++[Yr NR t.length c17],congrArg (Yp Yv) (by omega),rfl,by omega,?_⟩;refine⟨?_,?_,E3 QB.out Qv.out,by simp;omega,g1,g2,by have:=FL.out;omega,λe=>?_,λu hu=>?_,?_,Qo.out⟩
     ·rw[E7,List.length_append,tj.1];exact Qt.out
     ·rw[List.length_append,tj.2];exact OM
     ·exact St.Dh (by simp only;rw[<-mI.out];exact QD.out e) rs ts (n7.fit e)
     ·rcases List.mem_append.1 hu with hu|hu
      ·exact n7.bd u hu
      simp at hu;subst hu;exact⟨htl,rv⟩
     rw[OI];exact Tw.out.le (by omega)
    have bw:=aa hrel;clear hrel OM rp xU N8 L5 yQ Qu QA Qs Tw Qo Qt Qv QB;go_wp2
    first|exact⟨bw.out,by simp[intOf];omega⟩|(refine⟨?_,by simp[intOf];omega⟩;(repeat apply Exists.intro);exact⟨bw.out,rfl⟩)
  have z1:¬(0:Int)<(i:Int):=by omega
  have n7:=HI.out;obtain⟨Ar,cr,rfl,hr1,hr2⟩:=aI n7.o8;obtain⟨At,ct,hse,ht1,ht2⟩:=aI n7.o9;have Um:=n7.tg.1;have hte:vs.length=ts.length:=Um;rw[hte]at hse ht1;subst hse
  have HE:=aa (show Ok w B g P kD f (Yx (.tuple #[Yr Ar rs.length cr,Yr At ts.length ct])) wr from
   ⟨Ar,At,cr,ct,rs,ts,rfl,IW n7.o8 rfl,LP (by have:=n7.o9;rw[<-hte]at this;exact this) rfl n7.tg,by omega,by omega,hr1,ht1,by unfold maxLen at hr2;omega,by unfold maxLen at ht2;omega,n7.asc,n7.fit,n7.bd,n7.gb⟩)
  have Ql:=HE.out;rw[tj.1]at Ql;have HE:=aa Ql;clear n7 hr1 hr2 ht1 ht2 Um HI Ql;go_wp2;go_ret2;exact HE.out
end
