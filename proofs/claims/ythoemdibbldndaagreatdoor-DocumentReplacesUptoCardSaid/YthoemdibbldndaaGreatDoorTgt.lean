/- The contract of the maker Target: the source's items with other texts. -/
import Derived.Test.YthoemdibbldndaaGreatDoorRpp
set_option linter.all false
set_option maxHeartbeats 0
set_option maxRecDepth 20000
open Go.Value renaming int->VD,string->VE,slice->VF,pointer->VH
open Go.IntKind renaming i64->VJ
open Go.Obj renaming cells->VK
open Option renaming none->VM,some->VN
open Go renaming World->VO
namespace Go.Proofs.YthoemdibbldndaaGreatDoor
open Go.RowKit
namespace St
structure kp (f t:List It) (e:Nat):Prop where
 nm:Nm t
 fit:gD t=gD f
 len:t.length<=2*f.length
 aP:aP t<=aP f+e
 pos:aR t<=aR f+e
theorem Mc:kp [] [] 0:=⟨sy,rfl,by simp,by simp,by simp⟩
theorem o4(f:List It)(x:It):gD (aV f x)=gD f++gD [x]:=by
 rw[<-qO,JK,qN,qO,qO]
theorem yz(u:List UInt8)(i:Int):gD [(1,u,i)]=[]:=by simp[gD]
theorem J8{f t:List It}{e n:Nat}{x:It}(h:kp f t e)(hx:x.1=1){u:List UInt8}(hu:u.length<=x.2.1.length+n):kp (f++[x]) (aV t (1,u,x.2.2)) (e+n):=by
 have h1:=(ic t (1,u,x.2.2)).1;have h2:=gQ t (1,u,x.2.2);have h3:=oo t (1,u,x.2.2);have hw:bG x=x.2.1.length:=by unfold bG;rw[if_pos hx]
 refine⟨gC h.nm _,?_,?_,?_,?_⟩
 ·rw[o4,qN,yz,h.fit];have:gD [x]=[]:=by simp[gD,hx]
  rw[this]
 ·have:=h.len;simp;omega
 ·have:=h.aP;rw[ci];simp only at h2;omega
 have:=h.pos
 rw[gr,hw,h3];simp only[bG,if_true];omega
theorem J7{f t:List It}{e n:Nat}{x:It}(h:kp f t e)(hx:x.1≠1){u:List UInt8}(hu:u.length<=n):kp (f++[x]) (aV (aV t (1,u,0)) x) (e+n):=by
 have h1:=(ic t (1,u,0)).1;have h2:=gQ t (1,u,0);have h3:=oo t (1,u,0);have k1:=(ic (aV t (1,u,0)) x).1;have k2:=gQ (aV t (1,u,0)) x;have k3:=oo (aV t (1,u,0)) x;refine⟨gC (gC h.nm _) _,?_,?_,?_,?_⟩
 ·rw[o4,o4,qN,yz,h.fit,List.append_nil]
 ·have:=h.len;simp;omega
 ·have:=h.aP;rw[ci];simp only at h2;omega
 have:=h.pos
 rw[gr,k3,h3];have:bG (1,u,0)=u.length:=by simp[bG]
 omega
theorem Io{f t:List It}{e n:Nat}{x:It}(h:kp f t e)(hx:x.1≠1):kp (f++[x]) (aV t x) (e+n):=by
 have k1:=(ic t x).1;have k2:=gQ t x;have k3:=oo t x;refine⟨gC h.nm _,?_,?_,?_,?_⟩
 ·rw[o4,qN,h.fit]
 ·have:=h.len;simp;omega
 ·have:=h.aP;rw[ci];omega
 have:=h.pos;rw[gr,k3];omega
end St
structure gH (g h:Nat) (a b:VO):Prop where
 os:b.os=a.os
 tape:b.tape=a.tape
 output:b.output=a.output
 size:a.1.size<=b.1.size
 block:∀k,k<a.1.size->k≠g->k≠h->b.1[k]?=a.1[k]?
theorem gH.refl(g h:Nat)(a:VO):gH g h a a:=⟨rfl,rfl,rfl,Nat.le_refl _,λ_ _ _ _=>rfl⟩
theorem gH.trans{g h:Nat}{a b c:VO}(p:gH g h a b)(q:gH g h b c):gH g h a c:=
 ⟨q.os.trans p.os,q.tape.trans p.tape,q.output.trans p.output,Nat.le_trans p.size q.size,λk hk h1 h2=>(q.block k (Nat.lt_of_lt_of_le hk p.size) h1 h2).trans (p.block k hk h1 h2)⟩
theorem gH.of{g h:Nat}{a b:VO}(p:a.grownBy b (VN g)):gH g h a b:=⟨p.os,p.tape,p.output,p.size,λk hk h1 _=>p.block k hk (λe=>h1 (by cases e;rfl))⟩
theorem gH.set(g h i:Nat)(a:VO)(v:Value):gH g h a (a.setCell ⟨h,i,VM⟩ v):=by
 have k:=cD a ⟨h,i,VM⟩ v;exact⟨k.os,k.tape,k.output,k.size,λj hj _ h2=>k.block j hj (λe=>h2 (by cases e;rfl))⟩
theorem gH.gb{g h:Nat}{a b w:VO}(p:gH g h a b)(k:w.grownBy a (VN g))(hh:w.1.size<=h):w.grownBy b (VN g):=
 ⟨p.os.trans k.os,p.tape.trans k.tape,p.output.trans k.output,Nat.le_trans k.size p.size,λj hj hne=>(p.block j (Nat.lt_of_lt_of_le hj k.size) (λe=>hne (by rw[e])) (by omega)).trans (k.block j hj hne)⟩
theorem gH.cell{g h:Nat}{a b:VO}(p:gH g h a b){q:Addr}(hq:q.block<a.1.size)(h1:q.block≠g)(h2:q.block≠h):b.cell? q=a.cell? q:=World.cell?_of_block (p.block _ hq h1 h2)
theorem LS{w w':VO}{B e size n g h:Nat}{v:Value}{xs:List Value}(ho:w.ownsRow B e size v n xs)(k:gH g h w w')(hg:g<B)(hh:∀x,v.ownBlock=VN x->x≠h):w'.ownsRow B e size v n xs:=
 ⟨ho.1,ho.2.imp id λ⟨b,cap,cur,h1,h2,h3,h4⟩=>⟨b,cap,cur,h1,h2,by rw[k.block b (ae h3) (by omega) (hh b (by rw[h1];rfl))];exact h3,h4⟩⟩
def B9(tx:ByteArray)(r:Nat):ByteArray:=if r=0 then⟨#[114,111,116]⟩else if r=1 then⟨#[100,97,115,32,65,117,116,111]⟩else if r=2 then⟨#[]⟩else if r=3 then⟨#[101,105,110,32]⟩++tx else tx
theorem OX(tx:ByteArray)(r:Nat):(B9 tx r).size<=tx.size+8:=by
 unfold B9
 split
 ·show 3<=_;omega
 split
 ·show 8<=_;omega
 split
 ·show 0<=_;omega
 split
 ·rw[ByteArray.size_append];show 4+_<=_;omega
 omega
def zo(w:VO)(B g P:Nat)(f:List St.It)(s5 cW:Value)(wr:VO):Prop:=
 ∃(k:Nat) (t:List St.It),k<=f.length/\cW=VD VJ k/\wr.ownsRow w.1.size 36 3 s5 t.length (av t)/\St.kp (f.take k) t (12*k)/\bm wr B g (P+7*k)/\w.grownBy wr (VN g)
def oJ(w:VO)(B g P:Nat)(f:List St.It)(e:Ending)(w':VO):Prop:=∃(v:Value) (t:List St.It),e=.returned v/\w'.ownsRow w.1.size 36 3 v t.length (av t)/\St.kp f t (12*f.length)/\bm w' B g (P+7*f.length)/\w.grownBy w' (VN g)
def RU(B g Q bx:Nat)(tx:ByteArray)(id:Int)(ρ:Nat->Value)(L:Nat->Bool)(W:VO):Prop:=
 bm W B g (Q+if L 7 then 1 else 0)/\W.1[bx]?=VN (VK #[VD VJ 1,if L 11 then ρ 9 else VE tx,VD VJ id] 36)
theorem yp{w w':VO}{A:Option Addr}{f:List St.It}{g:Nat}(h:aE w A f)(k:w.grownBy w' (VN g))(hne:0<f.length->∀b off,A=VN ⟨b,off,VM⟩->b≠g):aE w' A f:=λh0=>yo h k (hne h0) h0
theorem Il{α:Type}(f:List α)(k:Nat)(h:k<f.length):f.take (k+1)=f.take k++[f[k]]:=by rw[List.take_add_one,List.getElem?_eq_getElem h];rfl
theorem Fl(B g P n c:Nat)(A:Option Addr)(f:List St.It)(w:VO)(hG:bm w B g P)(hP:P<=100000)(hn:f.length=n)(h:aE w A f)(hne:0<n->∀b off,A=VN ⟨b,off,VM⟩->b≠g)(hl:n<=600)(ht:aP f<=2000000) :
  Calls Tryz.prog 65 #[VH (VN ⟨g,0,VM⟩),VF A n c] w (oJ w B g P f):=by
 have HG:=aa hG;have H:=aa h;have HN:=aa hn;have gl:=aa hne;obtain⟨jD,hB⟩:=hG.lt;clear hG h hn hne;go_enter Tryz.func65,Tryz.ntmps65;go_wp2_with fail;go_loopw [5,10] (λs5 cW wr=>zo w B g P f s5 cW wr) (λ_ cW _=>n+1-(intOf cW).toNat)
 case atStart=>exact⟨0,[],by omega,rfl,World.ownsRow_nil _ _ _ _,by simpa using St.Mc,HG.out,bh _ _⟩
 case round=>
  clear HG;obtain⟨k,t,hk,rfl,hown,hT,hG,hkk⟩:=hrel;have HG:=aa hG;have HK:=aa hkk;have HO:=aa hown;have HT:=aa hT;have hN:=HN.out;have hI:=yp H.out hkk (λh0=>gl.out (by have:=HN.out;omega));have wT:=hkk.size;clear hG
  by_cases hlt:k<n
  ·have aG:k<f.length:=by omega
   obtain⟨b,off,rfl,hb,hc⟩:=hI (by omega);obtain⟨c0,c1,c2⟩:=hc k aG;have hbg:=gl.out (by omega) b off rfl;have htk:=Il f k aG;have oj:=iW f k aG;have htl:=fG f (k+1);have hlen:=hT.len;have Vo:=hT.aP;have tL:(f.take k).length=k:=by rw[List.length_take];omega
   rw[tL]at hlen;generalize f[k]=x at c0 c1 c2 htk oj;obtain⟨kd,tX,id⟩:=x;simp only at c0 c1 c2 oj;have oI:=aa htk;obtain⟨A5,c5,rfl,_,_,hA5⟩:=aJ hown;have AU:∀x,(VF A5 t.length c5).ownBlock=VN x->x<wr.1.size:=λx hx=>(hown.lt x hx).2
   have hown':wr.ownsRow w.1.size 36 3 (VF A5 t.length c5) t.length (av t):=hown
   have iC:∀(A':Option Addr) (c':Nat) (t':List St.It) (W:VO) (b:Nat) (x:St.It),St.Nm t'->t'.length<=5000->aP t'+x.2.1.length<=4611686018427387904->(A'=VM->c'=0)->t'.length<=c'->aE W A' t'->aE W (VN ⟨b,0,VM⟩) [x]->Calls Tryz.prog 44 #[VF A' t'.length c',VF (VN ⟨b,0,VM⟩) 1 1] W λe w'=>∃v,e=.returned v/\w'.ownsRow W.1.size 36 3 v (St.aV t' x).length (av (St.aV t' x))/\ac W w':=by
    intro A' c' t' W b x aZ hl' ht' hA' hc' h h';have:=gU A' t'.length c' t' (VN ⟨b,0,VM⟩) 1 1 [x] W rfl rfl (λe=>by have:=hA' e;omega) (λe=>by cases e) h h' (by omega) (by rw[ci];exact ht')
    rw[St.ew,aZ]at this;exact this
   have cJ:=aa iC;have hst:(⟨tX.toArray⟩:ByteArray).1.1=tX:=by simp
   have hsz:(⟨tX.toArray⟩:ByteArray).size=tX.length:=by show tX.toArray.size=_;simp
   generalize(⟨tX.toArray⟩:ByteArray)=tx at c1 hst hsz;haveI:af b wr:=af.of hb;have z1:(k:Int)<(n:Int):=by omega
   have z2:¬(k:Int)<0:=by omega
   clear hc iC hkk aG hown hT hI;have cV:=heap_alloc_new wr (VK #[VD VJ kd,VE tx,VD VJ id] 36);have lI:=aa cV
   by_cases cI:kd=1
   ·subst cI;have u4:=aa (HG.out.ah ((ac.refl wr).alloc (VK #[VD VJ 1,VE tx,VD VJ id] 36)));have xv:=aa (bE HK.out ((ac.refl wr).alloc (VK #[VD VJ 1,VE tx,VD VJ id] 36)));have my:=aa (HO.out.alloc (VK #[VD VJ 1,VE tx,VD VJ id] 36));have hsa:wr.1.size<(wr.alloc (VK #[VD VJ 1,VE tx,VD VJ id] 36)).1.size:=by simp
    clear HG HK HO cV;go_wp2_with fail;clear c0 c1 c2;generalize wr.alloc (VK #[VD VJ 1,VE tx,VD VJ id] 36)=w1 at *;obtain⟨bx,hbxe⟩:∃bx,bx=wr.1.size:=⟨_,rfl⟩;rw[<-hbxe]at lI hsa AU |-;have hgx:g≠bx:=by omega
    have hwx:w.1.size<=bx:=by omega
    have QK:B<=bx:=by omega
    clear hbxe;obtain⟨Q,hQ⟩:∃Q,Q=P+7*k:=⟨_,rfl⟩;rw[<-hQ]at u4;refine uV (λa b=>gH g bx a b) (λρ L W=>RU B g Q bx tx id ρ L W) [λv _=>v=VH (VN ⟨bx,1,VM⟩),λv _=>v=VE tx,λv _=>v=VE (⟨#[101,105,110,32]⟩++tx),λv _=>v=VH (VN ⟨bx,1,VM⟩),λv _=>v=VE tx,λv W=>∃b,v=VF (VN ⟨b,0,VM⟩) 5 5/\b≠g/\b≠bx/\b<W.1.size/\∀r,r<5->W.cell? ⟨b,r,VM⟩=VN (VE (B9 tx r)),λv _=>v=VH (VN ⟨g,0,VM⟩),λv _=>∃r:Nat,r<5/\v=VD VJ r,λv W=>∃b r,r<5/\v=VH (VN ⟨b,r,VM⟩)/\b≠g/\b≠bx/\b<W.1.size/\W.cell? ⟨b,r,VM⟩=VN (VE (B9 tx r)),λv _=>∃r:Nat,r<5/\v=VE (B9 tx r),λv _=>v=VH (VN ⟨bx,1,VM⟩),λ_ _=>True] (gH.refl g bx) (λa b c h k=>gH.trans h k) (by kernel_rfl) (by rfl) (by kernel_rfl) (by kernel_rfl) ?_ ?_ ?_ ?_ ?_;rotate_left 1
    ·intro ρ;simp only[bP,Act.put,ap,ak,aq,Nat.zero_add,Nat.reduceAdd];exact rfl
    ·intro ρ;exact⟨u4.out.ah ((ac.refl _).drew),lI.out⟩
    ·refine gP.cons (λρ L W hR hI hL hD hO hF K hK=>?_) ?_
     ·obtain⟨cY,hI2⟩:=hI;have mY:bx<W.1.size:=ae hI2;have du:g<W.1.size:=Nat.lt_of_lt_of_le cY.lt.1 cY.lt.2;clear hF hD hO hR;simp only[Act.put,ap,ak,aq]at hK |-;go_simp;refine hK _ _ (gH.refl g bx W) ⟨by simpa[ar]using cY,by simpa[ar,gg]using hI2⟩ (λW2 h2=>rfl)
     refine gP.cons (λρ L W hR hI hL hD hO hF K hK=>?_) ?_
     ·have f0:=ag hF (j:=0) (by decide);have nn:L 11=false:=hD.not (p:=11) rfl (q:=9) (by decide) (hD.not (p:=9) rfl (q:=8) (by decide) (hD.not (p:=8) rfl (q:=5) (by decide) (hD.not (p:=5) rfl (q:=2) (by decide) (hD.not (p:=2) rfl (q:=1) (by decide) hL))));obtain⟨cY,hI2⟩:=hI;have mY:bx<W.1.size:=ae hI2;have du:g<W.1.size:=Nat.lt_of_lt_of_le cY.lt.1 cY.lt.2;clear hF hD hO hR;simp only[Act.put,ap,ak,aq]at hK |-;have e0:ρ 0=VH (VN ⟨bx,1,VM⟩):=f0;rw[e0]at hK |-;rw[nn]at hI2;have C5:W.cell? ⟨bx,1,VM⟩=VN (VE tx):=by rw[ai hI2];rfl
      haveI:af bx W:=af.of mY;go_simp;refine hK _ _ (gH.refl g bx W) ⟨by simpa[ar]using cY,by simpa[ar,gg,nn]using hI2⟩ (λW2 h2=>rfl)
     refine gP.cons (λρ L W hR hI hL hD hO hF K hK=>?_) ?_
     ·have f1:=ag hF (j:=1) (by decide);obtain⟨cY,hI2⟩:=hI;have mY:bx<W.1.size:=ae hI2;have du:g<W.1.size:=Nat.lt_of_lt_of_le cY.lt.1 cY.lt.2;clear hF hD hO hR;simp only[Act.put,ap,ak,aq]at hK |-;have e1:ρ 1=VE tx:=f1;rw[e1]at hK |-;have y1:¬9223372036854775807<4+tX.length:=by omega
      go_simp;refine hK _ _ (gH.refl g bx W) ⟨by simpa[ar]using cY,by simpa[ar,gg]using hI2⟩ (λW2 h2=>rfl)
     refine gP.cons (λρ L W hR hI hL hD hO hF K hK=>?_) ?_
     ·obtain⟨cY,hI2⟩:=hI;have mY:bx<W.1.size:=ae hI2;have du:g<W.1.size:=Nat.lt_of_lt_of_le cY.lt.1 cY.lt.2;clear hF hD hO hR;simp only[Act.put,ap,ak,aq]at hK |-;go_simp;refine hK _ _ (gH.refl g bx W) ⟨by simpa[ar]using cY,by simpa[ar,gg]using hI2⟩ (λW2 h2=>rfl)
     refine gP.cons (λρ L W hR hI hL hD hO hF K hK=>?_) ?_
     ·have f3:=ag hF (j:=3) (by decide);have nn:L 11=false:=hD.not (p:=11) rfl (q:=9) (by decide) (hD.not (p:=9) rfl (q:=8) (by decide) (hD.not (p:=8) rfl (q:=5) (by decide) (hD.not (p:=5) rfl (q:=4) (by decide) hL)));obtain⟨cY,hI2⟩:=hI;have mY:bx<W.1.size:=ae hI2;have du:g<W.1.size:=Nat.lt_of_lt_of_le cY.lt.1 cY.lt.2;clear hF hD hO hR;simp only[Act.put,ap,ak,aq]at hK |-;have e3:ρ 3=VH (VN ⟨bx,1,VM⟩):=f3;rw[e3]at hK |-;rw[nn]at hI2;have C5:W.cell? ⟨bx,1,VM⟩=VN (VE tx):=by rw[ai hI2];rfl
      haveI:af bx W:=af.of mY;go_simp;refine hK _ _ (gH.refl g bx W) ⟨by simpa[ar]using cY,by simpa[ar,gg,nn]using hI2⟩ (λW2 h2=>rfl)
     refine gP.cons (λρ L W hR hI hL hD hO hF K hK=>?_) ?_
     ·have f2:=ag hF (j:=2) (by decide);have f4:=ag hF (j:=4) (by decide);obtain⟨cY,hI2⟩:=hI;have mY:bx<W.1.size:=ae hI2;have du:g<W.1.size:=Nat.lt_of_lt_of_le cY.lt.1 cY.lt.2;clear hF hD hO hR;simp only[Act.put,ap,ak,aq]at hK |-;have e2:ρ 2=VE (⟨#[101,105,110,32]⟩++tx):=f2;have e4:ρ 4=VE tx:=f4;rw[e2,e4]at hK |-;go_simp;refine hK _ _ (gH.of (((ac.refl W).alloc _).gb _)) ⟨by simpa[ar]using cY.ah ((ac.refl W).alloc _),by simpa[ar,gg]using(((ac.refl W).alloc _).below.block bx mY).trans hI2⟩ (λW2 h2=>⟨W.1.size,rfl,by omega,by omega,by have:=h2.size;simp at this;omega,λr hr=>?_⟩);rw[h2.cell (q:=⟨W.1.size,r,VM⟩) (by simp) (by simp;omega) (by simp;omega),World.cell?_alloc_at _ _ _ _ rfl];rcases(show r=0\/r=1\/r=2\/r=3\/r=4 by omega)with h|h|h|h|h<;>subst h<;>rfl
     refine gP.cons (λρ L W hR hI hL hD hO hF K hK=>?_) ?_
     ·obtain⟨cY,hI2⟩:=hI;have mY:bx<W.1.size:=ae hI2;have du:g<W.1.size:=Nat.lt_of_lt_of_le cY.lt.1 cY.lt.2;clear hF hD hO hR;simp only[Act.put,ap,ak,aq]at hK |-;go_simp;refine hK _ _ (gH.refl g bx W) ⟨by simpa[ar]using cY,by simpa[ar,gg]using hI2⟩ (λW2 h2=>rfl)
     refine gP.cons (λρ L W hR hI hL hD hO hF K hK=>?_) ?_
     ·have f6:=ag hF (j:=6) (by decide);obtain⟨cY,hI2⟩:=hI;have mY:bx<W.1.size:=ae hI2;have du:g<W.1.size:=Nat.lt_of_lt_of_le cY.lt.1 cY.lt.2;clear hF hD hO hR;simp only[Act.put,ap,ak,aq]at hK |-;have e6:ρ 6=VH (VN ⟨g,0,VM⟩):=f6;rw[e6]at hK |-;rw[hL]at cY;refine dk (o:=⟨VN 27,_,_,_,_,_⟩) rfl 64 #[VH (VN ⟨g,0,VM⟩),VD VJ 5] _ (bN B g Q 5 W cY (by omega) (by omega) (by omega)) ?_ ?_
      ·go_simp;done
      rintro e w' ⟨r,rfl,hr,hG2,hk2⟩;exact⟨_,rfl,hK _ _ (gH.of hk2) ⟨by simpa[ar]using hG2,by simpa[ar,gg]using(hk2.block bx mY (by simp;omega)).trans hI2⟩ (λW2 h2=>⟨r,by omega,rfl⟩)⟩
     refine gP.cons (λρ L W hR hI hL hD hO hF K hK=>?_) ?_
     ·have f5:=ag hF (j:=5) (by decide);have f7:=ag hF (j:=7) (by decide);obtain⟨cY,hI2⟩:=hI;have mY:bx<W.1.size:=ae hI2;have du:g<W.1.size:=Nat.lt_of_lt_of_le cY.lt.1 cY.lt.2;clear hF hD hO hR;simp only[Act.put,ap,ak,aq]at hK |-;obtain⟨b5,e5,q1,q2,q3,q4⟩:=f5;obtain⟨r,hr,e7⟩:=f7;rw[e5,e7]at hK |-;have Vk:(r:Int)<5:=by omega
      have rz:¬(r:Int)<0:=by omega
      haveI:af b5 W:=af.of q3;go_simp;refine hK _ _ (gH.refl g bx W) ⟨by simpa[ar]using cY,by simpa[ar,gg]using hI2⟩ (λW2 h2=>⟨b5,r,hr,by rfl,q1,q2,Nat.lt_of_lt_of_le q3 h2.size,(h2.cell (q:=⟨b5,r,VM⟩) q3 q1 q2).trans (q4 r hr)⟩)
     refine gP.cons (λρ L W hR hI hL hD hO hF K hK=>?_) ?_
     ·have f8:=ag hF (j:=8) (by decide);have nn:L 11=false:=hD.not (p:=11) rfl (q:=9) (by decide) hL;obtain⟨cY,hI2⟩:=hI;have mY:bx<W.1.size:=ae hI2;have du:g<W.1.size:=Nat.lt_of_lt_of_le cY.lt.1 cY.lt.2;clear hF hD hO hR;simp only[Act.put,ap,ak,aq]at hK |-;obtain⟨b5,r,hr,e8,q1,q2,q3,q4⟩:=f8;rw[e8]at hK |-;rw[nn]at hI2;haveI:af b5 W:=af.of q3;go_simp;refine hK _ _ (gH.refl g bx W) ⟨by simpa[ar]using cY,by simpa[ar,gg,nn]using hI2⟩ (λW2 h2=>⟨r,hr,rfl⟩)
     refine gP.cons (λρ L W hR hI hL hD hO hF K hK=>?_) ?_
     ·obtain⟨cY,hI2⟩:=hI;have mY:bx<W.1.size:=ae hI2;have du:g<W.1.size:=Nat.lt_of_lt_of_le cY.lt.1 cY.lt.2;clear hF hD hO hR;simp only[Act.put,ap,ak,aq]at hK |-;go_simp;refine hK _ _ (gH.refl g bx W) ⟨by simpa[ar]using cY,by simpa[ar,gg]using hI2⟩ (λW2 h2=>rfl)
     refine gP.cons (λρ L W hR hI hL hD hO hF K hK=>?_) ?_
     ·have f9:=ag hF (j:=9) (by decide);have f10:=ag hF (j:=10) (by decide);obtain⟨cY,hI2⟩:=hI;have mY:bx<W.1.size:=ae hI2;have du:g<W.1.size:=Nat.lt_of_lt_of_le cY.lt.1 cY.lt.2;clear hF hD hO hR;simp only[Act.put,ap,ak,aq]at hK |-;obtain⟨r,hr,e9⟩:=f9;have e10:ρ 10=VH (VN ⟨bx,1,VM⟩):=f10;rw[e9,e10]at hK |-;have hfz:W.frozen? ⟨bx,1,VM⟩=false:=bg hI2 1;have C5:∃v,W.cell? ⟨bx,1,VM⟩=VN v:=⟨_,ai hI2 1⟩;obtain⟨v9,C5⟩:=C5;haveI:af bx W:=af.of mY;have jG:=heap_setCell_same _ _ 1 _ _ (VE (B9 tx r)) hI2;go_simp;refine hK undef _ (gH.set g bx 1 W _) ⟨by simpa[ar]using cY.gb (cD W ⟨bx,1,VM⟩ _) (λx e=>by cases e;exact QK),?_⟩ (λW2 h2=>trivial);rw[jG];simp[ar,gg,e9]
     exact gP.nil
    intro ρ L W hR hI hL hF;obtain⟨_,_,_,_,_,_,_,_,_,e9,_⟩:=hF;obtain⟨r,hr,e9⟩:=e9;obtain⟨cY,hI2⟩:=hI;rw[hL 11 (by decide)]at hI2;rw[hL 7 (by decide)]at cY;simp only[if_true]at cY hI2;rw[e9]at hI2;have Vn:=hR.size;have Qh:=aa (hR.gb (bE xv.out (show ac w1 w1.drew from(ac.refl _).drew)) hwx);have HOW:=aa (LS (dZ my.out (show ac w1 w1.drew from(ac.refl _).drew)) hR (by omega) (λx hx=>by have:=AU x hx;omega));have MG:=aa cY;have kW:=aa hI2;have Vp:=OX tx r;generalize B9 tx r=u at *;have d0:W.cell? ⟨bx,0,VM⟩=VN (VD VJ 1):=by rw[ai kW.out];rfl
    have d1:W.cell? ⟨bx,1,VM⟩=VN (VE u):=by rw[ai kW.out];rfl
    have d2:W.cell? ⟨bx,2,VM⟩=VN (VD VJ id):=by rw[ai kW.out];rfl
    haveI:af bx W:=af.of (ae kW.out);have hsw:w.1.size<=W.1.size:=Qh.out.size;clear hR cY hI2 hL my xv u4;go_wp2_with fail;refine(cJ.out A5 c5 t _ _ (1,u.1.1,id) HT.out.nm (by omega) ?_ hA5 (by omega) ?_ ?_).mono ?_
    ·have:=St.aD u;simp only;omega
    ·exact(aM HOW.out rfl).ah ((ac.refl _).alloc _)
    ·rw[<-aX u];exact bY _ _ _ _ _ (by simp) (by simp) (by simp) (by simp)
    rintro e w7 ⟨v7,rfl,db,bC⟩
    have hrel:zo w B g P f v7 (VD VJ ((k:Int)+1)) w7:=⟨k+1,_,by omega,congrArg (VD VJ) (by omega),cC db (by simp;omega),by
     rw[oI.out]
     exact St.J8 HT.out rfl (by rw[St.aD];simp only;omega),((MG.out.ah ((ac.refl _).alloc _)).ah bC).le (by omega),bE Qh.out (((ac.refl _).alloc _).trans bC)⟩
    have bn:=aa hrel;clear hrel db bC;go_wp2;exact⟨bn.out,by simp[intOf];omega⟩
   have z3:(kd==1)=false:=by simpa using cI
   have u4:=aa (HG.out.ah ((ac.refl wr).alloc (VK #[VD VJ kd,VE tx,VD VJ id] 36)));have xv:=aa (bE HK.out ((ac.refl wr).alloc (VK #[VD VJ kd,VE tx,VD VJ id] 36)));have my:=aa (HO.out.alloc (VK #[VD VJ kd,VE tx,VD VJ id] 36));have hsa:wr.1.size<(wr.alloc (VK #[VD VJ kd,VE tx,VD VJ id] 36)).1.size:=by simp
   clear HG HK HO cV;go_wp2_with fail;clear c0 c1 c2;generalize wr.alloc (VK #[VD VJ kd,VE tx,VD VJ id] 36)=w1 at *;obtain⟨bx,hbxe⟩:∃bx,bx=wr.1.size:=⟨_,rfl⟩;rw[<-hbxe]at lI hsa AU |-;have hgx:g≠bx:=by omega
   have hwx:w.1.size<=bx:=by omega
   have QK:B<=bx:=by omega
   clear hbxe;refine(bN B g _ 3 _ u4.out (by omega) (by omega) (by omega)).mono ?_;rintro e w2 ⟨r,rfl,hr,hG2,hk2⟩;have HG2:=aa hG2;have fQ:=aa (aK xv.out hk2 (λ_ e=>.inl e));have jv:=aa (eC my.out hk2 (by omega));have oD:=aa ((hk2.block bx hsa (by simp;omega)).trans lI.out);have hs2:=hk2.size;clear hG2 hk2 u4 xv my lI;have d0:w2.cell? ⟨bx,0,VM⟩=VN (VD VJ kd):=by rw[ai oD.out];rfl
   have d1:w2.cell? ⟨bx,1,VM⟩=VN (VE tx):=by rw[ai oD.out];rfl
   have d2:w2.cell? ⟨bx,2,VM⟩=VN (VD VJ id):=by rw[ai oD.out];rfl
   haveI:af bx w2:=af.of (ae oD.out);have hsw:w.1.size<=w2.1.size:=fQ.out.size
   by_cases rz:r=0
   ·subst rz;clear d0 d1 d2;go_wp2_with fail;refine(uF B g _ 2 _ HG2.out (by omega) (by omega)).mono ?_;rintro e w3 ⟨u,rfl,j7,hG3,hk3⟩;have gJ:=aa hG3;have ff:=aa (aK fQ.out hk3 (λ_ e=>.inl e));have eS:=aa (eC jv.out hk3 (by omega));have nD:=aa ((hk3.block bx (ae oD.out) (by simp;omega)).trans oD.out);have hs3:=hk3.size;have mG:=St.aD u;clear hG3 hk3 HG2 fQ jv oD;go_wp2_with fail;refine(cJ.out A5 c5 t _ _ (1,u.1.1,0) HT.out.nm (by omega) ?_ hA5 (by omega) ?_ ?_).mono ?_
    ·simp only;omega
    ·exact(aM eS.out rfl).ah ((ac.refl _).alloc _)
    ·rw[<-aX u];exact bY _ _ _ _ _ (by simp) (by simp) (by simp) (by simp)
    rintro e w4 ⟨v4,rfl,iD,aU⟩;have qC:ac w3 w4:=ac.trans ((ac.refl _).alloc _) aU;have eM:=aa (gJ.out.ah qC);have de:=aa (bE ff.out qC);have Kq:=aa ((qC.below.block bx (ae nD.out)).trans nD.out);have iv:=aa (cC iD (by simp;omega):w4.ownsRow w.1.size 36 3 v4 _ _);obtain⟨A4,c4,rfl,hc41,_,hA4⟩:=aJ iD;have a1:=(St.ic t (1,u.1.1,0)).1;have a2:=gQ t (1,u.1.1,0);simp only at a2;have hs4:=qC.size;clear iD aU qC gJ ff eS nD;have d0:w4.cell? ⟨bx,0,VM⟩=VN (VD VJ kd):=by rw[ai Kq.out];rfl
    have d1:w4.cell? ⟨bx,1,VM⟩=VN (VE tx):=by rw[ai Kq.out];rfl
    have d2:w4.cell? ⟨bx,2,VM⟩=VN (VD VJ id):=by rw[ai Kq.out];rfl
    haveI:af bx w4:=af.of (ae Kq.out);have Tw:=St.gC HT.out.nm (1,u.1.1,0);have Te:=aa (St.J7 (n:=12) HT.out (x:=(kd,tX,id)) cI (u:=u.1.1) (by omega));generalize St.aV t (1,u.1.1,0)=t4 at *;go_wp2_with fail;refine(cJ.out A4 c4 t4 _ _ (kd,tX,id) Tw (by omega) ?_ hA4 hc41 ?_ ?_).mono ?_
    ·simp only;omega
    ·exact(aM iv.out rfl).ah ((ac.refl _).alloc _)
    ·rw[<-hst,<-aX tx];exact bY _ _ _ _ _ (by simp) (by simp) (by simp) (by simp)
    rintro e w7 ⟨v7,rfl,db,bC⟩
    have hrel:zo w B g P f v7 (VD VJ ((k:Int)+1)) w7:=⟨k+1,_,by omega,congrArg (VD VJ) (by omega),cC db (by simp;omega),by
     rw[oI.out];exact Te.out,((eM.out.ah ((ac.refl _).alloc _)).ah bC).le (by omega),bE de.out (((ac.refl _).alloc _).trans bC)⟩
    have bn:=aa hrel;clear hrel db bC;go_wp2;exact⟨bn.out,by simp[intOf];omega⟩
   have z4:((r:Int)==0)=false:=by simp;omega
   go_wp2_with fail;refine(cJ.out A5 c5 t _ _ (kd,tX,id) HT.out.nm (by omega) ?_ hA5 (by omega) ?_ ?_).mono ?_
   ·simp only;omega
   ·exact(aM jv.out rfl).ah ((ac.refl _).alloc _)
   ·rw[<-hst,<-aX tx];exact bY _ _ _ _ _ (by simp) (by simp) (by simp) (by simp)
   rintro e w7 ⟨v7,rfl,db,bC⟩
   have hrel:zo w B g P f v7 (VD VJ ((k:Int)+1)) w7:=⟨k+1,_,by omega,congrArg (VD VJ) (by omega),cC db (by simp;omega),by
    rw[oI.out];exact St.Io HT.out cI,((HG2.out.ah ((ac.refl _).alloc _)).ah bC).le (by omega),bE fQ.out (((ac.refl _).alloc _).trans bC)⟩
   have bn:=aa hrel;clear hrel db bC;go_wp2;exact⟨bn.out,by simp[intOf];omega⟩
  have hkn:k=f.length:=by omega
  have z1:¬(k:Int)<(n:Int):=by omega
  have hft:f.take k=f:=List.take_of_length_le (by omega);rw[hft]at hT;obtain⟨A5,c5,rfl,_,_,hA5⟩:=aJ hown;have HE:=aa (show oJ w B g P f (.returned (VF A5 t.length c5)) wr from⟨_,t,rfl,HO.out,by rw[<-hkn];exact hT,by rw[<-hkn];exact HG.out,HK.out⟩);clear hown hT hI hkk hft HG HO HK HT;go_wp2;go_ret;exact HE.out
