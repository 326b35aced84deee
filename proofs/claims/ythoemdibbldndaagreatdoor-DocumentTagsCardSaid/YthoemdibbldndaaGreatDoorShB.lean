/- The contracts of strconv.Itoa at this translation and of the table's field. -/
import Derived.Test.YthoemdibbldndaaGreatDoorPart
import Derived.Test.YthoemdibbldndaaGreatDoorShA
import Derived.WalkSmall
import Derived.Deep.RegionHeld3
set_option linter.all false
set_option maxHeartbeats 0
set_option maxRecDepth 20000
open Go.Value renaming int->UM,string->UN,slice->UO,pointer->UQ,tuple->UR
open Go.IntKind renaming i64->US
open Go.Obj renaming cells->UT
open Go.Ending renaming returned->UU
open Go renaming World->UY
namespace Go.Proofs.YthoemdibbldndaaGreatDoor.Sh
open Go.RowKit Go.Proofs.YthoemdibbldndaaGreatDoor.St
section
def qx:String:=(Rows.documentLimitsRow.named).getD 1 "x"
def mM(w:UY):Prop:=Lib.TabIs Tryz.prog w qx .u64 Lib.pow10Tab
theorem mM.ai{w w':UY}(h:ac w w')(t:mM w):mM w':=by
 unfold mM Lib.TabIs World.var? at t |-;cases hg:Program.globalNamed Tryz.prog qx with
 | none=>rw[hg]at t;simp at t
 | some g=>
  rw[hg]at t;simp only[Option.bind_some]at t |-
  have hlt:g<w.1.size:=by
   rcases Nat.lt_or_ge g w.1.size with h|h
   ·exact h
   rw[Array.getElem?_eq_none h]at t;simp at t
  rw[h.below.block g hlt];exact t
theorem ac.grow{a b:UY}(h:ac a b)(os:Array Obj):ac a (Go.Sort.grow b os):=by
 refine ac.mk ⟨h.below.os,h.below.tape,h.below.output,?_,λk hk=>?_⟩
 ·have:=h.below.size;unfold Go.Sort.grow;simp;omega
 unfold Go.Sort.grow;have:=h.below.size
 rw[Array.getElem?_append_left (by omega)];exact h.below.block k hk
theorem uz(n:Nat)(w:UY)(h1:n<=4611686018427387904)(t:mM w) :
  Calls Tryz.prog 124 #[UM US n] w λe w'=>e=UU (UN ⟨(Lib.decDigits n).toArray⟩)/\ac w w':=by
 refine(Any.strconv_Itoa Tryz.Bq n (by omega) (by omega) w t).mono ?_;rintro e w' ⟨rfl,k,os,rfl⟩;refine⟨?_,ac.grow ((ac.refl w).drewN k) os⟩;unfold Lib.itoa;rw[if_neg (by omega)];simp
theorem wu{P:Program}{ops:Array Oper}{o:Oper}{a:Act}{w:UY}{K:Act->UY->Prop}{Q:Exit->Act->UY->Prop}{E:Prop}
  (hg:o.guard=none) (f:FuncId) (args:Array Value) (v:Value) (R:UY->UY->Prop) (hc:Calls P f args w λe w'=>e=UU v/\R w w')
  (hrun:(execOp a.eval o).run P w=.ok (.enter f args) w) (hK:∀w',R w w'->K (a.put o.dst v) w') :
  if Region.wanted o (yielded ops a.tmps)=true then Oper.wp P o a w K Q else E:=by
 have hw:Region.wanted o (yielded ops a.tmps)=true:=by simp[Region.wanted,hg]
 rw[if_pos hw];unfold Oper.wp;rw[hrun];refine hc.mono ?_;rintro e w' ⟨rfl,hu⟩;exact hK w' hu
def dE(l:List UInt8):Nat × Int:=((St.dec St.ci l.length l 0 0 [] []).2.2.1,(St.dec St.ci l.length l 0 0 [] []).2.2.2)
theorem kE(x:ByteArray):dE x.1.1=((gj x).2.2.1,(gj x).2.2.2):=by
 unfold dE gj;rw[St.aC]
theorem qb:∀(fuel:Nat) (l:List UInt8) (a d:Nat) (f:List St.It) (cuts:List Nat),(St.dec St.ci fuel l a d f cuts).2.2.1<=a+l.length
 | 0,l,a,d,f,cuts=>by simp[St.dec]
 | fuel+1,l,a,d,f,cuts=>by
  by_cases h0:l=[]
  ·subst h0;rw[St.qc];simp
  cases hs:St.ci l with
  | none=>rw[St.ob fuel a d f cuts h0 hs];simp
  | some x=>
   obtain⟨k,t,n⟩:=x;obtain⟨hk,iS,fk⟩:=St.sT hs
   by_cases hf:512<(St.aP f (k,t,0)).length\/1024<=cuts.length
   ·rw[St.oa fuel a d f cuts h0 hs (by omega) hf];simp
   rw[St.oc fuel a d f cuts h0 hs (by omega) hf];have h:=qb fuel (l.drop n) (a+n) (a+n) (St.aP f (k,t,0)) (cuts++[d]);rw[List.length_drop]at h;omega
theorem yV(x:ByteArray):(gj x).2.2.1<=x.size:=by
 have:=qb x.size x.1.1 0 0 [] []
 rw[St.aC]at this;unfold gj;omega
def zK(w:UY)(B tb pb:Nat)(d:ByteArray)(r bd aw texts:Nat)(s:St.PS)(a b n:Nat)(q:Bool)(e:Ending)(w':UY):Prop:=
 Below B w w'/\if bd<=n\/(n=aw/\q=false)then e=UU (UR #[UM US a,UM US 2])else
  if n=aw/\(dE (St.aY d.1.1 (a+1) (b-1))).2≠0 then e=UU (UR #[UM US ((a+1+(dE (St.aY d.1.1 (a+1) (b-1))).1:Nat):Int),UM US (dE (St.aY d.1.1 (a+1) (b-1))).2])else
   e=UU (UR #[UM US 0,UM US 0])/\TV w' tb pb d r bd aw texts/\PV w' B pb d (if n=aw then St.bg d.1.1 s (a+1) (b-1) (Lib.decDigits r)else s)
theorem F1(w w0:UY)(B tb pb:Nat)(d:ByteArray)(r bd aw texts:Nat)(s:St.PS)(a b n:Nat)(q:Bool)(hT:TV w tb pb d r bd aw texts)(hP:PV w B pb d s)(ht:mM w0)(nu:B=w0.1.size)(h0:ac w0 w)
  (h1:s.2<=a) (h2:a<=b) (h3:b<=d.size) (hq:n=aw->q=true->a+2<=b) (hd:d.size<=65536) (hr:r<=100000) (hc:bd<=100000) (hcl:aw<=100000) (hn:n<=100000) (hl:s.1.length<=1000000) :
  Calls Tryz.prog 171 #[UQ (some ⟨tb,0,none⟩),UM US a,UM US b,UM US n,.bool q] w (zK w B tb pb d r bd aw texts s a b n q):=by
 have hBw:B<=w.1.size:=by rw[nu];exact h0.size
 have hv:=hT;unfold TV at hv;have c0:w.cell? ⟨tb,0,none⟩=some (UN d):=ak hv 0;have c1:w.cell? ⟨tb,1,none⟩=some (UQ (some ⟨pb,0,none⟩)):=ak hv 1;have c2:w.cell? ⟨tb,2,none⟩=some (UM US r):=ak hv 2;have c3:w.cell? ⟨tb,3,none⟩=some (UM US bd):=ak hv 3;have c4:w.cell? ⟨tb,4,none⟩=some (UM US aw):=ak hv 4;haveI:af tb w:=af.of (ae hv);have HT:=aa hT;have HP:=aa hP;have Ah:=aa ht;have H0:=aa h0;clear hv hT hP ht h0 nu
 by_cases k1:bd<=n
 ·have Tp:(bd:Int)<=(n:Int):=by omega
  have hE:zK w B tb pb d r bd aw texts s a b n q (UU (UR #[UM US a,UM US 2])) w:=⟨Below.refl _ _,by rw[if_pos (Or.inl k1)]⟩;have HE:=aa hE;clear hE;go_enter Tryz.func171,Tryz.ntmps171;go_wp2;go_ret2;exact HE.out
 have Tp:¬(bd:Int)<=(n:Int):=by omega
 by_cases k2:n=aw
 ·subst k2;have m2:((n:Int)==(n:Int))=true:=by simp
  cases q
  ·have hE:zK w B tb pb d r bd n texts s a b n false (UU (UR #[UM US a,UM US 2])) w:=⟨Below.refl _ _,by rw[if_pos (Or.inr ⟨rfl,rfl⟩)]⟩;have HE:=aa hE;clear hE;go_enter Tryz.func171,Tryz.ntmps171;go_wp2;go_ret2;exact HE.out
  have hq2:=hq rfl rfl;obtain⟨b2,rfl⟩:∃b2,b=b2+1:=⟨b-1,by omega⟩;obtain⟨x,hX⟩:∃x,d.extract (a+1) b2=x:=⟨_,rfl⟩;have hxl:x.1.1=St.aY d.1.1 (a+1) (b2+1-1):=by rw[<-hX,eJ];rfl
  have hxs:x.size<=d.size:=by rw[<-hX];simp;omega
  have Oe:=kE x;rw[hxl]at Oe;have Nj:=aa Oe;have iM:=aa (λW=>tS x W (by omega));have z1:(a:Int)+1<=(b2:Int):=by omega
  have z2:(b2:Int)<=d.size:=by omega
  have z3:(0:Int)<=(a:Int)+1:=by omega
  have z4:(b2:Int)+1-1=b2:=by omega
  have ha1:((a+1:Nat):Int)=(a:Int)+1:=by omega
  have ir:=aa (λW (hW:ac w W)=>(by have h:=KU W B pb d ⟨(Lib.decDigits r).toArray⟩ s (a+1) b2 (HP.out.ai hW) (by omega) (by omega) (by omega) (by omega) hl (Nat.le_trans hBw hW.size);rw[ha1]at h;exact h:Calls Tryz.prog 79 #[UQ (some ⟨pb,0,none⟩),UM US ((a:Int)+1),UM US b2,UN ⟨(Lib.decDigits r).toArray⟩] W λe w'=>e=UU (UR #[])/\PV w' B pb d (St.bg d.1.1 s (a+1) b2 (Lib.decDigits r))/\Below B W w'/\eC mY W w'));have HIT:=aa (λW (hW:ac w W)=>uz r W (by omega) (Ah.out.ai (H0.out.trans hW)));have hat:=yV x;clear hxl Oe hq hq2 ha1;generalize hR:gj x=R at *;obtain⟨f,cu,i,er⟩:=R;simp only at hat;have Uq:i<=65536:=by omega
  by_cases ke:er=0
  ·subst ke;go_enter Tryz.func171,Tryz.ntmps171;go_wp2_with fail;refine(iM.out _).mono ?_;rintro e w2 ⟨A,c,rfl,_,_,_,hu2⟩;have aZ:=aa hu2;clear hu2;go_wp2_with fail;have g1:w2.cell? ⟨tb,1,none⟩=some (UQ (some ⟨pb,0,none⟩)):=(aZ.out.cell (af.lt inferInstance)).trans c1;have g2:w2.cell? ⟨tb,2,none⟩=some (UM US r):=(aZ.out.cell (af.lt inferInstance)).trans c2;haveI:af tb w2:=af.of (cM _ _ g1);have hw1:IntKind.i64.wrap ((a:Int)+1)=(a:Int)+1:=IntWalk.i64_in _ (by omega);have hw3:IntKind.i64.wrap (b2:Int)=(b2:Int):=IntWalk.i64_in _ (by omega);have hw2:IntKind.i64.wrap ((b2:Int)+1-1)=(b2:Int):=by rw[z4];exact IntWalk.i64_in _ (by omega)
   clear c0 c1 c2 c3 c4;go_region_law (first|(refine wu rfl 124 #[UM US r] (UN ⟨(Lib.decDigits r).toArray⟩) ac (HIT.out _ (aZ.out.trans uZ)) ?_ ?_;(· go_simp;done);intro w5 bo;have g1':=(bo.cell (p:=⟨tb,1,none⟩) (af.lt inferInstance)).trans g1;haveI:af tb w5:=af.of (cM _ _ g1'))|(refine wu rfl 79 #[UQ (some ⟨pb,0,none⟩),UM US ((a:Int)+1),UM US b2,UN ⟨(Lib.decDigits r).toArray⟩] (UR #[]) (λW w'=>PV w' B pb d (St.bg d.1.1 s (a+1) b2 (Lib.decDigits r))/\Below B W w'/\eC mY W w') (ir.out _ (aZ.out.trans ((uZ:ac w2 _).trans bo))) ?_ ?_;(· go_simp;done);intro w6 ⟨QT,eh,ht6⟩;have Hb:=(HT.out.ai (aZ.out.trans ((uZ:ac w2 _).trans bo))).tk ht6))
   all_goals
    have QA:=((aZ.out.trans ((uZ:ac w2 _).trans bo)).below.mono hBw).trans eh;have HE:=aa (And.intro Hb (And.intro QT QA));clear Hb QT QA eh ht6 hw1 hw2 hw3;go_wp2;go_ret2;refine⟨HE.out.2.2,?_⟩;rw[if_neg (by simp;omega),if_neg (by rw[Nj.out];simp),if_pos rfl];exact⟨rfl,HE.out.1,by simpa using HE.out.2.1⟩
  have UA:(er==0)=false:=by simpa using ke
  go_enter Tryz.func171,Tryz.ntmps171;go_wp2_with fail;refine(iM.out _).mono ?_;rintro e w2 ⟨A,c,rfl,_,_,_,hu2⟩;have aZ:=aa hu2;clear hu2;go_wp2;go_ret2;refine⟨(aZ.out.below.mono hBw),?_⟩;rw[if_neg (by simp;omega),if_pos ⟨rfl,by rw[Nj.out];exact ke⟩,Nj.out];have ei:((a+1+i:Nat):Int)=(a:Int)+1+(i:Int):=by omega
  simp only[ei];rfl
 have m2:((n:Int)==(aw:Int))=false:=by simp;omega
 have hE:zK w B tb pb d r bd aw texts s a b n q (UU (UR #[UM US 0,UM US 0])) w:=⟨Below.refl _ _,by rw[if_neg (by omega),if_neg (λh=>k2 h.1),if_neg k2];exact⟨rfl,HT.out,HP.out⟩⟩;have HE:=aa hE;clear hE;go_enter Tryz.func171,Tryz.ntmps171;go_wp2;go_ret2;exact HE.out
end
section
namespace St
theorem rj:∀(m:Nat) (l:List UInt8) (n:Nat),l.length<=m->bC l=some n->1<=n/\n<=l.length
 | 0,l,n,hl,h=>by
  have h0:l=[]:=List.eq_nil_of_length_eq_zero (by omega);subst h0;cases h
 | m+1,[],n,hl,h=>by cases h
 | m+1,c :: r,n,hl,h=>by
  by_cases hc:c.toNat=34
  ·cases r with
   | nil=>rw[pQ hc]at h;cases h;simp
   | cons d r=>
    by_cases hd:d.toNat=34
    ·rw[rk hc hd]at h;cases hq:bC r with
     | none=>rw[hq]at h;cases h
     | some k=>
      rw[hq]at h;have:=rj m r k (by simp at hl;omega) hq
      simp at h;simp;omega
    rw[ri hc hd]at h;cases h;simp
  rw[oH hc]at h;cases hq:bC r with
  | none=>rw[hq]at h;cases h
  | some k=>
   rw[hq]at h;have:=rj m r k (by simp at hl;omega) hq
   simp at h;simp;omega
theorem mP{l:List UInt8}{k:Nat}{q:Bool}(h:cW l=some (k,q)):k<=l.length/\(q=true->2<=k):=by
 cases l with
 | nil=>rw[x6]at h;simp at h;obtain⟨rfl,rfl⟩:=h;simp
 | cons c r=>
  by_cases hc:c.toNat=34
  ·rw[wR hc]at h;cases hq:bC r with
   | none=>rw[hq]at h;cases h
   | some n=>
    rw[hq]at h;simp only at h
    split at h
    ·simp only[Option.some.injEq,Prod.mk.injEq]at h;obtain⟨rfl,rfl⟩:=h;have:=rj _ r n (Nat.le_refl _) hq
     simp;omega
    cases h
  rw[tu (λc' r' e=>by simp only[List.cons.injEq]at e;rw[<-e.1];exact hc)]at h
  split at h
  ·simp only[Option.some.injEq,Prod.mk.injEq]at h;obtain⟨rfl,rfl⟩:=h;refine⟨?_,λh=>by cases h⟩;exact(List.takeWhile_prefix _).length_le
  cases h
theorem su{d:List UInt8}{fuel a n tx aw:Nat}(h:cW (d.drop a)=none):eT d (fuel+1) a n tx aw=.error (a,2):=by
 rw[eT,h]
theorem mR{d:List UInt8}{fuel a n tx aw k:Nat}{q:Bool}(h:cW (d.drop a)=some (k,q)):eT d (fuel+1) a n tx aw=match d.drop (a+k)with
   | []=>.ok (a+k,n+1,(if aY d a (a+k)==[116,101,120,116]then tx+1 else tx),(if aY d a (a+k)==[116,101,120,116]then n else aw))
   | c :: _=>if c.toNat=10 then .ok (a+k,n+1,(if aY d a (a+k)==[116,101,120,116]then tx+1 else tx),(if aY d a (a+k)==[116,101,120,116]then n else aw))else eT d fuel (a+k+1) (n+1) (if aY d a (a+k)==[116,101,120,116]then tx+1 else tx) (if aY d a (a+k)==[116,101,120,116]then n else aw):=by
 rw[eT,h];simp only[];cases d.drop (a+k)<;>rfl
end St
def Pu(w:UY)(B tb pb:Nat)(d:ByteArray)(e:Ending)(w':UY):Prop:=
 Below B w w'/\match St.eT d.1.1 (d.1.1.length+1) 0 0 0 0 with
  | .error (a,er)=>er≠0/\e=UU (UR #[UM US a,UM US er])
  | .ok (en,n,tx,aw)=>if tx=0 then e=UU (UR #[UM US 0,UM US 6])else if 1<tx then e=UU (UR #[UM US 0,UM US 5])else
    e=UU (UR #[UM US (min (en+1) d.size:Nat),UM US 0])/\TV w' tb pb d 0 n aw tx/\PV w' B pb d ([],0)/\n<=100000/\aw<=100000/\en<=d.size
def PD(w:UY)(B tb pb:Nat)(d:ByteArray)(s6 s7:Value)(wr:UY):Prop:=
 ∃a n tx aw fuel:Nat,s6=UM US a/\s7=UM US n/\a<=d.size/\n<=a/\tx<=n/\aw<=n/\d.size+1-a<=fuel/\St.eT d.1.1 (d.1.1.length+1) 0 0 0 0=St.eT d.1.1 fuel a n tx aw/\TV wr tb pb d 0 n aw tx/\PV wr B pb d ([],0)/\Below B w wr
theorem Ij(w:UY)(B tb pb:Nat)(d:ByteArray)(hT:TV w tb pb d 0 0 0 0)(hP:PV w B pb d ([],0))(hB:B<=tb)(hBw:B<=w.1.size)(hd:d.size<=65536) :
  Calls Tryz.prog 125 #[UQ (some ⟨tb,0,none⟩),UM US 0] w (Pu w B tb pb d):=by
 have Gl:=aa hT;have Gi:=aa hP;clear hT hP;go_enter Tryz.func125,Tryz.ntmps125;go_wp2;go_loopw [6,7] (λs6 s7 wr=>PD w B tb pb d s6 s7 wr) (λs6 _ _=>d.size+1-(intOf s6).toNat)
 case atStart=>exact⟨0,0,0,0,d.1.1.length+1,rfl,rfl,by omega,by omega,by omega,by omega,by simp,rfl,Gl.out,Gi.out,Below.refl _ _⟩
 case round=>
  obtain⟨a,n,tx,aw,fuel,rfl,rfl,ha,vE,htx,hcol,hfu,hH,hT,hP,hbl⟩:=hrel;obtain⟨fuel,rfl⟩:∃m,fuel=m+1:=⟨fuel-1,by omega⟩;have hv:=hT;unfold TV at hv;have c0:wr.cell? ⟨tb,0,none⟩=some (UN d):=ak hv 0;have c2:wr.cell? ⟨tb,2,none⟩=some (UM US (0:Nat)):=ak hv 2;haveI:af tb wr:=af.of (ae hv);have HT:=aa hT;have HP:=aa hP;have HH:=aa hH;have cZ:=aa hbl;have HF:=aa (xZ d a wr ha (by omega));have wS:B<=wr.1.size:=Nat.le_trans hBw hbl.size;clear Gl Gi hv hT hP hH hbl;go_wp2_with fail;refine HF.out.mono ?_;rintro e w2 ⟨hu2,hm⟩;have aZ:=aa hu2;have g2:w2.cell? ⟨tb,2,none⟩=some (UM US (0:Nat)):=(hu2.cell (af.lt inferInstance)).trans c2;haveI:af tb w2:=af.of (cM _ _ g2);clear hu2 c0 c2;cases hs:St.cW (d.1.1.drop a)with
  | none=>
   rw[hs]at hm;obtain⟨x,y,rfl⟩:=hm;have hh:=HH.out.trans (St.su hs);have dN:=aa hh;clear hh hs HH HF;go_wp2;go_ret2;refine⟨cZ.out.trans (aZ.out.below.mono wS),?_⟩;rw[dN.out];exact⟨by decide,rfl⟩
  | some x=>
   obtain⟨k,q⟩:=x;rw[hs]at hm;simp only at hm;subst hm;obtain⟨hk1,_⟩:=St.mP hs;have hk2:a+k<=d.size:=by simp at hk1;omega
   have hh:=HH.out.trans (St.mR hs);have l4:=E4 w2 tb pb d n aw tx a (a+k) n (HT.out.ai aZ.out) (by omega) hk2 (by omega) (by omega) (by omega);have Oa:(if St.aY d.1.1 a (a+k)==[116,101,120,116]then n else aw)<=n+1:=by split<;>omega
   have OD:(if St.aY d.1.1 a (a+k)==[116,101,120,116]then tx+1 else tx)<=n+1:=by split<;>omega
   generalize(if St.aY d.1.1 a (a+k)==[116,101,120,116]then n else aw)=col2 at hh l4 Oa;generalize(if St.aY d.1.1 a (a+k)==[116,101,120,116]then tx+1 else tx)=rS at hh l4 OD;have AX:a<=a+k:=by omega
   generalize hm:a+k=m at hk2 hh l4 AX |-;have Qb:=aa l4;have dN:=aa hh;clear hh l4 hs HH HF hk1 hm;go_wp2_with fail;refine Qb.out.mono ?_;rintro e w3 ⟨rfl,hT3,hg3⟩;have rM:=PV.OW (HP.out.ai aZ.out) (HT.out.ai aZ.out) hg3;have yg:Below B w w3:=(cZ.out.trans (aZ.out.below.mono wS)).grown hg3 (Nat.le_trans wS aZ.out.size) (λg e=>by cases e;exact hB);have hv:=hT3;unfold TV at hv;have d0:w3.cell? ⟨tb,0,none⟩=some (UN d):=ak hv 0;have d2:w3.cell? ⟨tb,2,none⟩=some (UM US (0:Nat)):=ak hv 2;have d3:w3.cell? ⟨tb,3,none⟩=some (UM US (n+1:Nat)):=ak hv 3;have d5:w3.cell? ⟨tb,5,none⟩=some (UM US rS):=ak hv 5;haveI:af tb w3:=af.of (ae hv);have HE:=aa (And.intro hT3 (And.intro rM yg));clear hv hT3 hg3 rM yg g2 HT HP Qb;rcases Nat.lt_or_ge m d.size with fj|fj
   ·have ax:=St.drop_at d m fj;have y1:((m:Int)==(d.size:Int))=false:=by simp;omega
    have y3:(m:Int)<d.size:=by omega
    by_cases bB:d[m].toNat=10
    ·have y2:((d[m].toNat:Int)==10)=true:=by simp;omega
     have bQ:=dN.out;rw[ax]at bQ;simp only[bB,if_true]at bQ;have de:=aa bQ;clear bQ ax dN;rcases(show rS=0\/rS=1\/1<rS by omega)with q0|q1|q2
     ·subst q0;go_wp2;go_ret2;refine⟨HE.out.2.2,?_⟩;rw[de.out];rfl
     ·subst q1;go_wp2;go_ret2;refine⟨HE.out.2.2,?_⟩;rw[de.out];simp only[];rw[if_neg (by omega),if_neg (by omega)];have uj:((min (m+1) d.size:Nat):Int)=min ((m:Int)+1) (d.size:Int):=by omega
      exact⟨by rw[uj];rfl,HE.out.1,HE.out.2.1,by omega,by omega,by omega⟩
     have q2':(1:Int)<(rS:Int):=by omega
     have q3':((rS:Int)==0)=false:=by simp;omega
     go_wp2;go_ret2;refine⟨HE.out.2.2,?_⟩;rw[de.out];simp only[];rw[if_neg (by omega),if_pos q2];rfl
    have y2:((d[m].toNat:Int)==10)=false:=by simp;omega
    have bQ:=dN.out;rw[ax]at bQ;simp only[bB,if_false]at bQ;have de:=aa bQ;clear bQ ax dN;go_wp2;exact⟨⟨m+1,n+1,rS,col2,fuel,congrArg (UM US) (by omega),congrArg (UM US) (by omega),by omega,by omega,OD,Oa,by omega,de.out,HE.out.1,HE.out.2.1,HE.out.2.2⟩,by simp[intOf];omega⟩
   have hme:m=d.size:=by omega
   have hnil:=St.fD d m fj;have y1:((m:Int)==(d.size:Int))=true:=by simp;omega
   have bQ:=dN.out;rw[hnil]at bQ;simp only[]at bQ;have de:=aa bQ;clear bQ hnil dN;rcases(show rS=0\/rS=1\/1<rS by omega)with q0|q1|q2
   ·subst q0;go_wp2;go_ret2;refine⟨HE.out.2.2,?_⟩;rw[de.out];rfl
   ·subst q1;go_wp2;go_ret2;refine⟨HE.out.2.2,?_⟩;rw[de.out];simp only[];rw[if_neg (by omega),if_neg (by omega)];have uj:((min (m+1) d.size:Nat):Int)=min ((d.size:Int)+1) (d.size:Int):=by omega
    exact⟨by rw[uj];rfl,HE.out.1,HE.out.2.1,by omega,by omega,by omega⟩
   have q2':(1:Int)<(rS:Int):=by omega
   have q3':((rS:Int)==0)=false:=by simp;omega
   go_wp2;go_ret2;refine⟨HE.out.2.2,?_⟩;rw[de.out];simp only[];rw[if_neg (by omega),if_pos q2];rfl
end
section
namespace St
variable {dE:List UInt8->Nat × Int} {d key:List UInt8} {W C fuel a n k:Nat} {q:Bool} {s:PS}
theorem rl(h:cW (d.drop a)=none):dm dE d W C key (fuel+1) a n s=.error (a,2):=by
 rw[dm,h]
theorem tD(h:cW (d.drop a)=some (k,q))(hb:W<=n\/(n=C/\q=false)):dm dE d W C key (fuel+1) a n s=.error (a,2):=by
 rw[dm,h];simp only[];rw[if_pos hb]
theorem tE(h:cW (d.drop a)=some (k,q))(hb:¬(W<=n\/(n=C/\q=false)))(he:n=C/\(dE (aY d (a+1) (a+k-1))).2≠0):dm dE d W C key (fuel+1) a n s=.error (a+1+(dE (aY d (a+1) (a+k-1))).1,(dE (aY d (a+1) (a+k-1))).2):=by
 rw[dm,h];simp only[];rw[if_neg hb,if_pos he]
theorem rm(h:cW (d.drop a)=some (k,q))(hb:¬(W<=n\/(n=C/\q=false)))(he:¬(n=C/\(dE (aY d (a+1) (a+k-1))).2≠0)):dm dE d W C key (fuel+1) a n s=match d.drop (a+k)with
   | []=>.ok (a+k,n+1,if n=C then bg d s (a+1) (a+k-1) key else s)
   | c :: _=>if c.toNat=10 then .ok (a+k,n+1,if n=C then bg d s (a+1) (a+k-1) key else s)else dm dE d W C key fuel (a+k+1) (n+1) (if n=C then bg d s (a+1) (a+k-1) key else s):=by
 rw[dm,h];simp only[];rw[if_neg hb,if_neg he];cases d.drop (a+k)<;>rfl
end St
def PJ(w:UY)(B tb pb:Nat)(d:ByteArray)(r bd aw texts a0:Nat)(s:St.PS)(e:Ending)(w':UY):Prop:=
 Below B w w'/\match St.dm dE d.1.1 bd aw (Lib.decDigits r) (d.1.1.length+1) a0 0 s with
  | .error (a,er)=>er≠0/\e=UU (UR #[UM US a,UM US er])
  | .ok (en,n,s')=>if n<bd then e=UU (UR #[UM US a0,UM US 2])else
    e=UU (UR #[UM US (min (en+1) d.size:Nat),UM US 0])/\TV w' tb pb d r bd aw texts/\PV w' B pb d s'/\s'.2<=en/\en<=d.size/\a0<=en/\s'.1.length<=2*(en+1)
def PF(w:UY)(B tb pb:Nat)(d:ByteArray)(r bd aw texts a0:Nat)(s:St.PS)(s6 s7:Value)(wr:UY):Prop:=
 ∃(a n fuel:Nat) (s1:St.PS),s6=UM US a/\s7=UM US n/\a0<=a/\a<=d.size/\n<=a/\d.size+1-a<=fuel /\
  St.dm dE d.1.1 bd aw (Lib.decDigits r) (d.1.1.length+1) a0 0 s=St.dm dE d.1.1 bd aw (Lib.decDigits r) fuel a n s1/\TV wr tb pb d r bd aw texts/\PV wr B pb d s1/\s1.2<=a/\s1.1.length<=2*a/\Below B w wr
theorem Kn(w w0:UY)(B tb pb:Nat)(d:ByteArray)(r bd aw texts a0:Nat)(s:St.PS)(hT:TV w tb pb d r bd aw texts)(hP:PV w B pb d s)(ht:mM w0)(nu:B=w0.1.size)(h0:ac w0 w)(hd:d.size<=65536)(hr1:1<=r)(hr:r<=100000)(hc:bd<=100000)(hcl:aw<=100000)
  (ha0:a0<=d.size) (hs2:s.2<=a0) (hsl:s.1.length<=2*a0) :
  Calls Tryz.prog 125 #[UQ (some ⟨tb,0,none⟩),UM US a0] w (PJ w B tb pb d r bd aw texts a0 s):=by
 have Gl:=aa hT;have Gi:=aa hP;have Ah:=aa ht;have H0:=aa h0;have hBw:B<=w.1.size:=by rw[nu];exact h0.size
 have rD:=aa nu;clear hT hP ht h0 nu;go_enter Tryz.func125,Tryz.ntmps125;go_wp2;go_loopw [6,7] (λs6 s7 wr=>PF w B tb pb d r bd aw texts a0 s s6 s7 wr) (λs6 _ _=>d.size+1-(intOf s6).toNat)
 case atStart=>exact⟨a0,0,d.1.1.length+1,s,rfl,rfl,by omega,by omega,by omega,by simp<;>omega,rfl,Gl.out,Gi.out,hs2,hsl,Below.refl _ _⟩
 case round=>
  obtain⟨a,n,fuel,s1,rfl,rfl,haa,ha,vE,hfu,hH,hT,hP,hs3,hs4,hbl⟩:=hrel;obtain⟨fuel,rfl⟩:∃m,fuel=m+1:=⟨fuel-1,by omega⟩;have hv:=hT;unfold TV at hv;have c0:wr.cell? ⟨tb,0,none⟩=some (UN d):=ak hv 0;have c2:wr.cell? ⟨tb,2,none⟩=some (UM US r):=ak hv 2;haveI:af tb wr:=af.of (ae hv);have HT:=aa hT;have HP:=aa hP;have HH:=aa hH;have cZ:=aa hbl;have HF:=aa (xZ d a wr ha (by omega));have wS:B<=wr.1.size:=Nat.le_trans hBw hbl.size
  have Qy:ac w0 wr:=by
   have e:=rD.out;refine ac.cn (Below.trans H0.out.below ?_);rw[<-e];exact hbl
  have Sc:=aa Qy;clear Gl Gi hv hT hP hH hbl Qy;have r0:((r:Int)==0)=false:=by simp;omega
  have r1:(0:Int)<(r:Int):=by omega
  go_wp2_with fail;refine HF.out.mono ?_;rintro e w2 ⟨hu2,hm⟩;have aZ:=aa hu2;have g2:w2.cell? ⟨tb,2,none⟩=some (UM US r):=(hu2.cell (af.lt inferInstance)).trans c2;haveI:af tb w2:=af.of (cM _ _ g2);clear hu2 c0 c2;cases hs:St.cW (d.1.1.drop a)with
  | none=>
   rw[hs]at hm;obtain⟨x,y,rfl⟩:=hm;have hh:=HH.out.trans (St.rl hs);have dN:=aa hh;clear hh hs HH HF;go_wp2;go_ret2;refine⟨cZ.out.trans (aZ.out.below.mono wS),?_⟩;rw[dN.out];exact⟨by decide,rfl⟩
  | some x=>
   obtain⟨k,q⟩:=x;rw[hs]at hm;simp only at hm;subst hm;obtain⟨hk1,hkq⟩:=St.mP hs;have hk2:a+k<=d.size:=by simp at hk1;omega
   have OE:=F1 w2 w0 B tb pb d r bd aw texts s1 a (a+k) n q (HT.out.ai aZ.out) (HP.out.ai aZ.out) Ah.out rD.out (Sc.out.trans aZ.out) hs3 (by omega) hk2 (λ_ h=>by have:=hkq h;omega) hd hr hc hcl (by omega) (by omega);have hb1:=λhb=>HH.out.trans (St.tD (dE:=dE) (key:=Lib.decDigits r) (fuel:=fuel) (s:=s1) hs (W:=bd) (n:=n) (C:=aw) hb)
   have hb2:=λhb he=>HH.out.trans (St.tE (dE:=dE) (key:=Lib.decDigits r) (fuel:=fuel) (s:=s1) hs (W:=bd) (n:=n) (C:=aw) hb he)
   have hb3:=λhb he=>HH.out.trans (St.rm (dE:=dE) (key:=Lib.decDigits r) (fuel:=fuel) (s:=s1) hs (W:=bd) (n:=n) (C:=aw) hb he)
   have AX:a<=a+k:=by omega
   have LG:∀P:Prop,(n=aw->q=true->a+2<=a+k):=λ_ _ h=>by have:=hkq h;omega
   generalize hm:a+k=m at hk2 OE hb1 hb2 hb3 AX |-;have C6:=aa OE;have oN:=aa hb1;have CZ:=aa hb2;have tI:=aa hb3;clear OE hb1 hb2 hb3 hs HH HF hk1 hkq LG hm;go_wp2_with fail;refine C6.out.mono ?_;rintro e w3 ⟨lG,hm⟩;have yg:Below B w w3:=(cZ.out.trans (aZ.out.below.mono wS)).trans lG;have Jf:=aa yg;clear lG yg
   split at hm
   ·rename_i hb
    subst hm;have dN:=aa (oN.out hb);clear hb g2;go_wp2;go_ret2;refine⟨Jf.out,?_⟩;rw[dN.out];exact⟨by decide,rfl⟩
   rename_i hb
   split at hm
   ·rename_i he
    subst hm;have dN:=aa (CZ.out hb he);have hne:=he.2;generalize dE (St.aY d.1.1 (a+1) (m-1))=ev at dN hne;obtain⟨ei,er⟩:=ev;have hnb:(er==0)=false:=by simpa using hne
    have lq:=aa hne;clear hb he hne g2;go_wp2;go_ret2;refine⟨Jf.out,?_⟩;rw[dN.out];exact⟨lq.out,by rfl⟩
   rename_i he
   obtain⟨rfl,hT3,rM⟩:=hm;have dN:=aa (tI.out hb he)
   have hs5:(if n=aw then St.bg d.1.1 s1 (a+1) (m-1) (Lib.decDigits r)else s1).2<=m:=by
    split
    ·show m-1<=m;omega
    omega
   have LL:(if n=aw then St.bg d.1.1 s1 (a+1) (m-1) (Lib.decDigits r)else s1).1.length<=2*(a+1):=by
    split
    ·show(s1.1++[_,_]).length<=_;simp;omega
    omega
   have Te:n<bd:=by omega
   generalize(if n=aw then St.bg d.1.1 s1 (a+1) (m-1) (Lib.decDigits r)else s1)=s2 at dN rM hs5 LL;have hv:=hT3;unfold TV at hv;have d0:w3.cell? ⟨tb,0,none⟩=some (UN d):=ak hv 0;have d2:w3.cell? ⟨tb,2,none⟩=some (UM US r):=ak hv 2;have d3:w3.cell? ⟨tb,3,none⟩=some (UM US bd):=ak hv 3;haveI:af tb w3:=af.of (ae hv);have HE:=aa (And.intro hT3 (And.intro rM Jf.out));clear hv hT3 rM g2 HT HP hb he C6 oN CZ tI;rcases Nat.lt_or_ge m d.size with fj|fj
   ·have ax:=St.drop_at d m fj;have y1:((m:Int)==(d.size:Int))=false:=by simp;omega
    have y3:(m:Int)<d.size:=by omega
    by_cases bB:d[m].toNat=10
    ·have y2:((d[m].toNat:Int)==10)=true:=by simp;omega
     have bQ:=dN.out;rw[ax]at bQ;simp only[bB,if_true]at bQ;have de:=aa bQ;clear bQ ax dN
     by_cases hw:n+1<bd
     ·have hw':(n:Int)+1<(bd:Int):=by omega
      go_wp2;go_ret2;refine⟨HE.out.2.2,?_⟩;rw[de.out];simp only[];rw[if_pos hw];rfl
     have hw':¬(n:Int)+1<(bd:Int):=by omega
     go_wp2;go_ret2;refine⟨HE.out.2.2,?_⟩;rw[de.out];simp only[];rw[if_neg hw];have uj:((min (m+1) d.size:Nat):Int)=min ((m:Int)+1) (d.size:Int):=by omega
     exact⟨by rw[uj];rfl,HE.out.1,HE.out.2.1,hs5,by omega,by omega,by omega⟩
    have y2:((d[m].toNat:Int)==10)=false:=by simp;omega
    have bQ:=dN.out;rw[ax]at bQ;simp only[bB,if_false]at bQ;have de:=aa bQ;clear bQ ax dN;go_wp2;exact⟨⟨m+1,n+1,fuel,s2,congrArg (UM US) (by omega),congrArg (UM US) (by omega),by omega,by omega,by omega,by omega,de.out,HE.out.1,HE.out.2.1,by omega,by omega,HE.out.2.2⟩,by simp[intOf];omega⟩
   have hme:m=d.size:=by omega
   have hnil:=St.fD d m fj;have y1:((m:Int)==(d.size:Int))=true:=by simp;omega
   have bQ:=dN.out;rw[hnil]at bQ;simp only[]at bQ;have de:=aa bQ;clear bQ hnil dN
   by_cases hw:n+1<bd
   ·have hw':(n:Int)+1<(bd:Int):=by omega
    go_wp2;go_ret2;refine⟨HE.out.2.2,?_⟩;rw[de.out];simp only[];rw[if_pos hw];rfl
   have hw':¬(n:Int)+1<(bd:Int):=by omega
   go_wp2;go_ret2;refine⟨HE.out.2.2,?_⟩;rw[de.out];simp only[];rw[if_neg hw];have uj:((min (m+1) d.size:Nat):Int)=min ((d.size:Int)+1) (d.size:Int):=by omega
   exact⟨by rw[uj];rfl,HE.out.1,HE.out.2.1,hs5,by omega,by omega,by omega⟩
end
section
theorem jP(d:ByteArray)(w:UY):Calls Tryz.prog 75 #[UN d] w λe w'=>e=UU (UQ (some ⟨w.1.size,0,none⟩))/\w'=w.alloc (UT #[UN d,UM US 0,UO none 0 0] 161):=by
 go_enter Tryz.func75,Tryz.ntmps75;go_wp2;go_ret;exact⟨rfl,rfl⟩
namespace St
variable {dE:List UInt8->Nat × Int} {dig:Nat->List UInt8} {d:List UInt8} {W C:Nat}
theorem mv(fuel a r:Nat)(s:PS)(h:d.length<=a):cw dE dig d W C fuel a r s=.ok s:=by
 cases fuel with
 | zero=>rfl
 | succ f=>rw[cw,if_pos h]
theorem BW(fuel e r:Nat)(s:PS)(he:e<=d.length):cw dE dig d W C fuel (e+1) r s=cw dE dig d W C fuel (min (e+1) d.length) r s:=by
 by_cases h:e+1<=d.length
 ·rw[Nat.min_eq_left h]
 rw[mv _ _ _ _ (by omega),mv _ _ _ _ (by omega)]
theorem mw{fuel a r:Nat}{s:PS}{x:Nat × Int}(h:¬d.length<=a)(hr:dm dE d W C (dig r) (d.length+1) a 0 s=.error x):cw dE dig d W C (fuel+1) a r s=.error x:=by
 rw[cw,if_neg h,hr]
theorem kX{fuel a r e n:Nat}{s s':PS}(h:¬d.length<=a)(hr:dm dE d W C (dig r) (d.length+1) a 0 s=.ok (e,n,s'))(hn:n<W):cw dE dig d W C (fuel+1) a r s=.error (a,2):=by
 rw[cw,if_neg h,hr];simp only[];rw[if_pos hn]
theorem MO{fuel a r e n:Nat}{s s':PS}(h:¬d.length<=a)(hr:dm dE d W C (dig r) (d.length+1) a 0 s=.ok (e,n,s'))(hn:¬n<W)(he:e<=d.length):cw dE dig d W C (fuel+1) a r s=cw dE dig d W C fuel (min (e+1) d.length) (r+1) s':=by
 rw[cw,if_neg h,hr];simp only[];rw[if_neg hn,BW _ _ _ _ he]
theorem sX{a:Nat}{er:Int}(h0:¬65536<d.length)(h:eT d (d.length+1) 0 0 0 0=.error (a,er)):eB dE dig d=([],a,er):=by
 rw[eB,if_neg h0,h]
theorem nO{e n tx c:Nat}(h0:¬65536<d.length)(h:eT d (d.length+1) 0 0 0 0=.ok (e,n,tx,c))(ht:tx=0):eB dE dig d=([],0,6):=by
 rw[eB,if_neg h0,h];simp only[];rw[if_pos ht]
theorem kf{e n tx c:Nat}(h0:¬65536<d.length)(h:eT d (d.length+1) 0 0 0 0=.ok (e,n,tx,c))(ht:tx≠0)(ht2:1<tx):eB dE dig d=([],0,5):=by
 rw[eB,if_neg h0,h];simp only[];rw[if_neg ht,if_pos ht2]
def pI(d:List UInt8):Except (Nat × Int) PS->List Pt × Nat × Int
 | .error (a,e)=>([],a,e)
 | .ok s=>(cD d s,0,0)
theorem KM{e n tx c:Nat}(h0:¬65536<d.length)(h:eT d (d.length+1) 0 0 0 0=.ok (e,n,tx,c))(ht:tx≠0)(ht2:¬1<tx)(he:e<=d.length):eB dE dig d=pI d (cw dE dig d n c (d.length+1) (min (e+1) d.length) 1 ([],0)):=by
 rw[eB,if_neg h0,h];simp only[];rw[if_neg ht,if_neg ht2,BW _ _ _ _ he];cases cw dE dig d n c (d.length+1) (min (e+1) d.length) 1 ([],0)<;>rfl
end St
def fz(d:ByteArray):List St.Pt × Nat × Int:=St.eB dE Lib.decDigits d.1.1
def aF(R:List St.Pt × Nat × Int)(w:UY)(e:Ending)(w':UY):Prop:=
 ∃(A:Option Addr) (c:Nat),e=UU (UR #[UO A R.1.length c,UM US (R.2.1:Int),UM US R.2.2])/\bn w' A R.1/\R.1.length<=c/\c<=9223372036854775807/\ac w w'
theorem aF.err{R:List St.Pt × Nat × Int}{w w':UY}{a:Nat}{er:Int}(h:R=([],a,er))(u:ac w w'):aF R w (UU (UR #[UO none 0 0,UM US a,UM US er])) w':=by
 subst h;exact⟨none,0,rfl,λh=>absurd h (by simp),by simp,by omega,u⟩
def PO(w:UY)(d:ByteArray)(s3:Value)(wr:UY):Prop:=
 ac w wr/\((s3=UM US (0:Nat)/\TV wr (w.1.size+1) w.1.size d 0 0 0 0/\PV wr w.1.size w.1.size d ([],0))\/
  ∃(a r bd aw tx fuel:Nat) (s:St.PS),s3=UM US a/\a<=d.size/\1<=r/\r<=a+1/\bd<=100000/\aw<=100000/\d.size-a<fuel/\s.2<=a/\s.1.length<=2*(a+1)/\(a<d.size->s.1.length<=2*a) /\
   TV wr (w.1.size+1) w.1.size d r bd aw tx/\PV wr w.1.size w.1.size d s/\fz d=St.pI d.1.1 (St.cw dE Lib.decDigits d.1.1 bd aw fuel a r s))
open Classical in
noncomputable def D5(d:ByteArray)(s3:Value)(wr:UY)(g:Nat):Nat:=if wr.cell? ⟨g,2,none⟩=some (UM US (0:Nat))then d.size+2 else d.size+1-(intOf s3).toNat
theorem xm{d:ByteArray}{s3:Value}{wr:UY}{g r:Nat}(h:wr.cell? ⟨g,2,none⟩=some (UM US r))(hr:1<=r):D5 d s3 wr g=d.size+1-(intOf s3).toNat:=by
 unfold D5;rw[if_neg];intro e;rw[h]at e;simp at e;omega
theorem D8{w:UY}{tb pb:Nat}{d:ByteArray}{r bd aw tx:Nat}(h:TV w tb pb d r bd aw tx)(m:Int)(hm:m=((r+1:Nat):Int)):TV (w.setCell ⟨tb,2,none⟩ (UM US m)) tb pb d (r+1) bd aw tx:=by
 subst hm;exact heap_setCell_same w tb 2 _ _ _ h
theorem FW(d:ByteArray)(w:UY)(ht:mM w)(fZ:d.size<=4611686018427387904):Calls Tryz.prog 85 #[UN d] w (aF (fz d) w):=by
 have hlen:=St.aC d;have Ah:=aa ht
 by_cases hbig:65536<d.size
 ·have hR:fz d=([],0,3):=by unfold fz St.eB;rw[if_pos (by omega)]
  have HR:=aa hR;have hb:(65536:Int)<d.size:=by omega
  clear hR ht hlen;go_enter Tryz.func85,Tryz.ntmps85;go_wp2;go_ret3;exact aF.err HR.out (ac.refl _)
 have hb:¬(65536:Int)<d.size:=by omega
 have h0l:¬65536<d.1.1.length:=by omega
 have nk:=aa h0l;have HLEN:=aa hlen;have hd:d.size<=65536:=by omega
 clear ht hlen h0l
 have lh:PV ((w.alloc (UT #[UN d,UM US 0,UO none 0 0] 161)).alloc (UT #[UN d,UQ (some ⟨w.1.size,0,none⟩),UM US 0,UM US 0,UM US 0,UM US 0] 174)) w.1.size w.1.size d ([],0):=
  PV.ai ⟨Nat.le_refl _,UO none 0 0,heap_alloc_new w _,World.ownsRow_nil _ _ _ _⟩ ((ac.refl _).alloc _)
 have hT0:TV ((w.alloc (UT #[UN d,UM US 0,UO none 0 0] 161)).alloc (UT #[UN d,UQ (some ⟨w.1.size,0,none⟩),UM US 0,UM US 0,UM US 0,UM US 0] 174)) (w.1.size+1) w.1.size d 0 0 0 0:=by
  have:=heap_alloc_new (w.alloc (UT #[UN d,UM US 0,UO none 0 0] 161)) (UT #[UN d,UQ (some ⟨w.1.size,0,none⟩),UM US 0,UM US 0,UM US 0,UM US 0] 174)
  simpa[TV]using this
 have QJ:ac w ((w.alloc (UT #[UN d,UM US 0,UO none 0 0] 161)).alloc (UT #[UN d,UQ (some ⟨w.1.size,0,none⟩),UM US 0,UM US 0,UM US 0,UM US 0] 174)):=uZ;have ju:=aa (And.intro QJ (And.intro hT0 lh));clear lh hT0 QJ;go_enter Tryz.func85,Tryz.ntmps85;go_wp2_with (go_at_call 75;refine(jP d _).mono ?_;rintro e w' ⟨rfl,rfl⟩);go_loopw [3] (λs3 wr=>PO w d s3 wr) (λs3 wr=>D5 d s3 wr (w.1.size+1))
 case atStart=>exact⟨ju.out.1,.inl ⟨rfl,ju.out.2.1,ju.out.2.2⟩⟩
 case round=>
  obtain⟨hu,hrel⟩:=hrel;clear ju;have HU:=aa hu;have hsz:=hu.size;clear hu;rcases hrel with⟨rfl,hT,hP⟩|⟨a,r,bd,aw,tx,fuel,s,rfl,ha,hr1,hr2,hc1,hc2,hfu,hs2,hs3,hs4,hT,hP,hS⟩
  ·have hv:=hT;unfold TV at hv;have c2:wr.cell? ⟨w.1.size+1,2,none⟩=some (UM US (0:Nat)):=ak hv 2;have tz:D5 d (UM US (0:Nat)) wr (w.1.size+1)=d.size+2:=by unfold D5;rw[if_pos c2]
   haveI:af (w.1.size+1) wr:=af.of (ae hv);have HN:=aa (Ij wr w.1.size (w.1.size+1) w.1.size d hT hP (by omega) hsz hd);have HM:=aa tz;clear hv hT hP tz
   by_cases z:0<d.size
   all_goals
    go_wp2_with fail;refine HN.out.mono ?_;rintro e w3 ⟨hbl,hm⟩;have hu3:ac w w3:=ac.cn (Below.trans HU.out.below hbl);have bm:=aa hu3;clear hbl hu3 HN c2;cases hh:St.eT d.1.1 (d.1.1.length+1) 0 0 0 0 with
    | error x=>
     obtain⟨a,er⟩:=x;rw[hh]at hm;simp only at hm;obtain⟨her,rfl⟩:=hm;have hR:=aa (St.sX (dE:=dE) (dig:=Lib.decDigits) nk.out hh);have hnb:(er==0)=false:=by simpa using her
     clear her hh;go_wp2;go_ret3;exact aF.err hR.out bm.out
    | ok x=>
     obtain⟨en,n,tx,aw⟩:=x;rw[hh]at hm;simp only at hm
     split at hm
     ·rename_i ht
      subst hm;have hR:=aa (St.nO (dE:=dE) (dig:=Lib.decDigits) nk.out hh ht);clear hh ht;go_wp2;go_ret3;exact aF.err hR.out bm.out
     rename_i ht
     split at hm
     ·rename_i ht2
      subst hm;have hR:=aa (St.kf (dE:=dE) (dig:=Lib.decDigits) nk.out hh ht ht2);clear hh ht ht2;go_wp2;go_ret3;exact aF.err hR.out bm.out
     rename_i ht2
     obtain⟨rfl,hT3,rM,hn,hcol,hen⟩:=hm;have hl:=HLEN.out;have hR:=St.KM (dE:=dE) (dig:=Lib.decDigits) nk.out hh ht ht2 (by omega);rw[hl]at hR;have v2:w3.cell? ⟨w.1.size+1,2,none⟩=some (UM US (0:Nat)):=ak hT3 2;have f2:w3.frozen? ⟨w.1.size+1,2,none⟩=false:=bk hT3 2;haveI:af (w.1.size+1) w3:=af.of (ae hT3);have yh:=D8 hT3 1 rfl;have G9:=PV.OW rM hT3 (cK w3 ⟨w.1.size+1,2,none⟩ (UM US 1));have a6:ac w (w3.setCell ⟨w.1.size+1,2,none⟩ (UM US 1)):=bm.out.vV (cK w3 ⟨w.1.size+1,2,none⟩ _) (λg e=>by cases e;exact Nat.le_succ _);have HE:=aa (And.intro hR (And.intro yh (And.intro G9 a6)));have yq:((min (en+1) d.size:Nat):Int)=min ((en:Int)+1) (d.size:Int):=by omega
     clear hR hT3 yh rM G9 a6 hh ht ht2 hl;go_wp2;refine⟨⟨HE.out.2.2.2,.inr ⟨min (en+1) d.size,1,n,aw,tx,d.size+1,([],0),congrArg (UM US) (by omega),by omega,by omega,by omega,hn,hcol,by omega,by simp,by simp,by simp,HE.out.2.1,HE.out.2.2.1,HE.out.1⟩⟩,?_⟩;have hsp:=xm (r:=0+1) (d:=d) (s3:=UM US (min ((en:Int)+1) (d.size:Int))) (ak HE.out.2.1 2) (by omega);rw[hsp,HM.out]
     show d.size+1-(min ((en:Int)+1) (d.size:Int)).toNat<d.size+2
     omega
  have hv:=hT;unfold TV at hv;have c2:wr.cell? ⟨w.1.size+1,2,none⟩=some (UM US r):=ak hv 2;have c1:wr.cell? ⟨w.1.size+1,1,none⟩=some (UQ (some ⟨w.1.size,0,none⟩)):=ak hv 1;have tz:D5 d (UM US a) wr (w.1.size+1)=d.size+1-a:=by rw[xm c2 hr1];rfl
  haveI:af (w.1.size+1) wr:=af.of (ae hv);have HM:=aa tz;have r0:((r:Int)==0)=false:=by simp;omega
  by_cases hlt:a<d.size
  ·have HN:=aa (Kn wr w w.1.size (w.1.size+1) w.1.size d r bd aw tx a s hT hP Ah.out rfl HU.out hd hr1 (by omega) hc1 hc2 ha hs2 (hs4 hlt));have HS:=aa hS;obtain⟨fuel,rfl⟩:∃m,fuel=m+1:=⟨fuel-1,by omega⟩;have z:(a:Int)<d.size:=by omega
   have hal:¬d.1.1.length<=a:=by rw[HLEN.out];omega
   have ef:=aa hal;clear hv hT hP tz hS hs4 hal;go_wp2_with fail;refine HN.out.mono ?_;rintro e w3 ⟨hbl,hm⟩;have hu3:ac w w3:=ac.cn (Below.trans HU.out.below hbl);have bm:=aa hu3;clear hbl hu3 HN c2 c1;cases hh:St.dm dE d.1.1 bd aw (Lib.decDigits r) (d.1.1.length+1) a 0 s with
   | error x=>
    obtain⟨a2,er⟩:=x;rw[hh]at hm;simp only at hm;obtain⟨her,rfl⟩:=hm;have hR:=aa (HS.out.trans (show St.pI d.1.1 (St.cw dE Lib.decDigits d.1.1 bd aw (fuel+1) a r s)=([],a2,er)by rw[St.mw ef.out hh];rfl));have hnb:(er==0)=false:=by simpa using her
    clear her hh;go_wp2;go_ret3;exact aF.err hR.out bm.out
   | ok x=>
    obtain⟨en,n,s'⟩:=x;rw[hh]at hm;simp only at hm
    split at hm
    ·rename_i hnc
     subst hm;have hR:=aa (HS.out.trans (show St.pI d.1.1 (St.cw dE Lib.decDigits d.1.1 bd aw (fuel+1) a r s)=([],a,2)by rw[St.kX ef.out hh hnc];rfl));clear hh hnc;go_wp2;go_ret3;exact aF.err hR.out bm.out
    rename_i hnc
    obtain⟨rfl,hT3,rM,h5,h6,h7,h8⟩:=hm;have hl:=HLEN.out;have hR:=HS.out;rw[St.MO ef.out hh hnc (by omega),hl]at hR;have v2:w3.cell? ⟨w.1.size+1,2,none⟩=some (UM US r):=ak hT3 2;have f2:w3.frozen? ⟨w.1.size+1,2,none⟩=false:=bk hT3 2;haveI:af (w.1.size+1) w3:=af.of (ae hT3);have ys:((r:Int)+1)=((r+1:Nat):Int):=by omega
    have yh:=D8 hT3 ((r:Int)+1) ys;have G9:=PV.OW rM hT3 (cK w3 ⟨w.1.size+1,2,none⟩ (UM US ((r:Int)+1)));have a6:ac w (w3.setCell ⟨w.1.size+1,2,none⟩ (UM US ((r:Int)+1))):=bm.out.vV (cK w3 ⟨w.1.size+1,2,none⟩ _) (λg e=>by cases e;exact Nat.le_succ _);have HE:=aa (And.intro hR (And.intro yh (And.intro G9 a6)));have yq:((min (en+1) d.size:Nat):Int)=min ((en:Int)+1) (d.size:Int):=by omega
    clear hR hT3 yh rM G9 a6 hh hnc hl ys;go_wp2;refine⟨⟨HE.out.2.2.2,.inr ⟨min (en+1) d.size,r+1,bd,aw,tx,fuel,s',congrArg (UM US) (by omega),by omega,by omega,by omega,hc1,hc2,by omega,by omega,by omega,by omega,HE.out.2.1,HE.out.2.2.1,HE.out.1⟩⟩,?_⟩;have hsp:=xm (r:=r+1) (d:=d) (s3:=UM US (min ((en:Int)+1) (d.size:Int))) (ak HE.out.2.1 2) (by omega);rw[hsp,HM.out]
    show d.size+1-(min ((en:Int)+1) (d.size:Int)).toNat<d.size+1-a
    omega
  have He:a=d.size:=by omega
  have HL:=aa (uA wr w.1.size w.1.size d s hP (by omega) (by omega) (by omega) hsz);have hR:=aa (hS.trans (show St.pI d.1.1 (St.cw dE Lib.decDigits d.1.1 bd aw fuel a r s)=(St.cD d.1.1 s,0,0)by rw[St.mv _ _ _ _ (by rw[HLEN.out];omega)];rfl));have z:¬(a:Int)<d.size:=by omega
  clear hv hT hP tz hS hs4;go_wp2_with fail;refine HL.out.mono ?_;rintro e w3 ⟨A,c,rfl,li,hq1,hq2,hbl⟩;have HE:=aa (And.intro li (ac.cn (Below.trans HU.out.below hbl)));have mh:=aa hq1;clear li hbl hq1 HL;go_wp2;go_ret3;unfold aF;rw[hR.out];exact⟨A,c,by simp[St.cD],HE.out.1,by simpa[St.cD]using mh.out,hq2,HE.out.2⟩
end
end Go.Proofs.YthoemdibbldndaaGreatDoor.Sh
