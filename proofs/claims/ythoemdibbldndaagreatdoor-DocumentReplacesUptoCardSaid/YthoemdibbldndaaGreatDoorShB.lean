/- The contracts of strconv.Itoa at this translation and of the table's field. -/
import Derived.Test.YthoemdibbldndaaGreatDoorPart
import Derived.Test.YthoemdibbldndaaGreatDoorShA
import Derived.WalkSmall
import Derived.Deep.RegionHeld3
set_option linter.all false
set_option maxHeartbeats 0
set_option maxRecDepth 20000
open Go.Value renaming int->VD,string->VE,slice->VF,pointer->VH,tuple->VI
open Go.IntKind renaming i64->VJ
open Go.Obj renaming cells->VK
open Go.Ending renaming returned->VL
open Go renaming World->VO
namespace Go.Proofs.YthoemdibbldndaaGreatDoor.Sh
open Go.RowKit Go.Proofs.YthoemdibbldndaaGreatDoor.St
section
def qe:String:=(Rows.documentLimitsRow.named).getD 1 "x"
def mA(w:VO):Prop:=Lib.TabIs Tryz.prog w qe .u64 Lib.pow10Tab
theorem mA.ah{w w':VO}(h:ac w w')(t:mA w):mA w':=by
 unfold mA Lib.TabIs World.var? at t |-;cases hg:Program.globalNamed Tryz.prog qe with
 | none=>rw[hg]at t;simp at t
 | some g=>
  rw[hg]at t;simp only[Option.bind_some]at t |-
  have hlt:g<w.1.size:=by
   rcases Nat.lt_or_ge g w.1.size with h|h
   ·exact h
   rw[Array.getElem?_eq_none h]at t;simp at t
  rw[h.below.block g hlt];exact t
theorem ac.grow{a b:VO}(h:ac a b)(os:Array Obj):ac a (Go.Sort.grow b os):=by
 refine ac.mk ⟨h.below.os,h.below.tape,h.below.output,?_,λk hk=>?_⟩
 ·have:=h.below.size;unfold Go.Sort.grow;simp;omega
 unfold Go.Sort.grow;have:=h.below.size
 rw[Array.getElem?_append_left (by omega)];exact h.below.block k hk
theorem uE(n:Nat)(w:VO)(h1:n<=4611686018427387904)(t:mA w) :
  Calls Tryz.prog 124 #[VD VJ n] w λe w'=>e=VL (VE ⟨(Lib.decDigits n).toArray⟩)/\ac w w':=by
 refine(Any.strconv_Itoa Tryz.Bm n (by omega) (by omega) w t).mono ?_;rintro e w' ⟨rfl,k,os,rfl⟩;refine⟨?_,ac.grow ((ac.refl w).drewN k) os⟩;unfold Lib.itoa;rw[if_neg (by omega)];simp
theorem wj{P:Program}{ops:Array Oper}{o:Oper}{a:Act}{w:VO}{K:Act->VO->Prop}{Q:Exit->Act->VO->Prop}{E:Prop}
  (hg:o.guard=none) (f:FuncId) (args:Array Value) (v:Value) (R:VO->VO->Prop) (hc:Calls P f args w λe w'=>e=VL v/\R w w')
  (hrun:(execOp a.eval o).run P w=.ok (.enter f args) w) (hK:∀w',R w w'->K (a.put o.dst v) w') :
  if Region.wanted o (yielded ops a.tmps)=true then Oper.wp P o a w K Q else E:=by
 have hw:Region.wanted o (yielded ops a.tmps)=true:=by simp[Region.wanted,hg]
 rw[if_pos hw];unfold Oper.wp;rw[hrun];refine hc.mono ?_;rintro e w' ⟨rfl,hu⟩;exact hK w' hu
def dE(l:List UInt8):Nat × Int:=((St.dec St.ch l.length l 0 0 [] []).2.2.1,(St.dec St.ch l.length l 0 0 [] []).2.2.2)
theorem kr(x:ByteArray):dE x.1.1=((gf x).2.2.1,(gf x).2.2.2):=by
 unfold dE gf;rw[St.aD]
theorem pL:∀(fuel:Nat) (l:List UInt8) (a d:Nat) (f:List St.It) (cuts:List Nat),(St.dec St.ch fuel l a d f cuts).2.2.1<=a+l.length
 | 0,l,a,d,f,cuts=>by simp[St.dec]
 | fuel+1,l,a,d,f,cuts=>by
  by_cases h0:l=[]
  ·subst h0;rw[St.pM];simp
  cases hs:St.ch l with
  | none=>rw[St.nV fuel a d f cuts h0 hs];simp
  | some x=>
   obtain⟨k,t,n⟩:=x;obtain⟨hk,fZ,eV⟩:=St.sM hs
   by_cases hf:512<(St.aV f (k,t,0)).length\/1024<=cuts.length
   ·rw[St.nU fuel a d f cuts h0 hs (by omega) hf];simp
   rw[St.nW fuel a d f cuts h0 hs (by omega) hf];have h:=pL fuel (l.drop n) (a+n) (a+n) (St.aV f (k,t,0)) (cuts++[d]);rw[List.length_drop]at h;omega
theorem yM(x:ByteArray):(gf x).2.2.1<=x.size:=by
 have:=pL x.size x.1.1 0 0 [] []
 rw[St.aD]at this;unfold gf;omega
def zm(w:VO)(B tb pb:Nat)(d:ByteArray)(r bf aN texts:Nat)(s:St.PS)(a b n:Nat)(q:Bool)(e:Ending)(w':VO):Prop:=
 Below B w w'/\if bf<=n\/(n=aN/\q=false)then e=VL (VI #[VD VJ a,VD VJ 2])else
  if n=aN/\(dE (St.be d.1.1 (a+1) (b-1))).2≠0 then e=VL (VI #[VD VJ ((a+1+(dE (St.be d.1.1 (a+1) (b-1))).1:Nat):Int),VD VJ (dE (St.be d.1.1 (a+1) (b-1))).2])else
   e=VL (VI #[VD VJ 0,VD VJ 0])/\TV w' tb pb d r bf aN texts/\PV w' B pb d (if n=aN then St.bQ d.1.1 s (a+1) (b-1) (Lib.decDigits r)else s)
theorem Fm(w w0:VO)(B tb pb:Nat)(d:ByteArray)(r bf aN texts:Nat)(s:St.PS)(a b n:Nat)(q:Bool)(hT:TV w tb pb d r bf aN texts)(hP:PV w B pb d s)(ht:mA w0)(mT:B=w0.1.size)(h0:ac w0 w)
  (h1:s.2<=a) (h2:a<=b) (h3:b<=d.size) (hq:n=aN->q=true->a+2<=b) (hd:d.size<=65536) (hr:r<=100000) (hc:bf<=100000) (hcl:aN<=100000) (hn:n<=100000) (hl:s.1.length<=1000000) :
  Calls Tryz.prog 171 #[VH (some ⟨tb,0,none⟩),VD VJ a,VD VJ b,VD VJ n,.bool q] w (zm w B tb pb d r bf aN texts s a b n q):=by
 have hBw:B<=w.1.size:=by rw[mT];exact h0.size
 have hv:=hT;unfold TV at hv;have c0:w.cell? ⟨tb,0,none⟩=some (VE d):=ai hv 0;have c1:w.cell? ⟨tb,1,none⟩=some (VH (some ⟨pb,0,none⟩)):=ai hv 1;have c2:w.cell? ⟨tb,2,none⟩=some (VD VJ r):=ai hv 2;have c3:w.cell? ⟨tb,3,none⟩=some (VD VJ bf):=ai hv 3;have c4:w.cell? ⟨tb,4,none⟩=some (VD VJ aN):=ai hv 4;haveI:af tb w:=af.of (ae hv);have HT:=aa hT;have HP:=aa hP;have zQ:=aa ht;have H0:=aa h0;clear hv hT hP ht h0 mT
 by_cases k1:bf<=n
 ·have TS:(bf:Int)<=(n:Int):=by omega
  have hE:zm w B tb pb d r bf aN texts s a b n q (VL (VI #[VD VJ a,VD VJ 2])) w:=⟨Below.refl _ _,by rw[if_pos (Or.inl k1)]⟩;have HE:=aa hE;clear hE;go_enter Tryz.func171,Tryz.ntmps171;go_wp2;go_ret2;exact HE.out
 have TS:¬(bf:Int)<=(n:Int):=by omega
 by_cases k2:n=aN
 ·subst k2;have m2:((n:Int)==(n:Int))=true:=by simp
  cases q
  ·have hE:zm w B tb pb d r bf n texts s a b n false (VL (VI #[VD VJ a,VD VJ 2])) w:=⟨Below.refl _ _,by rw[if_pos (Or.inr ⟨rfl,rfl⟩)]⟩;have HE:=aa hE;clear hE;go_enter Tryz.func171,Tryz.ntmps171;go_wp2;go_ret2;exact HE.out
  have hq2:=hq rfl rfl;obtain⟨b2,rfl⟩:∃b2,b=b2+1:=⟨b-1,by omega⟩;obtain⟨x,hX⟩:∃x,d.extract (a+1) b2=x:=⟨_,rfl⟩;have hxl:x.1.1=St.be d.1.1 (a+1) (b2+1-1):=by rw[<-hX,dU];rfl
  have hxs:x.size<=d.size:=by rw[<-hX];simp;omega
  have N8:=kr x;rw[hxl]at N8;have MA:=aa N8;have iL:=aa (λW=>tU x W (by omega));have z1:(a:Int)+1<=(b2:Int):=by omega
  have z2:(b2:Int)<=d.size:=by omega
  have z3:(0:Int)<=(a:Int)+1:=by omega
  have z4:(b2:Int)+1-1=b2:=by omega
  have ha1:((a+1:Nat):Int)=(a:Int)+1:=by omega
  have jm:=aa (λW (hW:ac w W)=>(by have h:=Kb W B pb d ⟨(Lib.decDigits r).toArray⟩ s (a+1) b2 (HP.out.ah hW) (by omega) (by omega) (by omega) (by omega) hl (Nat.le_trans hBw hW.size);rw[ha1]at h;exact h:Calls Tryz.prog 79 #[VH (some ⟨pb,0,none⟩),VD VJ ((a:Int)+1),VD VJ b2,VE ⟨(Lib.decDigits r).toArray⟩] W λe w'=>e=VL (VI #[])/\PV w' B pb d (St.bQ d.1.1 s (a+1) b2 (Lib.decDigits r))/\Below B W w'/\eL mI W w'));have HIT:=aa (λW (hW:ac w W)=>uE r W (by omega) (zQ.out.ah (H0.out.trans hW)));have hat:=yM x;clear hxl N8 hq hq2 ha1;generalize hR:gf x=R at *;obtain⟨f,cu,i,er⟩:=R;simp only at hat;have U9:i<=65536:=by omega
  by_cases ke:er=0
  ·subst ke;go_enter Tryz.func171,Tryz.ntmps171;go_wp2_with fail;refine(iL.out _).mono ?_;rintro e w2 ⟨A,c,rfl,_,_,_,hu2⟩;have aW:=aa hu2;clear hu2;go_wp2_with fail;have g1:w2.cell? ⟨tb,1,none⟩=some (VH (some ⟨pb,0,none⟩)):=(aW.out.cell (af.lt inferInstance)).trans c1;have g2:w2.cell? ⟨tb,2,none⟩=some (VD VJ r):=(aW.out.cell (af.lt inferInstance)).trans c2;haveI:af tb w2:=af.of (cd _ _ g1);have hw1:IntKind.i64.wrap ((a:Int)+1)=(a:Int)+1:=IntWalk.i64_in _ (by omega);have hw3:IntKind.i64.wrap (b2:Int)=(b2:Int):=IntWalk.i64_in _ (by omega);have hw2:IntKind.i64.wrap ((b2:Int)+1-1)=(b2:Int):=by rw[z4];exact IntWalk.i64_in _ (by omega)
   clear c0 c1 c2 c3 c4;go_region_law (first|(refine wj rfl 124 #[VD VJ r] (VE ⟨(Lib.decDigits r).toArray⟩) ac (HIT.out _ (aW.out.trans uZ)) ?_ ?_;(· go_simp;done);intro w5 a8;have g1':=(a8.cell (p:=⟨tb,1,none⟩) (af.lt inferInstance)).trans g1;haveI:af tb w5:=af.of (cd _ _ g1'))|(refine wj rfl 79 #[VH (some ⟨pb,0,none⟩),VD VJ ((a:Int)+1),VD VJ b2,VE ⟨(Lib.decDigits r).toArray⟩] (VI #[]) (λW w'=>PV w' B pb d (St.bQ d.1.1 s (a+1) b2 (Lib.decDigits r))/\Below B W w'/\eL mI W w') (jm.out _ (aW.out.trans ((uZ:ac w2 _).trans a8))) ?_ ?_;(· go_simp;done);intro w6 ⟨QZ,eB,ht6⟩;have Gy:=(HT.out.ah (aW.out.trans ((uZ:ac w2 _).trans a8))).tk ht6))
   all_goals
    have QJ:=((aW.out.trans ((uZ:ac w2 _).trans a8)).below.mono hBw).trans eB;have HE:=aa (And.intro Gy (And.intro QZ QJ));clear Gy QZ QJ eB ht6 hw1 hw2 hw3;go_wp2;go_ret2;refine⟨HE.out.2.2,?_⟩;rw[if_neg (by simp;omega),if_neg (by rw[MA.out];simp),if_pos rfl];exact⟨rfl,HE.out.1,by simpa using HE.out.2.1⟩
  have Vs:(er==0)=false:=by simpa using ke
  go_enter Tryz.func171,Tryz.ntmps171;go_wp2_with fail;refine(iL.out _).mono ?_;rintro e w2 ⟨A,c,rfl,_,_,_,hu2⟩;have aW:=aa hu2;clear hu2;go_wp2;go_ret2;refine⟨(aW.out.below.mono hBw),?_⟩;rw[if_neg (by simp;omega),if_pos ⟨rfl,by rw[MA.out];exact ke⟩,MA.out];have ei:((a+1+i:Nat):Int)=(a:Int)+1+(i:Int):=by omega
  simp only[ei];rfl
 have m2:((n:Int)==(aN:Int))=false:=by simp;omega
 have hE:zm w B tb pb d r bf aN texts s a b n q (VL (VI #[VD VJ 0,VD VJ 0])) w:=⟨Below.refl _ _,by rw[if_neg (by omega),if_neg (λh=>k2 h.1),if_neg k2];exact⟨rfl,HT.out,HP.out⟩⟩;have HE:=aa hE;clear hE;go_enter Tryz.func171,Tryz.ntmps171;go_wp2;go_ret2;exact HE.out
end
section
namespace St
theorem qS:∀(m:Nat) (l:List UInt8) (n:Nat),l.length<=m->bX l=some n->1<=n/\n<=l.length
 | 0,l,n,hl,h=>by
  have h0:l=[]:=List.eq_nil_of_length_eq_zero (by omega);subst h0;cases h
 | m+1,[],n,hl,h=>by cases h
 | m+1,c :: r,n,hl,h=>by
  by_cases hc:c.toNat=34
  ·cases r with
   | nil=>rw[pv hc]at h;cases h;simp
   | cons d r=>
    by_cases hd:d.toNat=34
    ·rw[qT hc hd]at h;cases hq:bX r with
     | none=>rw[hq]at h;cases h
     | some k=>
      rw[hq]at h;have:=qS m r k (by simp at hl;omega) hq
      simp at h;simp;omega
    rw[qR hc hd]at h;cases h;simp
  rw[ow hc]at h;cases hq:bX r with
  | none=>rw[hq]at h;cases h
  | some k=>
   rw[hq]at h;have:=qS m r k (by simp at hl;omega) hq
   simp at h;simp;omega
theorem mE{l:List UInt8}{k:Nat}{q:Bool}(h:dx l=some (k,q)):k<=l.length/\(q=true->2<=k):=by
 cases l with
 | nil=>rw[xR]at h;simp at h;obtain⟨rfl,rfl⟩:=h;simp
 | cons c r=>
  by_cases hc:c.toNat=34
  ·rw[wL hc]at h;cases hq:bX r with
   | none=>rw[hq]at h;cases h
   | some n=>
    rw[hq]at h;simp only at h
    split at h
    ·simp only[Option.some.injEq,Prod.mk.injEq]at h;obtain⟨rfl,rfl⟩:=h;have:=qS _ r n (Nat.le_refl _) hq
     simp;omega
    cases h
  rw[tf (λc' r' e=>by simp only[List.cons.injEq]at e;rw[<-e.1];exact hc)]at h
  split at h
  ·simp only[Option.some.injEq,Prod.mk.injEq]at h;obtain⟨rfl,rfl⟩:=h;refine⟨?_,λh=>by cases h⟩;exact(List.takeWhile_prefix _).length_le
  cases h
theorem sg{d:List UInt8}{fuel a n tx aN:Nat}(h:dx (d.drop a)=none):fB d (fuel+1) a n tx aN=.error (a,2):=by
 rw[fB,h]
theorem sh{d:List UInt8}{fuel a n tx aN k:Nat}{q:Bool}(h:dx (d.drop a)=some (k,q)):fB d (fuel+1) a n tx aN=match d.drop (a+k)with
   | []=>.ok (a+k,n+1,(if be d a (a+k)==[116,101,120,116]then tx+1 else tx),(if be d a (a+k)==[116,101,120,116]then n else aN))
   | c :: _=>if c.toNat=10 then .ok (a+k,n+1,(if be d a (a+k)==[116,101,120,116]then tx+1 else tx),(if be d a (a+k)==[116,101,120,116]then n else aN))else fB d fuel (a+k+1) (n+1) (if be d a (a+k)==[116,101,120,116]then tx+1 else tx) (if be d a (a+k)==[116,101,120,116]then n else aN):=by
 rw[fB,h];simp only[];cases d.drop (a+k)<;>rfl
end St
def Pr(w:VO)(B tb pb:Nat)(d:ByteArray)(e:Ending)(w':VO):Prop:=
 Below B w w'/\match St.fB d.1.1 (d.1.1.length+1) 0 0 0 0 with
  | .error (a,er)=>er≠0/\e=VL (VI #[VD VJ a,VD VJ er])
  | .ok (en,n,tx,aN)=>if tx=0 then e=VL (VI #[VD VJ 0,VD VJ 6])else if 1<tx then e=VL (VI #[VD VJ 0,VD VJ 5])else
    e=VL (VI #[VD VJ (min (en+1) d.size:Nat),VD VJ 0])/\TV w' tb pb d 0 n aN tx/\PV w' B pb d ([],0)/\n<=100000/\aN<=100000/\en<=d.size
def PE(w:VO)(B tb pb:Nat)(d:ByteArray)(s6 s7:Value)(wr:VO):Prop:=
 ∃a n tx aN fuel:Nat,s6=VD VJ a/\s7=VD VJ n/\a<=d.size/\n<=a/\tx<=n/\aN<=n/\d.size+1-a<=fuel/\St.fB d.1.1 (d.1.1.length+1) 0 0 0 0=St.fB d.1.1 fuel a n tx aN/\TV wr tb pb d 0 n aN tx/\PV wr B pb d ([],0)/\Below B w wr
theorem Hh(w:VO)(B tb pb:Nat)(d:ByteArray)(hT:TV w tb pb d 0 0 0 0)(hP:PV w B pb d ([],0))(hB:B<=tb)(hBw:B<=w.1.size)(hd:d.size<=65536) :
  Calls Tryz.prog 125 #[VH (some ⟨tb,0,none⟩),VD VJ 0] w (Pr w B tb pb d):=by
 have FQ:=aa hT;have FL:=aa hP;clear hT hP;go_enter Tryz.func125,Tryz.ntmps125;go_wp2;go_loopw [6,7] (λs6 s7 wr=>PE w B tb pb d s6 s7 wr) (λs6 _ _=>d.size+1-(intOf s6).toNat)
 case atStart=>exact⟨0,0,0,0,d.1.1.length+1,rfl,rfl,by omega,by omega,by omega,by omega,by simp,rfl,FQ.out,FL.out,Below.refl _ _⟩
 case round=>
  obtain⟨a,n,tx,aN,fuel,rfl,rfl,ha,vH,htx,hcol,hfu,hH,hT,hP,hbl⟩:=hrel;obtain⟨fuel,rfl⟩:∃m,fuel=m+1:=⟨fuel-1,by omega⟩;have hv:=hT;unfold TV at hv;have c0:wr.cell? ⟨tb,0,none⟩=some (VE d):=ai hv 0;have c2:wr.cell? ⟨tb,2,none⟩=some (VD VJ (0:Nat)):=ai hv 2;haveI:af tb wr:=af.of (ae hv);have HT:=aa hT;have HP:=aa hP;have HH:=aa hH;have cX:=aa hbl;have HF:=aa (xQ d a wr ha (by omega));have wM:B<=wr.1.size:=Nat.le_trans hBw hbl.size;clear FQ FL hv hT hP hH hbl;go_wp2_with fail;refine HF.out.mono ?_;rintro e w2 ⟨hu2,hm⟩;have aW:=aa hu2;have g2:w2.cell? ⟨tb,2,none⟩=some (VD VJ (0:Nat)):=(hu2.cell (af.lt inferInstance)).trans c2;haveI:af tb w2:=af.of (cd _ _ g2);clear hu2 c0 c2;cases hs:St.dx (d.1.1.drop a)with
  | none=>
   rw[hs]at hm;obtain⟨x,y,rfl⟩:=hm;have hh:=HH.out.trans (St.sg hs);have dN:=aa hh;clear hh hs HH HF;go_wp2;go_ret2;refine⟨cX.out.trans (aW.out.below.mono wM),?_⟩;rw[dN.out];exact⟨by decide,rfl⟩
  | some x=>
   obtain⟨k,q⟩:=x;rw[hs]at hm;simp only at hm;subst hm;obtain⟨hk1,_⟩:=St.mE hs;have hk2:a+k<=d.size:=by simp at hk1;omega
   have hh:=HH.out.trans (St.sh hs);have lP:=Ev w2 tb pb d n aN tx a (a+k) n (HT.out.ah aW.out) (by omega) hk2 (by omega) (by omega) (by omega);have N6:(if St.be d.1.1 a (a+k)==[116,101,120,116]then n else aN)<=n+1:=by split<;>omega
   have Ov:(if St.be d.1.1 a (a+k)==[116,101,120,116]then tx+1 else tx)<=n+1:=by split<;>omega
   generalize(if St.be d.1.1 a (a+k)==[116,101,120,116]then n else aN)=col2 at hh lP N6;generalize(if St.be d.1.1 a (a+k)==[116,101,120,116]then tx+1 else tx)=rD at hh lP Ov;have AW:a<=a+k:=by omega
   generalize hm:a+k=m at hk2 hh lP AW |-;have Qc:=aa lP;have dN:=aa hh;clear hh lP hs HH HF hk1 hm;go_wp2_with fail;refine Qc.out.mono ?_;rintro e w3 ⟨rfl,hT3,hg3⟩;have n4:=PV.OR (HP.out.ah aW.out) (HT.out.ah aW.out) hg3;have x7:Below B w w3:=(cX.out.trans (aW.out.below.mono wM)).grown hg3 (Nat.le_trans wM aW.out.size) (λg e=>by cases e;exact hB);have hv:=hT3;unfold TV at hv;have d0:w3.cell? ⟨tb,0,none⟩=some (VE d):=ai hv 0;have d2:w3.cell? ⟨tb,2,none⟩=some (VD VJ (0:Nat)):=ai hv 2;have d3:w3.cell? ⟨tb,3,none⟩=some (VD VJ (n+1:Nat)):=ai hv 3;have d5:w3.cell? ⟨tb,5,none⟩=some (VD VJ rD):=ai hv 5;haveI:af tb w3:=af.of (ae hv);have HE:=aa (And.intro hT3 (And.intro n4 x7));clear hv hT3 hg3 n4 x7 g2 HT HP Qc;rcases Nat.lt_or_ge m d.size with fj|fj
   ·have aw:=St.drop_at d m fj;have y1:((m:Int)==(d.size:Int))=false:=by simp;omega
    have y3:(m:Int)<d.size:=by omega
    by_cases bl:d[m].toNat=10
    ·have y2:((d[m].toNat:Int)==10)=true:=by simp;omega
     have bS:=dN.out;rw[aw]at bS;simp only[bl,if_true]at bS;have dd:=aa bS;clear bS aw dN;rcases(show rD=0\/rD=1\/1<rD by omega)with q0|q1|q2
     ·subst q0;go_wp2;go_ret2;refine⟨HE.out.2.2,?_⟩;rw[dd.out];rfl
     ·subst q1;go_wp2;go_ret2;refine⟨HE.out.2.2,?_⟩;rw[dd.out];simp only[];rw[if_neg (by omega),if_neg (by omega)];have um:((min (m+1) d.size:Nat):Int)=min ((m:Int)+1) (d.size:Int):=by omega
      exact⟨by rw[um];rfl,HE.out.1,HE.out.2.1,by omega,by omega,by omega⟩
     have q2':(1:Int)<(rD:Int):=by omega
     have q3':((rD:Int)==0)=false:=by simp;omega
     go_wp2;go_ret2;refine⟨HE.out.2.2,?_⟩;rw[dd.out];simp only[];rw[if_neg (by omega),if_pos q2];rfl
    have y2:((d[m].toNat:Int)==10)=false:=by simp;omega
    have bS:=dN.out;rw[aw]at bS;simp only[bl,if_false]at bS;have dd:=aa bS;clear bS aw dN;go_wp2;exact⟨⟨m+1,n+1,rD,col2,fuel,congrArg (VD VJ) (by omega),congrArg (VD VJ) (by omega),by omega,by omega,Ov,N6,by omega,dd.out,HE.out.1,HE.out.2.1,HE.out.2.2⟩,by simp[intOf];omega⟩
   have hme:m=d.size:=by omega
   have hnil:=St.fI d m fj;have y1:((m:Int)==(d.size:Int))=true:=by simp;omega
   have bS:=dN.out;rw[hnil]at bS;simp only[]at bS;have dd:=aa bS;clear bS hnil dN;rcases(show rD=0\/rD=1\/1<rD by omega)with q0|q1|q2
   ·subst q0;go_wp2;go_ret2;refine⟨HE.out.2.2,?_⟩;rw[dd.out];rfl
   ·subst q1;go_wp2;go_ret2;refine⟨HE.out.2.2,?_⟩;rw[dd.out];simp only[];rw[if_neg (by omega),if_neg (by omega)];have um:((min (m+1) d.size:Nat):Int)=min ((d.size:Int)+1) (d.size:Int):=by omega
    exact⟨by rw[um];rfl,HE.out.1,HE.out.2.1,by omega,by omega,by omega⟩
   have q2':(1:Int)<(rD:Int):=by omega
   have q3':((rD:Int)==0)=false:=by simp;omega
   go_wp2;go_ret2;refine⟨HE.out.2.2,?_⟩;rw[dd.out];simp only[];rw[if_neg (by omega),if_pos q2];rfl
end
section
namespace St
variable {dE:List UInt8->Nat × Int} {d key:List UInt8} {W C fuel a n k:Nat} {q:Bool} {s:PS}
theorem qU(h:dx (d.drop a)=none):eQ dE d W C key (fuel+1) a n s=.error (a,2):=by
 rw[eQ,h]
theorem tw(h:dx (d.drop a)=some (k,q))(hb:W<=n\/(n=C/\q=false)):eQ dE d W C key (fuel+1) a n s=.error (a,2):=by
 rw[eQ,h];simp only[];rw[if_pos hb]
theorem tz(h:dx (d.drop a)=some (k,q))(hb:¬(W<=n\/(n=C/\q=false)))(he:n=C/\(dE (be d (a+1) (a+k-1))).2≠0):eQ dE d W C key (fuel+1) a n s=.error (a+1+(dE (be d (a+1) (a+k-1))).1,(dE (be d (a+1) (a+k-1))).2):=by
 rw[eQ,h];simp only[];rw[if_neg hb,if_pos he]
theorem qV(h:dx (d.drop a)=some (k,q))(hb:¬(W<=n\/(n=C/\q=false)))(he:¬(n=C/\(dE (be d (a+1) (a+k-1))).2≠0)):eQ dE d W C key (fuel+1) a n s=match d.drop (a+k)with
   | []=>.ok (a+k,n+1,if n=C then bQ d s (a+1) (a+k-1) key else s)
   | c :: _=>if c.toNat=10 then .ok (a+k,n+1,if n=C then bQ d s (a+1) (a+k-1) key else s)else eQ dE d W C key fuel (a+k+1) (n+1) (if n=C then bQ d s (a+1) (a+k-1) key else s):=by
 rw[eQ,h];simp only[];rw[if_neg hb,if_neg he];cases d.drop (a+k)<;>rfl
end St
def PL(w:VO)(B tb pb:Nat)(d:ByteArray)(r bf aN texts a0:Nat)(s:St.PS)(e:Ending)(w':VO):Prop:=
 Below B w w'/\match St.eQ dE d.1.1 bf aN (Lib.decDigits r) (d.1.1.length+1) a0 0 s with
  | .error (a,er)=>er≠0/\e=VL (VI #[VD VJ a,VD VJ er])
  | .ok (en,n,s')=>if n<bf then e=VL (VI #[VD VJ a0,VD VJ 2])else
    e=VL (VI #[VD VJ (min (en+1) d.size:Nat),VD VJ 0])/\TV w' tb pb d r bf aN texts/\PV w' B pb d s'/\s'.2<=en/\en<=d.size/\a0<=en/\s'.1.length<=2*(en+1)
def PG(w:VO)(B tb pb:Nat)(d:ByteArray)(r bf aN texts a0:Nat)(s:St.PS)(s6 s7:Value)(wr:VO):Prop:=
 ∃(a n fuel:Nat) (s1:St.PS),s6=VD VJ a/\s7=VD VJ n/\a0<=a/\a<=d.size/\n<=a/\d.size+1-a<=fuel /\
  St.eQ dE d.1.1 bf aN (Lib.decDigits r) (d.1.1.length+1) a0 0 s=St.eQ dE d.1.1 bf aN (Lib.decDigits r) fuel a n s1/\TV wr tb pb d r bf aN texts/\PV wr B pb d s1/\s1.2<=a/\s1.1.length<=2*a/\Below B w wr
theorem JG(w w0:VO)(B tb pb:Nat)(d:ByteArray)(r bf aN texts a0:Nat)(s:St.PS)(hT:TV w tb pb d r bf aN texts)(hP:PV w B pb d s)(ht:mA w0)(mT:B=w0.1.size)(h0:ac w0 w)(hd:d.size<=65536)(hr1:1<=r)(hr:r<=100000)(hc:bf<=100000)(hcl:aN<=100000)
  (ha0:a0<=d.size) (hs2:s.2<=a0) (hsl:s.1.length<=2*a0) :
  Calls Tryz.prog 125 #[VH (some ⟨tb,0,none⟩),VD VJ a0] w (PL w B tb pb d r bf aN texts a0 s):=by
 have FQ:=aa hT;have FL:=aa hP;have zQ:=aa ht;have H0:=aa h0;have hBw:B<=w.1.size:=by rw[mT];exact h0.size
 have lI:=aa mT;clear hT hP ht h0 mT;go_enter Tryz.func125,Tryz.ntmps125;go_wp2;go_loopw [6,7] (λs6 s7 wr=>PG w B tb pb d r bf aN texts a0 s s6 s7 wr) (λs6 _ _=>d.size+1-(intOf s6).toNat)
 case atStart=>exact⟨a0,0,d.1.1.length+1,s,rfl,rfl,by omega,by omega,by omega,by simp<;>omega,rfl,FQ.out,FL.out,hs2,hsl,Below.refl _ _⟩
 case round=>
  obtain⟨a,n,fuel,s1,rfl,rfl,haa,ha,vH,hfu,hH,hT,hP,hs3,hs4,hbl⟩:=hrel;obtain⟨fuel,rfl⟩:∃m,fuel=m+1:=⟨fuel-1,by omega⟩;have hv:=hT;unfold TV at hv;have c0:wr.cell? ⟨tb,0,none⟩=some (VE d):=ai hv 0;have c2:wr.cell? ⟨tb,2,none⟩=some (VD VJ r):=ai hv 2;haveI:af tb wr:=af.of (ae hv);have HT:=aa hT;have HP:=aa hP;have HH:=aa hH;have cX:=aa hbl;have HF:=aa (xQ d a wr ha (by omega));have wM:B<=wr.1.size:=Nat.le_trans hBw hbl.size
  have QG:ac w0 wr:=by
   have e:=lI.out;refine ac.cm (Below.trans H0.out.below ?_);rw[<-e];exact hbl
  have SF:=aa QG;clear FQ FL hv hT hP hH hbl QG;have r0:((r:Int)==0)=false:=by simp;omega
  have r1:(0:Int)<(r:Int):=by omega
  go_wp2_with fail;refine HF.out.mono ?_;rintro e w2 ⟨hu2,hm⟩;have aW:=aa hu2;have g2:w2.cell? ⟨tb,2,none⟩=some (VD VJ r):=(hu2.cell (af.lt inferInstance)).trans c2;haveI:af tb w2:=af.of (cd _ _ g2);clear hu2 c0 c2;cases hs:St.dx (d.1.1.drop a)with
  | none=>
   rw[hs]at hm;obtain⟨x,y,rfl⟩:=hm;have hh:=HH.out.trans (St.qU hs);have dN:=aa hh;clear hh hs HH HF;go_wp2;go_ret2;refine⟨cX.out.trans (aW.out.below.mono wM),?_⟩;rw[dN.out];exact⟨by decide,rfl⟩
  | some x=>
   obtain⟨k,q⟩:=x;rw[hs]at hm;simp only at hm;subst hm;obtain⟨hk1,hkq⟩:=St.mE hs;have hk2:a+k<=d.size:=by simp at hk1;omega
   have Ow:=Fm w2 w0 B tb pb d r bf aN texts s1 a (a+k) n q (HT.out.ah aW.out) (HP.out.ah aW.out) zQ.out lI.out (SF.out.trans aW.out) hs3 (by omega) hk2 (λ_ h=>by have:=hkq h;omega) hd hr hc hcl (by omega) (by omega);have hb1:=λhb=>HH.out.trans (St.tw (dE:=dE) (key:=Lib.decDigits r) (fuel:=fuel) (s:=s1) hs (W:=bf) (n:=n) (C:=aN) hb)
   have hb2:=λhb he=>HH.out.trans (St.tz (dE:=dE) (key:=Lib.decDigits r) (fuel:=fuel) (s:=s1) hs (W:=bf) (n:=n) (C:=aN) hb he)
   have hb3:=λhb he=>HH.out.trans (St.qV (dE:=dE) (key:=Lib.decDigits r) (fuel:=fuel) (s:=s1) hs (W:=bf) (n:=n) (C:=aN) hb he)
   have AW:a<=a+k:=by omega
   have K2:∀P:Prop,(n=aN->q=true->a+2<=a+k):=λ_ _ h=>by have:=hkq h;omega
   generalize hm:a+k=m at hk2 Ow hb1 hb2 hb3 AW |-;have CP:=aa Ow;have oC:=aa hb1;have oD:=aa hb2;have nD:=aa hb3;clear Ow hb1 hb2 hb3 hs HH HF hk1 hkq K2 hm;go_wp2_with fail;refine CP.out.mono ?_;rintro e w3 ⟨lj,hm⟩;have x7:Below B w w3:=(cX.out.trans (aW.out.below.mono wM)).trans lj;have Iw:=aa x7;clear lj x7
   split at hm
   ·rename_i hb
    subst hm;have dN:=aa (oC.out hb);clear hb g2;go_wp2;go_ret2;refine⟨Iw.out,?_⟩;rw[dN.out];exact⟨by decide,rfl⟩
   rename_i hb
   split at hm
   ·rename_i he
    subst hm;have dN:=aa (oD.out hb he);have hne:=he.2;generalize dE (St.be d.1.1 (a+1) (m-1))=ev at dN hne;obtain⟨ei,er⟩:=ev;have hnb:(er==0)=false:=by simpa using hne
    have gl:=aa hne;clear hb he hne g2;go_wp2;go_ret2;refine⟨Iw.out,?_⟩;rw[dN.out];exact⟨gl.out,by rfl⟩
   rename_i he
   obtain⟨rfl,hT3,n4⟩:=hm;have dN:=aa (nD.out hb he)
   have hs5:(if n=aN then St.bQ d.1.1 s1 (a+1) (m-1) (Lib.decDigits r)else s1).2<=m:=by
    split
    ·show m-1<=m;omega
    omega
   have GO:(if n=aN then St.bQ d.1.1 s1 (a+1) (m-1) (Lib.decDigits r)else s1).1.length<=2*(a+1):=by
    split
    ·show(s1.1++[_,_]).length<=_;simp;omega
    omega
   have TH:n<bf:=by omega
   generalize(if n=aN then St.bQ d.1.1 s1 (a+1) (m-1) (Lib.decDigits r)else s1)=s2 at dN n4 hs5 GO;have hv:=hT3;unfold TV at hv;have d0:w3.cell? ⟨tb,0,none⟩=some (VE d):=ai hv 0;have d2:w3.cell? ⟨tb,2,none⟩=some (VD VJ r):=ai hv 2;have d3:w3.cell? ⟨tb,3,none⟩=some (VD VJ bf):=ai hv 3;haveI:af tb w3:=af.of (ae hv);have HE:=aa (And.intro hT3 (And.intro n4 Iw.out));clear hv hT3 n4 g2 HT HP hb he CP oC oD nD;rcases Nat.lt_or_ge m d.size with fj|fj
   ·have aw:=St.drop_at d m fj;have y1:((m:Int)==(d.size:Int))=false:=by simp;omega
    have y3:(m:Int)<d.size:=by omega
    by_cases bl:d[m].toNat=10
    ·have y2:((d[m].toNat:Int)==10)=true:=by simp;omega
     have bS:=dN.out;rw[aw]at bS;simp only[bl,if_true]at bS;have dd:=aa bS;clear bS aw dN
     by_cases hw:n+1<bf
     ·have hw':(n:Int)+1<(bf:Int):=by omega
      go_wp2;go_ret2;refine⟨HE.out.2.2,?_⟩;rw[dd.out];simp only[];rw[if_pos hw];rfl
     have hw':¬(n:Int)+1<(bf:Int):=by omega
     go_wp2;go_ret2;refine⟨HE.out.2.2,?_⟩;rw[dd.out];simp only[];rw[if_neg hw];have um:((min (m+1) d.size:Nat):Int)=min ((m:Int)+1) (d.size:Int):=by omega
     exact⟨by rw[um];rfl,HE.out.1,HE.out.2.1,hs5,by omega,by omega,by omega⟩
    have y2:((d[m].toNat:Int)==10)=false:=by simp;omega
    have bS:=dN.out;rw[aw]at bS;simp only[bl,if_false]at bS;have dd:=aa bS;clear bS aw dN;go_wp2;exact⟨⟨m+1,n+1,fuel,s2,congrArg (VD VJ) (by omega),congrArg (VD VJ) (by omega),by omega,by omega,by omega,by omega,dd.out,HE.out.1,HE.out.2.1,by omega,by omega,HE.out.2.2⟩,by simp[intOf];omega⟩
   have hme:m=d.size:=by omega
   have hnil:=St.fI d m fj;have y1:((m:Int)==(d.size:Int))=true:=by simp;omega
   have bS:=dN.out;rw[hnil]at bS;simp only[]at bS;have dd:=aa bS;clear bS hnil dN
   by_cases hw:n+1<bf
   ·have hw':(n:Int)+1<(bf:Int):=by omega
    go_wp2;go_ret2;refine⟨HE.out.2.2,?_⟩;rw[dd.out];simp only[];rw[if_pos hw];rfl
   have hw':¬(n:Int)+1<(bf:Int):=by omega
   go_wp2;go_ret2;refine⟨HE.out.2.2,?_⟩;rw[dd.out];simp only[];rw[if_neg hw];have um:((min (m+1) d.size:Nat):Int)=min ((d.size:Int)+1) (d.size:Int):=by omega
   exact⟨by rw[um];rfl,HE.out.1,HE.out.2.1,hs5,by omega,by omega,by omega⟩
end
section
theorem jI(d:ByteArray)(w:VO):Calls Tryz.prog 75 #[VE d] w λe w'=>e=VL (VH (some ⟨w.1.size,0,none⟩))/\w'=w.alloc (VK #[VE d,VD VJ 0,VF none 0 0] 161):=by
 go_enter Tryz.func75,Tryz.ntmps75;go_wp2;go_ret;exact⟨rfl,rfl⟩
namespace St
variable {dE:List UInt8->Nat × Int} {dig:Nat->List UInt8} {d:List UInt8} {W C:Nat}
theorem me(fuel a r:Nat)(s:PS)(h:d.length<=a):cU dE dig d W C fuel a r s=.ok s:=by
 cases fuel with
 | zero=>rfl
 | succ f=>rw[cU,if_pos h]
theorem BE(fuel e r:Nat)(s:PS)(he:e<=d.length):cU dE dig d W C fuel (e+1) r s=cU dE dig d W C fuel (min (e+1) d.length) r s:=by
 by_cases h:e+1<=d.length
 ·rw[Nat.min_eq_left h]
 rw[me _ _ _ _ (by omega),me _ _ _ _ (by omega)]
theorem mf{fuel a r:Nat}{s:PS}{x:Nat × Int}(h:¬d.length<=a)(hr:eQ dE d W C (dig r) (d.length+1) a 0 s=.error x):cU dE dig d W C (fuel+1) a r s=.error x:=by
 rw[cU,if_neg h,hr]
theorem kE{fuel a r e n:Nat}{s s':PS}(h:¬d.length<=a)(hr:eQ dE d W C (dig r) (d.length+1) a 0 s=.ok (e,n,s'))(hn:n<W):cU dE dig d W C (fuel+1) a r s=.error (a,2):=by
 rw[cU,if_neg h,hr];simp only[];rw[if_pos hn]
theorem LW{fuel a r e n:Nat}{s s':PS}(h:¬d.length<=a)(hr:eQ dE d W C (dig r) (d.length+1) a 0 s=.ok (e,n,s'))(hn:¬n<W)(he:e<=d.length):cU dE dig d W C (fuel+1) a r s=cU dE dig d W C fuel (min (e+1) d.length) (r+1) s':=by
 rw[cU,if_neg h,hr];simp only[];rw[if_neg hn,BE _ _ _ _ he]
theorem sR{a:Nat}{er:Int}(h0:¬65536<d.length)(h:fB d (d.length+1) 0 0 0 0=.error (a,er)):fq dE dig d=([],a,er):=by
 rw[fq,if_neg h0,h]
theorem nx{e n tx c:Nat}(h0:¬65536<d.length)(h:fB d (d.length+1) 0 0 0 0=.ok (e,n,tx,c))(ht:tx=0):fq dE dig d=([],0,6):=by
 rw[fq,if_neg h0,h];simp only[];rw[if_pos ht]
theorem j1{e n tx c:Nat}(h0:¬65536<d.length)(h:fB d (d.length+1) 0 0 0 0=.ok (e,n,tx,c))(ht:tx≠0)(ht2:1<tx):fq dE dig d=([],0,5):=by
 rw[fq,if_neg h0,h];simp only[];rw[if_neg ht,if_pos ht2]
def pn(d:List UInt8):Except (Nat × Int) PS->List Pt × Nat × Int
 | .error (a,e)=>([],a,e)
 | .ok s=>(dt d s,0,0)
theorem J3{e n tx c:Nat}(h0:¬65536<d.length)(h:fB d (d.length+1) 0 0 0 0=.ok (e,n,tx,c))(ht:tx≠0)(ht2:¬1<tx)(he:e<=d.length):fq dE dig d=pn d (cU dE dig d n c (d.length+1) (min (e+1) d.length) 1 ([],0)):=by
 rw[fq,if_neg h0,h];simp only[];rw[if_neg ht,if_neg ht2,BE _ _ _ _ he];cases cU dE dig d n c (d.length+1) (min (e+1) d.length) 1 ([],0)<;>rfl
end St
def fE(d:ByteArray):List St.Pt × Nat × Int:=St.fq dE Lib.decDigits d.1.1
def aH(R:List St.Pt × Nat × Int)(w:VO)(e:Ending)(w':VO):Prop:=
 ∃(A:Option Addr) (c:Nat),e=VL (VI #[VF A R.1.length c,VD VJ (R.2.1:Int),VD VJ R.2.2])/\aY w' A R.1/\R.1.length<=c/\c<=9223372036854775807/\ac w w'
theorem aH.err{R:List St.Pt × Nat × Int}{w w':VO}{a:Nat}{er:Int}(h:R=([],a,er))(u:ac w w'):aH R w (VL (VI #[VF none 0 0,VD VJ a,VD VJ er])) w':=by
 subst h;exact⟨none,0,rfl,λh=>absurd h (by simp),by simp,by omega,u⟩
def PQ(w:VO)(d:ByteArray)(s3:Value)(wr:VO):Prop:=
 ac w wr/\((s3=VD VJ (0:Nat)/\TV wr (w.1.size+1) w.1.size d 0 0 0 0/\PV wr w.1.size w.1.size d ([],0))\/
  ∃(a r bf aN tx fuel:Nat) (s:St.PS),s3=VD VJ a/\a<=d.size/\1<=r/\r<=a+1/\bf<=100000/\aN<=100000/\d.size-a<fuel/\s.2<=a/\s.1.length<=2*(a+1)/\(a<d.size->s.1.length<=2*a) /\
   TV wr (w.1.size+1) w.1.size d r bf aN tx/\PV wr w.1.size w.1.size d s/\fE d=St.pn d.1.1 (St.cU dE Lib.decDigits d.1.1 bf aN fuel a r s))
open Classical in
noncomputable def DA(d:ByteArray)(s3:Value)(wr:VO)(g:Nat):Nat:=if wr.cell? ⟨g,2,none⟩=some (VD VJ (0:Nat))then d.size+2 else d.size+1-(intOf s3).toNat
theorem xh{d:ByteArray}{s3:Value}{wr:VO}{g r:Nat}(h:wr.cell? ⟨g,2,none⟩=some (VD VJ r))(hr:1<=r):DA d s3 wr g=d.size+1-(intOf s3).toNat:=by
 unfold DA;rw[if_neg];intro e;rw[h]at e;simp at e;omega
theorem DC{w:VO}{tb pb:Nat}{d:ByteArray}{r bf aN tx:Nat}(h:TV w tb pb d r bf aN tx)(m:Int)(hm:m=((r+1:Nat):Int)):TV (w.setCell ⟨tb,2,none⟩ (VD VJ m)) tb pb d (r+1) bf aN tx:=by
 subst hm;exact heap_setCell_same w tb 2 _ _ _ h
theorem Fi(d:ByteArray)(w:VO)(ht:mA w)(fe:d.size<=4611686018427387904):Calls Tryz.prog 85 #[VE d] w (aH (fE d) w):=by
 have hlen:=St.aD d;have zQ:=aa ht
 by_cases hbig:65536<d.size
 ·have hR:fE d=([],0,3):=by unfold fE St.fq;rw[if_pos (by omega)]
  have HR:=aa hR;have hb:(65536:Int)<d.size:=by omega
  clear hR ht hlen;go_enter Tryz.func85,Tryz.ntmps85;go_wp2;go_ret3;exact aH.err HR.out (ac.refl _)
 have hb:¬(65536:Int)<d.size:=by omega
 have h0l:¬65536<d.1.1.length:=by omega
 have mP:=aa h0l;have HLEN:=aa hlen;have hd:d.size<=65536:=by omega
 clear ht hlen h0l
 have kK:PV ((w.alloc (VK #[VE d,VD VJ 0,VF none 0 0] 161)).alloc (VK #[VE d,VH (some ⟨w.1.size,0,none⟩),VD VJ 0,VD VJ 0,VD VJ 0,VD VJ 0] 174)) w.1.size w.1.size d ([],0):=
  PV.ah ⟨Nat.le_refl _,VF none 0 0,heap_alloc_new w _,World.ownsRow_nil _ _ _ _⟩ ((ac.refl _).alloc _)
 have hT0:TV ((w.alloc (VK #[VE d,VD VJ 0,VF none 0 0] 161)).alloc (VK #[VE d,VH (some ⟨w.1.size,0,none⟩),VD VJ 0,VD VJ 0,VD VJ 0,VD VJ 0] 174)) (w.1.size+1) w.1.size d 0 0 0 0:=by
  have:=heap_alloc_new (w.alloc (VK #[VE d,VD VJ 0,VF none 0 0] 161)) (VK #[VE d,VH (some ⟨w.1.size,0,none⟩),VD VJ 0,VD VJ 0,VD VJ 0,VD VJ 0] 174)
  simpa[TV]using this
 have QS:ac w ((w.alloc (VK #[VE d,VD VJ 0,VF none 0 0] 161)).alloc (VK #[VE d,VH (some ⟨w.1.size,0,none⟩),VD VJ 0,VD VJ 0,VD VJ 0,VD VJ 0] 174)):=uZ;have jj:=aa (And.intro QS (And.intro hT0 kK));clear kK hT0 QS;go_enter Tryz.func85,Tryz.ntmps85;go_wp2_with (go_at_call 75;refine(jI d _).mono ?_;rintro e w' ⟨rfl,rfl⟩);go_loopw [3] (λs3 wr=>PQ w d s3 wr) (λs3 wr=>DA d s3 wr (w.1.size+1))
 case atStart=>exact⟨jj.out.1,.inl ⟨rfl,jj.out.2.1,jj.out.2.2⟩⟩
 case round=>
  obtain⟨hu,hrel⟩:=hrel;clear jj;have HU:=aa hu;have hsz:=hu.size;clear hu;rcases hrel with⟨rfl,hT,hP⟩|⟨a,r,bf,aN,tx,fuel,s,rfl,ha,hr1,hr2,hc1,hc2,hfu,hs2,hs3,hs4,hT,hP,hS⟩
  ·have hv:=hT;unfold TV at hv;have c2:wr.cell? ⟨w.1.size+1,2,none⟩=some (VD VJ (0:Nat)):=ai hv 2;have ti:DA d (VD VJ (0:Nat)) wr (w.1.size+1)=d.size+2:=by unfold DA;rw[if_pos c2]
   haveI:af (w.1.size+1) wr:=af.of (ae hv);have HN:=aa (Hh wr w.1.size (w.1.size+1) w.1.size d hT hP (by omega) hsz hd);have HM:=aa ti;clear hv hT hP ti
   by_cases z:0<d.size
   all_goals
    go_wp2_with fail;refine HN.out.mono ?_;rintro e w3 ⟨hbl,hm⟩;have hu3:ac w w3:=ac.cm (Below.trans HU.out.below hbl);have ba:=aa hu3;clear hbl hu3 HN c2;cases hh:St.fB d.1.1 (d.1.1.length+1) 0 0 0 0 with
    | error x=>
     obtain⟨a,er⟩:=x;rw[hh]at hm;simp only at hm;obtain⟨her,rfl⟩:=hm;have hR:=aa (St.sR (dE:=dE) (dig:=Lib.decDigits) mP.out hh);have hnb:(er==0)=false:=by simpa using her
     clear her hh;go_wp2;go_ret3;exact aH.err hR.out ba.out
    | ok x=>
     obtain⟨en,n,tx,aN⟩:=x;rw[hh]at hm;simp only at hm
     split at hm
     ·rename_i ht
      subst hm;have hR:=aa (St.nx (dE:=dE) (dig:=Lib.decDigits) mP.out hh ht);clear hh ht;go_wp2;go_ret3;exact aH.err hR.out ba.out
     rename_i ht
     split at hm
     ·rename_i ht2
      subst hm;have hR:=aa (St.j1 (dE:=dE) (dig:=Lib.decDigits) mP.out hh ht ht2);clear hh ht ht2;go_wp2;go_ret3;exact aH.err hR.out ba.out
     rename_i ht2
     obtain⟨rfl,hT3,n4,hn,hcol,hen⟩:=hm;have hl:=HLEN.out;have hR:=St.J3 (dE:=dE) (dig:=Lib.decDigits) mP.out hh ht ht2 (by omega);rw[hl]at hR;have v2:w3.cell? ⟨w.1.size+1,2,none⟩=some (VD VJ (0:Nat)):=ai hT3 2;have f2:w3.frozen? ⟨w.1.size+1,2,none⟩=false:=bg hT3 2;haveI:af (w.1.size+1) w3:=af.of (ae hT3);have x9:=DC hT3 1 rfl;have x8:=PV.OR n4 hT3 (cD w3 ⟨w.1.size+1,2,none⟩ (VD VJ 1));have aU:ac w (w3.setCell ⟨w.1.size+1,2,none⟩ (VD VJ 1)):=ba.out.tr (cD w3 ⟨w.1.size+1,2,none⟩ _) (λg e=>by cases e;exact Nat.le_succ _);have HE:=aa (And.intro hR (And.intro x9 (And.intro x8 aU)));have yh:((min (en+1) d.size:Nat):Int)=min ((en:Int)+1) (d.size:Int):=by omega
     clear hR hT3 x9 n4 x8 aU hh ht ht2 hl;go_wp2;refine⟨⟨HE.out.2.2.2,.inr ⟨min (en+1) d.size,1,n,aN,tx,d.size+1,([],0),congrArg (VD VJ) (by omega),by omega,by omega,by omega,hn,hcol,by omega,by simp,by simp,by simp,HE.out.2.1,HE.out.2.2.1,HE.out.1⟩⟩,?_⟩;have hsp:=xh (r:=0+1) (d:=d) (s3:=VD VJ (min ((en:Int)+1) (d.size:Int))) (ai HE.out.2.1 2) (by omega);rw[hsp,HM.out]
     show d.size+1-(min ((en:Int)+1) (d.size:Int)).toNat<d.size+2
     omega
  have hv:=hT;unfold TV at hv;have c2:wr.cell? ⟨w.1.size+1,2,none⟩=some (VD VJ r):=ai hv 2;have c1:wr.cell? ⟨w.1.size+1,1,none⟩=some (VH (some ⟨w.1.size,0,none⟩)):=ai hv 1;have ti:DA d (VD VJ a) wr (w.1.size+1)=d.size+1-a:=by rw[xh c2 hr1];rfl
  haveI:af (w.1.size+1) wr:=af.of (ae hv);have HM:=aa ti;have r0:((r:Int)==0)=false:=by simp;omega
  by_cases hlt:a<d.size
  ·have HN:=aa (JG wr w w.1.size (w.1.size+1) w.1.size d r bf aN tx a s hT hP zQ.out rfl HU.out hd hr1 (by omega) hc1 hc2 ha hs2 (hs4 hlt));have HS:=aa hS;obtain⟨fuel,rfl⟩:∃m,fuel=m+1:=⟨fuel-1,by omega⟩;have z:(a:Int)<d.size:=by omega
   have hal:¬d.1.1.length<=a:=by rw[HLEN.out];omega
   have eA:=aa hal;clear hv hT hP ti hS hs4 hal;go_wp2_with fail;refine HN.out.mono ?_;rintro e w3 ⟨hbl,hm⟩;have hu3:ac w w3:=ac.cm (Below.trans HU.out.below hbl);have ba:=aa hu3;clear hbl hu3 HN c2 c1;cases hh:St.eQ dE d.1.1 bf aN (Lib.decDigits r) (d.1.1.length+1) a 0 s with
   | error x=>
    obtain⟨a2,er⟩:=x;rw[hh]at hm;simp only at hm;obtain⟨her,rfl⟩:=hm;have hR:=aa (HS.out.trans (show St.pn d.1.1 (St.cU dE Lib.decDigits d.1.1 bf aN (fuel+1) a r s)=([],a2,er)by rw[St.mf eA.out hh];rfl));have hnb:(er==0)=false:=by simpa using her
    clear her hh;go_wp2;go_ret3;exact aH.err hR.out ba.out
   | ok x=>
    obtain⟨en,n,s'⟩:=x;rw[hh]at hm;simp only at hm
    split at hm
    ·rename_i hnc
     subst hm;have hR:=aa (HS.out.trans (show St.pn d.1.1 (St.cU dE Lib.decDigits d.1.1 bf aN (fuel+1) a r s)=([],a,2)by rw[St.kE eA.out hh hnc];rfl));clear hh hnc;go_wp2;go_ret3;exact aH.err hR.out ba.out
    rename_i hnc
    obtain⟨rfl,hT3,n4,h5,h6,h7,h8⟩:=hm;have hl:=HLEN.out;have hR:=HS.out;rw[St.LW eA.out hh hnc (by omega),hl]at hR;have v2:w3.cell? ⟨w.1.size+1,2,none⟩=some (VD VJ r):=ai hT3 2;have f2:w3.frozen? ⟨w.1.size+1,2,none⟩=false:=bg hT3 2;haveI:af (w.1.size+1) w3:=af.of (ae hT3);have oV:((r:Int)+1)=((r+1:Nat):Int):=by omega
    have x9:=DC hT3 ((r:Int)+1) oV;have x8:=PV.OR n4 hT3 (cD w3 ⟨w.1.size+1,2,none⟩ (VD VJ ((r:Int)+1)));have aU:ac w (w3.setCell ⟨w.1.size+1,2,none⟩ (VD VJ ((r:Int)+1))):=ba.out.tr (cD w3 ⟨w.1.size+1,2,none⟩ _) (λg e=>by cases e;exact Nat.le_succ _);have HE:=aa (And.intro hR (And.intro x9 (And.intro x8 aU)));have yh:((min (en+1) d.size:Nat):Int)=min ((en:Int)+1) (d.size:Int):=by omega
    clear hR hT3 x9 n4 x8 aU hh hnc hl oV;go_wp2;refine⟨⟨HE.out.2.2.2,.inr ⟨min (en+1) d.size,r+1,bf,aN,tx,fuel,s',congrArg (VD VJ) (by omega),by omega,by omega,by omega,hc1,hc2,by omega,by omega,by omega,by omega,HE.out.2.1,HE.out.2.2.1,HE.out.1⟩⟩,?_⟩;have hsp:=xh (r:=r+1) (d:=d) (s3:=VD VJ (min ((en:Int)+1) (d.size:Int))) (ai HE.out.2.1 2) (by omega);rw[hsp,HM.out]
    show d.size+1-(min ((en:Int)+1) (d.size:Int)).toNat<d.size+1-a
    omega
  have GA:a=d.size:=by omega
  have HL:=aa (uG wr w.1.size w.1.size d s hP (by omega) (by omega) (by omega) hsz);have hR:=aa (hS.trans (show St.pn d.1.1 (St.cU dE Lib.decDigits d.1.1 bf aN fuel a r s)=(St.dt d.1.1 s,0,0)by rw[St.me _ _ _ _ (by rw[HLEN.out];omega)];rfl));have z:¬(a:Int)<d.size:=by omega
  clear hv hT hP ti hS hs4;go_wp2_with fail;refine HL.out.mono ?_;rintro e w3 ⟨A,c,rfl,kL,hq1,hq2,hbl⟩;have HE:=aa (And.intro kL (ac.cm (Below.trans HU.out.below hbl)));have lY:=aa hq1;clear kL hbl hq1 HL;go_wp2;go_ret3;unfold aH;rw[hR.out];exact⟨A,c,by simp[St.dt],HE.out.1,by simpa[St.dt]using lY.out,hq2,HE.out.2⟩
end
end Go.Proofs.YthoemdibbldndaaGreatDoor.Sh
