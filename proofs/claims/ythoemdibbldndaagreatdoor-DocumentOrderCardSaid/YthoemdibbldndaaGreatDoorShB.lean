/- The contracts of strconv.Itoa at this translation and of the table's field. -/
import Derived.Test.YthoemdibbldndaaGreatDoorPart
import Derived.Test.YthoemdibbldndaaGreatDoorShA
import Derived.WalkSmall
import Derived.Deep.RegionHeld3
set_option linter.all false
set_option maxHeartbeats 0
set_option maxRecDepth 20000
open Go.Value renaming int->Yp,string->Yq,slice->Yr,pointer->Yt,tuple->Yu
open Go.IntKind renaming i64->Yv
open Go.Obj renaming cells->Yw
open Go.Ending renaming returned->Yx
open Go renaming World->YA
namespace Go.Proofs.YthoemdibbldndaaGreatDoor.Sh
open Go.RowKit Go.Proofs.YthoemdibbldndaaGreatDoor.St
section
def rL:String:=(Rows.documentLimitsRow.named).getD 1 "x"
def nG(w:YA):Prop:=Lib.TabIs Tryz.prog w rL .u64 Lib.pow10Tab
theorem nG.ai{w w':YA}(h:ac w w')(t:nG w):nG w':=by
 unfold nG Lib.TabIs World.var? at t |-;cases hg:Program.globalNamed Tryz.prog rL with
 | none=>rw[hg]at t;simp at t
 | some g=>
  rw[hg]at t;simp only[Option.bind_some]at t |-
  have hlt:g<w.1.size:=by
   rcases Nat.lt_or_ge g w.1.size with h|h
   ·exact h
   rw[Array.getElem?_eq_none h]at t;simp at t
  rw[h.below.block g hlt];exact t
theorem ac.grow{a b:YA}(h:ac a b)(os:Array Obj):ac a (Go.Sort.grow b os):=by
 refine ac.mk ⟨h.below.os,h.below.tape,h.below.output,?_,λk hk=>?_⟩
 ·have:=h.below.size;unfold Go.Sort.grow;simp;omega
 unfold Go.Sort.grow;have:=h.below.size
 rw[Array.getElem?_append_left (by omega)];exact h.below.block k hk
theorem ww(n:Nat)(w:YA)(h1:n<=4611686018427387904)(t:nG w) :
  Calls Tryz.prog 124 #[Yp Yv n] w λe w'=>e=Yx (Yq ⟨(Lib.decDigits n).toArray⟩)/\ac w w':=by
 refine(Any.strconv_Itoa Tryz.D0 n (by omega) (by omega) w t).mono ?_;rintro e w' ⟨rfl,k,os,rfl⟩;refine⟨?_,ac.grow ((ac.refl w).drewN k) os⟩;unfold Lib.itoa;rw[if_neg (by omega)];simp
theorem yK{P:Program}{ops:Array Oper}{o:Oper}{a:Act}{w:YA}{K:Act->YA->Prop}{Q:Exit->Act->YA->Prop}{E:Prop}
  (hg:o.guard=none) (f:FuncId) (args:Array Value) (v:Value) (R:YA->YA->Prop) (hc:Calls P f args w λe w'=>e=Yx v/\R w w')
  (hrun:(execOp a.eval o).run P w=.ok (.enter f args) w) (hK:∀w',R w w'->K (a.put o.dst v) w') :
  if Region.wanted o (yielded ops a.tmps)=true then Oper.wp P o a w K Q else E:=by
 have hw:Region.wanted o (yielded ops a.tmps)=true:=by simp[Region.wanted,hg]
 rw[if_pos hw];unfold Oper.wp;rw[hrun];refine hc.mono ?_;rintro e w' ⟨rfl,hu⟩;exact hK w' hu
def dE(l:List UInt8):Nat × Int:=((St.dec St.cx l.length l 0 0 [] []).2.2.1,(St.dec St.cx l.length l 0 0 [] []).2.2.2)
theorem lm(x:ByteArray):dE x.1.1=((gC x).2.2.1,(gC x).2.2.2):=by
 unfold dE gC;rw[St.aB]
theorem ri:∀(fuel:Nat) (l:List UInt8) (a d:Nat) (f:List St.It) (cuts:List Nat),(St.dec St.cx fuel l a d f cuts).2.2.1<=a+l.length
 | 0,l,a,d,f,cuts=>by simp[St.dec]
 | fuel+1,l,a,d,f,cuts=>by
  by_cases h0:l=[]
  ·subst h0;rw[St.rj];simp
  cases hs:St.cx l with
  | none=>rw[St.oX fuel a d f cuts h0 hs];simp
  | some x=>
   obtain⟨k,t,n⟩:=x;obtain⟨hk,jk,fD⟩:=St.uK hs
   by_cases hf:512<(St.aK f (k,t,0)).length\/1024<=cuts.length
   ·rw[St.oW fuel a d f cuts h0 hs (by omega) hf];simp
   rw[St.oY fuel a d f cuts h0 hs (by omega) hf];have h:=ri fuel (l.drop n) (a+n) (a+n) (St.aK f (k,t,0)) (cuts++[d]);rw[List.length_drop]at h;omega
theorem BO(x:ByteArray):(gC x).2.2.1<=x.size:=by
 have:=ri x.size x.1.1 0 0 [] []
 rw[St.aB]at this;unfold gC;omega
def Cl(w:YA)(B tb pb:Nat)(d:ByteArray)(r bf au texts:Nat)(s:St.PS)(a b n:Nat)(q:Bool)(e:Ending)(w':YA):Prop:=
 Below B w w'/\if bf<=n\/(n=au/\q=false)then e=Yx (Yu #[Yp Yv a,Yp Yv 2])else
  if n=au/\(dE (St.aZ d.1.1 (a+1) (b-1))).2≠0 then e=Yx (Yu #[Yp Yv ((a+1+(dE (St.aZ d.1.1 (a+1) (b-1))).1:Nat):Int),Yp Yv (dE (St.aZ d.1.1 (a+1) (b-1))).2])else
   e=Yx (Yu #[Yp Yv 0,Yp Yv 0])/\TV w' tb pb d r bf au texts/\PV w' B pb d (if n=au then St.bk d.1.1 s (a+1) (b-1) (Lib.decDigits r)else s)
theorem Jm(w w0:YA)(B tb pb:Nat)(d:ByteArray)(r bf au texts:Nat)(s:St.PS)(a b n:Nat)(q:Bool)(hT:TV w tb pb d r bf au texts)(hP:PV w B pb d s)(ht:nG w0)(n6:B=w0.1.size)(h0:ac w0 w)
  (h1:s.2<=a) (h2:a<=b) (h3:b<=d.size) (hq:n=au->q=true->a+2<=b) (hd:d.size<=65536) (hr:r<=100000) (hc:bf<=100000) (hcl:au<=100000) (hn:n<=100000) (hl:s.1.length<=1000000) :
  Calls Tryz.prog 171 #[Yt (some ⟨tb,0,none⟩),Yp Yv a,Yp Yv b,Yp Yv n,.bool q] w (Cl w B tb pb d r bf au texts s a b n q):=by
 have hBw:B<=w.1.size:=by rw[n6];exact h0.size
 have hv:=hT;unfold TV at hv;have c0:w.cell? ⟨tb,0,none⟩=some (Yq d):=aj hv 0;have c1:w.cell? ⟨tb,1,none⟩=some (Yt (some ⟨pb,0,none⟩)):=aj hv 1;have c2:w.cell? ⟨tb,2,none⟩=some (Yp Yv r):=aj hv 2;have c3:w.cell? ⟨tb,3,none⟩=some (Yp Yv bf):=aj hv 3;have c4:w.cell? ⟨tb,4,none⟩=some (Yp Yv au):=aj hv 4;haveI:af tb w:=af.of (ae hv);have HT:=aa hT;have HP:=aa hP;have CO:=aa ht;have H0:=aa h0;clear hv hT hP ht h0 n6
 by_cases k1:bf<=n
 ·have WL:(bf:Int)<=(n:Int):=by omega
  have hE:Cl w B tb pb d r bf au texts s a b n q (Yx (Yu #[Yp Yv a,Yp Yv 2])) w:=⟨Below.refl _ _,by rw[if_pos (Or.inl k1)]⟩;have HE:=aa hE;clear hE;go_enter Tryz.func171,Tryz.ntmps171;go_wp2;go_ret2;exact HE.out
 have WL:¬(bf:Int)<=(n:Int):=by omega
 by_cases k2:n=au
 ·subst k2;have m2:((n:Int)==(n:Int))=true:=by simp
  cases q
  ·have hE:Cl w B tb pb d r bf n texts s a b n false (Yx (Yu #[Yp Yv a,Yp Yv 2])) w:=⟨Below.refl _ _,by rw[if_pos (Or.inr ⟨rfl,rfl⟩)]⟩;have HE:=aa hE;clear hE;go_enter Tryz.func171,Tryz.ntmps171;go_wp2;go_ret2;exact HE.out
  have hq2:=hq rfl rfl;obtain⟨b2,rfl⟩:∃b2,b=b2+1:=⟨b-1,by omega⟩;obtain⟨x,hX⟩:∃x,d.extract (a+1) b2=x:=⟨_,rfl⟩;have hxl:x.1.1=St.aZ d.1.1 (a+1) (b2+1-1):=by rw[<-hX,eW];rfl
  have hxs:x.size<=d.size:=by rw[<-hX];simp;omega
  have Ru:=lm x;rw[hxl]at Ru;have Qk:=aa Ru;have jg:=aa (λW=>vG x W (by omega));have z1:(a:Int)+1<=(b2:Int):=by omega
  have z2:(b2:Int)<=d.size:=by omega
  have z3:(0:Int)<=(a:Int)+1:=by omega
  have z4:(b2:Int)+1-1=b2:=by omega
  have ha1:((a+1:Nat):Int)=(a:Int)+1:=by omega
  have gY:=aa (λW (hW:ac w W)=>(by have h:=NO W B pb d ⟨(Lib.decDigits r).toArray⟩ s (a+1) b2 (HP.out.ai hW) (by omega) (by omega) (by omega) (by omega) hl (Nat.le_trans hBw hW.size);rw[ha1]at h;exact h:Calls Tryz.prog 79 #[Yt (some ⟨pb,0,none⟩),Yp Yv ((a:Int)+1),Yp Yv b2,Yq ⟨(Lib.decDigits r).toArray⟩] W λe w'=>e=Yx (Yu #[])/\PV w' B pb d (St.bk d.1.1 s (a+1) b2 (Lib.decDigits r))/\Below B W w'/\eO nS W w'));have HIT:=aa (λW (hW:ac w W)=>ww r W (by omega) (CO.out.ai (H0.out.trans hW)));have hat:=BO x;clear hxl Ru hq hq2 ha1;generalize hR:gC x=R at *;obtain⟨f,cu,i,er⟩:=R;simp only at hat;have XP:i<=65536:=by omega
  by_cases ke:er=0
  ·subst ke;go_enter Tryz.func171,Tryz.ntmps171;go_wp2_with fail;refine(jg.out _).mono ?_;rintro e w2 ⟨A,c,rfl,_,_,_,hu2⟩;have aX:=aa hu2;clear hu2;go_wp2_with fail;have g1:w2.cell? ⟨tb,1,none⟩=some (Yt (some ⟨pb,0,none⟩)):=(aX.out.cell (af.lt inferInstance)).trans c1;have g2:w2.cell? ⟨tb,2,none⟩=some (Yp Yv r):=(aX.out.cell (af.lt inferInstance)).trans c2;haveI:af tb w2:=af.of (cS _ _ g1);have hw1:IntKind.i64.wrap ((a:Int)+1)=(a:Int)+1:=IntWalk.i64_in _ (by omega);have hw3:IntKind.i64.wrap (b2:Int)=(b2:Int):=IntWalk.i64_in _ (by omega);have hw2:IntKind.i64.wrap ((b2:Int)+1-1)=(b2:Int):=by rw[z4];exact IntWalk.i64_in _ (by omega)
   clear c0 c1 c2 c3 c4;go_region_law (first|(refine yK rfl 124 #[Yp Yv r] (Yq ⟨(Lib.decDigits r).toArray⟩) ac (HIT.out _ (aX.out.trans uZ)) ?_ ?_;(· go_simp;done);intro w5 bt;have g1':=(bt.cell (p:=⟨tb,1,none⟩) (af.lt inferInstance)).trans g1;haveI:af tb w5:=af.of (cS _ _ g1'))|(refine yK rfl 79 #[Yt (some ⟨pb,0,none⟩),Yp Yv ((a:Int)+1),Yp Yv b2,Yq ⟨(Lib.decDigits r).toArray⟩] (Yu #[]) (λW w'=>PV w' B pb d (St.bk d.1.1 s (a+1) b2 (Lib.decDigits r))/\Below B W w'/\eO nS W w') (gY.out _ (aX.out.trans ((uZ:ac w2 _).trans bt))) ?_ ?_;(· go_simp;done);intro w6 ⟨Uk,fY,ht6⟩;have Kp:=(HT.out.ai (aX.out.trans ((uZ:ac w2 _).trans bt))).tk ht6))
   all_goals
    have T3:=((aX.out.trans ((uZ:ac w2 _).trans bt)).below.mono hBw).trans fY;have HE:=aa (And.intro Kp (And.intro Uk T3));clear Kp Uk T3 fY ht6 hw1 hw2 hw3;go_wp2;go_ret2;refine⟨HE.out.2.2,?_⟩;rw[if_neg (by simp;omega),if_neg (by rw[Qk.out];simp),if_pos rfl];exact⟨rfl,HE.out.1,by simpa using HE.out.2.1⟩
  have Ye:(er==0)=false:=by simpa using ke
  go_enter Tryz.func171,Tryz.ntmps171;go_wp2_with fail;refine(jg.out _).mono ?_;rintro e w2 ⟨A,c,rfl,_,_,_,hu2⟩;have aX:=aa hu2;clear hu2;go_wp2;go_ret2;refine⟨(aX.out.below.mono hBw),?_⟩;rw[if_neg (by simp;omega),if_pos ⟨rfl,by rw[Qk.out];exact ke⟩,Qk.out];have ei:((a+1+i:Nat):Int)=(a:Int)+1+(i:Int):=by omega
  simp only[ei];rfl
 have m2:((n:Int)==(au:Int))=false:=by simp;omega
 have hE:Cl w B tb pb d r bf au texts s a b n q (Yx (Yu #[Yp Yv 0,Yp Yv 0])) w:=⟨Below.refl _ _,by rw[if_neg (by omega),if_neg (λh=>k2 h.1),if_neg k2];exact⟨rfl,HT.out,HP.out⟩⟩;have HE:=aa hE;clear hE;go_enter Tryz.func171,Tryz.ntmps171;go_wp2;go_ret2;exact HE.out
end
section
namespace St
theorem sy:∀(m:Nat) (l:List UInt8) (n:Nat),l.length<=m->bD l=some n->1<=n/\n<=l.length
 | 0,l,n,hl,h=>by
  have h0:l=[]:=List.eq_nil_of_length_eq_zero (by omega);subst h0;cases h
 | m+1,[],n,hl,h=>by cases h
 | m+1,c :: r,n,hl,h=>by
  by_cases hc:c.toNat=34
  ·cases r with
   | nil=>rw[qP hc]at h;cases h;simp
   | cons d r=>
    by_cases hd:d.toNat=34
    ·rw[sA hc hd]at h;cases hq:bD r with
     | none=>rw[hq]at h;cases h
     | some k=>
      rw[hq]at h;have:=sy m r k (by simp at hl;omega) hq
      simp at h;simp;omega
    rw[sw hc hd]at h;cases h;simp
  rw[pE hc]at h;cases hq:bD r with
  | none=>rw[hq]at h;cases h
  | some k=>
   rw[hq]at h;have:=sy m r k (by simp at hl;omega) hq
   simp at h;simp;omega
theorem nK{l:List UInt8}{k:Nat}{q:Bool}(h:cV l=some (k,q)):k<=l.length/\(q=true->2<=k):=by
 cases l with
 | nil=>rw[AT]at h;simp at h;obtain⟨rfl,rfl⟩:=h;simp
 | cons c r=>
  by_cases hc:c.toNat=34
  ·rw[zy hc]at h;cases hq:bD r with
   | none=>rw[hq]at h;cases h
   | some n=>
    rw[hq]at h;simp only at h
    split at h
    ·simp only[Option.some.injEq,Prod.mk.injEq]at h;obtain⟨rfl,rfl⟩:=h;have:=sy _ r n (Nat.le_refl _) hq
     simp;omega
    cases h
  rw[va (λc' r' e=>by simp only[List.cons.injEq]at e;rw[<-e.1];exact hc)]at h
  split at h
  ·simp only[Option.some.injEq,Prod.mk.injEq]at h;obtain⟨rfl,rfl⟩:=h;refine⟨?_,λh=>by cases h⟩;exact(List.takeWhile_prefix _).length_le
  cases h
theorem ue{d:List UInt8}{fuel a n tx au:Nat}(h:cV (d.drop a)=none):fk d (fuel+1) a n tx au=.error (a,2):=by
 rw[fk,h]
theorem nM{d:List UInt8}{fuel a n tx au k:Nat}{q:Bool}(h:cV (d.drop a)=some (k,q)):fk d (fuel+1) a n tx au=match d.drop (a+k)with
   | []=>.ok (a+k,n+1,(if aZ d a (a+k)==[116,101,120,116]then tx+1 else tx),(if aZ d a (a+k)==[116,101,120,116]then n else au))
   | c :: _=>if c.toNat=10 then .ok (a+k,n+1,(if aZ d a (a+k)==[116,101,120,116]then tx+1 else tx),(if aZ d a (a+k)==[116,101,120,116]then n else au))else fk d fuel (a+k+1) (n+1) (if aZ d a (a+k)==[116,101,120,116]then tx+1 else tx) (if aZ d a (a+k)==[116,101,120,116]then n else au):=by
 rw[fk,h];simp only[];cases d.drop (a+k)<;>rfl
end St
def SU(w:YA)(B tb pb:Nat)(d:ByteArray)(e:Ending)(w':YA):Prop:=
 Below B w w'/\match St.fk d.1.1 (d.1.1.length+1) 0 0 0 0 with
  | .error (a,er)=>er≠0/\e=Yx (Yu #[Yp Yv a,Yp Yv er])
  | .ok (en,n,tx,au)=>if tx=0 then e=Yx (Yu #[Yp Yv 0,Yp Yv 6])else if 1<tx then e=Yx (Yu #[Yp Yv 0,Yp Yv 5])else
    e=Yx (Yu #[Yp Yv (min (en+1) d.size:Nat),Yp Yv 0])/\TV w' tb pb d 0 n au tx/\PV w' B pb d ([],0)/\n<=100000/\au<=100000/\en<=d.size
def S6(w:YA)(B tb pb:Nat)(d:ByteArray)(s6 s7:Value)(wr:YA):Prop:=
 ∃a n tx au fuel:Nat,s6=Yp Yv a/\s7=Yp Yv n/\a<=d.size/\n<=a/\tx<=n/\au<=n/\d.size+1-a<=fuel/\St.fk d.1.1 (d.1.1.length+1) 0 0 0 0=St.fk d.1.1 fuel a n tx au/\TV wr tb pb d 0 n au tx/\PV wr B pb d ([],0)/\Below B w wr
theorem K5(w:YA)(B tb pb:Nat)(d:ByteArray)(hT:TV w tb pb d 0 0 0 0)(hP:PV w B pb d ([],0))(hB:B<=tb)(hBw:B<=w.1.size)(hd:d.size<=65536) :
  Calls Tryz.prog 125 #[Yt (some ⟨tb,0,none⟩),Yp Yv 0] w (SU w B tb pb d):=by
 have JG:=aa hT;have JC:=aa hP;clear hT hP;go_enter Tryz.func125,Tryz.ntmps125;go_wp2;go_loopw [6,7] (λs6 s7 wr=>S6 w B tb pb d s6 s7 wr) (λs6 _ _=>d.size+1-(intOf s6).toNat)
 case atStart=>exact⟨0,0,0,0,d.1.1.length+1,rfl,rfl,by omega,by omega,by omega,by omega,by simp,rfl,JG.out,JC.out,Below.refl _ _⟩
 case round=>
  obtain⟨a,n,tx,au,fuel,rfl,rfl,ha,x6,htx,hcol,hfu,hH,hT,hP,hbl⟩:=hrel;obtain⟨fuel,rfl⟩:∃m,fuel=m+1:=⟨fuel-1,by omega⟩;have hv:=hT;unfold TV at hv;have c0:wr.cell? ⟨tb,0,none⟩=some (Yq d):=aj hv 0;have c2:wr.cell? ⟨tb,2,none⟩=some (Yp Yv (0:Nat)):=aj hv 2;haveI:af tb wr:=af.of (ae hv);have HT:=aa hT;have HP:=aa hP;have HH:=aa hH;have dd:=aa hbl;have HF:=aa (AS d a wr ha (by omega));have zB:B<=wr.1.size:=Nat.le_trans hBw hbl.size;clear JG JC hv hT hP hH hbl;go_wp2_with fail;refine HF.out.mono ?_;rintro e w2 ⟨hu2,hm⟩;have aX:=aa hu2;have g2:w2.cell? ⟨tb,2,none⟩=some (Yp Yv (0:Nat)):=(hu2.cell (af.lt inferInstance)).trans c2;haveI:af tb w2:=af.of (cS _ _ g2);clear hu2 c0 c2;cases hs:St.cV (d.1.1.drop a)with
  | none=>
   rw[hs]at hm;obtain⟨x,y,rfl⟩:=hm;have hh:=HH.out.trans (St.ue hs);have dO:=aa hh;clear hh hs HH HF;go_wp2;go_ret2;refine⟨dd.out.trans (aX.out.below.mono zB),?_⟩;rw[dO.out];exact⟨by decide,rfl⟩
  | some x=>
   obtain⟨k,q⟩:=x;rw[hs]at hm;simp only at hm;subst hm;obtain⟨hk1,_⟩:=St.nK hs;have hk2:a+k<=d.size:=by simp at hk1;omega
   have hh:=HH.out.trans (St.nM hs);have mL:=Io w2 tb pb d n au tx a (a+k) n (HT.out.ai aX.out) (by omega) hk2 (by omega) (by omega) (by omega);have Rr:(if St.aZ d.1.1 a (a+k)==[116,101,120,116]then n else au)<=n+1:=by split<;>omega
   have RW:(if St.aZ d.1.1 a (a+k)==[116,101,120,116]then tx+1 else tx)<=n+1:=by split<;>omega
   generalize(if St.aZ d.1.1 a (a+k)==[116,101,120,116]then n else au)=col2 at hh mL Rr;generalize(if St.aZ d.1.1 a (a+k)==[116,101,120,116]then tx+1 else tx)=tu at hh mL RW;have DF:a<=a+k:=by omega
   generalize hm:a+k=m at hk2 hh mL DF |-;have Tz:=aa mL;have dO:=aa hh;clear hh mL hs HH HF hk1 hm;go_wp2_with fail;refine Tz.out.mono ?_;rintro e w3 ⟨rfl,hT3,hg3⟩;have ta:=PV.Sl (HP.out.ai aX.out) (HT.out.ai aX.out) hg3;have Bc:Below B w w3:=(dd.out.trans (aX.out.below.mono zB)).grown hg3 (Nat.le_trans zB aX.out.size) (λg e=>by cases e;exact hB);have hv:=hT3;unfold TV at hv;have d0:w3.cell? ⟨tb,0,none⟩=some (Yq d):=aj hv 0;have d2:w3.cell? ⟨tb,2,none⟩=some (Yp Yv (0:Nat)):=aj hv 2;have d3:w3.cell? ⟨tb,3,none⟩=some (Yp Yv (n+1:Nat)):=aj hv 3;have d5:w3.cell? ⟨tb,5,none⟩=some (Yp Yv tu):=aj hv 5;haveI:af tb w3:=af.of (ae hv);have HE:=aa (And.intro hT3 (And.intro ta Bc));clear hv hT3 hg3 ta Bc g2 HT HP Tz;rcases Nat.lt_or_ge m d.size with fC|fC
   ·have av:=St.drop_at d m fC;have y1:((m:Int)==(d.size:Int))=false:=by simp;omega
    have y3:(m:Int)<d.size:=by omega
    by_cases bK:d[m].toNat=10
    ·have y2:((d[m].toNat:Int)==10)=true:=by simp;omega
     have bY:=dO.out;rw[av]at bY;simp only[bK,if_true]at bY;have dl:=aa bY;clear bY av dO;rcases(show tu=0\/tu=1\/1<tu by omega)with q0|q1|q2
     ·subst q0;go_wp2;go_ret2;refine⟨HE.out.2.2,?_⟩;rw[dl.out];rfl
     ·subst q1;go_wp2;go_ret2;refine⟨HE.out.2.2,?_⟩;rw[dl.out];simp only[];rw[if_neg (by omega),if_neg (by omega)];have vZ:((min (m+1) d.size:Nat):Int)=min ((m:Int)+1) (d.size:Int):=by omega
      exact⟨by rw[vZ];rfl,HE.out.1,HE.out.2.1,by omega,by omega,by omega⟩
     have q2':(1:Int)<(tu:Int):=by omega
     have q3':((tu:Int)==0)=false:=by simp;omega
     go_wp2;go_ret2;refine⟨HE.out.2.2,?_⟩;rw[dl.out];simp only[];rw[if_neg (by omega),if_pos q2];rfl
    have y2:((d[m].toNat:Int)==10)=false:=by simp;omega
    have bY:=dO.out;rw[av]at bY;simp only[bK,if_false]at bY;have dl:=aa bY;clear bY av dO;go_wp2;exact⟨⟨m+1,n+1,tu,col2,fuel,congrArg (Yp Yv) (by omega),congrArg (Yp Yv) (by omega),by omega,by omega,RW,Rr,by omega,dl.out,HE.out.1,HE.out.2.1,HE.out.2.2⟩,by simp[intOf];omega⟩
   have hme:m=d.size:=by omega
   have hnil:=St.fR d m fC;have y1:((m:Int)==(d.size:Int))=true:=by simp;omega
   have bY:=dO.out;rw[hnil]at bY;simp only[]at bY;have dl:=aa bY;clear bY hnil dO;rcases(show tu=0\/tu=1\/1<tu by omega)with q0|q1|q2
   ·subst q0;go_wp2;go_ret2;refine⟨HE.out.2.2,?_⟩;rw[dl.out];rfl
   ·subst q1;go_wp2;go_ret2;refine⟨HE.out.2.2,?_⟩;rw[dl.out];simp only[];rw[if_neg (by omega),if_neg (by omega)];have vZ:((min (m+1) d.size:Nat):Int)=min ((d.size:Int)+1) (d.size:Int):=by omega
    exact⟨by rw[vZ];rfl,HE.out.1,HE.out.2.1,by omega,by omega,by omega⟩
   have q2':(1:Int)<(tu:Int):=by omega
   have q3':((tu:Int)==0)=false:=by simp;omega
   go_wp2;go_ret2;refine⟨HE.out.2.2,?_⟩;rw[dl.out];simp only[];rw[if_neg (by omega),if_pos q2];rfl
end
section
namespace St
variable {dE:List UInt8->Nat × Int} {d key:List UInt8} {W C fuel a n k:Nat} {q:Bool} {s:PS}
theorem sC(h:cV (d.drop a)=none):dw dE d W C key (fuel+1) a n s=.error (a,2):=by
 rw[dw,h]
theorem vg(h:cV (d.drop a)=some (k,q))(hb:W<=n\/(n=C/\q=false)):dw dE d W C key (fuel+1) a n s=.error (a,2):=by
 rw[dw,h];simp only[];rw[if_pos hb]
theorem vh(h:cV (d.drop a)=some (k,q))(hb:¬(W<=n\/(n=C/\q=false)))(he:n=C/\(dE (aZ d (a+1) (a+k-1))).2≠0):dw dE d W C key (fuel+1) a n s=.error (a+1+(dE (aZ d (a+1) (a+k-1))).1,(dE (aZ d (a+1) (a+k-1))).2):=by
 rw[dw,h];simp only[];rw[if_neg hb,if_pos he]
theorem sD(h:cV (d.drop a)=some (k,q))(hb:¬(W<=n\/(n=C/\q=false)))(he:¬(n=C/\(dE (aZ d (a+1) (a+k-1))).2≠0)):dw dE d W C key (fuel+1) a n s=match d.drop (a+k)with
   | []=>.ok (a+k,n+1,if n=C then bk d s (a+1) (a+k-1) key else s)
   | c :: _=>if c.toNat=10 then .ok (a+k,n+1,if n=C then bk d s (a+1) (a+k-1) key else s)else dw dE d W C key fuel (a+k+1) (n+1) (if n=C then bk d s (a+1) (a+k-1) key else s):=by
 rw[dw,h];simp only[];rw[if_neg hb,if_neg he];cases d.drop (a+k)<;>rfl
end St
def Td(w:YA)(B tb pb:Nat)(d:ByteArray)(r bf au texts a0:Nat)(s:St.PS)(e:Ending)(w':YA):Prop:=
 Below B w w'/\match St.dw dE d.1.1 bf au (Lib.decDigits r) (d.1.1.length+1) a0 0 s with
  | .error (a,er)=>er≠0/\e=Yx (Yu #[Yp Yv a,Yp Yv er])
  | .ok (en,n,s')=>if n<bf then e=Yx (Yu #[Yp Yv a0,Yp Yv 2])else
    e=Yx (Yu #[Yp Yv (min (en+1) d.size:Nat),Yp Yv 0])/\TV w' tb pb d r bf au texts/\PV w' B pb d s'/\s'.2<=en/\en<=d.size/\a0<=en/\s'.1.length<=2*(en+1)
def S8(w:YA)(B tb pb:Nat)(d:ByteArray)(r bf au texts a0:Nat)(s:St.PS)(s6 s7:Value)(wr:YA):Prop:=
 ∃(a n fuel:Nat) (s1:St.PS),s6=Yp Yv a/\s7=Yp Yv n/\a0<=a/\a<=d.size/\n<=a/\d.size+1-a<=fuel /\
  St.dw dE d.1.1 bf au (Lib.decDigits r) (d.1.1.length+1) a0 0 s=St.dw dE d.1.1 bf au (Lib.decDigits r) fuel a n s1/\TV wr tb pb d r bf au texts/\PV wr B pb d s1/\s1.2<=a/\s1.1.length<=2*a/\Below B w wr
theorem Nd(w w0:YA)(B tb pb:Nat)(d:ByteArray)(r bf au texts a0:Nat)(s:St.PS)(hT:TV w tb pb d r bf au texts)(hP:PV w B pb d s)(ht:nG w0)(n6:B=w0.1.size)(h0:ac w0 w)(hd:d.size<=65536)(hr1:1<=r)(hr:r<=100000)(hc:bf<=100000)(hcl:au<=100000)
  (ha0:a0<=d.size) (hs2:s.2<=a0) (hsl:s.1.length<=2*a0) :
  Calls Tryz.prog 125 #[Yt (some ⟨tb,0,none⟩),Yp Yv a0] w (Td w B tb pb d r bf au texts a0 s):=by
 have JG:=aa hT;have JC:=aa hP;have CO:=aa ht;have H0:=aa h0;have hBw:B<=w.1.size:=by rw[n6];exact h0.size
 have mH:=aa n6;clear hT hP ht h0 n6;go_enter Tryz.func125,Tryz.ntmps125;go_wp2;go_loopw [6,7] (λs6 s7 wr=>S8 w B tb pb d r bf au texts a0 s s6 s7 wr) (λs6 _ _=>d.size+1-(intOf s6).toNat)
 case atStart=>exact⟨a0,0,d.1.1.length+1,s,rfl,rfl,by omega,by omega,by omega,by simp<;>omega,rfl,JG.out,JC.out,hs2,hsl,Below.refl _ _⟩
 case round=>
  obtain⟨a,n,fuel,s1,rfl,rfl,haa,ha,x6,hfu,hH,hT,hP,hs3,hs4,hbl⟩:=hrel;obtain⟨fuel,rfl⟩:∃m,fuel=m+1:=⟨fuel-1,by omega⟩;have hv:=hT;unfold TV at hv;have c0:wr.cell? ⟨tb,0,none⟩=some (Yq d):=aj hv 0;have c2:wr.cell? ⟨tb,2,none⟩=some (Yp Yv r):=aj hv 2;haveI:af tb wr:=af.of (ae hv);have HT:=aa hT;have HP:=aa hP;have HH:=aa hH;have dd:=aa hbl;have HF:=aa (AS d a wr ha (by omega));have zB:B<=wr.1.size:=Nat.le_trans hBw hbl.size
  have T1:ac w0 wr:=by
   have e:=mH.out;refine ac.cy (Below.trans H0.out.below ?_);rw[<-e];exact hbl
  have VA:=aa T1;clear JG JC hv hT hP hH hbl T1;have r0:((r:Int)==0)=false:=by simp;omega
  have r1:(0:Int)<(r:Int):=by omega
  go_wp2_with fail;refine HF.out.mono ?_;rintro e w2 ⟨hu2,hm⟩;have aX:=aa hu2;have g2:w2.cell? ⟨tb,2,none⟩=some (Yp Yv r):=(hu2.cell (af.lt inferInstance)).trans c2;haveI:af tb w2:=af.of (cS _ _ g2);clear hu2 c0 c2;cases hs:St.cV (d.1.1.drop a)with
  | none=>
   rw[hs]at hm;obtain⟨x,y,rfl⟩:=hm;have hh:=HH.out.trans (St.sC hs);have dO:=aa hh;clear hh hs HH HF;go_wp2;go_ret2;refine⟨dd.out.trans (aX.out.below.mono zB),?_⟩;rw[dO.out];exact⟨by decide,rfl⟩
  | some x=>
   obtain⟨k,q⟩:=x;rw[hs]at hm;simp only at hm;subst hm;obtain⟨hk1,vu⟩:=St.nK hs;have hk2:a+k<=d.size:=by simp at hk1;omega
   have RX:=Jm w2 w0 B tb pb d r bf au texts s1 a (a+k) n q (HT.out.ai aX.out) (HP.out.ai aX.out) CO.out mH.out (VA.out.trans aX.out) hs3 (by omega) hk2 (λ_ h=>by have:=vu h;omega) hd hr hc hcl (by omega) (by omega);have hb1:=λhb=>HH.out.trans (St.vg (dE:=dE) (key:=Lib.decDigits r) (fuel:=fuel) (s:=s1) hs (W:=bf) (n:=n) (C:=au) hb)
   have hb2:=λhb he=>HH.out.trans (St.vh (dE:=dE) (key:=Lib.decDigits r) (fuel:=fuel) (s:=s1) hs (W:=bf) (n:=n) (C:=au) hb he)
   have hb3:=λhb he=>HH.out.trans (St.sD (dE:=dE) (key:=Lib.decDigits r) (fuel:=fuel) (s:=s1) hs (W:=bf) (n:=n) (C:=au) hb he)
   have DF:a<=a+k:=by omega
   have OH:∀P:Prop,(n=au->q=true->a+2<=a+k):=λ_ _ h=>by have:=vu h;omega
   generalize hm:a+k=m at hk2 RX hb1 hb2 hb3 DF |-;have FP:=aa RX;have pL:=aa hb1;have pM:=aa hb2;have pN:=aa hb3;clear RX hb1 hb2 hb3 hs HH HF hk1 vu OH hm;go_wp2_with fail;refine FP.out.mono ?_;rintro e w3 ⟨mi,hm⟩;have Bc:Below B w w3:=(dd.out.trans (aX.out.below.mono zB)).trans mi;have L2:=aa Bc;clear mi Bc
   split at hm
   ·rename_i hb
    subst hm;have dO:=aa (pL.out hb);clear hb g2;go_wp2;go_ret2;refine⟨L2.out,?_⟩;rw[dO.out];exact⟨by decide,rfl⟩
   rename_i hb
   split at hm
   ·rename_i he
    subst hm;have dO:=aa (pM.out hb he);have hne:=he.2;generalize dE (St.aZ d.1.1 (a+1) (m-1))=ev at dO hne;obtain⟨ei,er⟩:=ev;have hnb:(er==0)=false:=by simpa using hne
    have gK:=aa hne;clear hb he hne g2;go_wp2;go_ret2;refine⟨L2.out,?_⟩;rw[dO.out];exact⟨gK.out,by rfl⟩
   rename_i he
   obtain⟨rfl,hT3,ta⟩:=hm;have dO:=aa (pN.out hb he)
   have hs5:(if n=au then St.bk d.1.1 s1 (a+1) (m-1) (Lib.decDigits r)else s1).2<=m:=by
    split
    ·show m-1<=m;omega
    omega
   have KK:(if n=au then St.bk d.1.1 s1 (a+1) (m-1) (Lib.decDigits r)else s1).1.length<=2*(a+1):=by
    split
    ·show(s1.1++[_,_]).length<=_;simp;omega
    omega
   have Wx:n<bf:=by omega
   generalize(if n=au then St.bk d.1.1 s1 (a+1) (m-1) (Lib.decDigits r)else s1)=s2 at dO ta hs5 KK;have hv:=hT3;unfold TV at hv;have d0:w3.cell? ⟨tb,0,none⟩=some (Yq d):=aj hv 0;have d2:w3.cell? ⟨tb,2,none⟩=some (Yp Yv r):=aj hv 2;have d3:w3.cell? ⟨tb,3,none⟩=some (Yp Yv bf):=aj hv 3;haveI:af tb w3:=af.of (ae hv);have HE:=aa (And.intro hT3 (And.intro ta L2.out));clear hv hT3 ta g2 HT HP hb he FP pL pM pN;rcases Nat.lt_or_ge m d.size with fC|fC
   ·have av:=St.drop_at d m fC;have y1:((m:Int)==(d.size:Int))=false:=by simp;omega
    have y3:(m:Int)<d.size:=by omega
    by_cases bK:d[m].toNat=10
    ·have y2:((d[m].toNat:Int)==10)=true:=by simp;omega
     have bY:=dO.out;rw[av]at bY;simp only[bK,if_true]at bY;have dl:=aa bY;clear bY av dO
     by_cases hw:n+1<bf
     ·have hw':(n:Int)+1<(bf:Int):=by omega
      go_wp2;go_ret2;refine⟨HE.out.2.2,?_⟩;rw[dl.out];simp only[];rw[if_pos hw];rfl
     have hw':¬(n:Int)+1<(bf:Int):=by omega
     go_wp2;go_ret2;refine⟨HE.out.2.2,?_⟩;rw[dl.out];simp only[];rw[if_neg hw];have vZ:((min (m+1) d.size:Nat):Int)=min ((m:Int)+1) (d.size:Int):=by omega
     exact⟨by rw[vZ];rfl,HE.out.1,HE.out.2.1,hs5,by omega,by omega,by omega⟩
    have y2:((d[m].toNat:Int)==10)=false:=by simp;omega
    have bY:=dO.out;rw[av]at bY;simp only[bK,if_false]at bY;have dl:=aa bY;clear bY av dO;go_wp2;exact⟨⟨m+1,n+1,fuel,s2,congrArg (Yp Yv) (by omega),congrArg (Yp Yv) (by omega),by omega,by omega,by omega,by omega,dl.out,HE.out.1,HE.out.2.1,by omega,by omega,HE.out.2.2⟩,by simp[intOf];omega⟩
   have hme:m=d.size:=by omega
   have hnil:=St.fR d m fC;have y1:((m:Int)==(d.size:Int))=true:=by simp;omega
   have bY:=dO.out;rw[hnil]at bY;simp only[]at bY;have dl:=aa bY;clear bY hnil dO
   by_cases hw:n+1<bf
   ·have hw':(n:Int)+1<(bf:Int):=by omega
    go_wp2;go_ret2;refine⟨HE.out.2.2,?_⟩;rw[dl.out];simp only[];rw[if_pos hw];rfl
   have hw':¬(n:Int)+1<(bf:Int):=by omega
   go_wp2;go_ret2;refine⟨HE.out.2.2,?_⟩;rw[dl.out];simp only[];rw[if_neg hw];have vZ:((min (m+1) d.size:Nat):Int)=min ((d.size:Int)+1) (d.size:Int):=by omega
   exact⟨by rw[vZ];rfl,HE.out.1,HE.out.2.1,hs5,by omega,by omega,by omega⟩
end
section
theorem km(d:ByteArray)(w:YA):Calls Tryz.prog 75 #[Yq d] w λe w'=>e=Yx (Yt (some ⟨w.1.size,0,none⟩))/\w'=w.alloc (Yw #[Yq d,Yp Yv 0,Yr none 0 0] 161):=by
 go_enter Tryz.func75,Tryz.ntmps75;go_wp2;go_ret;exact⟨rfl,rfl⟩
namespace St
variable {dE:List UInt8->Nat × Int} {dig:Nat->List UInt8} {d:List UInt8} {W C:Nat}
theorem nj(fuel a r:Nat)(s:PS)(h:d.length<=a):cF dE dig d W C fuel a r s=.ok s:=by
 cases fuel with
 | zero=>rfl
 | succ f=>rw[cF,if_pos h]
theorem Ez(fuel e r:Nat)(s:PS)(he:e<=d.length):cF dE dig d W C fuel (e+1) r s=cF dE dig d W C fuel (min (e+1) d.length) r s:=by
 by_cases h:e+1<=d.length
 ·rw[Nat.min_eq_left h]
 rw[nj _ _ _ _ (by omega),nj _ _ _ _ (by omega)]
theorem nk{fuel a r:Nat}{s:PS}{x:Nat × Int}(h:¬d.length<=a)(hr:dw dE d W C (dig r) (d.length+1) a 0 s=.error x):cF dE dig d W C (fuel+1) a r s=.error x:=by
 rw[cF,if_neg h,hr]
theorem lJ{fuel a r e n:Nat}{s s':PS}(h:¬d.length<=a)(hr:dw dE d W C (dig r) (d.length+1) a 0 s=.ok (e,n,s'))(hn:n<W):cF dE dig d W C (fuel+1) a r s=.error (a,2):=by
 rw[cF,if_neg h,hr];simp only[];rw[if_pos hn]
theorem PL{fuel a r e n:Nat}{s s':PS}(h:¬d.length<=a)(hr:dw dE d W C (dig r) (d.length+1) a 0 s=.ok (e,n,s'))(hn:¬n<W)(he:e<=d.length):cF dE dig d W C (fuel+1) a r s=cF dE dig d W C fuel (min (e+1) d.length) (r+1) s':=by
 rw[cF,if_neg h,hr];simp only[];rw[if_neg hn,Ez _ _ _ _ he]
theorem uO{a:Nat}{er:Int}(h0:¬65536<d.length)(h:fk d (d.length+1) 0 0 0 0=.error (a,er)):eM dE dig d=([],a,er):=by
 rw[eM,if_neg h0,h]
theorem oy{e n tx c:Nat}(h0:¬65536<d.length)(h:fk d (d.length+1) 0 0 0 0=.ok (e,n,tx,c))(ht:tx=0):eM dE dig d=([],0,6):=by
 rw[eM,if_neg h0,h];simp only[];rw[if_pos ht]
theorem kR{e n tx c:Nat}(h0:¬65536<d.length)(h:fk d (d.length+1) 0 0 0 0=.ok (e,n,tx,c))(ht:tx≠0)(ht2:1<tx):eM dE dig d=([],0,5):=by
 rw[eM,if_neg h0,h];simp only[];rw[if_neg ht,if_pos ht2]
def qI(d:List UInt8):Except (Nat × Int) PS->List Pt × Nat × Int
 | .error (a,e)=>([],a,e)
 | .ok s=>(cG d s,0,0)
theorem NG{e n tx c:Nat}(h0:¬65536<d.length)(h:fk d (d.length+1) 0 0 0 0=.ok (e,n,tx,c))(ht:tx≠0)(ht2:¬1<tx)(he:e<=d.length):eM dE dig d=qI d (cF dE dig d n c (d.length+1) (min (e+1) d.length) 1 ([],0)):=by
 rw[eM,if_neg h0,h];simp only[];rw[if_neg ht,if_neg ht2,Ez _ _ _ _ he];cases cF dE dig d n c (d.length+1) (min (e+1) d.length) 1 ([],0)<;>rfl
end St
def fN(d:ByteArray):List St.Pt × Nat × Int:=St.eM dE Lib.decDigits d.1.1
def aG(R:List St.Pt × Nat × Int)(w:YA)(e:Ending)(w':YA):Prop:=
 ∃(A:Option Addr) (c:Nat),e=Yx (Yu #[Yr A R.1.length c,Yp Yv (R.2.1:Int),Yp Yv R.2.2])/\a8 w' A R.1/\R.1.length<=c/\c<=9223372036854775807/\ac w w'
theorem aG.err{R:List St.Pt × Nat × Int}{w w':YA}{a:Nat}{er:Int}(h:R=([],a,er))(u:ac w w'):aG R w (Yx (Yu #[Yr none 0 0,Yp Yv a,Yp Yv er])) w':=by
 subst h;exact⟨none,0,rfl,λh=>absurd h (by simp),by simp,by omega,u⟩
def Ti(w:YA)(d:ByteArray)(s3:Value)(wr:YA):Prop:=
 ac w wr/\((s3=Yp Yv (0:Nat)/\TV wr (w.1.size+1) w.1.size d 0 0 0 0/\PV wr w.1.size w.1.size d ([],0))\/
  ∃(a r bf au tx fuel:Nat) (s:St.PS),s3=Yp Yv a/\a<=d.size/\1<=r/\r<=a+1/\bf<=100000/\au<=100000/\d.size-a<fuel/\s.2<=a/\s.1.length<=2*(a+1)/\(a<d.size->s.1.length<=2*a) /\
   TV wr (w.1.size+1) w.1.size d r bf au tx/\PV wr w.1.size w.1.size d s/\fN d=St.qI d.1.1 (St.cF dE Lib.decDigits d.1.1 bf au fuel a r s))
open Classical in
noncomputable def GP(d:ByteArray)(s3:Value)(wr:YA)(g:Nat):Nat:=if wr.cell? ⟨g,2,none⟩=some (Yp Yv (0:Nat))then d.size+2 else d.size+1-(intOf s3).toNat
theorem zW{d:ByteArray}{s3:Value}{wr:YA}{g r:Nat}(h:wr.cell? ⟨g,2,none⟩=some (Yp Yv r))(hr:1<=r):GP d s3 wr g=d.size+1-(intOf s3).toNat:=by
 unfold GP;rw[if_neg];intro e;rw[h]at e;simp at e;omega
theorem GS{w:YA}{tb pb:Nat}{d:ByteArray}{r bf au tx:Nat}(h:TV w tb pb d r bf au tx)(m:Int)(hm:m=((r+1:Nat):Int)):TV (w.setCell ⟨tb,2,none⟩ (Yp Yv m)) tb pb d (r+1) bf au tx:=by
 subst hm;exact heap_setCell_same w tb 2 _ _ _ h
theorem Jg(d:ByteArray)(w:YA)(ht:nG w)(fq:d.size<=4611686018427387904):Calls Tryz.prog 85 #[Yq d] w (aG (fN d) w):=by
 have hlen:=St.aB d;have CO:=aa ht
 by_cases hbig:65536<d.size
 ·have hR:fN d=([],0,3):=by unfold fN St.eM;rw[if_pos (by omega)]
  have HR:=aa hR;have hb:(65536:Int)<d.size:=by omega
  clear hR ht hlen;go_enter Tryz.func85,Tryz.ntmps85;go_wp2;go_ret3;exact aG.err HR.out (ac.refl _)
 have hb:¬(65536:Int)<d.size:=by omega
 have h0l:¬65536<d.1.1.length:=by omega
 have nY:=aa h0l;have HLEN:=aa hlen;have hd:d.size<=65536:=by omega
 clear ht hlen h0l
 have lS:PV ((w.alloc (Yw #[Yq d,Yp Yv 0,Yr none 0 0] 161)).alloc (Yw #[Yq d,Yt (some ⟨w.1.size,0,none⟩),Yp Yv 0,Yp Yv 0,Yp Yv 0,Yp Yv 0] 174)) w.1.size w.1.size d ([],0):=
  PV.ai ⟨Nat.le_refl _,Yr none 0 0,heap_alloc_new w _,World.ownsRow_nil _ _ _ _⟩ ((ac.refl _).alloc _)
 have hT0:TV ((w.alloc (Yw #[Yq d,Yp Yv 0,Yr none 0 0] 161)).alloc (Yw #[Yq d,Yt (some ⟨w.1.size,0,none⟩),Yp Yv 0,Yp Yv 0,Yp Yv 0,Yp Yv 0] 174)) (w.1.size+1) w.1.size d 0 0 0 0:=by
  have:=heap_alloc_new (w.alloc (Yw #[Yq d,Yp Yv 0,Yr none 0 0] 161)) (Yw #[Yq d,Yt (some ⟨w.1.size,0,none⟩),Yp Yv 0,Yp Yv 0,Yp Yv 0,Yp Yv 0] 174)
  simpa[TV]using this
 have Uc:ac w ((w.alloc (Yw #[Yq d,Yp Yv 0,Yr none 0 0] 161)).alloc (Yw #[Yq d,Yt (some ⟨w.1.size,0,none⟩),Yp Yv 0,Yp Yv 0,Yp Yv 0,Yp Yv 0] 174)):=uZ;have jQ:=aa (And.intro Uc (And.intro hT0 lS));clear lS hT0 Uc;go_enter Tryz.func85,Tryz.ntmps85;go_wp2_with (go_at_call 75;refine(km d _).mono ?_;rintro e w' ⟨rfl,rfl⟩);go_loopw [3] (λs3 wr=>Ti w d s3 wr) (λs3 wr=>GP d s3 wr (w.1.size+1))
 case atStart=>exact⟨jQ.out.1,.inl ⟨rfl,jQ.out.2.1,jQ.out.2.2⟩⟩
 case round=>
  obtain⟨hu,hrel⟩:=hrel;clear jQ;have HU:=aa hu;have hsz:=hu.size;clear hu;rcases hrel with⟨rfl,hT,hP⟩|⟨a,r,bf,au,tx,fuel,s,rfl,ha,hr1,hr2,hc1,hc2,hfu,hs2,hs3,hs4,hT,hP,hS⟩
  ·have hv:=hT;unfold TV at hv;have c2:wr.cell? ⟨w.1.size+1,2,none⟩=some (Yp Yv (0:Nat)):=aj hv 2;have vd:GP d (Yp Yv (0:Nat)) wr (w.1.size+1)=d.size+2:=by unfold GP;rw[if_pos c2]
   haveI:af (w.1.size+1) wr:=af.of (ae hv);have HN:=aa (K5 wr w.1.size (w.1.size+1) w.1.size d hT hP (by omega) hsz hd);have HM:=aa vd;clear hv hT hP vd
   by_cases z:0<d.size
   all_goals
    go_wp2_with fail;refine HN.out.mono ?_;rintro e w3 ⟨hbl,hm⟩;have hu3:ac w w3:=ac.cy (Below.trans HU.out.below hbl);have bm:=aa hu3;clear hbl hu3 HN c2;cases hh:St.fk d.1.1 (d.1.1.length+1) 0 0 0 0 with
    | error x=>
     obtain⟨a,er⟩:=x;rw[hh]at hm;simp only at hm;obtain⟨her,rfl⟩:=hm;have hR:=aa (St.uO (dE:=dE) (dig:=Lib.decDigits) nY.out hh);have hnb:(er==0)=false:=by simpa using her
     clear her hh;go_wp2;go_ret3;exact aG.err hR.out bm.out
    | ok x=>
     obtain⟨en,n,tx,au⟩:=x;rw[hh]at hm;simp only at hm
     split at hm
     ·rename_i ht
      subst hm;have hR:=aa (St.oy (dE:=dE) (dig:=Lib.decDigits) nY.out hh ht);clear hh ht;go_wp2;go_ret3;exact aG.err hR.out bm.out
     rename_i ht
     split at hm
     ·rename_i ht2
      subst hm;have hR:=aa (St.kR (dE:=dE) (dig:=Lib.decDigits) nY.out hh ht ht2);clear hh ht ht2;go_wp2;go_ret3;exact aG.err hR.out bm.out
     rename_i ht2
     obtain⟨rfl,hT3,ta,hn,hcol,hen⟩:=hm;have hl:=HLEN.out;have hR:=St.NG (dE:=dE) (dig:=Lib.decDigits) nY.out hh ht ht2 (by omega);rw[hl]at hR;have v2:w3.cell? ⟨w.1.size+1,2,none⟩=some (Yp Yv (0:Nat)):=aj hT3 2;have f2:w3.frozen? ⟨w.1.size+1,2,none⟩=false:=bu hT3 2;haveI:af (w.1.size+1) w3:=af.of (ae hT3);have Bd:=GS hT3 1 rfl;have Kn:=PV.Sl ta hT3 (cH w3 ⟨w.1.size+1,2,none⟩ (Yp Yv 1));have bj:ac w (w3.setCell ⟨w.1.size+1,2,none⟩ (Yp Yv 1)):=bm.out.sr (cH w3 ⟨w.1.size+1,2,none⟩ _) (λg e=>by cases e;exact Nat.le_succ _);have HE:=aa (And.intro hR (And.intro Bd (And.intro Kn bj)));have Bj:((min (en+1) d.size:Nat):Int)=min ((en:Int)+1) (d.size:Int):=by omega
     clear hR hT3 Bd ta Kn bj hh ht ht2 hl;go_wp2;refine⟨⟨HE.out.2.2.2,.inr ⟨min (en+1) d.size,1,n,au,tx,d.size+1,([],0),congrArg (Yp Yv) (by omega),by omega,by omega,by omega,hn,hcol,by omega,by simp,by simp,by simp,HE.out.2.1,HE.out.2.2.1,HE.out.1⟩⟩,?_⟩;have hsp:=zW (r:=0+1) (d:=d) (s3:=Yp Yv (min ((en:Int)+1) (d.size:Int))) (aj HE.out.2.1 2) (by omega);rw[hsp,HM.out]
     show d.size+1-(min ((en:Int)+1) (d.size:Int)).toNat<d.size+2
     omega
  have hv:=hT;unfold TV at hv;have c2:wr.cell? ⟨w.1.size+1,2,none⟩=some (Yp Yv r):=aj hv 2;have c1:wr.cell? ⟨w.1.size+1,1,none⟩=some (Yt (some ⟨w.1.size,0,none⟩)):=aj hv 1;have vd:GP d (Yp Yv a) wr (w.1.size+1)=d.size+1-a:=by rw[zW c2 hr1];rfl
  haveI:af (w.1.size+1) wr:=af.of (ae hv);have HM:=aa vd;have r0:((r:Int)==0)=false:=by simp;omega
  by_cases hlt:a<d.size
  ·have HN:=aa (Nd wr w w.1.size (w.1.size+1) w.1.size d r bf au tx a s hT hP CO.out rfl HU.out hd hr1 (by omega) hc1 hc2 ha hs2 (hs4 hlt));have HS:=aa hS;obtain⟨fuel,rfl⟩:∃m,fuel=m+1:=⟨fuel-1,by omega⟩;have z:(a:Int)<d.size:=by omega
   have hal:¬d.1.1.length<=a:=by rw[HLEN.out];omega
   have eu:=aa hal;clear hv hT hP vd hS hs4 hal;go_wp2_with fail;refine HN.out.mono ?_;rintro e w3 ⟨hbl,hm⟩;have hu3:ac w w3:=ac.cy (Below.trans HU.out.below hbl);have bm:=aa hu3;clear hbl hu3 HN c2 c1;cases hh:St.dw dE d.1.1 bf au (Lib.decDigits r) (d.1.1.length+1) a 0 s with
   | error x=>
    obtain⟨a2,er⟩:=x;rw[hh]at hm;simp only at hm;obtain⟨her,rfl⟩:=hm;have hR:=aa (HS.out.trans (show St.qI d.1.1 (St.cF dE Lib.decDigits d.1.1 bf au (fuel+1) a r s)=([],a2,er)by rw[St.nk eu.out hh];rfl));have hnb:(er==0)=false:=by simpa using her
    clear her hh;go_wp2;go_ret3;exact aG.err hR.out bm.out
   | ok x=>
    obtain⟨en,n,s'⟩:=x;rw[hh]at hm;simp only at hm
    split at hm
    ·rename_i hnc
     subst hm;have hR:=aa (HS.out.trans (show St.qI d.1.1 (St.cF dE Lib.decDigits d.1.1 bf au (fuel+1) a r s)=([],a,2)by rw[St.lJ eu.out hh hnc];rfl));clear hh hnc;go_wp2;go_ret3;exact aG.err hR.out bm.out
    rename_i hnc
    obtain⟨rfl,hT3,ta,h5,h6,h7,h8⟩:=hm;have hl:=HLEN.out;have hR:=HS.out;rw[St.PL eu.out hh hnc (by omega),hl]at hR;have v2:w3.cell? ⟨w.1.size+1,2,none⟩=some (Yp Yv r):=aj hT3 2;have f2:w3.frozen? ⟨w.1.size+1,2,none⟩=false:=bu hT3 2;haveI:af (w.1.size+1) w3:=af.of (ae hT3);have qf:((r:Int)+1)=((r+1:Nat):Int):=by omega
    have Bd:=GS hT3 ((r:Int)+1) qf;have Kn:=PV.Sl ta hT3 (cH w3 ⟨w.1.size+1,2,none⟩ (Yp Yv ((r:Int)+1)));have bj:ac w (w3.setCell ⟨w.1.size+1,2,none⟩ (Yp Yv ((r:Int)+1))):=bm.out.sr (cH w3 ⟨w.1.size+1,2,none⟩ _) (λg e=>by cases e;exact Nat.le_succ _);have HE:=aa (And.intro hR (And.intro Bd (And.intro Kn bj)));have Bj:((min (en+1) d.size:Nat):Int)=min ((en:Int)+1) (d.size:Int):=by omega
    clear hR hT3 Bd ta Kn bj hh hnc hl qf;go_wp2;refine⟨⟨HE.out.2.2.2,.inr ⟨min (en+1) d.size,r+1,bf,au,tx,fuel,s',congrArg (Yp Yv) (by omega),by omega,by omega,by omega,hc1,hc2,by omega,by omega,by omega,by omega,HE.out.2.1,HE.out.2.2.1,HE.out.1⟩⟩,?_⟩;have hsp:=zW (r:=r+1) (d:=d) (s3:=Yp Yv (min ((en:Int)+1) (d.size:Int))) (aj HE.out.2.1 2) (by omega);rw[hsp,HM.out]
    show d.size+1-(min ((en:Int)+1) (d.size:Int)).toNat<d.size+1-a
    omega
  have Kr:a=d.size:=by omega
  have HL:=aa (wB wr w.1.size w.1.size d s hP (by omega) (by omega) (by omega) hsz);have hR:=aa (hS.trans (show St.qI d.1.1 (St.cF dE Lib.decDigits d.1.1 bf au fuel a r s)=(St.cG d.1.1 s,0,0)by rw[St.nj _ _ _ _ (by rw[HLEN.out];omega)];rfl));have z:¬(a:Int)<d.size:=by omega
  clear hv hT hP vd hS hs4;go_wp2_with fail;refine HL.out.mono ?_;rintro e w3 ⟨A,c,rfl,lT,hq1,hq2,hbl⟩;have HE:=aa (And.intro lT (ac.cy (Below.trans HU.out.below hbl)));have mW:=aa hq1;clear lT hbl hq1 HL;go_wp2;go_ret3;unfold aG;rw[hR.out];exact⟨A,c,by simp[St.cG],HE.out.1,by simpa[St.cG]using mW.out,hq2,HE.out.2⟩
end
end Go.Proofs.YthoemdibbldndaaGreatDoor.Sh
