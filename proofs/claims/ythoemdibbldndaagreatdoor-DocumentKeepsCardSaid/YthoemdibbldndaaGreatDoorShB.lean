/- The contracts of strconv.Itoa at this translation and of the table's field. -/
import Derived.Test.YthoemdibbldndaaGreatDoorPart
import Derived.Test.YthoemdibbldndaaGreatDoorShA
import Derived.WalkSmall
import Derived.Deep.RegionHeld3
set_option linter.all false
set_option maxHeartbeats 0
set_option maxRecDepth 20000
open Go.Value renaming int->Yh,string->Yi,slice->Yj,pointer->Yl,tuple->Ym
open Go.IntKind renaming i64->Yn
open Go.Obj renaming cells->Yo
open Go.Ending renaming returned->Yp
open Go renaming World->Ys
namespace Go.Proofs.YthoemdibbldndaaGreatDoor.Sh
open Go.RowKit Go.Proofs.YthoemdibbldndaaGreatDoor.St
section
def rv:String:=(Rows.documentLimitsRow.named).getD 1 "x"
def mJ(w:Ys):Prop:=Lib.TabIs Tryz.prog w rv .u64 Lib.pow10Tab
theorem mJ.ai{w w':Ys}(h:ac w w')(t:mJ w):mJ w':=by
 unfold mJ Lib.TabIs World.var? at t |-;cases hg:Program.globalNamed Tryz.prog rv with
 | none=>rw[hg]at t;simp at t
 | some g=>
  rw[hg]at t;simp only[Option.bind_some]at t |-
  have hlt:g<w.1.size:=by
   rcases Nat.lt_or_ge g w.1.size with h|h
   ·exact h
   rw[Array.getElem?_eq_none h]at t;simp at t
  rw[h.below.block g hlt];exact t
theorem ac.grow{a b:Ys}(h:ac a b)(os:Array Obj):ac a (Go.Sort.grow b os):=by
 refine ac.mk ⟨h.below.os,h.below.tape,h.below.output,?_,λk hk=>?_⟩
 ·have:=h.below.size;unfold Go.Sort.grow;simp;omega
 unfold Go.Sort.grow;have:=h.below.size
 rw[Array.getElem?_append_left (by omega)];exact h.below.block k hk
theorem vG(n:Nat)(w:Ys)(h1:n<=4611686018427387904)(t:mJ w) :
  Calls Tryz.prog 124 #[Yh Yn n] w λe w'=>e=Yp (Yi ⟨(Lib.decDigits n).toArray⟩)/\ac w w':=by
 refine(Any.strconv_Itoa Tryz.Dd n (by omega) (by omega) w t).mono ?_;rintro e w' ⟨rfl,k,os,rfl⟩;refine⟨?_,ac.grow ((ac.refl w).drewN k) os⟩;unfold Lib.itoa;rw[if_neg (by omega)];simp
theorem x9{P:Program}{ops:Array Oper}{o:Oper}{a:Act}{w:Ys}{K:Act->Ys->Prop}{Q:Exit->Act->Ys->Prop}{E:Prop}
  (hg:o.guard=none) (f:FuncId) (args:Array Value) (v:Value) (R:Ys->Ys->Prop) (hc:Calls P f args w λe w'=>e=Yp v/\R w w')
  (hrun:(execOp a.eval o).run P w=.ok (.enter f args) w) (hK:∀w',R w w'->K (a.put o.dst v) w') :
  if Region.wanted o (yielded ops a.tmps)=true then Oper.wp P o a w K Q else E:=by
 have hw:Region.wanted o (yielded ops a.tmps)=true:=by simp[Region.wanted,hg]
 rw[if_pos hw];unfold Oper.wp;rw[hrun];refine hc.mono ?_;rintro e w' ⟨rfl,hu⟩;exact hK w' hu
def dE(l:List UInt8):Nat × Int:=((St.dec St.cm l.length l 0 0 [] []).2.2.1,(St.dec St.cm l.length l 0 0 [] []).2.2.2)
theorem lf(x:ByteArray):dE x.1.1=((gx x).2.2.1,(gx x).2.2.2):=by
 unfold dE gx;rw[St.aC]
theorem qQ:∀(fuel:Nat) (l:List UInt8) (a d:Nat) (f:List St.It) (cuts:List Nat),(St.dec St.cm fuel l a d f cuts).2.2.1<=a+l.length
 | 0,l,a,d,f,cuts=>by simp[St.dec]
 | fuel+1,l,a,d,f,cuts=>by
  by_cases h0:l=[]
  ·subst h0;rw[St.qR];simp
  cases hs:St.cm l with
  | none=>rw[St.oT fuel a d f cuts h0 hs];simp
  | some x=>
   obtain⟨k,t,n⟩:=x;obtain⟨hk,gu,fe⟩:=St.ud hs
   by_cases hf:512<(St.aL f (k,t,0)).length\/1024<=cuts.length
   ·rw[St.oS fuel a d f cuts h0 hs (by omega) hf];simp
   rw[St.oU fuel a d f cuts h0 hs (by omega) hf];have h:=qQ fuel (l.drop n) (a+n) (a+n) (St.aL f (k,t,0)) (cuts++[d]);rw[List.length_drop]at h;omega
theorem Bd(x:ByteArray):(gx x).2.2.1<=x.size:=by
 have:=qQ x.size x.1.1 0 0 [] []
 rw[St.aC]at this;unfold gx;omega
def BF(w:Ys)(B tb pb:Nat)(d:ByteArray)(r bc au texts:Nat)(s:St.PS)(a b n:Nat)(q:Bool)(e:Ending)(w':Ys):Prop:=
 Below B w w'/\if bc<=n\/(n=au/\q=false)then e=Yp (Ym #[Yh Yn a,Yh Yn 2])else
  if n=au/\(dE (St.a6 d.1.1 (a+1) (b-1))).2≠0 then e=Yp (Ym #[Yh Yn ((a+1+(dE (St.a6 d.1.1 (a+1) (b-1))).1:Nat):Int),Yh Yn (dE (St.a6 d.1.1 (a+1) (b-1))).2])else
   e=Yp (Ym #[Yh Yn 0,Yh Yn 0])/\TV w' tb pb d r bc au texts/\PV w' B pb d (if n=au then St.bi d.1.1 s (a+1) (b-1) (Lib.decDigits r)else s)
theorem IE(w w0:Ys)(B tb pb:Nat)(d:ByteArray)(r bc au texts:Nat)(s:St.PS)(a b n:Nat)(q:Bool)(hT:TV w tb pb d r bc au texts)(hP:PV w B pb d s)(ht:mJ w0)(nZ:B=w0.1.size)(h0:ac w0 w)
  (h1:s.2<=a) (h2:a<=b) (h3:b<=d.size) (hq:n=au->q=true->a+2<=b) (hd:d.size<=65536) (hr:r<=100000) (hc:bc<=100000) (hcl:au<=100000) (hn:n<=100000) (hl:s.1.length<=1000000) :
  Calls Tryz.prog 171 #[Yl (some ⟨tb,0,none⟩),Yh Yn a,Yh Yn b,Yh Yn n,.bool q] w (BF w B tb pb d r bc au texts s a b n q):=by
 have hBw:B<=w.1.size:=by rw[nZ];exact h0.size
 have hv:=hT;unfold TV at hv;have c0:w.cell? ⟨tb,0,none⟩=some (Yi d):=aj hv 0;have c1:w.cell? ⟨tb,1,none⟩=some (Yl (some ⟨pb,0,none⟩)):=aj hv 1;have c2:w.cell? ⟨tb,2,none⟩=some (Yh Yn r):=aj hv 2;have c3:w.cell? ⟨tb,3,none⟩=some (Yh Yn bc):=aj hv 3;have c4:w.cell? ⟨tb,4,none⟩=some (Yh Yn au):=aj hv 4;haveI:af tb w:=af.of (ae hv);have HT:=aa hT;have HP:=aa hP;have Cb:=aa ht;have H0:=aa h0;clear hv hT hP ht h0 nZ
 by_cases k1:bc<=n
 ·have WA:(bc:Int)<=(n:Int):=by omega
  have hE:BF w B tb pb d r bc au texts s a b n q (Yp (Ym #[Yh Yn a,Yh Yn 2])) w:=⟨Below.refl _ _,by rw[if_pos (Or.inl k1)]⟩;have HE:=aa hE;clear hE;go_enter Tryz.func171,Tryz.ntmps171;go_wp2;go_ret2;exact HE.out
 have WA:¬(bc:Int)<=(n:Int):=by omega
 by_cases k2:n=au
 ·subst k2;have m2:((n:Int)==(n:Int))=true:=by simp
  cases q
  ·have hE:BF w B tb pb d r bc n texts s a b n false (Yp (Ym #[Yh Yn a,Yh Yn 2])) w:=⟨Below.refl _ _,by rw[if_pos (Or.inr ⟨rfl,rfl⟩)]⟩;have HE:=aa hE;clear hE;go_enter Tryz.func171,Tryz.ntmps171;go_wp2;go_ret2;exact HE.out
  have hq2:=hq rfl rfl;obtain⟨b2,rfl⟩:∃b2,b=b2+1:=⟨b-1,by omega⟩;obtain⟨x,hX⟩:∃x,d.extract (a+1) b2=x:=⟨_,rfl⟩;have hxl:x.1.1=St.a6 d.1.1 (a+1) (b2+1-1):=by rw[<-hX,eR];rfl
  have hxs:x.size<=d.size:=by rw[<-hX];simp;omega
  have Q8:=lf x;rw[hxl]at Q8;have PH:=aa Q8;have jd:=aa (λW=>zuw x W (by omega));have z1:(a:Int)+1<=(b2:Int):=by omega
  have z2:(b2:Int)<=d.size:=by omega
  have z3:(0:Int)<=(a:Int)+1:=by omega
  have z4:(b2:Int)+1-1=b2:=by omega
  have ha1:((a+1:Nat):Int)=(a:Int)+1:=by omega
  have iI:=aa (λW (hW:ac w W)=>(by have h:=M4 W B pb d ⟨(Lib.decDigits r).toArray⟩ s (a+1) b2 (HP.out.ai hW) (by omega) (by omega) (by omega) (by omega) hl (Nat.le_trans hBw hW.size);rw[ha1]at h;exact h:Calls Tryz.prog 79 #[Yl (some ⟨pb,0,none⟩),Yh Yn ((a:Int)+1),Yh Yn b2,Yi ⟨(Lib.decDigits r).toArray⟩] W λe w'=>e=Yp (Ym #[])/\PV w' B pb d (St.bi d.1.1 s (a+1) b2 (Lib.decDigits r))/\Below B W w'/\eJ nR W w'));have HIT:=aa (λW (hW:ac w W)=>vG r W (by omega) (Cb.out.ai (H0.out.trans hW)));have hat:=Bd x;clear hxl Q8 hq hq2 ha1;generalize hR:gx x=R at *;obtain⟨f,cu,i,er⟩:=R;simp only at hat;have XI:i<=65536:=by omega
  by_cases ke:er=0
  ·subst ke;go_enter Tryz.func171,Tryz.ntmps171;go_wp2_with fail;refine(jd.out _).mono ?_;rintro e w2 ⟨A,c,rfl,_,_,_,hu2⟩;have aX:=aa hu2;clear hu2;go_wp2_with fail;have g1:w2.cell? ⟨tb,1,none⟩=some (Yl (some ⟨pb,0,none⟩)):=(aX.out.cell (af.lt inferInstance)).trans c1;have g2:w2.cell? ⟨tb,2,none⟩=some (Yh Yn r):=(aX.out.cell (af.lt inferInstance)).trans c2;haveI:af tb w2:=af.of (cx _ _ g1);have hw1:IntKind.i64.wrap ((a:Int)+1)=(a:Int)+1:=IntWalk.i64_in _ (by omega);have hw3:IntKind.i64.wrap (b2:Int)=(b2:Int):=IntWalk.i64_in _ (by omega);have hw2:IntKind.i64.wrap ((b2:Int)+1-1)=(b2:Int):=by rw[z4];exact IntWalk.i64_in _ (by omega)
   clear c0 c1 c2 c3 c4;go_region_law (first|(refine x9 rfl 124 #[Yh Yn r] (Yi ⟨(Lib.decDigits r).toArray⟩) ac (HIT.out _ (aX.out.trans uZ)) ?_ ?_;(· go_simp;done);intro w5 bg;have g1':=(bg.cell (p:=⟨tb,1,none⟩) (af.lt inferInstance)).trans g1;haveI:af tb w5:=af.of (cx _ _ g1'))|(refine x9 rfl 79 #[Yl (some ⟨pb,0,none⟩),Yh Yn ((a:Int)+1),Yh Yn b2,Yi ⟨(Lib.decDigits r).toArray⟩] (Ym #[]) (λW w'=>PV w' B pb d (St.bi d.1.1 s (a+1) b2 (Lib.decDigits r))/\Below B W w'/\eJ nR W w') (iI.out _ (aX.out.trans ((uZ:ac w2 _).trans bg))) ?_ ?_;(· go_simp;done);intro w6 ⟨T3,fT,ht6⟩;have JG:=(HT.out.ai (aX.out.trans ((uZ:ac w2 _).trans bg))).tk ht6))
   all_goals
    have TK:=((aX.out.trans ((uZ:ac w2 _).trans bg)).below.mono hBw).trans fT;have HE:=aa (And.intro JG (And.intro T3 TK));clear JG T3 TK fT ht6 hw1 hw2 hw3;go_wp2;go_ret2;refine⟨HE.out.2.2,?_⟩;rw[if_neg (by simp;omega),if_neg (by rw[PH.out];simp),if_pos rfl];exact⟨rfl,HE.out.1,by simpa using HE.out.2.1⟩
  have X3:(er==0)=false:=by simpa using ke
  go_enter Tryz.func171,Tryz.ntmps171;go_wp2_with fail;refine(jd.out _).mono ?_;rintro e w2 ⟨A,c,rfl,_,_,_,hu2⟩;have aX:=aa hu2;clear hu2;go_wp2;go_ret2;refine⟨(aX.out.below.mono hBw),?_⟩;rw[if_neg (by simp;omega),if_pos ⟨rfl,by rw[PH.out];exact ke⟩,PH.out];have ei:((a+1+i:Nat):Int)=(a:Int)+1+(i:Int):=by omega
  simp only[ei];rfl
 have m2:((n:Int)==(au:Int))=false:=by simp;omega
 have hE:BF w B tb pb d r bc au texts s a b n q (Yp (Ym #[Yh Yn 0,Yh Yn 0])) w:=⟨Below.refl _ _,by rw[if_neg (by omega),if_neg (λh=>k2 h.1),if_neg k2];exact⟨rfl,HT.out,HP.out⟩⟩;have HE:=aa hE;clear hE;go_enter Tryz.func171,Tryz.ntmps171;go_wp2;go_ret2;exact HE.out
end
section
namespace St
theorem sc:∀(m:Nat) (l:List UInt8) (n:Nat),l.length<=m->bB l=some n->1<=n/\n<=l.length
 | 0,l,n,hl,h=>by
  have h0:l=[]:=List.eq_nil_of_length_eq_zero (by omega);subst h0;cases h
 | m+1,[],n,hl,h=>by cases h
 | m+1,c :: r,n,hl,h=>by
  by_cases hc:c.toNat=34
  ·cases r with
   | nil=>rw[qF hc]at h;cases h;simp
   | cons d r=>
    by_cases hd:d.toNat=34
    ·rw[sd hc hd]at h;cases hq:bB r with
     | none=>rw[hq]at h;cases h
     | some k=>
      rw[hq]at h;have:=sc m r k (by simp at hl;omega) hq
      simp at h;simp;omega
    rw[sa hc hd]at h;cases h;simp
  rw[py hc]at h;cases hq:bB r with
  | none=>rw[hq]at h;cases h
  | some k=>
   rw[hq]at h;have:=sc m r k (by simp at hl;omega) hq
   simp at h;simp;omega
theorem nJ{l:List UInt8}{k:Nat}{q:Bool}(h:cX l=some (k,q)):k<=l.length/\(q=true->2<=k):=by
 cases l with
 | nil=>rw[zX]at h;simp at h;obtain⟨rfl,rfl⟩:=h;simp
 | cons c r=>
  by_cases hc:c.toNat=34
  ·rw[yF hc]at h;cases hq:bB r with
   | none=>rw[hq]at h;cases h
   | some n=>
    rw[hq]at h;simp only at h
    split at h
    ·simp only[Option.some.injEq,Prod.mk.injEq]at h;obtain⟨rfl,rfl⟩:=h;have:=sc _ r n (Nat.le_refl _) hq
     simp;omega
    cases h
  rw[uD (λc' r' e=>by simp only[List.cons.injEq]at e;rw[<-e.1];exact hc)]at h
  split at h
  ·simp only[Option.some.injEq,Prod.mk.injEq]at h;obtain⟨rfl,rfl⟩:=h;refine⟨?_,λh=>by cases h⟩;exact(List.takeWhile_prefix _).length_le
  cases h
theorem tI{d:List UInt8}{fuel a n tx au:Nat}(h:cX (d.drop a)=none):fh d (fuel+1) a n tx au=.error (a,2):=by
 rw[fh,h]
theorem nM{d:List UInt8}{fuel a n tx au k:Nat}{q:Bool}(h:cX (d.drop a)=some (k,q)):fh d (fuel+1) a n tx au=match d.drop (a+k)with
   | []=>.ok (a+k,n+1,(if a6 d a (a+k)==[116,101,120,116]then tx+1 else tx),(if a6 d a (a+k)==[116,101,120,116]then n else au))
   | c :: _=>if c.toNat=10 then .ok (a+k,n+1,(if a6 d a (a+k)==[116,101,120,116]then tx+1 else tx),(if a6 d a (a+k)==[116,101,120,116]then n else au))else fh d fuel (a+k+1) (n+1) (if a6 d a (a+k)==[116,101,120,116]then tx+1 else tx) (if a6 d a (a+k)==[116,101,120,116]then n else au):=by
 rw[fh,h];simp only[];cases d.drop (a+k)<;>rfl
end St
def Sy(w:Ys)(B tb pb:Nat)(d:ByteArray)(e:Ending)(w':Ys):Prop:=
 Below B w w'/\match St.fh d.1.1 (d.1.1.length+1) 0 0 0 0 with
  | .error (a,er)=>er≠0/\e=Yp (Ym #[Yh Yn a,Yh Yn er])
  | .ok (en,n,tx,au)=>if tx=0 then e=Yp (Ym #[Yh Yn 0,Yh Yn 6])else if 1<tx then e=Yp (Ym #[Yh Yn 0,Yh Yn 5])else
    e=Yp (Ym #[Yh Yn (min (en+1) d.size:Nat),Yh Yn 0])/\TV w' tb pb d 0 n au tx/\PV w' B pb d ([],0)/\n<=100000/\au<=100000/\en<=d.size
def SJ(w:Ys)(B tb pb:Nat)(d:ByteArray)(s6 s7:Value)(wr:Ys):Prop:=
 ∃a n tx au fuel:Nat,s6=Yh Yn a/\s7=Yh Yn n/\a<=d.size/\n<=a/\tx<=n/\au<=n/\d.size+1-a<=fuel/\St.fh d.1.1 (d.1.1.length+1) 0 0 0 0=St.fh d.1.1 fuel a n tx au/\TV wr tb pb d 0 n au tx/\PV wr B pb d ([],0)/\Below B w wr
theorem Kk(w:Ys)(B tb pb:Nat)(d:ByteArray)(hT:TV w tb pb d 0 0 0 0)(hP:PV w B pb d ([],0))(hB:B<=tb)(hBw:B<=w.1.size)(hd:d.size<=65536) :
  Calls Tryz.prog 125 #[Yl (some ⟨tb,0,none⟩),Yh Yn 0] w (Sy w B tb pb d):=by
 have IY:=aa hT;have IW:=aa hP;clear hT hP;go_enter Tryz.func125,Tryz.ntmps125;go_wp2;go_loopw [6,7] (λs6 s7 wr=>SJ w B tb pb d s6 s7 wr) (λs6 _ _=>d.size+1-(intOf s6).toNat)
 case atStart=>exact⟨0,0,0,0,d.1.1.length+1,rfl,rfl,by omega,by omega,by omega,by omega,by simp,rfl,IY.out,IW.out,Below.refl _ _⟩
 case round=>
  obtain⟨a,n,tx,au,fuel,rfl,rfl,ha,xA,htx,hcol,hfu,hH,hT,hP,hbl⟩:=hrel;obtain⟨fuel,rfl⟩:∃m,fuel=m+1:=⟨fuel-1,by omega⟩;have hv:=hT;unfold TV at hv;have c0:wr.cell? ⟨tb,0,none⟩=some (Yi d):=aj hv 0;have c2:wr.cell? ⟨tb,2,none⟩=some (Yh Yn (0:Nat)):=aj hv 2;haveI:af tb wr:=af.of (ae hv);have HT:=aa hT;have HP:=aa hP;have HH:=aa hH;have df:=aa hbl;have HF:=aa (zW d a wr ha (by omega));have yG:B<=wr.1.size:=Nat.le_trans hBw hbl.size;clear IY IW hv hT hP hH hbl;go_wp2_with fail;refine HF.out.mono ?_;rintro e w2 ⟨hu2,hm⟩;have aX:=aa hu2;have g2:w2.cell? ⟨tb,2,none⟩=some (Yh Yn (0:Nat)):=(hu2.cell (af.lt inferInstance)).trans c2;haveI:af tb w2:=af.of (cx _ _ g2);clear hu2 c0 c2;cases hs:St.cX (d.1.1.drop a)with
  | none=>
   rw[hs]at hm;obtain⟨x,y,rfl⟩:=hm;have hh:=HH.out.trans (St.tI hs);have dO:=aa hh;clear hh hs HH HF;go_wp2;go_ret2;refine⟨df.out.trans (aX.out.below.mono yG),?_⟩;rw[dO.out];exact⟨by decide,rfl⟩
  | some x=>
   obtain⟨k,q⟩:=x;rw[hs]at hm;simp only at hm;subst hm;obtain⟨hk1,_⟩:=St.nJ hs;have hk2:a+k<=d.size:=by simp at hk1;omega
   have hh:=HH.out.trans (St.nM hs);have mK:=G7 w2 tb pb d n au tx a (a+k) n (HT.out.ai aX.out) (by omega) hk2 (by omega) (by omega) (by omega);have Q5:(if St.a6 d.1.1 a (a+k)==[116,101,120,116]then n else au)<=n+1:=by split<;>omega
   have Rw:(if St.a6 d.1.1 a (a+k)==[116,101,120,116]then tx+1 else tx)<=n+1:=by split<;>omega
   generalize(if St.a6 d.1.1 a (a+k)==[116,101,120,116]then n else au)=col2 at hh mK Q5;generalize(if St.a6 d.1.1 a (a+k)==[116,101,120,116]then tx+1 else tx)=sS at hh mK Rw;have CW:a<=a+k:=by omega
   generalize hm:a+k=m at hk2 hh mK CW |-;have Te:=aa mK;have dO:=aa hh;clear hh mK hs HH HF hk1 hm;go_wp2_with fail;refine Te.out.mono ?_;rintro e w3 ⟨rfl,hT3,hg3⟩;have sI:=PV.RX (HP.out.ai aX.out) (HT.out.ai aX.out) hg3;have Ah:Below B w w3:=(df.out.trans (aX.out.below.mono yG)).grown hg3 (Nat.le_trans yG aX.out.size) (λg e=>by cases e;exact hB);have hv:=hT3;unfold TV at hv;have d0:w3.cell? ⟨tb,0,none⟩=some (Yi d):=aj hv 0;have d2:w3.cell? ⟨tb,2,none⟩=some (Yh Yn (0:Nat)):=aj hv 2;have d3:w3.cell? ⟨tb,3,none⟩=some (Yh Yn (n+1:Nat)):=aj hv 3;have d5:w3.cell? ⟨tb,5,none⟩=some (Yh Yn sS):=aj hv 5;haveI:af tb w3:=af.of (ae hv);have HE:=aa (And.intro hT3 (And.intro sI Ah));clear hv hT3 hg3 sI Ah g2 HT HP Te;rcases Nat.lt_or_ge m d.size with fu|fu
   ·have av:=St.drop_at d m fu;have y1:((m:Int)==(d.size:Int))=false:=by simp;omega
    have y3:(m:Int)<d.size:=by omega
    by_cases bH:d[m].toNat=10
    ·have y2:((d[m].toNat:Int)==10)=true:=by simp;omega
     have bS:=dO.out;rw[av]at bS;simp only[bH,if_true]at bS;have dl:=aa bS;clear bS av dO;rcases(show sS=0\/sS=1\/1<sS by omega)with q0|q1|q2
     ·subst q0;go_wp2;go_ret2;refine⟨HE.out.2.2,?_⟩;rw[dl.out];rfl
     ·subst q1;go_wp2;go_ret2;refine⟨HE.out.2.2,?_⟩;rw[dl.out];simp only[];rw[if_neg (by omega),if_neg (by omega)];have vq:((min (m+1) d.size:Nat):Int)=min ((m:Int)+1) (d.size:Int):=by omega
      exact⟨by rw[vq];rfl,HE.out.1,HE.out.2.1,by omega,by omega,by omega⟩
     have q2':(1:Int)<(sS:Int):=by omega
     have q3':((sS:Int)==0)=false:=by simp;omega
     go_wp2;go_ret2;refine⟨HE.out.2.2,?_⟩;rw[dl.out];simp only[];rw[if_neg (by omega),if_pos q2];rfl
    have y2:((d[m].toNat:Int)==10)=false:=by simp;omega
    have bS:=dO.out;rw[av]at bS;simp only[bH,if_false]at bS;have dl:=aa bS;clear bS av dO;go_wp2;exact⟨⟨m+1,n+1,sS,col2,fuel,congrArg (Yh Yn) (by omega),congrArg (Yh Yn) (by omega),by omega,by omega,Rw,Q5,by omega,dl.out,HE.out.1,HE.out.2.1,HE.out.2.2⟩,by simp[intOf];omega⟩
   have hme:m=d.size:=by omega
   have hnil:=St.fN d m fu;have y1:((m:Int)==(d.size:Int))=true:=by simp;omega
   have bS:=dO.out;rw[hnil]at bS;simp only[]at bS;have dl:=aa bS;clear bS hnil dO;rcases(show sS=0\/sS=1\/1<sS by omega)with q0|q1|q2
   ·subst q0;go_wp2;go_ret2;refine⟨HE.out.2.2,?_⟩;rw[dl.out];rfl
   ·subst q1;go_wp2;go_ret2;refine⟨HE.out.2.2,?_⟩;rw[dl.out];simp only[];rw[if_neg (by omega),if_neg (by omega)];have vq:((min (m+1) d.size:Nat):Int)=min ((d.size:Int)+1) (d.size:Int):=by omega
    exact⟨by rw[vq];rfl,HE.out.1,HE.out.2.1,by omega,by omega,by omega⟩
   have q2':(1:Int)<(sS:Int):=by omega
   have q3':((sS:Int)==0)=false:=by simp;omega
   go_wp2;go_ret2;refine⟨HE.out.2.2,?_⟩;rw[dl.out];simp only[];rw[if_neg (by omega),if_pos q2];rfl
end
section
namespace St
variable {dE:List UInt8->Nat × Int} {d key:List UInt8} {W C fuel a n k:Nat} {q:Bool} {s:PS}
theorem se(h:cX (d.drop a)=none):dv dE d W C key (fuel+1) a n s=.error (a,2):=by
 rw[dv,h]
theorem uJ(h:cX (d.drop a)=some (k,q))(hb:W<=n\/(n=C/\q=false)):dv dE d W C key (fuel+1) a n s=.error (a,2):=by
 rw[dv,h];simp only[];rw[if_pos hb]
theorem uK(h:cX (d.drop a)=some (k,q))(hb:¬(W<=n\/(n=C/\q=false)))(he:n=C/\(dE (a6 d (a+1) (a+k-1))).2≠0):dv dE d W C key (fuel+1) a n s=.error (a+1+(dE (a6 d (a+1) (a+k-1))).1,(dE (a6 d (a+1) (a+k-1))).2):=by
 rw[dv,h];simp only[];rw[if_neg hb,if_pos he]
theorem sf(h:cX (d.drop a)=some (k,q))(hb:¬(W<=n\/(n=C/\q=false)))(he:¬(n=C/\(dE (a6 d (a+1) (a+k-1))).2≠0)):dv dE d W C key (fuel+1) a n s=match d.drop (a+k)with
   | []=>.ok (a+k,n+1,if n=C then bi d s (a+1) (a+k-1) key else s)
   | c :: _=>if c.toNat=10 then .ok (a+k,n+1,if n=C then bi d s (a+1) (a+k-1) key else s)else dv dE d W C key fuel (a+k+1) (n+1) (if n=C then bi d s (a+1) (a+k-1) key else s):=by
 rw[dv,h];simp only[];rw[if_neg hb,if_neg he];cases d.drop (a+k)<;>rfl
end St
def SQ(w:Ys)(B tb pb:Nat)(d:ByteArray)(r bc au texts a0:Nat)(s:St.PS)(e:Ending)(w':Ys):Prop:=
 Below B w w'/\match St.dv dE d.1.1 bc au (Lib.decDigits r) (d.1.1.length+1) a0 0 s with
  | .error (a,er)=>er≠0/\e=Yp (Ym #[Yh Yn a,Yh Yn er])
  | .ok (en,n,s')=>if n<bc then e=Yp (Ym #[Yh Yn a0,Yh Yn 2])else
    e=Yp (Ym #[Yh Yn (min (en+1) d.size:Nat),Yh Yn 0])/\TV w' tb pb d r bc au texts/\PV w' B pb d s'/\s'.2<=en/\en<=d.size/\a0<=en/\s'.1.length<=2*(en+1)
def SL(w:Ys)(B tb pb:Nat)(d:ByteArray)(r bc au texts a0:Nat)(s:St.PS)(s6 s7:Value)(wr:Ys):Prop:=
 ∃(a n fuel:Nat) (s1:St.PS),s6=Yh Yn a/\s7=Yh Yn n/\a0<=a/\a<=d.size/\n<=a/\d.size+1-a<=fuel /\
  St.dv dE d.1.1 bc au (Lib.decDigits r) (d.1.1.length+1) a0 0 s=St.dv dE d.1.1 bc au (Lib.decDigits r) fuel a n s1/\TV wr tb pb d r bc au texts/\PV wr B pb d s1/\s1.2<=a/\s1.1.length<=2*a/\Below B w wr
theorem Mq(w w0:Ys)(B tb pb:Nat)(d:ByteArray)(r bc au texts a0:Nat)(s:St.PS)(hT:TV w tb pb d r bc au texts)(hP:PV w B pb d s)(ht:mJ w0)(nZ:B=w0.1.size)(h0:ac w0 w)(hd:d.size<=65536)(hr1:1<=r)(hr:r<=100000)(hc:bc<=100000)(hcl:au<=100000)
  (ha0:a0<=d.size) (hs2:s.2<=a0) (hsl:s.1.length<=2*a0) :
  Calls Tryz.prog 125 #[Yl (some ⟨tb,0,none⟩),Yh Yn a0] w (SQ w B tb pb d r bc au texts a0 s):=by
 have IY:=aa hT;have IW:=aa hP;have Cb:=aa ht;have H0:=aa h0;have hBw:B<=w.1.size:=by rw[nZ];exact h0.size
 have mF:=aa nZ;clear hT hP ht h0 nZ;go_enter Tryz.func125,Tryz.ntmps125;go_wp2;go_loopw [6,7] (λs6 s7 wr=>SL w B tb pb d r bc au texts a0 s s6 s7 wr) (λs6 _ _=>d.size+1-(intOf s6).toNat)
 case atStart=>exact⟨a0,0,d.1.1.length+1,s,rfl,rfl,by omega,by omega,by omega,by simp<;>omega,rfl,IY.out,IW.out,hs2,hsl,Below.refl _ _⟩
 case round=>
  obtain⟨a,n,fuel,s1,rfl,rfl,haa,ha,xA,hfu,hH,hT,hP,hs3,hs4,hbl⟩:=hrel;obtain⟨fuel,rfl⟩:∃m,fuel=m+1:=⟨fuel-1,by omega⟩;have hv:=hT;unfold TV at hv;have c0:wr.cell? ⟨tb,0,none⟩=some (Yi d):=aj hv 0;have c2:wr.cell? ⟨tb,2,none⟩=some (Yh Yn r):=aj hv 2;haveI:af tb wr:=af.of (ae hv);have HT:=aa hT;have HP:=aa hP;have HH:=aa hH;have df:=aa hbl;have HF:=aa (zW d a wr ha (by omega));have yG:B<=wr.1.size:=Nat.le_trans hBw hbl.size
  have TI:ac w0 wr:=by
   have e:=mF.out;refine ac.cn (Below.trans H0.out.below ?_);rw[<-e];exact hbl
  have Vr:=aa TI;clear IY IW hv hT hP hH hbl TI;have r0:((r:Int)==0)=false:=by simp;omega
  have r1:(0:Int)<(r:Int):=by omega
  go_wp2_with fail;refine HF.out.mono ?_;rintro e w2 ⟨hu2,hm⟩;have aX:=aa hu2;have g2:w2.cell? ⟨tb,2,none⟩=some (Yh Yn r):=(hu2.cell (af.lt inferInstance)).trans c2;haveI:af tb w2:=af.of (cx _ _ g2);clear hu2 c0 c2;cases hs:St.cX (d.1.1.drop a)with
  | none=>
   rw[hs]at hm;obtain⟨x,y,rfl⟩:=hm;have hh:=HH.out.trans (St.se hs);have dO:=aa hh;clear hh hs HH HF;go_wp2;go_ret2;refine⟨df.out.trans (aX.out.below.mono yG),?_⟩;rw[dO.out];exact⟨by decide,rfl⟩
  | some x=>
   obtain⟨k,q⟩:=x;rw[hs]at hm;simp only at hm;subst hm;obtain⟨hk1,hkq⟩:=St.nJ hs;have hk2:a+k<=d.size:=by simp at hk1;omega
   have Rx:=IE w2 w0 B tb pb d r bc au texts s1 a (a+k) n q (HT.out.ai aX.out) (HP.out.ai aX.out) Cb.out mF.out (Vr.out.trans aX.out) hs3 (by omega) hk2 (λ_ h=>by have:=hkq h;omega) hd hr hc hcl (by omega) (by omega);have hb1:=λhb=>HH.out.trans (St.uJ (dE:=dE) (key:=Lib.decDigits r) (fuel:=fuel) (s:=s1) hs (W:=bc) (n:=n) (C:=au) hb)
   have hb2:=λhb he=>HH.out.trans (St.uK (dE:=dE) (key:=Lib.decDigits r) (fuel:=fuel) (s:=s1) hs (W:=bc) (n:=n) (C:=au) hb he)
   have hb3:=λhb he=>HH.out.trans (St.sf (dE:=dE) (key:=Lib.decDigits r) (fuel:=fuel) (s:=s1) hs (W:=bc) (n:=n) (C:=au) hb he)
   have CW:a<=a+k:=by omega
   have N1:∀P:Prop,(n=au->q=true->a+2<=a+k):=λ_ _ h=>by have:=hkq h;omega
   generalize hm:a+k=m at hk2 Rx hb1 hb2 hb3 CW |-;have E2:=aa Rx;have pC:=aa hb1;have pD:=aa hb2;have pE:=aa hb3;clear Rx hb1 hb2 hb3 hs HH HF hk1 hkq N1 hm;go_wp2_with fail;refine E2.out.mono ?_;rintro e w3 ⟨ma,hm⟩;have Ah:Below B w w3:=(df.out.trans (aX.out.below.mono yG)).trans ma;have Lc:=aa Ah;clear ma Ah
   split at hm
   ·rename_i hb
    subst hm;have dO:=aa (pC.out hb);clear hb g2;go_wp2;go_ret2;refine⟨Lc.out,?_⟩;rw[dO.out];exact⟨by decide,rfl⟩
   rename_i hb
   split at hm
   ·rename_i he
    subst hm;have dO:=aa (pD.out hb he);have hne:=he.2;generalize dE (St.a6 d.1.1 (a+1) (m-1))=ev at dO hne;obtain⟨ei,er⟩:=ev;have hnb:(er==0)=false:=by simpa using hne
    have iy:=aa hne;clear hb he hne g2;go_wp2;go_ret2;refine⟨Lc.out,?_⟩;rw[dO.out];exact⟨iy.out,by rfl⟩
   rename_i he
   obtain⟨rfl,hT3,sI⟩:=hm;have dO:=aa (pE.out hb he)
   have hs5:(if n=au then St.bi d.1.1 s1 (a+1) (m-1) (Lib.decDigits r)else s1).2<=m:=by
    split
    ·show m-1<=m;omega
    omega
   have J1:(if n=au then St.bi d.1.1 s1 (a+1) (m-1) (Lib.decDigits r)else s1).1.length<=2*(a+1):=by
    split
    ·show(s1.1++[_,_]).length<=_;simp;omega
    omega
   have Wo:n<bc:=by omega
   generalize(if n=au then St.bi d.1.1 s1 (a+1) (m-1) (Lib.decDigits r)else s1)=s2 at dO sI hs5 J1;have hv:=hT3;unfold TV at hv;have d0:w3.cell? ⟨tb,0,none⟩=some (Yi d):=aj hv 0;have d2:w3.cell? ⟨tb,2,none⟩=some (Yh Yn r):=aj hv 2;have d3:w3.cell? ⟨tb,3,none⟩=some (Yh Yn bc):=aj hv 3;haveI:af tb w3:=af.of (ae hv);have HE:=aa (And.intro hT3 (And.intro sI Lc.out));clear hv hT3 sI g2 HT HP hb he E2 pC pD pE;rcases Nat.lt_or_ge m d.size with fu|fu
   ·have av:=St.drop_at d m fu;have y1:((m:Int)==(d.size:Int))=false:=by simp;omega
    have y3:(m:Int)<d.size:=by omega
    by_cases bH:d[m].toNat=10
    ·have y2:((d[m].toNat:Int)==10)=true:=by simp;omega
     have bS:=dO.out;rw[av]at bS;simp only[bH,if_true]at bS;have dl:=aa bS;clear bS av dO
     by_cases hw:n+1<bc
     ·have hw':(n:Int)+1<(bc:Int):=by omega
      go_wp2;go_ret2;refine⟨HE.out.2.2,?_⟩;rw[dl.out];simp only[];rw[if_pos hw];rfl
     have hw':¬(n:Int)+1<(bc:Int):=by omega
     go_wp2;go_ret2;refine⟨HE.out.2.2,?_⟩;rw[dl.out];simp only[];rw[if_neg hw];have vq:((min (m+1) d.size:Nat):Int)=min ((m:Int)+1) (d.size:Int):=by omega
     exact⟨by rw[vq];rfl,HE.out.1,HE.out.2.1,hs5,by omega,by omega,by omega⟩
    have y2:((d[m].toNat:Int)==10)=false:=by simp;omega
    have bS:=dO.out;rw[av]at bS;simp only[bH,if_false]at bS;have dl:=aa bS;clear bS av dO;go_wp2;exact⟨⟨m+1,n+1,fuel,s2,congrArg (Yh Yn) (by omega),congrArg (Yh Yn) (by omega),by omega,by omega,by omega,by omega,dl.out,HE.out.1,HE.out.2.1,by omega,by omega,HE.out.2.2⟩,by simp[intOf];omega⟩
   have hme:m=d.size:=by omega
   have hnil:=St.fN d m fu;have y1:((m:Int)==(d.size:Int))=true:=by simp;omega
   have bS:=dO.out;rw[hnil]at bS;simp only[]at bS;have dl:=aa bS;clear bS hnil dO
   by_cases hw:n+1<bc
   ·have hw':(n:Int)+1<(bc:Int):=by omega
    go_wp2;go_ret2;refine⟨HE.out.2.2,?_⟩;rw[dl.out];simp only[];rw[if_pos hw];rfl
   have hw':¬(n:Int)+1<(bc:Int):=by omega
   go_wp2;go_ret2;refine⟨HE.out.2.2,?_⟩;rw[dl.out];simp only[];rw[if_neg hw];have vq:((min (m+1) d.size:Nat):Int)=min ((d.size:Int)+1) (d.size:Int):=by omega
   exact⟨by rw[vq];rfl,HE.out.1,HE.out.2.1,hs5,by omega,by omega,by omega⟩
end
section
theorem kk(d:ByteArray)(w:Ys):Calls Tryz.prog 75 #[Yi d] w λe w'=>e=Yp (Yl (some ⟨w.1.size,0,none⟩))/\w'=w.alloc (Yo #[Yi d,Yh Yn 0,Yj none 0 0] 161):=by
 go_enter Tryz.func75,Tryz.ntmps75;go_wp2;go_ret;exact⟨rfl,rfl⟩
namespace St
variable {dE:List UInt8->Nat × Int} {dig:Nat->List UInt8} {d:List UInt8} {W C:Nat}
theorem nh(fuel a r:Nat)(s:PS)(h:d.length<=a):cE dE dig d W C fuel a r s=.ok s:=by
 cases fuel with
 | zero=>rfl
 | succ f=>rw[cE,if_pos h]
theorem DH(fuel e r:Nat)(s:PS)(he:e<=d.length):cE dE dig d W C fuel (e+1) r s=cE dE dig d W C fuel (min (e+1) d.length) r s:=by
 by_cases h:e+1<=d.length
 ·rw[Nat.min_eq_left h]
 rw[nh _ _ _ _ (by omega),nh _ _ _ _ (by omega)]
theorem nj{fuel a r:Nat}{s:PS}{x:Nat × Int}(h:¬d.length<=a)(hr:dv dE d W C (dig r) (d.length+1) a 0 s=.error x):cE dE dig d W C (fuel+1) a r s=.error x:=by
 rw[cE,if_neg h,hr]
theorem lz{fuel a r e n:Nat}{s s':PS}(h:¬d.length<=a)(hr:dv dE d W C (dig r) (d.length+1) a 0 s=.ok (e,n,s'))(hn:n<W):cE dE dig d W C (fuel+1) a r s=.error (a,2):=by
 rw[cE,if_neg h,hr];simp only[];rw[if_pos hn]
theorem Pa{fuel a r e n:Nat}{s s':PS}(h:¬d.length<=a)(hr:dv dE d W C (dig r) (d.length+1) a 0 s=.ok (e,n,s'))(hn:¬n<W)(he:e<=d.length):cE dE dig d W C (fuel+1) a r s=cE dE dig d W C fuel (min (e+1) d.length) (r+1) s':=by
 rw[cE,if_neg h,hr];simp only[];rw[if_neg hn,DH _ _ _ _ he]
theorem uh{a:Nat}{er:Int}(h0:¬65536<d.length)(h:fh d (d.length+1) 0 0 0 0=.error (a,er)):eI dE dig d=([],a,er):=by
 rw[eI,if_neg h0,h]
theorem om{e n tx c:Nat}(h0:¬65536<d.length)(h:fh d (d.length+1) 0 0 0 0=.ok (e,n,tx,c))(ht:tx=0):eI dE dig d=([],0,6):=by
 rw[eI,if_neg h0,h];simp only[];rw[if_pos ht]
theorem kM{e n tx c:Nat}(h0:¬65536<d.length)(h:fh d (d.length+1) 0 0 0 0=.ok (e,n,tx,c))(ht:tx≠0)(ht2:1<tx):eI dE dig d=([],0,5):=by
 rw[eI,if_neg h0,h];simp only[];rw[if_neg ht,if_pos ht2]
def qy(d:List UInt8):Except (Nat × Int) PS->List Pt × Nat × Int
 | .error (a,e)=>([],a,e)
 | .ok s=>(cI d s,0,0)
theorem MU{e n tx c:Nat}(h0:¬65536<d.length)(h:fh d (d.length+1) 0 0 0 0=.ok (e,n,tx,c))(ht:tx≠0)(ht2:¬1<tx)(he:e<=d.length):eI dE dig d=qy d (cE dE dig d n c (d.length+1) (min (e+1) d.length) 1 ([],0)):=by
 rw[eI,if_neg h0,h];simp only[];rw[if_neg ht,if_neg ht2,DH _ _ _ _ he];cases cE dE dig d n c (d.length+1) (min (e+1) d.length) 1 ([],0)<;>rfl
end St
def fJ(d:ByteArray):List St.Pt × Nat × Int:=St.eI dE Lib.decDigits d.1.1
def aG(R:List St.Pt × Nat × Int)(w:Ys)(e:Ending)(w':Ys):Prop:=
 ∃(A:Option Addr) (c:Nat),e=Yp (Ym #[Yj A R.1.length c,Yh Yn (R.2.1:Int),Yh Yn R.2.2])/\bk w' A R.1/\R.1.length<=c/\c<=9223372036854775807/\ac w w'
theorem aG.err{R:List St.Pt × Nat × Int}{w w':Ys}{a:Nat}{er:Int}(h:R=([],a,er))(u:ac w w'):aG R w (Yp (Ym #[Yj none 0 0,Yh Yn a,Yh Yn er])) w':=by
 subst h;exact⟨none,0,rfl,λh=>absurd h (by simp),by simp,by omega,u⟩
def SW(w:Ys)(d:ByteArray)(s3:Value)(wr:Ys):Prop:=
 ac w wr/\((s3=Yh Yn (0:Nat)/\TV wr (w.1.size+1) w.1.size d 0 0 0 0/\PV wr w.1.size w.1.size d ([],0))\/
  ∃(a r bc au tx fuel:Nat) (s:St.PS),s3=Yh Yn a/\a<=d.size/\1<=r/\r<=a+1/\bc<=100000/\au<=100000/\d.size-a<fuel/\s.2<=a/\s.1.length<=2*(a+1)/\(a<d.size->s.1.length<=2*a) /\
   TV wr (w.1.size+1) w.1.size d r bc au tx/\PV wr w.1.size w.1.size d s/\fJ d=St.qy d.1.1 (St.cE dE Lib.decDigits d.1.1 bc au fuel a r s))
open Classical in
noncomputable def F4(d:ByteArray)(s3:Value)(wr:Ys)(g:Nat):Nat:=if wr.cell? ⟨g,2,none⟩=some (Yh Yn (0:Nat))then d.size+2 else d.size+1-(intOf s3).toNat
theorem yY{d:ByteArray}{s3:Value}{wr:Ys}{g r:Nat}(h:wr.cell? ⟨g,2,none⟩=some (Yh Yn r))(hr:1<=r):F4 d s3 wr g=d.size+1-(intOf s3).toNat:=by
 unfold F4;rw[if_neg];intro e;rw[h]at e;simp at e;omega
theorem F7{w:Ys}{tb pb:Nat}{d:ByteArray}{r bc au tx:Nat}(h:TV w tb pb d r bc au tx)(m:Int)(hm:m=((r+1:Nat):Int)):TV (w.setCell ⟨tb,2,none⟩ (Yh Yn m)) tb pb d (r+1) bc au tx:=by
 subst hm;exact heap_setCell_same w tb 2 _ _ _ h
theorem Iy(d:ByteArray)(w:Ys)(ht:mJ w)(fU:d.size<=4611686018427387904):Calls Tryz.prog 85 #[Yi d] w (aG (fJ d) w):=by
 have hlen:=St.aC d;have Cb:=aa ht
 by_cases hbig:65536<d.size
 ·have hR:fJ d=([],0,3):=by unfold fJ St.eI;rw[if_pos (by omega)]
  have HR:=aa hR;have hb:(65536:Int)<d.size:=by omega
  clear hR ht hlen;go_enter Tryz.func85,Tryz.ntmps85;go_wp2;go_ret3;exact aG.err HR.out (ac.refl _)
 have hb:¬(65536:Int)<d.size:=by omega
 have h0l:¬65536<d.1.1.length:=by omega
 have nX:=aa h0l;have HLEN:=aa hlen;have hd:d.size<=65536:=by omega
 clear ht hlen h0l
 have lJ:PV ((w.alloc (Yo #[Yi d,Yh Yn 0,Yj none 0 0] 161)).alloc (Yo #[Yi d,Yl (some ⟨w.1.size,0,none⟩),Yh Yn 0,Yh Yn 0,Yh Yn 0,Yh Yn 0] 174)) w.1.size w.1.size d ([],0):=
  PV.ai ⟨Nat.le_refl _,Yj none 0 0,heap_alloc_new w _,World.ownsRow_nil _ _ _ _⟩ ((ac.refl _).alloc _)
 have hT0:TV ((w.alloc (Yo #[Yi d,Yh Yn 0,Yj none 0 0] 161)).alloc (Yo #[Yi d,Yl (some ⟨w.1.size,0,none⟩),Yh Yn 0,Yh Yn 0,Yh Yn 0,Yh Yn 0] 174)) (w.1.size+1) w.1.size d 0 0 0 0:=by
  have:=heap_alloc_new (w.alloc (Yo #[Yi d,Yh Yn 0,Yj none 0 0] 161)) (Yo #[Yi d,Yl (some ⟨w.1.size,0,none⟩),Yh Yn 0,Yh Yn 0,Yh Yn 0,Yh Yn 0] 174)
  simpa[TV]using this
 have TT:ac w ((w.alloc (Yo #[Yi d,Yh Yn 0,Yj none 0 0] 161)).alloc (Yo #[Yi d,Yl (some ⟨w.1.size,0,none⟩),Yh Yn 0,Yh Yn 0,Yh Yn 0,Yh Yn 0] 174)):=uZ;have jM:=aa (And.intro TT (And.intro hT0 lJ));clear lJ hT0 TT;go_enter Tryz.func85,Tryz.ntmps85;go_wp2_with (go_at_call 75;refine(kk d _).mono ?_;rintro e w' ⟨rfl,rfl⟩);go_loopw [3] (λs3 wr=>SW w d s3 wr) (λs3 wr=>F4 d s3 wr (w.1.size+1))
 case atStart=>exact⟨jM.out.1,.inl ⟨rfl,jM.out.2.1,jM.out.2.2⟩⟩
 case round=>
  obtain⟨hu,hrel⟩:=hrel;clear jM;have HU:=aa hu;have hsz:=hu.size;clear hu;rcases hrel with⟨rfl,hT,hP⟩|⟨a,r,bc,au,tx,fuel,s,rfl,ha,hr1,hr2,hc1,hc2,hfu,hs2,hs3,hs4,hT,hP,hS⟩
  ·have hv:=hT;unfold TV at hv;have c2:wr.cell? ⟨w.1.size+1,2,none⟩=some (Yh Yn (0:Nat)):=aj hv 2;have uF:F4 d (Yh Yn (0:Nat)) wr (w.1.size+1)=d.size+2:=by unfold F4;rw[if_pos c2]
   haveI:af (w.1.size+1) wr:=af.of (ae hv);have HN:=aa (Kk wr w.1.size (w.1.size+1) w.1.size d hT hP (by omega) hsz hd);have HM:=aa uF;clear hv hT hP uF
   by_cases z:0<d.size
   all_goals
    go_wp2_with fail;refine HN.out.mono ?_;rintro e w3 ⟨hbl,hm⟩;have hu3:ac w w3:=ac.cn (Below.trans HU.out.below hbl);have a7:=aa hu3;clear hbl hu3 HN c2;cases hh:St.fh d.1.1 (d.1.1.length+1) 0 0 0 0 with
    | error x=>
     obtain⟨a,er⟩:=x;rw[hh]at hm;simp only at hm;obtain⟨her,rfl⟩:=hm;have hR:=aa (St.uh (dE:=dE) (dig:=Lib.decDigits) nX.out hh);have hnb:(er==0)=false:=by simpa using her
     clear her hh;go_wp2;go_ret3;exact aG.err hR.out a7.out
    | ok x=>
     obtain⟨en,n,tx,au⟩:=x;rw[hh]at hm;simp only at hm
     split at hm
     ·rename_i ht
      subst hm;have hR:=aa (St.om (dE:=dE) (dig:=Lib.decDigits) nX.out hh ht);clear hh ht;go_wp2;go_ret3;exact aG.err hR.out a7.out
     rename_i ht
     split at hm
     ·rename_i ht2
      subst hm;have hR:=aa (St.kM (dE:=dE) (dig:=Lib.decDigits) nX.out hh ht ht2);clear hh ht ht2;go_wp2;go_ret3;exact aG.err hR.out a7.out
     rename_i ht2
     obtain⟨rfl,hT3,sI,hn,hcol,hen⟩:=hm;have hl:=HLEN.out;have hR:=St.MU (dE:=dE) (dig:=Lib.decDigits) nX.out hh ht ht2 (by omega);rw[hl]at hR;have v2:w3.cell? ⟨w.1.size+1,2,none⟩=some (Yh Yn (0:Nat)):=aj hT3 2;have f2:w3.frozen? ⟨w.1.size+1,2,none⟩=false:=bz hT3 2;haveI:af (w.1.size+1) w3:=af.of (ae hT3);have Ai:=F7 hT3 1 rfl;have JD:=PV.RX sI hT3 (cJ w3 ⟨w.1.size+1,2,none⟩ (Yh Yn 1));have bf:ac w (w3.setCell ⟨w.1.size+1,2,none⟩ (Yh Yn 1)):=a7.out.uG (cJ w3 ⟨w.1.size+1,2,none⟩ _) (λg e=>by cases e;exact Nat.le_succ _);have HE:=aa (And.intro hR (And.intro Ai (And.intro JD bf)));have Aq:((min (en+1) d.size:Nat):Int)=min ((en:Int)+1) (d.size:Int):=by omega
     clear hR hT3 Ai sI JD bf hh ht ht2 hl;go_wp2;refine⟨⟨HE.out.2.2.2,.inr ⟨min (en+1) d.size,1,n,au,tx,d.size+1,([],0),congrArg (Yh Yn) (by omega),by omega,by omega,by omega,hn,hcol,by omega,by simp,by simp,by simp,HE.out.2.1,HE.out.2.2.1,HE.out.1⟩⟩,?_⟩;have hsp:=yY (r:=0+1) (d:=d) (s3:=Yh Yn (min ((en:Int)+1) (d.size:Int))) (aj HE.out.2.1 2) (by omega);rw[hsp,HM.out]
     show d.size+1-(min ((en:Int)+1) (d.size:Int)).toNat<d.size+2
     omega
  have hv:=hT;unfold TV at hv;have c2:wr.cell? ⟨w.1.size+1,2,none⟩=some (Yh Yn r):=aj hv 2;have c1:wr.cell? ⟨w.1.size+1,1,none⟩=some (Yl (some ⟨w.1.size,0,none⟩)):=aj hv 1;have uF:F4 d (Yh Yn a) wr (w.1.size+1)=d.size+1-a:=by rw[yY c2 hr1];rfl
  haveI:af (w.1.size+1) wr:=af.of (ae hv);have HM:=aa uF;have r0:((r:Int)==0)=false:=by simp;omega
  by_cases hlt:a<d.size
  ·have HN:=aa (Mq wr w w.1.size (w.1.size+1) w.1.size d r bc au tx a s hT hP Cb.out rfl HU.out hd hr1 (by omega) hc1 hc2 ha hs2 (hs4 hlt));have HS:=aa hS;obtain⟨fuel,rfl⟩:∃m,fuel=m+1:=⟨fuel-1,by omega⟩;have z:(a:Int)<d.size:=by omega
   have hal:¬d.1.1.length<=a:=by rw[HLEN.out];omega
   have ek:=aa hal;clear hv hT hP uF hS hs4 hal;go_wp2_with fail;refine HN.out.mono ?_;rintro e w3 ⟨hbl,hm⟩;have hu3:ac w w3:=ac.cn (Below.trans HU.out.below hbl);have a7:=aa hu3;clear hbl hu3 HN c2 c1;cases hh:St.dv dE d.1.1 bc au (Lib.decDigits r) (d.1.1.length+1) a 0 s with
   | error x=>
    obtain⟨a2,er⟩:=x;rw[hh]at hm;simp only at hm;obtain⟨her,rfl⟩:=hm;have hR:=aa (HS.out.trans (show St.qy d.1.1 (St.cE dE Lib.decDigits d.1.1 bc au (fuel+1) a r s)=([],a2,er)by rw[St.nj ek.out hh];rfl));have hnb:(er==0)=false:=by simpa using her
    clear her hh;go_wp2;go_ret3;exact aG.err hR.out a7.out
   | ok x=>
    obtain⟨en,n,s'⟩:=x;rw[hh]at hm;simp only at hm
    split at hm
    ·rename_i hnc
     subst hm;have hR:=aa (HS.out.trans (show St.qy d.1.1 (St.cE dE Lib.decDigits d.1.1 bc au (fuel+1) a r s)=([],a,2)by rw[St.lz ek.out hh hnc];rfl));clear hh hnc;go_wp2;go_ret3;exact aG.err hR.out a7.out
    rename_i hnc
    obtain⟨rfl,hT3,sI,h5,h6,h7,h8⟩:=hm;have hl:=HLEN.out;have hR:=HS.out;rw[St.Pa ek.out hh hnc (by omega),hl]at hR;have v2:w3.cell? ⟨w.1.size+1,2,none⟩=some (Yh Yn r):=aj hT3 2;have f2:w3.frozen? ⟨w.1.size+1,2,none⟩=false:=bz hT3 2;haveI:af (w.1.size+1) w3:=af.of (ae hT3);have mM:((r:Int)+1)=((r+1:Nat):Int):=by omega
    have Ai:=F7 hT3 ((r:Int)+1) mM;have JD:=PV.RX sI hT3 (cJ w3 ⟨w.1.size+1,2,none⟩ (Yh Yn ((r:Int)+1)));have bf:ac w (w3.setCell ⟨w.1.size+1,2,none⟩ (Yh Yn ((r:Int)+1))):=a7.out.uG (cJ w3 ⟨w.1.size+1,2,none⟩ _) (λg e=>by cases e;exact Nat.le_succ _);have HE:=aa (And.intro hR (And.intro Ai (And.intro JD bf)));have Aq:((min (en+1) d.size:Nat):Int)=min ((en:Int)+1) (d.size:Int):=by omega
    clear hR hT3 Ai sI JD bf hh hnc hl mM;go_wp2;refine⟨⟨HE.out.2.2.2,.inr ⟨min (en+1) d.size,r+1,bc,au,tx,fuel,s',congrArg (Yh Yn) (by omega),by omega,by omega,by omega,hc1,hc2,by omega,by omega,by omega,by omega,HE.out.2.1,HE.out.2.2.1,HE.out.1⟩⟩,?_⟩;have hsp:=yY (r:=r+1) (d:=d) (s3:=Yh Yn (min ((en:Int)+1) (d.size:Int))) (aj HE.out.2.1 2) (by omega);rw[hsp,HM.out]
    show d.size+1-(min ((en:Int)+1) (d.size:Int)).toNat<d.size+1-a
    omega
  have JI:a=d.size:=by omega
  have HL:=aa (vI wr w.1.size w.1.size d s hP (by omega) (by omega) (by omega) hsz);have hR:=aa (hS.trans (show St.qy d.1.1 (St.cE dE Lib.decDigits d.1.1 bc au fuel a r s)=(St.cI d.1.1 s,0,0)by rw[St.nh _ _ _ _ (by rw[HLEN.out];omega)];rfl));have z:¬(a:Int)<d.size:=by omega
  clear hv hT hP uF hS hs4;go_wp2_with fail;refine HL.out.mono ?_;rintro e w3 ⟨A,c,rfl,lK,hq1,hq2,hbl⟩;have HE:=aa (And.intro lK (ac.cn (Below.trans HU.out.below hbl)));have mW:=aa hq1;clear lK hbl hq1 HL;go_wp2;go_ret3;unfold aG;rw[hR.out];exact⟨A,c,by simp[St.cI],HE.out.1,by simpa[St.cI]using mW.out,hq2,HE.out.2⟩
end
end Go.Proofs.YthoemdibbldndaaGreatDoor.Sh
