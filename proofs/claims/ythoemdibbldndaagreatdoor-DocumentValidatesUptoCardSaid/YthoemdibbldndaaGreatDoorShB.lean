/- The contracts of strconv.Itoa at this translation and of the table's field. -/
import Derived.Test.YthoemdibbldndaaGreatDoorPart
import Derived.Test.YthoemdibbldndaaGreatDoorShA
import Derived.WalkSmall
import Derived.Deep.RegionHeld3
set_option linter.unusedVariables false
set_option linter.unusedSimpArgs false
set_option maxHeartbeats 12800000
set_option maxRecDepth 20000
namespace Go.Proofs.YthoemdibbldndaaGreatDoor.Sh
open Go.RowKit Go.Proofs.YthoemdibbldndaaGreatDoor.St
section
def tabName:String:=(Rows.documentLimitsRow.named).getD 1 "x"
def Tab(w:World):Prop:=Lib.TabIs Tryz.prog w tabName .u64 Lib.pow10Tab
theorem Tab.und{w w':World}(h:Und w w')(t:Tab w):Tab w':=by
 unfold Tab Lib.TabIs World.var? at t ⊢;cases hg:Program.globalNamed Tryz.prog tabName with
 | none=>rw[hg] at t;simp at t
 | some g=>
  rw[hg] at t;simp only[Option.bind_some] at t ⊢
  have hlt:g<w.heap.size:=by
   rcases Nat.lt_or_ge g w.heap.size with h|h
   ·exact h
   ·rw[Array.getElem?_eq_none h] at t;simp at t
  rw[h.below.block g hlt];exact t
theorem Und.grow{a b:World}(h:Und a b)(os:Array Obj):Und a (Go.Sort.grow b os):=by
 refine Und.mk ⟨h.below.os,h.below.tape,h.below.output,?_,fun k hk=>?_⟩
 ·have:=h.below.size;unfold Go.Sort.grow;simp;omega
 ·unfold Go.Sort.grow
  have:=h.below.size
  rw[Array.getElem?_append_left (by omega)];exact h.below.block k hk
theorem itoa_any(n:Nat)(w:World)(h1:n<=4611686018427387904)(t:Tab w) :
  Calls Tryz.prog 124 #[.int .i64 n] w fun e w'=>e=.returned (.string ⟨(Lib.decDigits n).toArray⟩)/\Und w w':=by
 refine(Any.strconv_Itoa Tryz.laysM171 n (by omega) (by omega) w t).mono ?_;rintro e w' ⟨rfl,k,os,rfl⟩;refine⟨?_,Und.grow ((Und.refl w).drewN k) os⟩;unfold Lib.itoa;rw[if_neg (by omega)];simp
theorem step_callR{P:Program}{ops:Array Oper}{o:Oper}{a:Act}{w:World}{K:Act->World->Prop}{Q:Exit->Act->World->Prop}{E:Prop}
  (hg:o.guard=none) (f:FuncId) (args:Array Value) (v:Value) (R:World->World->Prop) (hc:Calls P f args w fun e w'=>e=.returned v/\R w w')
  (hrun:(execOp a.eval o).run P w=.ok (.enter f args) w) (hK:∀ w',R w w'->K (a.put o.dst v) w') :
  if Region.wanted o (yielded ops a.tmps)=true then Oper.wp P o a w K Q else E:=by
 have hw:Region.wanted o (yielded ops a.tmps)=true:=by simp[Region.wanted,hg]
 rw[if_pos hw];unfold Oper.wp;rw[hrun];refine hc.mono ?_;rintro e w' ⟨rfl,hu⟩;exact hK w' hu
def dE(l:List UInt8):Nat × Int:=((St.dec St.sheetL l.length l 0 0 [] []).2.2.1,(St.dec St.sheetL l.length l 0 0 [] []).2.2.2)
theorem dE_of(x:ByteArray):dE x.data.toList=((sheetD x).2.2.1,(sheetD x).2.2.2):=by
 unfold dE sheetD;rw[St.len_list]
theorem dec_at:∀ (fuel:Nat) (l:List UInt8) (a d:Nat) (f:List St.It) (cuts:List Nat),(St.dec St.sheetL fuel l a d f cuts).2.2.1<=a+l.length
 | 0,l,a,d,f,cuts=>by simp[St.dec]
 | fuel+1,l,a,d,f,cuts=>by
  by_cases h0:l=[]
  ·subst h0;rw[St.dec_nil];simp
  ·cases hs:St.sheetL l with
   | none=>rw[St.dec_none fuel a d f cuts h0 hs];simp
   | some x=>
    obtain⟨k,t,n⟩:=x;obtain⟨hk,hn1,hn2⟩:=St.sheet_len hs
    by_cases hf:512<(St.addI f (k,t,0)).length∨1024<=cuts.length
    ·rw[St.dec_full fuel a d f cuts h0 hs (by omega) hf];simp
    ·rw[St.dec_step fuel a d f cuts h0 hs (by omega) hf]
     have h:=dec_at fuel (l.drop n) (a+n) (a+n) (St.addI f (k,t,0)) (cuts++[d]);rw[List.length_drop] at h;omega
theorem sheetD_at(x:ByteArray):(sheetD x).2.2.1<=x.size:=by
 have:=dec_at x.size x.data.toList 0 0 [] []
 rw[St.len_list] at this;unfold sheetD;omega
def TfEnd(w:World)(B tb pb:Nat)(d:ByteArray)(r cols col texts:Nat)(s:St.PS)(a b n:Nat)(q:Bool)(e:Ending)(w':World):Prop:=
 Below B w w'/\if cols<=n∨(n=col/\q=false) then e=.returned (.tuple #[.int .i64 a,.int .i64 2]) else
  if n=col/\(dE (St.cutL d.data.toList (a+1) (b-1))).2 ≠ 0 then e=.returned (.tuple #[.int .i64 ((a+1+(dE (St.cutL d.data.toList (a+1) (b-1))).1:Nat):Int),.int .i64 (dE (St.cutL d.data.toList (a+1) (b-1))).2]) else
   e=.returned (.tuple #[.int .i64 0,.int .i64 0])/\TV w' tb pb d r cols col texts/\PV w' B pb d (if n=col then St.unitS d.data.toList s (a+1) (b-1) (Lib.decDigits r) else s)
theorem tfield_any(w w0:World)(B tb pb:Nat)(d:ByteArray)(r cols col texts:Nat)(s:St.PS)(a b n:Nat)(q:Bool)(hT:TV w tb pb d r cols col texts)(hP:PV w B pb d s)(ht:Tab w0)(hB0:B=w0.heap.size)(h0:Und w0 w)
  (h1:s.2<=a) (h2:a<=b) (h3:b<=d.size) (hq:n=col->q=true->a+2<=b) (hd:d.size<=65536) (hr:r<=100000) (hc:cols<=100000) (hcl:col<=100000) (hn:n<=100000) (hl:s.1.length<=1000000) :
  Calls Tryz.prog 171 #[.pointer (some ⟨tb,0,none⟩),.int .i64 a,.int .i64 b,.int .i64 n,.bool q] w (TfEnd w B tb pb d r cols col texts s a b n q):=by
 have hBw:B<=w.heap.size:=by rw[hB0];exact h0.size
 have hv:=hT;unfold TV at hv;have c0:w.cell? ⟨tb,0,none⟩=some (.string d):=zcH hv 0;have c1:w.cell? ⟨tb,1,none⟩=some (.pointer (some ⟨pb,0,none⟩)):=zcH hv 1;have c2:w.cell? ⟨tb,2,none⟩=some (.int .i64 r):=zcH hv 2;have c3:w.cell? ⟨tb,3,none⟩=some (.int .i64 cols):=zcH hv 3;have c4:w.cell? ⟨tb,4,none⟩=some (.int .i64 col):=zcH hv 4;haveI:LtW tb w:=LtW.of (lt_of_heap hv);have HT:=hid hT;have HP:=hid hP;have HTB:=hid ht;have H0:=hid h0;clear hv hT hP ht h0 hB0
 by_cases k1:cols<=n
 ·have k1':(cols:Int)<=(n:Int):=by omega
  have hE:TfEnd w B tb pb d r cols col texts s a b n q (.returned (.tuple #[.int .i64 a,.int .i64 2])) w:=⟨Below.refl _ _,by rw[if_pos (Or.inl k1)]⟩;have HE:=hid hE;clear hE;go_enter Tryz.func171,Tryz.ntmps171;go_wp2;go_ret2;exact HE.out
 ·have k1':¬ (cols:Int)<=(n:Int):=by omega
  by_cases k2:n=col
  ·subst k2
   have m2:((n:Int)==(n:Int))=true:=by simp
   cases q
   ·have hE:TfEnd w B tb pb d r cols n texts s a b n false (.returned (.tuple #[.int .i64 a,.int .i64 2])) w:=⟨Below.refl _ _,by rw[if_pos (Or.inr ⟨rfl,rfl⟩)]⟩
    have HE:=hid hE;clear hE;go_enter Tryz.func171,Tryz.ntmps171;go_wp2;go_ret2;exact HE.out
   ·have hq2:=hq rfl rfl
    obtain⟨b2,rfl⟩:∃ b2,b=b2+1:=⟨b-1,by omega⟩;obtain⟨x,hX⟩:∃ x,d.extract (a+1) b2=x:=⟨_,rfl⟩;have hxl:x.data.toList=St.cutL d.data.toList (a+1) (b2+1-1):=by rw[<- hX,cut_list];rfl
    have hxs:x.size<=d.size:=by rw[<- hX];simp;omega
    have hdx:=dE_of x;rw[hxl] at hdx;have HDX:=hid hdx;have HDC:=hid (fun W=>sdecode_any x W (by omega));have z1:(a:Int)+1<=(b2:Int):=by omega
    have z2:(b2:Int)<=d.size:=by omega
    have z3:(0:Int)<=(a:Int)+1:=by omega
    have z4:(b2:Int)+1-1=b2:=by omega
    have ha1:((a+1:Nat):Int)=(a:Int)+1:=by omega
    have HUN:=hid (fun W (hW:Und w W)=>(by have h:=unit_any W B pb d ⟨(Lib.decDigits r).toArray⟩ s (a+1) b2 (HP.out.und hW) (by omega) (by omega) (by omega) (by omega) hl (Nat.le_trans hBw hW.size);rw[ha1] at h;exact h:Calls Tryz.prog 79 #[.pointer (some ⟨pb,0,none⟩),.int .i64 ((a:Int)+1),.int .i64 b2,.string ⟨(Lib.decDigits r).toArray⟩] W fun e w'=>e=.returned (.tuple #[])/\PV w' B pb d (St.unitS d.data.toList s (a+1) b2 (Lib.decDigits r))/\Below B W w'/\TKept ptT W w'));have HIT:=hid (fun W (hW:Und w W)=>itoa_any r W (by omega) (HTB.out.und (H0.out.trans hW)));have hat:=sheetD_at x;clear hxl hdx hq hq2 ha1;generalize hR:sheetD x=R at *;obtain⟨f,cu,i,er⟩:=R;simp only at hat;have hi6:i<=65536:=by omega
    by_cases ke:er=0
    ·subst ke
     go_enter Tryz.func171,Tryz.ntmps171;go_wp2_with fail;refine(HDC.out _).mono ?_;rintro e w2 ⟨A,c,rfl,_,_,_,hu2⟩;have HU2:=hid hu2;clear hu2;go_wp2_with fail;have g1:w2.cell? ⟨tb,1,none⟩=some (.pointer (some ⟨pb,0,none⟩)):=(HU2.out.cell (LtW.lt inferInstance)).trans c1;have g2:w2.cell? ⟨tb,2,none⟩=some (.int .i64 r):=(HU2.out.cell (LtW.lt inferInstance)).trans c2;haveI:LtW tb w2:=LtW.of (zbL _ _ g1);have hw1:IntKind.i64.wrap ((a:Int)+1)=(a:Int)+1:=IntWalk.i64_in _ (by omega);have hw3:IntKind.i64.wrap (b2:Int)=(b2:Int):=IntWalk.i64_in _ (by omega);have hw2:IntKind.i64.wrap ((b2:Int)+1-1)=(b2:Int):=by rw[z4];exact IntWalk.i64_in _ (by omega)
     clear c0 c1 c2 c3 c4;go_region_law (first|(refine step_callR rfl 124 #[.int .i64 r] (.string ⟨(Lib.decDigits r).toArray⟩) Und (HIT.out _ (HU2.out.trans (by apply_rules[uUe,uUa,uUb,uUc,uUd]))) ?_ ?_;(· go_simp;done);intro w5 hu5;have g1':=(hu5.cell (p:=⟨tb,1,none⟩) (LtW.lt inferInstance)).trans g1;haveI:LtW tb w5:=LtW.of (zbL _ _ g1'))|(refine step_callR rfl 79 #[.pointer (some ⟨pb,0,none⟩),.int .i64 ((a:Int)+1),.int .i64 b2,.string ⟨(Lib.decDigits r).toArray⟩] (.tuple #[]) (fun W w'=>PV w' B pb d (St.unitS d.data.toList s (a+1) b2 (Lib.decDigits r))/\Below B W w'/\TKept ptT W w') (HUN.out _ (HU2.out.trans (((by apply_rules[uUe,uUa,uUb,uUc,uUd]):Und w2 _).trans hu5))) ?_ ?_;(· go_simp;done);intro w6 ⟨hp6,hb6,ht6⟩;have hT6:=(HT.out.und (HU2.out.trans (((by apply_rules[uUe,uUa,uUb,uUc,uUd]):Und w2 _).trans hu5))).tk ht6))
     all_goals
      have hB6:=((HU2.out.trans (((by apply_rules[uUe,uUa,uUb,uUc,uUd]):Und w2 _).trans hu5)).below.mono hBw).trans hb6;have HE:=hid (And.intro hT6 (And.intro hp6 hB6));clear hT6 hp6 hB6 hb6 ht6 hw1 hw2 hw3;go_wp2;go_ret2;refine⟨HE.out.2.2,?_⟩;rw[if_neg (by simp;omega),if_neg (by rw[HDX.out];simp),if_pos rfl];exact⟨rfl,HE.out.1,by simpa using HE.out.2.1⟩
    ·have keb:(er==0)=false:=by simpa using ke
     go_enter Tryz.func171,Tryz.ntmps171;go_wp2_with fail;refine(HDC.out _).mono ?_;rintro e w2 ⟨A,c,rfl,_,_,_,hu2⟩;have HU2:=hid hu2;clear hu2;go_wp2;go_ret2;refine⟨(HU2.out.below.mono hBw),?_⟩;rw[if_neg (by simp;omega),if_pos ⟨rfl,by rw[HDX.out];exact ke⟩,HDX.out];have ei:((a+1+i:Nat):Int)=(a:Int)+1+(i:Int):=by omega
     simp only[ei];rfl
  ·have m2:((n:Int)==(col:Int))=false:=by simp;omega
   have hE:TfEnd w B tb pb d r cols col texts s a b n q (.returned (.tuple #[.int .i64 0,.int .i64 0])) w:=⟨Below.refl _ _,by rw[if_neg (by omega),if_neg (fun h=>k2 h.1),if_neg k2];exact⟨rfl,HT.out,HP.out⟩⟩;have HE:=hid hE;clear hE;go_enter Tryz.func171,Tryz.ntmps171;go_wp2;go_ret2;exact HE.out
end
section
namespace St
theorem quoted_len:∀ (m:Nat) (l:List UInt8) (n:Nat),l.length<=m->quotedL l=some n->1<=n/\n<=l.length
 | 0,l,n,hl,h=>by
  have h0:l=[]:=List.eq_nil_of_length_eq_zero (by omega);subst h0;cases h
 | m+1,[],n,hl,h=>by cases h
 | m+1,c :: r,n,hl,h=>by
  by_cases hc:c.toNat=34
  ·cases r with
   | nil=>rw[quoted_last hc] at h;cases h;simp
   | cons d r=>
    by_cases hd:d.toNat=34
    ·rw[quoted_two hc hd] at h
     cases hq:quotedL r with
     | none=>rw[hq] at h;cases h
     | some k=>
      rw[hq] at h;have:=quoted_len m r k (by simp at hl;omega) hq
      simp at h;simp;omega
    ·rw[quoted_end hc hd] at h;cases h;simp
  ·rw[quoted_plain hc] at h
   cases hq:quotedL r with
   | none=>rw[hq] at h;cases h
   | some k=>
    rw[hq] at h;have:=quoted_len m r k (by simp at hl;omega) hq
    simp at h;simp;omega
theorem field_len{l:List UInt8}{k:Nat}{q:Bool}(h:fieldL l=some (k,q)):k<=l.length/\(q=true->2<=k):=by
 cases l with
 | nil=>rw[field_nil] at h;simp at h;obtain⟨rfl,rfl⟩:=h;simp
 | cons c r=>
  by_cases hc:c.toNat=34
  ·rw[field_q hc] at h
   cases hq:quotedL r with
   | none=>rw[hq] at h;cases h
   | some n=>
    rw[hq] at h;simp only at h
    split at h
    ·simp only[Option.some.injEq,Prod.mk.injEq] at h
     obtain⟨rfl,rfl⟩:=h;have:=quoted_len _ r n (Nat.le_refl _) hq
     simp;omega
    ·cases h
  ·rw[field_b (fun c' r' e=>by simp only[List.cons.injEq] at e;rw[<- e.1];exact hc)] at h
   split at h
   ·simp only[Option.some.injEq,Prod.mk.injEq] at h
    obtain⟨rfl,rfl⟩:=h;refine⟨?_,fun h=>by cases h⟩;exact(List.takeWhile_prefix _).length_le
   ·cases h
theorem head_none{d:List UInt8}{fuel a n tx col:Nat}(h:fieldL (d.drop a)=none):headS d (fuel+1) a n tx col=.error (a,2):=by
 rw[headS,h]
theorem head_step{d:List UInt8}{fuel a n tx col k:Nat}{q:Bool}(h:fieldL (d.drop a)=some (k,q)):headS d (fuel+1) a n tx col=match d.drop (a+k) with
   | []=>.ok (a+k,n+1,(if cutL d a (a+k)==[116,101,120,116] then tx+1 else tx),(if cutL d a (a+k)==[116,101,120,116] then n else col))
   | c :: _=>if c.toNat=10 then .ok (a+k,n+1,(if cutL d a (a+k)==[116,101,120,116] then tx+1 else tx),(if cutL d a (a+k)==[116,101,120,116] then n else col)) else headS d fuel (a+k+1) (n+1) (if cutL d a (a+k)==[116,101,120,116] then tx+1 else tx) (if cutL d a (a+k)==[116,101,120,116] then n else col):=by
 rw[headS,h];simp only[];cases d.drop (a+k) <;> rfl
end St
def HdEnd(w:World)(B tb pb:Nat)(d:ByteArray)(e:Ending)(w':World):Prop:=
 Below B w w'/\match St.headS d.data.toList (d.data.toList.length+1) 0 0 0 0 with
  | .error (a,er)=>er ≠ 0/\e=.returned (.tuple #[.int .i64 a,.int .i64 er])
  | .ok (en,n,tx,col)=>if tx=0 then e=.returned (.tuple #[.int .i64 0,.int .i64 6]) else if 1<tx then e=.returned (.tuple #[.int .i64 0,.int .i64 5]) else
    e=.returned (.tuple #[.int .i64 (min (en+1) d.size:Nat),.int .i64 0])/\TV w' tb pb d 0 n col tx/\PV w' B pb d ([],0)/\n<=100000/\col<=100000/\en<=d.size
def NhRel(w:World)(B tb pb:Nat)(d:ByteArray)(s6 s7:Value)(wr:World):Prop:=
 ∃ a n tx col fuel:Nat,s6=.int .i64 a/\s7=.int .i64 n/\a<=d.size/\n<=a/\tx<=n/\col<=n/\d.size+1-a<=fuel/\St.headS d.data.toList (d.data.toList.length+1) 0 0 0 0=St.headS d.data.toList fuel a n tx col/\TV wr tb pb d 0 n col tx/\PV wr B pb d ([],0)/\Below B w wr
theorem next_head(w:World)(B tb pb:Nat)(d:ByteArray)(hT:TV w tb pb d 0 0 0 0)(hP:PV w B pb d ([],0))(hB:B<=tb)(hBw:B<=w.heap.size)(hd:d.size<=65536) :
  Calls Tryz.prog 125 #[.pointer (some ⟨tb,0,none⟩),.int .i64 0] w (HdEnd w B tb pb d):=by
 have HT0:=hid hT;have HP0:=hid hP;clear hT hP;go_enter Tryz.func125,Tryz.ntmps125;go_wp2;go_loopw [6,7] (fun s6 s7 wr=>NhRel w B tb pb d s6 s7 wr) (fun s6 _ _=>d.size+1-(intOf s6).toNat)
 case atStart=>exact⟨0,0,0,0,d.data.toList.length+1,rfl,rfl,by omega,by omega,by omega,by omega,by simp,rfl,HT0.out,HP0.out,Below.refl _ _⟩
 case round=>
  obtain⟨a,n,tx,col,fuel,rfl,rfl,ha,hna,htx,hcol,hfu,hH,hT,hP,hbl⟩:=hrel;obtain⟨fuel,rfl⟩:∃ m,fuel=m+1:=⟨fuel-1,by omega⟩;have hv:=hT;unfold TV at hv;have c0:wr.cell? ⟨tb,0,none⟩=some (.string d):=zcH hv 0;have c2:wr.cell? ⟨tb,2,none⟩=some (.int .i64 (0:Nat)):=zcH hv 2;haveI:LtW tb wr:=LtW.of (lt_of_heap hv);have HT:=hid hT;have HP:=hid hP;have HH:=hid hH;have HBL:=hid hbl;have HF:=hid (field_any d a wr ha (by omega));have hBwr:B<=wr.heap.size:=Nat.le_trans hBw hbl.size;clear HT0 HP0 hv hT hP hH hbl;go_wp2_with fail;refine HF.out.mono ?_;rintro e w2 ⟨hu2,hm⟩;have HU2:=hid hu2;have g2:w2.cell? ⟨tb,2,none⟩=some (.int .i64 (0:Nat)):=(hu2.cell (LtW.lt inferInstance)).trans c2;haveI:LtW tb w2:=LtW.of (zbL _ _ g2);clear hu2 c0 c2;cases hs:St.fieldL (d.data.toList.drop a) with
  | none=>
   rw[hs] at hm;obtain⟨x,y,rfl⟩:=hm;have hh:=HH.out.trans (St.head_none hs);have HH2:=hid hh;clear hh hs HH HF;go_wp2;go_ret2;refine⟨HBL.out.trans (HU2.out.below.mono hBwr),?_⟩;rw[HH2.out];exact⟨by decide,rfl⟩
  | some x=>
   obtain⟨k,q⟩:=x;rw[hs] at hm;simp only at hm;subst hm;obtain⟨hk1,_⟩:=St.field_len hs;have hk2:a+k<=d.size:=by simp at hk1;omega
   have hh:=HH.out.trans (St.head_step hs);have hhd:=header_any w2 tb pb d n col tx a (a+k) n (HT.out.und HU2.out) (by omega) hk2 (by omega) (by omega) (by omega);have hc2b:(if St.cutL d.data.toList a (a+k)==[116,101,120,116] then n else col)<=n+1:=by split <;> omega
   have ht2b:(if St.cutL d.data.toList a (a+k)==[116,101,120,116] then tx+1 else tx)<=n+1:=by split <;> omega
   generalize (if St.cutL d.data.toList a (a+k)==[116,101,120,116] then n else col)=col2 at hh hhd hc2b;generalize (if St.cutL d.data.toList a (a+k)==[116,101,120,116] then tx+1 else tx)=tx2 at hh hhd ht2b;have hma:a<=a+k:=by omega
   generalize hm:a+k=m at hk2 hh hhd hma ⊢;have HHD:=hid hhd;have HH2:=hid hh;clear hh hhd hs HH HF hk1 hm;go_wp2_with fail;refine HHD.out.mono ?_;rintro e w3 ⟨rfl,hT3,hg3⟩;have hP3:=PV.tab (HP.out.und HU2.out) (HT.out.und HU2.out) hg3;have hB3:Below B w w3:=(HBL.out.trans (HU2.out.below.mono hBwr)).grown hg3 (Nat.le_trans hBwr HU2.out.size) (fun g e=>by cases e;exact hB);have hv:=hT3;unfold TV at hv;have d0:w3.cell? ⟨tb,0,none⟩=some (.string d):=zcH hv 0;have d2:w3.cell? ⟨tb,2,none⟩=some (.int .i64 (0:Nat)):=zcH hv 2;have d3:w3.cell? ⟨tb,3,none⟩=some (.int .i64 (n+1:Nat)):=zcH hv 3;have d5:w3.cell? ⟨tb,5,none⟩=some (.int .i64 tx2):=zcH hv 5;haveI:LtW tb w3:=LtW.of (lt_of_heap hv);have HE:=hid (And.intro hT3 (And.intro hP3 hB3));clear hv hT3 hg3 hP3 hB3 g2 HT HP HHD;rcases Nat.lt_or_ge m d.size with hml|hml
   ·have hcons:=St.drop_at d m hml
    have y1:((m:Int)==(d.size:Int))=false:=by simp;omega
    have y3:(m:Int)<d.size:=by omega
    by_cases c10:d[m].toNat=10
    ·have y2:((d[m].toNat:Int)==10)=true:=by simp;omega
     have hh3:=HH2.out;rw[hcons] at hh3;simp only[c10,if_true] at hh3;have HH3:=hid hh3;clear hh3 hcons HH2;rcases(show tx2=0∨tx2=1∨1<tx2 by omega) with q0|q1|q2
     ·subst q0
      go_wp2;go_ret2;refine⟨HE.out.2.2,?_⟩;rw[HH3.out];rfl
     ·subst q1
      go_wp2;go_ret2;refine⟨HE.out.2.2,?_⟩;rw[HH3.out];simp only[];rw[if_neg (by omega),if_neg (by omega)];have emin:((min (m+1) d.size:Nat):Int)=min ((m:Int)+1) (d.size:Int):=by omega
      exact⟨by rw[emin];rfl,HE.out.1,HE.out.2.1,by omega,by omega,by omega⟩
     ·have q2':(1:Int)<(tx2:Int):=by omega
      have q3':((tx2:Int)==0)=false:=by simp;omega
      go_wp2;go_ret2;refine⟨HE.out.2.2,?_⟩;rw[HH3.out];simp only[];rw[if_neg (by omega),if_pos q2];rfl
    ·have y2:((d[m].toNat:Int)==10)=false:=by simp;omega
     have hh3:=HH2.out;rw[hcons] at hh3;simp only[c10,if_false] at hh3;have HH3:=hid hh3;clear hh3 hcons HH2;go_wp2;exact⟨⟨m+1,n+1,tx2,col2,fuel,congrArg (Value.int .i64) (by omega),congrArg (Value.int .i64) (by omega),by omega,by omega,ht2b,hc2b,by omega,HH3.out,HE.out.1,HE.out.2.1,HE.out.2.2⟩,by simp[intOf];omega⟩
   ·have hme:m=d.size:=by omega
    have hnil:=St.drop_all d m hml;have y1:((m:Int)==(d.size:Int))=true:=by simp;omega
    have hh3:=HH2.out;rw[hnil] at hh3;simp only[] at hh3;have HH3:=hid hh3;clear hh3 hnil HH2;rcases(show tx2=0∨tx2=1∨1<tx2 by omega) with q0|q1|q2
    ·subst q0
     go_wp2;go_ret2;refine⟨HE.out.2.2,?_⟩;rw[HH3.out];rfl
    ·subst q1
     go_wp2;go_ret2;refine⟨HE.out.2.2,?_⟩;rw[HH3.out];simp only[];rw[if_neg (by omega),if_neg (by omega)];have emin:((min (m+1) d.size:Nat):Int)=min ((d.size:Int)+1) (d.size:Int):=by omega
     exact⟨by rw[emin];rfl,HE.out.1,HE.out.2.1,by omega,by omega,by omega⟩
    ·have q2':(1:Int)<(tx2:Int):=by omega
     have q3':((tx2:Int)==0)=false:=by simp;omega
     go_wp2;go_ret2;refine⟨HE.out.2.2,?_⟩;rw[HH3.out];simp only[];rw[if_neg (by omega),if_pos q2];rfl
end
section
namespace St
variable {dE:List UInt8->Nat × Int} {d key:List UInt8} {W C fuel a n k:Nat} {q:Bool} {s:PS}
theorem rec_none(h:fieldL (d.drop a)=none):recS dE d W C key (fuel+1) a n s=.error (a,2):=by
 rw[recS,h]
theorem rec_bad(h:fieldL (d.drop a)=some (k,q))(hb:W<=n∨(n=C/\q=false)):recS dE d W C key (fuel+1) a n s=.error (a,2):=by
 rw[recS,h];simp only[];rw[if_pos hb]
theorem rec_dec(h:fieldL (d.drop a)=some (k,q))(hb:¬ (W<=n∨(n=C/\q=false)))(he:n=C/\(dE (cutL d (a+1) (a+k-1))).2 ≠ 0):recS dE d W C key (fuel+1) a n s=.error (a+1+(dE (cutL d (a+1) (a+k-1))).1,(dE (cutL d (a+1) (a+k-1))).2):=by
 rw[recS,h];simp only[];rw[if_neg hb,if_pos he]
theorem rec_step(h:fieldL (d.drop a)=some (k,q))(hb:¬ (W<=n∨(n=C/\q=false)))(he:¬ (n=C/\(dE (cutL d (a+1) (a+k-1))).2 ≠ 0)):recS dE d W C key (fuel+1) a n s=match d.drop (a+k) with
   | []=>.ok (a+k,n+1,if n=C then unitS d s (a+1) (a+k-1) key else s)
   | c :: _=>if c.toNat=10 then .ok (a+k,n+1,if n=C then unitS d s (a+1) (a+k-1) key else s) else recS dE d W C key fuel (a+k+1) (n+1) (if n=C then unitS d s (a+1) (a+k-1) key else s):=by
 rw[recS,h];simp only[];rw[if_neg hb,if_neg he];cases d.drop (a+k) <;> rfl
end St
def RcEnd(w:World)(B tb pb:Nat)(d:ByteArray)(r cols col texts a0:Nat)(s:St.PS)(e:Ending)(w':World):Prop:=
 Below B w w'/\match St.recS dE d.data.toList cols col (Lib.decDigits r) (d.data.toList.length+1) a0 0 s with
  | .error (a,er)=>er ≠ 0/\e=.returned (.tuple #[.int .i64 a,.int .i64 er])
  | .ok (en,n,s')=>if n<cols then e=.returned (.tuple #[.int .i64 a0,.int .i64 2]) else
    e=.returned (.tuple #[.int .i64 (min (en+1) d.size:Nat),.int .i64 0])/\TV w' tb pb d r cols col texts/\PV w' B pb d s'/\s'.2<=en/\en<=d.size/\a0<=en/\s'.1.length<=2*(en+1)
def NrRel(w:World)(B tb pb:Nat)(d:ByteArray)(r cols col texts a0:Nat)(s:St.PS)(s6 s7:Value)(wr:World):Prop:=
 ∃ (a n fuel:Nat) (s1:St.PS),s6=.int .i64 a/\s7=.int .i64 n/\a0<=a/\a<=d.size/\n<=a/\d.size+1-a<=fuel /\
  St.recS dE d.data.toList cols col (Lib.decDigits r) (d.data.toList.length+1) a0 0 s=St.recS dE d.data.toList cols col (Lib.decDigits r) fuel a n s1/\TV wr tb pb d r cols col texts/\PV wr B pb d s1/\s1.2<=a/\s1.1.length<=2*a/\Below B w wr
theorem next_rec(w w0:World)(B tb pb:Nat)(d:ByteArray)(r cols col texts a0:Nat)(s:St.PS)(hT:TV w tb pb d r cols col texts)(hP:PV w B pb d s)(ht:Tab w0)(hB0:B=w0.heap.size)(h0:Und w0 w)(hd:d.size<=65536)(hr1:1<=r)(hr:r<=100000)(hc:cols<=100000)(hcl:col<=100000)
  (ha0:a0<=d.size) (hs2:s.2<=a0) (hsl:s.1.length<=2*a0) :
  Calls Tryz.prog 125 #[.pointer (some ⟨tb,0,none⟩),.int .i64 a0] w (RcEnd w B tb pb d r cols col texts a0 s):=by
 have HT0:=hid hT;have HP0:=hid hP;have HTB:=hid ht;have H0:=hid h0;have hBw:B<=w.heap.size:=by rw[hB0];exact h0.size
 have HB0:=hid hB0;clear hT hP ht h0 hB0;go_enter Tryz.func125,Tryz.ntmps125;go_wp2;go_loopw [6,7] (fun s6 s7 wr=>NrRel w B tb pb d r cols col texts a0 s s6 s7 wr) (fun s6 _ _=>d.size+1-(intOf s6).toNat)
 case atStart=>exact⟨a0,0,d.data.toList.length+1,s,rfl,rfl,by omega,by omega,by omega,by simp <;> omega,rfl,HT0.out,HP0.out,hs2,hsl,Below.refl _ _⟩
 case round=>
  obtain⟨a,n,fuel,s1,rfl,rfl,haa,ha,hna,hfu,hH,hT,hP,hs3,hs4,hbl⟩:=hrel;obtain⟨fuel,rfl⟩:∃ m,fuel=m+1:=⟨fuel-1,by omega⟩;have hv:=hT;unfold TV at hv;have c0:wr.cell? ⟨tb,0,none⟩=some (.string d):=zcH hv 0;have c2:wr.cell? ⟨tb,2,none⟩=some (.int .i64 r):=zcH hv 2;haveI:LtW tb wr:=LtW.of (lt_of_heap hv);have HT:=hid hT;have HP:=hid hP;have HH:=hid hH;have HBL:=hid hbl;have HF:=hid (field_any d a wr ha (by omega));have hBwr:B<=wr.heap.size:=Nat.le_trans hBw hbl.size
  have h0r:Und w0 wr:=by
   have e:=HB0.out;refine Und.of_below (Below.trans H0.out.below ?_);rw[<- e];exact hbl
  have H0R:=hid h0r;clear HT0 HP0 hv hT hP hH hbl h0r;have r0:((r:Int)==0)=false:=by simp;omega
  have r1:(0:Int)<(r:Int):=by omega
  go_wp2_with fail;refine HF.out.mono ?_;rintro e w2 ⟨hu2,hm⟩;have HU2:=hid hu2;have g2:w2.cell? ⟨tb,2,none⟩=some (.int .i64 r):=(hu2.cell (LtW.lt inferInstance)).trans c2;haveI:LtW tb w2:=LtW.of (zbL _ _ g2);clear hu2 c0 c2;cases hs:St.fieldL (d.data.toList.drop a) with
  | none=>
   rw[hs] at hm;obtain⟨x,y,rfl⟩:=hm;have hh:=HH.out.trans (St.rec_none hs);have HH2:=hid hh;clear hh hs HH HF;go_wp2;go_ret2;refine⟨HBL.out.trans (HU2.out.below.mono hBwr),?_⟩;rw[HH2.out];exact⟨by decide,rfl⟩
  | some x=>
   obtain⟨k,q⟩:=x;rw[hs] at hm;simp only at hm;subst hm;obtain⟨hk1,hkq⟩:=St.field_len hs;have hk2:a+k<=d.size:=by simp at hk1;omega
   have htf:=tfield_any w2 w0 B tb pb d r cols col texts s1 a (a+k) n q (HT.out.und HU2.out) (HP.out.und HU2.out) HTB.out HB0.out (H0R.out.trans HU2.out) hs3 (by omega) hk2 (fun _ h=>by have:=hkq h;omega) hd hr hc hcl (by omega) (by omega);have hb1:=fun hb=>HH.out.trans (St.rec_bad (dE:=dE) (key:=Lib.decDigits r) (fuel:=fuel) (s:=s1) hs (W:=cols) (n:=n) (C:=col) hb)
   have hb2:=fun hb he=>HH.out.trans (St.rec_dec (dE:=dE) (key:=Lib.decDigits r) (fuel:=fuel) (s:=s1) hs (W:=cols) (n:=n) (C:=col) hb he)
   have hb3:=fun hb he=>HH.out.trans (St.rec_step (dE:=dE) (key:=Lib.decDigits r) (fuel:=fuel) (s:=s1) hs (W:=cols) (n:=n) (C:=col) hb he)
   have hma:a<=a+k:=by omega
   have hmq:∀ P:Prop,(n=col->q=true->a+2<=a+k):=fun _ _ h=>by have:=hkq h;omega
   generalize hm:a+k=m at hk2 htf hb1 hb2 hb3 hma ⊢;have HTF:=hid htf;have HB1:=hid hb1;have HB2:=hid hb2;have HB3:=hid hb3;clear htf hb1 hb2 hb3 hs HH HF hk1 hkq hmq hm;go_wp2_with fail;refine HTF.out.mono ?_;rintro e w3 ⟨hbl3,hm⟩;have hB3:Below B w w3:=(HBL.out.trans (HU2.out.below.mono hBwr)).trans hbl3;have HBL3:=hid hB3;clear hbl3 hB3
   split at hm
   ·rename_i hb
    subst hm;have HH2:=hid (HB1.out hb);clear hb g2;go_wp2;go_ret2;refine⟨HBL3.out,?_⟩;rw[HH2.out];exact⟨by decide,rfl⟩
   ·rename_i hb
    split at hm
    ·rename_i he
     subst hm;have HH2:=hid (HB2.out hb he);have hne:=he.2;generalize dE (St.cutL d.data.toList (a+1) (m-1))=ev at HH2 hne;obtain⟨ei,er⟩:=ev;have hnb:(er==0)=false:=by simpa using hne
     have HNE:=hid hne;clear hb he hne g2;go_wp2;go_ret2;refine⟨HBL3.out,?_⟩;rw[HH2.out];exact⟨HNE.out,by rfl⟩
    ·rename_i he
     obtain⟨rfl,hT3,hP3⟩:=hm;have HH2:=hid (HB3.out hb he)
     have hs5:(if n=col then St.unitS d.data.toList s1 (a+1) (m-1) (Lib.decDigits r) else s1).2<=m:=by
      split
      ·show m-1<=m;omega
      ·omega
     have hs6:(if n=col then St.unitS d.data.toList s1 (a+1) (m-1) (Lib.decDigits r) else s1).1.length<=2*(a+1):=by
      split
      ·show (s1.1++[_,_]).length<=_;simp;omega
      ·omega
     have hncols:n<cols:=by omega
     generalize (if n=col then St.unitS d.data.toList s1 (a+1) (m-1) (Lib.decDigits r) else s1)=s2 at HH2 hP3 hs5 hs6;have hv:=hT3;unfold TV at hv;have d0:w3.cell? ⟨tb,0,none⟩=some (.string d):=zcH hv 0;have d2:w3.cell? ⟨tb,2,none⟩=some (.int .i64 r):=zcH hv 2;have d3:w3.cell? ⟨tb,3,none⟩=some (.int .i64 cols):=zcH hv 3;haveI:LtW tb w3:=LtW.of (lt_of_heap hv);have HE:=hid (And.intro hT3 (And.intro hP3 HBL3.out));clear hv hT3 hP3 g2 HT HP hb he HTF HB1 HB2 HB3;rcases Nat.lt_or_ge m d.size with hml|hml
     ·have hcons:=St.drop_at d m hml
      have y1:((m:Int)==(d.size:Int))=false:=by simp;omega
      have y3:(m:Int)<d.size:=by omega
      by_cases c10:d[m].toNat=10
      ·have y2:((d[m].toNat:Int)==10)=true:=by simp;omega
       have hh3:=HH2.out;rw[hcons] at hh3;simp only[c10,if_true] at hh3;have HH3:=hid hh3;clear hh3 hcons HH2
       by_cases hw:n+1<cols
       ·have hw':(n:Int)+1<(cols:Int):=by omega
        go_wp2;go_ret2;refine⟨HE.out.2.2,?_⟩;rw[HH3.out];simp only[];rw[if_pos hw];rfl
       ·have hw':¬ (n:Int)+1<(cols:Int):=by omega
        go_wp2;go_ret2;refine⟨HE.out.2.2,?_⟩;rw[HH3.out];simp only[];rw[if_neg hw];have emin:((min (m+1) d.size:Nat):Int)=min ((m:Int)+1) (d.size:Int):=by omega
        exact⟨by rw[emin];rfl,HE.out.1,HE.out.2.1,hs5,by omega,by omega,by omega⟩
      ·have y2:((d[m].toNat:Int)==10)=false:=by simp;omega
       have hh3:=HH2.out;rw[hcons] at hh3;simp only[c10,if_false] at hh3;have HH3:=hid hh3;clear hh3 hcons HH2;go_wp2;exact⟨⟨m+1,n+1,fuel,s2,congrArg (Value.int .i64) (by omega),congrArg (Value.int .i64) (by omega),by omega,by omega,by omega,by omega,HH3.out,HE.out.1,HE.out.2.1,by omega,by omega,HE.out.2.2⟩,by simp[intOf];omega⟩
     ·have hme:m=d.size:=by omega
      have hnil:=St.drop_all d m hml;have y1:((m:Int)==(d.size:Int))=true:=by simp;omega
      have hh3:=HH2.out;rw[hnil] at hh3;simp only[] at hh3;have HH3:=hid hh3;clear hh3 hnil HH2
      by_cases hw:n+1<cols
      ·have hw':(n:Int)+1<(cols:Int):=by omega
       go_wp2;go_ret2;refine⟨HE.out.2.2,?_⟩;rw[HH3.out];simp only[];rw[if_pos hw];rfl
      ·have hw':¬ (n:Int)+1<(cols:Int):=by omega
       go_wp2;go_ret2;refine⟨HE.out.2.2,?_⟩;rw[HH3.out];simp only[];rw[if_neg hw];have emin:((min (m+1) d.size:Nat):Int)=min ((d.size:Int)+1) (d.size:Int):=by omega
       exact⟨by rw[emin];rfl,HE.out.1,HE.out.2.1,hs5,by omega,by omega,by omega⟩
end
section
theorem newParts_any(d:ByteArray)(w:World):Calls Tryz.prog 75 #[.string d] w fun e w'=>e=.returned (.pointer (some ⟨w.heap.size,0,none⟩))/\w'=w.alloc (.cells #[.string d,.int .i64 0,.slice none 0 0] 161):=by
 go_enter Tryz.func75,Tryz.ntmps75;go_wp2;go_ret;exact⟨rfl,rfl⟩
namespace St
variable {dE:List UInt8->Nat × Int} {dig:Nat->List UInt8} {d:List UInt8} {W C:Nat}
theorem recs_end(fuel a r:Nat)(s:PS)(h:d.length<=a):recsS dE dig d W C fuel a r s=.ok s:=by
 cases fuel with
 | zero=>rfl
 | succ f=>rw[recsS,if_pos h]
theorem recs_min(fuel e r:Nat)(s:PS)(he:e<=d.length):recsS dE dig d W C fuel (e+1) r s=recsS dE dig d W C fuel (min (e+1) d.length) r s:=by
 by_cases h:e+1<=d.length
 ·rw[Nat.min_eq_left h]
 ·rw[recs_end _ _ _ _ (by omega),recs_end _ _ _ _ (by omega)]
theorem recs_err{fuel a r:Nat}{s:PS}{x:Nat × Int}(h:¬ d.length<=a)(hr:recS dE d W C (dig r) (d.length+1) a 0 s=.error x):recsS dE dig d W C (fuel+1) a r s=.error x:=by
 rw[recsS,if_neg h,hr]
theorem recs_few{fuel a r e n:Nat}{s s':PS}(h:¬ d.length<=a)(hr:recS dE d W C (dig r) (d.length+1) a 0 s=.ok (e,n,s'))(hn:n<W):recsS dE dig d W C (fuel+1) a r s=.error (a,2):=by
 rw[recsS,if_neg h,hr];simp only[];rw[if_pos hn]
theorem recs_ok{fuel a r e n:Nat}{s s':PS}(h:¬ d.length<=a)(hr:recS dE d W C (dig r) (d.length+1) a 0 s=.ok (e,n,s'))(hn:¬ n<W)(he:e<=d.length):recsS dE dig d W C (fuel+1) a r s=recsS dE dig d W C fuel (min (e+1) d.length) (r+1) s':=by
 rw[recsS,if_neg h,hr];simp only[];rw[if_neg hn,recs_min _ _ _ _ he]
theorem split_err{a:Nat}{er:Int}(h0:¬ 65536<d.length)(h:headS d (d.length+1) 0 0 0 0=.error (a,er)):splitS dE dig d=([],a,er):=by
 rw[splitS,if_neg h0,h]
theorem split_none{e n tx c:Nat}(h0:¬ 65536<d.length)(h:headS d (d.length+1) 0 0 0 0=.ok (e,n,tx,c))(ht:tx=0):splitS dE dig d=([],0,6):=by
 rw[splitS,if_neg h0,h];simp only[];rw[if_pos ht]
theorem split_many{e n tx c:Nat}(h0:¬ 65536<d.length)(h:headS d (d.length+1) 0 0 0 0=.ok (e,n,tx,c))(ht:tx ≠ 0)(ht2:1<tx):splitS dE dig d=([],0,5):=by
 rw[splitS,if_neg h0,h];simp only[];rw[if_neg ht,if_pos ht2]
def endR(d:List UInt8):Except (Nat × Int) PS->List Pt × Nat × Int
 | .error (a,e)=>([],a,e)
 | .ok s=>(endS d s,0,0)
theorem split_ok{e n tx c:Nat}(h0:¬ 65536<d.length)(h:headS d (d.length+1) 0 0 0 0=.ok (e,n,tx,c))(ht:tx ≠ 0)(ht2:¬ 1<tx)(he:e<=d.length):splitS dE dig d=endR d (recsS dE dig d n c (d.length+1) (min (e+1) d.length) 1 ([],0)):=by
 rw[splitS,if_neg h0,h];simp only[];rw[if_neg ht,if_neg ht2,recs_min _ _ _ _ he];cases recsS dE dig d n c (d.length+1) (min (e+1) d.length) 1 ([],0) <;> rfl
end St
def sheetS(d:ByteArray):List St.Pt × Nat × Int:=St.splitS dE Lib.decDigits d.data.toList
def SplitEnd(R:List St.Pt × Nat × Int)(w:World)(e:Ending)(w':World):Prop:=
 ∃ (A:Option Addr) (c:Nat),e=.returned (.tuple #[.slice A R.1.length c,.int .i64 (R.2.1:Int),.int .i64 R.2.2])/\PartsAt w' A R.1/\R.1.length<=c/\c<=9223372036854775807/\Und w w'
theorem SplitEnd.err{R:List St.Pt × Nat × Int}{w w':World}{a:Nat}{er:Int}(h:R=([],a,er))(u:Und w w'):SplitEnd R w (.returned (.tuple #[.slice none 0 0,.int .i64 a,.int .i64 er])) w':=by
 subst h;exact⟨none,0,rfl,fun h=>absurd h (by simp),by simp,by omega,u⟩
def SpRel(w:World)(d:ByteArray)(s3:Value)(wr:World):Prop:=
 Und w wr/\((s3=.int .i64 (0:Nat)/\TV wr (w.heap.size+1) w.heap.size d 0 0 0 0/\PV wr w.heap.size w.heap.size d ([],0)) ∨
  ∃ (a r cols col tx fuel:Nat) (s:St.PS),s3=.int .i64 a/\a<=d.size/\1<=r/\r<=a+1/\cols<=100000/\col<=100000/\d.size-a<fuel/\s.2<=a/\s.1.length<=2*(a+1)/\(a<d.size->s.1.length<=2*a) /\
   TV wr (w.heap.size+1) w.heap.size d r cols col tx/\PV wr w.heap.size w.heap.size d s/\sheetS d=St.endR d.data.toList (St.recsS dE Lib.decDigits d.data.toList cols col fuel a r s))
open Classical in
noncomputable def spM(d:ByteArray)(s3:Value)(wr:World)(g:Nat):Nat:=if wr.cell? ⟨g,2,none⟩=some (.int .i64 (0:Nat)) then d.size+2 else d.size+1-(intOf s3).toNat
theorem spM_pos{d:ByteArray}{s3:Value}{wr:World}{g r:Nat}(h:wr.cell? ⟨g,2,none⟩=some (.int .i64 r))(hr:1<=r):spM d s3 wr g=d.size+1-(intOf s3).toNat:=by
 unfold spM;rw[if_neg];intro e;rw[h] at e;simp at e;omega
theorem tab_inc{w:World}{tb pb:Nat}{d:ByteArray}{r cols col tx:Nat}(h:TV w tb pb d r cols col tx)(m:Int)(hm:m=((r+1:Nat):Int)):TV (w.setCell ⟨tb,2,none⟩ (.int .i64 m)) tb pb d (r+1) cols col tx:=by
 subst hm;exact heap_setCell_same w tb 2 _ _ _ h
theorem ssplit_any(d:ByteArray)(w:World)(ht:Tab w)(hd63:d.size<=4611686018427387904):Calls Tryz.prog 85 #[.string d] w (SplitEnd (sheetS d) w):=by
 have hlen:=St.len_list d;have HTB:=hid ht
 by_cases hbig:65536<d.size
 ·have hR:sheetS d=([],0,3):=by unfold sheetS St.splitS;rw[if_pos (by omega)]
  have HR:=hid hR;have hb:(65536:Int)<d.size:=by omega
  clear hR ht hlen;go_enter Tryz.func85,Tryz.ntmps85;go_wp2;go_ret3;exact SplitEnd.err HR.out (Und.refl _)
 ·have hb:¬ (65536:Int)<d.size:=by omega
  have h0l:¬ 65536<d.data.toList.length:=by omega
  have H0L:=hid h0l;have HLEN:=hid hlen;have hd:d.size<=65536:=by omega
  clear ht hlen h0l
  have hP0:PV ((w.alloc (.cells #[.string d,.int .i64 0,.slice none 0 0] 161)).alloc (.cells #[.string d,.pointer (some ⟨w.heap.size,0,none⟩),.int .i64 0,.int .i64 0,.int .i64 0,.int .i64 0] 174)) w.heap.size w.heap.size d ([],0):=
   PV.und ⟨Nat.le_refl _,.slice none 0 0,heap_alloc_new w _,World.ownsRow_nil _ _ _ _⟩ ((Und.refl _).alloc _)
  have hT0:TV ((w.alloc (.cells #[.string d,.int .i64 0,.slice none 0 0] 161)).alloc (.cells #[.string d,.pointer (some ⟨w.heap.size,0,none⟩),.int .i64 0,.int .i64 0,.int .i64 0,.int .i64 0] 174)) (w.heap.size+1) w.heap.size d 0 0 0 0:=by
   have:=heap_alloc_new (w.alloc (.cells #[.string d,.int .i64 0,.slice none 0 0] 161)) (.cells #[.string d,.pointer (some ⟨w.heap.size,0,none⟩),.int .i64 0,.int .i64 0,.int .i64 0,.int .i64 0] 174)
   simpa [TV] using this
  have hU0:Und w ((w.alloc (.cells #[.string d,.int .i64 0,.slice none 0 0] 161)).alloc (.cells #[.string d,.pointer (some ⟨w.heap.size,0,none⟩),.int .i64 0,.int .i64 0,.int .i64 0,.int .i64 0] 174)):=(by apply_rules[uUe,uUa,uUb,uUc,uUd]);have HE0:=hid (And.intro hU0 (And.intro hT0 hP0));clear hP0 hT0 hU0;go_enter Tryz.func85,Tryz.ntmps85;go_wp2_with (go_at_call 75;refine(newParts_any d _).mono ?_;rintro e w' ⟨rfl,rfl⟩);go_loopw [3] (fun s3 wr=>SpRel w d s3 wr) (fun s3 wr=>spM d s3 wr (w.heap.size+1))
  case atStart=>exact⟨HE0.out.1,.inl ⟨rfl,HE0.out.2.1,HE0.out.2.2⟩⟩
  case round=>
   obtain⟨hu,hrel⟩:=hrel;clear HE0;have HU:=hid hu;have hsz:=hu.size;clear hu;rcases hrel with ⟨rfl,hT,hP⟩|⟨a,r,cols,col,tx,fuel,s,rfl,ha,hr1,hr2,hc1,hc2,hfu,hs2,hs3,hs4,hT,hP,hS⟩
   ·have hv:=hT
    unfold TV at hv;have c2:wr.cell? ⟨w.heap.size+1,2,none⟩=some (.int .i64 (0:Nat)):=zcH hv 2;have hmeas:spM d (.int .i64 (0:Nat)) wr (w.heap.size+1)=d.size+2:=by unfold spM;rw[if_pos c2]
    haveI:LtW (w.heap.size+1) wr:=LtW.of (lt_of_heap hv);have HN:=hid (next_head wr w.heap.size (w.heap.size+1) w.heap.size d hT hP (by omega) hsz hd);have HM:=hid hmeas;clear hv hT hP hmeas
    by_cases z:0<d.size
    all_goals
     go_wp2_with fail;refine HN.out.mono ?_;rintro e w3 ⟨hbl,hm⟩;have hu3:Und w w3:=Und.of_below (Below.trans HU.out.below hbl);have HU3:=hid hu3;clear hbl hu3 HN c2;cases hh:St.headS d.data.toList (d.data.toList.length+1) 0 0 0 0 with
     | error x=>
      obtain⟨a,er⟩:=x;rw[hh] at hm;simp only at hm;obtain⟨her,rfl⟩:=hm;have hR:=hid (St.split_err (dE:=dE) (dig:=Lib.decDigits) H0L.out hh);have hnb:(er==0)=false:=by simpa using her
      clear her hh;go_wp2;go_ret3;exact SplitEnd.err hR.out HU3.out
     | ok x=>
      obtain⟨en,n,tx,col⟩:=x;rw[hh] at hm;simp only at hm
      split at hm
      ·rename_i ht
       subst hm;have hR:=hid (St.split_none (dE:=dE) (dig:=Lib.decDigits) H0L.out hh ht);clear hh ht;go_wp2;go_ret3;exact SplitEnd.err hR.out HU3.out
      ·rename_i ht
       split at hm
       ·rename_i ht2
        subst hm;have hR:=hid (St.split_many (dE:=dE) (dig:=Lib.decDigits) H0L.out hh ht ht2);clear hh ht ht2;go_wp2;go_ret3;exact SplitEnd.err hR.out HU3.out
       ·rename_i ht2
        obtain⟨rfl,hT3,hP3,hn,hcol,hen⟩:=hm;have hl:=HLEN.out;have hR:=St.split_ok (dE:=dE) (dig:=Lib.decDigits) H0L.out hh ht ht2 (by omega);rw[hl] at hR;have v2:w3.cell? ⟨w.heap.size+1,2,none⟩=some (.int .i64 (0:Nat)):=zcH hT3 2;have f2:w3.frozen? ⟨w.heap.size+1,2,none⟩=false:=zfH hT3 2;haveI:LtW (w.heap.size+1) w3:=LtW.of (lt_of_heap hT3);have hT4:=tab_inc hT3 1 rfl;have hP4:=PV.tab hP3 hT3 (gb_set w3 ⟨w.heap.size+1,2,none⟩ (.int .i64 1));have hu4:Und w (w3.setCell ⟨w.heap.size+1,2,none⟩ (.int .i64 1)):=HU3.out.of_gb (gb_set w3 ⟨w.heap.size+1,2,none⟩ _) (fun g e=>by cases e;exact Nat.le_succ _);have HE:=hid (And.intro hR (And.intro hT4 (And.intro hP4 hu4)));have hmn:((min (en+1) d.size:Nat):Int)=min ((en:Int)+1) (d.size:Int):=by omega
        clear hR hT3 hT4 hP3 hP4 hu4 hh ht ht2 hl;go_wp2;refine⟨⟨HE.out.2.2.2,.inr ⟨min (en+1) d.size,1,n,col,tx,d.size+1,([],0),congrArg (Value.int .i64) (by omega),by omega,by omega,by omega,hn,hcol,by omega,by simp,by simp,by simp,HE.out.2.1,HE.out.2.2.1,HE.out.1⟩⟩,?_⟩;have hsp:=spM_pos (r:=0+1) (d:=d) (s3:=.int .i64 (min ((en:Int)+1) (d.size:Int))) (zcH HE.out.2.1 2) (by omega);rw[hsp,HM.out]
        show d.size+1-(min ((en:Int)+1) (d.size:Int)).toNat<d.size+2
        omega
   ·have hv:=hT
    unfold TV at hv;have c2:wr.cell? ⟨w.heap.size+1,2,none⟩=some (.int .i64 r):=zcH hv 2;have c1:wr.cell? ⟨w.heap.size+1,1,none⟩=some (.pointer (some ⟨w.heap.size,0,none⟩)):=zcH hv 1;have hmeas:spM d (.int .i64 a) wr (w.heap.size+1)=d.size+1-a:=by rw[spM_pos c2 hr1];rfl
    haveI:LtW (w.heap.size+1) wr:=LtW.of (lt_of_heap hv);have HM:=hid hmeas;have r0:((r:Int)==0)=false:=by simp;omega
    by_cases hlt:a<d.size
    ·have HN:=hid (next_rec wr w w.heap.size (w.heap.size+1) w.heap.size d r cols col tx a s hT hP HTB.out rfl HU.out hd hr1 (by omega) hc1 hc2 ha hs2 (hs4 hlt))
     have HS:=hid hS;obtain⟨fuel,rfl⟩:∃ m,fuel=m+1:=⟨fuel-1,by omega⟩;have z:(a:Int)<d.size:=by omega
     have hal:¬ d.data.toList.length<=a:=by rw[HLEN.out];omega
     have HAL:=hid hal;clear hv hT hP hmeas hS hs4 hal;go_wp2_with fail;refine HN.out.mono ?_;rintro e w3 ⟨hbl,hm⟩;have hu3:Und w w3:=Und.of_below (Below.trans HU.out.below hbl);have HU3:=hid hu3;clear hbl hu3 HN c2 c1;cases hh:St.recS dE d.data.toList cols col (Lib.decDigits r) (d.data.toList.length+1) a 0 s with
     | error x=>
      obtain⟨a2,er⟩:=x;rw[hh] at hm;simp only at hm;obtain⟨her,rfl⟩:=hm;have hR:=hid (HS.out.trans (show St.endR d.data.toList (St.recsS dE Lib.decDigits d.data.toList cols col (fuel+1) a r s)=([],a2,er) by rw[St.recs_err HAL.out hh];rfl));have hnb:(er==0)=false:=by simpa using her
      clear her hh;go_wp2;go_ret3;exact SplitEnd.err hR.out HU3.out
     | ok x=>
      obtain⟨en,n,s'⟩:=x;rw[hh] at hm;simp only at hm
      split at hm
      ·rename_i hnc
       subst hm;have hR:=hid (HS.out.trans (show St.endR d.data.toList (St.recsS dE Lib.decDigits d.data.toList cols col (fuel+1) a r s)=([],a,2) by rw[St.recs_few HAL.out hh hnc];rfl));clear hh hnc;go_wp2;go_ret3;exact SplitEnd.err hR.out HU3.out
      ·rename_i hnc
       obtain⟨rfl,hT3,hP3,h5,h6,h7,h8⟩:=hm;have hl:=HLEN.out;have hR:=HS.out;rw[St.recs_ok HAL.out hh hnc (by omega),hl] at hR;have v2:w3.cell? ⟨w.heap.size+1,2,none⟩=some (.int .i64 r):=zcH hT3 2;have f2:w3.frozen? ⟨w.heap.size+1,2,none⟩=false:=zfH hT3 2;haveI:LtW (w.heap.size+1) w3:=LtW.of (lt_of_heap hT3);have hrr:((r:Int)+1)=((r+1:Nat):Int):=by omega
       have hT4:=tab_inc hT3 ((r:Int)+1) hrr;have hP4:=PV.tab hP3 hT3 (gb_set w3 ⟨w.heap.size+1,2,none⟩ (.int .i64 ((r:Int)+1)));have hu4:Und w (w3.setCell ⟨w.heap.size+1,2,none⟩ (.int .i64 ((r:Int)+1))):=HU3.out.of_gb (gb_set w3 ⟨w.heap.size+1,2,none⟩ _) (fun g e=>by cases e;exact Nat.le_succ _);have HE:=hid (And.intro hR (And.intro hT4 (And.intro hP4 hu4)));have hmn:((min (en+1) d.size:Nat):Int)=min ((en:Int)+1) (d.size:Int):=by omega
       clear hR hT3 hT4 hP3 hP4 hu4 hh hnc hl hrr;go_wp2;refine⟨⟨HE.out.2.2.2,.inr ⟨min (en+1) d.size,r+1,cols,col,tx,fuel,s',congrArg (Value.int .i64) (by omega),by omega,by omega,by omega,hc1,hc2,by omega,by omega,by omega,by omega,HE.out.2.1,HE.out.2.2.1,HE.out.1⟩⟩,?_⟩;have hsp:=spM_pos (r:=r+1) (d:=d) (s3:=.int .i64 (min ((en:Int)+1) (d.size:Int))) (zcH HE.out.2.1 2) (by omega);rw[hsp,HM.out]
       show d.size+1-(min ((en:Int)+1) (d.size:Int)).toNat<d.size+1-a
       omega
    ·have hae:a=d.size:=by omega
     have HL:=hid (list_any wr w.heap.size w.heap.size d s hP (by omega) (by omega) (by omega) hsz);have hR:=hid (hS.trans (show St.endR d.data.toList (St.recsS dE Lib.decDigits d.data.toList cols col fuel a r s)=(St.endS d.data.toList s,0,0) by rw[St.recs_end _ _ _ _ (by rw[HLEN.out];omega)];rfl));have z:¬ (a:Int)<d.size:=by omega
     clear hv hT hP hmeas hS hs4;go_wp2_with fail;refine HL.out.mono ?_;rintro e w3 ⟨A,c,rfl,hpa,hq1,hq2,hbl⟩;have HE:=hid (And.intro hpa (Und.of_below (Below.trans HU.out.below hbl)));have hq1':=hid hq1;clear hpa hbl hq1 HL;go_wp2;go_ret3;unfold SplitEnd;rw[hR.out];exact⟨A,c,by simp[St.endS],HE.out.1,by simpa [St.endS] using hq1'.out,hq2,HE.out.2⟩
end
end Go.Proofs.YthoemdibbldndaaGreatDoor.Sh
