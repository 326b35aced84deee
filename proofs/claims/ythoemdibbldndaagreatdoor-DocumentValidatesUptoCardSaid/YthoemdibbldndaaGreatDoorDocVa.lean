/- The law DocumentValidates: walk. Conditions: the library's tables lie at their places. -/
import Derived.Test.YthoemdibbldndaaGreatDoorDocLi
import Derived.Test.YthoemdibbldndaaGreatDoorDocLn
import Derived.Test.YthoemdibbldndaaGreatDoorGM
import Derived.Deep.CutRange
set_option linter.unusedVariables false
set_option linter.unusedSimpArgs false
set_option maxHeartbeats 12800000
set_option maxRecDepth 20000
namespace Go.Proofs.YthoemdibbldndaaGreatDoor
open Go.RowKit
def VD(fmt:Int)(ps:List St.Pt):Int:=if fmt=1∨fmt=2∨fmt=3 then St.validD (SOf fmt) ps else 1
theorem dvalid_bad(fmt:Int)(A:Option Addr)(n c:Nat)(w:World)(h:¬ (fmt=1∨fmt=2∨fmt=3)):Calls Tryz.prog 23 #[.agg #[.int .i64 fmt,.slice A n c]] w fun e w'=>e=.returned (.int .i64 1)/\Und w w':=by
 have HK:=hid (fun W=>dknown_bad fmt W h);clear h;go_enter Tryz.func23,Tryz.ntmps23;go_wp2_with fail;refine(HK.out _).mono ?_;rintro e w2 ⟨rfl,rfl⟩;go_wp2;go_ret;exact⟨rfl,(by apply_rules[uUe,uUa,uUb,uUc,uUd])⟩
theorem rvalid_bad(fmt:Int)(A:Option Addr)(n c:Nat)(w:World)(h:¬ (fmt=1∨fmt=2∨fmt=3)):Calls Tryz.prog 35 #[.agg #[.int .i64 fmt,.slice A n c]] w fun e w'=>e=.returned (.int .i64 1)/\Und w w':=by
 have HK:=hid (fun W=>rformat_bad fmt W h);clear h;go_enter Tryz.func35,Tryz.ntmps35;go_wp2_with fail;refine(HK.out _).mono ?_;rintro e w2 ⟨rfl,rfl⟩;go_wp2;go_ret;exact⟨rfl,(by apply_rules[uUe,uUa,uUb,uUc,uUd])⟩
theorem dvalid_all(fmt:Int)(A:Option Addr)(n c:Nat)(ps:List St.Pt)(w:World)(hL:Mk.LibAt w)(hn:ps.length=n)(hnc:n<=c)(hc63:c<=9223372036854775807)(h:PartsAt w A ps)(hr:(St.rawP ps).length<=1000000000):Calls Tryz.prog 23 #[.agg #[.int .i64 fmt,.slice A n c]] w fun e w'=>e=.returned (.int .i64 (VD fmt ps))/\Und w w':=by
 unfold VD
 split
 ·rename_i hk;exact dvalid_sp A n c ps w (spOf fmt w hk hL hL.1) hn hnc hc63 h (by omega) hr
 ·rename_i hk;exact dvalid_bad fmt A n c w hk
theorem rvalid_all(fmt:Int)(A:Option Addr)(n c:Nat)(ps:List St.Pt)(w:World)(hn:ps.length=n)(hnc:n<=c)(hc63:c<=9223372036854775807)(h:PartsAt w A ps)(hr:(St.rawP ps).length<=1000000000):Calls Tryz.prog 35 #[.agg #[.int .i64 fmt,.slice A n c]] w fun e w'=>e=.returned (.int .i64 (VD fmt ps))/\Und w w':=by
 unfold VD
 split
 ·rename_i hk;exact rvalid_sp A n c ps w (rsOf fmt hk) hn hnc hc63 h (by omega) hr
 ·rename_i hk;exact rvalid_bad fmt A n c w hk
theorem FromS.pos{fmt:Int}{ps:List St.Pt}(h:FromS fmt ps):1<=ps.length:=by
 obtain⟨hk,d,pl,_,hs⟩:=h;rcases hk with rfl|rfl|rfl
 ·have h0:St.splitM Mk.dE Lib.decDigits d=(ps,pl,0):=hs
  have:=(St.splitM_parts (dE:=Mk.dE) (dig:=Lib.decDigits) (fun n=>by unfold Lib.decDigits;split <;> simp) (d:=d) (by rw[h0])).1
  rw[h0] at this;simp only at this;omega
 ·have h0:resT ⟨d.toArray⟩=(ps,pl,0):=hs
  have:=(resT_parts ⟨d.toArray⟩ (by rw[h0])).1
  rw[h0] at this;simp only at this;omega
 ·have h0:Sh.sheetS ⟨d.toArray⟩=(ps,pl,0):=hs
  have:=(Sh.sheetS_parts ⟨d.toArray⟩ (by rw[h0])).1
  rw[h0] at this;simp only at this;omega
def setKey(ps:List St.Pt)(k:Nat)(s:List UInt8):List St.Pt:=ps.modify k fun x=>(x.1,s,x.2.2)
theorem cellsP_setKey(ps:List St.Pt)(k:Nat)(s:List UInt8)(h:k<ps.length):cellsP (setKey ps k s)=(cellsP ps).set (k*3+1) (.string ⟨s.toArray⟩):=by
 induction ps generalizing k with
 | nil=>simp at h
 | cons x ps ih=>
  match k,h with
  | 0,_=>rfl
  | k+1,h=>
   have e:(k+1)*3+1=(k*3+1)+3:=by omega
   rw[e];have:=ih k (by simpa using h)
   show ([Value.bool x.1,.string ⟨x.2.1.toArray⟩,.string ⟨x.2.2.toArray⟩]++cellsP (setKey ps k s))=_
   rw[this];rfl
theorem setKey_len(ps:List St.Pt)(k:Nat)(s:List UInt8):(setKey ps k s).length=ps.length:=by unfold setKey;simp
theorem rawP_key(ps:List St.Pt)(k:Nat)(s:List UInt8):St.rawP (setKey ps k s)=St.rawP ps:=by
 induction ps generalizing k with
 | nil=>simp[setKey]
 | cons x ps ih=>
  match k with
  | 0=>simp[setKey,St.rawP]
  | k+1=>
   show x.2.2++St.rawP (setKey ps k s)=x.2.2++St.rawP ps
   rw[ih k]
theorem clone_key{W:World}{g cap n:Nat}{cur:Array Value}{ps:List St.Pt}{k:Nat}{s:List UInt8}(hn:ps.length=n)(hk:k<n)(hg:W.heap[g]?=some (.cells cur 64))(hs:cur.size=cap*3)(h1:n<=cap)(h2:cap<=9223372036854775807)(h3:cur.toList.take (n*3)=cellsP ps) :
  PartsAt (W.setCell ⟨g,k*3+1,none⟩ (.string ⟨s.toArray⟩)) (some ⟨g,0,none⟩) (setKey ps k s):=by
 have e1:=heap_setCell_same _ _ (k*3+1) _ _ (.string ⟨s.toArray⟩) hg;refine parts_own (B:=g) (n:=n) (c:=cap) ⟨by rw[cellsP_length,setKey_len,hn],.inr ⟨g,cap,_,rfl,Nat.le_refl _,e1,h1,by unfold maxLen;omega,by simpa using hs,?_⟩⟩ (by rw[setKey_len,hn]);rw[cellsP_setKey _ _ _ (by omega),<- h3,Array.toList_setIfInBounds,List.take_set]
def CutX(w:World)(xd:Nat)(fd fm:Int)(A:Option Addr)(n c g pn cap:Nat)(wx:World):Prop:=
 ∃ qs,qs.length=pn/\(St.rawP qs).length<=2000000/\PartsAt wx (some ⟨g,0,none⟩) qs/\wx.heap[xd]?=some (.cells #[.int .i64 fm,.slice (some ⟨g,0,none⟩) pn cap] 25)/\wx.heap[w.heap.size]?=some (.cells #[.int .i64 fd,.slice A n c] 25)/\Und w wx
theorem ix2d(f1 f2:Int)(A1 A2:Option Addr)(n1 c1 n2 c2:Nat)(W:World):(Instr.index 71 (.agg #[.int .i64 f1,.slice A1 n1 c1,.int .i64 f2,.slice A2 n2 c2]) (.int .i64 0)).run Tryz.prog W=.ok (.agg #[.int .i64 f1,.slice A1 n1 c1]) W/\(Instr.index 71 (.agg #[.int .i64 f1,.slice A1 n1 c1,.int .i64 f2,.slice A2 n2 c2]) (.int .i64 1)).run Tryz.prog W=.ok (.agg #[.int .i64 f2,.slice A2 n2 c2]) W:=by
 exact⟨by kernel_rfl,by kernel_rfl⟩
theorem ite_go{c:Prop}[Decidable c]{a b:Prop}(hc:c)(h:a):if c then a else b:=by rw[if_pos hc];exact h
theorem step_callW{P:Program}{o:Oper}{a:Act}{w:World}{K:Act->World->Prop}{Q:Exit->Act->World->Prop}(f:FuncId)(args:Array Value)(Post:Ending->World->Prop)(hc:Calls P f args w Post)
  (hrun:(execOp a.eval o).run P w=.ok (.enter f args) w) (hK:∀ e w',Post e w'->∃ v,e=.returned v/\K (a.put o.dst v) w'):Oper.wp P o a w K Q:=by
 unfold Oper.wp;rw[hrun];refine hc.mono ?_;intro e w' h;obtain⟨v,rfl,hk⟩:=hK e w' h;exact hk
def BzRel(w:World)(m:Nat)(i:Value)(wr:World):Prop:=∃ k:Nat,k<=m/\i=.int .i64 k/\Und w wr
theorem raw_light(ps:List St.Pt):(St.rawP ps).length<=lightN ps/\10*ps.length<=lightN ps:=by
 induction ps with
 | nil=>simp[St.rawP,lightN]
 | cons x ps ih=>
  have e1:St.rawP (x :: ps)=x.2.2++St.rawP ps:=rfl;have e2:lightN (x :: ps)=(10+x.2.1.length+x.2.2.length)+lightN ps:=by simp[lightN]
  rw[e1,e2,List.length_append,List.length_cons];omega
theorem validates_any(fd:Int)(A B:Option Addr)(n c m d:Nat)(ds:List St.Pt)(zs:List Int)(at':Int)(raw:ByteArray)(key:Bool)(w:World)(hL:Mk.LibAt w)(hn:ds.length=n)(hnc:n<=c)(hc63:c<=9223372036854775807)(h:PartsAt w A ds)(hs:lightN ds<=100000000)(hz:zs.length=m)(hm:m<=9223372036854775807)(hI:IntsAt w B zs)(hraw:raw.size<=9223372036854775807) :
  Calls Tryz.prog 12 #[.agg #[.int .i64 fd,.slice A n c],.slice B m d,.int .i64 at',.string raw,.bool key] w fun e w'=>e=.returned (.bool true)/\Und w w':=by
 have HLB:=hid hL;have HKN:=hid (fun W (hW:Und w W)=>known10_any W (HLB.out.und hW));have HP:=hid h;have hli:=fun W (hW:Und w W)=>light_any fd A n c ds W hn (HP.out.und hW) (by omega) (by omega)
 have HMD:=hid (fun W (hW:Und w W)=>made10_any B m d zs W hz hm (hI.und hW));obtain⟨hr1,hr2⟩:=raw_light ds;rw[hn] at hr2;have HN:=hid hn;clear hL h hI hn
 by_cases q0:lightN ds<=1000
 rotate_left 1
 ·rw[decide_eq_false q0] at hli
  have hli:=hid hli;go_enter Tryz.func12,Tryz.ntmps12;go_wp2_with fail;refine(hli.out _ (by apply_rules[uUe,uUa,uUb,uUc,uUd])).mono ?_;rintro e w1 ⟨rfl,hu1⟩;have HU1:=hid (Und.trans ((by apply_rules[uUe,uUa,uUb,uUc,uUd]):Und w (w.alloc (.cells #[.int .i64 fd,.slice A n c] 25))) hu1);clear hu1;go_wp2_with fail;refine(HKN.out _ HU1.out).mono ?_;rintro e w2 ⟨rfl,hu⟩;have HU:=hid (HU1.out.trans hu);clear hu;go_wp2;go_ret;exact⟨rfl,HU.out⟩
 rw[decide_eq_true q0] at hli;have hli:=hid hli
 by_cases q1:200<m
 ·have z1:(200:Int)<(m:Int):=by omega
  go_enter Tryz.func12,Tryz.ntmps12;go_wp2_with fail;refine(hli.out _ (by apply_rules[uUe,uUa,uUb,uUc,uUd])).mono ?_;rintro e w1 ⟨rfl,hu1⟩;have HU1:=hid (Und.trans ((by apply_rules[uUe,uUa,uUb,uUc,uUd]):Und w (w.alloc (.cells #[.int .i64 fd,.slice A n c] 25))) hu1);clear hu1;go_wp2_with fail;refine(HKN.out _ HU1.out).mono ?_;rintro e w2 ⟨rfl,hu⟩;have HU:=hid (HU1.out.trans hu);clear hu;go_wp2;go_ret;exact⟨rfl,HU.out⟩
 have z1:¬ (200:Int)<(m:Int):=by omega
 by_cases q2:60<raw.size
 ·have z2:(60:Int)<(raw.size:Int):=by omega
  go_enter Tryz.func12,Tryz.ntmps12;go_wp2_with fail;refine(hli.out _ (by apply_rules[uUe,uUa,uUb,uUc,uUd])).mono ?_;rintro e w1 ⟨rfl,hu1⟩;have HU1:=hid (Und.trans ((by apply_rules[uUe,uUa,uUb,uUc,uUd]):Und w (w.alloc (.cells #[.int .i64 fd,.slice A n c] 25))) hu1);clear hu1;go_wp2_with fail;refine(HKN.out _ HU1.out).mono ?_;rintro e w2 ⟨rfl,hu⟩;have HU:=hid (HU1.out.trans hu);clear hu;go_wp2;go_ret;exact⟨rfl,HU.out⟩
 have z2:¬ (60:Int)<(raw.size:Int):=by omega
 go_enter Tryz.func12,Tryz.ntmps12;go_wp2_with fail;refine(hli.out _ (by apply_rules[uUe,uUa,uUb,uUc,uUd])).mono ?_;rintro e w1 ⟨rfl,hu1⟩;have hb1:=(hu1.below.block w.heap.size (by simp)).trans (heap_alloc_new w (.cells #[.int .i64 fd,.slice A n c] 25));have HB1:=hid hb1;have HU1:=hid (Und.trans ((by apply_rules[uUe,uUa,uUb,uUc,uUd]):Und w (w.alloc (.cells #[.int .i64 fd,.slice A n c] 25))) hu1);clear hu1 hb1 hli;go_wp2_with fail;refine(HMD.out _ HU1.out).mono ?_;rintro e w2 ⟨fm,A2,c2,ps,rfl,hF,hP2,k1,k2,hu2⟩;have hrl:=hF.raw;have hpl:=hF.len;have hpp:=hF.pos;have hb2:=(hu2.below.block w.heap.size (lt_of_heap HB1.out)).trans HB1.out;have HB2:=hid hb2;have HU2:=hid (HU1.out.trans hu2);have HP2:=hid hP2;clear hu2 hb2 hP2 HMD hF HB1;obtain⟨b,off,rfl,hb,hc⟩:=HP2.out (by omega)
 have hone:∀ u ∈ cellsP ps,u.oneCell'=true:=fun u hu=>by
  unfold cellsP at hu;obtain⟨x,_,hx⟩:=List.mem_flatMap.1 hu;simp only[List.mem_cons,List.not_mem_nil,or_false] at hx;rcases hx with rfl|rfl|rfl <;> rfl
 have hcells:∀ (W:World),Und w2 W->∀ j u,(cellsP ps)[j]?=some u->W.cell? ((⟨b,off,none⟩:Addr).add j)=some u:=fun W hu j u hj=>by
  rw[Addr.add_lit];obtain⟨k,hk,h1⟩:=cellsP_get ps j u hj;obtain⟨c0,c1,c2⟩:=hc k hk;rcases h1 with ⟨rfl,rfl⟩|⟨rfl,rfl⟩|⟨rfl,rfl⟩
  ·exact(hu.cell hb).trans c0
  ·exact(hu.cell hb).trans c1
  ·exact(hu.cell hb).trans c2
 have HO:=hid hone;have HC:=hid hcells;obtain⟨i0,hi,hz0,hz1,hz2⟩:=info_parts info_part;obtain⟨pn,hpn⟩:∃ pn,pn=ps.length:=⟨_,rfl⟩;have HPN:=hid hpn;rw[<- hpn] at hpl hpp k1 ⊢;have hpl2:=hid (fun W=>place_any at' (pn:Int) W (by omega) (by omega));have a1:=Int.emod_nonneg at' (show (pn:Int) ≠ 0 by omega);have b1:=Int.emod_lt_of_pos at' (show (0:Int)<(pn:Int) by omega);generalize at' % (pn:Int)=p1 at hpl2 a1 b1;obtain⟨k,rfl⟩:∃ k:Nat,p1=k:=⟨p1.toNat,by omega⟩;clear hone hcells hc hpn;go_wp2_with (at_builtin;refine wpList_append_own _ rfl _ _ 23 rfl (w2.heap.size+1) 64 i0 (.agg #[.bool false,.string ⟨#[]⟩,.string ⟨#[]⟩]) 3 40 Tryz.underlying23 hi hz0 hz1 hz2 rfl (by decide) _ _ _ rfl (World.ownsRow_nil _ _ _ _) ⟨b,off,none⟩ pn c2 (cellsP ps) rfl ?qc1 ?qc2 ?qc3 ?qc4 ?qc5 ?qc6 ?_)
 case qc1=>rw[cellsP_length,HPN.out]
 case qc2=>exact HC.out _ (by apply_rules[uUe,uUa,uUb,uUc,uUd])
 case qc3=>exact HO.out
 case qc4=>unfold maxLen;omega
 case qc5=>omega
 case qc6=>simp
 intro v' w3 hown hgrow _;have hu3:Und (w2.alloc (.cells #[.int .i64 fm,.slice (some ⟨b,off,none⟩) pn c2] 25)) w3:=(Und.refl _).grown hgrow (fun k hk=>by simp[Value.ownBlock] at hk);obtain⟨g,cap,rfl,hB,hglt,hown⟩:=own_some hown (by omega);have hb3:=(hu3.below.block w2.heap.size (by simp)).trans (heap_alloc_new w2 (.cells #[.int .i64 fm,.slice (some ⟨b,off,none⟩) pn c2] 25));have hw3:=(hu3.below.block w.heap.size (by have:=lt_of_heap HB2.out;simp;omega)).trans ((((Und.refl w2).alloc _).below.block w.heap.size (lt_of_heap HB2.out)).trans HB2.out);have d0:w3.cell? ⟨w2.heap.size,0,none⟩=some (.int .i64 fm):=zcH hb3 0;have d1:w3.cell? ⟨w2.heap.size,1,none⟩=some (.slice (some ⟨b,off,none⟩) pn c2):=zcH hb3 1;have f1:w3.frozen? ⟨w2.heap.size,1,none⟩=false:=zfH hb3 1;haveI:LtW w2.heap.size w3:=LtW.of (lt_of_heap hb3);have HOWN:=hid hown;have HU3:=hid hu3;have HB3:=hid hb3;have HW3:=hid hw3;clear hown hgrow hu3 hb3 hw3;go_wp2_with fail;refine(hpl2.out _).mono ?_;rintro e w4 ⟨rfl,hw4⟩;have hxw:w.heap.size<w2.heap.size:=lt_of_heap HB2.out;have hx4:=hw4 ▸ heap_setCell_same _ _ 1 _ _ (.slice (some ⟨g,0,none⟩) pn cap) HB3.out;have hd4:=hw4 ▸ (heap_setCell_other _ _ _ _ (show w.heap.size ≠ (⟨w2.heap.size,1,none⟩:Addr).block by simp only;omega)).trans HW3.out;have hu4:Und w w4:=hw4 ▸ (HU2.out.trans (Und.trans ((by apply_rules[uUe,uUa,uUb,uUc,uUd]):Und w2 (w2.alloc (.cells #[.int .i64 fm,.slice (some ⟨b,off,none⟩) pn c2] 25))) HU3.out)).setCell (p:=⟨w2.heap.size,1,none⟩) (Nat.le_of_lt hxw) _
 obtain⟨cur,hg4,hcs,hpc,hcap,hct⟩:∃ cur:Array Value,w4.heap[g]?=some (.cells cur 64)/\cur.size=cap*3/\pn<=cap/\cap<=9223372036854775807/\cur.toList.take (pn*3)=cellsP ps:=by
  rcases HOWN.out.2 with ⟨_,e2⟩|⟨g',cap',cur,he,hb,hg,h1,h2,h3,h4⟩
  ·omega
  ·cases he
   exact⟨cur,hw4 ▸ (heap_setCell_other _ _ _ _ (show g ≠ (⟨w2.heap.size,1,none⟩:Addr).block by simp only;omega)).trans hg,h3,h1,by unfold maxLen at h2;omega,h4⟩
 have HX4:=hid hx4;have HD4:=hid hd4;have HU4:=hid hu4;have HG4:=hid hg4;have hgx:g ≠ w2.heap.size:=by omega
 have hgd:g ≠ w.heap.size:=by omega
 have hgw:w.heap.size<=g:=by omega
 generalize w2.heap.size=xd at *;have hkp:k<pn:=by omega
 have hkl:k<ps.length:=by rw[<- HPN.out];exact hkp
 have hbs:∀ j,j<pn*3->∃ v,w4.cell? ⟨g,j,none⟩=some v:=fun j hj=>by
  rw[zcH HG4.out j];exact⟨cur[j]'(by omega),by simp⟩
 obtain⟨v1,e1⟩:=hbs (k*3+1) (by omega);obtain⟨v2,e2⟩:=hbs (k*3+2) (by omega);have k1':w4.frozen? ⟨g,k*3+1,none⟩=false:=zfH HG4.out _;have k2':w4.frozen? ⟨g,k*3+2,none⟩=false:=zfH HG4.out _;have c0:w4.cell? ⟨xd,0,none⟩=some (.int .i64 fm):=by rw[zcH HX4.out];rfl
 have c1:w4.cell? ⟨xd,1,none⟩=some (.slice (some ⟨g,0,none⟩) pn cap):=by rw[zcH HX4.out];rfl
 haveI:LtW xd w4:=LtW.of (lt_of_heap HX4.out);haveI:LtW g w4:=LtW.of (lt_of_heap HG4.out);have y1:(k:Int)<(pn:Int):=by omega
 have y0:(0:Int)<=(k:Int):=by omega
 have hra:(⟨raw.data.toList.toArray⟩:ByteArray)=raw:=ba_eta raw
 have oth:∀ (j:Nat) (v:Value),(w4.setCell ⟨g,j,none⟩ v).heap[xd]?=some (.cells #[.int .i64 fm,.slice (some ⟨g,0,none⟩) pn cap] 25)/\(w4.setCell ⟨g,j,none⟩ v).heap[w.heap.size]?=some (.cells #[.int .i64 fd,.slice A n c] 25)/\Und w (w4.setCell ⟨g,j,none⟩ v):=fun j v=>
  ⟨(heap_setCell_other _ _ _ _ (show xd ≠ (⟨g,j,none⟩:Addr).block by simp only;omega)).trans HX4.out,(heap_setCell_other _ _ _ _ (show w.heap.size ≠ (⟨g,j,none⟩:Addr).block by simp only;omega)).trans HD4.out,HU4.out.setCell (p:=⟨g,j,none⟩) hgw v⟩
 have OTH:=hid oth;have hrw2:raw.data.toList.length<=60:=by rw[St.len_list];omega
 have HK1:=hid (show CutX w xd fd fm A n c g pn cap (w4.setCell ⟨g,k*3+1,none⟩ (.string raw)) from
  ⟨setKey ps k raw.data.toList,by rw[setKey_len];exact HPN.out.symm,by rw[rawP_key];omega,by have:=clone_key (s:=raw.data.toList) HPN.out.symm hkp HG4.out hcs hpc hcap hct;rw[hra] at this;exact this,OTH.out _ _⟩)
 have HK2:=hid (show CutX w xd fd fm A n c g pn cap (w4.setCell ⟨g,k*3+2,none⟩ (.string raw)) from
  ⟨St.setRaw ps k raw.data.toList,by rw[setRaw_len];exact HPN.out.symm,by have:=rawP_set ps k raw.data.toList;omega,by have:=clone_parts (s:=raw.data.toList) HPN.out.symm hkp HG4.out hcs hpc hcap hct;rw[hra] at this;exact this,OTH.out _ _⟩)
 clear hw4 hx4 hd4 hu4 hg4 hct hcs oth d0 d1 f1 HOWN HB3 HW3 HU3 HB2 hbs;go_upto_if 40 with fail;go_cut [] from 40 (fun wx=>CutX w xd fd fm A n c g pn cap wx)
 case first=>
  cases key
  ·go_wp2
   go_meet;exact HK2.out
  ·go_wp2
   go_meet;exact HK1.out
 case rest=>
  obtain⟨qs,hql,hqr,hqp,hqx,hqd,hqu⟩:=hcut;have HQP:=hid hqp;have HQU:=hid hqu;have HQL:=hid hql;have x0:wc.cell? ⟨xd,0,none⟩=some (.int .i64 fm):=by rw[zcH hqx];rfl
  have x1:wc.cell? ⟨xd,1,none⟩=some (.slice (some ⟨g,0,none⟩) pn cap):=by rw[zcH hqx];rfl
  have y0':wc.cell? ⟨w.heap.size,0,none⟩=some (.int .i64 fd):=by rw[zcH hqd];rfl
  have y1':wc.cell? ⟨w.heap.size,1,none⟩=some (.slice A n c):=by rw[zcH hqd];rfl
  haveI:LtW xd wc:=LtW.of (lt_of_heap hqx);haveI:LtW w.heap.size wc:=LtW.of (lt_of_heap hqd);clear hqp hqx hqd hqu HK1 HK2 OTH HX4 HD4 HU4 HG4 e1 e2 k1' k2' c0 c1 hpl2;go_wp2_with fail;go_loopw [56] (fun j wz=>BzRel wc 2 j wz) (fun j _=>3-(intOf j).toNat)
  case atStart=>exact⟨0,by omega,rfl,Und.refl _⟩
  case round=>
   obtain⟨j,hj,rfl,hu⟩:=hrel;have HUZ:=hid hu;clear hu x0 x1 y0' y1';obtain⟨j0,j1⟩:=ix2d fd fm A (some ⟨g,0,none⟩) n c pn cap wr;rcases(show j=2∨j<2 by omega) with h|h
   ·subst h
    go_wp2_with fail;refine(HKN.out _ (HQU.out.trans HUZ.out)).mono ?_;rintro e w5 ⟨rfl,hu5⟩;have HU5:=hid ((HQU.out.trans HUZ.out).trans hu5);clear hu5;go_wp2;go_ret;exact⟨rfl,HU5.out⟩
   ·obtain⟨fq,Aq,nq,cq,q,hix,hq1,hq2,hq3,hq4,hq5,hq6⟩:∃ (fq:Int) (Aq:Option Addr) (nq cq:Nat) (q:List St.Pt),(Instr.index 71 (.agg #[.int .i64 fd,.slice A n c,.int .i64 fm,.slice (some ⟨g,0,none⟩) pn cap]) (.int .i64 (j:Int))).run Tryz.prog wr=.ok (.agg #[.int .i64 fq,.slice Aq nq cq]) wr/\q.length=nq/\nq<=cq/\cq<=9223372036854775807/\PartsAt wr Aq q/\(St.rawP q).length<=1000000000/\nq<=4000000000000:=by
     rcases(show j=0∨j=1 by omega) with rfl|rfl
     ·exact⟨fd,A,n,c,ds,j0,HN.out,hnc,hc63,HP.out.und (HQU.out.trans HUZ.out),by omega,by omega⟩
     ·exact⟨fm,_,pn,cap,qs,j1,HQL.out,hpc,hcap,HQP.out.und HUZ.out,by omega,by omega⟩
    have zj:(j:Int)<2:=by omega
    have HQA:=hid hq4;have HQN:=hid hq1;clear hq1 hq4 j0 j1 h;have HV1:=hid (fun W (hW:Und wr W)=>dvalid_all fq Aq nq cq q W (HLB.out.und ((HQU.out.trans HUZ.out).trans hW)) HQN.out hq2 hq3 (HQA.out.und hW) hq5);have HV2:=hid (fun W (hW:Und wr W)=>rvalid_all fq Aq nq cq q W HQN.out hq2 hq3 (HQA.out.und hW) hq5);have hB1:=fun W (hW:Und wr W)=>dbytes_any fq Aq nq cq q W HQN.out (HQA.out.und hW) (by omega) hq5
    have hB2:=fun W (hW:Und wr W)=>rbytes_any fq Aq nq cq q W HQN.out (HQA.out.und hW) (by omega) hq5
    have HN1:=hid (fun W (hW:Und wr W)=>dunits_any fq Aq nq cq q W HQN.out (HQA.out.und hW) (by omega));have HN2:=hid (fun W (hW:Und wr W)=>runits_any fq Aq nq cq q W HQN.out (HQA.out.und hW) (by omega));generalize (⟨(St.rawP q).toArray⟩:ByteArray)=bz at hB1 hB2;have HB1:=hid hB1;have HB2:=hid hB2;clear hB1 hB2;go_wp2_with fail;refine wp_region_facts (fun a b=>Und a b) (fun _ _=>True) [fun v _=>v=.agg #[.int .i64 fq,.slice Aq nq cq],fun v _=>v=.int .i64 (VD fq q),fun v _=>v=.agg #[.int .i64 fq,.slice Aq nq cq],fun v _=>v=.int .i64 (VD fq q),fun v _=>v=.bool false,fun v _=>v=.bool false,fun v _=>v=.agg #[.int .i64 fq,.slice Aq nq cq],fun v _=>v=.string bz,fun v _=>v=.agg #[.int .i64 fq,.slice Aq nq cq],fun v _=>v=.string bz,fun v _=>v=.bool false,fun v _=>v=.bool false,fun v _=>v=.bool false,fun v _=>v=.agg #[.int .i64 fq,.slice Aq nq cq],fun v W=>∃ A c,v=.slice A (unitsL q).length c/\NatsAt W A (unitsL q)/\(unitsL q).length<=c/\c<=9223372036854775807,fun v _=>v=.agg #[.int .i64 fq,.slice Aq nq cq],fun v W=>∃ A c,v=.slice A (unitsL q).length c/\NatsAt W A (unitsL q)/\(unitsL q).length<=c/\c<=9223372036854775807,fun v _=>v=.bool true,fun v _=>v=.bool false,fun v _=>v=.bool false] Und.refl (fun a b c h k=>h.trans k) (by kernel_rfl) (by rfl) (by kernel_rfl) (by kernel_rfl) ?_ ?_ ?_ ?_ ?_;rotate_left 1
    ·skip
     intro ρ;simp only[putAll,Act.put,zsA,zsB,zsC,Nat.zero_add,Nat.reduceAdd];exact rfl
    ·trivial
    ·skip
     refine ObsF.cons (fun ρ L W hR hI hL hD hO hF K hK=>?_) ?_
     ·skip
      have hUW:=hid (Und.trans ((by apply_rules[uUe,uUa,uUb,uUc,uUd]):Und wr (wr.alloc (.cells #[.int .i64 fq,.slice Aq nq cq] 25))) ((Und.refl _).drew.trans hR));have hbk:=(hR.below.block wr.heap.size (by simp)).trans (heap_alloc_new wr (.cells #[.int .i64 fq,.slice Aq nq cq] 25));clear hF hD hO hI hL hR;simp only[Act.put,zsA,zsB,zsC] at hK ⊢;have d0:W.cell? ⟨wr.heap.size,0,none⟩=some (.int .i64 fq):=by rw[zcH hbk];rfl
      have d1:W.cell? ⟨wr.heap.size,1,none⟩=some (.slice Aq nq cq):=by rw[zcH hbk];rfl
      haveI:LtW wr.heap.size W:=LtW.of (lt_of_heap hbk);go_simp;refine hK _ _ (Und.refl W) trivial (fun W2 h2=>rfl)
     refine ObsF.cons (fun ρ L W hR hI hL hD hO hF K hK=>?_) ?_
     ·skip
      have f0:=allF_get hF (j:=0) (by decide);have hUW:=hid (Und.trans ((by apply_rules[uUe,uUa,uUb,uUc,uUd]):Und wr (wr.alloc (.cells #[.int .i64 fq,.slice Aq nq cq] 25))) ((Und.refl _).drew.trans hR));have hbk:=(hR.below.block wr.heap.size (by simp)).trans (heap_alloc_new wr (.cells #[.int .i64 fq,.slice Aq nq cq] 25));clear hF hD hO hI hL hR;simp only[Act.put,zsA,zsB,zsC] at hK ⊢;have e0:ρ 0=.agg #[.int .i64 fq,.slice Aq nq cq]:=f0;rw[e0] at hK ⊢;refine step_callX (o:=⟨some 60,_,_,_,_,_⟩) rfl 23 #[.agg #[.int .i64 fq,.slice Aq nq cq]] _ (HV1.out _ hUW.out) ?_ ?_
      ·go_simp;done
      rintro e w' ⟨rfl,hu⟩;exact⟨_,rfl,hK _ _ hu trivial (fun W2 h2=>rfl)⟩
     refine ObsF.cons (fun ρ L W hR hI hL hD hO hF K hK=>?_) ?_
     ·skip
      have hUW:=hid (Und.trans ((by apply_rules[uUe,uUa,uUb,uUc,uUd]):Und wr (wr.alloc (.cells #[.int .i64 fq,.slice Aq nq cq] 25))) ((Und.refl _).drew.trans hR));have hbk:=(hR.below.block wr.heap.size (by simp)).trans (heap_alloc_new wr (.cells #[.int .i64 fq,.slice Aq nq cq] 25));clear hF hD hO hI hL hR;simp only[Act.put,zsA,zsB,zsC] at hK ⊢;have d0:W.cell? ⟨wr.heap.size,0,none⟩=some (.int .i64 fq):=by rw[zcH hbk];rfl
      have d1:W.cell? ⟨wr.heap.size,1,none⟩=some (.slice Aq nq cq):=by rw[zcH hbk];rfl
      haveI:LtW wr.heap.size W:=LtW.of (lt_of_heap hbk);go_simp;refine hK _ _ (Und.refl W) trivial (fun W2 h2=>rfl)
     refine ObsF.cons (fun ρ L W hR hI hL hD hO hF K hK=>?_) ?_
     ·skip
      have f2:=allF_get hF (j:=2) (by decide);have hUW:=hid (Und.trans ((by apply_rules[uUe,uUa,uUb,uUc,uUd]):Und wr (wr.alloc (.cells #[.int .i64 fq,.slice Aq nq cq] 25))) ((Und.refl _).drew.trans hR));have hbk:=(hR.below.block wr.heap.size (by simp)).trans (heap_alloc_new wr (.cells #[.int .i64 fq,.slice Aq nq cq] 25));clear hF hD hO hI hL hR;simp only[Act.put,zsA,zsB,zsC] at hK ⊢;have e2:ρ 2=.agg #[.int .i64 fq,.slice Aq nq cq]:=f2;rw[e2] at hK ⊢;refine step_callX (o:=⟨some 62,_,_,_,_,_⟩) rfl 35 #[.agg #[.int .i64 fq,.slice Aq nq cq]] _ (HV2.out _ hUW.out) ?_ ?_
      ·go_simp;done
      rintro e w' ⟨rfl,hu⟩;exact⟨_,rfl,hK _ _ hu trivial (fun W2 h2=>rfl)⟩
     refine ObsF.cons (fun ρ L W hR hI hL hD hO hF K hK=>?_) ?_
     ·skip
      have f1:=allF_get hF (j:=1) (by decide);have f3:=allF_get hF (j:=3) (by decide);clear hF hD hO hI hL hR;simp only[Act.put,zsA,zsB,zsC] at hK ⊢;have e1:ρ 1=.int .i64 (VD fq q):=f1;have e3:ρ 3=.int .i64 (VD fq q):=f3;rw[e1,e3] at hK ⊢;have zz:(VD fq q != VD fq q)=false:=by simp
      go_simp;refine hK _ _ (Und.refl W) trivial (fun W2 h2=>rfl)
     refine ObsF.cons (fun ρ L W hR hI hL hD hO hF K hK=>?_) ?_
     ·skip
      have f4:=allF_get hF (j:=4) (by decide);clear hF hD hO hI hL hR;simp only[Act.put,zsA,zsB,zsC] at hK ⊢;have e4:ρ 4=.bool false:=f4;rw[e4] at hK ⊢;go_simp;refine hK _ _ (Und.refl W) trivial (fun W2 h2=>rfl)
     refine ObsF.cons (fun ρ L W hR hI hL hD hO hF K hK=>?_) ?_
     ·skip
      have f5:=allF_get hF (j:=5) (by decide);have hUW:=hid (Und.trans ((by apply_rules[uUe,uUa,uUb,uUc,uUd]):Und wr (wr.alloc (.cells #[.int .i64 fq,.slice Aq nq cq] 25))) ((Und.refl _).drew.trans hR));have hbk:=(hR.below.block wr.heap.size (by simp)).trans (heap_alloc_new wr (.cells #[.int .i64 fq,.slice Aq nq cq] 25));clear hF hD hO hI hL hR;simp only[Act.put,zsA,zsB,zsC] at hK ⊢;have e5:ρ 5=.bool false:=f5;rw[e5] at hK ⊢;have d0:W.cell? ⟨wr.heap.size,0,none⟩=some (.int .i64 fq):=by rw[zcH hbk];rfl
      have d1:W.cell? ⟨wr.heap.size,1,none⟩=some (.slice Aq nq cq):=by rw[zcH hbk];rfl
      haveI:LtW wr.heap.size W:=LtW.of (lt_of_heap hbk);go_simp;refine hK _ _ (Und.refl W) trivial (fun W2 h2=>rfl)
     refine ObsF.cons (fun ρ L W hR hI hL hD hO hF K hK=>?_) ?_
     ·skip
      have f6:=allF_get hF (j:=6) (by decide);have f5:=allF_get hF (j:=5) (by decide);have hUW:=hid (Und.trans ((by apply_rules[uUe,uUa,uUb,uUc,uUd]):Und wr (wr.alloc (.cells #[.int .i64 fq,.slice Aq nq cq] 25))) ((Und.refl _).drew.trans hR));have hbk:=(hR.below.block wr.heap.size (by simp)).trans (heap_alloc_new wr (.cells #[.int .i64 fq,.slice Aq nq cq] 25));clear hF hD hO hI hL hR;simp only[Act.put,zsA,zsB,zsC] at hK ⊢;have e6:ρ 6=.agg #[.int .i64 fq,.slice Aq nq cq]:=f6;have e5:ρ 5=.bool false:=f5;rw[e6,e5] at hK ⊢;refine ite_go ?_ ?_
      ·first|rfl|kernel_rfl|(go_simp;done)
      refine step_callW 17 #[.agg #[.int .i64 fq,.slice Aq nq cq]] _ (HB1.out _ hUW.out) ?_ ?_
      ·go_simp;done
      rintro e w' ⟨rfl,hu⟩;exact⟨_,rfl,hK _ _ hu trivial (fun W2 h2=>rfl)⟩
     refine ObsF.cons (fun ρ L W hR hI hL hD hO hF K hK=>?_) ?_
     ·skip
      have f5:=allF_get hF (j:=5) (by decide);have hUW:=hid (Und.trans ((by apply_rules[uUe,uUa,uUb,uUc,uUd]):Und wr (wr.alloc (.cells #[.int .i64 fq,.slice Aq nq cq] 25))) ((Und.refl _).drew.trans hR));have hbk:=(hR.below.block wr.heap.size (by simp)).trans (heap_alloc_new wr (.cells #[.int .i64 fq,.slice Aq nq cq] 25));clear hF hD hO hI hL hR;simp only[Act.put,zsA,zsB,zsC] at hK ⊢;have e5:ρ 5=.bool false:=f5;rw[e5] at hK ⊢;have d0:W.cell? ⟨wr.heap.size,0,none⟩=some (.int .i64 fq):=by rw[zcH hbk];rfl
      have d1:W.cell? ⟨wr.heap.size,1,none⟩=some (.slice Aq nq cq):=by rw[zcH hbk];rfl
      haveI:LtW wr.heap.size W:=LtW.of (lt_of_heap hbk);go_simp;refine hK _ _ (Und.refl W) trivial (fun W2 h2=>rfl)
     refine ObsF.cons (fun ρ L W hR hI hL hD hO hF K hK=>?_) ?_
     ·skip
      have f8:=allF_get hF (j:=8) (by decide);have f5:=allF_get hF (j:=5) (by decide);have hUW:=hid (Und.trans ((by apply_rules[uUe,uUa,uUb,uUc,uUd]):Und wr (wr.alloc (.cells #[.int .i64 fq,.slice Aq nq cq] 25))) ((Und.refl _).drew.trans hR));have hbk:=(hR.below.block wr.heap.size (by simp)).trans (heap_alloc_new wr (.cells #[.int .i64 fq,.slice Aq nq cq] 25));clear hF hD hO hI hL hR;simp only[Act.put,zsA,zsB,zsC] at hK ⊢;have e8:ρ 8=.agg #[.int .i64 fq,.slice Aq nq cq]:=f8;have e5:ρ 5=.bool false:=f5;rw[e8,e5] at hK ⊢;refine ite_go ?_ ?_
      ·first|rfl|kernel_rfl|(go_simp;done)
      refine step_callW 19 #[.agg #[.int .i64 fq,.slice Aq nq cq]] _ (HB2.out _ hUW.out) ?_ ?_
      ·go_simp;done
      rintro e w' ⟨rfl,hu⟩;exact⟨_,rfl,hK _ _ hu trivial (fun W2 h2=>rfl)⟩
     refine ObsF.cons (fun ρ L W hR hI hL hD hO hF K hK=>?_) ?_
     ·skip
      have f7:=allF_get hF (j:=7) (by decide);have f9:=allF_get hF (j:=9) (by decide);have f5:=allF_get hF (j:=5) (by decide);clear hF hD hO hI hL hR;simp only[Act.put,zsA,zsB,zsC] at hK ⊢;have e7:ρ 7=.string bz:=f7;have e9:ρ 9=.string bz:=f9;have e5:ρ 5=.bool false:=f5;rw[e7,e9,e5] at hK ⊢;go_simp;refine hK _ _ (Und.refl W) trivial (fun W2 h2=>rfl)
     refine ObsF.cons (fun ρ L W hR hI hL hD hO hF K hK=>?_) ?_
     ·skip
      have f5:=allF_get hF (j:=5) (by decide);have f10:=allF_get hF (j:=10) (by decide);clear hF hD hO hI hL hR;simp only[Act.put,zsA,zsB,zsC] at hK ⊢;have e5:ρ 5=.bool false:=f5;have e10:ρ 10=.bool false:=f10;rw[e5,e10] at hK ⊢;go_simp;refine hK _ _ (Und.refl W) trivial (fun W2 h2=>rfl)
     refine ObsF.cons (fun ρ L W hR hI hL hD hO hF K hK=>?_) ?_
     ·skip
      have f11:=allF_get hF (j:=11) (by decide);clear hF hD hO hI hL hR;simp only[Act.put,zsA,zsB,zsC] at hK ⊢;have e11:ρ 11=.bool false:=f11;rw[e11] at hK ⊢;go_simp;refine hK _ _ (Und.refl W) trivial (fun W2 h2=>rfl)
     refine ObsF.cons (fun ρ L W hR hI hL hD hO hF K hK=>?_) ?_
     ·skip
      have f12:=allF_get hF (j:=12) (by decide);have hUW:=hid (Und.trans ((by apply_rules[uUe,uUa,uUb,uUc,uUd]):Und wr (wr.alloc (.cells #[.int .i64 fq,.slice Aq nq cq] 25))) ((Und.refl _).drew.trans hR));have hbk:=(hR.below.block wr.heap.size (by simp)).trans (heap_alloc_new wr (.cells #[.int .i64 fq,.slice Aq nq cq] 25));clear hF hD hO hI hL hR;simp only[Act.put,zsA,zsB,zsC] at hK ⊢;have e12:ρ 12=.bool false:=f12;rw[e12] at hK ⊢;have d0:W.cell? ⟨wr.heap.size,0,none⟩=some (.int .i64 fq):=by rw[zcH hbk];rfl
      have d1:W.cell? ⟨wr.heap.size,1,none⟩=some (.slice Aq nq cq):=by rw[zcH hbk];rfl
      haveI:LtW wr.heap.size W:=LtW.of (lt_of_heap hbk);go_simp;refine hK _ _ (Und.refl W) trivial (fun W2 h2=>rfl)
     refine ObsF.cons (fun ρ L W hR hI hL hD hO hF K hK=>?_) ?_
     ·skip
      have f13:=allF_get hF (j:=13) (by decide);have f12:=allF_get hF (j:=12) (by decide);have hUW:=hid (Und.trans ((by apply_rules[uUe,uUa,uUb,uUc,uUd]):Und wr (wr.alloc (.cells #[.int .i64 fq,.slice Aq nq cq] 25))) ((Und.refl _).drew.trans hR));have hbk:=(hR.below.block wr.heap.size (by simp)).trans (heap_alloc_new wr (.cells #[.int .i64 fq,.slice Aq nq cq] 25));clear hF hD hO hI hL hR;simp only[Act.put,zsA,zsB,zsC] at hK ⊢;have e13:ρ 13=.agg #[.int .i64 fq,.slice Aq nq cq]:=f13;have e12:ρ 12=.bool false:=f12;rw[e13,e12] at hK ⊢;refine ite_go ?_ ?_
      ·first|rfl|kernel_rfl|(go_simp;done)
      refine step_callW 37 #[.agg #[.int .i64 fq,.slice Aq nq cq]] _ (HN1.out _ hUW.out) ?_ ?_
      ·go_simp;done
      rintro e w' ⟨A7,c7,rfl,h1,h2,h3,hu⟩;exact⟨_,rfl,hK _ _ hu trivial (fun W2 h4=>⟨A7,c7,rfl,h1.und h4,h2,h3⟩)⟩
     refine ObsF.cons (fun ρ L W hR hI hL hD hO hF K hK=>?_) ?_
     ·skip
      have f12:=allF_get hF (j:=12) (by decide);have hUW:=hid (Und.trans ((by apply_rules[uUe,uUa,uUb,uUc,uUd]):Und wr (wr.alloc (.cells #[.int .i64 fq,.slice Aq nq cq] 25))) ((Und.refl _).drew.trans hR));have hbk:=(hR.below.block wr.heap.size (by simp)).trans (heap_alloc_new wr (.cells #[.int .i64 fq,.slice Aq nq cq] 25));clear hF hD hO hI hL hR;simp only[Act.put,zsA,zsB,zsC] at hK ⊢;have e12:ρ 12=.bool false:=f12;rw[e12] at hK ⊢;have d0:W.cell? ⟨wr.heap.size,0,none⟩=some (.int .i64 fq):=by rw[zcH hbk];rfl
      have d1:W.cell? ⟨wr.heap.size,1,none⟩=some (.slice Aq nq cq):=by rw[zcH hbk];rfl
      haveI:LtW wr.heap.size W:=LtW.of (lt_of_heap hbk);go_simp;refine hK _ _ (Und.refl W) trivial (fun W2 h2=>rfl)
     refine ObsF.cons (fun ρ L W hR hI hL hD hO hF K hK=>?_) ?_
     ·skip
      have f15:=allF_get hF (j:=15) (by decide);have f12:=allF_get hF (j:=12) (by decide);have hUW:=hid (Und.trans ((by apply_rules[uUe,uUa,uUb,uUc,uUd]):Und wr (wr.alloc (.cells #[.int .i64 fq,.slice Aq nq cq] 25))) ((Und.refl _).drew.trans hR));have hbk:=(hR.below.block wr.heap.size (by simp)).trans (heap_alloc_new wr (.cells #[.int .i64 fq,.slice Aq nq cq] 25));clear hF hD hO hI hL hR;simp only[Act.put,zsA,zsB,zsC] at hK ⊢;have e15:ρ 15=.agg #[.int .i64 fq,.slice Aq nq cq]:=f15;have e12:ρ 12=.bool false:=f12;rw[e15,e12] at hK ⊢;refine ite_go ?_ ?_
      ·first|rfl|kernel_rfl|(go_simp;done)
      refine step_callW 38 #[.agg #[.int .i64 fq,.slice Aq nq cq]] _ (HN2.out _ hUW.out) ?_ ?_
      ·go_simp;done
      rintro e w' ⟨A7,c7,rfl,h1,h2,h3,hu⟩;exact⟨_,rfl,hK _ _ hu trivial (fun W2 h4=>⟨A7,c7,rfl,h1.und h4,h2,h3⟩)⟩
     refine ObsF.cons (fun ρ L W hR hI hL hD hO hF K hK=>?_) ?_
     ·skip
      have f14:=allF_get hF (j:=14) (by decide);have f16:=allF_get hF (j:=16) (by decide);have f12:=allF_get hF (j:=12) (by decide);have hUW:=hid (Und.trans ((by apply_rules[uUe,uUa,uUb,uUc,uUd]):Und wr (wr.alloc (.cells #[.int .i64 fq,.slice Aq nq cq] 25))) ((Und.refl _).drew.trans hR));have hbk:=(hR.below.block wr.heap.size (by simp)).trans (heap_alloc_new wr (.cells #[.int .i64 fq,.slice Aq nq cq] 25));clear hF hD hO hI hL hR;simp only[Act.put,zsA,zsB,zsC] at hK ⊢;have e12:ρ 12=.bool false:=f12;rw[e12] at hK ⊢;obtain⟨A7,c7,e14,n1,n2,n3⟩:=f14;obtain⟨A8,c8,e16,m1,m2,m3⟩:=f16;rw[e14,e16] at hK ⊢;have hsi:=sameInts_any A7 A8 (unitsL q).length (unitsL q).length c7 c8 (unitsL q) (unitsL q) W rfl rfl n2 m2 n3 m3 n1 m1;rw[decide_eq_true rfl] at hsi;refine ite_go ?_ ?_
      ·first|rfl|kernel_rfl|(go_simp;done)
      refine step_callW 36 #[.slice A7 (unitsL q).length c7,.slice A8 (unitsL q).length c8] _ (hsi) ?_ ?_
      ·go_simp;done
      rintro e w' ⟨rfl,hu⟩;exact⟨_,rfl,hK _ _ hu trivial (fun W2 h2=>rfl)⟩
     refine ObsF.cons (fun ρ L W hR hI hL hD hO hF K hK=>?_) ?_
     ·skip
      have f17:=allF_get hF (j:=17) (by decide);have f12:=allF_get hF (j:=12) (by decide);clear hF hD hO hI hL hR;simp only[Act.put,zsA,zsB,zsC] at hK ⊢;have e17:ρ 17=.bool true:=f17;have e12:ρ 12=.bool false:=f12;rw[e17,e12] at hK ⊢;go_simp;refine hK _ _ (Und.refl W) trivial (fun W2 h2=>rfl)
     refine ObsF.cons (fun ρ L W hR hI hL hD hO hF K hK=>?_) ?_
     ·skip
      have f12:=allF_get hF (j:=12) (by decide);have f18:=allF_get hF (j:=18) (by decide);clear hF hD hO hI hL hR;simp only[Act.put,zsA,zsB,zsC] at hK ⊢;have e12:ρ 12=.bool false:=f12;have e18:ρ 18=.bool false:=f18;rw[e12,e18] at hK ⊢;go_simp;refine hK _ _ (Und.refl W) trivial (fun W2 h2=>rfl)
     exact ObsF.nil
    ·skip
     intro ρ L W hR hI hL hF;obtain⟨_,_,_,_,_,_,_,_,_,_,_,_,_,_,_,_,_,_,_,e19,_⟩:=hF;have e19:ρ 19=.bool false:=e19;have HUZ2:=hid (HUZ.out.trans (Und.trans ((by apply_rules[uUe,uUa,uUb,uUc,uUd]):Und wr (wr.alloc (.cells #[.int .i64 fq,.slice Aq nq cq] 25))) ((Und.refl _).drew.trans hR)));clear hR hI hL;rw[e19];clear e19;go_wp2;exact⟨⟨j+1,by omega,congrArg (Value.int .i64) (by omega),HUZ2.out⟩,by simp[intOf];omega⟩
end Go.Proofs.YthoemdibbldndaaGreatDoor
