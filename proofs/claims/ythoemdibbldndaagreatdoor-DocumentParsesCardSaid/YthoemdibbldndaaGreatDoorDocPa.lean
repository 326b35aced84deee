/- The law DocumentParses: walk. Condition: the library's tables lie at their. -/
import Derived.Test.YthoemdibbldndaaGreatDoorGM
import Derived.Lib.ConvBytes
import Derived.Deep.Cut
set_option linter.unusedVariables false
set_option linter.unusedSimpArgs false
set_option maxHeartbeats 12800000
set_option maxRecDepth 20000
namespace Go.Proofs.YthoemdibbldndaaGreatDoor
open Go.RowKit
def BzRel(w:World)(m:Nat)(i:Value)(wr:World):Prop:=∃ k:Nat,k<=m/\i=.int .i64 k/\Und w wr
theorem frozen_past(w:World)(s:ByteArray)(j:Nat)(hj:j<s.size):(Lib.bytesWorld w 5 s).frozen? ⟨w.heap.size,j,none⟩=false:=by
 have h:=Lib.bytesWorld_at_new w 5 s;have hs:s.size<=(Lib.bytesCells w 5 s).size:=by unfold Lib.bytesCells;simp
 unfold World.frozen?;simp only[h];simp;omega
theorem ix4(a:Int)(W:World):(Instr.index 44 (.agg #[.int .i64 a,.int .i64 1,.int .i64 2,.int .i64 3]) (.int .i64 0)).run Tryz.prog W=.ok (.int .i64 a) W/\(Instr.index 44 (.agg #[.int .i64 a,.int .i64 1,.int .i64 2,.int .i64 3]) (.int .i64 1)).run Tryz.prog W=.ok (.int .i64 1) W/\(Instr.index 44 (.agg #[.int .i64 a,.int .i64 1,.int .i64 2,.int .i64 3]) (.int .i64 2)).run Tryz.prog W=.ok (.int .i64 2) W/\(Instr.index 44 (.agg #[.int .i64 a,.int .i64 1,.int .i64 2,.int .i64 3]) (.int .i64 3)).run Tryz.prog W=.ok (.int .i64 3) W:=by
 exact⟨by kernel_rfl,by kernel_rfl,by kernel_rfl,by kernel_rfl⟩
theorem ix2(a b:ByteArray)(W:World):(Instr.index 45 (.agg #[.string a,.string b]) (.int .i64 0)).run Tryz.prog W=.ok (.string a) W/\(Instr.index 45 (.agg #[.string a,.string b]) (.int .i64 1)).run Tryz.prog W=.ok (.string b) W:=by
 exact⟨by kernel_rfl,by kernel_rfl⟩
def CutPa(w:World)(b m cap:Nat)(wx:World):Prop:=∃ u:ByteArray,u.size=m/\Und w wx/\∀ V,Und wx V->(convert 22 9 (.slice (some ⟨b,0,none⟩) m cap)).run Tryz.prog V=.ok (.string u) V
theorem parses_any(fmt:Int)(s:ByteArray)(A:Option Addr)(n c:Nat)(zs:List Int)(at' by':Int)(w:World)(hL:Mk.LibAt w)(hs:s.size<=9223372036854775807)(hz:zs.length=n)(hn:n<=9223372036854775807)(hI:IntsAt w A zs) :
  Calls Tryz.prog 4 #[.int .i64 fmt,.string s,.slice A n c,.int .i64 at',.int .u8 by'] w fun e w'=>e=.returned (.bool true)/\Und w w':=by
 have HLB:=hid hL;have HKN:=hid (fun W (hW:Und w W)=>known10_any W (HLB.out.und hW));have HDP:=hid (fun (F:Int) (x:ByteArray) (W:World) (hW:Und w W) (hx:x.size<=1000000000)=>dparse_all F x W (HLB.out.und hW) hx);have HMD:=hid (made10_any A n c zs w hz hn hI);clear hI hL
 by_cases q0:300<s.size
 ·have z0:(300:Int)<(s.size:Int):=by omega
  go_enter Tryz.func4,Tryz.ntmps4;go_wp2_with fail;refine(HKN.out _ (Und.refl _)).mono ?_;rintro e w2 ⟨rfl,hu⟩;have HU:=hid hu;clear hu;go_wp2;go_ret;exact⟨rfl,HU.out⟩
 have z0:¬ (300:Int)<(s.size:Int):=by omega
 by_cases q1:200<n
 ·have z1:(200:Int)<(n:Int):=by omega
  go_enter Tryz.func4,Tryz.ntmps4;go_wp2_with fail;refine(HKN.out _ (Und.refl _)).mono ?_;rintro e w2 ⟨rfl,hu⟩;have HU:=hid hu;clear hu;go_wp2;go_ret;exact⟨rfl,HU.out⟩
 have z1:¬ (200:Int)<(n:Int):=by omega
 go_enter Tryz.func4,Tryz.ntmps4;go_wp2_with fail;refine HMD.out.mono ?_;rintro e w2 ⟨fm,A2,c2,ps,rfl,hF,hP,h1,h2,hu⟩;have hrl:=hF.raw;have hby:=hid (rbytes_any fm A2 ps.length c2 ps w2 rfl hP (by omega) (by omega));have HU:=hid hu;have hdz:(⟨(St.rawP ps).toArray⟩:ByteArray).size<=1000000:=by show (St.rawP ps).toArray.size<=_;simpa using hrl
 generalize (⟨(St.rawP ps).toArray⟩:ByteArray)=d at hby hdz;clear hu HMD hF hP hrl;go_wp2_with fail;refine hby.out.mono ?_;rintro e w3 ⟨rfl,hu3⟩;have HU3:=hid (HU.out.trans hu3);clear hu3 HU hby h1 h2;have hb:Below w3.heap.size w3 (Lib.bytesWorld w3 5 d):=⟨rfl,rfl,rfl,by rw[Lib.bytesWorld_size];omega,fun k hk=>Lib.bytesWorld_at_old w3 _ _ k hk⟩;have hcv:=Lib.run_convert_string_bytes w3 9 22 5 d Tryz.underlying9 Tryz.underlying22 Tryz.underlying5;have hcell:=fun j hj=>Lib.bytesWorld_cell w3 5 d j hj
 have hfr:=fun j hj=>frozen_past w3 d j hj
 have hsz:=Lib.bytesWorld_size w3 5 d;have hcb:=grownCap_ge w3 d.size 0 5;have hcm:=grownCap_le_maxLen w3 d.size 0 5 (by unfold maxLen;omega);generalize Lib.bytesWorld w3 5 d=w4 at hb hcv hcell hfr hsz;generalize grownCap w3 d.size 0 5=cap at hcv hcb hcm;have HU4:=hid (HU3.out.trans (Und.mk hb));have HW3:=hid (show w.heap.size<=w3.heap.size from HU3.out.size);have HC:=hid hcell;have HFR:=hid hfr;have hlt4:w3.heap.size<w4.heap.size:=by omega
 haveI:LtW w3.heap.size w4:=LtW.of hlt4;clear hb hcell hfr hsz
 have back:∀ (W:World) (xs:List Int),xs.length=d.size->(∀ i,i<d.size->W.cell? ⟨w3.heap.size,i,none⟩=some (.int .u8 (xs.getD i 0)))->∃ u:ByteArray,u.size=d.size/\∀ V,Und W V->(convert 22 9 (.slice (some ⟨w3.heap.size,0,none⟩) d.size cap)).run Tryz.prog V=.ok (.string u) V:=by
  intro W xs hl hc;refine⟨strOfNums xs,by rw[strOfNums_size,hl],fun V hV=>?_⟩;exact run_convert_bytes_arg V 22 5 Tryz.underlying22 Tryz.underlying5 w3.heap.size 0 d.size cap xs hl (fun i hi=>by rw[Nat.zero_add];exact(hV.cell (p:=⟨w3.heap.size,i,none⟩) (zbL _ _ (hc i hi))).trans (hc i hi)) _ Tryz.underlying9
 have BACK:=hid back;clear back;go_upto_if 37 with fail;go_cut [] from 37 (fun wx=>CutPa w w3.heap.size d.size cap wx)
 case first=>
  by_cases h0:0<d.size
  ·have z:(0:Int)<d.size:=by omega
   have hpl:=hid (place_any at' d.size w4 (by omega) (by omega));have a1:=Int.emod_nonneg at' (show (d.size:Int) ≠ 0 by omega);have b1:=Int.emod_lt_of_pos at' z;generalize at' % (d.size:Int)=p1 at hpl a1 b1;obtain⟨p,rfl⟩:∃ k:Nat,p1=k:=⟨p1.toNat,by omega⟩;have hp:p<d.size:=by omega
   have g0:=HC.out p hp;have f0:=HFR.out p hp
   obtain⟨u,hus,hbk⟩:=BACK.out (w4.setCell ⟨w3.heap.size,p,none⟩ (.int .u8 by')) (((List.range d.size).map fun j=>if j=p then by' else ((d.data.toList.getD j 0).toNat:Int))) (by simp) (fun i hi=>by
    rw[show (((List.range d.size).map fun j=>if j=p then by' else ((d.data.toList.getD j 0).toNat:Int))).getD i 0=if i=p then by' else ((d.data.toList.getD i 0).toNat:Int) by simp[List.getD,hi]]
    by_cases hip:i=p
    ·subst hip;rw[if_pos rfl];go_simp
    ·rw[if_neg hip]
     have:=HC.out i hi
     rw[<- this]
     exact World.cell?_setCell_other w4 ⟨w3.heap.size,p,none⟩ ⟨w3.heap.size,i,none⟩ _ (fun (e:(⟨w3.heap.size,p,none⟩:Addr)=⟨w3.heap.size,i,none⟩)=>hip (by injection e with _ h;exact h.symm)))
   have HE:=hid (show CutPa w w3.heap.size d.size cap (w4.setCell ⟨w3.heap.size,p,none⟩ (.int .u8 by')) from⟨u,hus,HU4.out.setCell (p:=⟨w3.heap.size,p,none⟩) HW3.out _,hbk⟩);clear h0 hbk BACK;go_wp2_with fail;refine hpl.out.mono ?_;rintro e w' ⟨rfl,rfl⟩;go_wp2_with fail;go_meet;exact HE.out
  ·have z:¬ (0:Int)<d.size:=by omega
   have h00:d.size=0:=by omega
   obtain⟨u,hus,hbk⟩:=BACK.out w4 [] (by simp[h00]) (fun i hi=>by omega);have HE:=hid (show CutPa w w3.heap.size d.size cap w4 from⟨u,hus,HU4.out,hbk⟩);clear h0 h00 hbk BACK;go_wp2_with fail;go_meet;exact HE.out
 case rest=>
  obtain⟨u,hus,huc,hbk⟩:=hcut;have HBK:=hid hbk;have HUC:=hid huc;clear hcv HC HFR HU4 BACK hbk huc;go_wp2_with fail;go_loopw [47] (fun i wr=>BzRel wc 4 i wr) (fun i _=>5-(intOf i).toNat)
  case atStart=>exact⟨0,by omega,rfl,Und.refl _⟩
  case round=>
   obtain⟨k,hk,rfl,hu⟩:=hrel;have HU:=hid hu;have hcv:=HBK.out _ hu;clear hu;rcases(show k=4∨(k=0∨k=1∨k=2∨k=3) by omega) with h|h
   ·subst h
    go_wp2_with fail;refine(HKN.out _ (HUC.out.trans HU.out)).mono ?_;rintro e w5 ⟨rfl,hu5⟩;have HU5:=hid ((HUC.out.trans HU.out).trans hu5);clear hu5;go_wp2;go_ret;exact⟨rfl,HU5.out⟩
   ·rcases h with h|h|h|h
    all_goals
     subst h;obtain⟨wo,rfl⟩:∃ wo:World,wo=wr:=⟨_,rfl⟩;obtain⟨i0,i1,i2,i3⟩:=ix4 fmt wo;go_wp2_with fail;go_loopw [54] (fun j wz=>BzRel wo 2 j wz) (fun j _=>3-(intOf j).toNat)
     case atStart=>exact⟨0,by omega,rfl,Und.refl _⟩
     case round=>
      obtain⟨j,hj,rfl,hu⟩:=hrel;have HUZ:=hid hu;clear hu;obtain⟨j0,j1⟩:=ix2 s u wr;rcases(show j=2∨(j=0∨j=1) by omega) with h|h
      ·subst h
       go_wp2;have HE:=HU.out.trans HUZ.out
       first|exact⟨⟨1,by omega,rfl,HE⟩,by simp[intOf]⟩|exact⟨⟨2,by omega,rfl,HE⟩,by simp[intOf]⟩|exact⟨⟨3,by omega,rfl,HE⟩,by simp[intOf]⟩|exact⟨⟨4,by omega,rfl,HE⟩,by simp[intOf]⟩
      ·rcases h with h|h
       all_goals
        subst h;go_wp2_with fail;refine(HDP.out _ _ _ ((HUC.out.trans HU.out).trans HUZ.out) (by omega)).mono ?_;generalize hR:PR _ _=R;have HR:=hid hR;clear hR;obtain⟨⟨f1,qs⟩,a1,er⟩:=R;rintro e w6 ⟨A6,c6,rfl,hP6,g1,g2,hu6⟩;have HP6:=hid hP6;have HU6:=hid (HUZ.out.trans hu6);clear hP6 hu6;go_wp2_with fail;refine(rparse_all _ _ _ (by omega)).mono ?_;rw[HR.out];rintro e w7 ⟨A7,c7,rfl,hP7,k1,k2,hu7⟩;have HP7:=hid hP7;have HU7:=hid (HU6.out.trans (Und.trans (by repeat first|exact .refl _|assumption|apply uUa|apply uUb|apply uUc|apply uUd) hu7));have HP6:=hid (HP6.out.und (Und.trans (by repeat first|exact .refl _|assumption|apply uUa|apply uUb|apply uUc|apply uUd) hu7));have hsm:=hid (fun W (hW:Und w7 W)=>rdsame_any f1 f1 A6 A7 qs.length qs.length c6 c7 qs qs W rfl rfl g1 k1 g2 k2 (HP6.out.und hW) (HP7.out.und hW));rw[show decide (f1=f1/\qs=qs)=true by simp] at hsm;have hb7:=(hu7.below.block w6.heap.size (by simp)).trans (heap_alloc_new w6 (.cells #[.int .i64 f1,.slice A6 qs.length c6] 25));have d0:w7.cell? ⟨w6.heap.size,0,none⟩=some (.int .i64 f1):=zcH hb7 0;have d1:w7.cell? ⟨w6.heap.size,1,none⟩=some (.slice A6 qs.length c6):=zcH hb7 1;haveI:LtW w6.heap.size w7:=LtW.of (lt_of_heap hb7);have za:(a1 != a1)=false:=by simp
        have zb:(er != er)=false:=by simp
        clear hP7 hu7 HR HP7 hb7;go_wp2_with fail;refine(hsm.out _ (by repeat first|exact .refl _|assumption|apply uUa|apply uUb|apply uUc|apply uUd)).mono ?_;rintro e w8 ⟨rfl,hu8⟩;have HU8:=hid (HU7.out.trans (Und.trans (by repeat first|exact .refl _|assumption|apply uUa|apply uUb|apply uUc|apply uUd) hu8));clear hu8;go_wp2;refine⟨?_,?_⟩
        ·(repeat apply Exists.intro)
         first|exact⟨⟨1,by omega,rfl,HU8.out⟩,rfl⟩|exact⟨⟨2,by omega,rfl,HU8.out⟩,rfl⟩
        ·simp[intOf]
end Go.Proofs.YthoemdibbldndaaGreatDoor
