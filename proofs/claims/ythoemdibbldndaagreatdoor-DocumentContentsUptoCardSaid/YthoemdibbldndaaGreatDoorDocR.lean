/- The reference's Parse, Bytes, Same and Validate of documents, over its splitting. -/
import Derived.Test.YthoemdibbldndaaGreatDoorDcB
set_option linter.unusedVariables false
set_option linter.unusedSimpArgs false
set_option maxHeartbeats 12800000
set_option maxRecDepth 20000
namespace Go.Proofs.YthoemdibbldndaaGreatDoor
open Go.RowKit
variable {fmt:Int} {S:List UInt8->List St.Pt × Nat × Int}
structure RsAt (fmt:Int) (S:List UInt8->List St.Pt × Nat × Int):Prop where
 kn:fmt=1∨fmt=2∨fmt=3
 spl:∀ (d:ByteArray) (w:World),d.size<=1000000000->Calls Tryz.prog 60 #[.int .i64 fmt,.string d] w fun e w'=>∃ A c,e=.returned (.tuple #[.slice A (S d.data.toList).1.length c,.int .i64 ((S d.data.toList).2.1:Int),.int .i64 (S d.data.toList).2.2])/\PartsAt w' A (S d.data.toList).1/\(S d.data.toList).1.length<=c/\c<=9223372036854775807/\Und w w'
theorem rformat_any(fmt:Int)(w:World)(h:fmt=1∨fmt=2∨fmt=3):Calls Tryz.prog 59 #[.int .i64 fmt] w fun e w'=>e=.returned (.bool true)/\w=w':=by
 rcases h with rfl|rfl|rfl
 all_goals
  go_enter Tryz.func59,Tryz.ntmps59;go_wp2;go_ret;exact⟨rfl,rfl⟩
theorem rformat_bad(fmt:Int)(w:World)(h:¬ (fmt=1∨fmt=2∨fmt=3)):Calls Tryz.prog 59 #[.int .i64 fmt] w fun e w'=>e=.returned (.bool false)/\w=w':=by
 have z1:(fmt==1)=false:=by simp;omega
 have z2:(fmt==2)=false:=by simp;omega
 have z3:(fmt==3)=false:=by simp;omega
 go_enter Tryz.func59,Tryz.ntmps59;go_wp2;go_ret;exact⟨rfl,rfl⟩
theorem dknown_bad(fmt:Int)(w:World)(h:¬ (fmt=1∨fmt=2∨fmt=3)):Calls Tryz.prog 45 #[.int .i64 fmt] w fun e w'=>e=.returned (.bool false)/\w=w':=by
 have z1:(fmt==1)=false:=by simp;omega
 have z2:(fmt==2)=false:=by simp;omega
 have z3:(fmt==3)=false:=by simp;omega
 go_enter Tryz.func45,Tryz.ntmps45;go_wp2;go_ret;exact⟨rfl,rfl⟩
theorem rparse_sp(d:ByteArray)(w:World)(hF:RsAt fmt S)(hd:d.size<=1000000000):Calls Tryz.prog 21 #[.int .i64 fmt,.string d] w (ParseEnd fmt (S d.data.toList) w):=by
 have HK:=hid (fun W=>rformat_any fmt W hF.kn);have HS:=hid (fun W=>hF.spl d W hd);generalize S d.data.toList=R at HS ⊢;obtain⟨ps,pl,er⟩:=R;clear hF;go_enter Tryz.func21,Tryz.ntmps21;go_wp2_with fail;refine(HK.out _).mono ?_;rintro e w2 ⟨rfl,rfl⟩;go_wp2_with fail;refine(HS.out _).mono ?_;rintro e w3 ⟨A,c,rfl,hP,h1,h2,hu⟩;have hu':Und w w3:=Und.trans ((by apply_rules[uUe,uUa,uUb,uUc,uUd])) hu;have hb3:=(hu.below.block w.heap.size (by simp)).trans (heap_alloc_new w (.cells #[.int .i64 0,.slice none 0 0] 25));have d0:w3.cell? ⟨w.heap.size,0,none⟩=some (.int .i64 0):=zcH hb3 0;have d1:w3.cell? ⟨w.heap.size,1,none⟩=some (.slice none 0 0):=zcH hb3 1;have f0:w3.frozen? ⟨w.heap.size,0,none⟩=false:=zfH hb3 0;have f1:w3.frozen? ⟨w.heap.size,1,none⟩=false:=zfH hb3 1;haveI:LtW w.heap.size w3:=LtW.of (lt_of_heap hb3);have hset:∀ u v,Und w ((w3.setCell ⟨w.heap.size,0,none⟩ u).setCell ⟨w.heap.size,1,none⟩ v):=fun u v=>Und.mk ((hu'.below.setCell (p:=⟨w.heap.size,0,none⟩) (Nat.le_refl _) u).setCell (p:=⟨w.heap.size,1,none⟩) (Nat.le_refl _) v)
 have HSET:=hid hset;have HPS:=hid (fun u v=>parts_set hP hb3 u v);simp only at h1 ⊢;clear hu hu' hb3 hset hP
 by_cases he:er=0
 ·subst he
  go_wp2;refine bodyPost_ret (v:=.tuple #[.agg #[.int .i64 fmt,.slice A ps.length c],.int .i64 0,.int .i64 0]) ?_ rfl ?_
  ·simp[results,Tryz.results21,go_sem,d0,d1]
  ·exact⟨HSET.out _ _,.inl ⟨rfl,A,c,rfl,HPS.out _ _,h1,h2⟩⟩
 ·have z1:(er==0)=false:=by simpa using he
  have z2:(er != 0)=true:=by simpa using he
  have HE:=hid he;clear he;go_wp2;refine bodyPost_ret (v:=.tuple #[.agg #[.int .i64 0,.slice none 0 0],.int .i64 pl,.int .i64 er]) ?_ rfl ?_
  ·simp[results,Tryz.results21,go_sem,d0,d1]
  ·exact⟨HSET.out _ _,.inr ⟨HE.out,rfl⟩⟩
end Go.Proofs.YthoemdibbldndaaGreatDoor
