/- The reference's Validate of documents. Conditions: the document lies in memory and is no. -/
import Derived.Test.YthoemdibbldndaaGreatDoorDocR
set_option linter.unusedVariables false
set_option linter.unusedSimpArgs false
set_option maxHeartbeats 12800000
set_option maxRecDepth 20000
namespace Go.Proofs.YthoemdibbldndaaGreatDoor
open Go.RowKit
variable {fmt:Int} {S:List UInt8->List St.Pt × Nat × Int}
theorem rvalid_sp(A:Option Addr)(n c:Nat)(ps:List St.Pt)(w:World)(hF:RsAt fmt S)(hn:ps.length=n)(hnc:n<=c)(hc63:c<=9223372036854775807)(h:PartsAt w A ps)(hl:n<=9223372036854775807)(hr:(St.rawP ps).length<=1000000000) :
  Calls Tryz.prog 35 #[.agg #[.int .i64 fmt,.slice A n c]] w fun e w'=>e=.returned (.int .i64 (St.validD S ps))/\Und w w':=by
 have HK:=hid (fun W=>rformat_any fmt W hF.kn);have HB:=hid (fun W (hW:Und w W)=>rbytes_any fmt A n c ps W hn (h.und hW) hl hr);have HP:=hid (fun W (hW:Und w W)=>rparse_sp ⟨(St.rawP ps).toArray⟩ W hF (by show (St.rawP ps).toArray.size<=_;simpa using hr));have H:=hid h;have HN:=hid hn;have hv:St.validD S ps=if (S (St.rawP ps)).2.2=0/\(S (St.rawP ps)).1=ps then 0 else 11:=rfl
 have hraw:(⟨(St.rawP ps).toArray⟩:ByteArray).data.toList=St.rawP ps:=by simp
 rw[hraw] at HP;generalize (⟨(St.rawP ps).toArray⟩:ByteArray)=rw' at HB HP;generalize S (St.rawP ps)=R at hv HP;obtain⟨qs,pl,er⟩:=R;simp only at hv;have HV:=hid hv;clear hF h hn hr hv hraw
 by_cases he:er=0
 ·subst he
  have hpe:Hid (∀ (W:World),Und w W->Calls Tryz.prog 21 #[.int .i64 fmt,.string rw'] W fun e w'=>∃ A' c',e=.returned (.tuple #[.agg #[.int .i64 fmt,.slice A' qs.length c'],.int .i64 0,.int .i64 0])/\PartsAt w' A' qs/\qs.length<=c'/\c'<=9223372036854775807/\Und W w'):=hid fun W hW=>(HP.out W hW).mono fun e w' ⟨hu,h⟩=>by
   rcases h with ⟨_,A',c',h1,h2,h3,h4⟩|⟨h0,_⟩
   ·exact⟨A',c',h1,h2,h3,h4,hu⟩
   ·exact absurd rfl h0
  clear HP;go_enter Tryz.func35,Tryz.ntmps35;go_wp2_with fail;refine(HK.out _).mono ?_;rintro e w2 ⟨rfl,rfl⟩;go_wp2_with fail
  go_region_law (first
   | (refine step_callX rfl 19 #[.agg #[.int .i64 fmt,.slice A n c]] _ (HB.out _ (by apply_rules[uUe,uUa,uUb,uUc,uUd])) ?_ ?_;(· go_simp;done);rintro e w5 ⟨rfl,X5,rfl⟩;refine⟨_,rfl,?_⟩)
   | (refine step_callX rfl 21 #[.int .i64 fmt,.string rw'] _ (hpe.out _ (by apply_rules[uUe,uUa,uUb,uUc,uUd])) ?_ ?_;(· go_simp;done);rintro e w6 ⟨A6,c6,rfl,hP6,h61,h62,X6,rfl⟩;refine⟨_,rfl,?_⟩))
  all_goals
   go_wp2_with fail;have hcall:=fun W (hW:Und w W) (hP:PartsAt W A6 qs)=>rdsame_any fmt fmt A6 A qs.length n c6 c qs ps W rfl HN.out h61 hnc h62 hc63 hP (H.out.und hW)
   refine(hcall _ (by apply_rules[uUe,uUa,uUb,uUc,uUd]) ?_).mono ?_
   ·try rw[under_under] at hP6
    first
     | (refine hP6.und ?_;(repeat (first|exact Und.refl _|assumption|refine Und.under ?_ _|refine Und.alloc ?_ _|refine Und.drew ?_|refine Und.drewN ?_ _));done)
     | (have q:=parts_set' (V:=(under (w.alloc (Obj.cells #[Value.int IntKind.i64 fmt,Value.slice A n c] 25)).drew X5)) (i:=0) (a:=none) (n:=0) (c:=0) hP6 (by apply_rules[uUe,uUa,uUb,uUc,uUd]) (.int .i64 fmt) (.slice A6 qs.length c6);simpa [go_sem] using q)
     | (have q:=parts_set' (V:=w.alloc (Obj.cells #[Value.int IntKind.i64 fmt,Value.slice A n c] 25)) (i:=0) (a:=none) (n:=0) (c:=0) hP6 (by apply_rules[uUe,uUa,uUb,uUc,uUd]) (.int .i64 fmt) (.slice A6 qs.length c6);simpa [go_sem] using q)
   ·rintro e w7 ⟨rfl,X7,rfl⟩
    obtain⟨b,hb⟩:∃ b,b=decide (fmt=fmt/\qs=ps):=⟨_,rfl⟩;have HBB:=hid (show b=decide (qs=ps) by rw[hb];simp);rw[<- hb];clear hb hP6;cases b
    ·go_wp2
     go_ret;rw[HV.out,if_neg (fun hh=>of_decide_eq_false HBB.out.symm hh.2)];exact⟨rfl,(by apply_rules[uUe,uUa,uUb,uUc,uUd])⟩
    ·go_wp2
     go_ret;rw[HV.out,if_pos ⟨trivial,of_decide_eq_true HBB.out.symm⟩];exact⟨rfl,(by apply_rules[uUe,uUa,uUb,uUc,uUd])⟩
 ·have z1:(er==0)=false:=by simpa using he
  have z2:(er != 0)=true:=by simpa using he
  have HE:=hid he
  have hpe:Hid (∀ (W:World),Und w W->Calls Tryz.prog 21 #[.int .i64 fmt,.string rw'] W fun e w'=>e=.returned (.tuple #[.agg #[.int .i64 0,.slice none 0 0],.int .i64 (pl:Int),.int .i64 er])/\Und W w'):=hid fun W hW=>(HP.out W hW).mono fun e w' ⟨hu,h⟩=>by
   rcases h with ⟨h0,_⟩|⟨_,h1⟩
   ·exact absurd h0 he
   ·exact⟨h1,hu⟩
  clear HP he;go_enter Tryz.func35,Tryz.ntmps35;go_wp2_with fail;refine(HK.out _).mono ?_;rintro e w2 ⟨rfl,rfl⟩;go_wp2_with fail
  go_region_law (first
   | (refine step_callX rfl 19 #[.agg #[.int .i64 fmt,.slice A n c]] _ (HB.out _ (by apply_rules[uUe,uUa,uUb,uUc,uUd])) ?_ ?_;(· go_simp;done);rintro e w5 ⟨rfl,X5,rfl⟩;refine⟨_,rfl,?_⟩)
   | (refine step_callX rfl 21 #[.int .i64 fmt,.string rw'] _ (hpe.out _ (by apply_rules[uUe,uUa,uUb,uUc,uUd])) ?_ ?_;(· go_simp;done);rintro e w6 ⟨rfl,X6,rfl⟩;refine⟨_,rfl,?_⟩))
  all_goals
   go_wp2;go_ret;rw[HV.out,if_neg (fun hh=>HE.out hh.1)];exact⟨rfl,(by apply_rules[uUe,uUa,uUb,uUc,uUd])⟩
end Go.Proofs.YthoemdibbldndaaGreatDoor
