/- The walk of the top laws' fixed example. Condition: the library's tables lie at their. -/
import Derived.Test.YtcfhfdphoidaeaaGreatDoorFnKp
import Derived.Test.YtcfhfdphoidaeaaGreatDoorFnI
set_option linter.unusedVariables false
set_option linter.unusedSimpArgs false
set_option linter.all false
namespace Go.Proofs.YtcfhfdphoidaeaaGreatDoor
open Go.RowKit
set_option maxRecDepth 20000
set_option maxHeartbeats 25600000
theorem ranges_one{W:World}{g:Nat}{a b:Int}(h0:W.cell? ⟨g,0,none⟩=some (.int .i64 a))(h1:W.cell? ⟨g,1,none⟩=some (.int .i64 b)):RangesAt W (some ⟨g,0,none⟩) [(a,b)]:=by
 intro _;refine⟨g,0,rfl,zbL _ _ h0,fun j hj=>?_⟩;obtain rfl:j=0:=by simp at hj;omega
 exact⟨h0,h1⟩
theorem targs_one{W:World}{g g2:Nat}{k i:Int}{s:ByteArray}(h0:W.cell? ⟨g,0,none⟩=some (.slice (some ⟨g2,0,none⟩) 1 1))(h1:W.cell? ⟨g2,0,none⟩=some (.int .i64 k))(h2:W.cell? ⟨g2,1,none⟩=some (.string s))(h3:W.cell? ⟨g2,2,none⟩=some (.int .i64 i)):TargsAt W (some ⟨g,0,none⟩) [[(k,s.data.toList,i)]]:=by
 intro _;refine⟨g,0,rfl,zbL _ _ h0,fun j hj=>?_⟩;obtain rfl:j=0:=by simp at hj;omega
 refine⟨some ⟨g2,0,none⟩,1,h0,?_,by simp,by omega,fun h=>by cases h⟩;intro _;refine⟨g2,0,rfl,zbL _ _ h1,fun j hj=>?_⟩;obtain rfl:j=0:=by simp at hj;omega
 refine⟨h1,?_,h3⟩;rw[h2];simp[ba_eta]
theorem knownT_call(A B C:Option Addr)(c m2:Nat)(W:World)(hL:Mk.LibAt W)(hP:PartsAt W A St.psT)(h1:3<=c)(h2:c<=9223372036854775807)(hB:RangesAt W B [(0,5)])(hC:TargsAt W C [[(1,[83,105,99,104,101,114,110,46],0)]]) :
  Calls Tryz.prog 17 #[.agg #[.int .i64 1,.slice A 3 c],.int .i64 1,.slice B 1 m2,.slice C 1 1] W fun e w'=>∃ A' c',e=.returned (.tuple #[.agg #[.int .i64 1,.slice A' 3 c'],.int .i64 0])/\PartsAt w' A' St.psT2/\Und W w':=by
 have h:=dreplace_any A B C 3 c 1 m2 1 1 St.psT 1 [(0,5)] [[(1,[83,105,99,104,101,114,110,46],0)]] W (fm1 W hL) rfl h1 h2 rfl rfl hP hB hC (by omega) (by decide) (by omega)
  (fun t ht=>by rw[List.mem_singleton.1 ht];decide) (fun t ht=>by rw[List.mem_singleton.1 ht];exact St.knownT_enc)
 rw[St.knownT_repl] at h;refine h.mono ?_;rintro e w' ⟨A',c',rfl,hP',_,_,hu⟩;exact⟨A',c',rfl,hP',hu⟩
theorem knownT_content(A:Option Addr)(c:Nat)(W:World)(hL:Mk.LibAt W)(hP:PartsAt W A St.psT) :
  Calls Tryz.prog 14 #[.agg #[.int .i64 1,.slice A 3 c],.int .i64 1] W fun e w'=>∃ A' c',e=.returned (.tuple #[.slice A' 5 c',.int .i64 0])/\ItemsAt w' A' St.kF/\Und W w':=by
 have h:=dcont_any A 3 c St.psT 1 W (fm1 W hL) rfl hP (by omega) (by decide);rw[St.knownT_cont] at h;refine h.mono ?_;rintro e w' ⟨A',c',rfl,hI,_,_,hu⟩;exact⟨A',c',rfl,hI,hu⟩
theorem knownT_parse(w:World)(hL:Mk.LibAt w) :
  Calls Tryz.prog 13 #[.int .i64 1,.string ⟨#[60,112,62,83,97,118,101,46,32,60,98,62,82,101,100,60,47,98,62,32,99,97,114,33,60,47,112,62]⟩] w fun e w1=>∃ A c,e=.returned (.tuple #[.agg #[.int .i64 1,.slice A 3 c],.int .i64 0,.int .i64 0])/\PartsAt w1 A St.psT/\3<=c/\c<=9223372036854775807/\Und w w1:=by
 have h1:=dparse_any ⟨#[60,112,62,83,97,118,101,46,32,60,98,62,82,101,100,60,47,98,62,32,99,97,114,33,60,47,112,62]⟩ w (fm1 w hL) (by show 28<=_;omega);rw[St.knownT_split] at h1;refine h1.mono ?_;rintro e w1 ⟨hu1,h⟩;rcases h with ⟨_,A,c,h2,h3,h4,h5⟩|⟨h,_⟩
 ·exact⟨A,c,h2,h3,h4,h5,hu1⟩
 ·exact absurd rfl h
theorem known_any(w:World)(hL:Mk.LibAt w):Calls Tryz.prog 4 #[] w fun e w'=>e=.returned (.bool true)/\Und w w':=by
 have H1:=hid (knownT_parse w hL);have HL:=hid hL;clear hL;go_enter Tryz.func4,Tryz.ntmps4;go_wp2_with fail;refine H1.out.mono ?_;rintro e w1 ⟨A,c,rfl,hP,hc1,hc2,hu1⟩;clear H1;go_wp2_with fail;have hxb:=heap_alloc_new w1 (.cells #[.int .i64 1,.slice A 3 c] 52);have hus:Und w1 (w1.alloc (.cells #[.int .i64 1,.slice A 3 c] 52)):=(Und.refl _).alloc _;generalize w1.alloc (.cells #[.int .i64 1,.slice A 3 c] 52)=ws at *;obtain⟨xd,hxd⟩:∃ xd,xd=w1.heap.size:=⟨_,rfl⟩;rw[<- hxd] at hxb ⊢;have HX:=hid (fun W (u:Und ws W)=>(u.below.block xd (lt_of_heap hxb)).trans hxb);have HUS:=hid (hu1.trans hus);have HP:=hid (fun W (u:Und ws W)=>hP.und (hus.trans u));clear hP hus hxb hu1 hxd;refine(knownT_content A c ws (HL.out.und HUS.out) (HP.out ws (Und.refl _))).mono ?_;rintro e w2 ⟨A2,c2,rfl,hI2,hu2⟩;have HU2:=hid hu2;have HI2:=hid hI2;clear hu2 hI2;go_wp2_with fail;refine(sentence_any _).mono ?_;rintro e w3 ⟨hu3,R,P,Q,rfl,hr0,hr1,hr2,hr3,hr4⟩;have HRK:=hid (rangesK_any R P Q A2 c2 w3 ⟨hr0,hr1,hr2,hr3,hr4⟩ (HI2.out.und hu3));have HU3:=hid (HU2.out.trans hu3);clear hr0 hr1 hr2 hr3 hr4 hu3;go_wp2_with fail;refine HRK.out.mono ?_;rintro e w4 ⟨v4,rfl,ho4,hu4⟩;have HU4:=hid (HU3.out.trans hu4);obtain⟨A4,c4,rfl,hc4⟩:=own_slice ho4;obtain⟨g4,rfl,_,hl4,hcell⟩:=own_cell ho4 (by omega);have x0:=hcell 0 _ rfl;have x1:=hcell 1 _ rfl;have x2:=hcell 2 _ rfl;haveI:LtW g4 w4:=LtW.of hl4;have hx4:=HX.out w4 HU4.out;have d0:w4.cell? ⟨xd,0,none⟩=some (.int .i64 1):=by rw[zcH hx4];rfl
 have d1:w4.cell? ⟨xd,1,none⟩=some (.slice A 3 c):=by rw[zcH hx4];rfl
 haveI:LtW xd w4:=LtW.of (lt_of_heap hx4);have q3:(1:Int)<=(c4:Int):=by have:=hc4.1;omega
 have HR4:=hid (fun W (u:Und w4 W)=>(show RangesAt W (some ⟨g4,0,none⟩) [(0,5)] from ranges_one ((u.cell (p:=⟨g4,0,none⟩) hl4).trans x0) ((u.cell (p:=⟨g4,1,none⟩) hl4).trans x1)));have hcall:=hid (fun W (u:Und w4 W) (C:Option Addr) (m2:Nat) (hC:TargsAt W C [[(1,[83,105,99,104,101,114,110,46],0)]])=>knownT_call A (some ⟨g4,0,none⟩) C c m2 W (HL.out.und (HUS.out.trans (HU4.out.trans u))) (HP.out W (HU4.out.trans u)) hc1 hc2 (HR4.out W u) hC);clear ho4 hu4 hcell HRK hx4 HI2 HU2 HU3;have HB:=hid (fun A6 c6 W (hP:PartsAt W A6 St.psT2)=>dbytes_any 1 A6 3 c6 St.psT2 W rfl hP (by omega) (by decide));rw[St.knownT_bytes] at HB;go_wp2_with fail
 go_region_law (first
  | (refine step_callX rfl 17 #[.agg #[.int .i64 1,.slice A 3 c],.int .i64 1,.slice (some ⟨g4,0,none⟩) 1 c4,.slice (some ⟨w4.heap.size+1,0,none⟩) 1 1] _ (hcall.out _ (by apply_rules[uUe,uUa,uUb,uUc,uUd]) _ c4 ?_) ?_ ?_;(· (refine targs_one (g2:=w4.heap.size) (s:=⟨#[83,105,99,104,101,114,110,46]⟩) ?_ ?_ ?_ ?_ <;> go_simp);done);(· go_simp;done);rintro e w6 ⟨A6,c6,rfl,hP6,X6,rfl⟩;refine⟨_,rfl,?_⟩)
  | (refine step_callX rfl 17 #[.agg #[.int .i64 1,.slice A 3 c],.int .i64 1,.slice (some ⟨g4,0,none⟩) 1 c4,.slice (some ⟨w4.heap.size+1+1,0,none⟩) 1 1] _ (hcall.out _ (by apply_rules[uUe,uUa,uUb,uUc,uUd]) _ c4 ?_) ?_ ?_;(· (refine targs_one (g2:=w4.heap.size+1) (s:=⟨#[83,105,99,104,101,114,110,46]⟩) ?_ ?_ ?_ ?_ <;> go_simp);done);(· go_simp;done);rintro e w6 ⟨A6,c6,rfl,hP6,X6,rfl⟩;refine⟨_,rfl,?_⟩)
  | (refine step_callX rfl 17 #[.agg #[.int .i64 1,.slice A 3 c],.int .i64 1,.slice (some ⟨g4,0,none⟩) 1 c4,.slice (some ⟨w4.heap.size+1+1,0,none⟩) 1 1] _ (hcall.out _ (by apply_rules[uUe,uUa,uUb,uUc,uUd]) _ c4 ?_) ?_ ?_;(· (refine targs_one (g2:=w4.heap.size) (s:=⟨#[83,105,99,104,101,114,110,46]⟩) ?_ ?_ ?_ ?_ <;> go_simp);done);(· go_simp;done);rintro e w6 ⟨A6,c6,rfl,hP6,X6,rfl⟩;refine⟨_,rfl,?_⟩))
 all_goals
  go_wp2_with fail;refine(HB.out A6 c6 _ ?_).mono ?_
  ·first
    | (refine hP6.und ?_;(repeat (first|exact Und.refl _|assumption|refine Und.under ?_ _|refine Und.alloc ?_ _|refine Und.drew ?_|refine Und.drewN ?_ _));done)
    | (have q:=parts_set' (V:=(w4.alloc (Obj.cells #[.int .i64 1,.string ⟨#[83,105,99,104,101,114,110,46]⟩,.int .i64 0] 66)).alloc (Obj.cells #[.slice (some ⟨w4.heap.size,0,none⟩) 1 1] 24)) (i:=0) (a:=none) (n:=0) (c:=0) hP6 (by apply_rules[uUe,uUa,uUb,uUc,uUd]) (.int .i64 1) (.slice A6 3 c6);simpa [go_sem] using q)
    | (have q:=parts_set' (V:=w4.alloc (Obj.cells #[.int .i64 1,.string ⟨#[83,105,99,104,101,114,110,46]⟩,.int .i64 0] 66)) (i:=0) (a:=none) (n:=0) (c:=0) hP6 (by apply_rules[uUe,uUa,uUb,uUc,uUd]) (.int .i64 1) (.slice A6 3 c6);simpa [go_sem] using q)
    | (have q:=parts_set' (V:=w4) (i:=0) (a:=none) (n:=0) (c:=0) hP6 (by apply_rules[uUe,uUa,uUb,uUc,uUd]) (.int .i64 1) (.slice A6 3 c6);simpa [go_sem] using q)
  ·rintro e w7 ⟨rfl,X7,rfl⟩
   go_wp2;go_ret;exact⟨rfl,HUS.out.trans (HU4.out.trans (by apply_rules[uUe,uUa,uUb,uUc,uUd]))⟩
end Go.Proofs.YtcfhfdphoidaeaaGreatDoor
