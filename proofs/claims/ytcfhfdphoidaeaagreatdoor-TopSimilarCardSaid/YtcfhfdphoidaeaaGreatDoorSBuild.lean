/- The contracts of the library's strings.Builder at this translation: WriteString, String. -/
import Derived.Test.YtcfhfdphoidaeaaGreatDoorGA
import Derived.Outline
import Derived.IntWalk
import Derived.Lib.Builder
import Derived.Lib.AppendStr
import Derived.Lib.UnsafeStr
import Derived.Lib.Strings
import Derived.Lib.Slices
import Derived.Lib.Walk
import Derived.Laws.Externs
import Derived.Laws.Entries
import Derived.OwnWalk
set_option linter.unusedVariables false
set_option linter.unusedSimpArgs false
set_option maxHeartbeats 12800000
namespace Go.Proofs.YtcfhfdphoidaeaaGreatDoor
open Go.RowKit
theorem sb_size:(Tryz.prog.info? 139).map (·.size)=some 2:=by kernel_rfl
theorem sb_lies:liesAt Tryz.prog Tryz.prog.depth 139 (2 / Tryz.prog.cellsOf 139) 0 139 1=true:=by kernel_rfl
theorem sb_byte:(Tryz.prog.info? 5).map (fun i=>(i.zero,i.size,i.bytes))=some (some (.int .u8 0),1,1):=by kernel_rfl
theorem sb_cell:Tryz.prog.cellsOf 5=1:=by kernel_rfl
def sbT:List TypeId:=[139,5]
abbrev SB (B b:Nat) (l:List UInt8) (w:World):Prop:=Lib.IsBuilder 139 5 B b (Lib.byteCells l) w
set_option maxRecDepth 100000 in
theorem copyCheck_used(b:Nat)(w:World)(h0:w.cell? ⟨b,0,none⟩=some (.pointer (some ⟨b,0,none⟩))) :
  Calls Tryz.prog 126 #[.pointer (some ⟨b,0,none⟩)] w fun e w'=>e=.returned (.tuple #[])/\w'=w:=by
 obtain⟨j,hj,_⟩:=Option.map_eq_some_iff.1 sb_size;go_enter Tryz.func126,Tryz.ntmps126;go_wp2;rw[Lib.run_neq_ptr_same w _ Tryz.underlying136 hj];go_wp2;go_end0;exact⟨rfl,rfl⟩
set_option maxRecDepth 100000 in
theorem copyCheck_fresh(b:Nat)(w:World)(h0:w.cell? ⟨b,0,none⟩=some (.pointer none))(hsh:w.shape? b=some (139,2))(hfz:w.frozen? ⟨b,0,none⟩=false) :
  Calls Tryz.prog 126 #[.pointer (some ⟨b,0,none⟩)] w fun e w'=>e=.returned (.tuple #[])/\w'=w.setCell ⟨b,0,none⟩ (.pointer (some ⟨b,0,none⟩)):=by
 obtain⟨j,hj,hjs⟩:=Option.map_eq_some_iff.1 sb_size;go_enter Tryz.func126,Tryz.ntmps126;go_wp2;rw[Lib.run_to_unsafe w ⟨b,0,none⟩ Tryz.underlying136 Tryz.underlying272 hj (by rw[hjs];decide) hsh (Nat.zero_lt_succ 1)];simp only[Result.andThen];rw[Oper.upon_value];go_wp2;rw[run_callFunc_extern Tryz.func180 (by kernel_rfl) (by kernel_rfl) (by kernel_rfl) (e:=Extern.AbiNoEscape.same) (by kernel_rfl)];rw[Lib.run_noEscape];simp only[Result.andThen];rw[Oper.upon_value];go_wp2;rw[Lib.run_from_unsafe w ⟨b,0,none⟩ Tryz.underlying272 Tryz.underlying136 hj hsh sb_lies];simp only[Result.andThen];rw[Oper.upon_value];go_wp2;go_end0;exact⟨rfl,rfl⟩
theorem copyCheck_any(B b:Nat)(bs:List Value)(w:World)(h:Lib.IsBuilder 139 5 B b bs w) :
  Calls Tryz.prog 126 #[.pointer (some ⟨b,0,none⟩)] w fun e w'=>e=.returned (.tuple #[])/\(Lib.BuilderAt 139 5 B b (.pointer (some ⟨b,0,none⟩)) bs w'/\Below B w w'/\TKept sbT w w'):=by
 rcases h with h|h
 ·refine(copyCheck_fresh b w h.cell0 h.shape h.frozen0).mono ?_
  rintro e w' ⟨rfl,rfl⟩;obtain⟨v,hv,_⟩:=h.2;exact⟨rfl,h.used _,(Below.refl B w).setCell (p:=⟨b,0,none⟩) h.1 _,tk_set (p:=⟨b,0,none⟩) hv (by simp[sbT])⟩
 ·refine(copyCheck_used b w h.cell0).mono ?_
  rintro e w' ⟨rfl,rfl⟩;exact⟨rfl,h,Below.refl B _,TKept.refl _ _⟩
theorem writeString_any(B b:Nat)(l:List UInt8)(s:ByteArray)(w:World)(h:SB B b l w)(hlen:l.length+s.size<=140737488355328)(hBw:B<=w.heap.size) :
  Calls Tryz.prog 67 #[.pointer (some ⟨b,0,none⟩),.string s] w fun e w'=>e=.returned (.tuple #[.int .i64 s.size,.nilIface])/\SB B b (l++s.data.toList) w'/\Below B w w'/\TKept sbT w w':=by
 obtain⟨i0,hi,hz0,hz1,hz2⟩:=info_parts sb_byte;have hbl:(Lib.byteCells l).length=l.length:=Lib.byteCells_length l;go_enter Tryz.func67,Tryz.ntmps67;go_wp2_with (go_at_call 126;refine(copyCheck_any B b (Lib.byteCells l) _ h).mono ?_);rintro e w1 ⟨rfl,h1,hb1,hk1⟩;obtain⟨hB,v,hbk,hown,hne⟩:=h1;have c0:w1.cell? ⟨b,0,none⟩=some (.pointer (some ⟨b,0,none⟩)):=by rw[zcH hbk];rfl
 have c1:w1.cell? ⟨b,1,none⟩=some v:=by rw[zcH hbk];rfl
 go_wp2_with (at_builtin;refine Lib.wpList_append_own_string _ rfl _ _ 137 9 rfl B 5 i0 Tryz.underlying137 Tryz.underlying9 hi hz0 hz1 hz2 _ _ _ rfl hown s rfl ?c3 ?c4 ?c5 ?_)
 case c3=>unfold maxLen;omega
 case c4=>omega
 case c5=>have:=hb1.size;omega
 intro v' w2 hown' hgrow _
 have hlt:b<w1.heap.size:=by
  rcases Nat.lt_or_ge b w1.heap.size with h' | h'
  ·exact h'
  ·simp[Array.getElem?_eq_none h'] at hbk
 have hb2:w2.heap[b]?=some (.cells #[.pointer (some ⟨b,0,none⟩),v] 139 (0,0)):=by
  rw[hgrow.block b hlt (fun e=>hne e.symm)];exact hbk
 have d0:w2.cell? ⟨b,0,none⟩=some (.pointer (some ⟨b,0,none⟩)):=by rw[zcH hb2];rfl
 have d1:w2.cell? ⟨b,1,none⟩=some v:=by rw[zcH hb2];rfl
 have f1:w2.frozen? ⟨b,1,none⟩=false:=zfH hb2 1
 obtain⟨ao,n',cap,rfl⟩:∃ ao n' cap,v'=.slice ao n' cap:=by
  rcases hown'.2 with ⟨hv,_⟩|⟨g,cap,cur,hv,_⟩
  ·exact⟨_,_,_,hv⟩
  ·exact⟨_,_,_,hv⟩
 have hE:Lib.byteCells (l++s.data.toList)=Lib.byteCells l++Lib.strCells s:=by rw[Lib.byteCells_append,Lib.strCells_eq]
 go_wp2;go_ret2;refine⟨rfl,Or.inr ?_,?_,(hk1.trans (tk_grown hgrow (own_type hown _ (by simp[sbT])))).trans (tk_set (p:=⟨b,1,none⟩) hb2 (by simp[sbT]))⟩
 ·rw[hE]
  exact Lib.BuilderAt.put (T:=139) (e:=5) hB hb2 (bs':=Lib.byteCells l++Lib.strCells s) (by rw[List.length_append,Lib.strCells_length,hbl];simpa [hbl] using hown') (by decide)
 ·exact(hb1.grown hgrow (by have:=hb1.size;omega) (fun k hk=>(hown.lt k hk).1)).setCell (p:=⟨b,1,none⟩) hB _
theorem SB.und{B b:Nat}{l:List UInt8}{a c:World}(h:SB B b l a)(u:Und a c):SB B b l c:=by
 rcases h with ⟨h1,v,h2,h3,h4⟩|⟨h1,v,h2,h3,h4⟩
 ·exact Or.inl ⟨h1,v,(u.below.block _ (lt_of_heap h2)).trans h2,own_und u h3,h4⟩
 ·exact Or.inr ⟨h1,v,(u.below.block _ (lt_of_heap h2)).trans h2,own_und u h3,h4⟩
theorem SB.fresh(w:World):SB w.heap.size w.heap.size [] (w.alloc (.cells #[.pointer none,.slice none 0 0] 139)):=Lib.fresh_isBuilder _ _ _
theorem sbString_any(B b:Nat)(l:List UInt8)(w:World)(h:SB B b l w)(h0:l ≠ []) :
  Calls Tryz.prog 68 #[.pointer (some ⟨b,0,none⟩)] w fun e w'=>e=.returned (.string ⟨l.toArray⟩)/\Below B w w':=by
 obtain⟨p,hB,v,hbk,hown,hne⟩:∃ p,Lib.BuilderAt 139 5 B b p (Lib.byteCells l) w:=by
  rcases h with h|h
  ·exact⟨_,h⟩
  ·exact⟨_,h⟩
 have hl0:l.length ≠ 0:=by simpa using h0
 rw[Lib.byteCells_length] at hown
 obtain⟨g,cap,cur,rfl,hbg,hg,hnc,hcm,hcs,htake⟩:∃ g cap cur,v=.slice (some ⟨g,0,none⟩) l.length cap/\B<=g/\w.heap[g]?=some (.cells cur 5 (0,0))/\l.length<=cap/\cap<=maxLen/\cur.size=cap*1/\cur.toList.take (l.length*1)=Lib.byteCells l:=by
  rcases hown.2 with ⟨_,hz⟩|⟨g,cap,cur,hv,r⟩
  ·exact absurd hz hl0
  ·exact⟨g,cap,cur,hv,r⟩
 have c1:w.drew.cell? ⟨b,1,none⟩=some (.slice (some ⟨g,0,none⟩) l.length cap):=by
  have:w.drew.heap[b]?=some (.cells #[p,.slice (some ⟨g,0,none⟩) l.length cap] 139 (0,0)):=hbk
  rw[zcH this];rfl
 have hSD:(Builtin.unsafeSliceData_ #[137] 206 #[.slice (some ⟨g,0,none⟩) l.length cap]).run Tryz.prog w.drew=.ok (.pointer (some ⟨g,0,none⟩)) w.drew:=
  Lib.run_unsafeSliceData_row _ _ _ _ _ _ (by omega)
 have hUS:(Builtin.unsafeString_ #[206,3] 9 #[.pointer (some ⟨g,0,none⟩),.int .i64 l.length]).run Tryz.prog w.drew=.ok (.string ⟨l.toArray⟩) (w.drew.freeze ⟨g,0,none⟩ l.length):=by
  refine Lib.run_unsafeString_row w.drew 206 3 9 5 Tryz.underlying206 sb_cell g cur.size (by have hg':w.drew.heap[g]?=some (.cells cur 5 (0,0)):=hg;simp[World.shape?,hg']) l h0 (by omega) (by unfold maxLen at hcm;omega) ?_;intro j x hx;have:=hown.cells (g:=g) rfl j (.int .u8 x.toNat) (by simp[Lib.byteCells,hx])
  exact this
 go_enter Tryz.func68,Tryz.ntmps68;go_wp2;go_region
 all_goals (go_wp2;go_ret;exact⟨rfl,Lib.below_freeze (Below.drew (Below.refl B w)) (p:=⟨g,0,none⟩) hbg _⟩)
theorem sbString_nil(B b:Nat)(p:Value)(w:World)(hbk:w.heap[b]?=some (.cells #[p,.slice none 0 0] 139 (0,0))) :
  Calls Tryz.prog 68 #[.pointer (some ⟨b,0,none⟩)] w fun e w'=>e=.returned (.string ⟨#[]⟩)/\Below B w w':=by
 have hUS:∀ W q,(Builtin.unsafeString_ #[206,3] 9 #[.pointer q,.int .i64 0]).run Tryz.prog W=.ok (.string .empty) W:=fun W q=>Lib.run_unsafeString_none W _ _ _ q
 have c1:w.drew.cell? ⟨b,1,none⟩=some (.slice none 0 0):=by
  have:w.drew.heap[b]?=some (.cells #[p,.slice none 0 0] 139 (0,0)):=hbk
  rw[zcH this];rfl
 have hSD:(Builtin.unsafeSliceData_ #[137] 206 #[.slice none 0 0]).run Tryz.prog w.drew=.ok (.pointer none) w.drew:=rfl;go_enter Tryz.func68,Tryz.ntmps68;go_wp2;go_region
 all_goals (go_wp2;go_ret;exact⟨rfl,Below.drew (Below.refl B w)⟩)
end Go.Proofs.YtcfhfdphoidaeaaGreatDoor
