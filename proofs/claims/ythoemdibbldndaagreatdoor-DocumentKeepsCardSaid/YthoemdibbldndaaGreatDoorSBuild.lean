/- The contracts of the library's strings.Builder at this translation: WriteString, String. -/
import Derived.Test.YthoemdibbldndaaGreatDoorGA
import Derived.Outline
import Derived.IntWalk
import Derived.Lib.Builder
import Derived.Lib.AppendStr
import Derived.Lib.UnsafeStr
import Derived.Lib.Strings
import Derived.Lib.Slices
import Derived.Lib.Walk
import Derived.Laws.Externs
import Derived.Laws.Entries
import Derived.OwnWalk
set_option linter.all false
set_option maxHeartbeats 0
open Go.Value renaming int->Yh,string->Yi,slice->Yj,pointer->Yl,tuple->Ym
open Go.Ending renaming returned->Yp
open Option renaming none->Yq,some->Yr
namespace Go.Proofs.YthoemdibbldndaaGreatDoor
open Go.RowKit
theorem F2:(Tryz.prog.info? 92).map (·.size)=some 2:=by kernel_rfl
theorem Pp:liesAt Tryz.prog Tryz.prog.depth 92 (2 / Tryz.prog.cellsOf 92) 0 92 1=true:=by kernel_rfl
theorem F1:(Tryz.prog.info? 5).map (λi=>(i.zero,i.size,i.bytes))=some (some (.int .u8 0),1,1):=by kernel_rfl
theorem Pn:Tryz.prog.cellsOf 5=1:=by kernel_rfl
def KH:List TypeId:=[92,5]
abbrev SB (B b:Nat) (l:List UInt8) (w:World):Prop:=Lib.IsBuilder 92 5 B b (Lib.byteCells l) w
set_option maxRecDepth 100000 in
theorem qP(b:Nat)(w:World)(h0:w.cell? ⟨b,0,Yq⟩=Yr (Yl (Yr ⟨b,0,Yq⟩))) :
  Calls Tryz.prog 99 #[Yl (Yr ⟨b,0,Yq⟩)] w λe w'=>e=Yp (Ym #[])/\w'=w:=by
 obtain⟨j,hj,_⟩:=Option.map_eq_some_iff.1 F2;go_enter Tryz.func99,Tryz.ntmps99;go_wp2;rw[Lib.run_neq_ptr_same w _ Tryz.underlying90 hj];go_wp2;go_end0;exact⟨rfl,rfl⟩
set_option maxRecDepth 100000 in
theorem pR(b:Nat)(w:World)(h0:w.cell? ⟨b,0,Yq⟩=Yr (Yl Yq))(hsh:w.shape? b=Yr (92,2))(hfz:w.frozen? ⟨b,0,Yq⟩=false) :
  Calls Tryz.prog 99 #[Yl (Yr ⟨b,0,Yq⟩)] w λe w'=>e=Yp (Ym #[])/\w'=w.setCell ⟨b,0,Yq⟩ (Yl (Yr ⟨b,0,Yq⟩)):=by
 obtain⟨j,hj,hjs⟩:=Option.map_eq_some_iff.1 F2;go_enter Tryz.func99,Tryz.ntmps99;go_wp2;rw[Lib.run_to_unsafe w ⟨b,0,none⟩ Tryz.underlying90 Tryz.underlying186 hj (by rw[hjs];decide) hsh (Nat.zero_lt_succ 1)];simp only[Result.andThen];rw[Oper.upon_value];go_wp2;rw[run_callFunc_extern Tryz.func132 (by kernel_rfl) (by kernel_rfl) (by kernel_rfl) (e:=Extern.AbiNoEscape.same) (by kernel_rfl)];rw[Lib.run_noEscape];simp only[Result.andThen];rw[Oper.upon_value];go_wp2;rw[Lib.run_from_unsafe w ⟨b,0,none⟩ Tryz.underlying186 Tryz.underlying90 hj hsh Pp];simp only[Result.andThen];rw[Oper.upon_value];go_wp2;go_end0;exact⟨rfl,rfl⟩
theorem Bq(B b:Nat)(bs:List Value)(w:World)(h:Lib.IsBuilder 92 5 B b bs w) :
  Calls Tryz.prog 99 #[Yl (Yr ⟨b,0,Yq⟩)] w λe w'=>e=Yp (Ym #[])/\(Lib.BuilderAt 92 5 B b (Yl (Yr ⟨b,0,Yq⟩)) bs w'/\Below B w w'/\eJ KH w w'):=by
 rcases h with h|h
 ·refine(pR b w h.cell0 h.shape h.frozen0).mono ?_;rintro e w' ⟨rfl,rfl⟩;obtain⟨v,hv,_⟩:=h.2;exact⟨rfl,h.used _,(Below.refl B w).setCell (p:=⟨b,0,Yq⟩) h.1 _,jA (p:=⟨b,0,Yq⟩) hv (by simp[KH])⟩
 refine(qP b w h.cell0).mono ?_;rintro e w' ⟨rfl,rfl⟩;exact⟨rfl,h,Below.refl B _,eJ.refl _ _⟩
theorem yc(B b:Nat)(l:List UInt8)(s:ByteArray)(w:World)(h:SB B b l w)(hlen:l.length+s.size<=140737488355328)(hBw:B<=w.1.size) :
  Calls Tryz.prog 56 #[Yl (Yr ⟨b,0,Yq⟩),Yi s] w λe w'=>e=Yp (Ym #[Yh .i64 s.size,.nilIface])/\SB B b (l++s.1.1) w'/\Below B w w'/\eJ KH w w':=by
 obtain⟨i0,hi,hz0,hz1,hz2⟩:=info_parts F1;have hbl:(Lib.byteCells l).length=l.length:=Lib.byteCells_length l;go_enter Tryz.func56,Tryz.ntmps56;go_wp2_with (go_at_call 99;refine(Bq B b (Lib.byteCells l) _ h).mono ?_);rintro e w1 ⟨rfl,h1,hb1,hk1⟩;obtain⟨hB,v,hbk,hown,hne⟩:=h1;have c0:w1.cell? ⟨b,0,Yq⟩=Yr (Yl (Yr ⟨b,0,Yq⟩)):=by rw[aj hbk];rfl
 have c1:w1.cell? ⟨b,1,Yq⟩=Yr v:=by rw[aj hbk];rfl
 go_wp2_with (at_builtin;refine Lib.wpList_append_own_string _ rfl _ _ 22 9 rfl B 5 i0 Tryz.underlying22 Tryz.underlying9 hi hz0 hz1 hz2 _ _ _ rfl hown s rfl ?c3 ?c4 ?c5 ?_)
 case c3=>unfold maxLen;omega
 case c4=>omega
 case c5=>have:=hb1.size;omega
 intro v' w2 hown' hgrow _
 have hlt:b<w1.1.size:=by
  rcases Nat.lt_or_ge b w1.1.size with h' | h'
  ·exact h'
  simp[Array.getElem?_eq_none h']at hbk
 have hb2:w2.1[b]?=Yr (.cells #[Yl (Yr ⟨b,0,Yq⟩),v] 92 (0,0)):=by
  rw[hgrow.block b hlt (λe=>hne e.symm)];exact hbk
 have d0:w2.cell? ⟨b,0,Yq⟩=Yr (Yl (Yr ⟨b,0,Yq⟩)):=by rw[aj hb2];rfl
 have d1:w2.cell? ⟨b,1,Yq⟩=Yr v:=by rw[aj hb2];rfl
 have f1:w2.frozen? ⟨b,1,Yq⟩=false:=bz hb2 1
 obtain⟨ao,n',cap,rfl⟩:∃ao n' cap,v'=Yj ao n' cap:=by
  rcases hown'.2 with⟨hv,_⟩|⟨g,cap,cur,hv,_⟩
  ·exact⟨_,_,_,hv⟩
  exact⟨_,_,_,hv⟩
 have hE:Lib.byteCells (l++s.1.1)=Lib.byteCells l++Lib.strCells s:=by rw[Lib.byteCells_append,Lib.strCells_eq]
 go_wp2;go_ret2;refine⟨rfl,Or.inr ?_,?_,(hk1.trans (np hgrow (jt hown _ (by simp[KH])))).trans (jA (p:=⟨b,1,Yq⟩) hb2 (by simp[KH]))⟩
 ·rw[hE];exact Lib.BuilderAt.put (T:=92) (e:=5) hB hb2 (bs':=Lib.byteCells l++Lib.strCells s) (by rw[List.length_append,Lib.strCells_length,hbl];simpa[hbl]using hown') (by decide)
 exact(hb1.grown hgrow (by have:=hb1.size;omega) (λk hk=>(hown.lt k hk).1)).setCell (p:=⟨b,1,Yq⟩) hB _
theorem SB.ai{B b:Nat}{l:List UInt8}{a c:World}(h:SB B b l a)(u:ac a c):SB B b l c:=by
 rcases h with⟨h1,v,h2,h3,h4⟩|⟨h1,v,h2,h3,h4⟩
 ·exact Or.inl ⟨h1,v,(u.below.block _ (ae h2)).trans h2,aF u h3,h4⟩
 exact Or.inr ⟨h1,v,(u.below.block _ (ae h2)).trans h2,aF u h3,h4⟩
theorem DS(B b:Nat)(l:List UInt8)(w:World)(h:SB B b l w)(h0:l≠[]) :
  Calls Tryz.prog 57 #[Yl (Yr ⟨b,0,Yq⟩)] w λe w'=>e=Yp (Yi ⟨l.toArray⟩)/\Below B w w':=by
 obtain⟨p,hB,v,hbk,hown,hne⟩:∃p,Lib.BuilderAt 92 5 B b p (Lib.byteCells l) w:=by
  rcases h with h|h
  ·exact⟨_,h⟩
  exact⟨_,h⟩
 have hl0:l.length≠0:=by simpa using h0
 rw[Lib.byteCells_length]at hown
 obtain⟨g,cap,cur,rfl,hbg,hg,hnc,hcm,hcs,htake⟩:∃g cap cur,v=Yj (Yr ⟨g,0,Yq⟩) l.length cap/\B<=g/\w.1[g]?=Yr (.cells cur 5 (0,0))/\l.length<=cap/\cap<=maxLen/\cur.size=cap*1/\cur.toList.take (l.length*1)=Lib.byteCells l:=by
  rcases hown.2 with⟨_,hz⟩|⟨g,cap,cur,hv,r⟩
  ·exact absurd hz hl0
  exact⟨g,cap,cur,hv,r⟩
 have c1:w.drew.cell? ⟨b,1,Yq⟩=Yr (Yj (Yr ⟨g,0,Yq⟩) l.length cap):=by
  have:w.drew.1[b]?=Yr (.cells #[p,Yj (Yr ⟨g,0,Yq⟩) l.length cap] 92 (0,0)):=hbk
  rw[aj this];rfl
 have Wf:(Builtin.unsafeSliceData_ #[22] 131 #[Yj (Yr ⟨g,0,Yq⟩) l.length cap]).run Tryz.prog w.drew=.ok (Yl (Yr ⟨g,0,Yq⟩)) w.drew:=
  Lib.run_unsafeSliceData_row _ _ _ _ _ _ (by omega)
 have Wh:(Builtin.unsafeString_ #[131,3] 9 #[Yl (Yr ⟨g,0,Yq⟩),Yh .i64 l.length]).run Tryz.prog w.drew=.ok (Yi ⟨l.toArray⟩) (w.drew.freeze ⟨g,0,Yq⟩ l.length):=by
  refine Lib.run_unsafeString_row w.drew 131 3 9 5 Tryz.underlying131 Pn g cur.size (by have hg':w.drew.1[g]?=some (.cells cur 5 (0,0)):=hg;simp[World.shape?,hg']) l h0 (by omega) (by unfold maxLen at hcm;omega) ?_;intro j x hx;have:=hown.cells (g:=g) rfl j (.int .u8 x.toNat) (by simp[Lib.byteCells,hx])
  exact this
 go_enter Tryz.func57,Tryz.ntmps57;go_wp2;go_region
 all_goals (go_wp2;go_ret;exact⟨rfl,Lib.below_freeze (Below.drew (Below.refl B w)) (p:=⟨g,0,Yq⟩) hbg _⟩)
theorem DT(B b:Nat)(p:Value)(w:World)(hbk:w.1[b]?=Yr (.cells #[p,Yj Yq 0 0] 92 (0,0))) :
  Calls Tryz.prog 57 #[Yl (Yr ⟨b,0,Yq⟩)] w λe w'=>e=Yp (Yi ⟨#[]⟩)/\Below B w w':=by
 have Wh:∀W q,(Builtin.unsafeString_ #[131,3] 9 #[Yl q,Yh .i64 0]).run Tryz.prog W=.ok (Yi .empty) W:=λW q=>Lib.run_unsafeString_none W _ _ _ q
 have c1:w.drew.cell? ⟨b,1,Yq⟩=Yr (Yj Yq 0 0):=by
  have:w.drew.1[b]?=Yr (.cells #[p,Yj Yq 0 0] 92 (0,0)):=hbk
  rw[aj this];rfl
 have Wf:(Builtin.unsafeSliceData_ #[22] 131 #[Yj Yq 0 0]).run Tryz.prog w.drew=.ok (Yl Yq) w.drew:=rfl;go_enter Tryz.func57,Tryz.ntmps57;go_wp2;go_region
 all_goals (go_wp2;go_ret;exact⟨rfl,Below.drew (Below.refl B w)⟩)
