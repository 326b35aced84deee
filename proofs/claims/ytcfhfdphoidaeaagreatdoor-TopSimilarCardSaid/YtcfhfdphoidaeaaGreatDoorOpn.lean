/- The plain wrap for a row that lists variables, with the world's shape for the contract. -/
import Derived.Handed
import Derived.HandedShaped
import Derived.Shelf.Vars
import Derived.KernelRfl
import Derived.Test.YtcfhfdphoidaeaaGreatDoorGF
import Derived.Deep.Slices
import Derived.ProofKit
set_option linter.unusedVariables false
set_option linter.unusedSimpArgs false
namespace Go.Proofs.YtcfhfdphoidaeaaGreatDoor
open Go
theorem handed_shaped{H:Type}{enc:TypeId × Value->H}{a:Assume}{C:Checked}{os:Os}{f:FuncId}{fn:Func}{s:ChangeSpec}{conds:List PathCond}{apart fresh handsOn again:Bool}{X:World->Prop}
  (hX:∀ (w w':World),w.heap=w'.heap->X w->X w')
  (own:ownKnob C.prog.godebug=none) (started:os.Started) (noInit:C.prog.inits.idxOf? f=none) (hfn:C.prog.funcs[f]?=some fn)
  (witness:∃ (w:World) (tape:Tape) (i:Input),w.os=os/\(w.forCall tape i).Shaped C.prog/\i.vars=[]/\Input.okWide C.prog (w.forCall tape i) .any w.heap.size f i /\
   ((s.pre enc C.prog fn conds apart (w.forCall tape i).memory i.args/\X (w.forCall tape i).memory)/\sizedMet enc C.prog fn (OpenSpec.ofChange s) apart (w.forCall tape i).memory i.args)/\a.holds C.prog (lone (Frame.enter C.prog f i.args .normal) [] (w.forCall tape i)))
  (contract:∀ (W:World) (base:Nat) (args:Array Value) (ds gs:List (DataW H)) (before:List MemPlace),
   W.ShapedOpen C.prog ->
   (∀ (j:Nat) t v,fn.params[j]?=some t->args[j]?=some v->Value.okWide C.prog W .any base t v) ->
   DataW.Whole enc C.prog fn.params.toList s.vars apart W args.toList ds gs before ->
   conds.all (PathCond.test C.prog ⟨fn.params.toList,ds,s.plain.varTypes C.prog,gs⟩)=true->X W ->
   Calls C.prog f args W fun e W'=>∃ v,e=.returned v/\s.post enc C.prog fn apart fresh handsOn again W args v W') :
  ReturnsInHanded a C os f .any (fun w args=>(s.pre enc C.prog fn conds apart w args/\X w)/\sizedMet enc C.prog fn (OpenSpec.ofChange s) apart w args) (s.post enc C.prog fn apart fresh handsOn again):=by
 refine returnsInHanded_of_calls own started noInit witness ?_;intro w tape i _ shaped _ fits pre _;obtain⟨_,_,_,g,hg,_,_,_,_,vals⟩:=fits;obtain rfl:g=fn:=Option.some.inj (hg.symm.trans hfn);obtain⟨⟨⟨ds,gs,before,whole,cond⟩,x⟩,_⟩:=pre;refine(contract (w.forCall tape i) w.heap.size i.args ds gs before shaped vals (DataW.Whole.of_heap (w':=w.forCall tape i) (by rfl) whole) cond (hX _ _ (by rfl) x)).mono ?_;rintro e W' ⟨v,rfl,hp⟩;exact ChangeSpec.post_blind hp
theorem maxlen_some{W:World}(h:W.ShapedOpen Tryz.prog):∃ m,W.cell? ⟨0,0,none⟩=some (.int .i64 m):=
 cell_of_shapedOpen_int (g:=0) (t:=3) (zero:=#[.int .i64 0]) h (of_decide_eq_true (by kernel_rfl)) (by kernel_rfl) (by kernel_rfl) (by kernel_rfl) (by kernel_rfl) Tryz.underlying3
end Go.Proofs.YtcfhfdphoidaeaaGreatDoor
namespace Go.Proofs.YtcfhfdphoidaeaaGreatDoor
open Go.RowKit Go.Deep Go.ChangeShapes Go.WideShapes
theorem addr_at{a:Addr}(h:a.spot=none)(k:Nat):a.add k=⟨a.block,a.off+k,none⟩:=by
 obtain⟨b,off,s⟩:=a;simp at h;subst h;unfold Addr.add
 split
 ·rename_i h;subst h;rfl
 ·rfl
theorem open_docs{H:Type}{enc:TypeId × Value->H}{w:World}{base fuel:Nat}{spare:Nat->Bool}{held:Bool}{cs:List Value}{x:DataW H × List MemPlace}
  (h:DataW.trod enc Tryz.prog w base spare held fuel 22 cs=some x):∃ D zs c,cs=[.slice D zs.length c]/\IntsAt w D zs/\zs.length<=maxLen:=by
 rcases open_ints Tryz.underlying22 Tryz.underlying3 (by kernel_rfl) h with ⟨rfl,_⟩|⟨a,l,c,zs,rfl,_,hl,hm,hz,_,hcell,_⟩
 ·exact⟨none,[],0,rfl,fun h=>absurd h (by simp),by simp⟩
 ·have hlz:l<=zs.length:=by rw[hz];split <;> omega
  refine⟨some a,zs.take l,c,by simp[Nat.min_eq_left hlz],fun h0=>?_,by simp[Nat.min_eq_left hlz];omega⟩;have hl0:0<l:=by simp at h0;omega
  have c0:=hcell 0 (by omega)
  have hsp:a.spot=none:=by
   have:=World.cell?_spot c0
   simpa [Addr.add] using this
  have hb:=zbL _ _ c0;refine⟨a.block,a.off,by obtain⟨b,o,s⟩:=a;simp at hsp;subst hsp;rfl,by simpa [Addr.add] using hb,fun i hi=>?_⟩;have hi':i<l:=by simp at hi;omega
  have:=hcell i (by omega)
  rw[addr_at hsp] at this;rw[this];simp[List.getD_eq_getElem?_getD,hi']
end Go.Proofs.YtcfhfdphoidaeaaGreatDoor
