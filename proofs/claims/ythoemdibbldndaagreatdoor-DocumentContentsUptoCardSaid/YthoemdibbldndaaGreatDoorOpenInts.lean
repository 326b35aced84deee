/- A list of integers that came in, opened to its cells. -/
import Derived.Test.YthoemdibbldndaaGreatDoorGF
import Derived.Deep.Slices
import Derived.ProofKit
set_option linter.unusedVariables false
set_option linter.unusedSimpArgs false
namespace Go.Proofs.YthoemdibbldndaaGreatDoor
open Go.RowKit Go.Deep Go.ChangeShapes Go.WideShapes
theorem addr_at{a:Addr}(h:a.spot=none)(k:Nat):a.add k=⟨a.block,a.off+k,none⟩:=by
 obtain⟨b,off,s⟩:=a;simp at h;subst h;unfold Addr.add
 split
 ·rename_i h;subst h;rfl
 ·rfl
theorem open_docs{H:Type}{enc:TypeId × Value->H}{w:World}{base fuel:Nat}{spare:Nat->Bool}{held:Bool}{cs:List Value}{x:DataW H × List MemPlace}
  (h:DataW.trod enc Tryz.prog w base spare held fuel 42 cs=some x):∃ D zs c,cs=[.slice D zs.length c]/\IntsAt w D zs/\zs.length<=maxLen:=by
 rcases open_ints Tryz.underlying42 Tryz.underlying3 (by kernel_rfl) h with ⟨rfl,_⟩|⟨a,l,c,zs,rfl,_,hl,hm,hz,_,hcell,_⟩
 ·exact⟨none,[],0,rfl,fun h=>absurd h (by simp),by simp⟩
 ·have hlz:l<=zs.length:=by rw[hz];split <;> omega
  refine⟨some a,zs.take l,c,by simp[Nat.min_eq_left hlz],fun h0=>?_,by simp[Nat.min_eq_left hlz];omega⟩;have hl0:0<l:=by simp at h0;omega
  have c0:=hcell 0 (by omega)
  have hsp:a.spot=none:=by
   have:=World.cell?_spot c0
   simpa [Addr.add] using this
  have hb:=zbL _ _ c0;refine⟨a.block,a.off,by obtain⟨b,o,s⟩:=a;simp at hsp;subst hsp;rfl,by simpa [Addr.add] using hb,fun i hi=>?_⟩;have hi':i<l:=by simp at hi;omega
  have:=hcell i (by omega)
  rw[addr_at hsp] at this;rw[this];simp[List.getD_eq_getElem?_getD,hi']
end Go.Proofs.YthoemdibbldndaaGreatDoor
