/- How many parts splitting can give. No program in. -/
import Derived.Test.YthoemdibbldndaaGreatDoorGJ
set_option linter.unusedVariables false
set_option linter.unusedSimpArgs false
namespace Go.Proofs.YthoemdibbldndaaGreatDoor
open Go.RowKit
theorem mk_len{dE:List UInt8->Nat × Int}{dig:Nat->List UInt8}{d:List UInt8}:∀ (fuel a r:Nat) (s s':St.PS),St.mkS dE dig d fuel a r s=.ok s'->s'.1.length<=s.1.length+2*fuel
 | 0,a,r,s,s',h=>by rw[St.mkS] at h;cases h;omega
 | fuel+1,a,r,s,s',h=>by
  rw[St.mkS] at h
  split at h
  ·cases h;omega
  split at h
  ·cases h
  split at h
  ·have:=mk_len fuel _ _ _ _ h;omega
  simp only[] at h
  split at h
  ·split at h <;> cases h
  split at h
  ·cases h
  have:=mk_len fuel _ _ _ _ h
  simp[St.unitS] at this;omega
theorem res_len{dE:List UInt8->Nat × Int}{d:List UInt8}:∀ (fuel a:Nat) (s s':St.PS),St.resS dE d fuel a s=.ok s'->s'.1.length<=s.1.length+2*fuel
 | 0,a,s,s',h=>by rw[St.resS] at h;cases h;omega
 | fuel+1,a,s,s',h=>by
  rw[St.resS] at h
  split at h
  ·cases h;omega
  split at h
  ·have:=res_len fuel _ _ _ h;omega
  simp only[] at h
  split at h
  ·cases h
  split at h
  ·cases h
  split at h
  ·cases h
  have:=res_len fuel _ _ _ h
  simp[St.unitS] at this;omega
theorem rec_len{dE:List UInt8->Nat × Int}{d key:List UInt8}{W C:Nat}:∀ (fuel a n:Nat) (s:St.PS) (e m:Nat) (s':St.PS),St.recS dE d W C key fuel a n s=.ok (e,m,s')->s'.1.length<=s.1.length+2*fuel
 | 0,a,n,s,e,m,s',h=>by rw[St.recS] at h;cases h
 | fuel+1,a,n,s,e,m,s',h=>by
  rw[St.recS] at h
  split at h
  ·cases h
  split at h
  ·cases h
  split at h
  ·cases h
  simp only[] at h;have hl:∀ k:Nat,(if n=C then St.unitS d s (a+1) (a+k-1) key else s).1.length<=s.1.length+2:=fun k=>by split <;> simp[St.unitS]
  split at h
  ·cases h;exact Nat.le_trans (hl _) (by omega)
  split at h
  ·cases h;exact Nat.le_trans (hl _) (by omega)
  have:=rec_len fuel _ _ _ _ _ _ h
  exact Nat.le_trans this (by have:=hl (by assumption);omega)
theorem recs_len{dE:List UInt8->Nat × Int}{dig:Nat->List UInt8}{d:List UInt8}{W C L:Nat}(hL:L=2*(d.length+1)):∀ (fuel a r:Nat) (s s':St.PS),St.recsS dE dig d W C fuel a r s=.ok s'->s'.1.length<=s.1.length+L*fuel
 | 0,a,r,s,s',h=>by rw[St.recsS] at h;cases h;omega
 | fuel+1,a,r,s,s',h=>by
  rw[St.recsS] at h
  split at h
  ·cases h;omega
  split at h
  ·cases h
  ·rename_i hr
   split at h
   ·cases h
   have h1:=rec_len _ _ _ _ _ _ _ hr;have h2:=recs_len hL fuel _ _ _ _ h;have h3:L*(fuel+1)=L*fuel+L:=Nat.mul_succ L fuel;omega
theorem FromS.len{fmt:Int}{ps:List St.Pt}(h:FromS fmt ps):ps.length<=10000000000:=by
 obtain⟨hk,d,pl,_,hs⟩:=h
 have big:∀ x:Nat × Int,(([]:List St.Pt),x.1,x.2)=(ps,pl,0)->ps.length<=10000000000:=fun x e=>by
  have:=congrArg (·.1) e;simp at this;subst this;simp
 have small:∀ s:St.PS,s.1.length<=9000000000->(St.endS d s,0,(0:Int))=(ps,pl,0)->ps.length<=10000000000:=fun s hl e=>by
  have:=congrArg (·.1) e;simp at this;subst this;simp[St.endS];omega
 rcases hk with rfl|rfl|rfl
 ·have h0:St.splitM Mk.dE Lib.decDigits d=(ps,pl,0):=hs
  unfold St.splitM at h0
  split at h0
  ·exact big (0,3) h0
  split at h0
  ·exact big (_,_) h0
  ·rename_i hlen _ s hr
   exact small s (by have:=mk_len _ _ _ _ _ hr;simp at this;omega) h0
 ·have h0:St.splitR dE d=(ps,pl,0):=hs
  unfold St.splitR at h0
  split at h0
  ·exact big (0,3) h0
  split at h0
  ·exact big (_,_) h0
  ·rename_i hlen _ s hr
   exact small s (by have:=res_len _ _ _ _ hr;simp at this;omega) h0
 ·have h0:St.splitS Sh.dE Lib.decDigits d=(ps,pl,0):=hs
  unfold St.splitS at h0
  split at h0
  ·exact big (0,3) h0
  split at h0
  ·exact big (_,_) h0
  split at h0
  ·exact big (0,6) h0
  split at h0
  ·exact big (0,5) h0
  split at h0
  ·exact big (_,_) h0
  ·rename_i hlen _ _ _ _ _ _ _ _ s hr
   exact small s (by
    have h1:=recs_len rfl _ _ _ _ _ hr;have h2:2*(d.length+1)*(d.length+1)<=2*65537*65537:=Nat.mul_le_mul (by omega) (by omega);simp at h1
    omega) h0
end Go.Proofs.YthoemdibbldndaaGreatDoor
