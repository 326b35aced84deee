/- Plain: a unit of the maker's with nothing replaced, with ranges replaced by what they. -/
import Derived.Test.YthoemdibbldndaaGreatDoorHvd
import Derived.Test.YthoemdibbldndaaGreatDoorPcT
set_option linter.all false
namespace Go.Proofs.YthoemdibbldndaaGreatDoor
namespace St
theorem Is(a b:Nat)(f:List It):(aY a b 0 f).length<=f.length/\aA (aY a b 0 f)<=aA f:=by
 refine⟨Be a b f 0,?_⟩;rw[Ir];omega
section
variable {fmt:Int} {p:List UInt8} {us:List Wu} {i:Nat} {f:List It} {qs:List (List UInt8 × It)} {c:Nat}
theorem Fj{f:List It}(h10:f.length<=10)(hll:aA f<=125):∀ {rs:List (Int × Int)} {ts:List (List It)},qn f rs ts->∀t∈ts,Nm t/\t.length<=20/\aA t<=245
 | r :: rs,t :: ts,h,x,hx=>by
  rcases List.mem_cons.1 hx with rfl|hx
  ·have h1:=h.1.nm;have h2:=h.1.len;have h3:=h.1.pos;have h4:=Is r.1.toNat r.2.toNat f;exact⟨h1,by omega,by omega⟩
  exact Fj h10 hll h.2 x hx
 | [],_ :: _,h,_,_=>h.elim
theorem OI(h:jF fmt p us i f qs c)(h10:f.length<=10)(QD:aV f<=115)(hz:(p++bW us).length<=25000){rs:List (Int × Int)}{ts:List (List It)}(ha:dd (aA f) 0 rs=true)(hf:qn f rs ts)(h3:rs.length<=3) :
  fQ (lC fmt) (sD fmt) (bw fmt) fmt (bo p us) ((2*i+1:Nat):Int) rs ts=((fmt,bo p (fF us i (a8 (cG (fI fmt) qs 0 rs ts)))),0)/\jF fmt p (fF us i (a8 (cG (fI fmt) qs 0 rs ts))) i (cd f rs ts) (cG (fI fmt) qs 0 rs ts) c:=by
 obtain⟨u,hu,hfu,_⟩:=h.part;have hll:aA f<=125:=by have:=gM f;omega
 have hno:(bY f).length<=200:=Nat.le_trans (List.length_filter_le _ _) (by omega);have hb:=Fj h10 hll hf
 have ht:∀t∈ts,Nm t/\t.length<=512/\aA t<=1024:=λt ht=>by
  obtain⟨k1,k2,k3⟩:=hb t ht;exact⟨k1,by omega,by omega⟩
 have hlt:=hf.fits.len;have hrl:=ME ha (m:=245) λt ht=>(hb t ht).2.2
 have Xk:aA (cd f rs ts)<=860:=by
  have:245*ts.length<=245*3:=Nat.mul_le_mul_left _ (by omega)
  omega
 obtain⟨_,_,_,_,hg⟩:=hfu.Ig h.kn ha hf.fits ht hno (by omega);have hsz:=hg.size;have hbs:=zJ us i (a8 (cG (fI fmt) qs 0 rs ts));rw[List.length_append]at hz;exact h.Ig ha hf.fits ht hno (by omega) (by omega)
end
end St
end Go.Proofs.YthoemdibbldndaaGreatDoor
namespace Go.Proofs.YthoemdibbldndaaGreatDoor
namespace St
section
variable {fmt:Int} {p:List UInt8} {us:List Wu} {i:Nat} {f:List It} {qs:List (List UInt8 × It)} {c:Nat}
end
end St
