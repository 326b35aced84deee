/- Worlds of which only new memory is unknown: 'w.under X' is X where X holds w's memory. -/
import Derived.WalkKit
import Derived.WalkSpells
import Derived.WalkLawsBesides
import Derived.Deep.QuietTactic
import Derived.BigQuiet
set_option linter.all false
open Option renaming none->VM
open Go renaming World->VO
namespace Go.Proofs.YthoemdibbldndaaGreatDoor
open Go.RowKit
open Classical in
noncomputable def under(w X:VO):VO:=if Below w.1.size w X then X else w
theorem jd(w X:VO):Below w.1.size w (under w X):=by
 unfold under;split
 ·assumption
 exact Below.refl _ _
theorem ml{w X:VO}(h:Below w.1.size w X):under w X=X:=by unfold under;rw[if_pos h]
def ac(w w':VO):Prop:=∃X,w'=under w X
theorem ac.mk{w w':VO}(h:Below w.1.size w w'):ac w w':=⟨w',(ml h).symm⟩
theorem ac.below{w w':VO}(h:ac w w'):Below w.1.size w w':=by obtain⟨X,rfl⟩:=h;exact jd _ _
theorem ac.refl(w:VO):ac w w:=ac.mk (Below.refl _ _)
theorem ac.trans{a b c:VO}(h:ac a b)(k:ac b c):ac a c:=ac.mk (h.below.trans (k.below.mono h.below.size))
theorem ac.under{a b:VO}(h:ac a b)(X:VO):ac a (under b X):=h.trans ⟨X,rfl⟩
theorem ac.alloc{a b:VO}(h:ac a b)(o:Obj):ac a (b.alloc o):=ac.mk (h.below.alloc h.below.size o)
theorem ac.drew{a b:VO}(h:ac a b):ac a b.drew:=ac.mk h.below.drew
theorem ac.drewN{a b:VO}(h:ac a b)(n:Nat):ac a (b.drewN n):=by
 induction n with
 | zero=>exact h
 | succ n ih=>exact ih.drew
theorem ac.setCell{a b:VO}(h:ac a b){p:Addr}(hp:a.1.size<=p.block)(v:Value):ac a (b.setCell p v):=ac.mk (h.below.setCell hp v)
theorem ac.size{a b:VO}(h:ac a b):a.1.size<=b.1.size:=h.below.size
theorem ac.cell{a b:VO}(h:ac a b){p:Addr}(hp:p.block<a.1.size):b.cell? p=a.cell? p:=h.below.cell hp
@[go_sem,simp] theorem cell_under (w X:VO) (n i:Nat) (h:n<w.1.size):(under w X).cell? ⟨n,i,VM⟩=w.cell? ⟨n,i,VM⟩:=(jd w X).cell (p:=⟨n,i,VM⟩) h
@[go_sem,simp] theorem frozen_under (w X:VO) (n i:Nat) (h:n<w.1.size):(under w X).frozen? ⟨n,i,VM⟩=w.frozen? ⟨n,i,VM⟩:=(jd w X).frozen (p:=⟨n,i,VM⟩) h
theorem lF(w X:VO):w.1.size<=(under w X).1.size:=(jd w X).size
@[go_sem,simp] theorem lt_under (w X:VO) (n:Nat) (h:n<w.1.size):n<(under w X).1.size:=Nat.lt_of_lt_of_le h (lF w X)
@[go_sem,simp] theorem le_under (w X:VO) (n:Nat) (h:n<=w.1.size):n<=(under w X).1.size:=Nat.le_trans h (lF w X)
@[go_sem,simp] theorem ne_under (w X:VO) (n:Nat) (h:n<w.1.size):(n=(under w X).1.size)=False:=by have:=lF w X;simp;omega
noncomputable def stored(w X:VO)(p:Addr)(v:Value):VO:=(under w X).setCell p v
@[go_sem] theorem setCell_under (w X:VO) (n i:Nat) (v:Value) (_h:n<w.1.size):(under w X).setCell ⟨n,i,VM⟩ v=under (w.setCell ⟨n,i,VM⟩ v) (stored w X ⟨n,i,VM⟩ v):=by
 rw[ml (X:=stored w X ⟨n,i,VM⟩ v)];· rfl
 have hb:=jd w X;refine⟨hb.os,hb.tape,hb.output,by simp[stored],λk hk=>?_⟩;unfold stored World.setCell;simp only[Array.getElem?_modify];rw[hb.block k (by simpa using hk)]
abbrev af (n:Nat) (w:VO):Prop:=NeZero (w.1.size-n)
theorem af.of{n:Nat}{w:VO}(h:n<w.1.size):af n w:=⟨by omega⟩
theorem af.lt{n:Nat}{w:VO}(h:af n w):n<w.1.size:=by have:=h.out;omega
instance ltw_new (w:VO) (o:Obj):NeZero ((w.alloc o).1.size-w.1.size):=⟨by simp⟩
instance ltw_succ (w:VO) (o:Obj) (n:Nat) [h:NeZero (w.1.size-n)]:NeZero ((w.alloc o).1.size-(n+1)):=⟨by have:=h.out;simp;omega⟩
instance ltw_alloc (w:VO) (o:Obj) (n:Nat) [h:NeZero (w.1.size-n)]:NeZero ((w.alloc o).1.size-n):=⟨by have:=h.out;simp;omega⟩
instance ltw_drew (w:VO) (n:Nat) [h:NeZero (w.1.size-n)]:NeZero (w.drew.1.size-n):=⟨by have:=h.out;simp;omega⟩
instance ltw_drewN (w:VO) (k n:Nat) [h:NeZero (w.1.size-n)]:NeZero ((w.drewN k).1.size-n):=⟨by have:=h.out;have:=((ac.refl w).drewN k).size;omega⟩
instance ltw_setCell (w:VO) (p:Addr) (v:Value) (n:Nat) [h:NeZero (w.1.size-n)]:NeZero ((w.setCell p v).1.size-n):=⟨by have:=h.out;simp;omega⟩
instance ltw_under (w X:VO) (n:Nat) [h:NeZero (w.1.size-n)]:NeZero ((under w X).1.size-n):=⟨by have:=h.out;have:=lF w X;omega⟩
@[go_sem high] theorem cell_under' (w X:VO) (n i:Nat) [h:NeZero (w.1.size-n)]:(under w X).cell? ⟨n,i,VM⟩=w.cell? ⟨n,i,VM⟩:=cell_under w X n i (af.lt h)
@[go_sem high] theorem frozen_under' (w X:VO) (n i:Nat) [h:NeZero (w.1.size-n)]:(under w X).frozen? ⟨n,i,VM⟩=w.frozen? ⟨n,i,VM⟩:=frozen_under w X n i (af.lt h)
@[go_sem high] theorem setCell_under' (w X:VO) (n i:Nat) (v:Value) [h:NeZero (w.1.size-n)]:(under w X).setCell ⟨n,i,VM⟩ v=under (w.setCell ⟨n,i,VM⟩ v) (stored w X ⟨n,i,VM⟩ v):=setCell_under w X n i v (af.lt h)
@[go_sem high] theorem cell_alloc' (w:VO) (o:Obj) (n i:Nat) [h:NeZero (w.1.size-n)]:(w.alloc o).cell? ⟨n,i,VM⟩=w.cell? ⟨n,i,VM⟩:=World.cell?_alloc_past o n i (af.lt h)
@[go_sem high] theorem frozen_alloc' (w:VO) (o:Obj) (n i:Nat) [h:NeZero (w.1.size-n)]:(w.alloc o).frozen? ⟨n,i,VM⟩=w.frozen? ⟨n,i,VM⟩:=World.frozen?_alloc_past o n i (af.lt h)
@[go_sem high] theorem setCell_alloc' (w:VO) (o:Obj) (n i:Nat) (v:Value) [h:NeZero (w.1.size-n)]:(w.alloc o).setCell ⟨n,i,VM⟩ v=(w.setCell ⟨n,i,VM⟩ v).alloc o:=World.setCell_alloc_past o n i v (af.lt h)
noncomputable def Gc(w X:VO):VO:=(under w X).drew
@[go_sem] theorem drew_under (w X:VO):(under w X).drew=under w (Gc w X):=by
 rw[ml (X:=Gc w X)];· rfl
 exact(jd w X).drew
noncomputable def Iq(w X Y:VO):VO:=under (under w X) Y
@[go_sem] theorem under_under (w X Y:VO):under (under w X) Y=under w (Iq w X Y):=by
 rw[ml (X:=Iq w X Y)];· rfl
 exact(((ac.refl w).under X).under Y).below
theorem O2(w X:VO)(n:Nat):(under w X).drewN n=under w ((under w X).drewN n):=by
 rw[ml (X:=(under w X).drewN n)];exact(((ac.refl w).under X).drewN n).below
theorem aI{P:Program}{id:Nat}{Q:Exit->Act->VO->Prop}{a:Act}{w:VO}{l:List Oper}(hm:P.follows .mixedOrders=true)(hB:Region.lexB .any l.toArray=true)
  (h:wpQuiet P l.toArray (λw'=>∃X,w'=under w X) (λa'=>∀w',(∃X,w'=under w X)->Q .normal a' w') l a):(Code.region id l.toArray true).wp P Q a w:=
 wp_region_quiet (C:=λw'=>∃X,w'=under w X) hm hB (ac.refl w).drew (by simpa using h)
theorem aB{P:Program}{id:Nat}{Q:Exit->Act->VO->Prop}{a:Act}{w X0:VO}{l:List Oper}(hm:P.follows .mixedOrders=true)(hB:Region.lexB .any l.toArray=true)
  (h:wpQuiet P l.toArray (λw'=>∃X,w'=under w X) (λa'=>∀w',(∃X,w'=under w X)->Q .normal a' w') l a):(Code.region id l.toArray true).wp P Q a (under w X0):=
 wp_region_quiet (C:=λw'=>∃X,w'=under w X) hm hB ((ac.refl w).under X0).drew (by simpa using h)
theorem Calls.cK{P:Program}{f:FuncId}{args:Array Value}{w X:VO}{v:Value}
  (h:Calls P f args (under w X) λe w'=>e=.returned v/\ac (under w X) w'):Calls P f args (under w X) λe w''=>e=.returned v/\∃Y,w''=under w Y:=
 h.mono λ_ _ ⟨he,hm⟩=>⟨he,((ac.refl w).under X).trans hm⟩
theorem aa{p:Prop}(h:p):Hid p:=h
theorem bc{k:IntKind}{a b:Int}(h:a=b):Ending.returned (.int k a)=.returned (.int k b):=by rw[h]
theorem ay{a b:Bool}(h:a=b):Ending.returned (.bool a)=.returned (.bool b):=by rw[h]
theorem Uc{a b:VO}(h:ac a b)(X:VO):ac a (under b X):=h.under X
theorem Ug(a:VO):ac a a:=ac.refl a
theorem Ud{a b:VO}(h:ac a b)(o:Obj):ac a (b.alloc o):=h.alloc o
theorem Ue{a b:VO}(h:ac a b):ac a b.drew:=h.drew
theorem Uf{a b:VO}(h:ac a b)(k:Nat):ac a (b.drewN k):=h.drewN k
theorem uZ{a b:VO}(h:ac a b:=by apply_rules [Ug,Uc,Ud,Ue,Uf]):ac a b:=h
