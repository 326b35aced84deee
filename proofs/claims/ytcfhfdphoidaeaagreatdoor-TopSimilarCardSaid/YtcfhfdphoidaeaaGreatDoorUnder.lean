/- Worlds of which only new memory is unknown: 'w.under X' is X where X holds w's memory. -/
import Derived.WalkKit
import Derived.WalkSpells
import Derived.WalkLawsBesides
import Derived.Deep.QuietTactic
import Derived.BigQuiet
set_option linter.unusedVariables false
set_option linter.unusedSimpArgs false
namespace Go.Proofs.YtcfhfdphoidaeaaGreatDoor
open Go.RowKit
open Classical in
noncomputable def under(w X:World):World:=if Below w.heap.size w X then X else w
theorem under_below(w X:World):Below w.heap.size w (under w X):=by
 unfold under;split
 ·assumption
 ·exact Below.refl _ _
theorem under_eq{w X:World}(h:Below w.heap.size w X):under w X=X:=by unfold under;rw[if_pos h]
def Und(w w':World):Prop:=∃ X,w'=under w X
theorem Und.mk{w w':World}(h:Below w.heap.size w w'):Und w w':=⟨w',(under_eq h).symm⟩
theorem Und.below{w w':World}(h:Und w w'):Below w.heap.size w w':=by obtain⟨X,rfl⟩:=h;exact under_below _ _
theorem Und.refl(w:World):Und w w:=Und.mk (Below.refl _ _)
theorem Und.trans{a b c:World}(h:Und a b)(k:Und b c):Und a c:=Und.mk (h.below.trans (k.below.mono h.below.size))
theorem Und.under{a b:World}(h:Und a b)(X:World):Und a (under b X):=h.trans ⟨X,rfl⟩
theorem Und.alloc{a b:World}(h:Und a b)(o:Obj):Und a (b.alloc o):=Und.mk (h.below.alloc h.below.size o)
theorem Und.drew{a b:World}(h:Und a b):Und a b.drew:=Und.mk h.below.drew
theorem Und.drewN{a b:World}(h:Und a b)(n:Nat):Und a (b.drewN n):=by
 induction n with
 | zero=>exact h
 | succ n ih=>exact ih.drew
theorem Und.setCell{a b:World}(h:Und a b){p:Addr}(hp:a.heap.size<=p.block)(v:Value):Und a (b.setCell p v):=Und.mk (h.below.setCell hp v)
theorem Und.size{a b:World}(h:Und a b):a.heap.size<=b.heap.size:=h.below.size
theorem Und.cell{a b:World}(h:Und a b){p:Addr}(hp:p.block<a.heap.size):b.cell? p=a.cell? p:=h.below.cell hp
@[go_sem,simp] theorem cell_under (w X:World) (n i:Nat) (h:n<w.heap.size):(under w X).cell? ⟨n,i,none⟩=w.cell? ⟨n,i,none⟩:=(under_below w X).cell (p:=⟨n,i,none⟩) h
@[go_sem,simp] theorem frozen_under (w X:World) (n i:Nat) (h:n<w.heap.size):(under w X).frozen? ⟨n,i,none⟩=w.frozen? ⟨n,i,none⟩:=(under_below w X).frozen (p:=⟨n,i,none⟩) h
theorem size_under(w X:World):w.heap.size<=(under w X).heap.size:=(under_below w X).size
@[go_sem,simp] theorem lt_under (w X:World) (n:Nat) (h:n<w.heap.size):n<(under w X).heap.size:=Nat.lt_of_lt_of_le h (size_under w X)
@[go_sem,simp] theorem le_under (w X:World) (n:Nat) (h:n<=w.heap.size):n<=(under w X).heap.size:=Nat.le_trans h (size_under w X)
@[go_sem,simp] theorem ne_under (w X:World) (n:Nat) (h:n<w.heap.size):(n=(under w X).heap.size)=False:=by have:=size_under w X;simp;omega
noncomputable def stored(w X:World)(p:Addr)(v:Value):World:=(under w X).setCell p v
@[go_sem] theorem setCell_under (w X:World) (n i:Nat) (v:Value) (_h:n<w.heap.size):(under w X).setCell ⟨n,i,none⟩ v=under (w.setCell ⟨n,i,none⟩ v) (stored w X ⟨n,i,none⟩ v):=by
 rw[under_eq (X:=stored w X ⟨n,i,none⟩ v)];· rfl
 have hb:=under_below w X;refine⟨hb.os,hb.tape,hb.output,by simp[stored],fun k hk=>?_⟩;unfold stored World.setCell;simp only[Array.getElem?_modify];rw[hb.block k (by simpa using hk)]
abbrev LtW (n:Nat) (w:World):Prop:=NeZero (w.heap.size-n)
theorem LtW.of{n:Nat}{w:World}(h:n<w.heap.size):LtW n w:=⟨by omega⟩
theorem LtW.lt{n:Nat}{w:World}(h:LtW n w):n<w.heap.size:=by have:=h.out;omega
instance ltw_new (w:World) (o:Obj):NeZero ((w.alloc o).heap.size-w.heap.size):=⟨by simp⟩
instance ltw_succ (w:World) (o:Obj) (n:Nat) [h:NeZero (w.heap.size-n)]:NeZero ((w.alloc o).heap.size-(n+1)):=⟨by have:=h.out;simp;omega⟩
instance ltw_alloc (w:World) (o:Obj) (n:Nat) [h:NeZero (w.heap.size-n)]:NeZero ((w.alloc o).heap.size-n):=⟨by have:=h.out;simp;omega⟩
instance ltw_drew (w:World) (n:Nat) [h:NeZero (w.heap.size-n)]:NeZero (w.drew.heap.size-n):=⟨by have:=h.out;simp;omega⟩
instance ltw_drewN (w:World) (k n:Nat) [h:NeZero (w.heap.size-n)]:NeZero ((w.drewN k).heap.size-n):=⟨by have:=h.out;have:=((Und.refl w).drewN k).size;omega⟩
instance ltw_setCell (w:World) (p:Addr) (v:Value) (n:Nat) [h:NeZero (w.heap.size-n)]:NeZero ((w.setCell p v).heap.size-n):=⟨by have:=h.out;simp;omega⟩
instance ltw_under (w X:World) (n:Nat) [h:NeZero (w.heap.size-n)]:NeZero ((under w X).heap.size-n):=⟨by have:=h.out;have:=size_under w X;omega⟩
@[go_sem high] theorem cell_under' (w X:World) (n i:Nat) [h:NeZero (w.heap.size-n)]:(under w X).cell? ⟨n,i,none⟩=w.cell? ⟨n,i,none⟩:=cell_under w X n i (LtW.lt h)
@[go_sem high] theorem frozen_under' (w X:World) (n i:Nat) [h:NeZero (w.heap.size-n)]:(under w X).frozen? ⟨n,i,none⟩=w.frozen? ⟨n,i,none⟩:=frozen_under w X n i (LtW.lt h)
@[go_sem high] theorem setCell_under' (w X:World) (n i:Nat) (v:Value) [h:NeZero (w.heap.size-n)]:(under w X).setCell ⟨n,i,none⟩ v=under (w.setCell ⟨n,i,none⟩ v) (stored w X ⟨n,i,none⟩ v):=setCell_under w X n i v (LtW.lt h)
@[go_sem high] theorem cell_alloc' (w:World) (o:Obj) (n i:Nat) [h:NeZero (w.heap.size-n)]:(w.alloc o).cell? ⟨n,i,none⟩=w.cell? ⟨n,i,none⟩:=World.cell?_alloc_past o n i (LtW.lt h)
@[go_sem high] theorem frozen_alloc' (w:World) (o:Obj) (n i:Nat) [h:NeZero (w.heap.size-n)]:(w.alloc o).frozen? ⟨n,i,none⟩=w.frozen? ⟨n,i,none⟩:=World.frozen?_alloc_past o n i (LtW.lt h)
@[go_sem high] theorem setCell_alloc' (w:World) (o:Obj) (n i:Nat) (v:Value) [h:NeZero (w.heap.size-n)]:(w.alloc o).setCell ⟨n,i,none⟩ v=(w.setCell ⟨n,i,none⟩ v).alloc o:=World.setCell_alloc_past o n i v (LtW.lt h)
noncomputable def drawnX(w X:World):World:=(under w X).drew
@[go_sem] theorem drew_under (w X:World):(under w X).drew=under w (drawnX w X):=by
 rw[under_eq (X:=drawnX w X)];· rfl
 exact(under_below w X).drew
noncomputable def twiceX(w X Y:World):World:=under (under w X) Y
@[go_sem] theorem under_under (w X Y:World):under (under w X) Y=under w (twiceX w X Y):=by
 rw[under_eq (X:=twiceX w X Y)];· rfl
 exact(((Und.refl w).under X).under Y).below
theorem drewN_under(w X:World)(n:Nat):(under w X).drewN n=under w ((under w X).drewN n):=by
 rw[under_eq (X:=(under w X).drewN n)];exact(((Und.refl w).under X).drewN n).below
theorem wp_region_under{P:Program}{id:Nat}{Q:Exit->Act->World->Prop}{a:Act}{w:World}{l:List Oper}(hm:P.follows .mixedOrders=true)(hB:Region.lexB .any l.toArray=true)
  (h:wpQuiet P l.toArray (fun w'=>∃ X,w'=under w X) (fun a'=>∀ w',(∃ X,w'=under w X)->Q .normal a' w') l a):(Code.region id l.toArray true).wp P Q a w:=
 wp_region_quiet (C:=fun w'=>∃ X,w'=under w X) hm hB (Und.refl w).drew (by simpa using h)
theorem wp_region_under2{P:Program}{id:Nat}{Q:Exit->Act->World->Prop}{a:Act}{w X0:World}{l:List Oper}(hm:P.follows .mixedOrders=true)(hB:Region.lexB .any l.toArray=true)
  (h:wpQuiet P l.toArray (fun w'=>∃ X,w'=under w X) (fun a'=>∀ w',(∃ X,w'=under w X)->Q .normal a' w') l a):(Code.region id l.toArray true).wp P Q a (under w X0):=
 wp_region_quiet (C:=fun w'=>∃ X,w'=under w X) hm hB ((Und.refl w).under X0).drew (by simpa using h)
theorem Calls.under_of{P:Program}{f:FuncId}{args:Array Value}{w X:World}{v:Value}
  (h:Calls P f args (under w X) fun e w'=>e=.returned v/\Und (under w X) w'):Calls P f args (under w X) fun e w''=>e=.returned v/\∃ Y,w''=under w Y:=
 h.mono fun _ _ ⟨he,hm⟩=>⟨he,((Und.refl w).under X).trans hm⟩
theorem hid{p:Prop}(h:p):Hid p:=h
theorem ret_int{k:IntKind}{a b:Int}(h:a=b):Ending.returned (.int k a)=.returned (.int k b):=by rw[h]
theorem ret_bool{a b:Bool}(h:a=b):Ending.returned (.bool a)=.returned (.bool b):=by rw[h]
theorem uUa{a b:World}(h:Und a b)(X:World):Und a (under b X):=h.under X
theorem uUe(a:World):Und a a:=Und.refl a
theorem uUb{a b:World}(h:Und a b)(o:Obj):Und a (b.alloc o):=h.alloc o
theorem uUc{a b:World}(h:Und a b):Und a b.drew:=h.drew
theorem uUd{a b:World}(h:Und a b)(k:Nat):Und a (b.drewN k):=h.drewN k
theorem uZ{a b:World}(h:Und a b:=by apply_rules [uUe,uUa,uUb,uUc,uUd]):Und a b:=h
end Go.Proofs.YtcfhfdphoidaeaaGreatDoor
