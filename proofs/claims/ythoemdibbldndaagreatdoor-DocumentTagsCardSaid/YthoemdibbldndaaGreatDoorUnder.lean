/- Worlds of which only new memory is unknown: 'w.under X' is X where X holds w's memory. -/
import Derived.WalkKit
import Derived.WalkSpells
import Derived.WalkLawsBesides
import Derived.Deep.QuietTactic
import Derived.BigQuiet
set_option linter.all false
open Option renaming none->UW
open Go renaming World->UY
namespace Go.Proofs.YthoemdibbldndaaGreatDoor
open Go.RowKit
open Classical in
noncomputable def under(w X:UY):UY:=if Below w.1.size w X then X else w
theorem jo(w X:UY):Below w.1.size w (under w X):=by
 unfold under;split
 ·assumption
 exact Below.refl _ _
theorem mB{w X:UY}(h:Below w.1.size w X):under w X=X:=by unfold under;rw[if_pos h]
def ac(w w':UY):Prop:=∃X,w'=under w X
theorem ac.mk{w w':UY}(h:Below w.1.size w w'):ac w w':=⟨w',(mB h).symm⟩
theorem ac.below{w w':UY}(h:ac w w'):Below w.1.size w w':=by obtain⟨X,rfl⟩:=h;exact jo _ _
theorem ac.refl(w:UY):ac w w:=ac.mk (Below.refl _ _)
theorem ac.trans{a b c:UY}(h:ac a b)(k:ac b c):ac a c:=ac.mk (h.below.trans (k.below.mono h.below.size))
theorem ac.under{a b:UY}(h:ac a b)(X:UY):ac a (under b X):=h.trans ⟨X,rfl⟩
theorem ac.alloc{a b:UY}(h:ac a b)(o:Obj):ac a (b.alloc o):=ac.mk (h.below.alloc h.below.size o)
theorem ac.drew{a b:UY}(h:ac a b):ac a b.drew:=ac.mk h.below.drew
theorem ac.drewN{a b:UY}(h:ac a b)(n:Nat):ac a (b.drewN n):=by
 induction n with
 | zero=>exact h
 | succ n ih=>exact ih.drew
theorem ac.setCell{a b:UY}(h:ac a b){p:Addr}(hp:a.1.size<=p.block)(v:Value):ac a (b.setCell p v):=ac.mk (h.below.setCell hp v)
theorem ac.size{a b:UY}(h:ac a b):a.1.size<=b.1.size:=h.below.size
theorem ac.cell{a b:UY}(h:ac a b){p:Addr}(hp:p.block<a.1.size):b.cell? p=a.cell? p:=h.below.cell hp
@[go_sem,simp] theorem cell_under (w X:UY) (n i:Nat) (h:n<w.1.size):(under w X).cell? ⟨n,i,UW⟩=w.cell? ⟨n,i,UW⟩:=(jo w X).cell (p:=⟨n,i,UW⟩) h
@[go_sem,simp] theorem frozen_under (w X:UY) (n i:Nat) (h:n<w.1.size):(under w X).frozen? ⟨n,i,UW⟩=w.frozen? ⟨n,i,UW⟩:=(jo w X).frozen (p:=⟨n,i,UW⟩) h
theorem nN(w X:UY):w.1.size<=(under w X).1.size:=(jo w X).size
@[go_sem,simp] theorem lt_under (w X:UY) (n:Nat) (h:n<w.1.size):n<(under w X).1.size:=Nat.lt_of_lt_of_le h (nN w X)
@[go_sem,simp] theorem le_under (w X:UY) (n:Nat) (h:n<=w.1.size):n<=(under w X).1.size:=Nat.le_trans h (nN w X)
@[go_sem,simp] theorem ne_under (w X:UY) (n:Nat) (h:n<w.1.size):(n=(under w X).1.size)=False:=by have:=nN w X;simp;omega
noncomputable def stored(w X:UY)(p:Addr)(v:Value):UY:=(under w X).setCell p v
@[go_sem] theorem setCell_under (w X:UY) (n i:Nat) (v:Value) (_h:n<w.1.size):(under w X).setCell ⟨n,i,UW⟩ v=under (w.setCell ⟨n,i,UW⟩ v) (stored w X ⟨n,i,UW⟩ v):=by
 rw[mB (X:=stored w X ⟨n,i,UW⟩ v)];· rfl
 have hb:=jo w X;refine⟨hb.os,hb.tape,hb.output,by simp[stored],λk hk=>?_⟩;unfold stored World.setCell;simp only[Array.getElem?_modify];rw[hb.block k (by simpa using hk)]
abbrev af (n:Nat) (w:UY):Prop:=NeZero (w.1.size-n)
theorem af.of{n:Nat}{w:UY}(h:n<w.1.size):af n w:=⟨by omega⟩
theorem af.lt{n:Nat}{w:UY}(h:af n w):n<w.1.size:=by have:=h.out;omega
instance ltw_new (w:UY) (o:Obj):NeZero ((w.alloc o).1.size-w.1.size):=⟨by simp⟩
instance ltw_succ (w:UY) (o:Obj) (n:Nat) [h:NeZero (w.1.size-n)]:NeZero ((w.alloc o).1.size-(n+1)):=⟨by have:=h.out;simp;omega⟩
instance ltw_alloc (w:UY) (o:Obj) (n:Nat) [h:NeZero (w.1.size-n)]:NeZero ((w.alloc o).1.size-n):=⟨by have:=h.out;simp;omega⟩
instance ltw_drew (w:UY) (n:Nat) [h:NeZero (w.1.size-n)]:NeZero (w.drew.1.size-n):=⟨by have:=h.out;simp;omega⟩
instance ltw_drewN (w:UY) (k n:Nat) [h:NeZero (w.1.size-n)]:NeZero ((w.drewN k).1.size-n):=⟨by have:=h.out;have:=((ac.refl w).drewN k).size;omega⟩
instance ltw_setCell (w:UY) (p:Addr) (v:Value) (n:Nat) [h:NeZero (w.1.size-n)]:NeZero ((w.setCell p v).1.size-n):=⟨by have:=h.out;simp;omega⟩
instance ltw_under (w X:UY) (n:Nat) [h:NeZero (w.1.size-n)]:NeZero ((under w X).1.size-n):=⟨by have:=h.out;have:=nN w X;omega⟩
@[go_sem high] theorem cell_under' (w X:UY) (n i:Nat) [h:NeZero (w.1.size-n)]:(under w X).cell? ⟨n,i,UW⟩=w.cell? ⟨n,i,UW⟩:=cell_under w X n i (af.lt h)
@[go_sem high] theorem frozen_under' (w X:UY) (n i:Nat) [h:NeZero (w.1.size-n)]:(under w X).frozen? ⟨n,i,UW⟩=w.frozen? ⟨n,i,UW⟩:=frozen_under w X n i (af.lt h)
@[go_sem high] theorem setCell_under' (w X:UY) (n i:Nat) (v:Value) [h:NeZero (w.1.size-n)]:(under w X).setCell ⟨n,i,UW⟩ v=under (w.setCell ⟨n,i,UW⟩ v) (stored w X ⟨n,i,UW⟩ v):=setCell_under w X n i v (af.lt h)
@[go_sem high] theorem cell_alloc' (w:UY) (o:Obj) (n i:Nat) [h:NeZero (w.1.size-n)]:(w.alloc o).cell? ⟨n,i,UW⟩=w.cell? ⟨n,i,UW⟩:=World.cell?_alloc_past o n i (af.lt h)
@[go_sem high] theorem frozen_alloc' (w:UY) (o:Obj) (n i:Nat) [h:NeZero (w.1.size-n)]:(w.alloc o).frozen? ⟨n,i,UW⟩=w.frozen? ⟨n,i,UW⟩:=World.frozen?_alloc_past o n i (af.lt h)
@[go_sem high] theorem setCell_alloc' (w:UY) (o:Obj) (n i:Nat) (v:Value) [h:NeZero (w.1.size-n)]:(w.alloc o).setCell ⟨n,i,UW⟩ v=(w.setCell ⟨n,i,UW⟩ v).alloc o:=World.setCell_alloc_past o n i v (af.lt h)
noncomputable def GH(w X:UY):UY:=(under w X).drew
@[go_sem] theorem drew_under (w X:UY):(under w X).drew=under w (GH w X):=by
 rw[mB (X:=GH w X)];· rfl
 exact(jo w X).drew
noncomputable def I6(w X Y:UY):UY:=under (under w X) Y
@[go_sem] theorem under_under (w X Y:UY):under (under w X) Y=under w (I6 w X Y):=by
 rw[mB (X:=I6 w X Y)];· rfl
 exact(((ac.refl w).under X).under Y).below
theorem O5(w X:UY)(n:Nat):(under w X).drewN n=under w ((under w X).drewN n):=by
 rw[mB (X:=(under w X).drewN n)];exact(((ac.refl w).under X).drewN n).below
theorem aQ{P:Program}{id:Nat}{Q:Exit->Act->UY->Prop}{a:Act}{w:UY}{l:List Oper}(hm:P.follows .mixedOrders=true)(hB:Region.lexB .any l.toArray=true)
  (h:wpQuiet P l.toArray (λw'=>∃X,w'=under w X) (λa'=>∀w',(∃X,w'=under w X)->Q .normal a' w') l a):(Code.region id l.toArray true).wp P Q a w:=
 wp_region_quiet (C:=λw'=>∃X,w'=under w X) hm hB (ac.refl w).drew (by simpa using h)
theorem aM{P:Program}{id:Nat}{Q:Exit->Act->UY->Prop}{a:Act}{w X0:UY}{l:List Oper}(hm:P.follows .mixedOrders=true)(hB:Region.lexB .any l.toArray=true)
  (h:wpQuiet P l.toArray (λw'=>∃X,w'=under w X) (λa'=>∀w',(∃X,w'=under w X)->Q .normal a' w') l a):(Code.region id l.toArray true).wp P Q a (under w X0):=
 wp_region_quiet (C:=λw'=>∃X,w'=under w X) hm hB ((ac.refl w).under X0).drew (by simpa using h)
theorem Calls.dM{P:Program}{f:FuncId}{args:Array Value}{w X:UY}{v:Value}
  (h:Calls P f args (under w X) λe w'=>e=.returned v/\ac (under w X) w'):Calls P f args (under w X) λe w''=>e=.returned v/\∃Y,w''=under w Y:=
 h.mono λ_ _ ⟨he,hm⟩=>⟨he,((ac.refl w).under X).trans hm⟩
theorem aa{p:Prop}(h:p):Hid p:=h
theorem ba{k:IntKind}{a b:Int}(h:a=b):Ending.returned (.int k a)=.returned (.int k b):=by rw[h]
theorem aD{a b:Bool}(h:a=b):Ending.returned (.bool a)=.returned (.bool b):=by rw[h]
theorem TD{a b:UY}(h:ac a b)(X:UY):ac a (under b X):=h.under X
theorem TH(a:UY):ac a a:=ac.refl a
theorem TE{a b:UY}(h:ac a b)(o:Obj):ac a (b.alloc o):=h.alloc o
theorem TF{a b:UY}(h:ac a b):ac a b.drew:=h.drew
theorem TG{a b:UY}(h:ac a b)(k:Nat):ac a (b.drewN k):=h.drewN k
theorem uZ{a b:UY}(h:ac a b:=by apply_rules [TH,TD,TE,TF,TG]):ac a b:=h
