/- Worlds of which only new memory is unknown: 'w.under X' is X where X holds w's memory. -/
import Derived.WalkKit
import Derived.WalkSpells
import Derived.WalkLawsBesides
import Derived.Deep.QuietTactic
import Derived.BigQuiet
set_option linter.all false
open Option renaming none->Yq
open Go renaming World->Ys
namespace Go.Proofs.YthoemdibbldndaaGreatDoor
open Go.RowKit
open Classical in
noncomputable def under(w X:Ys):Ys:=if Below w.1.size w X then X else w
theorem jE(w X:Ys):Below w.1.size w (under w X):=by
 unfold under;split
 ·assumption
 exact Below.refl _ _
theorem nr{w X:Ys}(h:Below w.1.size w X):under w X=X:=by unfold under;rw[if_pos h]
def ac(w w':Ys):Prop:=∃X,w'=under w X
theorem ac.mk{w w':Ys}(h:Below w.1.size w w'):ac w w':=⟨w',(nr h).symm⟩
theorem ac.below{w w':Ys}(h:ac w w'):Below w.1.size w w':=by obtain⟨X,rfl⟩:=h;exact jE _ _
theorem ac.refl(w:Ys):ac w w:=ac.mk (Below.refl _ _)
theorem ac.trans{a b c:Ys}(h:ac a b)(k:ac b c):ac a c:=ac.mk (h.below.trans (k.below.mono h.below.size))
theorem ac.under{a b:Ys}(h:ac a b)(X:Ys):ac a (under b X):=h.trans ⟨X,rfl⟩
theorem ac.alloc{a b:Ys}(h:ac a b)(o:Obj):ac a (b.alloc o):=ac.mk (h.below.alloc h.below.size o)
theorem ac.drew{a b:Ys}(h:ac a b):ac a b.drew:=ac.mk h.below.drew
theorem ac.drewN{a b:Ys}(h:ac a b)(n:Nat):ac a (b.drewN n):=by
 induction n with
 | zero=>exact h
 | succ n ih=>exact ih.drew
theorem ac.setCell{a b:Ys}(h:ac a b){p:Addr}(hp:a.1.size<=p.block)(v:Value):ac a (b.setCell p v):=ac.mk (h.below.setCell hp v)
theorem ac.size{a b:Ys}(h:ac a b):a.1.size<=b.1.size:=h.below.size
theorem ac.cell{a b:Ys}(h:ac a b){p:Addr}(hp:p.block<a.1.size):b.cell? p=a.cell? p:=h.below.cell hp
@[go_sem,simp] theorem cell_under (w X:Ys) (n i:Nat) (h:n<w.1.size):(under w X).cell? ⟨n,i,Yq⟩=w.cell? ⟨n,i,Yq⟩:=(jE w X).cell (p:=⟨n,i,Yq⟩) h
@[go_sem,simp] theorem frozen_under (w X:Ys) (n i:Nat) (h:n<w.1.size):(under w X).frozen? ⟨n,i,Yq⟩=w.frozen? ⟨n,i,Yq⟩:=(jE w X).frozen (p:=⟨n,i,Yq⟩) h
theorem ol(w X:Ys):w.1.size<=(under w X).1.size:=(jE w X).size
@[go_sem,simp] theorem lt_under (w X:Ys) (n:Nat) (h:n<w.1.size):n<(under w X).1.size:=Nat.lt_of_lt_of_le h (ol w X)
@[go_sem,simp] theorem le_under (w X:Ys) (n:Nat) (h:n<=w.1.size):n<=(under w X).1.size:=Nat.le_trans h (ol w X)
@[go_sem,simp] theorem ne_under (w X:Ys) (n:Nat) (h:n<w.1.size):(n=(under w X).1.size)=False:=by have:=ol w X;simp;omega
noncomputable def stored(w X:Ys)(p:Addr)(v:Value):Ys:=(under w X).setCell p v
@[go_sem] theorem setCell_under (w X:Ys) (n i:Nat) (v:Value) (_h:n<w.1.size):(under w X).setCell ⟨n,i,Yq⟩ v=under (w.setCell ⟨n,i,Yq⟩ v) (stored w X ⟨n,i,Yq⟩ v):=by
 rw[nr (X:=stored w X ⟨n,i,Yq⟩ v)];· rfl
 have hb:=jE w X;refine⟨hb.os,hb.tape,hb.output,by simp[stored],λk hk=>?_⟩;unfold stored World.setCell;simp only[Array.getElem?_modify];rw[hb.block k (by simpa using hk)]
abbrev af (n:Nat) (w:Ys):Prop:=NeZero (w.1.size-n)
theorem af.of{n:Nat}{w:Ys}(h:n<w.1.size):af n w:=⟨by omega⟩
theorem af.lt{n:Nat}{w:Ys}(h:af n w):n<w.1.size:=by have:=h.out;omega
instance ltw_new (w:Ys) (o:Obj):NeZero ((w.alloc o).1.size-w.1.size):=⟨by simp⟩
instance ltw_succ (w:Ys) (o:Obj) (n:Nat) [h:NeZero (w.1.size-n)]:NeZero ((w.alloc o).1.size-(n+1)):=⟨by have:=h.out;simp;omega⟩
instance ltw_alloc (w:Ys) (o:Obj) (n:Nat) [h:NeZero (w.1.size-n)]:NeZero ((w.alloc o).1.size-n):=⟨by have:=h.out;simp;omega⟩
instance ltw_drew (w:Ys) (n:Nat) [h:NeZero (w.1.size-n)]:NeZero (w.drew.1.size-n):=⟨by have:=h.out;simp;omega⟩
instance ltw_drewN (w:Ys) (k n:Nat) [h:NeZero (w.1.size-n)]:NeZero ((w.drewN k).1.size-n):=⟨by have:=h.out;have:=((ac.refl w).drewN k).size;omega⟩
instance ltw_setCell (w:Ys) (p:Addr) (v:Value) (n:Nat) [h:NeZero (w.1.size-n)]:NeZero ((w.setCell p v).1.size-n):=⟨by have:=h.out;simp;omega⟩
instance ltw_under (w X:Ys) (n:Nat) [h:NeZero (w.1.size-n)]:NeZero ((under w X).1.size-n):=⟨by have:=h.out;have:=ol w X;omega⟩
@[go_sem high] theorem cell_under' (w X:Ys) (n i:Nat) [h:NeZero (w.1.size-n)]:(under w X).cell? ⟨n,i,Yq⟩=w.cell? ⟨n,i,Yq⟩:=cell_under w X n i (af.lt h)
@[go_sem high] theorem frozen_under' (w X:Ys) (n i:Nat) [h:NeZero (w.1.size-n)]:(under w X).frozen? ⟨n,i,Yq⟩=w.frozen? ⟨n,i,Yq⟩:=frozen_under w X n i (af.lt h)
@[go_sem high] theorem setCell_under' (w X:Ys) (n i:Nat) (v:Value) [h:NeZero (w.1.size-n)]:(under w X).setCell ⟨n,i,Yq⟩ v=under (w.setCell ⟨n,i,Yq⟩ v) (stored w X ⟨n,i,Yq⟩ v):=setCell_under w X n i v (af.lt h)
@[go_sem high] theorem cell_alloc' (w:Ys) (o:Obj) (n i:Nat) [h:NeZero (w.1.size-n)]:(w.alloc o).cell? ⟨n,i,Yq⟩=w.cell? ⟨n,i,Yq⟩:=World.cell?_alloc_past o n i (af.lt h)
@[go_sem high] theorem frozen_alloc' (w:Ys) (o:Obj) (n i:Nat) [h:NeZero (w.1.size-n)]:(w.alloc o).frozen? ⟨n,i,Yq⟩=w.frozen? ⟨n,i,Yq⟩:=World.frozen?_alloc_past o n i (af.lt h)
@[go_sem high] theorem setCell_alloc' (w:Ys) (o:Obj) (n i:Nat) (v:Value) [h:NeZero (w.1.size-n)]:(w.alloc o).setCell ⟨n,i,Yq⟩ v=(w.setCell ⟨n,i,Yq⟩ v).alloc o:=World.setCell_alloc_past o n i v (af.lt h)
noncomputable def Jf(w X:Ys):Ys:=(under w X).drew
@[go_sem] theorem drew_under (w X:Ys):(under w X).drew=under w (Jf w X):=by
 rw[nr (X:=Jf w X)];· rfl
 exact(jE w X).drew
noncomputable def K3(w X Y:Ys):Ys:=under (under w X) Y
@[go_sem] theorem under_under (w X Y:Ys):under (under w X) Y=under w (K3 w X Y):=by
 rw[nr (X:=K3 w X Y)];· rfl
 exact(((ac.refl w).under X).under Y).below
theorem Sa(w X:Ys)(n:Nat):(under w X).drewN n=under w ((under w X).drewN n):=by
 rw[nr (X:=(under w X).drewN n)];exact(((ac.refl w).under X).drewN n).below
theorem aS{P:Program}{id:Nat}{Q:Exit->Act->Ys->Prop}{a:Act}{w:Ys}{l:List Oper}(hm:P.follows .mixedOrders=true)(hB:Region.lexB .any l.toArray=true)
  (h:wpQuiet P l.toArray (λw'=>∃X,w'=under w X) (λa'=>∀w',(∃X,w'=under w X)->Q .normal a' w') l a):(Code.region id l.toArray true).wp P Q a w:=
 wp_region_quiet (C:=λw'=>∃X,w'=under w X) hm hB (ac.refl w).drew (by simpa using h)
theorem aP{P:Program}{id:Nat}{Q:Exit->Act->Ys->Prop}{a:Act}{w X0:Ys}{l:List Oper}(hm:P.follows .mixedOrders=true)(hB:Region.lexB .any l.toArray=true)
  (h:wpQuiet P l.toArray (λw'=>∃X,w'=under w X) (λa'=>∀w',(∃X,w'=under w X)->Q .normal a' w') l a):(Code.region id l.toArray true).wp P Q a (under w X0):=
 wp_region_quiet (C:=λw'=>∃X,w'=under w X) hm hB ((ac.refl w).under X0).drew (by simpa using h)
theorem Calls.eE{P:Program}{f:FuncId}{args:Array Value}{w X:Ys}{v:Value}
  (h:Calls P f args (under w X) λe w'=>e=.returned v/\ac (under w X) w'):Calls P f args (under w X) λe w''=>e=.returned v/\∃Y,w''=under w Y:=
 h.mono λ_ _ ⟨he,hm⟩=>⟨he,((ac.refl w).under X).trans hm⟩
theorem aa{p:Prop}(h:p):Hid p:=h
theorem ba{k:IntKind}{a b:Int}(h:a=b):Ending.returned (.int k a)=.returned (.int k b):=by rw[h]
theorem az{a b:Bool}(h:a=b):Ending.returned (.bool a)=.returned (.bool b):=by rw[h]
theorem WR{a b:Ys}(h:ac a b)(X:Ys):ac a (under b X):=h.under X
theorem WV(a:Ys):ac a a:=ac.refl a
theorem WS{a b:Ys}(h:ac a b)(o:Obj):ac a (b.alloc o):=h.alloc o
theorem WT{a b:Ys}(h:ac a b):ac a b.drew:=h.drew
theorem WU{a b:Ys}(h:ac a b)(k:Nat):ac a (b.drewN k):=h.drewN k
theorem uZ{a b:Ys}(h:ac a b:=by apply_rules [WV,WR,WS,WT,WU]):ac a b:=h
