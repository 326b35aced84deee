/- The contracts of notation's plain and appendText: what is written is no longer than four. -/
import Derived.Test.YtcfhfdphoidaeaaGreatDoorFkA
import Derived.Test.YtcfhfdphoidaeaaGreatDoorFnA
set_option linter.unusedVariables false
set_option linter.unusedSimpArgs false
set_option maxHeartbeats 12800000
set_option maxRecDepth 20000
set_option linter.all false
namespace Go.Proofs.YtcfhfdphoidaeaaGreatDoor
open Go.RowKit
def plainB(c:UInt8):Bool:=if c.toNat=92∨c.toNat=60∨c.toNat=123∨c.toNat=9∨c.toNat=10∨c.toNat=13 then false else !(St.clsB c==1)
theorem plain_any(c:UInt8)(w:World):Calls Tryz.prog 184 #[.int .u8 (c.toNat:Int)] w fun e w'=>e=.returned (.bool (plainB c))/\Und w w':=by
 have HO:=hid (of_any c);have HV:=hid (cls_val c)
 by_cases h:c.toNat=92∨c.toNat=60∨c.toNat=123∨c.toNat=9∨c.toNat=10∨c.toNat=13
 ·have hr:plainB c=false:=by unfold plainB;rw[if_pos h]
  rw[hr];clear hr HO HV;generalize c.toNat=n at h ⊢;rcases h with rfl|rfl|rfl|rfl|rfl|rfl
  all_goals
   go_enter Tryz.func184,Tryz.ntmps184;go_wp2;go_ret;exact⟨rfl,(by apply_rules[uUe,uUa,uUb,uUc,uUd])⟩
 ·have hr:plainB c=!(St.clsB c==1):=by unfold plainB;rw[if_neg h]
  rw[hr];clear hr;generalize c.toNat=n at h HO ⊢;generalize St.clsB c=q at HO HV ⊢;have e1:((n:Int)==92)=false:=by simp;omega
  have e2:((n:Int)==60)=false:=by simp;omega
  have e3:((n:Int)==123)=false:=by simp;omega
  have e4:((n:Int)==9)=false:=by simp;omega
  have e5:((n:Int)==10)=false:=by simp;omega
  have e6:((n:Int)==13)=false:=by simp;omega
  have f1:((n:Int) != 92)=true:=by simp;omega
  have f2:((n:Int) != 60)=true:=by simp;omega
  have f3:((n:Int) != 123)=true:=by simp;omega
  have f4:((n:Int) != 9)=true:=by simp;omega
  have f5:((n:Int) != 10)=true:=by simp;omega
  have f6:((n:Int) != 13)=true:=by simp;omega
  clear h;go_enter Tryz.func184,Tryz.ntmps184;go_wp2_with ((go_at_call 103;refine(HO.out _).mono ?_;rintro e w' ⟨rfl,X,rfl⟩));go_ret;exact⟨rfl,(by apply_rules[uUe,uUa,uUb,uUc,uUd])⟩
theorem and15_all:((List.range 256).all fun n=>decide (bits BinOp.and IntKind.u8 (n:Int) 15=((n % 16:Nat):Int)))=true:=by kernel_rfl
theorem and15(n:Nat)(h:n<256):bits BinOp.and IntKind.u8 (n:Int) 15=((n % 16:Nat):Int):=of_decide_eq_true (List.all_eq_true.1 and15_all n (List.mem_range.2 h))
def ApRel(W0:World)(n0:Nat)(s:ByteArray)(s0 s5:Value)(wr:World):Prop:=
 ∃ (k:Nat) (t:List UInt8),k<=s.size/\s5=.int .i64 k/\t.length<=n0+4*k/\wr.ownsRow W0.heap.size 5 1 s0 t.length (Lib.byteCells t)/\Und W0 wr
theorem byteCells_one(l:List UInt8):∀ u ∈ Lib.byteCells l,u.oneCell'=true:=by
 intro u hu;unfold Lib.byteCells at hu;obtain⟨b,_,rfl⟩:=List.mem_map.1 hu;rfl
theorem built_bytes{W:World}{b:Nat}{l:List UInt8}(h:∀ j x,(Lib.byteCells l)[j]?=some x->W.cell? ⟨b,j,none⟩=some x):∀ (j:Nat) (u:Value),(Lib.byteCells l)[j]?=some u->W.cell? ((⟨b,0,none⟩:Addr).add j)=some u:=by
 intro j u hu;have hadd:(⟨b,0,none⟩:Addr).add j=⟨b,j,none⟩:=by unfold Addr.add;split <;> simp_all
 rw[hadd];exact h j u hu
theorem new_bytes{W:World}{b:Nat}{l:List UInt8}{T:TypeId}(h:W.heap[b]?=some (.cells (Lib.byteCells l).toArray T (0,0))):∀ j x,(Lib.byteCells l)[j]?=some x->W.cell? ⟨b,j,none⟩=some x:=fun j x hx=>by
 rw[zcH h j];simpa using hx
theorem aptext_any(W0:World)(v:Value)(t0:List UInt8)(s:ByteArray)(w:World)(hv:w.ownsRow W0.heap.size 5 1 v t0.length (Lib.byteCells t0))(hu:Und W0 w)(h0:t0.length<=1000000000)(hs:s.size<=1000000000) :
  Calls Tryz.prog 186 #[v,.string s] w fun e w'=>∃ v' t,e=.returned v'/\t.length<=t0.length+4*s.size/\w'.ownsRow W0.heap.size 5 1 v' t.length (Lib.byteCells t)/\Und W0 w':=by
 obtain⟨ib,kb,kz0,kz1,kz2⟩:=info_parts info_byte;have HV:=hid hv;have HU0:=hid hu;clear hv hu;go_enter Tryz.func186,Tryz.ntmps186;go_wp2_with fail;go_loopw [0,5] (fun s0 s5 wr=>ApRel W0 t0.length s s0 s5 wr) (fun _ s5 _=>s.size+1-(intOf s5).toNat)
 case atStart=>exact⟨0,t0,by omega,rfl,by omega,HV.out,HU0.out⟩
 case round=>
  obtain⟨k,t,hk,rfl,htl,hrow,hu⟩:=hrel;have HR:=hid hrow;have HU:=hid hu;have hsz:=hu.size;obtain⟨A,cc,rfl,_⟩:=own_slice hrow;clear HV HU0 hrow hu
  by_cases hlt:k<s.size
  ·have HC:=hid (plain_any s[k])
   have HST:=hid (fun (l:List UInt8) (v':Value) (w4:World) (hl:l.length<=4) (h1:w4.ownsRow W0.heap.size 5 1 v' (t++l).length (Lib.byteCells (t++l))) (h2:Und W0 w4)=>(show ApRel W0 t0.length s v' (.int .i64 ((k:Int)+1)) w4 from
    ⟨k+1,t++l,by omega,congrArg (Value.int .i64) (by omega),by rw[List.length_append];omega,h1,h2⟩))
   cases hp:plainB s[k] with
   | true=>
    rw[hp] at HC;clear hp;go_wp2_with fail;refine(HC.out _).mono ?_;rintro e w' ⟨rfl,X,rfl⟩;go_wp2_with (at_builtin;(with_reducible (refine wpList_append_own _ rfl _ _ 137 rfl W0.heap.size 5 ib (.int .u8 0) 1 1 Tryz.underlying137 kb kz0 kz1 kz2 rfl (by decide) (.slice A t.length cc) t.length (Lib.byteCells t) ?_ (own_und (by apply_rules[uUe,uUa,uUb,uUc,uUd]) HR.out) ?_ 1 1 (Lib.byteCells [s[k]]) ?_ ?_ ?_ ?_ ?_ ?_ ?_ ?_));all_goals (first|rfl|exact byteCells_one _|(unfold maxLen;omega)|omega|skip))
    ·exact built_bytes (new_bytes (heap_alloc_new _ _))
    ·have hsu:=size_under wr X;simp;omega
    ·intro v' w4 hown' hgrow _
     have hu4:=(HU.out.trans (by apply_rules[uUe,uUa,uUb,uUc,uUd])).grown hgrow (fun g hg=>owns_block HR.out g hg);have HE:=hid (HST.out [s[k]] v' w4 (by simp) (by rw[List.length_append,<- byteCells_app];exact hown') hu4);clear hown' hgrow hu4;go_wp2;exact⟨HE.out,by simp[intOf];omega⟩
   | false=>
    rw[hp] at HC;clear hp
    by_cases q10:s[k].toNat=10
    ·have e10:((s[k].toNat:Int)==10)=true:=by simp;omega
     clear q10;go_wp2_with fail;refine(HC.out _).mono ?_;rintro e w' ⟨rfl,X,rfl⟩;go_wp2_with (at_builtin;(with_reducible (refine wpList_append_own _ rfl _ _ 137 rfl W0.heap.size 5 ib (.int .u8 0) 1 1 Tryz.underlying137 kb kz0 kz1 kz2 rfl (by decide) (.slice A t.length cc) t.length (Lib.byteCells t) ?_ (own_und (by apply_rules[uUe,uUa,uUb,uUc,uUd]) HR.out) ?_ 2 2 (Lib.byteCells [92,110]) ?_ ?_ ?_ ?_ ?_ ?_ ?_ ?_));all_goals (first|rfl|exact byteCells_one _|(unfold maxLen;omega)|omega|skip))
     ·exact built_bytes (new_bytes (heap_alloc_new _ _))
     ·have hsu:=size_under wr X;simp;omega
     ·intro v' w4 hown' hgrow _
      have hu4:=(HU.out.trans (by apply_rules[uUe,uUa,uUb,uUc,uUd])).grown hgrow (fun g hg=>owns_block HR.out g hg);have HE:=hid (HST.out [92,110] v' w4 (by simp) (by rw[List.length_append,<- byteCells_app];exact hown') hu4);clear hown' hgrow hu4;go_wp2;exact⟨HE.out,by simp[intOf];omega⟩
    have e10:((s[k].toNat:Int)==10)=false:=by simp;omega
    by_cases q9:s[k].toNat=9
    ·have e9:((s[k].toNat:Int)==9)=true:=by simp;omega
     clear q9;go_wp2_with fail;refine(HC.out _).mono ?_;rintro e w' ⟨rfl,X,rfl⟩;go_wp2_with (at_builtin;(with_reducible (refine wpList_append_own _ rfl _ _ 137 rfl W0.heap.size 5 ib (.int .u8 0) 1 1 Tryz.underlying137 kb kz0 kz1 kz2 rfl (by decide) (.slice A t.length cc) t.length (Lib.byteCells t) ?_ (own_und (by apply_rules[uUe,uUa,uUb,uUc,uUd]) HR.out) ?_ 2 2 (Lib.byteCells [92,116]) ?_ ?_ ?_ ?_ ?_ ?_ ?_ ?_));all_goals (first|rfl|exact byteCells_one _|(unfold maxLen;omega)|omega|skip))
     ·exact built_bytes (new_bytes (heap_alloc_new _ _))
     ·have hsu:=size_under wr X;simp;omega
     ·intro v' w4 hown' hgrow _
      have hu4:=(HU.out.trans (by apply_rules[uUe,uUa,uUb,uUc,uUd])).grown hgrow (fun g hg=>owns_block HR.out g hg);have HE:=hid (HST.out [92,116] v' w4 (by simp) (by rw[List.length_append,<- byteCells_app];exact hown') hu4);clear hown' hgrow hu4;go_wp2;exact⟨HE.out,by simp[intOf];omega⟩
    have e9:((s[k].toNat:Int)==9)=false:=by simp;omega
    by_cases q92:s[k].toNat=92
    ·have e92:((s[k].toNat:Int)==92)=true:=by simp;omega
     clear q92;go_wp2_with fail;refine(HC.out _).mono ?_;rintro e w' ⟨rfl,X,rfl⟩;go_wp2_with (at_builtin;(with_reducible (refine wpList_append_own _ rfl _ _ 137 rfl W0.heap.size 5 ib (.int .u8 0) 1 1 Tryz.underlying137 kb kz0 kz1 kz2 rfl (by decide) (.slice A t.length cc) t.length (Lib.byteCells t) ?_ (own_und (by apply_rules[uUe,uUa,uUb,uUc,uUd]) HR.out) ?_ 2 2 (Lib.byteCells [92,s[k]]) ?_ ?_ ?_ ?_ ?_ ?_ ?_ ?_));all_goals (first|rfl|exact byteCells_one _|(unfold maxLen;omega)|omega|skip))
     ·exact built_bytes (new_bytes (heap_alloc_new _ _))
     ·have hsu:=size_under wr X;simp;omega
     ·intro v' w4 hown' hgrow _
      have hu4:=(HU.out.trans (by apply_rules[uUe,uUa,uUb,uUc,uUd])).grown hgrow (fun g hg=>owns_block HR.out g hg);have HE:=hid (HST.out [92,s[k]] v' w4 (by simp) (by rw[List.length_append,<- byteCells_app];exact hown') hu4);clear hown' hgrow hu4;go_wp2;exact⟨HE.out,by simp[intOf];omega⟩
    have e92:((s[k].toNat:Int)==92)=false:=by simp;omega
    by_cases q60:s[k].toNat=60
    ·have e60:((s[k].toNat:Int)==60)=true:=by simp;omega
     clear q60;go_wp2_with fail;refine(HC.out _).mono ?_;rintro e w' ⟨rfl,X,rfl⟩;go_wp2_with (at_builtin;(with_reducible (refine wpList_append_own _ rfl _ _ 137 rfl W0.heap.size 5 ib (.int .u8 0) 1 1 Tryz.underlying137 kb kz0 kz1 kz2 rfl (by decide) (.slice A t.length cc) t.length (Lib.byteCells t) ?_ (own_und (by apply_rules[uUe,uUa,uUb,uUc,uUd]) HR.out) ?_ 2 2 (Lib.byteCells [92,s[k]]) ?_ ?_ ?_ ?_ ?_ ?_ ?_ ?_));all_goals (first|rfl|exact byteCells_one _|(unfold maxLen;omega)|omega|skip))
     ·exact built_bytes (new_bytes (heap_alloc_new _ _))
     ·have hsu:=size_under wr X;simp;omega
     ·intro v' w4 hown' hgrow _
      have hu4:=(HU.out.trans (by apply_rules[uUe,uUa,uUb,uUc,uUd])).grown hgrow (fun g hg=>owns_block HR.out g hg);have HE:=hid (HST.out [92,s[k]] v' w4 (by simp) (by rw[List.length_append,<- byteCells_app];exact hown') hu4);clear hown' hgrow hu4;go_wp2;exact⟨HE.out,by simp[intOf];omega⟩
    have e60:((s[k].toNat:Int)==60)=false:=by simp;omega
    by_cases q123:s[k].toNat=123
    ·have e123:((s[k].toNat:Int)==123)=true:=by simp;omega
     clear q123;go_wp2_with fail;refine(HC.out _).mono ?_;rintro e w' ⟨rfl,X,rfl⟩;go_wp2_with (at_builtin;(with_reducible (refine wpList_append_own _ rfl _ _ 137 rfl W0.heap.size 5 ib (.int .u8 0) 1 1 Tryz.underlying137 kb kz0 kz1 kz2 rfl (by decide) (.slice A t.length cc) t.length (Lib.byteCells t) ?_ (own_und (by apply_rules[uUe,uUa,uUb,uUc,uUd]) HR.out) ?_ 2 2 (Lib.byteCells [92,s[k]]) ?_ ?_ ?_ ?_ ?_ ?_ ?_ ?_));all_goals (first|rfl|exact byteCells_one _|(unfold maxLen;omega)|omega|skip))
     ·exact built_bytes (new_bytes (heap_alloc_new _ _))
     ·have hsu:=size_under wr X;simp;omega
     ·intro v' w4 hown' hgrow _
      have hu4:=(HU.out.trans (by apply_rules[uUe,uUa,uUb,uUc,uUd])).grown hgrow (fun g hg=>owns_block HR.out g hg);have HE:=hid (HST.out [92,s[k]] v' w4 (by simp) (by rw[List.length_append,<- byteCells_app];exact hown') hu4);clear hown' hgrow hu4;go_wp2;exact⟨HE.out,by simp[intOf];omega⟩
    have e123:((s[k].toNat:Int)==123)=false:=by simp;omega
    go_wp2_with fail;refine(HC.out _).mono ?_;rintro e w' ⟨rfl,X,rfl⟩;go_wp2_with fail;refine wp_region_factsR (fun a b=>a.grownBy b (Value.slice A t.length cc).ownBlock) (fun ρ L W=>Und W0 W/\(if L 8=true then ∃ l2:List UInt8,l2.length<=4/\W.ownsRow W0.heap.size 5 1 (ρ 8) (t++l2).length (Lib.byteCells (t++l2)) else W.ownsRow W0.heap.size 5 1 (.slice A t.length cc) t.length (Lib.byteCells t))/\(L 9=true->ρ 9=ρ 8)) [fun v _=>v=.slice A t.length cc,fun v _=>v=.int .u8 (s[k].toNat:Int),fun v _=>∃ q:Nat,q<16/\v=.int .u8 (q:Int),fun v _=>∃ b:UInt8,v=.int .u8 (b.toNat:Int),fun v _=>v=.int .u8 (s[k].toNat:Int),fun v _=>∃ q:Nat,q<16/\v=.int .u8 (q:Int),fun v _=>∃ b:UInt8,v=.int .u8 (b.toNat:Int),fun v W=>∃ (g:Nat) (b1 b2:UInt8),v=.slice (some ⟨g,0,none⟩) 4 4/\W0.heap.size<=g/\(Value.slice A t.length cc).ownBlock ≠ some g/\g<W.heap.size/\∀ j x,(Lib.byteCells [92,120,b1,b2])[j]?=some x->W.cell? ⟨g,j,none⟩=some x,noFact,noFact] (fun a=>gb_refl a _) (fun a b c h h'=>gb_trans h h' (fun g e=>.inl e)) (by kernel_rfl) (by rfl) (by kernel_rfl) (by kernel_rfl) ?frn ?hfr ?hI ?hob ?hend
    case hfr=>
     intro ρ;simp only[putAll,Act.put,zsA,zsB,zsC,Nat.zero_add,Nat.reduceAdd];exact rfl
    case hI=>
     intro ρ;exact⟨(HU.out.trans (by apply_rules[uUe,uUa,uUb,uUc,uUd])),by rw[if_neg (by simp)];exact own_und (by apply_rules[uUe,uUa,uUb,uUc,uUd]) HR.out,fun h=>by simp at h⟩
    case hob=>
     refine ObsG.cons (fun ρ L W hR hI hL hD hO hF K hK=>?_) ?_
     ·skip
      have hp9:L 9=false:=hD.not (p:=9) rfl (by decide) hL;have e9:ρ 9=.slice A t.length cc:=hO 9 _ 0 rfl rfl hp9;clear hF hO;simp only[Act.put,zsA,zsB,zsC] at hK ⊢;rw[e9] at hK ⊢;go_simp;refine hK _ _ (gb_refl _ _) ⟨hI.1,by simpa [updB,upd] using hI.2.1,fun h=>by simpa [upd] using hI.2.2 (by simpa [updB] using h)⟩ (fun W2 h2=>?_);rfl
     refine ObsG.cons (fun ρ L W hR hI hL hD hO hF K hK=>?_) ?_
     ·skip
      clear hF hO;simp only[Act.put,zsA,zsB,zsC] at hK ⊢;go_simp;refine hK _ _ (gb_refl _ _) ⟨hI.1,by simpa [updB,upd] using hI.2.1,fun h=>by simpa [upd] using hI.2.2 (by simpa [updB] using h)⟩ (fun W2 h2=>?_);rfl
     refine ObsG.cons (fun ρ L W hR hI hL hD hO hF K hK=>?_) ?_
     ·skip
      have f1:=allF_get hF (j:=1) (by decide);clear hF hO;simp only[Act.put,zsA,zsB,zsC] at hK ⊢;have e1:ρ 1=.int .u8 (s[k].toNat:Int):=f1;rw[e1] at hK ⊢;have hc8:=s[k].toNat_lt;go_simp;refine hK _ _ (gb_refl _ _) ⟨hI.1,by simpa [updB,upd] using hI.2.1,fun h=>by simpa [upd] using hI.2.2 (by simpa [updB] using h)⟩ (fun W2 h2=>?_);exact⟨s[k].toNat / 16,by omega,by first|rfl|(simp;done)|(simp;omega)⟩
     refine ObsG.cons (fun ρ L W hR hI hL hD hO hF K hK=>?_) ?_
     ·skip
      have f2:=allF_get hF (j:=2) (by decide);clear hF hO;simp only[Act.put,zsA,zsB,zsC] at hK ⊢;obtain⟨q,hq,e2⟩:=f2;rw[e2] at hK ⊢;have hq2:(q:Int)<16:=by omega
      go_simp;refine hK _ _ (gb_refl _ _) ⟨hI.1,by simpa [updB,upd] using hI.2.1,fun h=>by simpa [upd] using hI.2.2 (by simpa [updB] using h)⟩ (fun W2 h2=>?_);exact⟨_,rfl⟩
     refine ObsG.cons (fun ρ L W hR hI hL hD hO hF K hK=>?_) ?_
     ·skip
      clear hF hO;simp only[Act.put,zsA,zsB,zsC] at hK ⊢;go_simp;refine hK _ _ (gb_refl _ _) ⟨hI.1,by simpa [updB,upd] using hI.2.1,fun h=>by simpa [upd] using hI.2.2 (by simpa [updB] using h)⟩ (fun W2 h2=>?_);rfl
     refine ObsG.cons (fun ρ L W hR hI hL hD hO hF K hK=>?_) ?_
     ·skip
      have f4:=allF_get hF (j:=4) (by decide);clear hF hO;simp only[Act.put,zsA,zsB,zsC] at hK ⊢;have e4:ρ 4=.int .u8 (s[k].toNat:Int):=f4;rw[e4] at hK ⊢;have hc8:=s[k].toNat_lt;go_simp;refine hK _ _ (gb_refl _ _) ⟨hI.1,by simpa [updB,upd] using hI.2.1,fun h=>by simpa [upd] using hI.2.2 (by simpa [updB] using h)⟩ (fun W2 h2=>?_);exact⟨s[k].toNat % 16,by omega,by first|rw[and15 _ hc8]|rfl⟩
     refine ObsG.cons (fun ρ L W hR hI hL hD hO hF K hK=>?_) ?_
     ·skip
      have f5:=allF_get hF (j:=5) (by decide);clear hF hO;simp only[Act.put,zsA,zsB,zsC] at hK ⊢;obtain⟨q,hq,e5⟩:=f5;rw[e5] at hK ⊢;have hq2:(q:Int)<16:=by omega
      go_simp;refine hK _ _ (gb_refl _ _) ⟨hI.1,by simpa [updB,upd] using hI.2.1,fun h=>by simpa [upd] using hI.2.2 (by simpa [updB] using h)⟩ (fun W2 h2=>?_);exact⟨_,rfl⟩
     refine ObsG.cons (fun ρ L W hR hI hL hD hO hF K hK=>?_) ?_
     ·skip
      have f3:=allF_get hF (j:=3) (by decide);have f6:=allF_get hF (j:=6) (by decide);clear hF hO;simp only[Act.put,zsA,zsB,zsC] at hK ⊢;have hp8:L 8=false:=hD.not (p:=8) rfl (by decide) hL;obtain⟨b1,e3⟩:=f3;obtain⟨b2,e6⟩:=f6;rw[e3,e6] at hK ⊢;have hrow:W.ownsRow W0.heap.size 5 1 (.slice A t.length cc) t.length (Lib.byteCells t):=by simpa [hp8] using hI.2.1
      have hlt9:=fun g h=>(hrow.lt g h).2
      go_simp;refine hK _ _ ((Und.alloc (Und.refl _) _).gb _) ⟨hI.1.alloc _,by simpa [updB,upd,hp8] using own_und ((Und.refl W).alloc _) hrow,fun h=>by simpa [upd] using hI.2.2 (by simpa [updB] using h)⟩ (fun W2 h2=>?_);have hne:(Value.slice A t.length cc).ownBlock ≠ some W.heap.size:=fun e=>by have:=hlt9 _ e;omega
      refine⟨W.heap.size,b1,b2,rfl,hI.1.size,hne,Nat.lt_of_lt_of_le (by simp) h2.size,fun j x hx=>?_⟩;exact(gb_cell h2 (p:=⟨W.heap.size,j,none⟩) (by simp) (Ne.symm hne)).trans (new_bytes (heap_alloc_new W _) j x hx)
     refine ObsG.cons (fun ρ L W hR hI hL hD hO hF K hK=>?_) ?_
     ·skip
      have f0:=allF_get hF (j:=0) (by decide);have f7:=allF_get hF (j:=7) (by decide);clear hF hO;simp only[Act.put,zsA,zsB,zsC] at hK ⊢;have e0:ρ 0=.slice A t.length cc:=f0;obtain⟨g,b1,b2,e7,hg1,hg2,hg3,hg4⟩:=f7;rw[e0,e7] at hK ⊢;have hrow:W.ownsRow W0.heap.size 5 1 (.slice A t.length cc) t.length (Lib.byteCells t):=by simpa [hL] using hI.2.1
      have h9:L 9=false:=hD.not (p:=9) rfl (by decide) hL;refine step_append_own (o:=⟨some 24,_,_,_,_,_⟩) rfl _ _ 137 rfl W0.heap.size 5 ib (.int .u8 0) 1 1 Tryz.underlying137 kb kz0 kz1 kz2 rfl (by decide) (.slice A t.length cc) t.length _ rfl hrow ⟨g,0,none⟩ 4 4 (Lib.byteCells [92,120,b1,b2]) rfl rfl (built_bytes hg4) (byteCells_one _) (by unfold maxLen;omega) (by omega) hI.1.size ?_;intro v' w4 ho hg _;rw[byteCells_app] at ho;exact hK _ _ hg ⟨hI.1.grown hg (fun x hx=>owns_block hrow x hx),by rw[if_pos (by simp[updB])];exact⟨[92,120,b1,b2],by simp,by rw[List.length_append];simpa [upd] using ho⟩,fun h=>by simp[updB,h9] at h⟩ (fun _ _=>trivial)
     refine ObsG.cons (fun ρ L W hR hI hL hD hO hF K hK=>?_) ?_
     ·skip
      have f8:=allF_get hF (j:=8) (by decide);clear hF hO;simp only[Act.put,zsA,zsB,zsC] at hK ⊢;go_simp;refine hK _ _ (gb_refl _ _) ⟨hI.1,by simpa [updB,upd] using hI.2.1,fun h=>by simp[upd]⟩ (fun W2 h2=>trivial)
     exact ObsG.nil
    case hend=>
     intro ρ L W hR hI hL hF;have h8:L 8=true:=hL 8 (by decide);have h9:L 9=true:=hL 9 (by decide);obtain⟨hu,hrow,h98⟩:=hI;rw[if_pos h8] at hrow;obtain⟨l2,hl2,hrow⟩:=hrow;have HE:=hid (HST.out l2 (ρ 9) W hl2 (by rw[h98 h9];exact hrow) hu);clear hrow hu h98 hR hL hF h8 h9;go_wp2;exact⟨HE.out,by simp[intOf];omega⟩
  ·have hks:k=s.size:=by omega
   subst hks;clear hlt;go_wp2;go_ret;exact⟨_,t,rfl,by omega,HR.out,HU.out⟩
end Go.Proofs.YtcfhfdphoidaeaaGreatDoor
set_option linter.all false
namespace Go.Proofs.YtcfhfdphoidaeaaGreatDoor
open Go.RowKit
theorem dec_small_all:((List.range 100).all fun n=>decide ((Lib.decDigits n).length<=2))=true:=by kernel_rfl
theorem dec_small(n:Nat)(h:n<100):(Lib.decDigits n).length<=2:=of_decide_eq_true (List.all_eq_true.1 dec_small_all n (List.mem_range.2 h))
theorem bsz(a:Array UInt8):(⟨a⟩:ByteArray).size=a.size:=rfl
theorem app_row{w:World}{B N:Nat}{v:Value}{t:List UInt8}{s:ByteArray}(h:w.ownsRow B 5 1 v N (Lib.byteCells t++Lib.strCells s)):w.ownsRow B 5 1 v (t++s.data.toList).length (Lib.byteCells (t++s.data.toList))/\(t++s.data.toList).length=N:=by
 have h1:=h.1;have e:Lib.byteCells t++Lib.strCells s=Lib.byteCells (t++s.data.toList):=by rw[<- byteCells_app];rfl
 rw[e] at h h1;rw[Lib.byteCells_length,Nat.mul_one] at h1;exact⟨by rw[h1];exact h,h1⟩
theorem conv_ownE{w:World}{B n c:Nat}{A:Option Addr}{l:List UInt8}(h:w.ownsRow B 5 1 (.slice A n c) n (Lib.byteCells l)) :
  (convert 137 9 (.slice A n c)).run Tryz.prog w=.ok (.string ⟨l.toArray⟩) w:=by
 rcases Nat.eq_zero_or_pos n with h0|h0
 ·subst h0
  have hl:l=[]:=by
   have h1:=h.1;rw[Lib.byteCells_length] at h1;exact List.eq_nil_of_length_eq_zero (by simpa using h1)
  subst hl;rcases h.2 with ⟨hv,_⟩|⟨g,cap,cur,hv,_⟩
  ·simp only[Value.slice.injEq] at hv
   obtain⟨rfl,_,rfl⟩:=hv;rw[run_convert_bytes_nil (P:=Tryz.prog) w 137 5 Tryz.underlying137 Tryz.underlying5 0 0 9 Tryz.underlying9];rfl
  ·simp only[Value.slice.injEq] at hv
   obtain⟨rfl,_,rfl⟩:=hv;rw[run_convert_bytes_arg w 137 5 Tryz.underlying137 Tryz.underlying5 g 0 0 _ [] rfl (fun i hi=>absurd hi (by omega)) _ Tryz.underlying9];rfl
 ·exact conv_own0 h h0
def FmRel(w:World)(f:List St.It)(n:Nat)(s5 s16:Value)(wr:World):Prop:=
 ∃ (k:Nat) (t:List UInt8),k<=n/\s16=.int .i64 k/\t.length<=4*tot (f.take k)+9*k/\wr.ownsRow w.heap.size 5 1 s5 t.length (Lib.byteCells t)/\Und w wr
theorem format_any(A:Option Addr)(n c:Nat)(f:List St.It)(w:World)(hn:f.length=n)(hf:St.Fr.FragOk f)(hc:n<=c)(hc63:c<=9223372036854775807)(hA:ItemsAt w A f) :
  Calls Tryz.prog 130 #[.slice A n c] w fun e w'=>∃ s:ByteArray,e=.returned (.tuple #[.string s,.int .i64 0])/\s.size<=10000/\Und w w':=by
 obtain⟨ib,kb,kz0,kz1,kz2⟩:=info_parts info_byte;have hl:=hf.len;have HN:=hid hn;have HA:=hid hA;have HTT:=hid (show tot f<=700 from hf.txt);have HSM:=hid hf.small;have HKD:=hid (valid_kind hf.valid);have H1:=hid (ivalid_any A n c f w hn hc hc63 hA (by omega) (Nat.le_trans HTT.out (by omega)));rw[hf.valid] at H1;rw[hn] at hl;clear hA hf hn;go_enter Tryz.func130,Tryz.ntmps130;go_wp2_with fail;refine H1.out.mono ?_;rintro e w1 ⟨rfl,hu1⟩;have HU1:=hid hu1;clear hu1 H1;go_wp2_with fail;go_loopw [5,16] (fun s5 s16 wr=>FmRel w f n s5 s16 wr) (fun _ s16 _=>n+1-(intOf s16).toNat)
 case atStart=>exact⟨0,[],by omega,rfl,by simp,World.ownsRow_nil _ _ _ _,HU1.out⟩
 case round=>
  obtain⟨k,t,hk,rfl,htl,hrow,hu⟩:=hrel;have HR:=hid hrow;have HU:=hid hu;have hsz:=hu.size;have htk:=tot_tk_le f k;have hT:=HTT.out;obtain⟨AB,cB,rfl,_⟩:=own_slice hrow
  by_cases hlt:k<n
  ·have hlt2:k<f.length:=by rw[HN.out];exact hlt
   obtain⟨b,off,rfl,hb,hcc⟩:=(HA.out.und hu) (by omega);obtain⟨c0,c1,c2⟩:=hcc k hlt2;have htt:=tot_tk f k hlt2;have htk2:=tot_tk_le f (k+1);have hsm:=HSM.out _ (List.getElem_mem hlt2);have hkd:=HKD.out _ (List.getElem_mem hlt2);generalize f[k]=x at c0 c1 c2 htt hsm hkd;obtain⟨kd,tx,id⟩:=x;simp only at c0 c1 c2 htt hsm hkd;haveI:LtW b wr:=LtW.of hb;obtain⟨m,rfl⟩:∃ m:Nat,id=(m:Int):=⟨id.toNat,by omega⟩;have hm:m<100:=by omega
   have hdl:=dec_small m hm;have HIT:=hid (fun W=>Tryz.strconv_Itoa_small m hm W);obtain⟨d,hd⟩:∃ d:ByteArray,(⟨(Lib.decDigits m).toArray⟩:ByteArray)=d:=⟨_,rfl⟩;rw[hd] at HIT;have hdz:d.size<=2:=by rw[<- hd];show (Lib.decDigits m).toArray.size<=2;simpa using hdl
   obtain⟨xs,hxs⟩:∃ xs:ByteArray,(⟨tx.toArray⟩:ByteArray)=xs:=⟨_,rfl⟩;have hxz:xs.size=tx.length:=by rw[<- hxs];show tx.toArray.size=_;simp
   rw[hxs] at c1
   have HE:=hid (fun (v':Value) (t':List UInt8) (W:World) (h1:t'.length<=t.length+(4*tx.length+9)) (h2:W.ownsRow w.heap.size 5 1 v' t'.length (Lib.byteCells t')) (h3:Und w W)=>(show FmRel w f n v' (.int .i64 ((k:Int)+1)) W from
    ⟨k+1,t',by omega,congrArg (Value.int .i64) (by omega),by omega,h2,h3⟩))
   clear hcc hsm hdl hd hxs hu hrow;rcases hkd with rfl|rfl|hkt
   ·go_wp2_with (go_at_call 161;refine(HIT.out _).mono ?_;rintro e w' ⟨rfl,rfl⟩)
    refine(aptext_any w _ t xs _ (own_und (by apply_rules[uUe,uUa,uUb,uUc,uUd]) HR.out) (HU.out.trans (by apply_rules[uUe,uUa,uUb,uUc,uUd])) (by omega) (by omega)).mono ?_;rintro e w5 ⟨v5,t5,rfl,hl5,ho5,hu5⟩;have HE5:=hid (HE.out v5 t5 w5 (by omega) ho5 hu5);clear hl5 ho5 hu5;go_wp2;exact⟨HE5.out,by simp[intOf];omega⟩
   ·go_wp2_with fail
    refine(HIT.out _).mono ?_;rintro e w' ⟨rfl,rfl⟩;go_wp2_with (at_builtin;(with_reducible (refine Lib.wpList_append_own_string _ rfl _ _ 137 9 rfl w.heap.size 5 ib Tryz.underlying137 Tryz.underlying9 kb kz0 kz1 kz2 (.slice AB t.length cB) t.length (Lib.byteCells t) ?_ (own_und (by apply_rules[uUe,uUa,uUb,uUc,uUd]) HR.out) ?_ ?_ ?_ ?_ ?_ ?_));all_goals (first|rfl|skip))
    ·simp only[ByteArray.size_append,bsz,hxz,List.size_toArray,List.length_cons,List.length_nil];unfold maxLen;omega
    ·simp only[ByteArray.size_append,bsz,hxz,List.size_toArray,List.length_cons,List.length_nil];omega
    ·simp;omega
    ·intro v' w4 hown' hgrow _
     have hu4:=(HU.out.trans (by apply_rules[uUe,uUa,uUb,uUc,uUd])).grown hgrow (fun g hg=>owns_block HR.out g hg);have HE4:=hid (HE.out v' _ w4 (by rw[(app_row hown').2];omega) (app_row hown').1 hu4);clear hown' hgrow hu4;go_wp2;exact⟨HE4.out,by simp[intOf];omega⟩
   ·have hk3:kd=2∨kd=3∨kd=4:=by unfold St.isTagK at hkt;simpa using hkt
    clear hkt;rcases hk3 with rfl|rfl|rfl
    ·go_wp2_with fail
     refine(HIT.out _).mono ?_;rintro e w' ⟨rfl,rfl⟩;go_wp2_with (at_builtin;(with_reducible (refine Lib.wpList_append_own_string _ rfl _ _ 137 9 rfl w.heap.size 5 ib Tryz.underlying137 Tryz.underlying9 kb kz0 kz1 kz2 (.slice AB t.length cB) t.length (Lib.byteCells t) ?_ (own_und (by apply_rules[uUe,uUa,uUb,uUc,uUd]) HR.out) ?_ ?_ ?_ ?_ ?_ ?_));all_goals (first|rfl|skip))
     ·simp only[ByteArray.size_append,bsz,hxz,List.size_toArray,List.length_cons,List.length_nil];unfold maxLen;omega
     ·simp only[ByteArray.size_append,bsz,hxz,List.size_toArray,List.length_cons,List.length_nil];omega
     ·simp;omega
     ·intro v' w4 hown' hgrow _
      have hu4:=(HU.out.trans (by apply_rules[uUe,uUa,uUb,uUc,uUd])).grown hgrow (fun g hg=>owns_block HR.out g hg);have HE4:=hid (HE.out v' _ w4 (by rw[(app_row hown').2];omega) (app_row hown').1 hu4);clear hown' hgrow hu4;go_wp2;exact⟨HE4.out,by simp[intOf];omega⟩
    ·go_wp2_with fail
     refine(HIT.out _).mono ?_;rintro e w' ⟨rfl,rfl⟩;go_wp2_with (at_builtin;(with_reducible (refine Lib.wpList_append_own_string _ rfl _ _ 137 9 rfl w.heap.size 5 ib Tryz.underlying137 Tryz.underlying9 kb kz0 kz1 kz2 (.slice AB t.length cB) t.length (Lib.byteCells t) ?_ (own_und (by apply_rules[uUe,uUa,uUb,uUc,uUd]) HR.out) ?_ ?_ ?_ ?_ ?_ ?_));all_goals (first|rfl|skip))
     ·simp only[ByteArray.size_append,bsz,hxz,List.size_toArray,List.length_cons,List.length_nil];unfold maxLen;omega
     ·simp only[ByteArray.size_append,bsz,hxz,List.size_toArray,List.length_cons,List.length_nil];omega
     ·simp;omega
     ·intro v' w4 hown' hgrow _
      have hu4:=(HU.out.trans (by apply_rules[uUe,uUa,uUb,uUc,uUd])).grown hgrow (fun g hg=>owns_block HR.out g hg);have HE4:=hid (HE.out v' _ w4 (by rw[(app_row hown').2];omega) (app_row hown').1 hu4);clear hown' hgrow hu4;go_wp2;exact⟨HE4.out,by simp[intOf];omega⟩
    ·go_wp2_with fail
     refine(HIT.out _).mono ?_;rintro e w' ⟨rfl,rfl⟩;go_wp2_with (at_builtin;(with_reducible (refine Lib.wpList_append_own_string _ rfl _ _ 137 9 rfl w.heap.size 5 ib Tryz.underlying137 Tryz.underlying9 kb kz0 kz1 kz2 (.slice AB t.length cB) t.length (Lib.byteCells t) ?_ (own_und (by apply_rules[uUe,uUa,uUb,uUc,uUd]) HR.out) ?_ ?_ ?_ ?_ ?_ ?_));all_goals (first|rfl|skip))
     ·simp only[ByteArray.size_append,bsz,hxz,List.size_toArray,List.length_cons,List.length_nil];unfold maxLen;omega
     ·simp only[ByteArray.size_append,bsz,hxz,List.size_toArray,List.length_cons,List.length_nil];omega
     ·simp;omega
     ·intro v' w4 hown' hgrow _
      have hu4:=(HU.out.trans (by apply_rules[uUe,uUa,uUb,uUc,uUd])).grown hgrow (fun g hg=>owns_block HR.out g hg);have HE4:=hid (HE.out v' _ w4 (by rw[(app_row hown').2];omega) (app_row hown').1 hu4);clear hown' hgrow hu4;go_wp2;exact⟨HE4.out,by simp[intOf];omega⟩
  ·have hkn:k=n:=by omega
   subst hkn;have hft:f.take k=f:=List.take_of_length_le (by rw[HN.out];exact Nat.le_refl _);rw[hft] at htl;clear hlt htk hft hu hrow;have hcv:=conv_ownE HR.out;have hz:(⟨t.toArray⟩:ByteArray).size=t.length:=by show t.toArray.size=_;simp
   generalize (⟨t.toArray⟩:ByteArray)=S at hcv hz;go_wp2;go_ret2;exact⟨S,rfl,by omega,HU.out⟩
theorem join_any(A B:Option Addr)(n c d:Nat)(f:List St.It)(w:World)(hn:f.length=n)(hf:St.Fr.FragOk f)(hc:n<=c)(hc63:c<=9223372036854775807)(hA:ItemsAt w A f) :
  Calls Tryz.prog 77 #[entV A B n c d] w fun e w'=>∃ s:ByteArray,e=.returned (.string s)/\Und w w':=by
 have HF:=hid (fun W (u:Und w W)=>format_any A n c f W hn hf hc hc63 (hA.und u));clear hA hf hn;unfold entV;go_enter Tryz.func77,Tryz.ntmps77;go_wp2_with fail;refine(HF.out _ (by apply_rules[uUe,uUa,uUb,uUc,uUd])).mono ?_;rintro e w1 ⟨s,rfl,hs,X,rfl⟩;go_wp2;go_ret;exact⟨_,rfl,(by apply_rules[uUe,uUa,uUb,uUc,uUd])⟩
theorem key_entry(A B:Option Addr)(n c d:Nat)(f:List St.It)(w:World)(hn:f.length=n)(h0:0<n)(hf:St.Fr.FragOk f)(hc:n<=c)(hc63:c<=9223372036854775807)(hd:n<=d)(hd63:d<=9223372036854775807)(hA:ItemsAt w A f)(hB:ItemsAt w B f) :
  Calls Tryz.prog 29 #[entV A B n c d] w fun e w'=>∃ s:ByteArray,e=.returned (.string s)/\Und w w':=by
 have HV:=hid (fun W (u:Und w W)=>mvalid_any A B n c d f W hn h0 hf hc hc63 hd hd63 (hA.und u) (hB.und u));have HJ:=hid (fun W (u:Und w W)=>join_any A B n c d f W hn hf hc hc63 (hA.und u));clear hA hB hf hn;unfold entV at *;go_enter Tryz.func29,Tryz.ntmps29;go_wp2_with fail;refine(HV.out _ (by apply_rules[uUe,uUa,uUb,uUc,uUd])).mono ?_;rintro e w1 ⟨rfl,X,rfl⟩;go_wp2_with fail;refine(HJ.out _ (by apply_rules[uUe,uUa,uUb,uUc,uUd])).mono ?_;rintro e w2 ⟨s,rfl,X2,rfl⟩;go_wp2;go_ret;exact⟨_,rfl,(by apply_rules[uUe,uUa,uUb,uUc,uUd])⟩
end Go.Proofs.YtcfhfdphoidaeaaGreatDoor
