/- What an index of one list computes of another, as plain functions, and that no pair that. -/
import Derived.Test.YtcfhfdphoidaeaaGreatDoorFnC
import Derived.LoopN
set_option linter.unusedVariables false
set_option linter.unusedSimpArgs false
set_option maxHeartbeats 12800000
set_option maxRecDepth 20000
set_option linter.all false
namespace Go.Proofs.YtcfhfdphoidaeaaGreatDoor
namespace St
theorem sum_addF{C:Type}(f g:C->Nat):∀ K:List C,(K.map fun c=>f c+g c).sum=(K.map f).sum+(K.map g).sum
 | []=>rfl
 | c :: K=>by
  have:=sum_addF f g K
  simp only[List.map_cons,List.sum_cons] at *;omega
theorem sum_hitF{C:Type}[DecidableEq C](g:C->Nat)(a:C):∀ K:List C,K.Nodup->(K.map fun c=>if c=a then g c else 0).sum=if a ∈ K then g a else 0
 | [],_=>rfl
 | c :: K,h=>by
  obtain⟨h1,h2⟩:=List.nodup_cons.1 h;have ih:=sum_hitF g a K h2;rw[List.map_cons,List.sum_cons,ih]
  by_cases e:c=a
  ·subst e
   rw[if_pos rfl,if_neg h1,if_pos (List.mem_cons_self ..)];omega
  ·rw[if_neg e]
   by_cases hm:a ∈ K
   ·rw[if_pos hm,if_pos (List.mem_cons_of_mem _ hm)];omega
   ·rw[if_neg hm,if_neg (by simp only[List.mem_cons,not_or];exact⟨fun x=>e x.symm,hm⟩)]
theorem sum_countsF{C:Type}[DecidableEq C][b:BEq C][LawfulBEq C](g:C->Nat)(K:List C)(hn:K.Nodup):∀ l:List C,(∀ c ∈ l,c ∈ K)->(K.map fun c=>g c*@List.count C b c l).sum=(l.map g).sum
 | [],_=>by
  simp only[List.count_nil,Nat.mul_zero,List.map_nil,List.sum_nil];clear hn
  induction K with
  | nil=>rfl
  | cons c K ih=>rw[List.map_cons,List.sum_cons,ih fun _ h=>(by cases h),Nat.add_zero]
 | a :: l,h=>by
  have ih:=sum_countsF g K hn l fun c hc=>h c (List.mem_cons_of_mem _ hc)
  have h1:=sum_hitF g a K hn;rw[if_pos (h a (List.mem_cons_self ..))] at h1;have h2:=sum_addF (fun c=>g c*@List.count C b c l) (fun c=>if c=a then g c else 0) K;rw[ih,h1] at h2;rw[List.map_cons,List.sum_cons,Nat.add_comm,<- h2];congr 1;refine List.map_congr_left fun c _=>?_
  rw[List.count_cons]
  by_cases e:a=c
  ·rw[if_pos (by simp[e]),if_pos e.symm,Nat.mul_add,Nat.mul_one]
  ·rw[if_neg (by simp[e]),if_neg fun x=>e x.symm];rfl
theorem com_le{C:Type}[DecidableEq C][b:BEq C][LawfulBEq C](g:C->Nat)(A B:List C):comS (onceL B) g A B<=(B.map g).sum:=by
 rw[<- sum_countsF g (onceL B) (once_both B).1 B fun c h=>(once_both B).2 c |>.2 h];unfold comS;generalize onceL B=K
 induction K with
 | nil=>exact Nat.le_refl _
 | cons c K ih=>
  rw[List.map_cons,List.map_cons,List.sum_cons,List.sum_cons];exact Nat.add_le_add (Nat.mul_le_mul_left _ (Nat.min_le_right ..)) ih
theorem gW_sum:∀ B:List Cl,(B.map gW).sum=nontagW B
 | []=>rfl
 | c :: B=>by rw[List.map_cons,List.sum_cons,gW_sum B,nontagW_cons];rfl
theorem gT_sum:∀ B:List Cl,(B.map gT).sum=tagN B
 | []=>rfl
 | c :: B=>by rw[List.map_cons,List.sum_cons,gT_sum B,tagN_cons];rfl
theorem one_sum{C:Type}:∀ B:List C,(B.map one).sum=B.length
 | []=>rfl
 | c :: B=>by rw[List.map_cons,List.sum_cons,one_sum B,List.length_cons,Nat.add_comm];rfl
def cmP(a b:List Tk):Nat:=comS (onceL (prsF [] (wordN b))) one (prsF [] (wordN a)) (prsF [] (wordN b))
def cmW(a b:List Tk):Nat:=comS (onceL (clsL b)) gW (clsL a) (clsL b)
def cmT(a b:List Tk):Nat:=comS (onceL (clsL b)) gT (clsL a) (clsL b)
theorem cmP_le(a b:List Tk):cmP a b<=(wordN b).length+1:=by
 have h:=com_le one (prsF [] (wordN a)) (prsF [] (wordN b));rw[one_sum,prs_len] at h;exact h
theorem cmW_le(a b:List Tk):cmW a b<=nontagW (clsL b):=by
 have h:=com_le gW (clsL a) (clsL b);rw[gW_sum] at h;exact h
theorem cmT_le(a b:List Tk):cmT a b<=tagN (clsL b):=by
 have h:=com_le gT (clsL a) (clsL b);rw[gT_sum] at h;exact h
theorem cmT_le2(a b:List Tk):cmT a b<=tagN (clsL a):=by
 have h0:cmT a b=comS (onceL (clsL a++clsL b)) gT (clsL a) (clsL b):=comS_cover gT _ _ (once_both _).1 (once_both _).1 (fun c h=>(once_both _).2 c |>.2 h) (fun c h=>(once_both _).2 c |>.2 (List.mem_append_right _ h));rw[h0,<- gT_sum,<- sum_countsF gT (onceL (clsL a++clsL b)) (once_both _).1 (clsL a) fun c h=>(once_both _).2 c |>.2 (List.mem_append_left _ h)];unfold comS;generalize onceL (clsL a++clsL b)=K
 induction K with
 | nil=>exact Nat.le_refl _
 | cons c K ih=>
  rw[List.map_cons,List.map_cons,List.sum_cons,List.sum_cons];exact Nat.add_le_add (Nat.mul_le_mul_left _ (Nat.min_le_left ..)) ih
def bndN(wa ta pa wb tb pb cw ct cp:Nat):Nat:=max (max wa wb-cw+3*(ta+tb-2*ct)) (4*((max pa pb-cp+1) / 2))
def bndL(a b:List Tk):Nat:=bndN (nontagW (clsL b)) (tagN (clsL b)) ((wordN b).length+1) (nontagW (clsL a)) (tagN (clsL a)) ((wordN a).length+1) (cmW a b) (cmT a b) (cmP a b)
def allowN(t:Nat):Nat:=if t=0 then 1073741824 else t*99 / 100
def candL(a b:List Tk):Bool:=decide (bndL a b<=allowN (max (totalT b) (totalT a)))
theorem nontagW_le4(A:List Cl):nontagW A<=4*A.length:=by
 induction A with
 | nil=>simp[nontagW]
 | cons c A ih=>
  rw[nontagW_cons,List.length_cons]
  have:weightK c.1<=4:=by
   unfold weightK
   repeat' split
   all_goals omega
  split <;> omega
theorem cand_of(a b:List Tk)(ha:∀ w ∈ wordN a,w ≠ [])(hb:∀ w ∈ wordN b,w ≠ [])(hla:a.length<=1000000)(hlb:b.length<=1000000)(h:1<=percentL a b):candL a b=true:=by
 have h1:=bag_dist a b (once_both (clsL b)).1 fun c h=>(once_both _).2 c |>.2 h
 have h2:=pair_dist a b ha hb (once_both (prsF [] (wordN b))).1 fun c h=>(once_both _).2 c |>.2 h
 change _<=cmW a b+6*cmT a b+_ at h1
 change 4*((_-cmP a b+1) / 2)<=_ at h2
 have k1:=cmP_le a b;have k2:=cmW_le a b;have k3:=cmT_le a b;have k4:=cmT_le2 a b;unfold candL bndL bndN allowN;rw[decide_eq_true_iff]
 by_cases h0:max (totalT b) (totalT a)=0
 ·rw[if_pos h0]
  have ca:(clsL a).length<=a.length:=List.length_filterMap_le ..;have cb:(clsL b).length<=b.length:=List.length_filterMap_le ..;have wa:(wordN a).length<=a.length:=by unfold wordN;rw[List.length_map];exact List.length_filter_le ..
  have wb:(wordN b).length<=b.length:=by unfold wordN;rw[List.length_map];exact List.length_filter_le ..
  have na:=nontagW_le4 (clsL a);have nb:=nontagW_le4 (clsL b);have ta:tagN (clsL a)<=(clsL a).length:=List.length_filter_le ..;have tb:tagN (clsL b)<=(clsL b).length:=List.length_filter_le ..;omega
 ·rw[if_neg h0]
  have h3:=percent_allowed h (by omega);rw[Nat.max_comm (totalT b) (totalT a)];omega
theorem percent_none(a b:List Tk)(ha:∀ w ∈ wordN a,w ≠ [])(hb:∀ w ∈ wordN b,w ≠ [])(hla:a.length<=1000000)(hlb:b.length<=1000000)(h:candL a b=false):percentL a b=0:=by
 rcases Nat.eq_zero_or_pos (percentL a b) with h1|h1
 ·exact h1
 ·rw[cand_of a b ha hb hla hlb h1] at h;cases h
end St
end Go.Proofs.YtcfhfdphoidaeaaGreatDoor
set_option linter.all false
namespace Go.Proofs.YtcfhfdphoidaeaaGreatDoor
open Go.RowKit
def IxNone(w:World)(B ib m0 m1 m2:Nat):Prop:=
 IxAt w ib m0 m1 m2/\Mg.At Mg.numV w m0 ([]:List (Nat × Value))/\Mg.At Mg.prV w m1 ([]:List ((St.Wd × St.Wd) × Value))/\Mg.At Mg.tokV w m2 ([]:List (St.Cl × Value))/\B<=ib/\B<=m0/\B<=m1/\B<=m2
theorem IxNone.und{w w':World}{B ib m0 m1 m2:Nat}(h:IxNone w B ib m0 m1 m2)(u:Und w w'):IxNone w' B ib m0 m1 m2:=by
 obtain⟨⟨h1,h2⟩,h3,h4,h5,h6⟩:=h;exact⟨⟨(u.below.block ib (lt_of_heap h1)).trans h1,h2⟩,h3.und u,h4.und u,h5.und u,h6⟩
theorem xnew_any(w:World):Calls Tryz.prog 27 #[] w fun e w'=>∃ ib m0 m1 m2,e=.returned (.pointer (some ⟨ib,0,none⟩))/\IxNone w' w.heap.size ib m0 m1 m2/\Und w w':=by
 have hmk:=@run_makeMap Tryz.prog;go_enter Tryz.func27,Tryz.ntmps27;go_wp2;go_ret;have h9:=heap_alloc_new (((w.alloc (.map #[] 0)).alloc (.map #[] 0)).alloc (.map #[] 0)) (.cells #[.map (some w.heap.size),.map (some (w.heap.size+1)),.map (some (w.heap.size+1+1))] 154 (0,0));simp only[World.size_alloc] at h9;refine⟨w.heap.size+1+1+1,w.heap.size,w.heap.size+1,w.heap.size+1+1,rfl,⟨⟨h9,by omega,by omega,by omega⟩,?_,?_,?_,by omega,by omega,by omega,by omega⟩,(by apply_rules[uUe,uUa,uUb,uUc,uUd])⟩
 ·exact((Mg.made_at (kv:=Mg.numV) w).und (by apply_rules[uUe,uUa,uUb,uUc,uUd]))
 ·have h:=(Mg.made_at (kv:=Mg.prV) (w.alloc (.map #[] 0)))
  simp only[World.size_alloc] at h;exact h.und (by apply_rules[uUe,uUa,uUb,uUc,uUd])
 ·have h:=(Mg.made_at (kv:=Mg.tokV) ((w.alloc (.map #[] 0)).alloc (.map #[] 0)))
  simp only[World.size_alloc] at h;exact h.und (by apply_rules[uUe,uUa,uUb,uUc,uUd])
theorem mnew_any(w:World):Calls Tryz.prog 7 #[] w fun e w'=>∃ fb ib m0 m1 m2,e=.returned (.pointer (some ⟨fb,0,none⟩))/\w'.heap[fb]?=some (.cells #[.pointer (some ⟨ib,0,none⟩),.slice none 0 0,.int .i64 0] 81 (0,0))/\w.heap.size<=fb/\IxNone w' w.heap.size ib m0 m1 m2/\Und w w':=by
 have HX:=hid xnew_any;go_enter Tryz.func7,Tryz.ntmps7;go_wp2_with fail;refine(HX.out _).mono ?_;rintro e w1 ⟨ib,m0,m1,m2,rfl,hx,hu⟩;have HI:=hid hx;have HU:=hid hu;have hsz:=hu.size;clear hx hu;go_wp2;go_ret;exact⟨_,_,_,_,_,rfl,heap_alloc_new _ _,hsz,HI.out.und (by apply_rules[uUe,uUa,uUb,uUc,uUd]),HU.out.trans (by apply_rules[uUe,uUa,uUb,uUc,uUd])⟩
theorem bound_any(pb wb tb pa wa ta cp cw ct:Nat)(w:World)(h1:pb<=1000000000)(h2:wb<=1000000000)(h3:tb<=1000000000)(h4:pa<=1000000000)(h5:wa<=1000000000)(h6:ta<=1000000000)(k1:cp<=max pb pa)(k2:cw<=max wb wa)(k3:2*ct<=tb+ta) :
  Calls Tryz.prog 87 #[.agg #[.int .i64 pb,.int .i64 wb,.int .i64 tb],.agg #[.int .i64 pa,.int .i64 wa,.int .i64 ta],.agg #[.int .i64 cp,.int .i64 cw,.int .i64 ct]] w fun e w'=>e=.returned (.int .i64 (St.bndN wb tb pb wa ta pa cw ct cp:Nat))/\Und w w':=by
 obtain⟨r,hr⟩:∃ r,St.bndN wb tb pb wa ta pa cw ct cp=r:=⟨_,rfl⟩;have hr2:=hr;unfold St.bndN at hr2;rw[hr];have HRR:=hid hr2;clear hr hr2;go_enter Tryz.func87,Tryz.ntmps87;go_wp2;go_ret;have hR:=HRR.out;exact⟨ret_int (by omega),(by apply_rules[uUe,uUa,uUb,uUc,uUd])⟩
theorem allowed_any(t:Nat)(w:World)(ht:t<=1000000000):Calls Tryz.prog 88 #[.int .i64 t,.int .i64 1] w fun e w'=>e=.returned (.int .i64 (St.allowN t:Nat))/\Und w w':=by
 by_cases h0:t=0
 ·subst h0
  go_enter Tryz.func88,Tryz.ntmps88;go_wp2;go_ret;exact⟨rfl,(by apply_rules[uUe,uUa,uUb,uUc,uUd])⟩
 ·have hr:St.allowN t=t*99 / 100:=by unfold St.allowN;rw[if_neg h0]
  have z:¬ (t:Int)<1:=by omega
  rw[hr];clear h0 hr;go_enter Tryz.func88,Tryz.ntmps88;go_wp2;go_ret;exact⟨ret_int (by omega),(by apply_rules[uUe,uUa,uUb,uUc,uUd])⟩
end Go.Proofs.YtcfhfdphoidaeaaGreatDoor
set_option linter.all false
namespace Go.Proofs.YtcfhfdphoidaeaaGreatDoor
open Go.RowKit
namespace Mg
section
variable {κ:Type} {kv:κ->Value}
theorem At.setCell{w:World}{mb:Nat}{l:List (κ × Value)}(h:At kv w mb l)(p:Addr)(v:Value):At kv (w.setCell p v) mb l:=by
 have h1:w.heap[mb]?=some (.map (ent kv 0 l).toArray l.length):=h
 show (w.heap.modify p.block _)[mb]?=_
 rw[Array.getElem?_modify]
 split
 ·rw[h1];rfl
 ·exact h1
class AtI (kv:κ->Value) (w:World) (mb:Nat) (l:List (κ × Value)):Prop where
 out:At kv w mb l
instance atI_alloc (w:World) (o:Obj) (mb:Nat) (l:List (κ × Value)) [h:AtI kv w mb l]:AtI kv (w.alloc o) mb l:=⟨h.out.und ((Und.refl w).alloc o)⟩
instance atI_drew (w:World) (mb:Nat) (l:List (κ × Value)) [h:AtI kv w mb l]:AtI kv w.drew mb l:=⟨h.out.und (Und.refl w).drew⟩
instance atI_under (w X:World) (mb:Nat) (l:List (κ × Value)) [h:AtI kv w mb l]:AtI kv (under w X) mb l:=⟨h.out.und ((Und.refl w).under X)⟩
instance atI_setCell (w:World) (p:Addr) (v:Value) (mb:Nat) (l:List (κ × Value)) [h:AtI kv w mb l]:AtI kv (w.setCell p v) mb l:=⟨h.out.setCell p v⟩
end
end Mg
def sumV(p wt tg:Nat):Value:=.agg #[.int .i64 (p:Int),.int .i64 (wt:Int),.int .i64 (tg:Int)]
def ShL(l:List (Nat × Value))(p wt tg:Nat):Prop:=(l=[]/\p=0/\wt=0/\tg=0)∨l=[((0:Nat),sumV p wt tg)]
theorem ShL.ok{l:List (Nat × Value)}{p wt tg:Nat}(h:ShL l p wt tg):Mg.Ok Mg.numGood l:=by
 rcases h with ⟨rfl,_⟩|rfl
 ·exact Mg.Ok.nil _
 ·exact⟨fun p hp=>by rw[List.mem_singleton.1 hp];exact Nat.zero_le _,by simp⟩
theorem ShL.get{l:List (Nat × Value)}{p wt tg:Nat}(h:ShL l p wt tg):(Mg.look 0 l).getD (sumV 0 0 0)=sumV p wt tg:=by
 rcases h with ⟨rfl,rfl,rfl,rfl⟩|rfl
 ·rfl
 ·simp[Mg.look]
theorem ShL.upd{l:List (Nat × Value)}{p wt tg:Nat}(h:ShL l p wt tg)(v:Value):Mg.upd 0 v l=[((0:Nat),v)]:=by
 rcases h with ⟨rfl,_⟩|rfl
 ·rfl
 ·simp[Mg.upd]
theorem sums_read{w:World}{mb p wt tg:Nat}{l:List (Nat × Value)}(h:ShL l p wt tg)(ha:Mg.At Mg.numV w mb l):(Instr.lookup 181 (.map (some mb)) (.int .i64 0) false).run Tryz.prog w=.ok (sumV p wt tg) w:=by
 have hz:(zeroValue 164).run Tryz.prog w=.ok (sumV 0 0 0) w:=by unfold sumV;go_simp
 have hg:=h.get;cases hl:Mg.look 0 l with
 | none=>
  rw[hl] at hg;have hr:(Instr.lookup 181 (.map (some mb)) (Mg.numV 0) false).run Tryz.prog w=_:=Mg.run_getno Mg.num_KV Tryz.underlying181 false hz ha h.ok (Nat.zero_le _) hl;rw[show (Value.int .i64 0)=Mg.numV 0 from rfl,hr,<- hg];rfl
 | some v=>
  rw[hl] at hg;have hr:(Instr.lookup 181 (.map (some mb)) (Mg.numV 0) false).run Tryz.prog w=_:=Mg.run_get Mg.num_KV Tryz.underlying181 false ha h.ok (Nat.zero_le _) hl;rw[show (Value.int .i64 0)=Mg.numV 0 from rfl,hr,<- hg];rfl
theorem sums_write{w:World}{mb p wt tg:Nat}{l:List (Nat × Value)}(h:ShL l p wt tg)(ha:Mg.At Mg.numV w mb l)(v:Value):(Instr.mapUpdate 181 (.map (some mb)) (.int .i64 0) v).run Tryz.prog w=.ok () (Mg.put Mg.numV w mb [((0:Nat),v)]):=by
 have hr:=Mg.run_put Mg.num_KV Tryz.underlying181 v ha h.ok (show Mg.numGood 0 from Nat.zero_le _);rw[h.upd] at hr;exact hr
theorem posts_look{κ:Type}[DecidableEq κ]{kv:κ->Value}{kt T et:TypeId}{good:κ->Prop}(V:Mg.KV kt kv good)(hm:Tryz.prog.underlying T=some (.map kt et))(hz:∀ W,(zeroValue et).run Tryz.prog W=.ok (.slice none 0 0) W)
  {w:World} {E:List (κ × Value)} {B:Nat} {f:κ->Nat} (hE:Mg.Ok good E) (hr:∀ p ∈ E,w.ownsRow B 178 2 p.2 1 [.int .i64 0,.int .i64 (f p.1:Int)]) {k:κ} (hk:good k) (mb:Nat) :
  (k ∉ E.map (·.1)/\∀ W [Mg.AtI kv W mb E],(Instr.lookup T (.map (some mb)) (kv k) false).run Tryz.prog W=.ok (.slice none 0 0) W) ∨
  (k ∈ E.map (·.1)/\∃ b c,(∀ W [Mg.AtI kv W mb E],(Instr.lookup T (.map (some mb)) (kv k) false).run Tryz.prog W=.ok (.slice (some ⟨b,0,none⟩) 1 c) W)/\w.cell? ⟨b,0,none⟩=some (.int .i64 0)/\w.cell? ⟨b,1,none⟩=some (.int .i64 (f k:Int))):=by
 cases hl:Mg.look k E with
 | none=>exact .inl ⟨Mg.look_none.1 hl,fun W h=>Mg.run_getno V hm false (hz W) h.out hE hk hl⟩
 | some v=>
  have hin:k ∈ E.map (·.1):=by
   apply Classical.byContradiction;intro h;rw[Mg.look_none.2 h] at hl;cases hl
  obtain⟨p,hp,rfl⟩:=List.mem_map.1 hin;obtain⟨j,hj⟩:=List.mem_iff_getElem?.1 hp;have e:=Mg.look_at hE.2 (k:=p.1) (v:=p.2) hj;rw[hl] at e;cases e;have hrow:=hr p hp;obtain⟨A,c,hv,_⟩:=own_slice hrow;rw[hv] at hrow;obtain⟨b,rfl,_,_,hc⟩:=own_cell hrow (by omega);refine .inr ⟨hin,b,c,fun W h=>?_,hc 0 _ rfl,hc 1 _ rfl⟩;rw[<- hv];exact Mg.run_get V hm false h.out hE hk hl
def psum(f:St.Wd × St.Wd->Nat)(G:List Gr):Nat:=(G.map fun g=>min (f g.1) g.2).sum
theorem psum_take(f:St.Wd × St.Wd->Nat)(G:List Gr)(k:Nat)(h:k<G.length):psum f (G.take (k+1))=psum f (G.take k)+min (f G[k].1) G[k].2:=by
 unfold psum;rw[List.take_add_one,List.getElem?_eq_getElem h,List.map_append,List.sum_append];simp
theorem psum_le(f:St.Wd × St.Wd->Nat)(G:List Gr)(k:Nat):psum f (G.take k)<=psum f G:=by
 have e:psum f G=psum f (G.take k)+psum f (G.drop k):=by
  conv=>lhs;rw[<- List.take_append_drop k G]
  unfold psum;rw[List.map_append,List.sum_append]
 omega
theorem psum_all{la lb:List St.It}{G:List Gr}(h:G.Perm ((St.onceL (St.prsF [] (St.wordN lb))).map fun p=>(p,(St.prsF [] (St.wordN lb)).count p))):psum ((St.prsF [] (St.wordN la)).count ·) G=St.cmP la lb:=by
 have h1:=(h.map fun g:Gr=>min ((St.prsF [] (St.wordN la)).count g.1) g.2).sum_nat;unfold psum St.cmP St.comS;rw[h1,List.map_map];congr 1;refine List.map_congr_left fun c _=>?_
 show min _ _=St.one c*min _ _
 unfold St.one;rw[Nat.one_mul]
def gsum(g f:St.Cl->Nat)(n:St.Cl->Nat)(O:List St.Cl):Nat:=(O.map fun c=>g c*min (f c) (n c)).sum
theorem gsum_snoc(g f n:St.Cl->Nat)(O:List St.Cl)(c:St.Cl):gsum g f n (O++[c])=gsum g f n O+g c*min (f c) (n c):=by unfold gsum;rw[List.map_append,List.sum_append];simp
theorem gsum_perm(g f n:St.Cl->Nat){O O':List St.Cl}(h:O.Perm O'):gsum g f n O=gsum g f n O':=(h.map _).sum_nat
theorem gsum_app(g f n:St.Cl->Nat)(O O':List St.Cl):gsum g f n (O++O')=gsum g f n O+gsum g f n O':=by unfold gsum;rw[List.map_append,List.sum_append]
theorem fin2{A:Prop}{a b c:Nat}(h:A/\a=b)(h2:b<c):A/\a<c:=⟨h.1,by rw[h.2];exact h2⟩
def Sh1(w w1:World)(mb:Nat)(G:List Gr)(f:St.Wd × St.Wd->Nat)(s20:Value)(wr:World):Prop:=
 ∃ (i:Nat) (l:List (Nat × Value)),i<=G.length/\s20=.int .i64 i/\ShL l (psum f (G.take i)) 0 0/\Mg.At Mg.numV wr mb l/\GS [mb] w1 wr
def Sh2(w1:World)(mb cm r P:Nat)(E0:List (St.Cl × Value))(f n:St.Cl->Nat)(wr:World):Prop:=
 ∃ (O:List St.Cl) (rest:List (St.Cl × Value)) (l:List (Nat × Value)),Mg.Rng Mg.tokV wr r cm E0 rest/\(O++rest.map (·.1)).Perm (E0.map (·.1))/\ShL l P (gsum St.gW f n O) (gsum St.gT f n O)/\Mg.At Mg.numV wr mb l/\r<wr.heap.size/\GS [mb] w1 wr
theorem shared_any(ib m0 m1 m2 B b0:Nat)(la lb:List St.It)(v:Value)(w:World)(hx:IxOne w B ib m0 m1 m2 la)(hv:SvAt w b0 lb v)(hlb:lb.length<=1000000)(htb:tot lb<=1000000000)(hla:la.length<=1000000) :
  Calls Tryz.prog 86 #[.pointer (some ⟨ib,0,none⟩),v] w fun e w'=>∃ mb l,e=.returned (.map (some mb))/\Mg.At Mg.numV w' mb l/\ShL l (St.cmP la lb) (St.cmW la lb) (St.cmT la lb)/\Und w w':=by
 obtain⟨⟨hib,_,_,_⟩,_,⟨E1,e11,e12,e13,e14⟩,⟨E2,e21,e22,e23,e24⟩⟩:=hx;obtain⟨A,c,G,cm,rfl,hga,hpm,hcm,hcat⟩:=hv;have hmk:=@run_makeMap Tryz.prog;have HIB:=hid hib;have HE1:=hid e11;have HO1:=hid e12;have HK1:=hid e13;have HR1:=hid e14;have HE2:=hid e21;have HO2:=hid e22;have HK2:=hid e23;have HR2:=hid e24;have HGA:=hid hga;have HPM:=hid hpm;have HCAT:=hid hcat;have HLB:=hid hlb;have HTB:=hid htb;have hgl:G.length<=1000001:=by have h1:=lenG_perm hpm;have h2:=wordN_len lb;omega
 have HGF:=hid (show ∀ g ∈ G,(St.prsF [] (St.wordN lb)).count g.1=g.2/\Mg.prGood g.1/\g.2<=1000001 from fun g hg=>by
  have h1:=hpm.mem_iff.1 hg;obtain⟨p,hp,rfl⟩:=List.mem_map.1 h1;have hpp:=(St.once_both _).2 p |>.1 hp
  refine⟨rfl,gram_good lb htb p hpp,?_⟩;have h2:(St.prsF [] (St.wordN lb)).count p<=(St.prsF [] (St.wordN lb)).length:=List.count_le_length;rw[St.prs_len] at h2;have h3:=wordN_len lb
  show List.count p _<=_
  omega)
 have HPS:=hid (psum_all (la:=la) hpm);have hcp:=St.cmP_le la lb;have hcp2:=wordN_len lb;obtain⟨P,hP⟩:∃ P,St.cmP la lb=P:=⟨_,rfl⟩;rw[hP] at HPS hcp;have HPE:=hid hP;have hP7:P<=1000001:=by omega
 have hibw:=lt_of_heap hib;have hcmw:=hcat.lt;clear hib e11 e12 e13 e14 e21 e22 e23 e24 hga hpm hcm hcat hP hcp hcp2;obtain⟨pn,hpn⟩:∃ pn,(St.wordN lb).length+1=pn:=⟨_,rfl⟩;obtain⟨wt9,hwt⟩:∃ wt,St.nontagW (St.clsL lb)=wt:=⟨_,rfl⟩;obtain⟨tg9,htg⟩:∃ tg,St.tagN (St.clsL lb)=tg:=⟨_,rfl⟩;obtain⟨tot9,htot⟩:∃ tot,St.totalT lb=tot:=⟨_,rfl⟩;rw[hpn,hwt,htg,htot];clear hpn hwt htg htot;unfold svC;go_enter Tryz.func86,Tryz.ntmps86;go_wp2_with fail
 have HA1:=hid (show Mg.At Mg.numV ((w.alloc (.cells #[.slice A G.length c,.map (some cm),.int .i64 (pn:Int),.int .i64 (wt9:Int),.int .i64 (tg9:Int),.int .i64 (tot9:Int)] 166)).alloc (.map #[] 0)) (w.heap.size+1) ([]:List (Nat × Value)) from by
  have h:=Mg.made_at (kv:=Mg.numV) (w.alloc (.cells #[.slice A G.length c,.map (some cm),.int .i64 (pn:Int),.int .i64 (wt9:Int),.int .i64 (tg9:Int),.int .i64 (tot9:Int)] 166));rw[World.size_alloc] at h
  exact h)
 have HS1:=hid (show ((w.alloc (.cells #[.slice A G.length c,.map (some cm),.int .i64 (pn:Int),.int .i64 (wt9:Int),.int .i64 (tg9:Int),.int .i64 (tot9:Int)] 166)).alloc (.map #[] 0)).heap[w.heap.size]?=some (.cells #[.slice A G.length c,.map (some cm),.int .i64 (pn:Int),.int .i64 (wt9:Int),.int .i64 (tg9:Int),.int .i64 (tot9:Int)] 166 (0,0)) from(@heap_alloc_old _ _ _ (by simp)).trans (heap_alloc_new w _));have HU1:=hid (show Und w ((w.alloc (.cells #[.slice A G.length c,.map (some cm),.int .i64 (pn:Int),.int .i64 (wt9:Int),.int .i64 (tg9:Int),.int .i64 (tot9:Int)] 166)).alloc (.map #[] 0)) from(by apply_rules[uUe,uUa,uUb,uUc,uUd]));generalize (w.alloc (.cells #[.slice A G.length c,.map (some cm),.int .i64 (pn:Int),.int .i64 (wt9:Int),.int .i64 (tg9:Int),.int .i64 (tot9:Int)] 166)).alloc (.map #[] 0)=W1 at HA1 HS1 HU1 ⊢;obtain⟨mb,hmb⟩:∃ mb,w.heap.size+1=mb:=⟨_,rfl⟩;rw[hmb] at HA1 ⊢;have HMB:=hid hmb;clear hmb;have HMM:=hid (show ∀ g ∈ [mb],IsMap W1 g from fun g hg=>by rw[List.mem_singleton.1 hg];exact HA1.out.isMap);have HibM:=hid (show ib ∉ [mb] from by have:=HMB.out;simp;omega);have Hm1M:=hid (show m1 ∉ [mb] from by have:=HMB.out;have:=HE1.out.lt;simp;omega);have Hm2M:=hid (show m2 ∉ [mb] from by have:=HMB.out;have:=HE2.out.lt;simp;omega);have HcmM:=hid (show cm ∉ [mb] from by have:=HMB.out;simp;omega);have HsM:=hid (show w.heap.size ∉ [mb] from by have:=HMB.out;simp;omega);clear hibw hcmw;go_loopw [20] (fun s20 wr=>Sh1 w W1 mb G ((St.prsF [] (St.wordN la)).count ·) s20 wr) (fun s20 _=>G.length+1-(intOf s20).toNat)
 case atStart=>exact⟨0,[],by omega,rfl,.inl ⟨rfl,rfl,rfl,rfl⟩,HA1.out,GS.refl _ _⟩
 case round=>
  obtain⟨i,l,hi,rfl,hl,ha,hu⟩:=hrel;have HU:=hid hu;have HL:=hid hl;have HA:=hid ha
  by_cases hlt:i<G.length
  ·obtain⟨ab,aoff,rfl,hb,hc⟩:=((HGA.out.und HU1.out).gs hu HMM.out) (by omega)
   obtain⟨c0,c1,c2⟩:=hc i hlt;haveI:LtW ab wr:=LtW.of hb;have hstp:=psum_take ((St.prsF [] (St.wordN la)).count ·) G i hlt;have hple:=psum_le ((St.prsF [] (St.wordN la)).count ·) G (i+1);rw[HPS.out] at hple;obtain⟨hq1,hq2,hq3⟩:=HGF.out _ (List.getElem_mem hlt);generalize G[i]=g at c0 c1 c2 hstp hq1 hq2 hq3;obtain⟨⟨u1,u2⟩,q⟩:=g;simp only at c0 c1 c2 hstp hq3;have hix:=(hu.block ib (Nat.lt_of_lt_of_le (lt_of_heap HIB.out) HU1.out.size) HibM.out).trans ((HU1.out.below.block ib (lt_of_heap HIB.out)).trans HIB.out);have x1:=zcH hix 1;simp only[List.getElem?_toArray,List.getElem?_cons_zero,List.getElem?_cons_succ] at x1;haveI:LtW ib wr:=LtW.of (lt_of_heap hix);have hrows:∀ p ∈ E1,wr.ownsRow B 178 2 p.2 1 [.int .i64 0,.int .i64 ((St.prsF [] (St.wordN la)).count p.1:Int)]:=fun p hp=>hu.ownm HMM.out (own_und HU1.out (HR1.out p hp))
   haveI:Mg.AtI Mg.prV wr m1 E1:=⟨(HE1.out.und HU1.out).gs hu Hm1M.out⟩;haveI:Mg.AtI Mg.numV wr mb l:=⟨ha⟩;obtain⟨cf,hcf⟩:∃ cf,(St.prsF [] (St.wordN la)).count (u1,u2)=cf:=⟨_,rfl⟩;rw[hcf] at hstp;obtain⟨ps,hps⟩:∃ ps,psum ((St.prsF [] (St.wordN la)).count ·) (G.take i)=ps:=⟨_,rfl⟩;rw[hps] at hstp hl;have HST:=hid hstp;have HPSI:=hid hps
   have hcc:cf<=1000001:=by
    have h2:(St.prsF [] (St.wordN la)).count (u1,u2)<=(St.prsF [] (St.wordN la)).length:=List.count_le_length;rw[St.prs_len] at h2;have h3:=wordN_len la;omega
   rw[hstp] at hple
   have HE:=hid (fun (l':List (Nat × Value)) (W:World) (h1:ShL l' (ps+min cf q) 0 0) (h2:Mg.At Mg.numV W mb l') (h3:GS [mb] wr W)=>(show Sh1 w W1 mb G ((St.prsF [] (St.wordN la)).count ·) (.int .i64 ((i:Int)+1)) W from
    ⟨i+1,l',by omega,congrArg (Value.int .i64) (by omega),by rw[HST.out];exact h1,h2,HU.out.trans h3⟩))
   rcases posts_look (f:=((St.prsF [] (St.wordN la)).count ·)) Mg.xpr_KV Tryz.underlying151 (fun W=>by go_simp) HO1.out hrows hq2 m1 with ⟨hnin,hlk⟩|⟨hin,pb,pc,hlk,p0,p1⟩
   ·have hcz:cf=0:=by
     rw[<- hcf];exact List.count_eq_zero_of_not_mem fun hm=>hnin ((HK1.out _).2 hm)
    rw[hcz] at HE;have HL2:=hid hl;have hlk2:∀ W [Mg.AtI Mg.prV W m1 E1],(Instr.lookup 151 (.map (some m1)) (.agg #[.string ⟨u1.toArray⟩,.string ⟨u2.toArray⟩]) false).run Tryz.prog W=.ok (.slice none 0 0) W:=hlk;clear hc hu hix hrows hl ha hstp hple hq1 hq2 hcf hps hcz hnin hlk;go_wp2
    first|refine wp_region_under2 (by kernel_rfl) (by kernel_rfl) ?_|refine wp_region_under (by kernel_rfl) (by kernel_rfl) ?_
    repeat (go_big_quiet_step (first|(fail)))
    refine wpQuiet_nil ?_;rintro _ ⟨X,rfl⟩;go_wp2_with fail;refine wp_loop_rounds 1 ?_;rw[rounds_succ];go_wp2;exact⟨HE.out l _ (by rw[Nat.zero_min,Nat.add_zero];exact HL2.out) (HA.out.und (by apply_rules[uUe,uUa,uUb,uUc,uUd])) (.of_und (by apply_rules[uUe,uUa,uUb,uUc,uUd])),by simp[intOf];omega⟩
   ·have hfk:(St.prsF [] (St.wordN la)).count (u1,u2)=cf:=hcf
    have p1':wr.cell? ⟨pb,1,none⟩=some (.int .i64 (cf:Int)):=by rw[<- hcf];exact p1
    haveI:LtW pb wr:=LtW.of (lt_of_cell p0);have HL2:=hid hl;have hlk2:∀ W [Mg.AtI Mg.prV W m1 E1],(Instr.lookup 151 (.map (some m1)) (.agg #[.string ⟨u1.toArray⟩,.string ⟨u2.toArray⟩]) false).run Tryz.prog W=.ok (.slice (some ⟨pb,0,none⟩) 1 pc) W:=hlk;have hrd:∀ W [Mg.AtI Mg.numV W mb l],(Instr.lookup 181 (.map (some mb)) (.int .i64 0) false).run Tryz.prog W=.ok (.agg #[.int .i64 (ps:Int),.int .i64 0,.int .i64 0]) W:=fun W h=>sums_read HL2.out h.out
    have hwr:∀ W [Mg.AtI Mg.numV W mb l] (v:Value),(Instr.mapUpdate 181 (.map (some mb)) (.int .i64 0) v).run Tryz.prog W=.ok () (Mg.put Mg.numV W mb [((0:Nat),v)]):=fun W h v=>sums_write HL2.out h.out v
    have HCP:=hid (show ((ps+min cf q:Nat):Int)=(ps:Int)+min (cf:Int) (q:Int) from by omega);clear hc hu hix hrows hl ha hstp hq1 hq2 hcf hps hin hlk hfk p1;go_wp2
    first|refine wp_region_under2 (by kernel_rfl) (by kernel_rfl) ?_|refine wp_region_under (by kernel_rfl) (by kernel_rfl) ?_
    repeat (go_big_quiet_step (first|(fail)))
    refine wpQuiet_nil ?_;rintro _ ⟨X,rfl⟩;go_wp2_with fail;refine wp_loop_rounds 2 ?_;rw[rounds_succ];go_wp2_with fail;rw[rounds_succ];go_wp2_with fail;refine⟨HE.out [((0:Nat),sumV (ps+min cf q) 0 0)] _ (.inr rfl) ?_ ((GS.of_und (by apply_rules[uUe,uUa,uUb,uUc,uUd])).trans (Mg.put_gs _ _ _)),by simp[intOf];omega⟩;unfold sumV;rw[HCP.out];exact Mg.put_at (Mg.AtI.out (l:=l)) _
  ·have hin:i=G.length:=by omega
   subst hin;rw[List.take_length,HPS.out] at hl;have HL1:=hid hl;have hsx:=(hu.block w.heap.size (lt_of_heap HS1.out) HsM.out).trans HS1.out;have s1:=zcH hsx 1;simp only[List.getElem?_toArray,List.getElem?_cons_zero,List.getElem?_cons_succ] at s1;haveI:LtW w.heap.size wr:=LtW.of (lt_of_heap hsx);have HC9:=hid ((HCAT.out.und HU1.out).gs hu HcmM.out);have HIB9:=hid ((hu.block ib (Nat.lt_of_lt_of_le (lt_of_heap HIB.out) HU1.out.size) HibM.out).trans ((HU1.out.below.block ib (lt_of_heap HIB.out)).trans HIB.out));have HM9:=hid (show ∀ g ∈ [mb],IsMap wr g from fun g hg=>by rw[List.mem_singleton.1 hg];exact ha.isMap);have HR9:=hid (show ∀ p ∈ E2,wr.ownsRow B 178 2 p.2 1 [.int .i64 0,.int .i64 ((St.clsL la).count p.1:Int)] from fun p hp=>hu.ownm HMM.out (own_und HU1.out (HR2.out p hp)));have HE9:=hid ((HE2.out.und HU1.out).gs hu Hm2M.out);have HN9:=hid ha;have HU9:=hid (show Und w wr from HU1.out.trans (Und.refl _) |>.trans (Und.refl _) |> fun h=>GS.base h hu (fun g hg=>by rw[List.mem_singleton.1 hg];have:=HMB.out;omega));have hinv:¬ ((G.length:Int)<G.length):=by omega
   clear hu hl ha hsx hlt hi HL HA HU HGA HPM HCAT HE1 HO1 HK1 HR1 HS1;go_wp2_with (first|(at_range;refine Mg.wp_range (kv:=Mg.tokV) rfl _ 162 rfl Tryz.underlying162 cm rfl HC9.out ?_;intro w7 hrg7 hu7 hs7))
   try go_frame
   obtain⟨W7,hW7⟩:∃ W,W=wr:=⟨_,rfl⟩;subst hW7;obtain⟨r,hr⟩:∃ r,W7.heap.size=r:=⟨_,rfl⟩;have HRB:=hid (Nat.le_of_eq hr);rw[hr] at hrg7 hs7 ⊢;obtain⟨E0,hE0⟩:∃ E0,Mg.cl (St.onceL (St.clsL lb)) (fun c=>(((St.clsL lb).count c:Nat):Int))=E0:=⟨_,rfl⟩;rw[hE0] at hrg7
   have HEV:=hid (show ∀ p ∈ E0,Mg.tokGood p.1/\(St.clsL lb).count p.1<=1000000/\p.2=.int .i64 (((St.clsL lb).count p.1:Nat):Int) from fun p hp=>by
    rw[<- hE0] at hp;obtain⟨cc,hcc,rfl⟩:=List.mem_map.1 hp;refine⟨St.cls_good lb HTB.out _ ((St.once_both _).2 _ |>.1 hcc),?_,rfl⟩
    show (St.clsL lb).count cc<=1000000
    have h1:(St.clsL lb).count cc<=(St.clsL lb).length:=List.count_le_length;have h2:=St.cls_len lb
    have h3:=HLB.out;omega)
   have HEK:=hid (show E0.map (·.1)=St.onceL (St.clsL lb) from by rw[<- hE0,Mg.cl_keys]);have HGW:=hid (show gsum St.gW ((St.clsL la).count ·) ((St.clsL lb).count ·) (St.onceL (St.clsL lb))=St.cmW la lb from rfl);have HGT:=hid (show gsum St.gT ((St.clsL la).count ·) ((St.clsL lb).count ·) (St.onceL (St.clsL lb))=St.cmT la lb from rfl);have HBW:=hid (show St.cmW la lb<=4000000 from by have h1:=St.cmW_le la lb;have h2:=St.nontag_le (St.clsL lb);have h3:=St.cls_len lb;have h4:=HLB.out;omega);have HBT:=hid (show St.cmT la lb<=1000000 from by have h1:=St.cmT_le la lb;have h2:=St.tagN_le (St.clsL lb);have h3:=St.cls_len lb;have h4:=HLB.out;omega);have HRG:=hid hrg7;have HA7:=hid (HL1.out);have HN7:=hid (show ∃ l,ShL l P 0 0/\Mg.At Mg.numV w7 mb l from⟨l,HL1.out,HN9.out.und hu7⟩);have HU7:=hid hu7;have HRS:=hid (show r<w7.heap.size from by omega);have HrM:=hid (show r ≠ mb from by have h1:=HN9.out.lt;have h2:=HRB.out;omega);clear hrg7 hu7 hs7 hE0 s1 hr;go_loopw [12] (fun _ wx=>Sh2 W7 mb cm r P E0 ((St.clsL la).count ·) ((St.clsL lb).count ·) wx) (fun _ wx=>wx.rangeLeft cm r)
   case atStart=>
    obtain⟨l,h1,h2⟩:=HN7.out;exact⟨[],E0,l,HRG.out,by simp,h1,h2,HRS.out,.of_und HU7.out⟩
   case round=>
    obtain⟨O,rest,l,hrg,hperm,hl,ha,hrl,hu⟩:=hrel;have HRG2:=hid hrg;have HPM:=hid hperm;have HU2:=hid hu;have HRL:=hid hrl;have HL:=hid hl;have HA:=hid ha;clear hrg hperm hl ha hrl hu HRG HU7 HRS HN7;go_wp2_with (at_next;refine Mg.wp_next (kv:=Mg.tokV) rfl _ rfl r cm rfl HRG2.out ?_ ?_)
    ·intro h0
     subst h0
     have HF:=hid (show Mg.At Mg.numV wr mb l/\ShL l (St.cmP la lb) (St.cmW la lb) (St.cmT la lb)/\Und w wr from by
      have hpm:=HPM.out;rw[List.map_nil,List.append_nil,HEK.out] at hpm;refine⟨HA.out,?_,GS.base HU9.out HU2.out (fun g hg=>by rw[List.mem_singleton.1 hg];have:=HMB.out;omega)⟩;have h1:=HL.out;rw[gsum_perm _ _ _ hpm,gsum_perm _ _ _ hpm,HGW.out,HGT.out,<- HPE.out] at h1
      exact h1)
     go_wp2;go_ret;exact⟨mb,l,rfl,HF.out⟩
    ·intro kd kt v rest' w' hp hmem hrg' hgb hsz hen
     obtain⟨hgk,hq0,hv⟩:=HEV.out _ hmem;obtain⟨q,hq⟩:∃ q,(St.clsL lb).count (kd,kt)=q:=⟨_,rfl⟩;simp only at hgk hq0 hv;rw[hq] at hq0 hv;subst hv;have hgs':GS [mb] W7 w':=HU2.out.gb hgb (fun g e=>by cases e;exact .inr HRB.out);have HGSA:=hid hgs';have hix:=(hgs'.block ib (lt_of_heap HIB9.out) HibM.out).trans HIB9.out;have x2:=zcH hix 2;simp only[List.getElem?_toArray,List.getElem?_cons_zero,List.getElem?_cons_succ] at x2;haveI:LtW ib w':=LtW.of (lt_of_heap hix);have hrows:∀ p ∈ E2,w'.ownsRow B 178 2 p.2 1 [.int .i64 0,.int .i64 ((St.clsL la).count p.1:Int)]:=fun p hp=>hgs'.ownm HM9.out (HR9.out p hp)
     haveI:Mg.AtI Mg.tokV w' m2 E2:=⟨HE9.out.gs hgs' Hm2M.out⟩;have han:Mg.At Mg.numV w' mb l:=HA.out.gb hgb (by simpa using HrM.out.symm);haveI:Mg.AtI Mg.numV w' mb l:=⟨han⟩;have HAN:=hid han;obtain⟨cn,hcn⟩:∃ cn,(St.clsL la).count (kd,kt)=cn:=⟨_,rfl⟩
     have hcc:cn<=1000000:=by
      have h2:(St.clsL la).count (kd,kt)<=(St.clsL la).length:=List.count_le_length;have h3:=St.cls_len la;omega
     obtain⟨ws,hws⟩:∃ ws,gsum St.gW ((St.clsL la).count ·) ((St.clsL lb).count ·) O=ws:=⟨_,rfl⟩;obtain⟨ts,hts⟩:∃ ts,gsum St.gT ((St.clsL la).count ·) ((St.clsL lb).count ·) O=ts:=⟨_,rfl⟩;have hl:=HL.out;rw[hws,hts] at hl;have HL2:=hid hl
     have hpk:(O++[(kd,kt)]++rest'.map (·.1)).Perm (E0.map (·.1)):=by
      refine List.Perm.trans ?_ HPM.out;rw[List.append_assoc];exact((hp.map (·.1)).symm.append_left _)
     have hsW:=gsum_snoc St.gW ((St.clsL la).count ·) ((St.clsL lb).count ·) O (kd,kt);have hsT:=gsum_snoc St.gT ((St.clsL la).count ·) ((St.clsL lb).count ·) O (kd,kt);rw[hws,hcn,hq] at hsW;rw[hts,hcn,hq] at hsT
     have hbW:gsum St.gW ((St.clsL la).count ·) ((St.clsL lb).count ·) (O++[(kd,kt)])<=4000000:=by
      have h1:=gsum_perm St.gW ((St.clsL la).count ·) ((St.clsL lb).count ·) hpk;rw[gsum_app,HEK.out,HGW.out] at h1;have h2:=HBW.out;omega
     have hbT:gsum St.gT ((St.clsL la).count ·) ((St.clsL lb).count ·) (O++[(kd,kt)])<=1000000:=by
      have h1:=gsum_perm St.gT ((St.clsL la).count ·) ((St.clsL lb).count ·) hpk;rw[gsum_app,HEK.out,HGT.out] at h1;have h2:=HBT.out;omega
     have HSW:=hid hsW;have HST:=hid hsT;rw[hsW] at hbW;rw[hsT] at hbT;have hlr:=HRG2.out.left;have hpl:=hp.length_eq;rw[List.length_cons] at hpl;have HRG':=hid hrg';have HPK:=hid hpk;have HRW:=hid (show r<w'.heap.size from by have:=HRL.out;omega);have hcmr:cm ≠ mb:=by simpa using HcmM.out
     have HCR:=hid hcmr
     have HE2x:=hid (fun (l':List (Nat × Value)) (W:World) (h1:ShL l' P (ws+St.gW (kd,kt)*min cn q) (ts+St.gT (kd,kt)*min cn q)) (h2:Mg.At Mg.numV W mb l') (h3:GS [mb] w' W)=>(show Sh2 W7 mb cm r P E0 ((St.clsL la).count ·) ((St.clsL lb).count ·) W/\W.rangeLeft cm r=rest'.length from
      have hrx:=HRG'.out.gs2 (Und.refl _) h3 HCR.out HrM.out
      ⟨⟨O++[(kd,kt)],rest',l',hrx,HPK.out,by rw[HSW.out,HST.out];exact h1,h2,Nat.lt_of_lt_of_le HRW.out h3.size,HGSA.out.trans h3⟩,hrx.left⟩))
     have hen':(Instr.entry (.pointer (some ⟨r,0,none⟩))).run Tryz.prog w'=.ok (.tuple #[.agg #[.int .i64 kd,.string ⟨kt.toArray⟩,.int .i64 0],.int .i64 (q:Int)]) w':=hen;rw[show Mg.tokV (kd,kt)=.agg #[.int .i64 kd,.string ⟨kt.toArray⟩,.int .i64 0] from rfl];have hrd:∀ W [Mg.AtI Mg.numV W mb l],(Instr.lookup 181 (.map (some mb)) (.int .i64 0) false).run Tryz.prog W=.ok (.agg #[.int .i64 (P:Int),.int .i64 (ws:Int),.int .i64 (ts:Int)]) W:=fun W h=>sums_read HL2.out h.out
     have hwr:∀ W [Mg.AtI Mg.numV W mb l] (v:Value),(Instr.mapUpdate 181 (.map (some mb)) (.int .i64 0) v).run Tryz.prog W=.ok () (Mg.put Mg.numV W mb [((0:Nat),v)]):=fun W h v=>sums_write HL2.out h.out v
     have hpls:=posts_look (f:=((St.clsL la).count ·)) Mg.tok_KV Tryz.underlying152 (fun W=>by go_simp) HO2.out hrows hgk m2;have HK2k:=hid (HK2.out (kd,kt));have HCN:=hid hcn;clear hen hp hmem hgb hsz hrg' hgk hq hrows han hl hpk hsW hsT hgs' hix hcmr hws hts hcn;rcases hpls with ⟨hnin,hlk⟩|⟨hin,pb,pc,hlk,p0,p1⟩
     ·have hcz:cn=0:=by
       rw[<- HCN.out];exact List.count_eq_zero_of_not_mem fun hm=>hnin (HK2k.out.2 hm)
      rw[hcz] at HE2x;have hlk2:∀ W [Mg.AtI Mg.tokV W m2 E2],(Instr.lookup 152 (.map (some m2)) (.agg #[.int .i64 kd,.string ⟨kt.toArray⟩,.int .i64 0]) false).run Tryz.prog W=.ok (.slice none 0 0) W:=hlk;clear hnin hlk hcz hrd hwr;go_wp2
      first|refine wp_region_under2 (by kernel_rfl) (by kernel_rfl) ?_|refine wp_region_under (by kernel_rfl) (by kernel_rfl) ?_
      repeat (go_big_quiet_step (first|(fail)))
      refine wpQuiet_nil ?_;rintro _ ⟨X,rfl⟩;go_wp2_with fail;refine wp_loop_rounds 1 ?_;rw[rounds_succ];go_wp2;exact fin2 (HE2x.out l _ (by rw[Nat.zero_min,Nat.mul_zero,Nat.mul_zero];exact HL2.out) (HAN.out.und (by apply_rules[uUe,uUa,uUb,uUc,uUd])) (.of_und (by apply_rules[uUe,uUa,uUb,uUc,uUd]))) (by omega)
     ·have p1':w'.cell? ⟨pb,1,none⟩=some (.int .i64 (cn:Int)):=by rw[<- HCN.out];exact p1
      haveI:LtW pb w':=LtW.of (lt_of_cell p0);have hlk2:∀ W [Mg.AtI Mg.tokV W m2 E2],(Instr.lookup 152 (.map (some m2)) (.agg #[.int .i64 kd,.string ⟨kt.toArray⟩,.int .i64 0]) false).run Tryz.prog W=.ok (.slice (some ⟨pb,0,none⟩) 1 pc) W:=hlk;have hT:=fun W=>xtag_any kd ⟨kt.toArray⟩ 0 W
      have hWG:=fun W=>weight_any kd ⟨kt.toArray⟩ 0 W
      obtain⟨mn,hmn⟩:∃ mn,min cn q=mn:=⟨_,rfl⟩;have hmi:min (cn:Int) (q:Int)=(mn:Int):=by omega
      rw[hmn] at HE2x hbW hbT;cases htag:St.tagT kd with
      | true=>
       rw[htag] at hT;have HT:=hid hT;have hgw:St.gW (kd,kt)=0:=by unfold St.gW;rw[if_pos htag]
       have hgt:St.gT (kd,kt)=1:=by unfold St.gT;rw[if_pos htag]
       rw[hgw,hgt,Nat.zero_mul,Nat.one_mul,Nat.add_zero] at HE2x;rw[hgt,Nat.one_mul] at hbT;clear hin hlk hT hWG p1 hgw hgt hbW htag;go_wp2
       first|refine wp_region_under2 (by kernel_rfl) (by kernel_rfl) ?_|refine wp_region_under (by kernel_rfl) (by kernel_rfl) ?_
       repeat (go_big_quiet_step (first|(fail)))
       refine wpQuiet_nil ?_;rintro _ ⟨X,rfl⟩;go_wp2_with fail;refine wp_loop_rounds 2 ?_;rw[rounds_succ];go_wp2_with ((go_at_call 138;refine(HT.out _).mono ?_;rintro e w' ⟨rfl,X,rfl⟩));rw[rounds_succ];go_wp2;refine fin2 (HE2x.out [((0:Nat),sumV P ws (ts+mn))] _ (.inr rfl) ?_ ((GS.of_und (by apply_rules[uUe,uUa,uUb,uUc,uUd])).trans (Mg.put_gs _ _ _))) (by omega);unfold sumV;exact Mg.put_at (Mg.AtI.out (l:=l)) _
      | false=>
       rw[htag] at hT;have HT:=hid hT;obtain⟨wk,hwk⟩:∃ wk,St.weightK kd=wk:=⟨_,rfl⟩;have hw4:=St.weight4 kd;have hgw:St.gW (kd,kt)=wk:=by unfold St.gW;rw[if_neg (by simp[htag])];exact hwk
       have hgt:St.gT (kd,kt)=0:=by unfold St.gT;rw[if_neg (by simp[htag])]
       rw[hgw,hgt,Nat.zero_mul,Nat.add_zero,Nat.mul_comm] at HE2x;rw[hgw,Nat.mul_comm] at hbW;rw[hwk] at hw4 hWG;have HWG:=hid hWG
       have hmw:(0:Int)<=(mn:Int)*wk/\(ws:Int)+(mn:Int)*wk<=4000000:=⟨Int.mul_nonneg (by omega) (by omega),by
        have h1:((ws+mn*wk:Nat):Int)<=4000000:=by omega
        rw[Int.natCast_add,Int.natCast_mul] at h1
        exact h1⟩
       have HMW:=hid (show -9223372036854775808<=(mn:Int)*wk/\(mn:Int)*wk<=9223372036854775807 from⟨by omega,by omega⟩);have HSWW:=hid (show -9223372036854775808<=(ws:Int)+(mn:Int)*wk/\(ws:Int)+(mn:Int)*wk<=9223372036854775807 from⟨by omega,by omega⟩);have HMN:=hid hmi;clear hin hlk hT hWG p1 hgw hgt hbT htag hmw;go_wp2
       first|refine wp_region_under2 (by kernel_rfl) (by kernel_rfl) ?_|refine wp_region_under (by kernel_rfl) (by kernel_rfl) ?_
       repeat (go_big_quiet_step (first|(fail)))
       refine wpQuiet_nil ?_;rintro _ ⟨X,rfl⟩;go_wp2_with fail;have HU8:=hid (show Und w' (under (w'.alloc (.cells #[.int .i64 kd,.string ⟨kt.toArray⟩,.int .i64 0] 104)) X) from(by apply_rules[uUe,uUa,uUb,uUc,uUd]));have HT8:=hid (show (under (w'.alloc (.cells #[.int .i64 kd,.string ⟨kt.toArray⟩,.int .i64 0] 104)) X).heap[w'.heap.size]?=some (.cells #[.int .i64 kd,.string ⟨kt.toArray⟩,.int .i64 0] 104 (0,0)) from((show Und (w'.alloc (.cells #[.int .i64 kd,.string ⟨kt.toArray⟩,.int .i64 0] 104)) _ from(by apply_rules[uUe,uUa,uUb,uUc,uUd])).below.block _ (by simp)).trans (heap_alloc_new w' _));generalize under (w'.alloc (.cells #[.int .i64 kd,.string ⟨kt.toArray⟩,.int .i64 0] 104)) X=W8 at HU8 HT8 ⊢;have p08:=(HU8.out.cell (p:=⟨pb,0,none⟩) (lt_of_cell p0)).trans p0;have p18:=(HU8.out.cell (p:=⟨pb,1,none⟩) (lt_of_cell p0)).trans p1';haveI:LtW pb W8:=LtW.of (lt_of_cell p08);haveI:Mg.AtI Mg.numV W8 mb l:=⟨HAN.out.und HU8.out⟩;have HSZ8:=hid HU8.out.size;have t80:=zcH HT8.out 0;have t81:=zcH HT8.out 1;have t82:=zcH HT8.out 2;simp only[List.getElem?_toArray,List.getElem?_cons_zero,List.getElem?_cons_succ] at t80 t81 t82;clear p0 p1' x2 hlk2;obtain⟨tb,htb⟩:∃ tb,w'.heap.size=tb:=⟨_,rfl⟩;rw[htb] at HT8 HSZ8 t80 t81 t82 ⊢;have HTB8:=hid htb;haveI:LtW tb W8:=LtW.of (lt_of_cell t80);clear htb;refine wp_loop_rounds 2 ?_;rw[rounds_succ];go_wp2_with ((go_at_call 138;refine(HT.out _).mono ?_;rintro e w' ⟨rfl,X,rfl⟩));obtain⟨pq,hpq⟩:∃ pq,W8.heap.size=pq:=⟨_,rfl⟩;refine gen_region (fun W=>Und W8 W/\W.heap[pq+1]?=some (.cells #[.int .i64 (P:Int),.int .i64 (ws:Int),.int .i64 (ts:Int)] 164 (0,0))/\W.cell? ⟨pq,0,none⟩=some (.int .i64 0)/\W.cell? ⟨pq,1,none⟩=some (.int .i64 (cn:Int))) ⟨(by apply_rules[uUe,uUa,uUb,uUc,uUd]),?_,by subst hpq;exact((show Und ((W8.alloc (.cells #[.int .i64 0,.int .i64 (cn:Int)] 178)).alloc (.cells #[.int .i64 (P:Int),.int .i64 (ws:Int),.int .i64 (ts:Int)] 164)) _ from(by apply_rules[uUe,uUa,uUb,uUc,uUd])).cell (p:=⟨W8.heap.size,0,none⟩) (by simp;omega)).trans (by simp),by subst hpq;exact((show Und ((W8.alloc (.cells #[.int .i64 0,.int .i64 (cn:Int)] 178)).alloc (.cells #[.int .i64 (P:Int),.int .i64 (ws:Int),.int .i64 (ts:Int)] 164)) _ from(by apply_rules[uUe,uUa,uUb,uUc,uUd])).cell (p:=⟨W8.heap.size,1,none⟩) (by simp;omega)).trans (by simp)⟩ (fun W5 h5=>?_)
       ·subst hpq
        have h1:=heap_alloc_new (W8.alloc (.cells #[.int .i64 0,.int .i64 (cn:Int)] 178)) (.cells #[.int .i64 (P:Int),.int .i64 (ws:Int),.int .i64 (ts:Int)] 164 (0,0));rw[World.size_alloc] at h1;exact((show Und ((W8.alloc (.cells #[.int .i64 0,.int .i64 (cn:Int)] 178)).alloc (.cells #[.int .i64 (P:Int),.int .i64 (ws:Int),.int .i64 (ts:Int)] 164)) _ from(by apply_rules[uUe,uUa,uUb,uUc,uUd])).below.block _ (by simp)).trans h1
       rw[hpq];obtain⟨hu5,hx5,hq0',hq1'⟩:=h5;obtain⟨xb,hxb⟩:∃ xb,pq+1=xb:=⟨_,rfl⟩;rw[hxb] at hx5 ⊢;have HXB5:=hid hx5;have HU5:=hid hu5;have hpx:pq ≠ xb:=by omega
       have htx:tb ≠ xb:=by have h1:=lt_of_heap HT8.out;omega
       have hge:W5.heap.size ≥ xb+1:=lt_of_heap hx5
       have HPC:=hid (fun W (hW:W5.grownBy W (some xb))=>(show W.cell? ⟨pq,0,none⟩=some (.int .i64 0)/\W.cell? ⟨pq,1,none⟩=some (.int .i64 (cn:Int)) from
        ⟨(gb_cell hW (p:=⟨pq,0,none⟩) (lt_of_cell hq0') (by simpa using hpx)).trans hq0',(gb_cell hW (p:=⟨pq,1,none⟩) (lt_of_cell hq0') (by simpa using hpx)).trans hq1'⟩))
       have hT5:=(hu5.below.block tb (lt_of_heap HT8.out)).trans HT8.out
       have HTC:=hid (fun W (hW:W5.grownBy W (some xb))=>(show W.cell? ⟨tb,0,none⟩=some (.int .i64 kd)/\W.cell? ⟨tb,1,none⟩=some (.string ⟨kt.toArray⟩)/\W.cell? ⟨tb,2,none⟩=some (.int .i64 0) from by
        have h9:=(hW.block tb (lt_of_heap hT5) (by simpa using htx)).trans hT5
        exact⟨zcH h9 0,zcH h9 1,zcH h9 2⟩))
       have HXL:=hid (show w'.heap.size<=xb from by have h1:=HTB8.out;have h2:=HSZ8.out;omega);clear hu5 hx5 hq0' hq1' hpq hxb hpx htx hT5 p08 p18 t80 t81 t82;refine wp_region_facts (fun _ _=>True) (fun L W=>W5.grownBy W (some (xb))/\W.heap[xb]?=some (.cells (if L 11=true then #[.int .i64 (P:Int),.int .i64 ((ws:Int)+mn*wk),.int .i64 (ts:Int)] else #[.int .i64 (P:Int),.int .i64 (ws:Int),.int .i64 (ts:Int)]) 164 (0,0))) [fun v _=>v=.pointer (some ⟨xb,1,none⟩),fun v _=>v=.int .i64 (ws:Int),fun v _=>v=.pointer (some ⟨pq,1,none⟩),fun v _=>v=.int .i64 (cn:Int),fun v _=>v=.int .i64 (q:Int),fun v _=>v=.int .i64 (mn:Int),fun v _=>v=.agg #[.int .i64 kd,.string ⟨kt.toArray⟩,.int .i64 0],fun v _=>v=.int .i64 (wk:Int),fun v _=>v=.int .i64 ((mn:Int)*wk),fun v _=>v=.int .i64 ((ws:Int)+mn*wk),fun v _=>v=.pointer (some ⟨xb,1,none⟩),noFact] (fun _=>trivial) (fun _ _ _ _ _=>trivial) (by kernel_rfl) (by rfl) (by kernel_rfl) (by kernel_rfl) ?frw ?hfr ?hI ?hob ?hend
       case hfr=>
        intro ρ;simp only[putAll,Act.put,zsA,zsB,zsC,Nat.zero_add,Nat.reduceAdd];exact rfl
       case hI=>exact⟨((by apply_rules[uUe,uUa,uUb,uUc,uUd]):Und W5 W5.drew).gb _,by
         rw[if_neg (by simp)]
         exact HXB5.out⟩
       case hob=>
        refine ObsF.cons (fun ρ L W hR hI hL hD hO hF K hK=>?_) ?_
        ·skip
         clear hF hD hO;simp only[Act.put,zsA,zsB,zsC] at hK ⊢;go_simp;refine hK _ _ trivial ⟨hI.1,by simpa [updB] using hI.2⟩ (fun W2 h2=>?_);rfl
        refine ObsF.cons (fun ρ L W hR hI hL hD hO hF K hK=>?_) ?_
        ·skip
         have f0:=allF_get hF (j:=0) (by decide);have hp0:L 9=false:=hD.not (p:=9) rfl (by decide) hL;have hp1:L 11=false:=hD.not (p:=11) rfl (by decide) hp0;have hb:W.heap[xb]?=some (.cells #[.int .i64 (P:Int),.int .i64 (ws:Int),.int .i64 (ts:Int)] 164 (0,0)):=by simpa [hp1] using hI.2
         haveI:LtW (xb) W:=LtW.of (lt_of_heap hb);clear hF hD hO;simp only[Act.put,zsA,zsB,zsC] at hK ⊢;have e0:ρ 0=.pointer (some ⟨xb,1,none⟩):=f0;rw[e0] at hK ⊢;have d1:=zcH hb 1;simp only[List.getElem?_toArray,List.getElem?_cons_zero,List.getElem?_cons_succ] at d1;go_simp;refine hK _ _ trivial ⟨hI.1,by simpa [updB] using hI.2⟩ (fun W2 h2=>?_);rfl
        refine ObsF.cons (fun ρ L W hR hI hL hD hO hF K hK=>?_) ?_
        ·skip
         clear hF hD hO;simp only[Act.put,zsA,zsB,zsC] at hK ⊢;go_simp;refine hK _ _ trivial ⟨hI.1,by simpa [updB] using hI.2⟩ (fun W2 h2=>?_);rfl
        refine ObsF.cons (fun ρ L W hR hI hL hD hO hF K hK=>?_) ?_
        ·skip
         have f2:=allF_get hF (j:=2) (by decide);clear hF hD hO;simp only[Act.put,zsA,zsB,zsC] at hK ⊢;have e2:ρ 2=.pointer (some ⟨pq,1,none⟩):=f2;rw[e2] at hK ⊢;have d2:=(HPC.out W hI.1).2;haveI:LtW pq W:=LtW.of (lt_of_cell d2);go_simp;refine hK _ _ trivial ⟨hI.1,by simpa [updB] using hI.2⟩ (fun W2 h2=>?_);rfl
        refine ObsF.cons (fun ρ L W hR hI hL hD hO hF K hK=>?_) ?_
        ·skip
         clear hF hD hO;simp only[Act.put,zsA,zsB,zsC] at hK ⊢;go_simp;refine hK _ _ trivial ⟨hI.1,by simpa [updB] using hI.2⟩ (fun W2 h2=>?_);rfl
        refine ObsF.cons (fun ρ L W hR hI hL hD hO hF K hK=>?_) ?_
        ·skip
         have f3:=allF_get hF (j:=3) (by decide);have f4:=allF_get hF (j:=4) (by decide);clear hF hD hO;simp only[Act.put,zsA,zsB,zsC] at hK ⊢;have e3:ρ 3=.int .i64 (cn:Int):=f3;have e4:ρ 4=.int .i64 (q:Int):=f4;rw[e3,e4] at hK ⊢;have hmn:=HMN.out;go_simp;refine hK _ _ trivial ⟨hI.1,by simpa [updB] using hI.2⟩ (fun W2 h2=>?_);rfl
        refine ObsF.cons (fun ρ L W hR hI hL hD hO hF K hK=>?_) ?_
        ·skip
         clear hF hD hO;simp only[Act.put,zsA,zsB,zsC] at hK ⊢;obtain⟨d5,d6,d7⟩:=HTC.out W hI.1;haveI:LtW tb W:=LtW.of (lt_of_cell d5);go_simp;refine hK _ _ trivial ⟨hI.1,by simpa [updB] using hI.2⟩ (fun W2 h2=>?_);rfl
        refine ObsF.cons (fun ρ L W hR hI hL hD hO hF K hK=>?_) ?_
        ·skip
         have f6:=allF_get hF (j:=6) (by decide);clear hF hD hO;simp only[Act.put,zsA,zsB,zsC] at hK ⊢;have e6:ρ 6=.agg #[.int .i64 kd,.string ⟨kt.toArray⟩,.int .i64 0]:=f6;rw[e6] at hK ⊢;refine step_callF3 (o:=⟨some 98,_,_,_,_,_⟩) rfl 139 #[.agg #[.int .i64 kd,.string ⟨kt.toArray⟩,.int .i64 0]] _ (HWG.out W) ?_ ?_
         ·go_simp
         rintro e W2 ⟨rfl,hu⟩
         exact⟨_,rfl,hK _ _ trivial ⟨gb_und hI.1 hu,by
          have h3:=(hu.below.block (xb) (lt_of_heap hI.2)).trans hI.2
          simpa [updB] using h3⟩ (fun W3 h3=>rfl)⟩
        refine ObsF.cons (fun ρ L W hR hI hL hD hO hF K hK=>?_) ?_
        ·skip
         have f5:=allF_get hF (j:=5) (by decide);have f7:=allF_get hF (j:=7) (by decide);clear hF hD hO;simp only[Act.put,zsA,zsB,zsC] at hK ⊢;have e5:ρ 5=.int .i64 (mn:Int):=f5;have e7:ρ 7=.int .i64 (wk:Int):=f7;rw[e5,e7] at hK ⊢;have yw:=wr_i64 (x:=(mn:Int)*wk) HMW.out.1 HMW.out.2;go_simp;refine hK _ _ trivial ⟨hI.1,by simpa [updB] using hI.2⟩ (fun W2 h2=>?_);rfl
        refine ObsF.cons (fun ρ L W hR hI hL hD hO hF K hK=>?_) ?_
        ·skip
         have f1:=allF_get hF (j:=1) (by decide);have f8:=allF_get hF (j:=8) (by decide);clear hF hD hO;simp only[Act.put,zsA,zsB,zsC] at hK ⊢;have e1:ρ 1=.int .i64 (ws:Int):=f1;have e8:ρ 8=.int .i64 ((mn:Int)*wk):=f8;rw[e1,e8] at hK ⊢;have yw:=wr_i64 (x:=(ws:Int)+mn*wk) HSWW.out.1 HSWW.out.2;go_simp;refine hK _ _ trivial ⟨hI.1,by simpa [updB] using hI.2⟩ (fun W2 h2=>?_);rfl
        refine ObsF.cons (fun ρ L W hR hI hL hD hO hF K hK=>?_) ?_
        ·skip
         clear hF hD hO;simp only[Act.put,zsA,zsB,zsC] at hK ⊢;go_simp;refine hK _ _ trivial ⟨hI.1,by simpa [updB] using hI.2⟩ (fun W2 h2=>?_);rfl
        refine ObsF.cons (fun ρ L W hR hI hL hD hO hF K hK=>?_) ?_
        ·skip
         have f10:=allF_get hF (j:=10) (by decide);have f9:=allF_get hF (j:=9) (by decide);have hb:W.heap[xb]?=some (.cells #[.int .i64 (P:Int),.int .i64 (ws:Int),.int .i64 (ts:Int)] 164 (0,0)):=by simpa [hL] using hI.2
         haveI:LtW (xb) W:=LtW.of (lt_of_heap hb);clear hF hD hO;simp only[Act.put,zsA,zsB,zsC] at hK ⊢;have e10:ρ 10=.pointer (some ⟨xb,1,none⟩):=f10;have e9:ρ 9=.int .i64 ((ws:Int)+mn*wk):=f9;rw[e10,e9] at hK ⊢;have fz1:W.frozen? ⟨xb,1,none⟩=false:=zfH hb 1;have gz1:=zcH hb 1;simp only[List.getElem?_toArray,List.getElem?_cons_zero,List.getElem?_cons_succ] at gz1;go_simp
         refine hK undef _ trivial ⟨(gb_setCell hI.1 ⟨xb,1,none⟩ (.int .i64 ((ws:Int)+mn*wk)) (.inl rfl)),by
          have h3:=(heap_setCell_same _ (xb) 1 _ _ (.int .i64 ((ws:Int)+mn*wk)) hb);rw[if_pos (by simp[updB])]
          exact h3⟩ (fun _ _=>trivial)
        exact ObsF.nil
       case hend=>
        intro ρ L W hR hI hL hF;have hLS:L 11=true:=hL 11 (by decide);have hu0:=hI.1;have hb:W.heap[xb]?=some (.cells #[.int .i64 (P:Int),.int .i64 ((ws:Int)+mn*wk),.int .i64 (ts:Int)] 164 (0,0)):=by simpa [hLS] using hI.2
        clear hR hL hF hI hLS;have HB5:=hid hb;have HG5:=hid hu0;have e0:=zcH hb 0;have e1:=zcH hb 1;have e2:=zcH hb 2;simp only[List.getElem?_toArray,List.getElem?_cons_zero,List.getElem?_cons_succ] at e0 e1 e2;obtain⟨q0,q1⟩:=HPC.out W hu0;haveI:LtW pq W:=LtW.of (lt_of_cell q0);haveI:LtW xb W:=LtW.of (lt_of_heap hb);have hgsw:GS [mb] w' W:=(GS.of_und (HU8.out.trans HU5.out)).gb hu0 (fun g e=>by cases e;exact .inr HXL.out);have hmx:mb ≠ xb:=by have h1:=HAN.out.lt;have h2:=HXL.out;omega
        haveI:Mg.AtI Mg.numV W mb l:=⟨((HAN.out.und HU8.out).und HU5.out).gb hu0 (by simpa using hmx)⟩;have HGW9:=hid hgsw;clear hb hu0 hgsw q1 hmx;go_wp2_with fail;rw[rounds_succ];go_wp2;refine fin2 (HE2x.out [((0:Nat),sumV P (ws+mn*wk) ts)] _ (.inr rfl) ?_ (HGW9.out.trans (Mg.put_gs _ _ _))) (by omega);unfold sumV;rw[show ((ws+mn*wk:Nat):Int)=(ws:Int)+(mn:Int)*wk from by rw[Int.natCast_add,Int.natCast_mul]];exact Mg.put_at (Mg.AtI.out (l:=l)) _
end Go.Proofs.YtcfhfdphoidaeaaGreatDoor
