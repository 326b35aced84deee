/- Maps with keys of any kind in memory: what they hold, a look, another value, an entry. -/
import Derived.Maps.Keyed
import Derived.Maps.RangeWalk
import Derived.DeepKeys5
import Derived.Test.YtcfhfdphoidaeaaGreatDoorTkA
set_option linter.unusedVariables false
set_option linter.unusedSimpArgs false
set_option linter.all false
namespace Go.Proofs.YtcfhfdphoidaeaaGreatDoor.Mg
open Go.RowKit
section
section
variable {κ:Type} (kv:κ->Value)
def ent:Nat->List (κ × Value)->List MapEntry
 | _,[]=>[]
 | n,p :: l=>{ key:=kv p.1,val:=p.2,born:=n } :: ent (n+1) l
theorem ent_push(p:κ × Value):∀ (l:List (κ × Value)) (n:Nat),ent kv n (l++[p])=ent kv n l++[{ key:=kv p.1,val:=p.2,born:=n+l.length }]
 | [],n=>by simp[ent]
 | q :: l,n=>by
  simp only[List.cons_append,ent,ent_push p l (n+1),List.length_cons];rw[show n+1+l.length=n+(l.length+1) by omega]
theorem ent_get:∀ (l:List (κ × Value)) (n j:Nat),(ent kv n l)[j]?=(l[j]?).map fun p=>{ key:=kv p.1,val:=p.2,born:=n+j }
 | [],n,j=>by simp[ent]
 | p :: l,n,0=>by simp[ent]
 | p :: l,n,j+1=>by
  rw[ent,List.getElem?_cons_succ,List.getElem?_cons_succ,ent_get l (n+1) j,show n+1+j=n+(j+1) by omega]
theorem ent_len:∀ (l:List (κ × Value)) (n:Nat),(ent kv n l).length=l.length
 | [],_=>rfl
 | p :: l,n=>by rw[ent,List.length_cons,List.length_cons,ent_len l]
theorem ent_mem{l:List (κ × Value)}{n:Nat}{e:MapEntry}(h:e ∈ ent kv n l):∃ p ∈ l,e.key=kv p.1/\e.val=p.2/\n<=e.born/\e.born<n+l.length:=by
 obtain⟨j,hj⟩:=List.mem_iff_getElem?.1 h;rw[ent_get] at hj;obtain⟨p,hp,rfl⟩:=Option.map_eq_some_iff.1 hj;have:=(List.getElem?_eq_some_iff.1 hp).1
 exact⟨p,List.mem_of_getElem? hp,rfl,rfl,Nat.le_add_right _ _,by show n+j<_;omega⟩
theorem ent_set(q:κ × Value):∀ (l:List (κ × Value)) (n j:Nat),ent kv n (l.set j q)=(ent kv n l).modify j fun e=>{ e with key:=kv q.1,val:=q.2 }
 | [],n,j=>by simp[ent]
 | p :: l,n,0=>by simp[ent]
 | p :: l,n,j+1=>by
  rw[zsB,ent,ent,ent_set q l (n+1) j];rfl
def At(w:World)(mb:Nat)(l:List (κ × Value)):Prop:=w.heap[mb]?=some (.map (ent kv 0 l).toArray l.length)
def put(w:World)(mb:Nat)(l:List (κ × Value)):World:={ w with heap:=w.heap.setIfInBounds mb (.map (ent kv 0 l).toArray l.length) }
variable {kv}
theorem At.lt{w:World}{mb:Nat}{l:List (κ × Value)}(h:At kv w mb l):mb<w.heap.size:=lt_of_heap h
theorem At.und{a c:World}{mb:Nat}{l:List (κ × Value)}(h:At kv a mb l)(u:Und a c):At kv c mb l:=(u.below.block mb h.lt).trans h
theorem At.gb{a c:World}{mb:Nat}{row:Option Nat}{l:List (κ × Value)}(h:At kv a mb l)(u:a.grownBy c row)(hne:some mb ≠ row):At kv c mb l:=(u.block mb h.lt hne).trans h
theorem put_ne(w:World){mb b:Nat}(l:List (κ × Value))(h:b ≠ mb):(put kv w mb l).heap[b]?=w.heap[b]?:=by
 show (w.heap.setIfInBounds mb _)[b]?=_
 rw[Array.getElem?_setIfInBounds_ne (Ne.symm h)]
theorem put_at{w:World}{mb:Nat}{l0:List (κ × Value)}(h:At kv w mb l0)(l:List (κ × Value)):At kv (put kv w mb l) mb l:=by
 show (w.heap.setIfInBounds mb _)[mb]?=_
 have:=h.lt
 simp[this]
theorem put_size(w:World)(mb:Nat)(l:List (κ × Value)):(put kv w mb l).heap.size=w.heap.size:=by
 show (w.heap.setIfInBounds mb _).size=_;simp
theorem put_put(w:World)(mb:Nat)(l l':List (κ × Value)):put kv (put kv w mb l) mb l'=put kv w mb l':=by
 unfold put;simp only[Array.setIfInBounds_setIfInBounds]
theorem made_at(w:World):At kv (w.alloc (.map #[] 0)) w.heap.size ([]:List (κ × Value)):=heap_alloc_new w _
structure KV (kt:TypeId) (kv:κ->Value) (good:κ->Prop):Prop where
 K:Maps.Keyed Tryz.prog kt
 rd:∀ k,good k->∃ x,keyOf Tryz.prog kt (kv k)=some x
 inj:∀ a b,kv a=kv b->a=b
def Ok(good:κ->Prop)(l:List (κ × Value)):Prop:=(∀ p ∈ l,good p.1)/\(l.map (·.1)).Nodup
theorem Ok.nil(good:κ->Prop):Ok good ([]:List (κ × Value)):=⟨fun _ h=>(by cases h),by simp⟩
variable {kt:TypeId}
def lft(seen:Array Nat):Nat->List (κ × Value)->List (κ × Value)
 | _,[]=>[]
 | n,p :: l=>if seen.contains n then lft seen (n+1) l else p :: lft seen (n+1) l
def Rng(kv:κ->Value)(w:World)(r mb:Nat)(l rest:List (κ × Value)):Prop:=
 At kv w mb l/\∃ seen c0,w.heap[r]?=some (.mapIter (some mb) l.length seen c0)/\l.length<=c0/\rest=lft seen 0 l
theorem lft_none:∀ (l:List (κ × Value)) (n:Nat),lft #[] n l=l
 | [],_=>rfl
 | p :: l,n=>by rw[lft,lft_none l];simp
theorem lft_zero{seen:Array Nat}:∀ (l:List (κ × Value)) (n:Nat),(∀ e ∈ ent kv n l,seen.contains e.born=true)->lft seen n l=[]
 | [],_,_=>rfl
 | p :: l,n,h=>by
  rw[lft,if_pos (h _ (List.mem_cons_self ..)),lft_zero l (n+1) fun e he=>h e (List.mem_cons_of_mem _ he)]
theorem lft_push{seen:Array Nat}{j:Nat}(hs:seen.contains j=false):∀ (l:List (κ × Value)) (n:Nat) (p:κ × Value),n<=j->l[j-n]?=some p->(lft seen n l).Perm (p :: lft (seen.push j) n l)
 | [],n,p,_,h=>by simp at h
 | q :: l,n,p,hn,h=>by
  by_cases e:n=j
  ·subst e
   simp at h;subst h;rw[lft,lft,hs];simp only[Bool.false_eq_true,if_false];rw[if_pos (by simp)]
   have:∀ (l:List (κ × Value)) (m:Nat),n<m->lft (seen.push n) m l=lft seen m l:=by
    intro l
    induction l with
    | nil=>intros;rfl
    | cons a l ih=>
     intro m hm;rw[lft,lft,ih (m+1) (by omega),show (seen.push n).contains m=seen.contains m by rw[Bool.eq_iff_iff];simp;omega]
   rw[this l (n+1) (by omega)]
  ·have hlt:n+1<=j:=by omega
   rw[show j-n=(j-(n+1))+1 by omega,List.getElem?_cons_succ] at h;have ih:=lft_push hs l (n+1) p hlt h;rw[lft,lft,show (seen.push j).contains n=seen.contains n by rw[Bool.eq_iff_iff];simp;omega]
   split
   ·exact ih
   ·exact(ih.cons q).trans (List.Perm.swap _ _ _)
theorem At.rng{w:World}{mb:Nat}{l:List (κ × Value)}(h:At kv w mb l):Rng kv (w.alloc (.mapIter (some mb) l.length #[] l.length)) w.heap.size mb l l:=
 ⟨(@heap_alloc_old w _ _ h.lt).trans h,#[],l.length,heap_alloc_new w _,Nat.le_refl _,(lft_none l 0).symm⟩
theorem Rng.gb{a c:World}{r mb:Nat}{row:Option Nat}{l rest:List (κ × Value)}(h:Rng kv a r mb l rest)(u:a.grownBy c row)(hne:some mb ≠ row)(hr:some r ≠ row):Rng kv c r mb l rest:=by
 obtain⟨h1,seen,c0,h2,h3⟩:=h;exact⟨h1.gb u hne,seen,c0,(u.block r (lt_of_heap h2) hr).trans h2,h3⟩
theorem Rng.und{a c:World}{r mb:Nat}{l rest:List (κ × Value)}(h:Rng kv a r mb l rest)(u:Und a c):Rng kv c r mb l rest:=by
 obtain⟨h1,seen,c0,h2,h3⟩:=h;exact⟨h1.und u,seen,c0,(u.below.block r (lt_of_heap h2)).trans h2,h3⟩
theorem Rng.ne{w:World}{r mb:Nat}{l rest:List (κ × Value)}(h:Rng kv w r mb l rest):r ≠ mb:=by
 obtain⟨h1,seen,c0,h2,_⟩:=h;rintro rfl;rw[show w.heap[r]?=_ from h1] at h2;cases h2
theorem Rng.next{w:World}{r mb:Nat}{l rest:List (κ × Value)}(h:Rng kv w r mb l rest)(ty:TypeId) :
  (rest=[]/\(Instr.next (.pointer (some ⟨r,0,none⟩)) false ty).run Tryz.prog w=.ok (.tuple #[.bool false]) w) ∨
  ∃ k v rest' w',rest.Perm ((k,v) :: rest')/\(k,v) ∈ l/\(Instr.next (.pointer (some ⟨r,0,none⟩)) false ty).run Tryz.prog w=.ok (.tuple #[.bool true,kv k,v]) w'/\Rng kv w' r mb l rest'/\w.grownBy w' (some r)/\w'.heap.size=w.heap.size /\
   (Instr.entry (.pointer (some ⟨r,0,none⟩))).run Tryz.prog w'=.ok (.tuple #[kv k,v]) w':=by
 have hne:=h.ne;obtain⟨hb,seen,c0,hr,hc,rfl⟩:=h
 have hold:∀ x ∈ (ent kv 0 l).toArray.toList,x.born<l.length:=fun x hx=>by
  obtain⟨_,_,_,_,_,h⟩:=ent_mem kv (show x ∈ ent kv 0 l from hx);omega
 have hb':w.heap[mb]?=some (.map (ent kv 0 l).toArray l.length):=hb;rcases run_next_at (P:=Tryz.prog) w ty r mb l.length c0 seen _ _ hr hb' hold hc with ⟨h0,hrun⟩|⟨e,he,w1,hal,hrun⟩
 ·refine .inl ⟨lft_zero (kv:=kv) l 0 fun e he=>?_,hrun⟩
  have hemp:leftOf (ent kv 0 l).toArray seen=#[]:=Array.eq_empty_of_size_eq_zero h0;unfold leftOf at hemp;rw[Array.filter_eq_empty_iff] at hemp;have:=hemp e (by simpa using he)
  simpa using this
 ·have he':e ∈ ent kv 0 l/\seen.contains e.born=false:=by
   unfold leftOf at he;simp only[Array.toList_filter,List.mem_filter] at he;exact⟨he.1,by simpa using he.2⟩
  obtain⟨j,hj⟩:=List.mem_iff_getElem?.1 he'.1;rw[ent_get] at hj;obtain⟨p,hp,rfl⟩:=Option.map_eq_some_iff.1 hj;simp only[Nat.zero_add] at he' hrun he ⊢;have hr1:w1.heap[r]?=some (.mapIter (some mb) l.length seen c0):=by rcases hal with rfl|rfl <;> exact hr
  have hb1:w1.heap[mb]?=some (.map (ent kv 0 l).toArray l.length):=by rcases hal with rfl|rfl <;> exact hb'
  have hset:=MapKept.heap_set (o':=.mapIter (some mb) l.length (seen.push j) l.length) hr1;have hb2:(ChangeMaps.setBlock w1 r (.mapIter (some mb) l.length (seen.push j) l.length)).heap[mb]?=some (.map (ent kv 0 l).toArray l.length):=(hset.2 mb (Ne.symm hne)).trans hb1;refine .inr ⟨p.1,p.2,lft (seen.push j) 0 l,_,lft_push he'.2 l 0 p (Nat.zero_le _) (by simpa using hp),List.mem_of_getElem? hp,hrun,⟨hb2,seen.push j,l.length,hset.1,Nat.le_refl _,rfl⟩,?_,?_,?_⟩
  ·rcases hal with rfl|rfl <;> exact⟨rfl,rfl,rfl,by simp[ChangeMaps.setBlock],fun i _ hi=>hset.2 i (fun e1=>hi (by rw[e1]))⟩
  ·rcases hal with rfl|rfl <;> simp[ChangeMaps.setBlock]
  ·refine run_entry_at _ r mb l.length seen _ _ { key:=kv p.1,val:=p.2,born:=j } hset.1 hb2 (by simpa using he'.1) ?_
   have:∀ (l:List (κ × Value)) (n:Nat),((ent kv n l).map (·.born)).Nodup:=by
    intro l
    induction l with
    | nil=>intro n;simp[ent]
    | cons q l ih=>
     intro n;rw[ent,List.map_cons,List.nodup_cons];refine⟨fun hm=>?_,ih (n+1)⟩;obtain⟨x,hx,hxe⟩:=List.mem_map.1 hm;obtain⟨_,_,_,_,h1,_⟩:=ent_mem kv hx;have:x.born=n:=hxe
     omega
   exact this l 0
theorem wp_range{w:World}{ops:Array Oper}{rst:List Oper}{o:Oper}{a:Act}{Q:Exit->Act->World->Prop}{et:TypeId}(hg:o.guard=none)(m:Operand)(t:TypeId)(hop:o.op=Op.range t m)(ht:Tryz.prog.underlying t=some (.map kt et))(mb:Nat){l:List (κ × Value)}
  (hm:a.eval m=.map (some mb)) (h:At kv w mb l)
  (hK:∀ w',Rng kv w' w.heap.size mb l l->Und w w'->w'.heap.size=w.heap.size+1->wpList Tryz.prog ops Q rst (a.put o.dst (.pointer (some ⟨w.heap.size,0,none⟩))) w') :
  wpList Tryz.prog ops Q (o :: rst) a w:=by
 refine wpList_plain hg fun K' hK'=>?_
 have hrun:=run_range_map w t kt et mb _ _ ht (show w.heap[mb]?=some (.map (ent kv 0 l).toArray l.length) from h);unfold Oper.wp;simp[execOp,hop,hm,hrun,Result.andThen];exact hK' _ _ (hK _ h.rng ((Und.refl w).alloc _) (by simp))
theorem wp_next{w:World}{ops:Array Oper}{rst:List Oper}{o:Oper}{a:Act}{Q:Exit->Act->World->Prop}(hg:o.guard=none)(it:Operand)(hop:o.op=Op.next it false)(r mb:Nat){l rest:List (κ × Value)}
  (hit:a.eval it=.pointer (some ⟨r,0,none⟩)) (h:Rng kv w r mb l rest)
  (hDone:rest=[]->wpList Tryz.prog ops Q rst (a.put o.dst (.tuple #[.bool false])) w)
  (hMore:∀ k v rest' w',rest.Perm ((k,v) :: rest')->(k,v) ∈ l->Rng kv w' r mb l rest'->w.grownBy w' (some r)->w'.heap.size=w.heap.size->(Instr.entry (.pointer (some ⟨r,0,none⟩))).run Tryz.prog w'=.ok (.tuple #[kv k,v]) w' ->
   wpList Tryz.prog ops Q rst (a.put o.dst (.tuple #[.bool true,kv k,v])) w') :
  wpList Tryz.prog ops Q (o :: rst) a w:=by
 refine wpList_plain hg fun K' hK'=>?_
 unfold Oper.wp;rcases h.next o.type with ⟨h0,hrun⟩|⟨k,v,rest',w',hp,hm,hrun,hrg,hgr,hsz,hen⟩
 ·simp[execOp,hop,hit,hrun,Result.andThen]
  exact hK' _ _ (hDone h0)
 ·simp[execOp,hop,hit,hrun,Result.andThen]
  exact hK' _ _ (hMore k v rest' w' hp hm hrg hgr hsz hen)
end
section
variable {κ:Type} [DecidableEq κ] {kv:κ->Value} {kt:TypeId} {good:κ->Prop}
def look(k:κ):List (κ × Value)->Option Value
 | []=>none
 | p :: l=>if k=p.1 then some p.2 else look k l
def upd(k:κ)(v:Value):List (κ × Value)->List (κ × Value)
 | []=>[(k,v)]
 | p :: l=>if k=p.1 then (k,v) :: l else p :: upd k v l
def ens(k:κ)(z:Value)(l:List (κ × Value)):List (κ × Value):=if (look k l).isSome then l else l++[(k,z)]
theorem look_at{k:κ}{v:Value}:∀ {l:List (κ × Value)},(l.map (·.1)).Nodup->∀ {j:Nat},l[j]?=some (k,v)->look k l=some v
 | [],_,j,h=>by simp at h
 | p :: l,hn,0,h=>by
  simp at h;subst h;simp[look]
 | p :: l,hn,j+1,h=>by
  rw[List.map_cons,List.nodup_cons] at hn;rw[List.getElem?_cons_succ] at h
  have hne:k ≠ p.1:=by
   rintro rfl;exact hn.1 (List.mem_map.2 ⟨_,List.mem_of_getElem? h,rfl⟩)
  rw[look,if_neg hne];exact look_at hn.2 h
theorem look_none{k:κ}:∀ {l:List (κ × Value)},look k l=none ↔ k ∉ l.map (·.1)
 | []=>by simp[look]
 | p :: l=>by
  rw[look]
  by_cases h:k=p.1
  ·simp[h]
  ·rw[if_neg h,look_none];simp[h]
theorem upd_new{k:κ}(v:Value):∀ {l:List (κ × Value)},look k l=none->upd k v l=l++[(k,v)]
 | [],_=>rfl
 | p :: l,h=>by
  rw[look] at h
  by_cases e:k=p.1
  ·rw[if_pos e] at h;cases h
  ·rw[if_neg e] at h
   rw[upd,if_neg e,upd_new v h];rfl
theorem upd_old{k:κ}{u:Value}(v:Value):∀ {l:List (κ × Value)},(l.map (·.1)).Nodup->∀ {j:Nat},l[j]?=some (k,u)->upd k v l=l.set j (k,v)
 | [],_,j,h=>by simp at h
 | p :: l,hn,0,h=>by
  simp at h;subst h;simp[upd]
 | p :: l,hn,j+1,h=>by
  rw[List.map_cons,List.nodup_cons] at hn;rw[List.getElem?_cons_succ] at h
  have hne:k ≠ p.1:=by
   rintro rfl;exact hn.1 (List.mem_map.2 ⟨_,List.mem_of_getElem? h,rfl⟩)
  rw[upd,if_neg hne,zsB,upd_old v hn.2 h]
theorem upd_keys(k:κ)(v:Value):∀ l:List (κ × Value),(upd k v l).map (·.1)=if k ∈ l.map (·.1) then l.map (·.1) else l.map (·.1)++[k]
 | []=>by simp[upd]
 | p :: l=>by
  rw[upd]
  by_cases e:k=p.1
  ·rw[if_pos e,if_pos (by simp[e])];simp[e]
  ·rw[if_neg e,List.map_cons,upd_keys k v l,List.map_cons]
   by_cases h:k ∈ l.map (·.1)
   ·rw[if_pos h,if_pos (List.mem_cons_of_mem _ h)]
   ·rw[if_neg h,if_neg (by simp only[List.mem_cons,not_or];exact⟨e,h⟩)];rfl
theorem look_upd(k x:κ)(v:Value):∀ l:List (κ × Value),look x (upd k v l)=if x=k then some v else look x l
 | []=>by simp[upd,look]
 | p :: l=>by
  rw[upd]
  by_cases e:k=p.1
  ·rw[if_pos e,look,look]
   by_cases h:x=k
   ·rw[if_pos h,if_pos h]
   ·rw[if_neg h,if_neg h,if_neg (e ▸ h)]
  ·rw[if_neg e,look,look,look_upd k x v l]
   by_cases h:x=p.1
   ·rw[if_pos h,if_neg (by rintro rfl;exact e h),if_pos h]
   ·rw[if_neg h,if_neg h]
theorem Ok.upd{l:List (κ × Value)}{k:κ}(h:Ok good l)(hk:good k)(v:Value):Ok good (upd k v l):=by
 have hkeys:=upd_keys k v l;refine⟨fun p hp=>?_,?_⟩
 ·have:p.1 ∈ (Mg.upd k v l).map (·.1):=List.mem_map.2 ⟨p,hp,rfl⟩
  rw[hkeys] at this
  split at this
  ·obtain⟨q,hq,e⟩:=List.mem_map.1 this
   rw[<- e];exact h.1 q hq
  ·rcases List.mem_append.1 this with hm|hm
   ·obtain⟨q,hq,e⟩:=List.mem_map.1 hm
    rw[<- e];exact h.1 q hq
   ·rw[List.mem_singleton.1 hm];exact hk
 ·rw[hkeys]
  split
  ·exact h.2
  ·rename_i hm
   exact List.nodup_append.2 ⟨h.2,by simp,fun x hx y hy=>by rw[List.mem_singleton.1 hy];rintro rfl;exact hm hx⟩
theorem Ok.push{l:List (κ × Value)}{k:κ}(h:Ok good l)(hk:good k)(hn:look k l=none)(v:Value):Ok good (l++[(k,v)]):=by
 rw[<- upd_new v hn];exact h.upd hk v
theorem find(V:KV kt kv good)(w:World){l:List (κ × Value)}(hl:Ok good l){k:κ}(hk:good k) :
  (look k l=none/\(Instr.findKey kt (kv k) (ent kv 0 l)).run Tryz.prog w=.ok none w)∨∃ j v,look k l=some v/\l[j]?=some (k,v)/\(Instr.findKey kt (kv k) (ent kv 0 l)).run Tryz.prog w=.ok (some (j,v)) w:=by
 obtain⟨x,hx⟩:=V.rd k hk
 have hes:∀ e ∈ ent kv 0 l,∃ y,keyOf Tryz.prog kt e.key=some y:=fun e he=>by
  obtain⟨p,hp,h1,_⟩:=ent_mem kv he;rw[h1];exact V.rd p.1 (hl.1 p hp)
 rcases V.K.find w hx (ent kv 0 l) hes with ⟨h1,h2⟩|⟨j,e,h1,h2,h3⟩
 ·refine .inl ⟨look_none.2 fun hm=>?_,h1⟩
  obtain⟨p,hp,rfl⟩:=List.mem_map.1 hm;obtain⟨j,hj⟩:=List.mem_iff_getElem?.1 hp;have:(ent kv 0 l)[j]?=_:=ent_get kv l 0 j
  rw[hj] at this;exact h2 _ (List.mem_of_getElem? this) rfl
 ·rw[ent_get] at h2
  obtain⟨p,hp,rfl⟩:=Option.map_eq_some_iff.1 h2;have e:=V.inj _ _ h3;have hp':l[j]?=some (k,p.2):=by rw[hp,<- e]
  exact .inr ⟨j,p.2,look_at hl.2 hp',hp',h1⟩
section
variable {T et:TypeId} (V:KV kt kv good) (hm:Tryz.prog.underlying T=some (.map kt et))
include V hm
theorem run_get{w:World}{mb:Nat}{l:List (κ × Value)}{k:κ}{v:Value}(ok:Bool)(ha:At kv w mb l)(hl:Ok good l)(hk:good k)(h:look k l=some v) :
  (Instr.lookup T (.map (some mb)) (kv k) ok).run Tryz.prog w=.ok (if ok then .tuple #[v,.bool true] else v) w:=by
 obtain⟨x,hx⟩:=V.rd k hk;rcases find V w hl hk with ⟨h1,_⟩|⟨j,u,h1,_,h2⟩
 ·rw[h] at h1;cases h1
 ·rw[h] at h1;cases h1
  cases ok <;> simp[Instr.lookup,run_underlying hm,MapKept.run_getObj_map ha,V.K.check w _ hx,h2,Result.andThen]
theorem run_getno{w:World}{mb:Nat}{l:List (κ × Value)}{k:κ}{z:Value}(ok:Bool)(hz:(zeroValue et).run Tryz.prog w=.ok z w)(ha:At kv w mb l)(hl:Ok good l)(hk:good k)(h:look k l=none) :
  (Instr.lookup T (.map (some mb)) (kv k) ok).run Tryz.prog w=.ok (if ok then .tuple #[z,.bool false] else z) w:=by
 obtain⟨x,hx⟩:=V.rd k hk;rcases find V w hl hk with ⟨_,h2⟩|⟨j,u,h1,_,_⟩
 ·cases ok <;> simp[Instr.lookup,run_underlying hm,MapKept.run_getObj_map ha,V.K.check w _ hx,h2,hz,Result.andThen]
 ·rw[h] at h1;cases h1
theorem run_put{w:World}{mb:Nat}{l:List (κ × Value)}{k:κ}(v:Value)(ha:At kv w mb l)(hl:Ok good l)(hk:good k) :
  (Instr.mapUpdate T (.map (some mb)) (kv k) v).run Tryz.prog w=.ok () (put kv w mb (upd k v l)):=by
 obtain⟨x,hx⟩:=V.rd k hk;rcases find V w hl hk with ⟨h1,h2⟩|⟨j,u,h1,h3,h2⟩
 ·simp[Instr.mapUpdate,run_underlying hm,MapKept.run_getObj_map ha,V.K.check w _ hx,h2,MapKept.run_setObj_map _ ha,Result.andThen]
  simp[put,upd_new v h1,ent_push]
 ·have hj:(ent kv 0 l)[j]?=some { key:=kv k,val:=u,born:=0+j }:=by rw[ent_get,h3];rfl
  simp[Instr.mapUpdate,run_underlying hm,MapKept.run_getObj_map ha,V.K.check w _ hx,h2,hj,V.K.stays w hx,MapKept.run_setObj_map _ ha,Result.andThen];simp[put,upd_old v hl.2 h3,ent_set]
theorem run_open{w:World}{mb:Nat}{l:List (κ × Value)}{k:κ}{z:Value}(hz:(zeroValue et).run Tryz.prog w=.ok z w)(ha:At kv w mb l)(hl:Ok good l)(hk:good k) :
  ∃ j:Nat,(∃ u,(ens k z l)[j]?=some (k,u))/\(Instr.mapEntry T (.map (some mb)) (kv k)).run Tryz.prog w=.ok (.tuple #[(look k l).getD z,.int .i64 j]) (put kv w mb (ens k z l)):=by
 obtain⟨x,hx⟩:=V.rd k hk;rcases find V w hl hk with ⟨h1,h2⟩|⟨j,u,h1,h3,h2⟩
 ·refine⟨l.length,⟨z,by simp[ens,h1]⟩,?_⟩
  simp[Instr.mapEntry,run_underlying hm,MapKept.run_getObj_map ha,V.K.check w _ hx,h2,hz,MapKept.run_setObj_map _ ha,Result.andThen,h1];simp[put,ens,h1,ent_push,goInt]
 ·have hj:(ent kv 0 l)[j]?=some { key:=kv k,val:=u,born:=0+j }:=by rw[ent_get,h3];rfl
  refine⟨j,⟨u,by simp[ens,h1,h3]⟩,?_⟩
  have hset:l.set j (k,u)=l:=by
   apply List.ext_getElem?;intro i;rw[List.getElem?_set]
   split
   ·rename_i e;subst e
    rw[h3];have:=(List.getElem?_eq_some_iff.1 h3).1
    simp[this]
   ·rfl
  have hs:=ent_set kv (k,u) l 0 j;rw[hset] at hs
  have hsame:(ent kv 0 l).toArray.modify j (fun e=>{ key:=kv k,val:=e.val,born:=e.born })=(ent kv 0 l).toArray:=by
   apply Array.ext_getElem?;intro i;rw[Array.getElem?_modify]
   split
   ·rename_i e;subst e
    rw[List.getElem?_toArray,hj];rfl
   ·rfl
  simp[Instr.mapEntry,run_underlying hm,MapKept.run_getObj_map ha,V.K.check w _ hx,h2,hj,V.K.stays w hx,MapKept.run_setObj_map _ ha,Result.andThen,h1,hsame]
  have hs2:(ent kv 0 l).modify j (fun e=>{ key:=kv k,val:=e.val,born:=e.born })=ent kv 0 l:=by
   have:=congrArg Array.toList hsame
   simpa using this
  simp[put,ens,h1,goInt,hs2]
theorem run_store{w:World}{mb:Nat}{l:List (κ × Value)}{k:κ}{j:Nat}{u:Value}(v:Value)(ha:At kv w mb l)(hn:(l.map (·.1)).Nodup)(hj:l[j]?=some (k,u)) :
  (Instr.entryStore T (.map (some mb)) (.int .i64 j) v).run Tryz.prog w=.ok () (put kv w mb (upd k v l)):=by
 have hf:(ent kv 0 l).toArray.findIdx? (fun e=>(e.born:Int)==(j:Int))=some j:=by
  have hlt:=(List.getElem?_eq_some_iff.1 hj).1;rw[List.findIdx?_toArray];refine List.findIdx?_eq_some_iff_getElem.2 ⟨by rw[ent_len];exact hlt,?_,fun i hi=>?_⟩
  ·have:(ent kv 0 l)[j]?=_:=ent_get kv l 0 j
   rw[List.getElem?_eq_getElem (by rw[ent_len];exact hlt),hj] at this;simp only[Option.map_some,Option.some.injEq] at this;rw[this];simp
  ·have:(ent kv 0 l)[i]?=_:=ent_get kv l 0 i
   rw[List.getElem?_eq_getElem (by rw[ent_len];omega),List.getElem?_eq_getElem (by omega)] at this;simp only[Option.map_some,Option.some.injEq] at this;rw[this];simp;omega
 have hm:(ent kv 0 l).modify j (fun e=>{ key:=e.key,val:=v,born:=e.born })=ent kv 0 (upd k v l):=by
  rw[upd_old v hn hj,ent_set];apply List.ext_getElem?;intro i;rw[List.getElem?_modify,List.getElem?_modify,ent_get]
  by_cases e:j=i
  ·subst e;rw[hj];rfl
  ·simp[e]
 have hlen:(upd k v l).length=l.length:=by rw[upd_old v hn hj];simp
 have hf2:List.findIdx? (fun e=>(e.born:Int)==(j:Int)) (ent kv 0 l)=some j:=by rw[<- hf,List.findIdx?_toArray]
 have hi:(asInt (.int .i64 j)).run Tryz.prog w=.ok (j:Int) w:=by simp[asInt,asIntOf]
 simp[Instr.entryStore,MapKept.run_getObj_map ha,hi,hf2,MapKept.run_setObj_map _ ha,Result.andThen];simp[put,hm,hlen]
end
theorem Ok.ens{l:List (κ × Value)}{k:κ}(h:Ok good l)(hk:good k)(z:Value):Ok good (ens k z l):=by
 unfold Mg.ens
 split
 ·exact h
 ·rename_i hs
  exact h.push hk (by simpa using hs) z
theorem upd_ens(k:κ)(v z:Value)(l:List (κ × Value)):upd k v (ens k z l)=upd k v l:=by
 unfold ens
 split
 ·rfl
 ·rename_i h
  have h':look k l=none:=by simpa using h
  rw[upd_new v h']
  have:∀ l:List (κ × Value),look k l=none->upd k v (l++[(k,z)])=l++[(k,v)]:=by
   intro l
   induction l with
   | nil=>intro _;simp[upd]
   | cons p l ih=>
    intro hl;rw[look] at hl
    by_cases e:k=p.1
    ·rw[if_pos e] at hl;cases hl
    ·rw[if_neg e] at hl
     rw[List.cons_append,upd,if_neg e,ih hl];rfl
  exact this l h'
theorem look_ens(k:κ)(z:Value)(l:List (κ × Value)):look k (ens k z l)=some ((look k l).getD z):=by
 unfold ens;cases h:look k l with
 | some u=>simp[h]
 | none=>
  simp only[Option.isSome_none,Bool.false_eq_true,if_false,Option.getD_none];have:=look_upd k k z l
  rw[upd_new z h,if_pos rfl] at this;exact this
end
end
section
theorem laid_ok:laidOutB Tryz.prog=true:=by kernel_rfl
theorem size_pos:∃ N,Tryz.prog.types.size=N+1:=⟨Tryz.prog.types.size-1,by
 have h:decide (0<Tryz.prog.types.size)=true:=by kernel_rfl
 have:=of_decide_eq_true h
 omega⟩
theorem cells_int:Tryz.prog.cellsOf 3=1:=by kernel_rfl
theorem cells_str:Tryz.prog.cellsOf 9=1:=by kernel_rfl
def tokV(c:St.Cl):Value:=.agg #[.int .i64 c.1,.string ⟨c.2.toArray⟩,.int .i64 0]
def tokGood(c:St.Cl):Prop:=0<=c.1/\c.1<=100/\c.2.length<=1000000000000
theorem tok_law:WideMaps.KeyLaw Tryz.prog 104:=deep_law_laid laid_ok (m:=2) (by omega) (of_decide_eq_true (by kernel_rfl)) (by kernel_rfl) (by rw[Tryz.underlying104])
theorem tok_type:Tryz.prog.keyType 104=true:=by kernel_rfl
theorem tok_cells:Tryz.prog.cellsOf 104=3:=by kernel_rfl
theorem tok_rd(c:St.Cl)(h:tokGood c):∃ x,keyOf Tryz.prog 104 (tokV c)=some x:=by
 obtain⟨N,hN⟩:=size_pos;obtain⟨h1,h2,h3⟩:=h;have hw:(Lit.int .i64 c.1).wf=true:=by simp[Lit.wf,IntKind.min,IntKind.max,IntKind.bits,IntKind.signed];omega
 have hz:(Lit.int .i64 0).wf=true:=by rfl
 have hs:(⟨c.2.toArray⟩:ByteArray).size<=maxLen:=by
  have:(⟨c.2.toArray⟩:ByteArray).size=c.2.length:=by show c.2.toArray.size=_;simp
  rw[this];unfold maxLen;omega
 have hf:(tokV c).formed Tryz.prog 104=true:=by
  unfold tokV Value.formed;rw[Tryz.underlying104];simp[tok_cells]
 unfold keyOf;simp only[Tryz.underlying104,tok_type,hf,Bool.and_self,if_true,hN];simp[tokV,Value.cells,Program.keyLits,Tryz.underlying104,tok_cells,cells_int,cells_str,Tryz.underlying3,Tryz.underlying9,hw,hz,hs]
theorem tok_inj(a b:St.Cl)(h:tokV a=tokV b):a=b:=by
 obtain⟨k,t⟩:=a;obtain⟨k',t'⟩:=b;simp[tokV] at h;simp[h]
theorem tok_KV:KV 104 tokV tokGood:=⟨Maps.Keyed.of_law tok_law,tok_rd,tok_inj⟩
def prV(c:St.Wd × St.Wd):Value:=.agg #[.string ⟨c.1.toArray⟩,.string ⟨c.2.toArray⟩]
def prGood(c:St.Wd × St.Wd):Prop:=c.1.length<=1000000000000/\c.2.length<=1000000000000
theorem pr_inj(a b:St.Wd × St.Wd)(h:prV a=prV b):a=b:=by
 obtain⟨k,t⟩:=a;obtain⟨k',t'⟩:=b;simp[prV] at h;simp[h]
theorem spr_law:WideMaps.KeyLaw Tryz.prog 285:=deep_law_laid laid_ok (m:=2) (by omega) (of_decide_eq_true (by kernel_rfl)) (by kernel_rfl) (by rw[Tryz.underlying285])
theorem spr_type:Tryz.prog.keyType 285=true:=by kernel_rfl
theorem spr_cells:Tryz.prog.cellsOf 285=2:=by kernel_rfl
theorem spr_rd(c:St.Wd × St.Wd)(h:prGood c):∃ x,keyOf Tryz.prog 285 (prV c)=some x:=by
 obtain⟨N,hN⟩:=size_pos;obtain⟨h1,h2⟩:=h
 have hs:∀ l:List UInt8,l.length<=1000000000000->(⟨l.toArray⟩:ByteArray).size<=maxLen:=fun l hl=>by
  have:(⟨l.toArray⟩:ByteArray).size=l.length:=by show l.toArray.size=_;simp
  rw[this];unfold maxLen;omega
 have hs1:=hs c.1 h1;have hs2:=hs c.2 h2
 have hf:(prV c).formed Tryz.prog 285=true:=by
  unfold prV Value.formed;rw[Tryz.underlying285];simp[spr_cells]
 unfold keyOf;simp only[Tryz.underlying285,spr_type,hf,Bool.and_self,if_true,hN];simp[prV,Value.cells,Program.keyLits,Tryz.underlying285,spr_cells,cells_str,Tryz.underlying9,hs1,hs2]
theorem spr_KV:KV 285 prV prGood:=⟨Maps.Keyed.of_law spr_law,spr_rd,pr_inj⟩
theorem xpr_law:WideMaps.KeyLaw Tryz.prog 171:=deep_law_laid laid_ok (m:=2) (by omega) (of_decide_eq_true (by kernel_rfl)) (by kernel_rfl) (by rw[Tryz.underlying171])
theorem xpr_type:Tryz.prog.keyType 171=true:=by kernel_rfl
theorem xpr_cells:Tryz.prog.cellsOf 171=2:=by kernel_rfl
theorem xpr_rd(c:St.Wd × St.Wd)(h:prGood c):∃ x,keyOf Tryz.prog 171 (prV c)=some x:=by
 obtain⟨N,hN⟩:=size_pos;obtain⟨h1,h2⟩:=h
 have hs:∀ l:List UInt8,l.length<=1000000000000->(⟨l.toArray⟩:ByteArray).size<=maxLen:=fun l hl=>by
  have:(⟨l.toArray⟩:ByteArray).size=l.length:=by show l.toArray.size=_;simp
  rw[this];unfold maxLen;omega
 have hs1:=hs c.1 h1;have hs2:=hs c.2 h2
 have hf:(prV c).formed Tryz.prog 171=true:=by
  unfold prV Value.formed;rw[Tryz.underlying171];simp[xpr_cells]
 unfold keyOf;simp only[Tryz.underlying171,xpr_type,hf,Bool.and_self,if_true,hN];simp[prV,Value.cells,Program.keyLits,Tryz.underlying171,xpr_cells,cells_str,Tryz.underlying9,hs1,hs2]
theorem xpr_KV:KV 171 prV prGood:=⟨Maps.Keyed.of_law xpr_law,xpr_rd,pr_inj⟩
def numV(c:Nat):Value:=.int .i64 (c:Int)
def numGood(c:Nat):Prop:=c<=1000000000
theorem num_KV:KV 3 numV numGood:=⟨Maps.int_keyed Tryz.underlying3,fun k h=>by
 unfold numGood at h;have hw:(Lit.int .i64 (k:Int)).wf=true:=by simp[Lit.wf,IntKind.min,IntKind.max,IntKind.bits,IntKind.signed];omega
 exact⟨_,Maps.keyOf_int_mk Tryz.underlying3 hw⟩,fun a b h=>by simp[numV] at h;omega⟩
end
end Go.Proofs.YtcfhfdphoidaeaaGreatDoor.Mg
set_option linter.all false
namespace Go.Proofs.YtcfhfdphoidaeaaGreatDoor.Mg
open Go.RowKit
section
variable {κ:Type} [DecidableEq κ]
def cl(K:List κ)(f:κ->Int):List (κ × Value):=K.map fun c=>(c,.int .i64 (f c))
theorem put_und{w W:World}{mb:Nat}(l:List (κ × Value)){kv:κ->Value}(h:Und w W)(hb:w.heap.size<=mb):Und w (put kv W mb l):=by
 have b:=h.below;exact Und.mk ⟨b.os,b.tape,b.output,by rw[put_size];exact b.size,fun k hk=>(put_ne W l (by omega)).trans (b.block k hk)⟩
theorem Rng.left{kv:κ->Value}{w:World}{r mb:Nat}{l rest:List (κ × Value)}(h:Rng kv w r mb l rest):w.rangeLeft mb r=rest.length:=by
 obtain⟨h1,seen,c0,h2,_,rfl⟩:=h
 have hlen:∀ (l:List (κ × Value)) (n:Nat),((ent kv n l).filter fun e=>!seen.contains e.born).length=(lft seen n l).length:=by
  intro l
  induction l with
  | nil=>intro n;rfl
  | cons p l ih=>
   intro n;rw[ent,lft,List.filter_cons];cases seen.contains n
   ·simp only[Bool.not_false,if_true,Bool.false_eq_true,if_false,List.length_cons,ih]
   ·simp only[Bool.not_true,Bool.false_eq_true,if_false,if_true,ih]
 unfold World.rangeLeft;rw[show w.heap[mb]?=_ from h1,h2];simp only[];unfold leftOf;rw[<- hlen l 0,<- Array.length_toList,Array.toList_filter]
theorem cl_keys(K:List κ)(f:κ->Int):(cl K f).map (·.1)=K:=by simp[cl,Function.comp_def]
theorem cl_look(K:List κ)(f:κ->Int)(c:κ):look c (cl K f)=if c ∈ K then some (.int .i64 (f c)) else none:=by
 induction K with
 | nil=>rfl
 | cons x K ih=>
  show look c ((x,Value.int .i64 (f x)) :: cl K f)=_
  rw[look]
  by_cases h:c=x
  ·subst h;simp
  ·rw[if_neg h,ih];simp[h]
def addK(K:List κ)(c:κ):List κ:=if c ∈ K then K else K++[c]
theorem cl_upd(f:κ->Int)(c:κ)(n:Int){f':κ->Int}(h:f' c=n)(ho:∀ x,x ≠ c->f' x=f x):∀ K:List κ,K.Nodup->upd c (.int .i64 n) (cl K f)=cl (addK K c) f'
 | [],_=>by simp[cl,upd,addK,h]
 | x :: K,hn=>by
  obtain⟨h1,h2⟩:=List.nodup_cons.1 hn
  show upd c _ ((x,Value.int .i64 (f x)) :: cl K f)=_
  rw[upd]
  by_cases e:c=x
  ·subst e
   rw[if_pos rfl];unfold addK;rw[if_pos (List.mem_cons_self ..)]
   show _=(c,Value.int .i64 (f' c)) :: cl K f'
   rw[h];congr 1;unfold cl;exact List.map_congr_left fun y hy=>by rw[ho y (by rintro rfl;exact h1 hy)]
  ·rw[if_neg e,cl_upd f c n h ho K h2]
   unfold addK
   by_cases hm:c ∈ K
   ·rw[if_pos hm,if_pos (List.mem_cons_of_mem _ hm)]
    show _=(x,Value.int .i64 (f' x)) :: cl K f'
    rw[ho x (Ne.symm e)]
   ·rw[if_neg hm,if_neg (by simp only[List.mem_cons,not_or];exact⟨e,hm⟩)]
    show _=(x,Value.int .i64 (f' x)) :: cl (K++[c]) f'
    rw[ho x (Ne.symm e)]
theorem cl_ok{good:κ->Prop}{K:List κ}{f:κ->Int}(h:∀ c ∈ K,good c)(hn:K.Nodup):Ok good (cl K f):=
 ⟨fun p hp=>by obtain⟨c,hc,rfl⟩:=List.mem_map.1 hp;exact h c hc,by rw[cl_keys];exact hn⟩
theorem addK_once(l:List κ)(c:κ):addK (St.onceL l) c=St.onceL (l++[c]):=(St.once_snoc l c).symm
theorem addK_mem{K:List κ}{c x:κ}:x ∈ addK K c ↔ x ∈ K∨x=c:=by
 unfold addK
 split
 ·rename_i h
  exact⟨.inl,fun hx=>hx.elim id fun e=>e ▸ h⟩
 ·simp
variable {kv:κ->Value} {kt:TypeId} {good:κ->Prop}
theorem ent_inj(hinj:∀ a b,kv a=kv b->a=b):∀ (l l':List (κ × Value)) (n:Nat),ent kv n l=ent kv n l'->l=l'
 | [],[],_,_=>rfl
 | [],_ :: _,_,h=>by simp[ent] at h
 | _ :: _,[],_,h=>by simp[ent] at h
 | p :: l,q :: l',n,h=>by
  simp only[ent,List.cons.injEq,MapEntry.mk.injEq] at h;rw[ent_inj hinj l l' (n+1) h.2,Prod.ext (hinj _ _ h.1.1) h.1.2.1]
theorem At.one(hinj:∀ a b,kv a=kv b->a=b){w:World}{mb:Nat}{l l':List (κ × Value)}(h:At kv w mb l)(h':At kv w mb l'):l=l':=by
 unfold At at h h';rw[h] at h';simp only[Option.some.injEq,Obj.map.injEq,Array.mk.injEq] at h';exact ent_inj hinj _ _ 0 h'.1
def Cnt(kv:κ->Value)(base:World)(mb:Nat)(l1 l2:List (κ × Value))(e s:Nat)(L:Nat->Bool)(W:World):Prop:=
 if L s=true then ∃ W0,Und base W0/\W=put kv W0 mb l2 else if L e=true then ∃ W0,Und base W0/\W=put kv W0 mb l1 else Und base W
theorem Cnt.keep{base:World}{mb:Nat}{l1 l2:List (κ × Value)}{e s:Nat}{L:Nat->Bool}{W:World}(h:Cnt kv base mb l1 l2 e s L W){i:Nat}(h1:i ≠ e)(h2:i ≠ s):Cnt kv base mb l1 l2 e s (updB L i) W:=by
 unfold Cnt updB at *;rw[if_neg (Ne.symm h1),if_neg (Ne.symm h2)];exact h
theorem cell_put(W:World){mb b o:Nat}(l:List (κ × Value))(h:b ≠ mb):(put kv W mb l).cell? ⟨b,o,none⟩=W.cell? ⟨b,o,none⟩:=by
 unfold World.cell?;rw[put_ne W l h]
theorem Cnt.cell{base:World}{mb:Nat}{l1 l2:List (κ × Value)}{e s:Nat}{L:Nat->Bool}{W:World}(h:Cnt kv base mb l1 l2 e s L W){b o:Nat}(hb:b<base.heap.size)(hne:b ≠ mb):W.cell? ⟨b,o,none⟩=base.cell? ⟨b,o,none⟩:=by
 unfold Cnt at h
 split at h
 ·obtain⟨W0,hu,rfl⟩:=h
  rw[cell_put W0 l2 hne];exact hu.cell (p:=⟨b,o,none⟩) hb
 ·split at h
  ·obtain⟨W0,hu,rfl⟩:=h
   rw[cell_put W0 l1 hne];exact hu.cell (p:=⟨b,o,none⟩) hb
  ·exact h.cell (p:=⟨b,o,none⟩) hb
theorem Cnt.size{base:World}{mb:Nat}{l1 l2:List (κ × Value)}{e s:Nat}{L:Nat->Bool}{W:World}(h:Cnt kv base mb l1 l2 e s L W):base.heap.size<=W.heap.size:=by
 unfold Cnt at h
 split at h
 ·obtain⟨W0,hu,rfl⟩:=h
  rw[put_size];exact hu.size
 ·split at h
  ·obtain⟨W0,hu,rfl⟩:=h
   rw[put_size];exact hu.size
  ·exact h.size
def CntR(kv:κ->Value)(mb:Nat)(l1 l2:List (κ × Value))(a b:World):Prop:=(At kv a mb l1∨At kv a mb l2)->(At kv b mb l1∨At kv b mb l2)
theorem CntR.refl{mb:Nat}{l1 l2:List (κ × Value)}(a:World):CntR kv mb l1 l2 a a:=fun h=>h
theorem CntR.trans{mb:Nat}{l1 l2:List (κ × Value)}(a b c:World)(h:CntR kv mb l1 l2 a b)(k:CntR kv mb l1 l2 b c):CntR kv mb l1 l2 a c:=fun x=>k (h x)
section
variable {T:TypeId} (V:KV kt kv good) (hm:Tryz.prog.underlying T=some (.map kt 3))
include V hm
theorem Cnt.read{base:World}{mb:Nat}{K:List κ}{f:κ->Int}{k:κ}{n:Int}{l2:List (κ × Value)}{e s:Nat}{L:Nat->Bool}{W:World}(h:Cnt kv base mb (ens k (.int .i64 0) (cl K f)) l2 e s L W)(hs:L s=false)
  (ha:At kv base mb (cl K f)) (hK:∀ c ∈ K,good c) (hn:K.Nodup) (hk:good k) (h0:k ∉ K->f k=0) (hv:f k=n) :
  (Instr.lookup T (.map (some mb)) (kv k) false).run Tryz.prog W=.ok (.int .i64 n) W:=by
 have hok:=cl_ok (f:=f) hK hn;unfold Cnt at h;rw[hs] at h;simp only[Bool.false_eq_true,if_false] at h;have hz:∀ W,(zeroValue 3).run Tryz.prog W=.ok (.int .i64 0) W:=fun W=>by go_simp
 have hlk:=cl_look K f k
 split at h
 ·obtain⟨W0,hu,rfl⟩:=h
  have h1:=look_ens k (.int .i64 0) (cl K f);rw[hlk] at h1
  have h2:(if k ∈ K then some (Value.int .i64 (f k)) else none).getD (.int .i64 0)=.int .i64 n:=by
   split
   ·simp[hv]
   ·rename_i hm'
    rw[<- hv,h0 hm'];rfl
  rw[h2] at h1;exact run_get V hm false (put_at (ha.und hu) _) (hok.ens hk _) hk h1
 ·by_cases hkK:k ∈ K
  ·rw[if_pos hkK,hv] at hlk
   exact run_get V hm false (ha.und h) hok hk hlk
  ·rw[if_neg hkK] at hlk
   have:=run_getno V hm false (hz W) (ha.und h) hok hk hlk
   rw[this];simp[<- hv,h0 hkK]
theorem Cnt.opens{base:World}{mb:Nat}{K:List κ}{f:κ->Int}{k:κ}{l2:List (κ × Value)}{e s:Nat}{L:Nat->Bool}{W:World}(h:Cnt kv base mb (ens k (.int .i64 0) (cl K f)) l2 e s L W)(he:L e=false)(hs:L s=false)(hne:e ≠ s)
  (ha:At kv base mb (cl K f)) (hK:∀ c ∈ K,good c) (hn:K.Nodup) (hk:good k) :
  ∃ (j:Nat) (u x:Value),(ens k (.int .i64 0) (cl K f))[j]?=some (k,u)/\(Instr.mapEntry T (.map (some mb)) (kv k)).run Tryz.prog W=.ok (.tuple #[x,.int .i64 j]) (put kv W mb (ens k (.int .i64 0) (cl K f)))/\At kv (put kv W mb (ens k (.int .i64 0) (cl K f))) mb (ens k (.int .i64 0) (cl K f)) /\
   Cnt kv base mb (ens k (.int .i64 0) (cl K f)) l2 e s (updB L e) (put kv W mb (ens k (.int .i64 0) (cl K f))):=by
 unfold Cnt at h;rw[he,hs] at h;simp only[Bool.false_eq_true,if_false] at h;have hz:(zeroValue 3).run Tryz.prog W=.ok (.int .i64 0) W:=by go_simp
 obtain⟨j,⟨u,hj⟩,hrun⟩:=run_open V hm hz (ha.und h) (cl_ok (f:=f) hK hn) hk;refine⟨j,u,_,hj,hrun,put_at (ha.und h) _,?_⟩;unfold Cnt updB;rw[if_neg (Ne.symm hne),hs,if_pos rfl];simp only[Bool.false_eq_true,if_false,if_true];exact⟨W,h,rfl⟩
theorem Cnt.stores{base:World}{mb:Nat}{K:List κ}{f f':κ->Int}{k:κ}{n:Int}{e s:Nat}{L:Nat->Bool}{W:World}(h:Cnt kv base mb (ens k (.int .i64 0) (cl K f)) (cl (addK K k) f') e s L W)(hs:L s=false)
  (ha:At kv base mb (cl K f)) (hK:∀ c ∈ K,good c) (hn:K.Nodup) (hk:good k) (hf:f' k=n) (hne:n ≠ f k) (ho:∀ x,x ≠ k->f' x=f x) {j:Nat} {u:Value} (hj:(ens k (.int .i64 0) (cl K f))[j]?=some (k,u))
  (hat:At kv W mb (ens k (.int .i64 0) (cl K f))∨At kv W mb (cl (addK K k) f')) :
  ∃ W',(Instr.entryStore T (.map (some mb)) (.int .i64 j) (.int .i64 n)).run Tryz.prog W=.ok () W'/\Cnt kv base mb (ens k (.int .i64 0) (cl K f)) (cl (addK K k) f') e s (updB L s) W'/\At kv W' mb (cl (addK K k) f'):=by
 have hok:=(cl_ok (f:=f) hK hn).ens hk (.int .i64 0);unfold Cnt at h;rw[hs] at h;simp only[Bool.false_eq_true,if_false] at h
 have hone:At kv W mb (ens k (.int .i64 0) (cl K f)):=by
  split at h
  ·obtain⟨W0,hu,rfl⟩:=h
   exact put_at (ha.und hu) _
  ·rcases hat with h1|h1
   ·exact h1
   ·exfalso
    have e2:=At.one V.inj (ha.und h) h1;have h3:=cl_look K f k;rw[e2,cl_look,if_pos (addK_mem.2 (.inr rfl)),hf] at h3
    split at h3
    ·simp at h3;exact hne h3
    ·cases h3
 have hput:∃ W0,Und base W0/\put kv W mb (cl (addK K k) f')=put kv W0 mb (cl (addK K k) f'):=by
  split at h
  ·obtain⟨W0,hu,rfl⟩:=h
   exact⟨W0,hu,put_put _ _ _ _⟩
  ·exact⟨W,h,rfl⟩
 have hrun:=run_store (T:=T) V hm (.int .i64 n) hone hok.2 hj;rw[upd_ens,cl_upd f k n hf ho K hn] at hrun;refine⟨_,hrun,?_,put_at hone _⟩;unfold Cnt updB;rw[if_pos rfl];simp only[if_true];exact hput
end
end
end Go.Proofs.YtcfhfdphoidaeaaGreatDoor.Mg
