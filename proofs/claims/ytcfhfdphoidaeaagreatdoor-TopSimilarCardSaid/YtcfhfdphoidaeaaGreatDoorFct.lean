/- A rule for a region that draws its order: each operation is run once, in any world in. -/
import Derived.Test.YtcfhfdphoidaeaaGreatDoorGA
import Derived.RegionTactic
set_option linter.unusedVariables false
set_option linter.unusedSimpArgs false
namespace Go.Proofs.YtcfhfdphoidaeaaGreatDoor
open Go.RowKit
section
def putAll(a:Act):List Oper->(Nat->Value)->Nat->Act
 | [],_,_=>a
 | o :: os,ρ,k=>putAll (a.put o.dst (ρ k)) os ρ (k+1)
def upd(ρ:Nat->Value)(i:Nat)(v:Value):Nat->Value:=fun k=>if k=i then v else ρ k
def dstOf(l:List Oper):List Tmp:=l.filterMap (·.dst)
theorem put_put(a:Act)(d:Option Tmp)(v u:Value):(a.put d v).put d u=a.put d u:=by
 cases d with
 | none=>rfl
 | some d=>simp[Act.put,Array.setIfInBounds_setIfInBounds]
theorem putAll_upd_below(l:List Oper):∀ (a:Act) (ρ:Nat->Value) (k i:Nat) (v:Value),i<k->putAll a l (upd ρ i v) k=putAll a l ρ k:=by
 induction l with
 | nil=>intros;rfl
 | cons o l ih=>
  intro a ρ k i v h;unfold putAll;rw[ih _ _ _ _ _ (by omega),show upd ρ i v k=ρ k by unfold upd;rw[if_neg (by omega)]]
theorem putAll_put(l:List Oper):∀ (a:Act) (ρ:Nat->Value) (k:Nat) (d:Option Tmp) (v:Value),(∀ t,d=some t->t ∉ dstOf l)->(putAll a l ρ k).put d v=putAll (a.put d v) l ρ k:=by
 induction l with
 | nil=>intros;rfl
 | cons o l ih=>
  intro a ρ k d v h;unfold putAll;rw[ih _ _ _ _ _ (fun t e hm=>h t e (by unfold dstOf at hm ⊢;rw[List.filterMap_cons];split <;> simp_all))];rw[Act.put_comm a (ρ k) v (fun t ht hd=>h t hd (by unfold dstOf;rw[List.filterMap_cons,ht];simp))]
theorem putAll_upd(l:List Oper):∀ (a:Act) (ρ:Nat->Value) (k i:Nat) (o:Oper) (v:Value),(dstOf l).Nodup->l[i]?=some o->putAll a l (upd ρ (k+i) v) k=(putAll a l ρ k).put o.dst v:=by
 induction l with
 | nil=>intro a ρ k i o v _ h;simp at h
 | cons o l ih=>
  intro a ρ k i o' v hd h
  match i,h with
  | 0,h=>
   simp at h;subst h;unfold putAll;rw[putAll_upd_below _ _ _ _ _ _ (by omega),show upd ρ (k+0) v k=v by unfold upd;rw[if_pos (by omega)]];rw[putAll_put _ _ _ _ _ _ (fun t ht hm=>by unfold dstOf at hd;rw[List.filterMap_cons,ht] at hd;exact(List.nodup_cons.1 hd).1 hm),put_put]
  | i+1,h=>
   simp at h;unfold putAll;rw[show upd ρ (k+(i+1)) v k=ρ k by unfold upd;rw[if_neg (by omega)],show k+(i+1)=(k+1)+i by omega];refine ih _ _ _ _ _ _ ?_ h;unfold dstOf at hd ⊢;rw[List.filterMap_cons] at hd
   split at hd
   ·exact hd
   ·exact(List.nodup_cons.1 hd).2
theorem putAll_same(l:List Oper):∀ (a:Act) (k:Nat) (ρ:Nat->Value),(∀ i o t,l[i]?=some o->o.dst=some t->ρ (k+i)=a.tmps.getD t undef)->(dstOf l).Nodup->putAll a l ρ k=a:=by
 induction l with
 | nil=>intros;rfl
 | cons o l ih=>
  intro a k ρ h hd;unfold putAll
  have h0:a.put o.dst (ρ k)=a:=by
   cases ho:o.dst with
   | none=>rfl
   | some t=>
    have:=h 0 o t rfl ho
    simp only[Nat.add_zero] at this;unfold Act.put;simp only[];rw[this]
    have:a.tmps.setIfInBounds t (a.tmps.getD t undef)=a.tmps:=by
     apply Array.ext_getElem?;intro j;rw[Array.getElem?_setIfInBounds]
     split
     ·rename_i e;subst e
      split
      ·rename_i hlt;simp[hlt]
      ·rename_i hlt;simp;omega
     ·rfl
    rw[this]
  rw[h0];refine ih a (k+1) ρ (fun i o' t hi ht=>?_) ?_
  ·have:=h (i+1) o' t (by simpa using hi) ht
   rw[show k+1+i=k+(i+1) by omega];exact this
  ·unfold dstOf at hd ⊢
   rw[List.filterMap_cons] at hd
   split at hd
   ·exact hd
   ·exact(List.nodup_cons.1 hd).2
abbrev Fact:=Value->World->Prop
def noFact:Fact:=fun _ _=>True
def waits(o:Oper):List Nat:=(o.after.toList.filter (Region.binds .any ·)).map (·.on)
def AllF(Fs:List Fact)(ρ:Nat->Value)(W:World):List Nat->Prop
 | []=>True
 | j :: js=>(Fs.getD j noFact) (ρ j) W/\AllF Fs ρ W js
theorem allF_of{Fs:List Fact}{ρ:Nat->Value}{W:World}:∀ {l:List Nat},(∀ j ∈ l,(Fs.getD j noFact) (ρ j) W)->AllF Fs ρ W l
 | [],_=>trivial
 | j :: l,h=>⟨h j (by simp),allF_of fun k hk=>h k (by simp[hk])⟩
theorem allF_get{Fs:List Fact}{ρ:Nat->Value}{W:World}:∀ {l:List Nat},AllF Fs ρ W l->∀ {j:Nat},j ∈ l->(Fs.getD j noFact) (ρ j) W
 | [],_,_,hj=>by cases hj
 | k :: l,h,j,hj=>by
  rcases List.mem_cons.1 hj with e|e
  ·subst e;exact h.1
  ·exact allF_get h.2 e
def Down(l:List Oper)(L:Nat->Bool):Prop:=∀ (p:Nat) (o:Oper) (q:Nat),l[p]?=some o->q ∈ waits o->L p=true->L q=true
def updB(L:Nat->Bool)(i:Nat):Nat->Bool:=fun k=>if k=i then true else L k
def Orig(a:Act)(l:List Oper)(L:Nat->Bool)(ρ:Nat->Value):Prop:=∀ (i:Nat) (o:Oper) (t:Tmp),l[i]?=some o->o.dst=some t->L i=false->ρ i=a.tmps.getD t undef
theorem Down.not{l:List Oper}{L:Nat->Bool}(h:Down l L){p q:Nat}{o:Oper}(ho:l[p]?=some o)(hq:q ∈ waits o)(hL:L q=false):L p=false:=by
 cases hp:L p with
 | false=>rfl
 | true=>rw[h p o q ho hq hp] at hL;cases hL
def ObF(a:Act)(P:Program)(Q:Exit->Act->World->Prop)(R:World->World->Prop)(I:(Nat->Bool)->World->Prop)(w:World)(l:List Oper)(Fs:List Fact)(fr:(Nat->Value)->Act)(o:Oper)(F:Fact)(i:Nat):Prop:=
 ∀ (ρ:Nat->Value) (L:Nat->Bool) (W:World),R w W->I L W->L i=false->Down l L->Orig a l L ρ->AllF Fs ρ W (waits o)->∀ K:Act->World->Prop,(∀ v W',R W W'->I (updB L i) W'->(∀ W'',R W' W''->F v W'')->K ((fr ρ).put o.dst v) W') ->
  if Region.wanted o (yielded l.toArray (fr ρ).tmps)=true then Oper.wp P o (fr ρ) W K Q else K ((fr ρ).put o.dst undef) W
def ObsF(a:Act)(P:Program)(Q:Exit->Act->World->Prop)(R:World->World->Prop)(I:(Nat->Bool)->World->Prop)(w:World)(l:List Oper)(Fs:List Fact)(fr:(Nat->Value)->Act):List Oper->List Fact->Nat->Prop
 | o :: os,F :: gs,k=>ObF a P Q R I w l Fs fr o F k/\ObsF a P Q R I w l Fs fr os gs (k+1)
 | _,_,_=>True
theorem ObsF.cons{P:Program}{Q:Exit->Act->World->Prop}{R:World->World->Prop}{I:(Nat->Bool)->World->Prop}{w:World}{l:List Oper}{Fs:List Fact}{fr:(Nat->Value)->Act}{o:Oper}{os:List Oper}{F:Fact}{gs:List Fact}{k:Nat}{a:Act}(h1:ObF a P Q R I w l Fs fr o F k)(h2:ObsF a P Q R I w l Fs fr os gs (k+1)):ObsF a P Q R I w l Fs fr (o :: os) (F :: gs) k:=⟨h1,h2⟩
theorem ObsF.nil{P:Program}{Q:Exit->Act->World->Prop}{R:World->World->Prop}{I:(Nat->Bool)->World->Prop}{w:World}{l:List Oper}{Fs:List Fact}{fr:(Nat->Value)->Act}{k:Nat}{a:Act}:ObsF a P Q R I w l Fs fr [] [] k:=trivial
theorem obsF_at{a:Act}{P:Program}{Q:Exit->Act->World->Prop}{R:World->World->Prop}{I:(Nat->Bool)->World->Prop}{w:World}{l:List Oper}{Fs:List Fact}{fr:(Nat->Value)->Act}:∀ {os:List Oper} {gs:List Fact} {k:Nat},ObsF a P Q R I w l Fs fr os gs k->∀ (i:Nat) (o:Oper) (F:Fact),os[i]?=some o->gs[i]?=some F->ObF a P Q R I w l Fs fr o F (k+i)
 | [],_,_,_,i,o,F,h,_=>by simp at h
 | o :: os,[],_,_,i,o',F,_,h=>by simp at h
 | o :: os,F :: gs,k,h,0,o',F',h1,h2=>by simp at h1 h2;subst h1 h2;exact h.1
 | o :: os,F :: gs,k,h,i+1,o',F',h1,h2=>by
  have:=obsF_at h.2 i o' F' (by simpa using h1) (by simpa using h2)
  rw[show k+1+i=k+(i+1) by omega] at this;exact this
def topoB(l:List Oper):Bool:=(List.range l.length).all fun i=>match l[i]? with
 | some o=>(waits o).all fun j=>decide (j<i)
 | none=>true
theorem topo_at{l:List Oper}(h:topoB l=true){i:Nat}{o:Oper}(ho:l[i]?=some o){j:Nat}(hj:j ∈ waits o):j<i:=by
 have hlt:=(List.getElem?_eq_some_iff.1 ho).1;unfold topoB at h;rw[List.all_eq_true] at h;have:=h i (by simpa using hlt)
 rw[ho] at this;simpa using List.all_eq_true.1 this j hj
theorem all_listed{l:List Oper}(h:topoB l=true){listed:Array Bool}(hr:Region.ready .any l.toArray listed=[])(hs:listed.size=l.length):∀ n i,i<n->i<l.length->listed.getD i false=true:=by
 intro n
 induction n with
 | zero=>intro i hi;omega
 | succ n ih=>
  intro i hi hil
  by_cases hin:i<n
  ·exact ih i hin hil
  have hie:i=n:=by omega
  subst hie;cases hli:listed.getD i true with
  | true=>simpa [show i<listed.size by omega] using hli
  | false=>
   exfalso
   have:i ∈ Region.ready .any l.toArray listed:=by
    rw[mem_ready];refine⟨hli,l[i],by simp[hil],fun e he hb=>?_⟩
    have hj:e.on ∈ waits l[i]:=by
     unfold waits;exact List.mem_map.2 ⟨e,List.mem_filter.2 ⟨by simpa using he,hb⟩,rfl⟩
    have hlt:=topo_at h (i:=i) (by simp[hil]) hj;exact ih e.on hlt (by omega)
   rw[hr] at this;cases this
theorem count_set{l:List Bool}:∀ {i:Nat},l[i]?=some false->(l.set i true).count true=l.count true+1:=by
 induction l with
 | nil=>intro i h;simp at h
 | cons b l ih=>
  intro i h
  match i,h with
  | 0,h=>simp at h;subst h;simp
  | i+1,h=>
   simp only[zsB,List.count_cons];rw[ih (by simpa using h)];omega
theorem count_all{l:List Bool}(h:l.count true=l.length):∀ i,i<l.length->l[i]?=some true:=by
 intro i hi;have:=List.count_eq_length.1 h l[i] (List.getElem_mem hi)
 simp[hi,<- this]
theorem wpAny_facts{P:Program}{Q:Exit->Act->World->Prop}{R:World->World->Prop}{I:(Nat->Bool)->World->Prop}(hrr:∀ a,R a a)(hrt:∀ a b c,R a b->R b c->R a c){w:World}{a:Act}{l:List Oper}{Fs:List Fact}(hlen:Fs.length=l.length)(hnd:(dstOf l).Nodup)(htp:topoB l=true)
  {fr:(Nat->Value)->Act} (hfr:∀ ρ,putAll a l ρ 0=fr ρ) (hob:ObsF a P Q R I w l Fs fr l Fs 0)
  (hend:∀ ρ L W,R w W->I L W->(∀ i,i<l.length->L i=true)->(∀ i,i<l.length->(Fs.getD i noFact) (ρ i) W)->Q .normal (fr ρ) W) :
  ∀ (fuel:Nat) (listed:Array Bool) (ρ:Nat->Value) (L:Nat->Bool) (W:World),listed.size=l.length->(∀ i,listed.getD i false=L i)->Down l L->Orig a l L ρ->R w W->I L W->(∀ i,listed.getD i false=true->∀ W',R W W'->(Fs.getD i noFact) (ρ i) W') ->
   fuel+listed.toList.count true=l.length->wpAny P .any l.toArray Q fuel listed (putAll a l ρ 0) W:=by
 have done:∀ (listed:Array Bool) (ρ:Nat->Value) (L:Nat->Bool) (W:World),listed.size=l.length->(∀ i,listed.getD i false=L i)->R w W->I L W->(∀ i,listed.getD i false=true->∀ W',R W W'->(Fs.getD i noFact) (ρ i) W')->Region.ready .any l.toArray listed=[]->Q .normal (putAll a l ρ 0) W:=by
  intro listed ρ L W hs hL hW hI hF hr;rw[hfr];exact hend ρ L W hW hI (fun i hi=>by rw[<- hL];exact all_listed htp hr hs (i+1) i (by omega) hi) (fun i hi=>hF i (all_listed htp hr hs (i+1) i (by omega) hi) W (hrr W))
 intro fuel
 induction fuel with
 | zero=>
  intro listed ρ L W hs hL hD hO hW hI hF hc
  have hr:Region.ready .any l.toArray listed=[]:=by
   cases hrd:Region.ready .any l.toArray listed with
   | nil=>rfl
   | cons j js=>
    have hj:j ∈ Region.ready .any l.toArray listed:=by rw[hrd];simp
    obtain⟨h0,o,ho,_⟩:=mem_ready.1 hj
    have hjl:j<l.length:=by
     have:=(Array.getElem?_eq_some_iff.1 ho).1
     simpa using this
    have:=count_all (l:=listed.toList) (by simp only[Array.length_toList];omega) j (by simp;omega)
    have:listed.getD j true=true:=by simp[show j<listed.size by omega] at this ⊢;exact this
    rw[h0] at this;cases this
  exact⟨hr,done listed ρ L W hs hL hW hI hF hr⟩
 | succ fuel ih=>
  intro listed ρ L W hs hL hD hO hW hI hF hc;refine⟨fun hr=>done listed ρ L W hs hL hW hI hF hr,fun i hi=>?_⟩;obtain⟨h0,o,ho,hall⟩:=mem_ready.1 hi;have hol:l[i]?=some o:=by simpa using ho
  have hil:i<l.length:=(List.getElem?_eq_some_iff.1 hol).1;have hFi:Fs[i]?=some (Fs[i]'(by omega)):=by simp[show i<Fs.length by omega]
  have hob1:=obsF_at hob i o _ hol hFi;rw[Nat.zero_add] at hob1
  have hLi:L i=false:=by
   rw[<- hL];have hlt:i<listed.size:=by omega
   simp[hlt] at h0 ⊢;exact h0
  refine wpOp_step ho fun K hK=>?_
  rw[hfr];refine hob1 ρ L W hW hI hLi hD hO (allF_of fun j hj=>?_) K (fun v W' hW' hI' hF'=>?_)
  ·unfold waits at hj
   obtain⟨e,he,rfl⟩:=List.mem_map.1 hj;obtain⟨he1,he2⟩:=List.mem_filter.1 he;exact hF e.on (hall e (by simpa using he1) he2) W (hrr W)
  ·refine hK _ _ ?_
   have hu:=putAll_upd l a ρ 0 i o v hnd hol;rw[Nat.zero_add,hfr ρ] at hu;rw[<- hu];refine ih _ _ (updB L i) _ (by simpa using hs) (fun j=>?_) ?_ ?_ (hrt _ _ _ hW hW') hI' (fun j hj W'' hW''=>?_) ?_
   ·unfold updB
    by_cases hji:j=i
    ·subst hji;simp[show j<listed.size by omega]
    ·rw[if_neg hji,getD_set_ne false (Ne.symm hji)];exact hL j
   ·intro p o' q hp hq hLp
    unfold updB at hLp ⊢
    split
    ·rfl
    ·by_cases hpi:p=i
     ·subst hpi
      rw[hol] at hp;simp at hp;subst hp;unfold waits at hq;obtain⟨e,he,rfl⟩:=List.mem_map.1 hq;obtain⟨he1,he2⟩:=List.mem_filter.1 he;rw[<- hL];exact hall e (by simpa using he1) he2
     ·rw[if_neg hpi] at hLp
      exact hD p o' q hp hq hLp
   ·intro j o' t' ho' ht' hLj
    unfold updB at hLj
    by_cases hji:j=i
    ·rw[if_pos hji] at hLj;cases hLj
    ·rw[if_neg hji] at hLj
     rw[show upd ρ i v j=ρ j by unfold upd;rw[if_neg hji]];exact hO j o' t' ho' ht' hLj
   ·by_cases hji:j=i
    ·subst hji
     rw[show upd ρ j v j=v by unfold upd;rw[if_pos rfl],List.getD_eq_getElem?_getD,hFi];exact hF' W'' hW''
    ·rw[show upd ρ i v j=ρ j by unfold upd;rw[if_neg hji]]
     refine hF j ?_ W'' (hrt _ _ _ hW' hW'');rw[getD_set_ne false (Ne.symm hji)] at hj;exact hj
   ·have:listed.toList[i]?=some false:=by
     have hlt:i<listed.size:=by omega
     simp[hlt] at h0 ⊢;exact h0
    rw[Array.toList_setIfInBounds,count_set this];omega
def FactsAt(ρ:Nat->Value)(W:World):List Fact->Nat->Prop
 | [],_=>True
 | F :: Fs,k=>F (ρ k) W/\FactsAt ρ W Fs (k+1)
theorem factsAt_of{ρ:Nat->Value}{W:World}:∀ {Fs:List Fact} {k:Nat},(∀ i,i<Fs.length->(Fs.getD i noFact) (ρ (k+i)) W)->FactsAt ρ W Fs k
 | [],_,_=>trivial
 | F :: Fs,k,h=>⟨h 0 (by simp),factsAt_of fun i hi=>by
   have:=h (i+1) (by simp;omega)
   rw[show k+(i+1)=k+1+i by omega] at this
   exact this⟩
theorem wp_region_facts{P:Program}{Q:Exit->Act->World->Prop}{id:Nat}{a:Act}{w:World}{l:List Oper}(R:World->World->Prop)(I:(Nat->Bool)->World->Prop)(Fs:List Fact)(hrr:∀ a,R a a)(hrt:∀ a b c,R a b->R b c->R a c)
  (hm:P.follows .mixedOrders=true) (hlen:Fs.length=l.length) (hnd:decide (dstOf l).Nodup=true) (htp:topoB l=true)
  (fr:(Nat->Value)->Act) (hfr:∀ ρ,putAll a l ρ 0=fr ρ) (hI:I (fun _=>false) w.drew) (hob:ObsF a P Q R I w.drew l Fs fr l Fs 0)
  (hend:∀ ρ L W,R w.drew W->I L W->(∀ i,i<l.length->L i=true)->FactsAt ρ W Fs 0->Q .normal (fr ρ) W):(Code.region id l.toArray true).wp P Q a w:=by
 refine wp_region_any hm ?_;have hnd':(dstOf l).Nodup:=by simpa using hnd
 obtain⟨ρ,hρ,hO⟩:∃ ρ:Nat->Value,putAll a l ρ 0=a/\Orig a l (fun _=>false) ρ:=by
  refine⟨fun i=>match l[i]? with
   | some o=>match o.dst with
    | some t=>a.tmps.getD t undef
    | none=>undef
   | none=>undef,putAll_same l a 0 _ (fun i o t h1 h2=>?_) hnd',fun i o t h1 h2 _=>?_⟩
  ·simp only[Nat.zero_add,h1,h2]
  ·simp only[h1,h2]
 have hf:∀ i,(Array.replicate l.length false).getD i false=false:=by
  intro i;rw[Array.getD_eq_getD_getElem?]
  by_cases hlt:i<l.length
  ·simp[hlt]
  ·simp[hlt]
 have h:=wpAny_facts hrr hrt hlen hnd' htp hfr hob (fun ρ L W h1 hI1 hL1 h2=>hend ρ L W h1 hI1 hL1 (factsAt_of fun i hi=>by rw[Nat.zero_add];exact h2 i (by omega))) l.length (Array.replicate l.length false) ρ (fun _=>false) w.drew (by simp) hf
  (fun p o q _ _ h=>by cases h) hO (hrr _) hI (fun i hi=>by rw[hf i] at hi;cases hi) (by simp[List.count_replicate])
 rw[hρ] at h;simpa using h
end
section
def ObG(a:Act)(P:Program)(Q:Exit->Act->World->Prop)(R:World->World->Prop)(I:(Nat->Value)->(Nat->Bool)->World->Prop)(w:World)(l:List Oper)(Fs:List Fact)(fr:(Nat->Value)->Act)(o:Oper)(F:Fact)(i:Nat):Prop:=
 ∀ (ρ:Nat->Value) (L:Nat->Bool) (W:World),R w W->I ρ L W->L i=false->Down l L->Orig a l L ρ->AllF Fs ρ W (waits o)->∀ K:Act->World->Prop,(∀ v W',R W W'->I (upd ρ i v) (updB L i) W'->(∀ W'',R W' W''->F v W'')->K ((fr ρ).put o.dst v) W') ->
  if Region.wanted o (yielded l.toArray (fr ρ).tmps)=true then Oper.wp P o (fr ρ) W K Q else K ((fr ρ).put o.dst undef) W
def ObsG(a:Act)(P:Program)(Q:Exit->Act->World->Prop)(R:World->World->Prop)(I:(Nat->Value)->(Nat->Bool)->World->Prop)(w:World)(l:List Oper)(Fs:List Fact)(fr:(Nat->Value)->Act):List Oper->List Fact->Nat->Prop
 | o :: os,F :: gs,k=>ObG a P Q R I w l Fs fr o F k/\ObsG a P Q R I w l Fs fr os gs (k+1)
 | _,_,_=>True
theorem ObsG.cons{P:Program}{Q:Exit->Act->World->Prop}{R:World->World->Prop}{I:(Nat->Value)->(Nat->Bool)->World->Prop}{w:World}{l:List Oper}{Fs:List Fact}{fr:(Nat->Value)->Act}{o:Oper}{os:List Oper}{F:Fact}{gs:List Fact}{k:Nat}{a:Act}(h1:ObG a P Q R I w l Fs fr o F k)(h2:ObsG a P Q R I w l Fs fr os gs (k+1)):ObsG a P Q R I w l Fs fr (o :: os) (F :: gs) k:=⟨h1,h2⟩
theorem ObsG.nil{P:Program}{Q:Exit->Act->World->Prop}{R:World->World->Prop}{I:(Nat->Value)->(Nat->Bool)->World->Prop}{w:World}{l:List Oper}{Fs:List Fact}{fr:(Nat->Value)->Act}{k:Nat}{a:Act}:ObsG a P Q R I w l Fs fr [] [] k:=trivial
theorem obsG_at{a:Act}{P:Program}{Q:Exit->Act->World->Prop}{R:World->World->Prop}{I:(Nat->Value)->(Nat->Bool)->World->Prop}{w:World}{l:List Oper}{Fs:List Fact}{fr:(Nat->Value)->Act}:∀ {os:List Oper} {gs:List Fact} {k:Nat},ObsG a P Q R I w l Fs fr os gs k->∀ (i:Nat) (o:Oper) (F:Fact),os[i]?=some o->gs[i]?=some F->ObG a P Q R I w l Fs fr o F (k+i)
 | [],_,_,_,i,o,F,h,_=>by simp at h
 | o :: os,[],_,_,i,o',F,_,h=>by simp at h
 | o :: os,F :: gs,k,h,0,o',F',h1,h2=>by simp at h1 h2;subst h1 h2;exact h.1
 | o :: os,F :: gs,k,h,i+1,o',F',h1,h2=>by
  have:=obsG_at h.2 i o' F' (by simpa using h1) (by simpa using h2)
  rw[show k+1+i=k+(i+1) by omega] at this;exact this
theorem wpAny_factsR{P:Program}{Q:Exit->Act->World->Prop}{R:World->World->Prop}{I:(Nat->Value)->(Nat->Bool)->World->Prop}(hrr:∀ a,R a a)(hrt:∀ a b c,R a b->R b c->R a c){w:World}{a:Act}{l:List Oper}{Fs:List Fact}(hlen:Fs.length=l.length)(hnd:(dstOf l).Nodup)(htp:topoB l=true)
  {fr:(Nat->Value)->Act} (hfr:∀ ρ,putAll a l ρ 0=fr ρ) (hob:ObsG a P Q R I w l Fs fr l Fs 0)
  (hend:∀ ρ L W,R w W->I ρ L W->(∀ i,i<l.length->L i=true)->(∀ i,i<l.length->(Fs.getD i noFact) (ρ i) W)->Q .normal (fr ρ) W) :
  ∀ (fuel:Nat) (listed:Array Bool) (ρ:Nat->Value) (L:Nat->Bool) (W:World),listed.size=l.length->(∀ i,listed.getD i false=L i)->Down l L->Orig a l L ρ->R w W->I ρ L W->(∀ i,listed.getD i false=true->∀ W',R W W'->(Fs.getD i noFact) (ρ i) W') ->
   fuel+listed.toList.count true=l.length->wpAny P .any l.toArray Q fuel listed (putAll a l ρ 0) W:=by
 have done:∀ (listed:Array Bool) (ρ:Nat->Value) (L:Nat->Bool) (W:World),listed.size=l.length->(∀ i,listed.getD i false=L i)->R w W->I ρ L W->(∀ i,listed.getD i false=true->∀ W',R W W'->(Fs.getD i noFact) (ρ i) W')->Region.ready .any l.toArray listed=[]->Q .normal (putAll a l ρ 0) W:=by
  intro listed ρ L W hs hL hW hI hF hr;rw[hfr];exact hend ρ L W hW hI (fun i hi=>by rw[<- hL];exact all_listed htp hr hs (i+1) i (by omega) hi) (fun i hi=>hF i (all_listed htp hr hs (i+1) i (by omega) hi) W (hrr W))
 intro fuel
 induction fuel with
 | zero=>
  intro listed ρ L W hs hL hD hO hW hI hF hc
  have hr:Region.ready .any l.toArray listed=[]:=by
   cases hrd:Region.ready .any l.toArray listed with
   | nil=>rfl
   | cons j js=>
    have hj:j ∈ Region.ready .any l.toArray listed:=by rw[hrd];simp
    obtain⟨h0,o,ho,_⟩:=mem_ready.1 hj
    have hjl:j<l.length:=by
     have:=(Array.getElem?_eq_some_iff.1 ho).1
     simpa using this
    have:=count_all (l:=listed.toList) (by simp only[Array.length_toList];omega) j (by simp;omega)
    have:listed.getD j true=true:=by simp[show j<listed.size by omega] at this ⊢;exact this
    rw[h0] at this;cases this
  exact⟨hr,done listed ρ L W hs hL hW hI hF hr⟩
 | succ fuel ih=>
  intro listed ρ L W hs hL hD hO hW hI hF hc;refine⟨fun hr=>done listed ρ L W hs hL hW hI hF hr,fun i hi=>?_⟩;obtain⟨h0,o,ho,hall⟩:=mem_ready.1 hi;have hol:l[i]?=some o:=by simpa using ho
  have hil:i<l.length:=(List.getElem?_eq_some_iff.1 hol).1;have hFi:Fs[i]?=some (Fs[i]'(by omega)):=by simp[show i<Fs.length by omega]
  have hob1:=obsG_at hob i o _ hol hFi;rw[Nat.zero_add] at hob1
  have hLi:L i=false:=by
   rw[<- hL];have hlt:i<listed.size:=by omega
   simp[hlt] at h0 ⊢;exact h0
  refine wpOp_step ho fun K hK=>?_
  rw[hfr];refine hob1 ρ L W hW hI hLi hD hO (allF_of fun j hj=>?_) K (fun v W' hW' hI' hF'=>?_)
  ·unfold waits at hj
   obtain⟨e,he,rfl⟩:=List.mem_map.1 hj;obtain⟨he1,he2⟩:=List.mem_filter.1 he;exact hF e.on (hall e (by simpa using he1) he2) W (hrr W)
  ·refine hK _ _ ?_
   have hu:=putAll_upd l a ρ 0 i o v hnd hol;rw[Nat.zero_add,hfr ρ] at hu;rw[<- hu];refine ih _ _ (updB L i) _ (by simpa using hs) (fun j=>?_) ?_ ?_ (hrt _ _ _ hW hW') hI' (fun j hj W'' hW''=>?_) ?_
   ·unfold updB
    by_cases hji:j=i
    ·subst hji;simp[show j<listed.size by omega]
    ·rw[if_neg hji,getD_set_ne false (Ne.symm hji)];exact hL j
   ·intro p o' q hp hq hLp
    unfold updB at hLp ⊢
    split
    ·rfl
    ·by_cases hpi:p=i
     ·subst hpi
      rw[hol] at hp;simp at hp;subst hp;unfold waits at hq;obtain⟨e,he,rfl⟩:=List.mem_map.1 hq;obtain⟨he1,he2⟩:=List.mem_filter.1 he;rw[<- hL];exact hall e (by simpa using he1) he2
     ·rw[if_neg hpi] at hLp
      exact hD p o' q hp hq hLp
   ·intro j o' t' ho' ht' hLj
    unfold updB at hLj
    by_cases hji:j=i
    ·rw[if_pos hji] at hLj;cases hLj
    ·rw[if_neg hji] at hLj
     rw[show upd ρ i v j=ρ j by unfold upd;rw[if_neg hji]];exact hO j o' t' ho' ht' hLj
   ·by_cases hji:j=i
    ·subst hji
     rw[show upd ρ j v j=v by unfold upd;rw[if_pos rfl],List.getD_eq_getElem?_getD,hFi];exact hF' W'' hW''
    ·rw[show upd ρ i v j=ρ j by unfold upd;rw[if_neg hji]]
     refine hF j ?_ W'' (hrt _ _ _ hW' hW'');rw[getD_set_ne false (Ne.symm hji)] at hj;exact hj
   ·have:listed.toList[i]?=some false:=by
     have hlt:i<listed.size:=by omega
     simp[hlt] at h0 ⊢;exact h0
    rw[Array.toList_setIfInBounds,count_set this];omega
theorem wp_region_factsR{P:Program}{Q:Exit->Act->World->Prop}{id:Nat}{a:Act}{w:World}{l:List Oper}(R:World->World->Prop)(I:(Nat->Value)->(Nat->Bool)->World->Prop)(Fs:List Fact)(hrr:∀ a,R a a)(hrt:∀ a b c,R a b->R b c->R a c)
  (hm:P.follows .mixedOrders=true) (hlen:Fs.length=l.length) (hnd:decide (dstOf l).Nodup=true) (htp:topoB l=true)
  (fr:(Nat->Value)->Act) (hfr:∀ ρ,putAll a l ρ 0=fr ρ) (hI:∀ ρ,I ρ (fun _=>false) w.drew) (hob:ObsG a P Q R I w.drew l Fs fr l Fs 0)
  (hend:∀ ρ L W,R w.drew W->I ρ L W->(∀ i,i<l.length->L i=true)->FactsAt ρ W Fs 0->Q .normal (fr ρ) W):(Code.region id l.toArray true).wp P Q a w:=by
 refine wp_region_any hm ?_;have hnd':(dstOf l).Nodup:=by simpa using hnd
 obtain⟨ρ,hρ,hO⟩:∃ ρ:Nat->Value,putAll a l ρ 0=a/\Orig a l (fun _=>false) ρ:=by
  refine⟨fun i=>match l[i]? with
   | some o=>match o.dst with
    | some t=>a.tmps.getD t undef
    | none=>undef
   | none=>undef,putAll_same l a 0 _ (fun i o t h1 h2=>?_) hnd',fun i o t h1 h2 _=>?_⟩
  ·simp only[Nat.zero_add,h1,h2]
  ·simp only[h1,h2]
 have hf:∀ i,(Array.replicate l.length false).getD i false=false:=by
  intro i;rw[Array.getD_eq_getD_getElem?]
  by_cases hlt:i<l.length
  ·simp[hlt]
  ·simp[hlt]
 have h:=wpAny_factsR hrr hrt hlen hnd' htp hfr hob (fun ρ L W h1 hI1 hL1 h2=>hend ρ L W h1 hI1 hL1 (factsAt_of fun i hi=>by rw[Nat.zero_add];exact h2 i (by omega))) l.length (Array.replicate l.length false) ρ (fun _=>false) w.drew (by simp) hf
  (fun p o q _ _ h=>by cases h) hO (hrr _) (hI ρ) (fun i hi=>by rw[hf i] at hi;cases hi) (by simp[List.count_replicate])
 rw[hρ] at h;simpa using h
end
end Go.Proofs.YtcfhfdphoidaeaaGreatDoor
