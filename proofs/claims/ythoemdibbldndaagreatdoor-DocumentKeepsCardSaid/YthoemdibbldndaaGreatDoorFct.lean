/- A rule for a region that draws its order: each operation is run once, in any world in. -/
import Derived.Test.YthoemdibbldndaaGreatDoorGA
import Derived.RegionTactic
set_option linter.all false
open Go renaming World->Ys
namespace Go.Proofs.YthoemdibbldndaaGreatDoor
open Go.RowKit
section
def bZ(a:Act):List Oper->(Nat->Value)->Nat->Act
 | [],_,_=>a
 | o :: os,ρ,k=>bZ (a.put o.dst (ρ k)) os ρ (k+1)
def gz(ρ:Nat->Value)(i:Nat)(v:Value):Nat->Value:=λk=>if k=i then v else ρ k
def jS(l:List Oper):List Tmp:=l.filterMap (·.dst)
theorem O6(a:Act)(d:Option Tmp)(v u:Value):(a.put d v).put d u=a.put d u:=by
 cases d with
 | none=>rfl
 | some d=>simp[Act.put,Array.setIfInBounds_setIfInBounds]
theorem vS(l:List Oper):∀(a:Act) (ρ:Nat->Value) (k i:Nat) (v:Value),i<k->bZ a l (gz ρ i v) k=bZ a l ρ k:=by
 induction l with
 | nil=>intros;rfl
 | cons o l ih=>
  intro a ρ k i v h;unfold bZ;rw[ih _ _ _ _ _ (by omega),show gz ρ i v k=ρ k by unfold gz;rw[if_neg (by omega)]]
theorem H9(l:List Oper):∀(a:Act) (ρ:Nat->Value) (k:Nat) (d:Option Tmp) (v:Value),(∀t,d=some t->t ∉ jS l)->(bZ a l ρ k).put d v=bZ (a.put d v) l ρ k:=by
 induction l with
 | nil=>intros;rfl
 | cons o l ih=>
  intro a ρ k d v h;unfold bZ;rw[ih _ _ _ _ _ (λt e hm=>h t e (by unfold jS at hm |-;rw[List.filterMap_cons];split<;>simp_all))];rw[Act.put_comm a (ρ k) v (λt ht hd=>h t hd (by unfold jS;rw[List.filterMap_cons,ht];simp))]
theorem xT(l:List Oper):∀(a:Act) (ρ:Nat->Value) (k i:Nat) (o:Oper) (v:Value),(jS l).Nodup->l[i]?=some o->bZ a l (gz ρ (k+i) v) k=(bZ a l ρ k).put o.dst v:=by
 induction l with
 | nil=>intro a ρ k i o v _ h;simp at h
 | cons o l ih=>
  intro a ρ k i o' v hd h
  match i,h with
  | 0,h=>
   simp at h;subst h;unfold bZ;rw[vS _ _ _ _ _ _ (by omega),show gz ρ (k+0) v k=v by unfold gz;rw[if_pos (by omega)]];rw[H9 _ _ _ _ _ _ (λt ht hm=>by unfold jS at hd;rw[List.filterMap_cons,ht]at hd;exact(List.nodup_cons.1 hd).1 hm),O6]
  | i+1,h=>
   simp at h;unfold bZ;rw[show gz ρ (k+(i+1)) v k=ρ k by unfold gz;rw[if_neg (by omega)],show k+(i+1)=(k+1)+i by omega];refine ih _ _ _ _ _ _ ?_ h;unfold jS at hd |-;rw[List.filterMap_cons]at hd
   split at hd
   ·exact hd
   exact(List.nodup_cons.1 hd).2
theorem uY(l:List Oper):∀(a:Act) (k:Nat) (ρ:Nat->Value),(∀i o t,l[i]?=some o->o.dst=some t->ρ (k+i)=a.tmps.getD t undef)->(jS l).Nodup->bZ a l ρ k=a:=by
 induction l with
 | nil=>intros;rfl
 | cons o l ih=>
  intro a k ρ h hd;unfold bZ
  have h0:a.put o.dst (ρ k)=a:=by
   cases ho:o.dst with
   | none=>rfl
   | some t=>
    have:=h 0 o t rfl ho
    simp only[Nat.add_zero]at this;unfold Act.put;simp only[];rw[this]
    have:a.tmps.setIfInBounds t (a.tmps.getD t undef)=a.tmps:=by
     apply Array.ext_getElem?;intro j;rw[Array.getElem?_setIfInBounds]
     split
     ·rename_i e;subst e
      split
      ·rename_i hlt;simp[hlt]
      rename_i hlt;simp;omega
     rfl
    rw[this]
  rw[h0];refine ih a (k+1) ρ (λi o' t hi ht=>?_) ?_
  ·have:=h (i+1) o' t (by simpa using hi) ht
   rw[show k+1+i=k+(i+1)by omega];exact this
  unfold jS at hd |-;rw[List.filterMap_cons]at hd
  split at hd
  ·exact hd
  exact(List.nodup_cons.1 hd).2
abbrev ea:=Value->Ys->Prop
def kl:ea:=λ_ _=>True
def waits(o:Oper):List Nat:=(o.after.toList.filter (Region.binds .any ·)).map (·.on)
def BL(Fs:List ea)(ρ:Nat->Value)(W:Ys):List Nat->Prop
 | []=>True
 | j :: js=>(Fs.getD j kl) (ρ j) W/\BL Fs ρ W js
theorem yv{Fs:List ea}{ρ:Nat->Value}{W:Ys}:∀ {l:List Nat},(∀j∈l,(Fs.getD j kl) (ρ j) W)->BL Fs ρ W l
 | [],_=>trivial
 | j :: l,h=>⟨h j (by simp),yv λk hk=>h k (by simp[hk])⟩
theorem ag{Fs:List ea}{ρ:Nat->Value}{W:Ys}:∀ {l:List Nat},BL Fs ρ W l->∀ {j:Nat},j∈l->(Fs.getD j kl) (ρ j) W
 | [],_,_,hj=>by cases hj
 | k :: l,h,j,hj=>by
  rcases List.mem_cons.1 hj with e|e
  ·subst e;exact h.1
  exact ag h.2 e
def Down(l:List Oper)(L:Nat->Bool):Prop:=∀(p:Nat) (o:Oper) (q:Nat),l[p]?=some o->q∈waits o->L p=true->L q=true
def ar(L:Nat->Bool)(i:Nat):Nat->Bool:=λk=>if k=i then true else L k
def ym(a:Act)(l:List Oper)(L:Nat->Bool)(ρ:Nat->Value):Prop:=∀(i:Nat) (o:Oper) (t:Tmp),l[i]?=some o->o.dst=some t->L i=false->ρ i=a.tmps.getD t undef
theorem Down.not{l:List Oper}{L:Nat->Bool}(h:Down l L){p q:Nat}{o:Oper}(ho:l[p]?=some o)(hq:q∈waits o)(hL:L q=false):L p=false:=by
 cases hp:L p with
 | false=>rfl
 | true=>rw[h p o q ho hq hp]at hL;cases hL
def Qk(a:Act)(P:Program)(Q:Exit->Act->Ys->Prop)(R:Ys->Ys->Prop)(I:(Nat->Bool)->Ys->Prop)(w:Ys)(l:List Oper)(Fs:List ea)(fr:(Nat->Value)->Act)(o:Oper)(F:ea)(i:Nat):Prop:=
 ∀(ρ:Nat->Value) (L:Nat->Bool) (W:Ys),R w W->I L W->L i=false->Down l L->ym a l L ρ->BL Fs ρ W (waits o)->∀K:Act->Ys->Prop,(∀v W',R W W'->I (ar L i) W'->(∀W'',R W' W''->F v W'')->K ((fr ρ).put o.dst v) W') ->
  if Region.wanted o (yielded l.toArray (fr ρ).tmps)=true then Oper.wp P o (fr ρ) W K Q else K ((fr ρ).put o.dst undef) W
def aq(a:Act)(P:Program)(Q:Exit->Act->Ys->Prop)(R:Ys->Ys->Prop)(I:(Nat->Bool)->Ys->Prop)(w:Ys)(l:List Oper)(Fs:List ea)(fr:(Nat->Value)->Act):List Oper->List ea->Nat->Prop
 | o :: os,F :: gs,k=>Qk a P Q R I w l Fs fr o F k/\aq a P Q R I w l Fs fr os gs (k+1)
 | _,_,_=>True
theorem aq.cons{P:Program}{Q:Exit->Act->Ys->Prop}{R:Ys->Ys->Prop}{I:(Nat->Bool)->Ys->Prop}{w:Ys}{l:List Oper}{Fs:List ea}{fr:(Nat->Value)->Act}{o:Oper}{os:List Oper}{F:ea}{gs:List ea}{k:Nat}{a:Act}(h1:Qk a P Q R I w l Fs fr o F k)(h2:aq a P Q R I w l Fs fr os gs (k+1)):aq a P Q R I w l Fs fr (o :: os) (F :: gs) k:=⟨h1,h2⟩
theorem aq.nil{P:Program}{Q:Exit->Act->Ys->Prop}{R:Ys->Ys->Prop}{I:(Nat->Bool)->Ys->Prop}{w:Ys}{l:List Oper}{Fs:List ea}{fr:(Nat->Value)->Act}{k:Nat}{a:Act}:aq a P Q R I w l Fs fr [] [] k:=trivial
theorem FN{a:Act}{P:Program}{Q:Exit->Act->Ys->Prop}{R:Ys->Ys->Prop}{I:(Nat->Bool)->Ys->Prop}{w:Ys}{l:List Oper}{Fs:List ea}{fr:(Nat->Value)->Act}:∀ {os:List Oper} {gs:List ea} {k:Nat},aq a P Q R I w l Fs fr os gs k->∀(i:Nat) (o:Oper) (F:ea),os[i]?=some o->gs[i]?=some F->Qk a P Q R I w l Fs fr o F (k+i)
 | [],_,_,_,i,o,F,h,_=>by simp at h
 | o :: os,[],_,_,i,o',F,_,h=>by simp at h
 | o :: os,F :: gs,k,h,0,o',F',h1,h2=>by simp at h1 h2;subst h1 h2;exact h.1
 | o :: os,F :: gs,k,h,i+1,o',F',h1,h2=>by
  have:=FN h.2 i o' F' (by simpa using h1) (by simpa using h2)
  rw[show k+1+i=k+(i+1)by omega]at this;exact this
def ss(l:List Oper):Bool:=(List.range l.length).all λi=>match l[i]? with
 | some o=>(waits o).all λj=>decide (j<i)
 | none=>true
theorem PA{l:List Oper}(h:ss l=true){i:Nat}{o:Oper}(ho:l[i]?=some o){j:Nat}(hj:j∈waits o):j<i:=by
 have hlt:=(List.getElem?_eq_some_iff.1 ho).1;unfold ss at h;rw[List.all_eq_true]at h;have:=h i (by simpa using hlt)
 rw[ho]at this;simpa using List.all_eq_true.1 this j hj
theorem oc{l:List Oper}(h:ss l=true){listed:Array Bool}(hr:Region.ready .any l.toArray listed=[])(hs:listed.size=l.length):∀n i,i<n->i<l.length->listed.getD i false=true:=by
 intro n
 induction n with
 | zero=>intro i hi;omega
 | succ n ih=>
  intro i hi hil
  by_cases hin:i<n
  ·exact ih i hin hil
  have Wk:i=n:=by omega
  subst Wk;cases hli:listed.getD i true with
  | true=>simpa[show i<listed.size by omega]using hli
  | false=>
   exfalso
   have:i∈Region.ready .any l.toArray listed:=by
    rw[mem_ready];refine⟨hli,l[i],by simp[hil],λe he hb=>?_⟩
    have hj:e.on∈waits l[i]:=by
     unfold waits;exact List.mem_map.2 ⟨e,List.mem_filter.2 ⟨by simpa using he,hb⟩,rfl⟩
    have hlt:=PA h (i:=i) (by simp[hil]) hj;exact ih e.on hlt (by omega)
   rw[hr]at this;cases this
theorem count_set{l:List Bool}:∀ {i:Nat},l[i]?=some false->(l.set i true).count true=l.count true+1:=by
 induction l with
 | nil=>intro i h;simp at h
 | cons b l ih=>
  intro i h
  match i,h with
  | 0,h=>simp at h;subst h;simp
  | i+1,h=>
   simp only[aw,List.count_cons];rw[ih (by simpa using h)];omega
theorem zO{l:List Bool}(h:l.count true=l.length):∀i,i<l.length->l[i]?=some true:=by
 intro i hi;have:=List.count_eq_length.1 h l[i] (List.getElem_mem hi)
 simp[hi,<-this]
theorem EM{P:Program}{Q:Exit->Act->Ys->Prop}{R:Ys->Ys->Prop}{I:(Nat->Bool)->Ys->Prop}(mM:∀a,R a a)(hrt:∀a b c,R a b->R b c->R a c){w:Ys}{a:Act}{l:List Oper}{Fs:List ea}(hlen:Fs.length=l.length)(hnd:(jS l).Nodup)(tQ:ss l=true)
  {fr:(Nat->Value)->Act} (hfr:∀ρ,bZ a l ρ 0=fr ρ) (hob:aq a P Q R I w l Fs fr l Fs 0)
  (hend:∀ρ L W,R w W->I L W->(∀i,i<l.length->L i=true)->(∀i,i<l.length->(Fs.getD i kl) (ρ i) W)->Q .normal (fr ρ) W) :
  ∀(fuel:Nat) (listed:Array Bool) (ρ:Nat->Value) (L:Nat->Bool) (W:Ys),listed.size=l.length->(∀i,listed.getD i false=L i)->Down l L->ym a l L ρ->R w W->I L W->(∀i,listed.getD i false=true->∀W',R W W'->(Fs.getD i kl) (ρ i) W') ->
   fuel+listed.toList.count true=l.length->wpAny P .any l.toArray Q fuel listed (bZ a l ρ 0) W:=by
 have done:∀(listed:Array Bool) (ρ:Nat->Value) (L:Nat->Bool) (W:Ys),listed.size=l.length->(∀i,listed.getD i false=L i)->R w W->I L W->(∀i,listed.getD i false=true->∀W',R W W'->(Fs.getD i kl) (ρ i) W')->Region.ready .any l.toArray listed=[]->Q .normal (bZ a l ρ 0) W:=by
  intro listed ρ L W hs hL hW hI hF hr;rw[hfr];exact hend ρ L W hW hI (λi hi=>by rw[<-hL];exact oc tQ hr hs (i+1) i (by omega) hi) (λi hi=>hF i (oc tQ hr hs (i+1) i (by omega) hi) W (mM W))
 intro fuel
 induction fuel with
 | zero=>
  intro listed ρ L W hs hL hD hO hW hI hF hc
  have hr:Region.ready .any l.toArray listed=[]:=by
   cases fl:Region.ready .any l.toArray listed with
   | nil=>rfl
   | cons j js=>
    have hj:j∈Region.ready .any l.toArray listed:=by rw[fl];simp
    obtain⟨h0,o,ho,_⟩:=mem_ready.1 hj
    have hjl:j<l.length:=by
     have:=(Array.getElem?_eq_some_iff.1 ho).1
     simpa using this
    have:=zO (l:=listed.toList) (by simp only[Array.length_toList];omega) j (by simp;omega)
    have:listed.getD j true=true:=by simp[show j<listed.size by omega]at this |-;exact this
    rw[h0]at this;cases this
  exact⟨hr,done listed ρ L W hs hL hW hI hF hr⟩
 | succ fuel ih=>
  intro listed ρ L W hs hL hD hO hW hI hF hc;refine⟨λhr=>done listed ρ L W hs hL hW hI hF hr,λi hi=>?_⟩;obtain⟨h0,o,ho,hall⟩:=mem_ready.1 hi;have hol:l[i]?=some o:=by simpa using ho
  have hil:i<l.length:=(List.getElem?_eq_some_iff.1 hol).1;have JB:Fs[i]?=some (Fs[i]'(by omega)):=by simp[show i<Fs.length by omega]
  have CX:=FN hob i o _ hol JB;rw[Nat.zero_add]at CX
  have QL:L i=false:=by
   rw[<-hL];have hlt:i<listed.size:=by omega
   simp[hlt]at h0 |-;exact h0
  refine wpOp_step ho λK hK=>?_
  rw[hfr];refine CX ρ L W hW hI QL hD hO (yv λj hj=>?_) K (λv W' hW' hI' hF'=>?_)
  ·unfold waits at hj;obtain⟨e,he,rfl⟩:=List.mem_map.1 hj;obtain⟨Al,he2⟩:=List.mem_filter.1 he;exact hF e.on (hall e (by simpa using Al) he2) W (mM W)
  refine hK _ _ ?_;have hu:=xT l a ρ 0 i o v hnd hol;rw[Nat.zero_add,hfr ρ]at hu;rw[<-hu];refine ih _ _ (ar L i) _ (by simpa using hs) (λj=>?_) ?_ ?_ (hrt _ _ _ hW hW') hI' (λj hj W'' CN=>?_) ?_
  ·unfold ar
   by_cases kc:j=i
   ·subst kc;simp[show j<listed.size by omega]
   rw[if_neg kc,getD_set_ne false (Ne.symm kc)];exact hL j
  ·intro p o' q hp hq CM;unfold ar at CM |-
   split
   ·rfl
   by_cases hpi:p=i
   ·subst hpi;rw[hol]at hp;simp at hp;subst hp;unfold waits at hq;obtain⟨e,he,rfl⟩:=List.mem_map.1 hq;obtain⟨Al,he2⟩:=List.mem_filter.1 he;rw[<-hL];exact hall e (by simpa using Al) he2
   rw[if_neg hpi]at CM;exact hD p o' q hp hq CM
  ·intro j o' t' ho' ht' tD;unfold ar at tD
   by_cases kc:j=i
   ·rw[if_pos kc]at tD;cases tD
   rw[if_neg kc]at tD;rw[show gz ρ i v j=ρ j by unfold gz;rw[if_neg kc]];exact hO j o' t' ho' ht' tD
  ·by_cases kc:j=i
   ·subst kc;rw[show gz ρ j v j=v by unfold gz;rw[if_pos rfl],List.getD_eq_getElem?_getD,JB];exact hF' W'' CN
   rw[show gz ρ i v j=ρ j by unfold gz;rw[if_neg kc]];refine hF j ?_ W'' (hrt _ _ _ hW' CN);rw[getD_set_ne false (Ne.symm kc)]at hj;exact hj
  have:listed.toList[i]?=some false:=by
   have hlt:i<listed.size:=by omega
   simp[hlt]at h0 |-;exact h0
  rw[Array.toList_setIfInBounds,count_set this];omega
def uv(ρ:Nat->Value)(W:Ys):List ea->Nat->Prop
 | [],_=>True
 | F :: Fs,k=>F (ρ k) W/\uv ρ W Fs (k+1)
theorem rM{ρ:Nat->Value}{W:Ys}:∀ {Fs:List ea} {k:Nat},(∀i,i<Fs.length->(Fs.getD i kl) (ρ (k+i)) W)->uv ρ W Fs k
 | [],_,_=>trivial
 | F :: Fs,k,h=>⟨h 0 (by simp),rM λi hi=>by
   have:=h (i+1) (by simp;omega)
   rw[show k+(i+1)=k+1+i by omega]at this
   exact this⟩
theorem bU{P:Program}{Q:Exit->Act->Ys->Prop}{id:Nat}{a:Act}{w:Ys}{l:List Oper}(R:Ys->Ys->Prop)(I:(Nat->Bool)->Ys->Prop)(Fs:List ea)(mM:∀a,R a a)(hrt:∀a b c,R a b->R b c->R a c)
  (hm:P.follows .mixedOrders=true) (hlen:Fs.length=l.length) (hnd:decide (jS l).Nodup=true) (tQ:ss l=true)
  (fr:(Nat->Value)->Act) (hfr:∀ρ,bZ a l ρ 0=fr ρ) (hI:I (λ_=>false) w.drew) (hob:aq a P Q R I w.drew l Fs fr l Fs 0)
  (hend:∀ρ L W,R w.drew W->I L W->(∀i,i<l.length->L i=true)->uv ρ W Fs 0->Q .normal (fr ρ) W):(Code.region id l.toArray true).wp P Q a w:=by
 refine wp_region_any hm ?_;have hnd':(jS l).Nodup:=by simpa using hnd
 obtain⟨ρ,hρ,hO⟩:∃ρ:Nat->Value,bZ a l ρ 0=a/\ym a l (λ_=>false) ρ:=by
  refine⟨λi=>match l[i]? with
   | some o=>match o.dst with
    | some t=>a.tmps.getD t undef
    | none=>undef
   | none=>undef,uY l a 0 _ (λi o t h1 h2=>?_) hnd',λi o t h1 h2 _=>?_⟩
  ·simp only[Nat.zero_add,h1,h2]
  simp only[h1,h2]
 have hf:∀i,(Array.replicate l.length false).getD i false=false:=by
  intro i;rw[Array.getD_eq_getD_getElem?]
  by_cases hlt:i<l.length
  ·simp[hlt]
  simp[hlt]
 have h:=EM mM hrt hlen hnd' tQ hfr hob (λρ L W h1 dp QK h2=>hend ρ L W h1 dp QK (rM λi hi=>by rw[Nat.zero_add];exact h2 i (by omega))) l.length (Array.replicate l.length false) ρ (λ_=>false) w.drew (by simp) hf
  (λp o q _ _ h=>by cases h) hO (mM _) hI (λi hi=>by rw[hf i]at hi;cases hi) (by simp[List.count_replicate])
 rw[hρ]at h;simpa using h
end
section
def Ql(a:Act)(P:Program)(Q:Exit->Act->Ys->Prop)(R:Ys->Ys->Prop)(I:(Nat->Value)->(Nat->Bool)->Ys->Prop)(w:Ys)(l:List Oper)(Fs:List ea)(fr:(Nat->Value)->Act)(o:Oper)(F:ea)(i:Nat):Prop:=
 ∀(ρ:Nat->Value) (L:Nat->Bool) (W:Ys),R w W->I ρ L W->L i=false->Down l L->ym a l L ρ->BL Fs ρ W (waits o)->∀K:Act->Ys->Prop,(∀v W',R W W'->I (gz ρ i v) (ar L i) W'->(∀W'',R W' W''->F v W'')->K ((fr ρ).put o.dst v) W') ->
  if Region.wanted o (yielded l.toArray (fr ρ).tmps)=true then Oper.wp P o (fr ρ) W K Q else K ((fr ρ).put o.dst undef) W
def gV(a:Act)(P:Program)(Q:Exit->Act->Ys->Prop)(R:Ys->Ys->Prop)(I:(Nat->Value)->(Nat->Bool)->Ys->Prop)(w:Ys)(l:List Oper)(Fs:List ea)(fr:(Nat->Value)->Act):List Oper->List ea->Nat->Prop
 | o :: os,F :: gs,k=>Ql a P Q R I w l Fs fr o F k/\gV a P Q R I w l Fs fr os gs (k+1)
 | _,_,_=>True
theorem gV.cons{P:Program}{Q:Exit->Act->Ys->Prop}{R:Ys->Ys->Prop}{I:(Nat->Value)->(Nat->Bool)->Ys->Prop}{w:Ys}{l:List Oper}{Fs:List ea}{fr:(Nat->Value)->Act}{o:Oper}{os:List Oper}{F:ea}{gs:List ea}{k:Nat}{a:Act}(h1:Ql a P Q R I w l Fs fr o F k)(h2:gV a P Q R I w l Fs fr os gs (k+1)):gV a P Q R I w l Fs fr (o :: os) (F :: gs) k:=⟨h1,h2⟩
theorem gV.nil{P:Program}{Q:Exit->Act->Ys->Prop}{R:Ys->Ys->Prop}{I:(Nat->Value)->(Nat->Bool)->Ys->Prop}{w:Ys}{l:List Oper}{Fs:List ea}{fr:(Nat->Value)->Act}{k:Nat}{a:Act}:gV a P Q R I w l Fs fr [] [] k:=trivial
theorem FO{a:Act}{P:Program}{Q:Exit->Act->Ys->Prop}{R:Ys->Ys->Prop}{I:(Nat->Value)->(Nat->Bool)->Ys->Prop}{w:Ys}{l:List Oper}{Fs:List ea}{fr:(Nat->Value)->Act}:∀ {os:List Oper} {gs:List ea} {k:Nat},gV a P Q R I w l Fs fr os gs k->∀(i:Nat) (o:Oper) (F:ea),os[i]?=some o->gs[i]?=some F->Ql a P Q R I w l Fs fr o F (k+i)
 | [],_,_,_,i,o,F,h,_=>by simp at h
 | o :: os,[],_,_,i,o',F,_,h=>by simp at h
 | o :: os,F :: gs,k,h,0,o',F',h1,h2=>by simp at h1 h2;subst h1 h2;exact h.1
 | o :: os,F :: gs,k,h,i+1,o',F',h1,h2=>by
  have:=FO h.2 i o' F' (by simpa using h1) (by simpa using h2)
  rw[show k+1+i=k+(i+1)by omega]at this;exact this
theorem Ed{P:Program}{Q:Exit->Act->Ys->Prop}{R:Ys->Ys->Prop}{I:(Nat->Value)->(Nat->Bool)->Ys->Prop}(mM:∀a,R a a)(hrt:∀a b c,R a b->R b c->R a c){w:Ys}{a:Act}{l:List Oper}{Fs:List ea}(hlen:Fs.length=l.length)(hnd:(jS l).Nodup)(tQ:ss l=true)
  {fr:(Nat->Value)->Act} (hfr:∀ρ,bZ a l ρ 0=fr ρ) (hob:gV a P Q R I w l Fs fr l Fs 0)
  (hend:∀ρ L W,R w W->I ρ L W->(∀i,i<l.length->L i=true)->(∀i,i<l.length->(Fs.getD i kl) (ρ i) W)->Q .normal (fr ρ) W) :
  ∀(fuel:Nat) (listed:Array Bool) (ρ:Nat->Value) (L:Nat->Bool) (W:Ys),listed.size=l.length->(∀i,listed.getD i false=L i)->Down l L->ym a l L ρ->R w W->I ρ L W->(∀i,listed.getD i false=true->∀W',R W W'->(Fs.getD i kl) (ρ i) W') ->
   fuel+listed.toList.count true=l.length->wpAny P .any l.toArray Q fuel listed (bZ a l ρ 0) W:=by
 have done:∀(listed:Array Bool) (ρ:Nat->Value) (L:Nat->Bool) (W:Ys),listed.size=l.length->(∀i,listed.getD i false=L i)->R w W->I ρ L W->(∀i,listed.getD i false=true->∀W',R W W'->(Fs.getD i kl) (ρ i) W')->Region.ready .any l.toArray listed=[]->Q .normal (bZ a l ρ 0) W:=by
  intro listed ρ L W hs hL hW hI hF hr;rw[hfr];exact hend ρ L W hW hI (λi hi=>by rw[<-hL];exact oc tQ hr hs (i+1) i (by omega) hi) (λi hi=>hF i (oc tQ hr hs (i+1) i (by omega) hi) W (mM W))
 intro fuel
 induction fuel with
 | zero=>
  intro listed ρ L W hs hL hD hO hW hI hF hc
  have hr:Region.ready .any l.toArray listed=[]:=by
   cases fl:Region.ready .any l.toArray listed with
   | nil=>rfl
   | cons j js=>
    have hj:j∈Region.ready .any l.toArray listed:=by rw[fl];simp
    obtain⟨h0,o,ho,_⟩:=mem_ready.1 hj
    have hjl:j<l.length:=by
     have:=(Array.getElem?_eq_some_iff.1 ho).1
     simpa using this
    have:=zO (l:=listed.toList) (by simp only[Array.length_toList];omega) j (by simp;omega)
    have:listed.getD j true=true:=by simp[show j<listed.size by omega]at this |-;exact this
    rw[h0]at this;cases this
  exact⟨hr,done listed ρ L W hs hL hW hI hF hr⟩
 | succ fuel ih=>
  intro listed ρ L W hs hL hD hO hW hI hF hc;refine⟨λhr=>done listed ρ L W hs hL hW hI hF hr,λi hi=>?_⟩;obtain⟨h0,o,ho,hall⟩:=mem_ready.1 hi;have hol:l[i]?=some o:=by simpa using ho
  have hil:i<l.length:=(List.getElem?_eq_some_iff.1 hol).1;have JB:Fs[i]?=some (Fs[i]'(by omega)):=by simp[show i<Fs.length by omega]
  have CX:=FO hob i o _ hol JB;rw[Nat.zero_add]at CX
  have QL:L i=false:=by
   rw[<-hL];have hlt:i<listed.size:=by omega
   simp[hlt]at h0 |-;exact h0
  refine wpOp_step ho λK hK=>?_
  rw[hfr];refine CX ρ L W hW hI QL hD hO (yv λj hj=>?_) K (λv W' hW' hI' hF'=>?_)
  ·unfold waits at hj;obtain⟨e,he,rfl⟩:=List.mem_map.1 hj;obtain⟨Al,he2⟩:=List.mem_filter.1 he;exact hF e.on (hall e (by simpa using Al) he2) W (mM W)
  refine hK _ _ ?_;have hu:=xT l a ρ 0 i o v hnd hol;rw[Nat.zero_add,hfr ρ]at hu;rw[<-hu];refine ih _ _ (ar L i) _ (by simpa using hs) (λj=>?_) ?_ ?_ (hrt _ _ _ hW hW') hI' (λj hj W'' CN=>?_) ?_
  ·unfold ar
   by_cases kc:j=i
   ·subst kc;simp[show j<listed.size by omega]
   rw[if_neg kc,getD_set_ne false (Ne.symm kc)];exact hL j
  ·intro p o' q hp hq CM;unfold ar at CM |-
   split
   ·rfl
   by_cases hpi:p=i
   ·subst hpi;rw[hol]at hp;simp at hp;subst hp;unfold waits at hq;obtain⟨e,he,rfl⟩:=List.mem_map.1 hq;obtain⟨Al,he2⟩:=List.mem_filter.1 he;rw[<-hL];exact hall e (by simpa using Al) he2
   rw[if_neg hpi]at CM;exact hD p o' q hp hq CM
  ·intro j o' t' ho' ht' tD;unfold ar at tD
   by_cases kc:j=i
   ·rw[if_pos kc]at tD;cases tD
   rw[if_neg kc]at tD;rw[show gz ρ i v j=ρ j by unfold gz;rw[if_neg kc]];exact hO j o' t' ho' ht' tD
  ·by_cases kc:j=i
   ·subst kc;rw[show gz ρ j v j=v by unfold gz;rw[if_pos rfl],List.getD_eq_getElem?_getD,JB];exact hF' W'' CN
   rw[show gz ρ i v j=ρ j by unfold gz;rw[if_neg kc]];refine hF j ?_ W'' (hrt _ _ _ hW' CN);rw[getD_set_ne false (Ne.symm kc)]at hj;exact hj
  have:listed.toList[i]?=some false:=by
   have hlt:i<listed.size:=by omega
   simp[hlt]at h0 |-;exact h0
  rw[Array.toList_setIfInBounds,count_set this];omega
theorem wl{P:Program}{Q:Exit->Act->Ys->Prop}{id:Nat}{a:Act}{w:Ys}{l:List Oper}(R:Ys->Ys->Prop)(I:(Nat->Value)->(Nat->Bool)->Ys->Prop)(Fs:List ea)(mM:∀a,R a a)(hrt:∀a b c,R a b->R b c->R a c)
  (hm:P.follows .mixedOrders=true) (hlen:Fs.length=l.length) (hnd:decide (jS l).Nodup=true) (tQ:ss l=true)
  (fr:(Nat->Value)->Act) (hfr:∀ρ,bZ a l ρ 0=fr ρ) (hI:∀ρ,I ρ (λ_=>false) w.drew) (hob:gV a P Q R I w.drew l Fs fr l Fs 0)
  (hend:∀ρ L W,R w.drew W->I ρ L W->(∀i,i<l.length->L i=true)->uv ρ W Fs 0->Q .normal (fr ρ) W):(Code.region id l.toArray true).wp P Q a w:=by
 refine wp_region_any hm ?_;have hnd':(jS l).Nodup:=by simpa using hnd
 obtain⟨ρ,hρ,hO⟩:∃ρ:Nat->Value,bZ a l ρ 0=a/\ym a l (λ_=>false) ρ:=by
  refine⟨λi=>match l[i]? with
   | some o=>match o.dst with
    | some t=>a.tmps.getD t undef
    | none=>undef
   | none=>undef,uY l a 0 _ (λi o t h1 h2=>?_) hnd',λi o t h1 h2 _=>?_⟩
  ·simp only[Nat.zero_add,h1,h2]
  simp only[h1,h2]
 have hf:∀i,(Array.replicate l.length false).getD i false=false:=by
  intro i;rw[Array.getD_eq_getD_getElem?]
  by_cases hlt:i<l.length
  ·simp[hlt]
  simp[hlt]
 have h:=Ed mM hrt hlen hnd' tQ hfr hob (λρ L W h1 dp QK h2=>hend ρ L W h1 dp QK (rM λi hi=>by rw[Nat.zero_add];exact h2 i (by omega))) l.length (Array.replicate l.length false) ρ (λ_=>false) w.drew (by simp) hf
  (λp o q _ _ h=>by cases h) hO (mM _) (hI ρ) (λi hi=>by rw[hf i]at hi;cases hi) (by simp[List.count_replicate])
 rw[hρ]at h;simpa using h
end
