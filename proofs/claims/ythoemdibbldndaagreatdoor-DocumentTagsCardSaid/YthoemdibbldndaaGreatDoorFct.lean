/- A rule for a region that draws its order: each operation is run once, in any world in. -/
import Derived.Test.YthoemdibbldndaaGreatDoorGA
import Derived.RegionTactic
set_option linter.all false
open Go renaming World->UY
namespace Go.Proofs.YthoemdibbldndaaGreatDoor
open Go.RowKit
section
def ch(a:Act):List Oper->(Nat->Value)->Nat->Act
 | [],_,_=>a
 | o :: os,ρ,k=>ch (a.put o.dst (ρ k)) os ρ (k+1)
def pz(ρ:Nat->Value)(i:Nat)(v:Value):Nat->Value:=λk=>if k=i then v else ρ k
def lA(l:List Oper):List Tmp:=l.filterMap (·.dst)
theorem MK(a:Act)(d:Option Tmp)(v u:Value):(a.put d v).put d u=a.put d u:=by
 cases d with
 | none=>rfl
 | some d=>simp[Act.put,Array.setIfInBounds_setIfInBounds]
theorem uJ(l:List Oper):∀(a:Act) (ρ:Nat->Value) (k i:Nat) (v:Value),i<k->ch a l (pz ρ i v) k=ch a l ρ k:=by
 induction l with
 | nil=>intros;rfl
 | cons o l ih=>
  intro a ρ k i v h;unfold ch;rw[ih _ _ _ _ _ (by omega),show pz ρ i v k=ρ k by unfold pz;rw[if_neg (by omega)]]
theorem FC(l:List Oper):∀(a:Act) (ρ:Nat->Value) (k:Nat) (d:Option Tmp) (v:Value),(∀t,d=some t->t ∉ lA l)->(ch a l ρ k).put d v=ch (a.put d v) l ρ k:=by
 induction l with
 | nil=>intros;rfl
 | cons o l ih=>
  intro a ρ k d v h;unfold ch;rw[ih _ _ _ _ _ (λt e hm=>h t e (by unfold lA at hm |-;rw[List.filterMap_cons];split<;>simp_all))];rw[Act.put_comm a (ρ k) v (λt ht hd=>h t hd (by unfold lA;rw[List.filterMap_cons,ht];simp))]
theorem FD(l:List Oper):∀(a:Act) (ρ:Nat->Value) (k i:Nat) (o:Oper) (v:Value),(lA l).Nodup->l[i]?=some o->ch a l (pz ρ (k+i) v) k=(ch a l ρ k).put o.dst v:=by
 induction l with
 | nil=>intro a ρ k i o v _ h;simp at h
 | cons o l ih=>
  intro a ρ k i o' v hd h
  match i,h with
  | 0,h=>
   simp at h;subst h;unfold ch;rw[uJ _ _ _ _ _ _ (by omega),show pz ρ (k+0) v k=v by unfold pz;rw[if_pos (by omega)]];rw[FC _ _ _ _ _ _ (λt ht hm=>by unfold lA at hd;rw[List.filterMap_cons,ht]at hd;exact(List.nodup_cons.1 hd).1 hm),MK]
  | i+1,h=>
   simp at h;unfold ch;rw[show pz ρ (k+(i+1)) v k=ρ k by unfold pz;rw[if_neg (by omega)],show k+(i+1)=(k+1)+i by omega];refine ih _ _ _ _ _ _ ?_ h;unfold lA at hd |-;rw[List.filterMap_cons]at hd
   split at hd
   ·exact hd
   exact(List.nodup_cons.1 hd).2
theorem CJ(l:List Oper):∀(a:Act) (k:Nat) (ρ:Nat->Value),(∀i o t,l[i]?=some o->o.dst=some t->ρ (k+i)=a.tmps.getD t undef)->(lA l).Nodup->ch a l ρ k=a:=by
 induction l with
 | nil=>intros;rfl
 | cons o l ih=>
  intro a k ρ h hd;unfold ch
  have h0:a.put o.dst (ρ k)=a:=by
   cases ho:o.dst with
   | none=>rfl
   | some t=>
    have:=h 0 o t rfl ho
    simp only[Nat.add_zero]at this;unfold Act.put;simp only[];rw[this]
    have:a.tmps.setIfInBounds t (a.tmps.getD t undef)=a.tmps:=by
     apply Array.ext_getElem?;intro j;rw[Array.getElem?_setIfInBounds]
     split
     ·rename_i e;subst e
      split
      ·rename_i hlt;simp[hlt]
      rename_i hlt;simp;omega
     rfl
    rw[this]
  rw[h0];refine ih a (k+1) ρ (λi o' t hi ht=>?_) ?_
  ·have:=h (i+1) o' t (by simpa using hi) ht
   rw[show k+1+i=k+(i+1)by omega];exact this
  unfold lA at hd |-;rw[List.filterMap_cons]at hd
  split at hd
  ·exact hd
  exact(List.nodup_cons.1 hd).2
abbrev gY:=Value->UY->Prop
def mW:gY:=λ_ _=>True
def waits(o:Oper):List Nat:=(o.after.toList.filter (Region.binds .any ·)).map (·.on)
def Ed(Fs:List gY)(ρ:Nat->Value)(W:UY):List Nat->Prop
 | []=>True
 | j :: js=>(Fs.getD j mW) (ρ j) W/\Ed Fs ρ W js
theorem Da{Fs:List gY}{ρ:Nat->Value}{W:UY}:∀ {l:List Nat},(∀j∈l,(Fs.getD j mW) (ρ j) W)->Ed Fs ρ W l
 | [],_=>trivial
 | j :: l,h=>⟨h j (by simp),Da λk hk=>h k (by simp[hk])⟩
theorem ag{Fs:List gY}{ρ:Nat->Value}{W:UY}:∀ {l:List Nat},Ed Fs ρ W l->∀ {j:Nat},j∈l->(Fs.getD j mW) (ρ j) W
 | [],_,_,hj=>by cases hj
 | k :: l,h,j,hj=>by
  rcases List.mem_cons.1 hj with e|e
  ·subst e;exact h.1
  exact ag h.2 e
def Down(l:List Oper)(L:Nat->Bool):Prop:=∀(p:Nat) (o:Oper) (q:Nat),l[p]?=some o->q∈waits o->L p=true->L q=true
def au(L:Nat->Bool)(i:Nat):Nat->Bool:=λk=>if k=i then true else L k
def Jn(a:Act)(l:List Oper)(L:Nat->Bool)(ρ:Nat->Value):Prop:=∀(i:Nat) (o:Oper) (t:Tmp),l[i]?=some o->o.dst=some t->L i=false->ρ i=a.tmps.getD t undef
theorem Down.not{l:List Oper}{L:Nat->Bool}(h:Down l L){p q:Nat}{o:Oper}(ho:l[p]?=some o)(hq:q∈waits o)(hL:L q=false):L p=false:=by
 cases hp:L p with
 | false=>rfl
 | true=>rw[h p o q ho hq hp]at hL;cases hL
def Ny(a:Act)(P:Program)(Q:Exit->Act->UY->Prop)(R:UY->UY->Prop)(I:(Nat->Bool)->UY->Prop)(w:UY)(l:List Oper)(Fs:List gY)(fr:(Nat->Value)->Act)(o:Oper)(F:gY)(i:Nat):Prop:=
 ∀(ρ:Nat->Value) (L:Nat->Bool) (W:UY),R w W->I L W->L i=false->Down l L->Jn a l L ρ->Ed Fs ρ W (waits o)->∀K:Act->UY->Prop,(∀v W',R W W'->I (au L i) W'->(∀W'',R W' W''->F v W'')->K ((fr ρ).put o.dst v) W') ->
  if Region.wanted o (yielded l.toArray (fr ρ).tmps)=true then Oper.wp P o (fr ρ) W K Q else K ((fr ρ).put o.dst undef) W
def aj(a:Act)(P:Program)(Q:Exit->Act->UY->Prop)(R:UY->UY->Prop)(I:(Nat->Bool)->UY->Prop)(w:UY)(l:List Oper)(Fs:List gY)(fr:(Nat->Value)->Act):List Oper->List gY->Nat->Prop
 | o :: os,F :: gs,k=>Ny a P Q R I w l Fs fr o F k/\aj a P Q R I w l Fs fr os gs (k+1)
 | _,_,_=>True
theorem aj.cons{P:Program}{Q:Exit->Act->UY->Prop}{R:UY->UY->Prop}{I:(Nat->Bool)->UY->Prop}{w:UY}{l:List Oper}{Fs:List gY}{fr:(Nat->Value)->Act}{o:Oper}{os:List Oper}{F:gY}{gs:List gY}{k:Nat}{a:Act}(h1:Ny a P Q R I w l Fs fr o F k)(h2:aj a P Q R I w l Fs fr os gs (k+1)):aj a P Q R I w l Fs fr (o :: os) (F :: gs) k:=⟨h1,h2⟩
theorem aj.nil{P:Program}{Q:Exit->Act->UY->Prop}{R:UY->UY->Prop}{I:(Nat->Bool)->UY->Prop}{w:UY}{l:List Oper}{Fs:List gY}{fr:(Nat->Value)->Act}{k:Nat}{a:Act}:aj a P Q R I w l Fs fr [] [] k:=trivial
theorem DM{a:Act}{P:Program}{Q:Exit->Act->UY->Prop}{R:UY->UY->Prop}{I:(Nat->Bool)->UY->Prop}{w:UY}{l:List Oper}{Fs:List gY}{fr:(Nat->Value)->Act}:∀ {os:List Oper} {gs:List gY} {k:Nat},aj a P Q R I w l Fs fr os gs k->∀(i:Nat) (o:Oper) (F:gY),os[i]?=some o->gs[i]?=some F->Ny a P Q R I w l Fs fr o F (k+i)
 | [],_,_,_,i,o,F,h,_=>by simp at h
 | o :: os,[],_,_,i,o',F,_,h=>by simp at h
 | o :: os,F :: gs,k,h,0,o',F',h1,h2=>by simp at h1 h2;subst h1 h2;exact h.1
 | o :: os,F :: gs,k,h,i+1,o',F',h1,h2=>by
  have:=DM h.2 i o' F' (by simpa using h1) (by simpa using h2)
  rw[show k+1+i=k+(i+1)by omega]at this;exact this
def ww(l:List Oper):Bool:=(List.range l.length).all λi=>match l[i]? with
 | some o=>(waits o).all λj=>decide (j<i)
 | none=>true
theorem Na{l:List Oper}(h:ww l=true){i:Nat}{o:Oper}(ho:l[i]?=some o){j:Nat}(hj:j∈waits o):j<i:=by
 have hlt:=(List.getElem?_eq_some_iff.1 ho).1;unfold ww at h;rw[List.all_eq_true]at h;have:=h i (by simpa using hlt)
 rw[ho]at this;simpa using List.all_eq_true.1 this j hj
theorem ve{l:List Oper}(h:ww l=true){listed:Array Bool}(hr:Region.ready .any l.toArray listed=[])(hs:listed.size=l.length):∀n i,i<n->i<l.length->listed.getD i false=true:=by
 intro n
 induction n with
 | zero=>intro i hi;omega
 | succ n ih=>
  intro i hi hil
  by_cases hin:i<n
  ·exact ih i hin hil
  have Tb:i=n:=by omega
  subst Tb;cases hli:listed.getD i true with
  | true=>simpa[show i<listed.size by omega]using hli
  | false=>
   exfalso
   have:i∈Region.ready .any l.toArray listed:=by
    rw[mem_ready];refine⟨hli,l[i],by simp[hil],λe he hb=>?_⟩
    have hj:e.on∈waits l[i]:=by
     unfold waits;exact List.mem_map.2 ⟨e,List.mem_filter.2 ⟨by simpa using he,hb⟩,rfl⟩
    have hlt:=Na h (i:=i) (by simp[hil]) hj;exact ih e.on hlt (by omega)
   rw[hr]at this;cases this
theorem count_set{l:List Bool}:∀ {i:Nat},l[i]?=some false->(l.set i true).count true=l.count true+1:=by
 induction l with
 | nil=>intro i h;simp at h
 | cons b l ih=>
  intro i h
  match i,h with
  | 0,h=>simp at h;subst h;simp
  | i+1,h=>
   simp only[al,List.count_cons];rw[ih (by simpa using h)];omega
theorem GD{l:List Bool}(h:l.count true=l.length):∀i,i<l.length->l[i]?=some true:=by
 intro i hi;have:=List.count_eq_length.1 h l[i] (List.getElem_mem hi)
 simp[hi,<-this]
theorem CX{P:Program}{Q:Exit->Act->UY->Prop}{R:UY->UY->Prop}{I:(Nat->Bool)->UY->Prop}(ys:∀a,R a a)(hrt:∀a b c,R a b->R b c->R a c){w:UY}{a:Act}{l:List Oper}{Fs:List gY}(hlen:Fs.length=l.length)(hnd:(lA l).Nodup)(DA:ww l=true)
  {fr:(Nat->Value)->Act} (hfr:∀ρ,ch a l ρ 0=fr ρ) (hob:aj a P Q R I w l Fs fr l Fs 0)
  (hend:∀ρ L W,R w W->I L W->(∀i,i<l.length->L i=true)->(∀i,i<l.length->(Fs.getD i mW) (ρ i) W)->Q .normal (fr ρ) W) :
  ∀(fuel:Nat) (listed:Array Bool) (ρ:Nat->Value) (L:Nat->Bool) (W:UY),listed.size=l.length->(∀i,listed.getD i false=L i)->Down l L->Jn a l L ρ->R w W->I L W->(∀i,listed.getD i false=true->∀W',R W W'->(Fs.getD i mW) (ρ i) W') ->
   fuel+listed.toList.count true=l.length->wpAny P .any l.toArray Q fuel listed (ch a l ρ 0) W:=by
 have done:∀(listed:Array Bool) (ρ:Nat->Value) (L:Nat->Bool) (W:UY),listed.size=l.length->(∀i,listed.getD i false=L i)->R w W->I L W->(∀i,listed.getD i false=true->∀W',R W W'->(Fs.getD i mW) (ρ i) W')->Region.ready .any l.toArray listed=[]->Q .normal (ch a l ρ 0) W:=by
  intro listed ρ L W hs hL hW hI hF hr;rw[hfr];exact hend ρ L W hW hI (λi hi=>by rw[<-hL];exact ve DA hr hs (i+1) i (by omega) hi) (λi hi=>hF i (ve DA hr hs (i+1) i (by omega) hi) W (ys W))
 intro fuel
 induction fuel with
 | zero=>
  intro listed ρ L W hs hL hD hO hW hI hF hc
  have hr:Region.ready .any l.toArray listed=[]:=by
   cases gM:Region.ready .any l.toArray listed with
   | nil=>rfl
   | cons j js=>
    have hj:j∈Region.ready .any l.toArray listed:=by rw[gM];simp
    obtain⟨h0,o,ho,_⟩:=mem_ready.1 hj
    have hjl:j<l.length:=by
     have:=(Array.getElem?_eq_some_iff.1 ho).1
     simpa using this
    have:=GD (l:=listed.toList) (by simp only[Array.length_toList];omega) j (by simp;omega)
    have:listed.getD j true=true:=by simp[show j<listed.size by omega]at this |-;exact this
    rw[h0]at this;cases this
  exact⟨hr,done listed ρ L W hs hL hW hI hF hr⟩
 | succ fuel ih=>
  intro listed ρ L W hs hL hD hO hW hI hF hc;refine⟨λhr=>done listed ρ L W hs hL hW hI hF hr,λi hi=>?_⟩;obtain⟨h0,o,ho,hall⟩:=mem_ready.1 hi;have hol:l[i]?=some o:=by simpa using ho
  have hil:i<l.length:=(List.getElem?_eq_some_iff.1 hol).1;have QD:Fs[i]?=some (Fs[i]'(by omega)):=by simp[show i<Fs.length by omega]
  have Oq:=DM hob i o _ hol QD;rw[Nat.zero_add]at Oq
  have S0:L i=false:=by
   rw[<-hL];have hlt:i<listed.size:=by omega
   simp[hlt]at h0 |-;exact h0
  refine wpOp_step ho λK hK=>?_
  rw[hfr];refine Oq ρ L W hW hI S0 hD hO (Da λj hj=>?_) K (λv W' hW' hI' hF'=>?_)
  ·unfold waits at hj;obtain⟨e,he,rfl⟩:=List.mem_map.1 hj;obtain⟨LC,he2⟩:=List.mem_filter.1 he;exact hF e.on (hall e (by simpa using LC) he2) W (ys W)
  refine hK _ _ ?_;have hu:=FD l a ρ 0 i o v hnd hol;rw[Nat.zero_add,hfr ρ]at hu;rw[<-hu];refine ih _ _ (au L i) _ (by simpa using hs) (λj=>?_) ?_ ?_ (hrt _ _ _ hW hW') hI' (λj hj W'' N2=>?_) ?_
  ·unfold au
   by_cases sD:j=i
   ·subst sD;simp[show j<listed.size by omega]
   rw[if_neg sD,getD_set_ne false (Ne.symm sD)];exact hL j
  ·intro p o' q hp hq NX;unfold au at NX |-
   split
   ·rfl
   by_cases hpi:p=i
   ·subst hpi;rw[hol]at hp;simp at hp;subst hp;unfold waits at hq;obtain⟨e,he,rfl⟩:=List.mem_map.1 hq;obtain⟨LC,he2⟩:=List.mem_filter.1 he;rw[<-hL];exact hall e (by simpa using LC) he2
   rw[if_neg hpi]at NX;exact hD p o' q hp hq NX
  ·intro j o' t' ho' ht' G8;unfold au at G8
   by_cases sD:j=i
   ·rw[if_pos sD]at G8;cases G8
   rw[if_neg sD]at G8;rw[show pz ρ i v j=ρ j by unfold pz;rw[if_neg sD]];exact hO j o' t' ho' ht' G8
  ·by_cases sD:j=i
   ·subst sD;rw[show pz ρ j v j=v by unfold pz;rw[if_pos rfl],List.getD_eq_getElem?_getD,QD];exact hF' W'' N2
   rw[show pz ρ i v j=ρ j by unfold pz;rw[if_neg sD]];refine hF j ?_ W'' (hrt _ _ _ hW' N2);rw[getD_set_ne false (Ne.symm sD)]at hj;exact hj
  have:listed.toList[i]?=some false:=by
   have hlt:i<listed.size:=by omega
   simp[hlt]at h0 |-;exact h0
  rw[Array.toList_setIfInBounds,count_set this];omega
def wD(ρ:Nat->Value)(W:UY):List gY->Nat->Prop
 | [],_=>True
 | F :: Fs,k=>F (ρ k) W/\wD ρ W Fs (k+1)
theorem vr{ρ:Nat->Value}{W:UY}:∀ {Fs:List gY} {k:Nat},(∀i,i<Fs.length->(Fs.getD i mW) (ρ (k+i)) W)->wD ρ W Fs k
 | [],_,_=>trivial
 | F :: Fs,k,h=>⟨h 0 (by simp),vr λi hi=>by
   have:=h (i+1) (by simp;omega)
   rw[show k+(i+1)=k+1+i by omega]at this
   exact this⟩
theorem bz{P:Program}{Q:Exit->Act->UY->Prop}{id:Nat}{a:Act}{w:UY}{l:List Oper}(R:UY->UY->Prop)(I:(Nat->Bool)->UY->Prop)(Fs:List gY)(ys:∀a,R a a)(hrt:∀a b c,R a b->R b c->R a c)
  (hm:P.follows .mixedOrders=true) (hlen:Fs.length=l.length) (hnd:decide (lA l).Nodup=true) (DA:ww l=true)
  (fr:(Nat->Value)->Act) (hfr:∀ρ,ch a l ρ 0=fr ρ) (hI:I (λ_=>false) w.drew) (hob:aj a P Q R I w.drew l Fs fr l Fs 0)
  (hend:∀ρ L W,R w.drew W->I L W->(∀i,i<l.length->L i=true)->wD ρ W Fs 0->Q .normal (fr ρ) W):(Code.region id l.toArray true).wp P Q a w:=by
 refine wp_region_any hm ?_;have hnd':(lA l).Nodup:=by simpa using hnd
 obtain⟨ρ,hρ,hO⟩:∃ρ:Nat->Value,ch a l ρ 0=a/\Jn a l (λ_=>false) ρ:=by
  refine⟨λi=>match l[i]? with
   | some o=>match o.dst with
    | some t=>a.tmps.getD t undef
    | none=>undef
   | none=>undef,CJ l a 0 _ (λi o t h1 h2=>?_) hnd',λi o t h1 h2 _=>?_⟩
  ·simp only[Nat.zero_add,h1,h2]
  simp only[h1,h2]
 have hf:∀i,(Array.replicate l.length false).getD i false=false:=by
  intro i;rw[Array.getD_eq_getD_getElem?]
  by_cases hlt:i<l.length
  ·simp[hlt]
  simp[hlt]
 have h:=CX ys hrt hlen hnd' DA hfr hob (λρ L W h1 G7 SY h2=>hend ρ L W h1 G7 SY (vr λi hi=>by rw[Nat.zero_add];exact h2 i (by omega))) l.length (Array.replicate l.length false) ρ (λ_=>false) w.drew (by simp) hf
  (λp o q _ _ h=>by cases h) hO (ys _) hI (λi hi=>by rw[hf i]at hi;cases hi) (by simp[List.count_replicate])
 rw[hρ]at h;simpa using h
end
section
end
