/- Worlds that differ by new memory and in the blocks of a list. -/
import Derived.Test.YtcfhfdphoidaeaaGreatDoorTkD
set_option linter.unusedVariables false
set_option linter.unusedSimpArgs false
set_option maxHeartbeats 12800000
set_option maxRecDepth 20000
set_option linter.all false
namespace Go.Proofs.YtcfhfdphoidaeaaGreatDoor
open Go.RowKit
structure GS (S:List Nat) (a b:World):Prop where
 os:b.os=a.os
 tape:b.tape=a.tape
 output:b.output=a.output
 size:a.heap.size<=b.heap.size
 block:∀ k,k<a.heap.size->k ∉ S->b.heap[k]?=a.heap[k]?
theorem GS.refl(S:List Nat)(a:World):GS S a a:=⟨rfl,rfl,rfl,Nat.le_refl _,fun _ _ _=>rfl⟩
theorem GS.trans{S:List Nat}{a b c:World}(h:GS S a b)(k:GS S b c):GS S a c:=
 ⟨k.os.trans h.os,k.tape.trans h.tape,k.output.trans h.output,Nat.le_trans h.size k.size,fun n hn hne=>(k.block n (Nat.lt_of_lt_of_le hn h.size) hne).trans (h.block n hn hne)⟩
theorem GS.of_und{S:List Nat}{a b:World}(h:Und a b):GS S a b:=⟨h.below.os,h.below.tape,h.below.output,h.size,fun k hk _=>h.below.block k hk⟩
theorem GS.und{S:List Nat}{a b c:World}(h:GS S a b)(k:Und b c):GS S a c:=h.trans (.of_und k)
theorem GS.gb{S:List Nat}{a b c:World}{row:Option Nat}(h:GS S a b)(k:b.grownBy c row)(hr:∀ g,row=some g->g ∈ S∨a.heap.size<=g):GS S a c:=
 ⟨k.os.trans h.os,k.tape.trans h.tape,k.output.trans h.output,Nat.le_trans h.size k.size,fun n hn hne=>by
  rw[k.block n (Nat.lt_of_lt_of_le hn h.size) (fun e=>by rcases hr n e.symm with h1|h1;exact hne h1;omega),h.block n hn hne]⟩
theorem GS.to_und{S:List Nat}{a b:World}(h:GS S a b)(hs:∀ g ∈ S,a.heap.size<=g):Und a b:=
 Und.mk ⟨h.os,h.tape,h.output,h.size,fun k hk=>h.block k hk fun e=>by have:=hs k e;omega⟩
theorem GS.mono{S S':List Nat}{a b:World}(h:GS S a b)(hs:∀ g ∈ S,g ∈ S'∨a.heap.size<=g):GS S' a b:=
 ⟨h.os,h.tape,h.output,h.size,fun k hk hne=>h.block k hk fun e=>by rcases hs k e with h1|h1;exact hne h1;omega⟩
theorem GS.base{S:List Nat}{w0 a b:World}(h0:Und w0 a)(h:GS S a b)(hs:∀ g ∈ S,w0.heap.size<=g):Und w0 b:=
 ((GS.of_und (S:=S) h0).trans h).to_und hs
theorem GS.after{S:List Nat}{w0 a b:World}(h0:GS S w0 a){S':List Nat}(h:GS S' a b)(hs:∀ g ∈ S',g ∈ S∨w0.heap.size<=g):GS S w0 b:=
 ⟨h.os.trans h0.os,h.tape.trans h0.tape,h.output.trans h0.output,Nat.le_trans h0.size h.size,fun k hk hne=>by
  rw[h.block k (Nat.lt_of_lt_of_le hk h0.size) (fun e=>by rcases hs k e with h1|h1;exact hne h1;omega),h0.block k hk hne]⟩
theorem GS.cell{S:List Nat}{a b:World}(h:GS S a b){p:Addr}(hp:p.block<a.heap.size)(hne:p.block ∉ S):b.cell? p=a.cell? p:=World.cell?_of_block (h.block _ hp hne)
theorem GS.own{S:List Nat}{a b:World}{B e size n:Nat}{v:Value}{xs:List Value}(u:GS S a b)(h:a.ownsRow B e size v n xs)(hb:∀ g ∈ S,∀ cs fr,a.heap[g]? ≠ some (.cells cs e fr)):b.ownsRow B e size v n xs:=by
 refine⟨h.1,?_⟩;rcases h.2 with hv|⟨g,cap,cur,hv,h1,h2,h3⟩
 ·exact .inl hv
 ·exact .inr ⟨g,cap,cur,hv,h1,(u.block g (Array.getElem?_eq_some_iff.1 h2).1 fun e=>hb g e _ _ h2).trans h2,h3⟩
end Go.Proofs.YtcfhfdphoidaeaaGreatDoor
set_option linter.all false
namespace Go.Proofs.YtcfhfdphoidaeaaGreatDoor
open Go.RowKit
def IsMap(w:World)(g:Nat):Prop:=∃ x y,w.heap[g]?=some (.map x y)
theorem IsMap.lt{w:World}{g:Nat}(h:IsMap w g):g<w.heap.size:=by
 obtain⟨x,y,h⟩:=h;exact(Array.getElem?_eq_some_iff.1 h).1
theorem IsMap.und{w w':World}{g:Nat}(h:IsMap w g)(u:Und w w'):IsMap w' g:=by
 obtain⟨x,y,h1⟩:=id h;exact⟨x,y,(u.below.block g h.lt).trans h1⟩
theorem GS.cellm{S:List Nat}{a b:World}(u:GS S a b)(hm:∀ g ∈ S,IsMap a g){p:Addr}{v:Value}(h:a.cell? p=some v):b.cell? p=some v:=by
 have hlt:=zbL a p h;refine(u.cell hlt fun e=>?_).trans h;obtain⟨x,y,h1⟩:=hm _ e;unfold World.cell? at h;rw[h1] at h;cases h
theorem GS.ownm{S:List Nat}{a b:World}{B e size n:Nat}{v:Value}{xs:List Value}(u:GS S a b)(hm:∀ g ∈ S,IsMap a g)(h:a.ownsRow B e size v n xs):b.ownsRow B e size v n xs:=
 u.own h fun g hg cs fr e=>by
  obtain⟨x,y,h1⟩:=hm g hg;rw[h1] at e;cases e
namespace Mg
section
variable {κ:Type} [DecidableEq κ] {kv:κ->Value} {kt:TypeId} {good:κ->Prop}
theorem At.isMap{w:World}{mb:Nat}{l:List (κ × Value)}(h:At kv w mb l):IsMap w mb:=⟨_,_,h⟩
theorem At.gs{S:List Nat}{a b:World}{mb:Nat}{l:List (κ × Value)}(h:At kv a mb l)(u:GS S a b)(hn:mb ∉ S):At kv b mb l:=(u.block mb h.lt hn).trans h
theorem put_gs(w:World)(mb:Nat)(l:List (κ × Value)):GS [mb] w (put kv w mb l):=
 ⟨rfl,rfl,rfl,by rw[put_size];exact Nat.le_refl _,fun k _ hne=>put_ne w l fun e=>hne (by rw[e];exact List.mem_cons_self ..)⟩
def RQ(kv:κ->Value)(mb:Nat)(k:κ)(a b:World):Prop:=GS [mb] a b/\((∃ l,At kv a mb l/\(look k l).isSome=true)->∃ l,At kv b mb l/\(look k l).isSome=true)
theorem RQ.refl{mb:Nat}{k:κ}(a:World):RQ kv mb k a a:=⟨GS.refl _ a,fun h=>h⟩
theorem RQ.trans{mb:Nat}{k:κ}(a b c:World)(h:RQ kv mb k a b)(u:RQ kv mb k b c):RQ kv mb k a c:=⟨h.1.trans u.1,fun x=>u.2 (h.2 x)⟩
theorem RQ.und{mb:Nat}{k:κ}{a b:World}(h:Und a b):RQ kv mb k a b:=⟨.of_und h,fun ⟨l,h1,h2⟩=>⟨l,h1.und h,h2⟩⟩
def Pst(kv:κ->Value)(base:World)(mb:Nat)(k:κ)(E:List (κ × Value))(T:TypeId)(xs:List Value)(e s:Nat)(L:Nat->Bool)(W:World):Prop:=
 GS [mb] base W/\if L s=true then ∃ v,At kv W mb (E++[(k,v)])/\W.ownsRow base.heap.size T 2 v 1 xs else if L e=true then At kv W mb (E++[(k,.slice none 0 0)]) else At kv W mb E
section
variable {base:World} {mb:Nat} {k:κ} {E:List (κ × Value)} {T:TypeId} {xs:List Value} {e s:Nat} {L:Nat->Bool} {W W':World}
theorem Pst.und(h:Pst kv base mb k E T xs e s L W)(u:Und W W'){i:Nat}(h1:i ≠ e)(h2:i ≠ s):Pst kv base mb k E T xs e s (updB L i) W':=by
 obtain⟨hg,hi⟩:=h;refine⟨hg.und u,?_⟩;unfold updB;rw[if_neg (Ne.symm h1),if_neg (Ne.symm h2)]
 split at hi
 ·rename_i hl
  obtain⟨v,h3,h4⟩:=hi;rw[if_pos hl];exact⟨v,h3.und u,own_und u h4⟩
 ·rename_i hl
  rw[if_neg hl]
  split at hi
  ·rename_i hl2
   rw[if_pos hl2];exact hi.und u
  ·rename_i hl2
   rw[if_neg hl2];exact hi.und u
theorem Pst.isMap(h:Pst kv base mb k E T xs e s L W):IsMap W mb:=by
 obtain⟨_,hi⟩:=h
 split at hi
 ·obtain⟨v,h3,_⟩:=hi;exact h3.isMap
 ·split at hi
  ·exact hi.isMap
  ·exact hi.isMap
theorem Pst.cell(h:Pst kv base mb k E T xs e s L W){b o:Nat}(hb:b<base.heap.size)(hne:b ≠ mb):W.cell? ⟨b,o,none⟩=base.cell? ⟨b,o,none⟩:=h.1.cell (p:=⟨b,o,none⟩) hb (by simpa using hne)
theorem Pst.start(h:At kv base mb E)(hL:∀ i,L i=false):Pst kv base mb k E T xs e s L base:=by
 refine⟨GS.refl _ _,?_⟩;rw[if_neg (by simp[hL]),if_neg (by simp[hL])];exact h
theorem new_at{l:List (κ × Value)}{z u:Value}{j:Nat}(hn:look k l=none)(h:(l++[(k,z)])[j]?=some (k,u)):j=l.length:=by
 rcases Nat.lt_trichotomy j l.length with h1|h1|h1
 ·rw[List.getElem?_append_left h1] at h
  exact absurd (List.mem_map.2 ⟨_,List.mem_of_getElem? h,rfl⟩) (look_none.1 hn)
 ·exact h1
 ·rw[List.getElem?_append_right (by omega),List.getElem?_eq_none (by simp;omega)] at h;cases h
variable {MT et:TypeId} (V:KV kt kv good) (hm:Tryz.prog.underlying MT=some (.map kt et)) (hz:∀ W,(zeroValue et).run Tryz.prog W=.ok (.slice none 0 0) W)
include V hm
include hz in
theorem Pst.opens(h:Pst kv base mb k E T xs e s L W)(he:L e=false)(hs:L s=false)(hne:e ≠ s)(hn:look k E=none)(hE:Ok good E)(hk:good k) :
  (Instr.mapEntry MT (.map (some mb)) (kv k)).run Tryz.prog W=.ok (.tuple #[.slice none 0 0,.int .i64 (E.length:Int)]) (put kv W mb (E++[(k,.slice none 0 0)]))/\Pst kv base mb k E T xs e s (updB L e) (put kv W mb (E++[(k,.slice none 0 0)])) /\
   RQ kv mb k W (put kv W mb (E++[(k,.slice none 0 0)]))/\∃ l,At kv (put kv W mb (E++[(k,.slice none 0 0)])) mb l/\(look k l).isSome=true:=by
 obtain⟨hg,hi⟩:=h;rw[he,hs] at hi;simp only[Bool.false_eq_true,if_false] at hi;obtain⟨j,⟨u,hj⟩,hrun⟩:=run_open V hm (hz W) hi hE hk;have hens:ens k (.slice none 0 0) E=E++[(k,.slice none 0 0)]:=by unfold ens;rw[hn];simp
 rw[hens] at hj hrun;rw[new_at hn hj,hn] at hrun;have hat:=put_at hi (E++[(k,Value.slice none 0 0)])
 have hlk:(look k (E++[(k,Value.slice none 0 0)])).isSome=true:=by
  rw[<- hens,look_ens];rfl
 refine⟨hrun,⟨hg.trans (put_gs _ _ _),?_⟩,⟨put_gs _ _ _,fun _=>⟨_,hat,hlk⟩⟩,_,hat,hlk⟩;unfold updB;rw[if_neg (Ne.symm hne),hs,if_pos rfl];simp only[Bool.false_eq_true,if_false,if_true];exact hat
theorem Pst.stores(h:Pst kv base mb k E T xs e s L W)(hs:L s=false)(ho:∃ l,At kv W mb l/\(look k l).isSome=true)(hn:look k E=none)(hE:Ok good E)(hk:good k){v:Value}(hv:W.ownsRow base.heap.size T 2 v 1 xs) :
  (Instr.entryStore MT (.map (some mb)) (.int .i64 (E.length:Int)) v).run Tryz.prog W=.ok () (put kv W mb (E++[(k,v)]))/\Pst kv base mb k E T xs e s (updB L s) (put kv W mb (E++[(k,v)]))/\RQ kv mb k W (put kv W mb (E++[(k,v)])):=by
 obtain⟨hg,hi⟩:=h;rw[hs] at hi;simp only[Bool.false_eq_true,if_false] at hi
 have hone:At kv W mb (E++[(k,.slice none 0 0)]):=by
  split at hi
  ·exact hi
  ·obtain⟨l,h1,h2⟩:=ho
   rw[At.one V.inj hi h1] at hn;rw[hn] at h2;cases h2
 have hens:ens k (.slice none 0 0) E=E++[(k,.slice none 0 0)]:=by unfold ens;rw[hn];simp
 have hok:=hE.push hk hn (.slice none 0 0);have hrun:=run_store (T:=MT) V hm v hone hok.2 (k:=k) (j:=E.length) (u:=.slice none 0 0) (by simp);rw[<- hens,upd_ens,upd_new v hn] at hrun;have hat:=put_at hone (E++[(k,v)]);have hlk:(look k (E++[(k,v)])).isSome=true:=by rw[<- upd_new v hn,look_upd,if_pos rfl];rfl
 refine⟨hrun,⟨hg.trans (put_gs _ _ _),?_⟩,⟨put_gs _ _ _,fun _=>⟨_,hat,hlk⟩⟩⟩;unfold updB;rw[if_pos rfl];simp only[if_true];exact⟨v,hat,(put_gs W mb _).ownm (fun g hg=>by rw[List.mem_singleton.1 hg];exact hone.isMap) hv⟩
end
def PostsAt(kv:κ->Value)(good:κ->Prop)(w:World)(B mb:Nat)(K:κ->Prop)(f:κ->Nat):Prop:=
 ∃ E:List (κ × Value),At kv w mb E/\Ok good E/\(∀ k,k ∈ E.map (·.1) ↔ K k)/\∀ p ∈ E,w.ownsRow B 178 2 p.2 1 [.int .i64 0,.int .i64 (f p.1:Int)]
theorem PostsAt.gs{w w':World}{B mb:Nat}{K:κ->Prop}{f:κ->Nat}{S:List Nat}(h:PostsAt kv good w B mb K f)(u:GS S w w')(hn:mb ∉ S)(hm:∀ g ∈ S,IsMap w g):PostsAt kv good w' B mb K f:=by
 obtain⟨E,h1,h2,h3,h4⟩:=h;exact⟨E,h1.gs u hn,h2,h3,fun p hp=>u.ownm hm (h4 p hp)⟩
theorem PostsAt.und{w w':World}{B mb:Nat}{K:κ->Prop}{f:κ->Nat}(h:PostsAt kv good w B mb K f)(u:Und w w'):PostsAt kv good w' B mb K f:=
 h.gs (S:=[]) (.of_und u) (by simp) (by simp)
theorem PostsAt.lt{w:World}{B mb:Nat}{K:κ->Prop}{f:κ->Nat}(h:PostsAt kv good w B mb K f):mb<w.heap.size:=by
 obtain⟨E,h1,_⟩:=h;exact h1.lt
theorem PostsAt.push{w w':World}{B mb:Nat}{K K':κ->Prop}{f:κ->Nat}{E:List (κ × Value)}{k:κ}{v:Value}(h2:Ok good E)(h3:∀ k,k ∈ E.map (·.1) ↔ K k)(h4:∀ p ∈ E,w.ownsRow B 178 2 p.2 1 [.int .i64 0,.int .i64 (f p.1:Int)])
  (hmp:IsMap w mb) (u:GS [mb] w w') (ha:At kv w' mb (E++[(k,v)])) (hv:w'.ownsRow B 178 2 v 1 [.int .i64 0,.int .i64 (f k:Int)]) (hk:good k) (hn:look k E=none) (hK:∀ x,K' x ↔ K x∨x=k):PostsAt kv good w' B mb K' f:=by
 refine⟨_,ha,h2.push hk hn v,fun x=>?_,fun p hp=>?_⟩
 ·rw[List.map_append,List.mem_append,h3,hK];simp
 ·rcases List.mem_append.1 hp with hp|hp
  ·exact u.ownm (fun g hg=>by rw[List.mem_singleton.1 hg];exact hmp) (h4 p hp)
  ·rw[List.mem_singleton.1 hp];exact hv
end
end Mg
end Go.Proofs.YtcfhfdphoidaeaaGreatDoor
set_option linter.all false
namespace Go.Proofs.YtcfhfdphoidaeaaGreatDoor
open Go.RowKit
theorem news2{W:World}{b:Nat}{x y:Value}(h0:W.cell? ⟨b,0,none⟩=some x)(h1:W.cell? ⟨b,1,none⟩=some y):∀ (j:Nat) (u:Value),[x,y][j]?=some u->W.cell? ((⟨b,0,none⟩:Addr).add j)=some u:=by
 intro j u hu;have hadd:(⟨b,0,none⟩:Addr).add j=⟨b,j,none⟩:=by unfold Addr.add;split <;> simp_all
 rw[hadd]
 match j,hu with
 | 0,hu=>simp at hu;rw[h0,hu]
 | 1,hu=>simp at hu;rw[h1,hu]
 | j+2,hu=>simp at hu
theorem two_one(x y:Int):∀ u ∈ [Value.int .i64 x,Value.int .i64 y],u.oneCell'=true:=by
 intro u hu;simp at hu;rcases hu with rfl|rfl <;> rfl
theorem info_post:(Tryz.prog.info? 178).map (fun i=>(i.zero,i.size,i.bytes))=some (some (.agg #[.int .i64 0,.int .i64 0]),2,16):=by kernel_rfl
theorem GramsAt.gs{S:List Nat}{a b:World}{A:Option Addr}{G:List Gr}(h:GramsAt a A G)(u:GS S a b)(hm:∀ g ∈ S,IsMap a g):GramsAt b A G:=by
 intro h0;obtain⟨b,off,rfl,hb,hc⟩:=h h0;refine⟨b,off,rfl,Nat.lt_of_lt_of_le hb u.size,fun j hj=>?_⟩;obtain⟨c0,c1,c2⟩:=hc j hj;exact⟨u.cellm hm c0,u.cellm hm c1,u.cellm hm c2⟩
theorem Mg.Rng.gs2{κ:Type}{kv:κ->Value}{a b c:World}{r mb m:Nat}{l rest:List (κ × Value)}(h:Mg.Rng kv a r mb l rest)(u:Und a b)(g:GS [m] b c)(h1:mb ≠ m)(h2:r ≠ m):Mg.Rng kv c r mb l rest:=by
 obtain⟨k1,seen,c0,k2,k3⟩:=h.und u;exact⟨(g.block mb k1.lt (by simpa using h1)).trans k1,seen,c0,(g.block r (lt_of_heap k2) (by simpa using h2)).trans k2,k3⟩
theorem gram_good(l:List St.It)(ht:tot l<=1000000000):∀ p ∈ St.prsF [] (St.wordN l),Mg.prGood p:=by
 have hw:∀ x ∈ St.wordN l,x.length<=1000000000000:=fun x hx=>by
  unfold St.wordN at hx;obtain⟨t,htm,rfl⟩:=List.mem_map.1 hx;have h1:=St.tkey_len t;have h2:=St.tot_mem (List.mem_filter.1 htm).1;omega
 have:∀ (r:List St.Wd) (p:St.Wd),p.length<=1000000000000->(∀ x ∈ r,x.length<=1000000000000)->∀ q ∈ St.prsF p r,Mg.prGood q:=by
  intro r
  induction r with
  | nil=>intro p hp _ q hq;rw[List.mem_singleton.1 hq];exact⟨hp,by simp⟩
  | cons x r ih=>
   intro p hp hr q hq;rcases List.mem_cons.1 hq with rfl|hq
   ·exact⟨hp,hr x (List.mem_cons_self ..)⟩
   ·exact ih x (hr x (List.mem_cons_self ..)) (fun y hy=>hr y (List.mem_cons_of_mem _ hy)) q hq
 exact this _ [] (by simp) hw
theorem Mg.PostsAt.gbr{κ κ':Type}[DecidableEq κ]{kv:κ->Value}{good:κ->Prop}{kv':κ'->Value}{w w':World}{B mb r m':Nat}{K:κ->Prop}{f:κ->Nat}{l rest:List (κ' × Value)}(h:Mg.PostsAt kv good w B mb K f)(hr:Mg.Rng kv' w r m' l rest)(u:w.grownBy w' (some r))(hne:mb ≠ r):Mg.PostsAt kv good w' B mb K f:=by
 obtain⟨E,h1,h2,h3,h4⟩:=h;refine⟨E,(u.block mb h1.lt (by simpa using hne)).trans h1,h2,h3,fun p hp=>(h4 p hp).kept u ?_⟩;obtain⟨_,seen,c0,k2,_⟩:=hr;rcases(h4 p hp).2 with ⟨hv,_⟩|⟨g,cap,cur,hv,_,hg,_⟩
 ·rw[hv];exact .inl rfl
 ·rw[hv]
  refine .inr fun e=>?_
  simp only[Value.ownBlock,Option.some.injEq] at e;subst e;rw[k2] at hg;cases hg
def IxAt(w:World)(ib m0 m1 m2:Nat):Prop:=w.heap[ib]?=some (.cells #[.map (some m0),.map (some m1),.map (some m2)] 154 (0,0))/\m0 ≠ m1/\m0 ≠ m2/\m1 ≠ m2
def IxOne(w:World)(B ib m0 m1 m2:Nat)(l:List St.It):Prop:=
 IxAt w ib m0 m1 m2/\(∃ (A:Option Addr) (n c cm:Nat),Mg.At Mg.numV w m0 [((0:Nat),.agg (svC A n c cm ((St.wordN l).length+1) (St.nontagW (St.clsL l)) (St.tagN (St.clsL l)) (St.totalT l)))]) /\
  Mg.PostsAt Mg.prV Mg.prGood w B m1 (fun k=>k ∈ St.prsF [] (St.wordN l)) ((St.prsF [] (St.wordN l)).count ·)/\Mg.PostsAt Mg.tokV Mg.tokGood w B m2 (fun k=>k ∈ St.clsL l) ((St.clsL l).count ·)
theorem IxOne.und{w w':World}{B ib m0 m1 m2:Nat}{l:List St.It}(h:IxOne w B ib m0 m1 m2 l)(u:Und w w'):IxOne w' B ib m0 m1 m2 l:=by
 obtain⟨⟨h1,h2⟩,⟨A,n,c,cm,h3⟩,h4,h5⟩:=h;exact⟨⟨(u.below.block ib (lt_of_heap h1)).trans h1,h2⟩,⟨A,n,c,cm,h3.und u⟩,h4.und u,h5.und u⟩
def Ad1(W6:World)(m1 B:Nat)(G:List Gr)(f:St.Wd × St.Wd->Nat)(s44:Value)(wr:World):Prop:=
 ∃ i:Nat,i<=G.length/\s44=.int .i64 i/\Mg.PostsAt Mg.prV Mg.prGood wr B m1 (fun k=>k ∈ (G.take i).map (·.1)) f/\GS [m1] W6 wr
def Ad2(W7:World)(m2 cm B:Nat)(E:List (St.Cl × Value))(r:Nat)(f:St.Cl->Nat)(wr:World):Prop:=
 ∃ O rest,Mg.Rng Mg.tokV wr r cm E rest/\(O++rest).Perm E/\Mg.PostsAt Mg.tokV Mg.tokGood wr B m2 (fun k=>k ∈ O.map (·.1)) f/\r<wr.heap.size/\GS [m2] W7 wr
theorem add_any(ib m0 m1 m2:Nat)(A:Option Addr)(n c:Nat)(l:List St.It)(w:World)(hn:l.length=n)(h:ItemsAt w A l)(hl:n<=1000000)(ht:tot l<=1000000000)(hx:IxAt w ib m0 m1 m2)
  (h0:Mg.At Mg.numV w m0 ([]:List (Nat × Value))) (h1:Mg.At Mg.prV w m1 ([]:List ((St.Wd × St.Wd) × Value))) (h2:Mg.At Mg.tokV w m2 ([]:List (St.Cl × Value))) :
  Calls Tryz.prog 34 #[.pointer (some ⟨ib,0,none⟩),.int .i64 0,.slice A n c] w fun e w'=>e=.returned (.bool true)/\IxOne w' w.heap.size ib m0 m1 m2 l/\GS [m0,m1,m2] w w':=by
 obtain⟨hib,n01,n02,n12⟩:=hx;obtain⟨i0,hi0,hz0,hz1,hz2⟩:=info_parts info_post;have HN:=hid hn;have HTOT:=hid ht;have HM01:=hid n01.symm;have HM02:=hid n02.symm;have HM12:=hid n12.symm;have HW0:=hid h0;have HW1:=hid h1;have HW2:=hid h2;have HWI:=hid hib;have y0:=zcH hib 0;simp only[List.getElem?_toArray,List.getElem?_cons_zero,List.getElem?_cons_succ] at y0;haveI:LtW ib w:=LtW.of (lt_of_heap hib)
 have hr0:(Instr.lookup 150 (.map (some m0)) (.int .i64 0) true).run Tryz.prog w=.ok (.tuple #[.agg #[.slice none 0 0,.map none,.int .i64 0,.int .i64 0,.int .i64 0,.int .i64 0],.bool false]) w:=
  Mg.run_getno Mg.num_KV Tryz.underlying150 true (by go_simp) h0 (Mg.Ok.nil Mg.numGood) (show Mg.numGood 0 from by unfold Mg.numGood;omega) rfl
 have hlen:(Builtin.len_ #[150] 3 #[.map (some m0)]).run Tryz.prog (w.alloc (.cells #[.slice none 0 0,.map none,.int .i64 0,.int .i64 0,.int .i64 0,.int .i64 0] 166))=.ok (.int .i64 0) (w.alloc (.cells #[.slice none 0 0,.map none,.int .i64 0,.int .i64 0,.int .i64 0,.int .i64 0] 166)):=
  run_len_map _ 150 3 m0 _ _ (by kernel_rfl) ((@heap_alloc_old w _ _ h0.lt).trans h0)
 have HSUR:=hid (fun W (u:Und w W)=>survey_any A n c l W hn (h.und u) hl ht);clear h hib h0 h1 h2 n01 n02 n12 ht hn;go_enter Tryz.func34,Tryz.ntmps34;go_wp2_with fail;refine(HSUR.out _ (by apply_rules[uUe,uUa,uUb,uUc,uUd])).mono ?_;rintro e w5 ⟨v5,rfl,⟨A5,c5,G,cm,rfl,hga,hpm,hcm,hat5⟩,hu5⟩;obtain⟨pn,hpn⟩:∃ pn,(St.wordN l).length+1=pn:=⟨_,rfl⟩;obtain⟨wt,hwt⟩:∃ wt,St.nontagW (St.clsL l)=wt:=⟨_,rfl⟩;obtain⟨tg,htg⟩:∃ tg,St.tagN (St.clsL l)=tg:=⟨_,rfl⟩;obtain⟨tot,htot⟩:∃ tot,St.totalT l=tot:=⟨_,rfl⟩;rw[hpn,hwt,htg,htot];have HQS:=hid (And.intro hpn (And.intro hwt (And.intro htg htot)));clear hpn hwt htg htot;have hlow:w.heap.size<=cm:=Nat.le_trans (by simp) hcm;have HHL:=hid hlow;have HU5a:=hid (((Und.refl w).alloc (.cells #[.slice none 0 0,.map none,.int .i64 0,.int .i64 0,.int .i64 0,.int .i64 0] 166)).trans hu5);have HGP:=hid hpm;have HGA0:=hid hga;have HATC0:=hid hat5;clear hga hpm hcm hat5 hu5 hr0 hlen;obtain⟨sb,hsb⟩:∃ sb,w5.heap.size=sb:=⟨_,rfl⟩;unfold svC;go_wp2_with fail
 try rw[hsb]
 refine gen_region (fun W=>Und w W/\W.heap[sb]?=some (.cells (svC A5 G.length c5 cm pn wt tg tot) 166 (0,0))/\GramsAt W A5 G/\Mg.At Mg.tokV W cm (Mg.cl (St.onceL (St.clsL l)) (fun c=>(((St.clsL l).count c:Nat):Int)))) ⟨HU5a.out.trans (by apply_rules[uUe,uUa,uUb,uUc,uUd]),by subst hsb;exact heap_alloc_new w5 _,HGA0.out.und (by apply_rules[uUe,uUa,uUb,uUc,uUd]),HATC0.out.und (by apply_rules[uUe,uUa,uUb,uUc,uUd])⟩ (fun W5 h5=>?_);obtain⟨hu5,hs5,hg5,hc5⟩:=h5;have HU5:=hid hu5;have HSB:=hid hs5;have HGA:=hid hg5;have HATC:=hid hc5;have HIB:=hid ((hu5.below.block ib (lt_of_heap HWI.out)).trans HWI.out);have HAT0:=hid (HW0.out.und hu5);have HAT1:=hid (HW1.out.und hu5);have HAT2:=hid (HW2.out.und hu5);have HsbB:=hid (lt_of_heap hs5);have HibB:=hid (lt_of_heap HIB.out);have hm0:=HW0.out.lt;have hm1:=HW1.out.lt;have hm2:=HW2.out.lt;have hibw:=lt_of_heap HWI.out;have hsbw:w.heap.size<=sb:=by rw[<- hsb];exact HU5a.out.size
 have HsbM:=hid (show sb ≠ m0 from by omega);have HsbM1:=hid (show sb ≠ m1 from by omega);have HCM0:=hid (show cm ≠ m0 from by omega);have HCM1:=hid (show cm ≠ m1 from by omega);have HCM2:=hid (show cm ≠ m2 from by omega)
 have hnem:∀ g,IsMap w g->ib ≠ g:=fun g hg e=>by
  obtain⟨x,y,h1⟩:=hg;rw[<- e,HWI.out] at h1;cases h1
 have HibM:=hid (hnem m0 HW0.out.isMap);have HibM1:=hid (hnem m1 HW1.out.isMap);have HibM2:=hid (hnem m2 HW2.out.isMap)
 have HGN:=hid (show (G.map (·.1)).Nodup from by
  have h1:=(HGP.out.map (fun g:Gr=>g.1)).nodup_iff.2;rw[List.map_map] at h1;have e:((fun g:Gr=>g.1) ∘ fun p=>(p,(St.prsF [] (St.wordN l)).count p))=fun p=>p:=rfl
  rw[e,List.map_id'] at h1
  exact h1 (St.once_both _).1)
 have HGM:=hid (show ∀ k,k ∈ G.map (·.1) ↔ k ∈ St.prsF [] (St.wordN l) from fun k=>by
  have h1:=(HGP.out.map (fun g:Gr=>g.1)).mem_iff (a:=k);rw[List.map_map] at h1;have e:((fun g:Gr=>g.1) ∘ fun p=>(p,(St.prsF [] (St.wordN l)).count p))=fun p=>p:=rfl
  rw[e,List.map_id'] at h1
  exact h1.trans ((St.once_both _).2 k))
 have HGF:=hid (show ∀ g ∈ G,(St.prsF [] (St.wordN l)).count g.1=g.2/\Mg.prGood g.1/\g.2<=1000001/\True from fun g hg=>by
  have h1:=HGP.out.mem_iff.1 hg;obtain⟨p,hp,rfl⟩:=List.mem_map.1 h1;have hpp:=(St.once_both _).2 p |>.1 hp
  refine⟨rfl,gram_good l HTOT.out p hpp,?_,trivial⟩;have h2:(St.prsF [] (St.wordN l)).count p<=(St.prsF [] (St.wordN l)).length:=List.count_le_length;rw[St.prs_len] at h2;have h3:=wordN_len l;have h4:=HN.out
  show List.count p _<=_
  omega)
 have hgl:G.length<=n+1:=by
  have h1:=lenG_perm HGP.out;have h2:=wordN_len l;have h3:=HN.out;omega
 have x0:=zcH HIB.out 0;obtain⟨s0,s1,s2,s3,s4,s5⟩:=cells6 hs5;simp only[List.getElem?_toArray,List.getElem?_cons_zero,List.getElem?_cons_succ] at x0;clear hu5 hs5 hg5 hc5 hsb hm0 hm1 hm2 hibw hsbw hnem hlow y0;obtain⟨B,hB⟩:∃ B,w.heap.size=B:=⟨_,rfl⟩;have HBB:=hid hB;clear hB;refine wp_region_facts (fun _ _=>True) (fun L W=>if L 6=true then ∃ W0,Und W5 W0/\W=Mg.put Mg.numV W0 m0 [((0:Nat),.agg (svC A5 G.length c5 cm pn wt tg tot))] else Und W5 W) [fun v _=>v=.pointer (some ⟨ib,0,none⟩),fun v _=>v=.pointer (some ⟨ib,0,none⟩),fun v _=>v=.pointer (some ⟨ib,0,none⟩),fun v _=>v=.map (some m0),fun v _=>v=.int .i64 0,fun v _=>v=.agg (svC A5 G.length c5 cm pn wt tg tot),noFact] (fun _=>trivial) (fun _ _ _ _ _=>trivial) (by kernel_rfl) (by rfl) (by kernel_rfl) (by kernel_rfl) ?fr5 ?hfr ?hI ?hob ?hend
 case hfr=>
  intro ρ;simp only[putAll,Act.put,zsA,zsB,zsC,Nat.zero_add,Nat.reduceAdd];exact rfl
 case hI=>exact(by apply_rules[uUe,uUa,uUb,uUc,uUd])
 case hob=>
  refine ObsF.cons (fun ρ L W hR hI hL hD hO hF K hK=>?_) ?_
  ·skip
   clear hF hD hO;simp only[Act.put,zsA,zsB,zsC] at hK ⊢;go_simp;refine hK _ _ trivial (by simpa [updB] using hI) (fun W2 h2=>?_);rfl
  refine ObsF.cons (fun ρ L W hR hI hL hD hO hF K hK=>?_) ?_
  ·skip
   have f0:=allF_get hF (j:=0) (by decide);clear hF hD hO;simp only[Act.put,zsA,zsB,zsC] at hK ⊢;have e0:ρ 0=.pointer (some ⟨ib,0,none⟩):=f0;rw[e0] at hK ⊢;go_simp;refine hK _ _ trivial (by simpa [updB] using hI) (fun W2 h2=>?_);rfl
  refine ObsF.cons (fun ρ L W hR hI hL hD hO hF K hK=>?_) ?_
  ·skip
   have f1:=allF_get hF (j:=1) (by decide);clear hF hD hO;simp only[Act.put,zsA,zsB,zsC] at hK ⊢;have e1:ρ 1=.pointer (some ⟨ib,0,none⟩):=f1;rw[e1] at hK ⊢;go_simp;refine hK _ _ trivial (by simpa [updB] using hI) (fun W2 h2=>?_);rfl
  refine ObsF.cons (fun ρ L W hR hI hL hD hO hF K hK=>?_) ?_
  ·skip
   have f2:=allF_get hF (j:=2) (by decide);have hp0:L 6=false:=hD.not (p:=6) rfl (by decide) hL;have hI5:Und W5 W:=by simpa [hp0] using hI
   clear hF hD hO;simp only[Act.put,zsA,zsB,zsC] at hK ⊢;have e2:ρ 2=.pointer (some ⟨ib,0,none⟩):=f2;rw[e2] at hK ⊢;have y0:=(hI5.cell (p:=⟨ib,0,none⟩) HibB.out).trans x0;haveI:LtW ib W:=LtW.of (Nat.lt_of_lt_of_le HibB.out hI5.size);go_simp;refine hK _ _ trivial (by simpa [updB] using hI) (fun W2 h2=>?_);rfl
  refine ObsF.cons (fun ρ L W hR hI hL hD hO hF K hK=>?_) ?_
  ·skip
   clear hF hD hO;simp only[Act.put,zsA,zsB,zsC] at hK ⊢;go_simp;refine hK _ _ trivial (by simpa [updB] using hI) (fun W2 h2=>?_);rfl
  refine ObsF.cons (fun ρ L W hR hI hL hD hO hF K hK=>?_) ?_
  ·skip
   have hp0:L 6=false:=hD.not (p:=6) rfl (by decide) hL;have hI5:Und W5 W:=by simpa [hp0] using hI
   clear hF hD hO;simp only[Act.put,zsA,zsB,zsC] at hK ⊢;have y0:=(hI5.cell (p:=⟨sb,0,none⟩) HsbB.out).trans s0;have y1:=(hI5.cell (p:=⟨sb,1,none⟩) HsbB.out).trans s1;have y2:=(hI5.cell (p:=⟨sb,2,none⟩) HsbB.out).trans s2;have y3:=(hI5.cell (p:=⟨sb,3,none⟩) HsbB.out).trans s3;have y4:=(hI5.cell (p:=⟨sb,4,none⟩) HsbB.out).trans s4;have y5:=(hI5.cell (p:=⟨sb,5,none⟩) HsbB.out).trans s5;haveI:LtW sb W:=LtW.of (Nat.lt_of_lt_of_le HsbB.out hI5.size);go_simp;refine hK _ _ trivial (by simpa [updB] using hI) (fun W2 h2=>?_);rfl
  refine ObsF.cons (fun ρ L W hR hI hL hD hO hF K hK=>?_) ?_
  ·skip
   have f3:=allF_get hF (j:=3) (by decide);have f4:=allF_get hF (j:=4) (by decide);have f5:=allF_get hF (j:=5) (by decide);have hI5:Und W5 W:=by simpa [hL] using hI
   clear hF hD hO;simp only[Act.put,zsA,zsB,zsC] at hK ⊢;have e3:ρ 3=.map (some m0):=f3;have e4:ρ 4=.int .i64 0:=f4;have e5:ρ 5=.agg (svC A5 G.length c5 cm pn wt tg tot):=f5;rw[e3,e4,e5] at hK ⊢;have hr:=Mg.run_put Mg.num_KV Tryz.underlying150 (.agg (svC A5 G.length c5 cm pn wt tg tot)) (HAT0.out.und hI5) (Mg.Ok.nil Mg.numGood) (show Mg.numGood 0 from by unfold Mg.numGood;omega)
   replace hr:(Instr.mapUpdate 150 (.map (some m0)) (.int .i64 0) (.agg (svC A5 G.length c5 cm pn wt tg tot))).run Tryz.prog W=.ok () (Mg.put Mg.numV W m0 [((0:Nat),.agg (svC A5 G.length c5 cm pn wt tg tot))]):=hr
   go_simp;refine hK undef _ trivial (by simp only[updB,if_true];exact⟨W,hI5,rfl⟩) (fun _ _=>trivial)
  exact ObsF.nil
 case hend=>
  intro ρ L W hR hI hL hF;have hLS:L 6=true:=hL 6 (by decide);rw[if_pos hLS] at hI;obtain⟨W0,hu0,rfl⟩:=hI;clear hLS;have hs6:(Mg.put Mg.numV W0 m0 [((0:Nat),.agg (svC A5 G.length c5 cm pn wt tg tot))]).heap[sb]?=some (.cells (svC A5 G.length c5 cm pn wt tg tot) 166 (0,0)):=(Mg.put_ne _ _ HsbM.out).trans ((hu0.below.block sb HsbB.out).trans HSB.out);have hx6:(Mg.put Mg.numV W0 m0 [((0:Nat),.agg (svC A5 G.length c5 cm pn wt tg tot))]).heap[ib]?=some (.cells #[.map (some m0),.map (some m1),.map (some m2)] 154 (0,0)):=(Mg.put_ne _ _ HibM.out).trans ((hu0.below.block ib HibB.out).trans HIB.out);have h60:=Mg.put_at (HAT0.out.und hu0) [((0:Nat),.agg (svC A5 G.length c5 cm pn wt tg tot))];have g60:GS [m0] W5 (Mg.put Mg.numV W0 m0 [((0:Nat),.agg (svC A5 G.length c5 cm pn wt tg tot))]):=(GS.of_und hu0).trans (Mg.put_gs _ _ _);generalize Mg.put Mg.numV W0 m0 [((0:Nat),.agg (svC A5 G.length c5 cm pn wt tg tot))]=W6 at hs6 hx6 h60 g60 ⊢;have hmp5:∀ g ∈ [m0],IsMap W5 g:=fun g hg=>by rw[List.mem_singleton.1 hg];exact HAT0.out.isMap
  have HSB6:=hid hs6;have HIB6:=hid hx6;have HM0:=hid h60;have HG6:=hid (HGA.out.gs g60 hmp5);have HC6:=hid (HATC.out.gs g60 (by simpa using HCM0.out));have HM1:=hid (HAT1.out.gs g60 (by simpa using HM01.out));have HM2:=hid (HAT2.out.gs g60 (by simpa using HM02.out));have HGS6:=hid ((GS.of_und (S:=[m0,m1,m2]) HU5.out).after g60 (by simp));have HB6:=hid (show B<=W6.heap.size from by rw[<- HBB.out];exact Nat.le_trans HU5.out.size g60.size);clear hu0 hs6 hx6 h60 g60 hmp5 x0 s0 s1 s2 s3 s4 s5;obtain⟨t0,t1,_,_,_,_⟩:=cells6 HSB6.out;haveI:LtW sb W6:=LtW.of (lt_of_heap HSB6.out);go_wp2_with fail;go_loopw [44] (fun s44 wr=>Ad1 W6 m1 B G ((St.prsF [] (St.wordN l)).count ·) s44 wr) (fun s44 _=>G.length+1-(intOf s44).toNat)
  case atStart=>exact⟨0,by omega,rfl,⟨[],HM1.out,Mg.Ok.nil _,by simp,by simp⟩,GS.refl _ _⟩
  case round=>
   obtain⟨i,hi,rfl,hps,hu⟩:=hrel;have HU:=hid hu;have HP0:=hid hps;have hmm:∀ g ∈ [m1],IsMap W6 g:=fun g hg=>by rw[List.mem_singleton.1 hg];exact HM1.out.isMap
   have HMM:=hid hmm;clear t0 t1;have hsb9:=hu.block sb (lt_of_heap HSB6.out) (by simpa using HsbM1.out);have hib9:=hu.block ib (lt_of_heap HIB6.out) (by simpa using HibM1.out);rw[HSB6.out] at hsb9;rw[HIB6.out] at hib9;have HSB9:=hid hsb9;have HIB9:=hid hib9;obtain⟨t0,t1,_,_,_,_⟩:=cells6 hsb9;haveI:LtW sb wr:=LtW.of (lt_of_heap hsb9)
   by_cases hlt:i<G.length
   ·obtain⟨ab,aoff,rfl,hb,hc⟩:=(HG6.out.gs hu hmm) (by omega)
    obtain⟨c0,c1,c2⟩:=hc i hlt;haveI:LtW ab wr:=LtW.of hb;obtain⟨g,hg⟩:∃ g,G[i]=g:=⟨_,rfl⟩;have hgm:g ∈ G:=by rw[<- hg];exact List.getElem_mem hlt
    have HG:=hid hg;rw[hg] at c0 c1 c2;obtain⟨⟨u1,u2⟩,q⟩:=g;simp only at c0 c1 c2;obtain⟨hq1,hq2,hq3,hq4⟩:=HGF.out _ hgm;have HQ:=hid hq1;have HGK:=hid (show Mg.prGood (u1,u2) from hq2)
    have HFR:=hid (show (u1,u2) ∉ (G.take i).map (·.1) from by
     have h1:=HGN.out;rw[<- List.take_append_drop i G,List.map_append,List.nodup_append] at h1;intro hm;refine h1.2.2 _ hm _ ?_ rfl;rw[List.drop_eq_getElem_cons hlt,hg]
     exact List.mem_cons_self ..)
    clear hc hg hgm hq1 hq2 hq4 hsb9 hib9 hps hmm;go_wp2;generalize hgb:wr.heap.size=gb;refine gen_region (fun W=>Und wr W/\W.cell? ⟨gb,2,none⟩=some (.int .i64 (q:Int))/\W.cell? ⟨gb+1,0,none⟩=some (.string ⟨u1.toArray⟩)/\W.cell? ⟨gb+1,1,none⟩=some (.string ⟨u2.toArray⟩)) ⟨(by apply_rules[uUe,uUa,uUb,uUc,uUd]),by subst hgb;simp,by subst hgb;rw[World.cell?_alloc_at _ _ _ _ (by simp)];rfl,by subst hgb;rw[World.cell?_alloc_at _ _ _ _ (by simp)];rfl⟩ (fun W3 h3=>?_);obtain⟨hu3,gb2,kb0,kb1⟩:=h3;obtain⟨kb,hkb⟩:∃ kb,gb+1=kb:=⟨_,rfl⟩;rw[hkb] at kb0 kb1 ⊢;obtain⟨E,hat,hok,hks,hrw⟩:=HP0.out;have HAT:=hid (hat.und hu3);have HOK:=hid hok;have HKS:=hid hks;have HRW:=hid hrw;have HMP:=hid (hat.isMap.und hu3);have HLK:=hid (show Mg.look (u1,u2) E=none from Mg.look_none.2 fun hm=>HFR.out ((hks _).1 hm));have hx:=(hu3.below.block ib (lt_of_heap HIB9.out)).trans HIB9.out;have x1:=zcH hx 1;simp only[List.getElem?_toArray,List.getElem?_cons_zero,List.getElem?_cons_succ] at x1;have HibB:=hid (lt_of_heap hx);have HibM:=hid HibM1.out;have HgbB:=hid (lt_of_cell gb2);have HkbB:=hid (lt_of_cell kb0);have hm1w:=hat.lt;have HgbM:=hid (show gb ≠ m1 from by omega);have HkbM:=hid (show kb ≠ m1 from by omega);have HBS:=hid (show B<=W3.heap.size from by have h1:=HB6.out;have h2:=HU.out.size;have h3:=hu3.size;omega);clear hat hok hks hrw hx hu;have g2:=gb2;have k0:=kb0;have k1:=kb1;clear gb2 kb0 kb1 hkb hgb hm1w c0 c1 c2;refine wp_region_facts (Mg.RQ Mg.prV m1 (u1,u2)) (Mg.Pst Mg.prV W3 m1 (u1,u2) E 178 [.int .i64 0,.int .i64 ((q:Int))] 10 14) [fun v _=>v=.pointer (some ⟨ib,0,none⟩),fun v _=>v=.pointer (some ⟨ib,0,none⟩),fun v _=>v=.pointer (some ⟨ib,1,none⟩),fun v _=>v=.map (some m1),fun v _=>v=.agg #[.string ⟨u1.toArray⟩,.string ⟨u2.toArray⟩],fun v _=>v=.int .i64 0,fun v _=>v=.pointer (some ⟨gb,2,none⟩),fun v _=>v=.int .i64 (q:Int),fun v _=>v=.agg #[.int .i64 0,.int .i64 (q:Int)],fun v W=>∃ b,v=.slice (some ⟨b,0,none⟩) 1 1/\W3.heap.size<=b/\b<W.heap.size/\W.cell? ⟨b,0,none⟩=some (.int .i64 0)/\W.cell? ⟨b,1,none⟩=some (.int .i64 ((q:Int))),fun v W=>v=.tuple #[.slice none 0 0,.int .i64 (E.length:Int)]/\(∃ l,Mg.At Mg.prV W m1 l/\(Mg.look (u1,u2) l).isSome=true),fun v _=>v=.slice none 0 0,fun v W=>W.ownsRow W3.heap.size 178 2 v 1 [.int .i64 0,.int .i64 ((q:Int))],fun v W=>v=.int .i64 (E.length:Int)/\(∃ l,Mg.At Mg.prV W m1 l/\(Mg.look (u1,u2) l).isSome=true),noFact] Mg.RQ.refl Mg.RQ.trans (by kernel_rfl) (by rfl) (by kernel_rfl) (by kernel_rfl) ?frc ?hfr ?hI ?hob ?hend
    case hfr=>
     intro ρ;simp only[putAll,Act.put,zsA,zsB,zsC,Nat.zero_add,Nat.reduceAdd];exact rfl
    case hI=>exact⟨.of_und (by apply_rules[uUe,uUa,uUb,uUc,uUd]),by
     rw[if_neg (by simp),if_neg (by simp)]
     exact HAT.out.und (by apply_rules[uUe,uUa,uUb,uUc,uUd])⟩
    case hob=>
     refine ObsF.cons (fun ρ L W hR hI hL hD hO hF K hK=>?_) ?_
     ·skip
      clear hF hD hO;simp only[Act.put,zsA,zsB,zsC] at hK ⊢;go_simp;refine hK _ _ (Mg.RQ.refl _) (hI.und (Und.refl _) (by decide) (by decide)) (fun W2 h2=>?_);rfl
     refine ObsF.cons (fun ρ L W hR hI hL hD hO hF K hK=>?_) ?_
     ·skip
      have f0:=allF_get hF (j:=0) (by decide);clear hF hD hO;simp only[Act.put,zsA,zsB,zsC] at hK ⊢;have e0:ρ 0=.pointer (some ⟨ib,0,none⟩):=f0;rw[e0] at hK ⊢;go_simp;refine hK _ _ (Mg.RQ.refl _) (hI.und (Und.refl _) (by decide) (by decide)) (fun W2 h2=>?_);rfl
     refine ObsF.cons (fun ρ L W hR hI hL hD hO hF K hK=>?_) ?_
     ·skip
      have f1:=allF_get hF (j:=1) (by decide);clear hF hD hO;simp only[Act.put,zsA,zsB,zsC] at hK ⊢;have e1:ρ 1=.pointer (some ⟨ib,0,none⟩):=f1;rw[e1] at hK ⊢;go_simp;refine hK _ _ (Mg.RQ.refl _) (hI.und (Und.refl _) (by decide) (by decide)) (fun W2 h2=>?_);rfl
     refine ObsF.cons (fun ρ L W hR hI hL hD hO hF K hK=>?_) ?_
     ·skip
      have f2:=allF_get hF (j:=2) (by decide);clear hF hD hO;simp only[Act.put,zsA,zsB,zsC] at hK ⊢;have e2:ρ 2=.pointer (some ⟨ib,1,none⟩):=f2;rw[e2] at hK ⊢;have dib1:=(hI.cell (b:=ib) (o:=1) HibB.out HibM.out).trans x1;haveI:LtW ib W:=LtW.of (Nat.lt_of_lt_of_le HibB.out hI.1.size);go_simp;refine hK _ _ (Mg.RQ.refl _) (hI.und (Und.refl _) (by decide) (by decide)) (fun W2 h2=>?_);rfl
     refine ObsF.cons (fun ρ L W hR hI hL hD hO hF K hK=>?_) ?_
     ·skip
      clear hF hD hO;simp only[Act.put,zsA,zsB,zsC] at hK ⊢;have dkb0:=(hI.cell (b:=kb) (o:=0) HkbB.out HkbM.out).trans k0;have dkb1:=(hI.cell (b:=kb) (o:=1) HkbB.out HkbM.out).trans k1;haveI:LtW kb W:=LtW.of (Nat.lt_of_lt_of_le HkbB.out hI.1.size);go_simp;refine hK _ _ (Mg.RQ.refl _) (hI.und (Und.refl _) (by decide) (by decide)) (fun W2 h2=>?_);rfl
     refine ObsF.cons (fun ρ L W hR hI hL hD hO hF K hK=>?_) ?_
     ·skip
      clear hF hD hO;simp only[Act.put,zsA,zsB,zsC] at hK ⊢;go_simp;refine hK _ _ (Mg.RQ.refl _) (hI.und (Und.refl _) (by decide) (by decide)) (fun W2 h2=>?_);rfl
     refine ObsF.cons (fun ρ L W hR hI hL hD hO hF K hK=>?_) ?_
     ·skip
      clear hF hD hO;simp only[Act.put,zsA,zsB,zsC] at hK ⊢;go_simp;refine hK _ _ (Mg.RQ.refl _) (hI.und (Und.refl _) (by decide) (by decide)) (fun W2 h2=>?_);rfl
     refine ObsF.cons (fun ρ L W hR hI hL hD hO hF K hK=>?_) ?_
     ·skip
      have f6:=allF_get hF (j:=6) (by decide);clear hF hD hO;simp only[Act.put,zsA,zsB,zsC] at hK ⊢;have e6:ρ 6=.pointer (some ⟨gb,2,none⟩):=f6;rw[e6] at hK ⊢;have dgb2:=(hI.cell (b:=gb) (o:=2) HgbB.out HgbM.out).trans g2;haveI:LtW gb W:=LtW.of (Nat.lt_of_lt_of_le HgbB.out hI.1.size);go_simp;refine hK _ _ (Mg.RQ.refl _) (hI.und (Und.refl _) (by decide) (by decide)) (fun W2 h2=>?_);rfl
     refine ObsF.cons (fun ρ L W hR hI hL hD hO hF K hK=>?_) ?_
     ·skip
      have f5:=allF_get hF (j:=5) (by decide);have f7:=allF_get hF (j:=7) (by decide);clear hF hD hO;simp only[Act.put,zsA,zsB,zsC] at hK ⊢;have e5:ρ 5=.int .i64 0:=f5;have e7:ρ 7=.int .i64 (q:Int):=f7;rw[e5,e7] at hK ⊢;go_simp;refine hK _ _ (Mg.RQ.refl _) (hI.und (Und.refl _) (by decide) (by decide)) (fun W2 h2=>?_);rfl
     refine ObsF.cons (fun ρ L W hR hI hL hD hO hF K hK=>?_) ?_
     ·skip
      have f8:=allF_get hF (j:=8) (by decide);clear hF hD hO;simp only[Act.put,zsA,zsB,zsC] at hK ⊢;have e8:ρ 8=.agg #[.int .i64 0,.int .i64 (q:Int)]:=f8;rw[e8] at hK ⊢;have hmb:=hI.isMap.lt;go_simp;refine hK _ _ (Mg.RQ.und (by apply_rules[uUe,uUa,uUb,uUc,uUd])) (hI.und (by apply_rules[uUe,uUa,uUb,uUc,uUd]) (by decide) (by decide)) (fun W2 h2=>⟨W.heap.size,rfl,hI.1.size,Nat.lt_of_lt_of_le (by simp) h2.1.size,?_,?_⟩)
      ·exact(h2.1.cell (p:=⟨W.heap.size,0,none⟩) (by simp) (by simp;omega)).trans (by simp)
      ·exact(h2.1.cell (p:=⟨W.heap.size,1,none⟩) (by simp) (by simp;omega)).trans (by simp)
     refine ObsF.cons (fun ρ L W hR hI hL hD hO hF K hK=>?_) ?_
     ·skip
      have f3:=allF_get hF (j:=3) (by decide);have f4:=allF_get hF (j:=4) (by decide);have hp0:L 11=false:=hD.not (p:=11) rfl (by decide) hL;have hp1:L 12=false:=hD.not (p:=12) rfl (by decide) hp0;have hp2:L 14=false:=hD.not (p:=14) rfl (by decide) hp1;clear hF hD hO;simp only[Act.put,zsA,zsB,zsC] at hK ⊢;have e3:ρ 3=.map (some m1):=f3;have e4:ρ 4=.agg #[.string ⟨u1.toArray⟩,.string ⟨u2.toArray⟩]:=f4;rw[e3,e4] at hK ⊢;obtain⟨hr,hI2,hRQ,hop⟩:=hI.opens Mg.xpr_KV Tryz.underlying151 (fun W=>by go_simp) hL hp2 (by decide) HLK.out HOK.out HGK.out
      replace hr:(Instr.mapEntry 151 (.map (some m1)) (.agg #[.string ⟨u1.toArray⟩,.string ⟨u2.toArray⟩])).run Tryz.prog W=_:=hr
      go_simp;refine hK _ _ hRQ hI2 (fun W2 h2=>⟨rfl,h2.2 hop⟩)
     refine ObsF.cons (fun ρ L W hR hI hL hD hO hF K hK=>?_) ?_
     ·skip
      have f10:=allF_get hF (j:=10) (by decide);clear hF hD hO;simp only[Act.put,zsA,zsB,zsC] at hK ⊢;obtain⟨e10,hop⟩:=f10;rw[e10] at hK ⊢;go_simp;refine hK _ _ (Mg.RQ.refl _) (hI.und (Und.refl _) (by decide) (by decide)) (fun W2 h2=>?_);rfl
     refine ObsF.cons (fun ρ L W hR hI hL hD hO hF K hK=>?_) ?_
     ·skip
      have f11:=allF_get hF (j:=11) (by decide);have f9:=allF_get hF (j:=9) (by decide);clear hF hD hO;simp only[Act.put,zsA,zsB,zsC] at hK ⊢;have e11:ρ 11=.slice none 0 0:=f11;obtain⟨b9,e9,hb9,hbl9,hc9,hd9⟩:=f9;rw[e11,e9] at hK ⊢;refine step_append_own (o:=⟨some 65,_,_,_,_,_⟩) rfl _ _ 172 rfl W3.heap.size 178 i0 (.agg #[.int .i64 0,.int .i64 0]) 2 16 Tryz.underlying172 hi0 hz0 hz1 hz2 rfl (by decide) (.slice none 0 0) 0 [] rfl (World.ownsRow_nil _ _ _ _) ⟨b9,0,none⟩ 1 1 [.int .i64 0,.int .i64 ((q:Int))] rfl rfl (news2 hc9 hd9) (two_one _ _) (by unfold maxLen;omega) (by omega) hI.1.size ?_;intro v' w' ho hg _;have hu:Und W w':=(Und.refl W).grown hg (fun g e=>by cases e);have hI2:=fun i h1 h2=>hI.und (i:=i) hu h1 h2
      refine hK _ _ (Mg.RQ.und hu) (hI2 _ (by decide) (by decide)) (fun W2 h2=>?_);exact h2.1.ownm (fun g hg=>by rw[List.mem_singleton.1 hg];exact hI.isMap.und hu) ho
     refine ObsF.cons (fun ρ L W hR hI hL hD hO hF K hK=>?_) ?_
     ·skip
      have f10:=allF_get hF (j:=10) (by decide);clear hF hD hO;simp only[Act.put,zsA,zsB,zsC] at hK ⊢;obtain⟨e10,hop⟩:=f10;rw[e10] at hK ⊢;go_simp;refine hK _ _ (Mg.RQ.refl _) (hI.und (Und.refl _) (by decide) (by decide)) (fun W2 h2=>⟨rfl,h2.2 hop⟩)
     refine ObsF.cons (fun ρ L W hR hI hL hD hO hF K hK=>?_) ?_
     ·skip
      have f3:=allF_get hF (j:=3) (by decide);have f13:=allF_get hF (j:=13) (by decide);have f12:=allF_get hF (j:=12) (by decide);clear hF hD hO;simp only[Act.put,zsA,zsB,zsC] at hK ⊢;have e3:ρ 3=.map (some m1):=f3;obtain⟨e13,hop⟩:=f13;obtain⟨v12,e12⟩:∃ v,ρ 12=v:=⟨_,rfl⟩;rw[e12] at f12;rw[e3,e13,e12] at hK ⊢;obtain⟨hr,hI2,hRQ⟩:=hI.stores Mg.xpr_KV Tryz.underlying151 hL hop HLK.out HOK.out HGK.out f12
      replace hr:(Instr.entryStore 151 (.map (some m1)) (.int .i64 (E.length:Int)) v12).run Tryz.prog W=_:=hr
      go_simp;refine hK undef _ hRQ hI2 (fun _ _=>trivial)
     exact ObsF.nil
    case hend=>
     intro ρ L W hR hI hL hF;have hLS:L 14=true:=hL 14 (by decide);obtain⟨hgs,hIs⟩:=hI;rw[if_pos hLS] at hIs;obtain⟨nv,hat9,hrow9⟩:=hIs;clear hLS hR hL hF
     have HE:=hid (show Ad1 W6 m1 B G ((St.prsF [] (St.wordN l)).count ·) (.int .i64 ((i:Int)+1)) W from
      ⟨i+1,by omega,congrArg (Value.int .i64) (by omega),Mg.PostsAt.push HOK.out HKS.out (fun p hp=>own_und hu3 (HRW.out p hp)) HMP.out hgs hat9 (own_low (by rw[show List.count (u1,u2) (St.prsF [] (St.wordN l))=q from HQ.out];exact hrow9) HBS.out) HGK.out HLK.out (fun x=>by
       rw[show G.take (i+1)=G.take i++[((u1,u2),q)] from by rw[List.take_add_one,List.getElem?_eq_getElem hlt,HG.out];rfl,List.map_append,List.mem_append];simp),(HU.out.und hu3).trans hgs⟩)
     clear hgs hat9 hrow9 hu3;go_wp2;exact⟨HE.out,by simp[intOf];omega⟩
   ·have hin:i=G.length:=by omega
    subst hin
    have HP1:=hid (show Mg.PostsAt Mg.prV Mg.prGood wr B m1 (fun k=>k ∈ St.prsF [] (St.wordN l)) ((St.prsF [] (St.wordN l)).count ·) from by
     obtain⟨E,h1,h2,h3,h4⟩:=HP0.out;refine⟨E,h1,h2,fun k=>(h3 k).trans ?_,h4⟩
     rw[List.take_length];exact HGM.out k)
    have HC9:=hid (HC6.out.gs hu (by simpa using HCM1.out));have HM09:=hid (HM0.out.gs hu (by simpa using HM01.out.symm));have HM29:=hid (HM2.out.gs hu (by simpa using HM12.out));have HGS9:=hid (HGS6.out.after hu (by simp));have HB9:=hid (Nat.le_trans HB6.out hu.size);have hinv:¬ ((G.length:Int)<G.length):=by omega
    clear hsb9 hib9 hps hmm hu hlt hi;go_wp2_with (first|(at_range;refine Mg.wp_range (kv:=Mg.tokV) rfl _ 162 rfl Tryz.underlying162 cm rfl HC9.out ?_;intro w7 hrg7 hu7 hs7))
    try go_frame
    obtain⟨W7,hW7⟩:∃ W,W=wr:=⟨_,rfl⟩;subst hW7;obtain⟨r,hr⟩:∃ r,W7.heap.size=r:=⟨_,rfl⟩;have HRB:=hid (Nat.le_of_eq hr);rw[hr] at hrg7 hs7 ⊢;obtain⟨E0,hE0⟩:∃ E0,Mg.cl (St.onceL (St.clsL l)) (fun c=>(((St.clsL l).count c:Nat):Int))=E0:=⟨_,rfl⟩;rw[hE0] at hrg7
    have HEV:=hid (show ∀ p ∈ E0,Mg.tokGood p.1/\(St.clsL l).count p.1<=1000000/\p.2=.int .i64 (((St.clsL l).count p.1:Nat):Int) from fun p hp=>by
     rw[<- hE0] at hp;obtain⟨cc,hcc,rfl⟩:=List.mem_map.1 hp;refine⟨St.cls_good l HTOT.out _ ((St.once_both _).2 _ |>.1 hcc),?_,rfl⟩
     show (St.clsL l).count cc<=1000000
     have h1:(St.clsL l).count cc<=(St.clsL l).length:=List.count_le_length;have h2:=St.cls_len l
     have h3:=HN.out;omega)
    have HEK:=hid (show E0.map (·.1)=St.onceL (St.clsL l) from by rw[<- hE0,Mg.cl_keys]);have HRG:=hid hrg7;have HU7:=hid hu7;have HRS:=hid (show r<w7.heap.size from by omega);clear hrg7 hu7 hs7 hE0 t0 t1;go_loopw [14] (fun _ wx=>Ad2 W7 m2 cm B E0 r ((St.clsL l).count ·) wx) (fun _ wx=>wx.rangeLeft cm r)
    case atStart=>exact⟨[],E0,HRG.out,by simp,⟨[],HM29.out.und HU7.out,Mg.Ok.nil _,by simp,by simp⟩,HRS.out,.of_und HU7.out⟩
    case round=>
     obtain⟨O,rest,hrg,hperm,hps,hrl,hu⟩:=hrel;have HRG2:=hid hrg;have HPM:=hid hperm;have HP2:=hid hps;have HU2:=hid hu;have HRL:=hid hrl;have hx:=hu.block ib (lt_of_heap HIB9.out) (by simpa using HibM2.out);rw[HIB9.out] at hx;have HIB2:=hid hx;clear hrg hperm hps hrl hu hx HRG HU7 HRS;go_wp2_with (at_next;refine Mg.wp_next (kv:=Mg.tokV) rfl _ rfl r cm rfl HRG2.out ?_ ?_)
     ·intro h0
      subst h0
      have HF:=hid (show IxOne wr B ib m0 m1 m2 l/\GS [m0,m1,m2] w wr from by
       obtain⟨q1,q2,q3,q4⟩:=HQS.out;have hm29:∀ g ∈ [m2],IsMap W7 g:=fun g hg=>by rw[List.mem_singleton.1 hg];exact HM29.out.isMap
       refine⟨⟨⟨HIB2.out,HM01.out.symm,HM02.out.symm,HM12.out.symm⟩,⟨A5,G.length,c5,cm,?_⟩,HP1.out.gs HU2.out (by simpa using HM12.out.symm) hm29,?_⟩,HGS9.out.after HU2.out (by simp)⟩
       ·rw[q1,q2,q3,q4]
        exact HM09.out.gs HU2.out (by simpa using HM02.out.symm)
       ·obtain⟨E,h1,h2,h3,h4⟩:=HP2.out
        refine⟨E,h1,h2,fun k=>(h3 k).trans ?_,h4⟩;have hpm:=(HPM.out.map (·.1)).mem_iff (a:=k);rw[List.append_nil,HEK.out] at hpm
        exact hpm.trans ((St.once_both _).2 k))
      go_wp2;go_ret;rw[HBB.out];exact⟨rfl,HF.out⟩
     ·intro kd kt v rest' w' hp hmem hrg' hgb hsz hen
      obtain⟨hgk,hq0,hv⟩:=HEV.out _ hmem;obtain⟨q,hq⟩:∃ q,(St.clsL l).count (kd,kt)=q:=⟨_,rfl⟩;simp only at hgk hq0 hv;rw[hq] at hq0 hv;subst hv;have HQ:=hid hq;have HGK:=hid hgk;have hrm:m2 ≠ r:=by have h1:=HM29.out.lt;have h2:=HRB.out;omega
      have hps':=Mg.PostsAt.gbr HP2.out HRG2.out hgb hrm;obtain⟨E,hat,hok,hks,hrw⟩:=hps';have HOK:=hid hok;have HKS:=hid hks;have HRW:=hid hrw;have HPM':=hid (show ((O++[((kd,kt),Value.int .i64 (q:Int))])++rest').Perm E0 from by rw[List.append_assoc];exact(hp.symm.append_left _).trans HPM.out)
      have hfr:(kd,kt) ∉ O.map (·.1):=by
       have h1:=(HPM'.out.map (·.1)).nodup_iff.2 (by rw[HEK.out];exact(St.once_both _).1);rw[List.map_append,List.map_append] at h1;have h2:=(List.nodup_append.1 h1).1;intro hm;exact(List.nodup_append.1 h2).2.2 _ hm _ (List.mem_cons_self ..) rfl
      have HLK:=hid (show Mg.look (kd,kt) E=none from Mg.look_none.2 fun hm=>hfr ((hks _).1 hm));have hlr:=HRG2.out.left;have hpl:=hp.length_eq;rw[List.length_cons] at hpl;have hibw:=(hgb.block ib (lt_of_heap HIB2.out) (fun e=>by have h1:=lt_of_heap HIB9.out;have h2:=HRB.out;have h3:=Option.some.inj e;omega)).trans HIB2.out;have HIB3:=hid hibw;have HRG':=hid hrg';have HU:=hid (HU2.out.gb hgb (fun g e=>by cases e;exact .inr HRB.out));have HATE:=hid hat;have hszw:r<w'.heap.size:=by have:=HRL.out;omega
      have hbw:B<=w'.heap.size:=by have h1:=HB9.out;have h2:=HRB.out;omega
      have hen':(Instr.entry (.pointer (some ⟨r,0,none⟩))).run Tryz.prog w'=.ok (.tuple #[.agg #[.int .i64 kd,.string ⟨kt.toArray⟩,.int .i64 0],.int .i64 (q:Int)]) w':=hen;rw[show Mg.tokV (kd,kt)=.agg #[.int .i64 kd,.string ⟨kt.toArray⟩,.int .i64 0] from rfl];clear hen hp hmem hgb hsz hrg' hgk hq hat hok hks hrw hfr hibw hrm;go_wp2;generalize htb:w'.heap.size=tb at hszw hbw;refine gen_region (fun W=>Und w' W/\W.cell? ⟨tb,0,none⟩=some (.int .i64 kd)/\W.cell? ⟨tb,1,none⟩=some (.string ⟨kt.toArray⟩)/\W.cell? ⟨tb,2,none⟩=some (.int .i64 0)) ⟨(by apply_rules[uUe,uUa,uUb,uUc,uUd]),by subst htb;simp,by subst htb;simp,by subst htb;simp⟩ (fun W3 h3=>?_);obtain⟨hu3,k0,k1,k2⟩:=h3;have HAT:=hid (HATE.out.und hu3);have HMP:=hid (HATE.out.isMap.und hu3);have hx:=(hu3.below.block ib (lt_of_heap HIB3.out)).trans HIB3.out;have x2:=zcH hx 2;simp only[List.getElem?_toArray,List.getElem?_cons_zero,List.getElem?_cons_succ] at x2;have HibB:=hid (lt_of_heap hx);have HibM:=hid HibM2.out;have HtbB:=hid (lt_of_cell k0);have hm2w:=HATE.out.lt;have HtbM:=hid (show tb ≠ m2 from by omega);have HBS:=hid (show B<=W3.heap.size from by have h3:=hu3.size;omega);have HRL3:=hid (show r<W3.heap.size from by have h3:=hu3.size;omega);have HRM2:=hid (show r ≠ m2 from by have h1:=HM29.out.lt;have h2:=HRB.out;omega);have HPC:=hid (And.intro HCM2.out HRM2.out);clear hx htb hm2w hszw hbw hen';refine wp_region_facts (Mg.RQ Mg.tokV m2 (kd,kt)) (Mg.Pst Mg.tokV W3 m2 (kd,kt) E 178 [.int .i64 0,.int .i64 ((q:Int))] 9 13) [fun v _=>v=.pointer (some ⟨ib,0,none⟩),fun v _=>v=.pointer (some ⟨ib,0,none⟩),fun v _=>v=.pointer (some ⟨ib,2,none⟩),fun v _=>v=.map (some m2),fun v _=>v=.agg #[.int .i64 kd,.string ⟨kt.toArray⟩,.int .i64 0],fun v _=>v=.int .i64 0,fun v _=>v=.int .i64 (q:Int),fun v _=>v=.agg #[.int .i64 0,.int .i64 (q:Int)],fun v W=>∃ b,v=.slice (some ⟨b,0,none⟩) 1 1/\W3.heap.size<=b/\b<W.heap.size/\W.cell? ⟨b,0,none⟩=some (.int .i64 0)/\W.cell? ⟨b,1,none⟩=some (.int .i64 ((q:Int))),fun v W=>v=.tuple #[.slice none 0 0,.int .i64 (E.length:Int)]/\(∃ l,Mg.At Mg.tokV W m2 l/\(Mg.look (kd,kt) l).isSome=true),fun v _=>v=.slice none 0 0,fun v W=>W.ownsRow W3.heap.size 178 2 v 1 [.int .i64 0,.int .i64 ((q:Int))],fun v W=>v=.int .i64 (E.length:Int)/\(∃ l,Mg.At Mg.tokV W m2 l/\(Mg.look (kd,kt) l).isSome=true),noFact] Mg.RQ.refl Mg.RQ.trans (by kernel_rfl) (by rfl) (by kernel_rfl) (by kernel_rfl) ?frd ?hfr ?hI ?hob ?hend
      case hfr=>
       intro ρ;simp only[putAll,Act.put,zsA,zsB,zsC,Nat.zero_add,Nat.reduceAdd];exact rfl
      case hI=>exact⟨.of_und (by apply_rules[uUe,uUa,uUb,uUc,uUd]),by
       rw[if_neg (by simp),if_neg (by simp)]
       exact HAT.out.und (by apply_rules[uUe,uUa,uUb,uUc,uUd])⟩
      case hob=>
       refine ObsF.cons (fun ρ L W hR hI hL hD hO hF K hK=>?_) ?_
       ·skip
        clear hF hD hO;simp only[Act.put,zsA,zsB,zsC] at hK ⊢;go_simp;refine hK _ _ (Mg.RQ.refl _) (hI.und (Und.refl _) (by decide) (by decide)) (fun W2 h2=>?_);rfl
       refine ObsF.cons (fun ρ L W hR hI hL hD hO hF K hK=>?_) ?_
       ·skip
        have f0:=allF_get hF (j:=0) (by decide);clear hF hD hO;simp only[Act.put,zsA,zsB,zsC] at hK ⊢;have e0:ρ 0=.pointer (some ⟨ib,0,none⟩):=f0;rw[e0] at hK ⊢;go_simp;refine hK _ _ (Mg.RQ.refl _) (hI.und (Und.refl _) (by decide) (by decide)) (fun W2 h2=>?_);rfl
       refine ObsF.cons (fun ρ L W hR hI hL hD hO hF K hK=>?_) ?_
       ·skip
        have f1:=allF_get hF (j:=1) (by decide);clear hF hD hO;simp only[Act.put,zsA,zsB,zsC] at hK ⊢;have e1:ρ 1=.pointer (some ⟨ib,0,none⟩):=f1;rw[e1] at hK ⊢;go_simp;refine hK _ _ (Mg.RQ.refl _) (hI.und (Und.refl _) (by decide) (by decide)) (fun W2 h2=>?_);rfl
       refine ObsF.cons (fun ρ L W hR hI hL hD hO hF K hK=>?_) ?_
       ·skip
        have f2:=allF_get hF (j:=2) (by decide);clear hF hD hO;simp only[Act.put,zsA,zsB,zsC] at hK ⊢;have e2:ρ 2=.pointer (some ⟨ib,2,none⟩):=f2;rw[e2] at hK ⊢;have dib2:=(hI.cell (b:=ib) (o:=2) HibB.out HibM.out).trans x2;haveI:LtW ib W:=LtW.of (Nat.lt_of_lt_of_le HibB.out hI.1.size);go_simp;refine hK _ _ (Mg.RQ.refl _) (hI.und (Und.refl _) (by decide) (by decide)) (fun W2 h2=>?_);rfl
       refine ObsF.cons (fun ρ L W hR hI hL hD hO hF K hK=>?_) ?_
       ·skip
        clear hF hD hO;simp only[Act.put,zsA,zsB,zsC] at hK ⊢;have dtb0:=(hI.cell (b:=tb) (o:=0) HtbB.out HtbM.out).trans k0;have dtb1:=(hI.cell (b:=tb) (o:=1) HtbB.out HtbM.out).trans k1;have dtb2:=(hI.cell (b:=tb) (o:=2) HtbB.out HtbM.out).trans k2;haveI:LtW tb W:=LtW.of (Nat.lt_of_lt_of_le HtbB.out hI.1.size);go_simp;refine hK _ _ (Mg.RQ.refl _) (hI.und (Und.refl _) (by decide) (by decide)) (fun W2 h2=>?_);rfl
       refine ObsF.cons (fun ρ L W hR hI hL hD hO hF K hK=>?_) ?_
       ·skip
        clear hF hD hO;simp only[Act.put,zsA,zsB,zsC] at hK ⊢;go_simp;refine hK _ _ (Mg.RQ.refl _) (hI.und (Und.refl _) (by decide) (by decide)) (fun W2 h2=>?_);rfl
       refine ObsF.cons (fun ρ L W hR hI hL hD hO hF K hK=>?_) ?_
       ·skip
        clear hF hD hO;simp only[Act.put,zsA,zsB,zsC] at hK ⊢;go_simp;refine hK _ _ (Mg.RQ.refl _) (hI.und (Und.refl _) (by decide) (by decide)) (fun W2 h2=>?_);rfl
       refine ObsF.cons (fun ρ L W hR hI hL hD hO hF K hK=>?_) ?_
       ·skip
        have f5:=allF_get hF (j:=5) (by decide);have f6:=allF_get hF (j:=6) (by decide);clear hF hD hO;simp only[Act.put,zsA,zsB,zsC] at hK ⊢;have e5:ρ 5=.int .i64 0:=f5;have e6:ρ 6=.int .i64 (q:Int):=f6;rw[e5,e6] at hK ⊢;go_simp;refine hK _ _ (Mg.RQ.refl _) (hI.und (Und.refl _) (by decide) (by decide)) (fun W2 h2=>?_);rfl
       refine ObsF.cons (fun ρ L W hR hI hL hD hO hF K hK=>?_) ?_
       ·skip
        have f7:=allF_get hF (j:=7) (by decide);clear hF hD hO;simp only[Act.put,zsA,zsB,zsC] at hK ⊢;have e7:ρ 7=.agg #[.int .i64 0,.int .i64 (q:Int)]:=f7;rw[e7] at hK ⊢;have hmb:=hI.isMap.lt;go_simp;refine hK _ _ (Mg.RQ.und (by apply_rules[uUe,uUa,uUb,uUc,uUd])) (hI.und (by apply_rules[uUe,uUa,uUb,uUc,uUd]) (by decide) (by decide)) (fun W2 h2=>⟨W.heap.size,rfl,hI.1.size,Nat.lt_of_lt_of_le (by simp) h2.1.size,?_,?_⟩)
        ·exact(h2.1.cell (p:=⟨W.heap.size,0,none⟩) (by simp) (by simp;omega)).trans (by simp)
        ·exact(h2.1.cell (p:=⟨W.heap.size,1,none⟩) (by simp) (by simp;omega)).trans (by simp)
       refine ObsF.cons (fun ρ L W hR hI hL hD hO hF K hK=>?_) ?_
       ·skip
        have f3:=allF_get hF (j:=3) (by decide);have f4:=allF_get hF (j:=4) (by decide);have hp0:L 10=false:=hD.not (p:=10) rfl (by decide) hL;have hp1:L 11=false:=hD.not (p:=11) rfl (by decide) hp0;have hp2:L 13=false:=hD.not (p:=13) rfl (by decide) hp1;clear hF hD hO;simp only[Act.put,zsA,zsB,zsC] at hK ⊢;have e3:ρ 3=.map (some m2):=f3;have e4:ρ 4=.agg #[.int .i64 kd,.string ⟨kt.toArray⟩,.int .i64 0]:=f4;rw[e3,e4] at hK ⊢;obtain⟨hr,hI2,hRQ,hop⟩:=hI.opens Mg.tok_KV Tryz.underlying152 (fun W=>by go_simp) hL hp2 (by decide) HLK.out HOK.out HGK.out
        replace hr:(Instr.mapEntry 152 (.map (some m2)) (.agg #[.int .i64 kd,.string ⟨kt.toArray⟩,.int .i64 0])).run Tryz.prog W=_:=hr
        go_simp;refine hK _ _ hRQ hI2 (fun W2 h2=>⟨rfl,h2.2 hop⟩)
       refine ObsF.cons (fun ρ L W hR hI hL hD hO hF K hK=>?_) ?_
       ·skip
        have f9:=allF_get hF (j:=9) (by decide);clear hF hD hO;simp only[Act.put,zsA,zsB,zsC] at hK ⊢;obtain⟨e9,hop⟩:=f9;rw[e9] at hK ⊢;go_simp;refine hK _ _ (Mg.RQ.refl _) (hI.und (Und.refl _) (by decide) (by decide)) (fun W2 h2=>?_);rfl
       refine ObsF.cons (fun ρ L W hR hI hL hD hO hF K hK=>?_) ?_
       ·skip
        have f10:=allF_get hF (j:=10) (by decide);have f8:=allF_get hF (j:=8) (by decide);clear hF hD hO;simp only[Act.put,zsA,zsB,zsC] at hK ⊢;have e10:ρ 10=.slice none 0 0:=f10;obtain⟨b8,e8,hb8,hbl8,hc8,hd8⟩:=f8;rw[e10,e8] at hK ⊢;refine step_append_own (o:=⟨some 87,_,_,_,_,_⟩) rfl _ _ 172 rfl W3.heap.size 178 i0 (.agg #[.int .i64 0,.int .i64 0]) 2 16 Tryz.underlying172 hi0 hz0 hz1 hz2 rfl (by decide) (.slice none 0 0) 0 [] rfl (World.ownsRow_nil _ _ _ _) ⟨b8,0,none⟩ 1 1 [.int .i64 0,.int .i64 ((q:Int))] rfl rfl (news2 hc8 hd8) (two_one _ _) (by unfold maxLen;omega) (by omega) hI.1.size ?_;intro v' w' ho hg _;have hu:Und W w':=(Und.refl W).grown hg (fun g e=>by cases e);have hI2:=fun i h1 h2=>hI.und (i:=i) hu h1 h2
        refine hK _ _ (Mg.RQ.und hu) (hI2 _ (by decide) (by decide)) (fun W2 h2=>?_);exact h2.1.ownm (fun g hg=>by rw[List.mem_singleton.1 hg];exact hI.isMap.und hu) ho
       refine ObsF.cons (fun ρ L W hR hI hL hD hO hF K hK=>?_) ?_
       ·skip
        have f9:=allF_get hF (j:=9) (by decide);clear hF hD hO;simp only[Act.put,zsA,zsB,zsC] at hK ⊢;obtain⟨e9,hop⟩:=f9;rw[e9] at hK ⊢;go_simp;refine hK _ _ (Mg.RQ.refl _) (hI.und (Und.refl _) (by decide) (by decide)) (fun W2 h2=>⟨rfl,h2.2 hop⟩)
       refine ObsF.cons (fun ρ L W hR hI hL hD hO hF K hK=>?_) ?_
       ·skip
        have f3:=allF_get hF (j:=3) (by decide);have f12:=allF_get hF (j:=12) (by decide);have f11:=allF_get hF (j:=11) (by decide);clear hF hD hO;simp only[Act.put,zsA,zsB,zsC] at hK ⊢;have e3:ρ 3=.map (some m2):=f3;obtain⟨e12,hop⟩:=f12;obtain⟨v11,e11⟩:∃ v,ρ 11=v:=⟨_,rfl⟩;rw[e11] at f11;rw[e3,e12,e11] at hK ⊢;obtain⟨hr,hI2,hRQ⟩:=hI.stores Mg.tok_KV Tryz.underlying152 hL hop HLK.out HOK.out HGK.out f11
        replace hr:(Instr.entryStore 152 (.map (some m2)) (.int .i64 (E.length:Int)) v11).run Tryz.prog W=_:=hr
        go_simp;refine hK undef _ hRQ hI2 (fun _ _=>trivial)
       exact ObsF.nil
      case hend=>
       intro ρ L W hR hI hL hF;have hLS:L 13=true:=hL 13 (by decide);obtain⟨hgs,hIs⟩:=hI;rw[if_pos hLS] at hIs;obtain⟨nv,hat9,hrow9⟩:=hIs;clear hLS hR hL hF
       have HE:=hid (show Ad2 W7 m2 cm B E0 r ((St.clsL l).count ·) W from
        ⟨O++[((kd,kt),.int .i64 (q:Int))],rest',HRG'.out.gs2 hu3 hgs HPC.out.1 HPC.out.2,HPM'.out,Mg.PostsAt.push HOK.out HKS.out (fun p hp=>own_und hu3 (HRW.out p hp)) HMP.out hgs hat9 (own_low (by rw[show List.count (kd,kt) (St.clsL l)=q from HQ.out];exact hrow9) HBS.out) HGK.out HLK.out (fun x=>by simp[List.map_append]),Nat.lt_of_lt_of_le HRL3.out hgs.size,(HU.out.und hu3).trans hgs⟩)
       have HLF:=hid (show W.rangeLeft cm r=rest'.length from by
        exact(HRG'.out.gs2 hu3 hgs HPC.out.1 HPC.out.2).left)
       clear hgs hat9 hrow9 hu3;go_wp2;exact⟨HE.out,by rw[HLF.out];omega⟩
end Go.Proofs.YtcfhfdphoidaeaaGreatDoor
