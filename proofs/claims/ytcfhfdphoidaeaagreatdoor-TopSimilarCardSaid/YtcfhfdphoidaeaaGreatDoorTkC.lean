/- The contract of the function by which shingle.Grams sorts, and of the sort. -/
import Derived.Test.YtcfhfdphoidaeaaGreatDoorTkB
import Derived.Test.YtcfhfdphoidaeaaGreatDoorShelfG
set_option linter.unusedVariables false
set_option linter.unusedSimpArgs false
set_option maxHeartbeats 12800000
set_option maxRecDepth 20000
namespace Go.Proofs.YtcfhfdphoidaeaaGreatDoor
open Go.RowKit Go.Shelf Go.Sort
section
theorem grow_none(w:World):grow w #[]=w:=by
 cases w;simp[grow]
abbrev Gr:=(St.Wd × St.Wd) × Nat
def encG(g:Gr):List Value:=[.string ⟨g.1.1.toArray⟩,.string ⟨g.1.2.toArray⟩,.int .i64 (g.2:Int)]
theorem gcmp_any(x:St.Wd × St.Wd)(n:Nat)(y:St.Wd × St.Wd)(m:Nat)(w:World):Calls Tryz.prog 190 #[.agg #[.string ⟨x.1.toArray⟩,.string ⟨x.2.toArray⟩,.int .i64 (n:Int)],.agg #[.string ⟨y.1.toArray⟩,.string ⟨y.2.toArray⟩,.int .i64 (m:Int)]] w fun e w'=>e=.returned (.int .i64 (St.cmpP x y))/\∃ q os',w'=grow (w.drewN q) os':=by
 have hc1:=fun W=>cmpS_any x.1 y.1 W
 have hc2:=fun W=>cmpS_any x.2 y.2 W
 have hv:St.cmpP x y=if St.cmpL x.1 y.1=0 then St.cmpL x.2 y.2 else St.cmpL x.1 y.1:=rfl
 rw[hv];generalize St.cmpL x.1 y.1=c1 at hc1 ⊢;generalize St.cmpL x.2 y.2=c2 at hc2 ⊢;have hO:=fun (b:Nat) (W:World) (hb:b<W.heap.size) (h0:W.cell? ⟨b,0,none⟩=some (.int .i64 c1)) (h1:W.cell? ⟨b,1,none⟩=some (.int .i64 c2))=>or2_any b c1 c2 W hb h0 h1
 generalize (if c1=0 then c2 else c1)=cr at hO ⊢;have HO:=hid hO;clear hO;have Hc1:=hid hc1;have Hc2:=hid hc2
 have HC:=hid (fun W (hW:∃ os,W=grow ((w.alloc (.cells #[.string ⟨x.1.toArray⟩,.string ⟨x.2.toArray⟩,.int .i64 (n:Int)] 169)).alloc (.cells #[.string ⟨y.1.toArray⟩,.string ⟨y.2.toArray⟩,.int .i64 (m:Int)] 169)).drew os)=>(show W.cell? ⟨w.heap.size,0,none⟩=some (.string ⟨x.1.toArray⟩)/\W.cell? ⟨w.heap.size,1,none⟩=some (.string ⟨x.2.toArray⟩)/\W.cell? ⟨w.heap.size+1,0,none⟩=some (.string ⟨y.1.toArray⟩)/\W.cell? ⟨w.heap.size+1,1,none⟩=some (.string ⟨y.2.toArray⟩)/\w.heap.size+1<W.heap.size from by
  obtain⟨os,rfl⟩:=hW
  have hu:Und ((w.alloc (.cells #[.string ⟨x.1.toArray⟩,.string ⟨x.2.toArray⟩,.int .i64 (n:Int)] 169)).alloc (.cells #[.string ⟨y.1.toArray⟩,.string ⟨y.2.toArray⟩,.int .i64 (m:Int)] 169)) (grow ((w.alloc (.cells #[.string ⟨x.1.toArray⟩,.string ⟨x.2.toArray⟩,.int .i64 (n:Int)] 169)).alloc (.cells #[.string ⟨y.1.toArray⟩,.string ⟨y.2.toArray⟩,.int .i64 (m:Int)] 169)).drew os):=Und.mk ⟨rfl,rfl,rfl,by simp[grow],fun k hk=>by
   show (((w.alloc (.cells #[.string ⟨x.1.toArray⟩,.string ⟨x.2.toArray⟩,.int .i64 (n:Int)] 169)).alloc (.cells #[.string ⟨y.1.toArray⟩,.string ⟨y.2.toArray⟩,.int .i64 (m:Int)] 169)).heap++os)[k]?=_
   rw[Array.getElem?_append_left hk]⟩
  refine⟨(hu.cell (p:=⟨w.heap.size,0,none⟩) (by simp;try omega)).trans (by simp),(hu.cell (p:=⟨w.heap.size,1,none⟩) (by simp;try omega)).trans (by simp),(hu.cell (p:=⟨w.heap.size+1,0,none⟩) (by simp)).trans ?_,(hu.cell (p:=⟨w.heap.size+1,1,none⟩) (by simp)).trans ?_,Nat.lt_of_lt_of_le (by simp) hu.size⟩
  all_goals
   rw[World.cell?_alloc_at _ _ _ _ (by simp)]
   rfl))
 clear hc1 hc2 hv;go_enter Tryz.func190,Tryz.ntmps190;go_wp2_with fail;refine wp_region_facts (fun a b=>Und a b) (fun _ W=>∃ os,W=grow ((w.alloc (.cells #[.string ⟨x.1.toArray⟩,.string ⟨x.2.toArray⟩,.int .i64 (n:Int)] 169)).alloc (.cells #[.string ⟨y.1.toArray⟩,.string ⟨y.2.toArray⟩,.int .i64 (m:Int)] 169)).drew os) [fun v _=>v=.pointer (some ⟨w.heap.size,0,none⟩),fun v _=>v=.string ⟨x.1.toArray⟩,fun v _=>v=.pointer (some ⟨w.heap.size+1,0,none⟩),fun v _=>v=.string ⟨y.1.toArray⟩,fun v _=>v=.int .i64 c1,fun v _=>v=.pointer (some ⟨w.heap.size,1,none⟩),fun v _=>v=.string ⟨x.2.toArray⟩,fun v _=>v=.pointer (some ⟨w.heap.size+1,1,none⟩),fun v _=>v=.string ⟨y.2.toArray⟩,fun v _=>v=.int .i64 c2,fun v W=>∃ b,v=.slice (some ⟨b,0,none⟩) 2 2/\b<W.heap.size/\W.cell? ⟨b,0,none⟩=some (.int .i64 c1)/\W.cell? ⟨b,1,none⟩=some (.int .i64 c2),fun v _=>v=.int .i64 cr,fun v _=>v=.int .i64 cr] Und.refl (fun a b c h k=>Und.trans h k) (by kernel_rfl) (by rfl) (by kernel_rfl) (by kernel_rfl) ?_ ?hfr ?hI ?hob ?hend
 case hfr=>
  intro ρ;simp only[putAll,Act.put,zsA,zsB,zsC,Nat.zero_add,Nat.reduceAdd];exact rfl
 case hI=>exact⟨#[],(grow_none _).symm⟩
 case hob=>
  refine ObsF.cons (fun ρ L W hR hI hL hD hO hF K hK=>?_) ?_
  ·skip
   clear hF hD hO hL hR;simp only[Act.put,zsA,zsB,zsC] at hK ⊢;go_simp;refine hK _ _ (Und.refl _) hI (fun W2 h2=>?_);rfl
  refine ObsF.cons (fun ρ L W hR hI hL hD hO hF K hK=>?_) ?_
  ·skip
   have f0:=allF_get hF (j:=0) (by decide);clear hF hD hO hL hR;simp only[Act.put,zsA,zsB,zsC] at hK ⊢;have e0:ρ 0=.pointer (some ⟨w.heap.size,0,none⟩):=f0;rw[e0] at hK ⊢;obtain⟨a0,a1,d0,d1,hz⟩:=HC.out W hI;haveI:LtW w.heap.size W:=LtW.of (by omega);haveI:LtW (w.heap.size+1) W:=LtW.of (by omega);go_simp;refine hK _ _ (Und.refl _) hI (fun W2 h2=>?_);rfl
  refine ObsF.cons (fun ρ L W hR hI hL hD hO hF K hK=>?_) ?_
  ·skip
   clear hF hD hO hL hR;simp only[Act.put,zsA,zsB,zsC] at hK ⊢;go_simp;refine hK _ _ (Und.refl _) hI (fun W2 h2=>?_);rfl
  refine ObsF.cons (fun ρ L W hR hI hL hD hO hF K hK=>?_) ?_
  ·skip
   have f2:=allF_get hF (j:=2) (by decide);clear hF hD hO hL hR;simp only[Act.put,zsA,zsB,zsC] at hK ⊢;have e2:ρ 2=.pointer (some ⟨w.heap.size+1,0,none⟩):=f2;rw[e2] at hK ⊢;obtain⟨a0,a1,d0,d1,hz⟩:=HC.out W hI;haveI:LtW w.heap.size W:=LtW.of (by omega);haveI:LtW (w.heap.size+1) W:=LtW.of (by omega);go_simp;refine hK _ _ (Und.refl _) hI (fun W2 h2=>?_);rfl
  refine ObsF.cons (fun ρ L W hR hI hL hD hO hF K hK=>?_) ?_
  ·skip
   have f1:=allF_get hF (j:=1) (by decide);have f3:=allF_get hF (j:=3) (by decide);clear hF hD hO hL hR;simp only[Act.put,zsA,zsB,zsC] at hK ⊢;have e1:ρ 1=.string ⟨x.1.toArray⟩:=f1;have e3:ρ 3=.string ⟨y.1.toArray⟩:=f3;rw[e1,e3] at hK ⊢;refine step_callF3 (o:=⟨some 9,_,_,_,_,_⟩) rfl 80 #[.string ⟨x.1.toArray⟩,.string ⟨y.1.toArray⟩] _ (Hc1.out W) ?_ ?_
   ·go_simp
   rintro e W2 ⟨rfl,rfl⟩;exact⟨_,rfl,hK _ _ (Und.refl _) hI (fun W3 h3=>rfl)⟩
  refine ObsF.cons (fun ρ L W hR hI hL hD hO hF K hK=>?_) ?_
  ·skip
   clear hF hD hO hL hR;simp only[Act.put,zsA,zsB,zsC] at hK ⊢;go_simp;refine hK _ _ (Und.refl _) hI (fun W2 h2=>?_);rfl
  refine ObsF.cons (fun ρ L W hR hI hL hD hO hF K hK=>?_) ?_
  ·skip
   have f5:=allF_get hF (j:=5) (by decide);clear hF hD hO hL hR;simp only[Act.put,zsA,zsB,zsC] at hK ⊢;have e5:ρ 5=.pointer (some ⟨w.heap.size,1,none⟩):=f5;rw[e5] at hK ⊢;obtain⟨a0,a1,d0,d1,hz⟩:=HC.out W hI;haveI:LtW w.heap.size W:=LtW.of (by omega);haveI:LtW (w.heap.size+1) W:=LtW.of (by omega);go_simp;refine hK _ _ (Und.refl _) hI (fun W2 h2=>?_);rfl
  refine ObsF.cons (fun ρ L W hR hI hL hD hO hF K hK=>?_) ?_
  ·skip
   clear hF hD hO hL hR;simp only[Act.put,zsA,zsB,zsC] at hK ⊢;go_simp;refine hK _ _ (Und.refl _) hI (fun W2 h2=>?_);rfl
  refine ObsF.cons (fun ρ L W hR hI hL hD hO hF K hK=>?_) ?_
  ·skip
   have f7:=allF_get hF (j:=7) (by decide);clear hF hD hO hL hR;simp only[Act.put,zsA,zsB,zsC] at hK ⊢;have e7:ρ 7=.pointer (some ⟨w.heap.size+1,1,none⟩):=f7;rw[e7] at hK ⊢;obtain⟨a0,a1,d0,d1,hz⟩:=HC.out W hI;haveI:LtW w.heap.size W:=LtW.of (by omega);haveI:LtW (w.heap.size+1) W:=LtW.of (by omega);go_simp;refine hK _ _ (Und.refl _) hI (fun W2 h2=>?_);rfl
  refine ObsF.cons (fun ρ L W hR hI hL hD hO hF K hK=>?_) ?_
  ·skip
   have f6:=allF_get hF (j:=6) (by decide);have f8:=allF_get hF (j:=8) (by decide);clear hF hD hO hL hR;simp only[Act.put,zsA,zsB,zsC] at hK ⊢;have e6:ρ 6=.string ⟨x.2.toArray⟩:=f6;have e8:ρ 8=.string ⟨y.2.toArray⟩:=f8;rw[e6,e8] at hK ⊢;refine step_callF3 (o:=⟨some 14,_,_,_,_,_⟩) rfl 80 #[.string ⟨x.2.toArray⟩,.string ⟨y.2.toArray⟩] _ (Hc2.out W) ?_ ?_
   ·go_simp
   rintro e W2 ⟨rfl,rfl⟩;exact⟨_,rfl,hK _ _ (Und.refl _) hI (fun W3 h3=>rfl)⟩
  refine ObsF.cons (fun ρ L W hR hI hL hD hO hF K hK=>?_) ?_
  ·skip
   have f4:=allF_get hF (j:=4) (by decide);have f9:=allF_get hF (j:=9) (by decide);clear hF hD hO hL hR;simp only[Act.put,zsA,zsB,zsC] at hK ⊢;have e4:ρ 4=.int .i64 c1:=f4;have e9:ρ 9=.int .i64 c2:=f9;rw[e4,e9] at hK ⊢;go_simp;obtain⟨os,hW⟩:=hI;refine hK _ _ ((Und.refl _).alloc _) ⟨os.push _,by rw[hW,alloc_eq_grow,grow_grow,Array.append_singleton]⟩ (fun W2 h2=>?_);refine⟨W.heap.size,rfl,Nat.lt_of_lt_of_le (by simp) h2.size,(h2.cell (p:=⟨W.heap.size,0,none⟩) (by simp)).trans (by simp),(h2.cell (p:=⟨W.heap.size,1,none⟩) (by simp)).trans (by simp)⟩
  refine ObsF.cons (fun ρ L W hR hI hL hD hO hF K hK=>?_) ?_
  ·skip
   have f10:=allF_get hF (j:=10) (by decide);clear hF hD hO hL hR;simp only[Act.put,zsA,zsB,zsC] at hK ⊢;obtain⟨b,e10,hb,g0,g1⟩:=f10;rw[e10] at hK ⊢;refine step_callF3 (o:=⟨some 16,_,_,_,_,_⟩) rfl 42 #[.slice (some ⟨b,0,none⟩) 2 2] _ (HO.out b W hb g0 g1) ?_ ?_
   ·go_simp
   rintro e W2 ⟨rfl,rfl⟩;exact⟨_,rfl,hK _ _ (Und.refl _) hI (fun W3 h3=>rfl)⟩
  refine ObsF.cons (fun ρ L W hR hI hL hD hO hF K hK=>?_) ?_
  ·skip
   have f11:=allF_get hF (j:=11) (by decide);clear hF hD hO hL hR;simp only[Act.put,zsA,zsB,zsC] at hK ⊢;have e11:ρ 11=.int .i64 cr:=f11;rw[e11] at hK ⊢;go_simp;refine hK _ _ (Und.refl _) hI (fun W2 h2=>?_);rfl
  exact ObsF.nil
 case hend=>
  intro ρ L W hR hI hL hF
  have e12:ρ 12=.int .i64 cr:=by
   obtain⟨_,_,_,_,_,_,_,_,_,_,_,_,h,_⟩:=hF;exact h
  rw[e12];clear hR hL hF e12;obtain⟨os,rfl⟩:=hI;go_wp2;go_ret;refine⟨rfl,1,#[.cells #[.string ⟨x.1.toArray⟩,.string ⟨x.2.toArray⟩,.int .i64 (n:Int)] 169]++(#[.cells #[.string ⟨y.1.toArray⟩,.string ⟨y.2.toArray⟩,.int .i64 (m:Int)] 169]++os),?_⟩;rw[alloc_eq_grow,alloc_eq_grow,drew_grow,drew_grow,grow_grow,grow_grow];rfl
theorem ltG(x y:Gr):ltOf (fun a b:Gr=>St.cmpP a.1 b.1) x y=true ↔ St.ltP x.1 y.1:=by
 unfold ltOf;rw[decide_eq_true_eq];exact St.cmpP_neg _ _
theorem swoG:SWO (ltOf fun a b:Gr=>St.cmpP a.1 b.1) where
 irrefl x:=by rw[Bool.eq_false_iff,Ne,ltG];exact St.ltP_irr _
 trans x y z h1 h2:=by rw[ltG] at *;exact St.ltP_trans h1 h2
 ntrans x y z h1 h2:=by rw[Bool.eq_false_iff,Ne,ltG] at *;exact St.ltP_ntrans h1 h2
theorem agg_gram:∀ w,(isAgg 169).run Tryz.prog w=.ok true w:=fun w=>by kernel_rfl
theorem size_gram:∀ w,(Go.sizeOf 169).run Tryz.prog w=.ok 3 w:=fun w=>by kernel_rfl
theorem gsort_any(blk off cap:Nat)(d:Array Gr)(w:World)(hH:HoldsK encG 3 w blk off d)(hblk:blk<w.heap.size)(hsz:d.size<4611686018427387904) :
  Calls Tryz.prog 189 #[.slice (some ⟨blk,off,none⟩) d.size cap,.func (.func 190) #[] #[]] w fun e w'=>
   e=.returned (.tuple #[])/\∃ d' n os,PermIn 0 d.size d d'/\w'=sortWorldK encG 3 w blk off n d' os:=by
 have eg:∀ args w,(callFunc 190 args).run Tryz.prog w=.ok (.enter 190 args) w:=enters_of Tryz.func190 (by kernel_rfl) rfl;have hcmp:CmpLays Tryz.prog 190 #[] encG 3 (fun a b=>St.cmpP a.1 b.1) blk off d.size w:=fun m os dk hdk x y=>gcmp_any x.1 x.2 y.1 y.2 _
 have h:=AnyQ.slices_SortFunc Tryz.gramSort 3 agg_gram size_gram encG (fun _=>rfl) (fun x v hv=>by simp[encG] at hv;rcases hv with rfl|rfl|rfl <;> rfl) (fun a b=>St.cmpP a.1 b.1) swoG 190 #[] blk off cap d w eg hcmp hH hblk hsz;refine h.mono ?_;rintro e w' ⟨rfl,d',n,os,hp,_,rfl⟩;exact⟨rfl,d',n,os,hp,rfl⟩
end
section
namespace St
def inF:Wd->List Wd->List (Wd × Wd)
 | _,[]=>[]
 | p,w :: r=>(p,w) :: inF w r
def lastW:Wd->List Wd->Wd
 | p,[]=>p
 | _,w :: r=>lastW w r
theorem prs_in:∀ (r:List Wd) (p:Wd),prsF p r=inF p r++[(lastW p r,[])]
 | [],_=>rfl
 | w :: r,p=>by rw[prsF,inF,lastW,prs_in r w];rfl
theorem in_snoc:∀ (r:List Wd) (p w:Wd),inF p (r++[w])=inF p r++[(lastW p r,w)]
 | [],_,_=>rfl
 | v :: r,p,w=>by rw[List.cons_append,inF,inF,lastW,in_snoc r v w];rfl
theorem last_snoc:∀ (r:List Wd) (p w:Wd),lastW p (r++[w])=w
 | [],_,_=>rfl
 | v :: r,p,w=>by rw[List.cons_append,lastW,last_snoc r v w]
theorem in_take(ws:List Wd)(p:Wd)(i:Nat)(h:i<ws.length):inF p (ws.take (i+1))=inF p (ws.take i)++[(lastW p (ws.take i),ws[i])]/\lastW p (ws.take (i+1))=ws[i]:=by
 have e:ws.take (i+1)=ws.take i++[ws[i]]:=by rw[List.take_add_one,List.getElem?_eq_getElem h];rfl
 rw[e];exact⟨in_snoc _ _ _,last_snoc _ _ _⟩
theorem in_len:∀ (r:List Wd) (p:Wd),(inF p r).length=r.length
 | [],_=>rfl
 | w :: r,p=>by rw[inF,List.length_cons,in_len r w];rfl
theorem last_ok{r:List Wd}{p:Wd}{m:Nat}(hp:p.length<=m)(h:∀ w ∈ r,w.length<=m):(lastW p r).length<=m:=by
 induction r generalizing p with
 | nil=>exact hp
 | cons w r ih=>exact ih (h w (List.mem_cons_self ..)) fun v hv=>h v (List.mem_cons_of_mem _ hv)
theorem in_ok{r:List Wd}{p:Wd}{m:Nat}(hp:p.length<=m)(h:∀ w ∈ r,w.length<=m):∀ q ∈ inF p r,q.1.length<=m/\q.2.length<=m:=by
 induction r generalizing p with
 | nil=>intro q hq;cases hq
 | cons w r ih=>
  intro q hq;rcases List.mem_cons.1 hq with rfl|hq
  ·exact⟨hp,h w (List.mem_cons_self ..)⟩
  ·exact ih (h w (List.mem_cons_self ..)) (fun v hv=>h v (List.mem_cons_of_mem _ hv)) q hq
end St
def WdsAt(w:World)(A:Option Addr)(l:List St.Wd):Prop:=l.length > 0->∃ b off,A=some ⟨b,off,none⟩/\b<w.heap.size/\∀ j (h:j<l.length),w.cell? ⟨b,off+j,none⟩=some (.string ⟨l[j].toArray⟩)
theorem WdsAt.und{w w':World}{A:Option Addr}{f:List St.Wd}(h:WdsAt w A f)(u:Und w w'):WdsAt w' A f:=by
 intro h0;obtain⟨b,off,rfl,hb,hc⟩:=h h0;exact⟨b,off,rfl,Nat.lt_of_lt_of_le hb u.size,fun j hj=>(u.cell hb).trans (hc j hj)⟩
theorem wds_own{w:World}{B n c:Nat}{A:Option Addr}{l:List St.Wd}(h:w.ownsRow B 9 1 (.slice A n c) n (cellsW l))(hn:l.length=n):WdsAt w A l:=by
 intro h0;obtain⟨g,rfl,_,hg,hc⟩:=own_cell h (by omega);refine⟨g,0,rfl,hg,fun j hj=>?_⟩;rw[Nat.zero_add];exact hc j _ (by simp[cellsW,hj])
theorem info_gram:(Tryz.prog.info? 169).map (fun i=>(i.zero,i.size,i.bytes))=some (some (.agg #[.string ⟨#[]⟩,.string ⟨#[]⟩,.int .i64 0]),3,40):=by kernel_rfl
theorem gram_one(s t:ByteArray)(i:Int):∀ u ∈ [Value.string s,Value.string t,Value.int .i64 i],u.oneCell'=true:=by
 intro u hu;simp at hu;rcases hu with rfl|rfl|rfl <;> rfl
namespace St
theorem once_len{C:Type}[DecidableEq C](l:List C):(onceL l).length<=l.length:=by
 have:∀ l o:List C,(l.foldl (fun o x=>if x ∈ o then o else o++[x]) o).length<=o.length+l.length:=by
  intro l
  induction l with
  | nil=>intro o;simp
  | cons a l ih=>
   intro o;rw[List.foldl_cons,List.length_cons];have:=ih (if a ∈ o then o else o++[a])
   split at this
   ·rename_i h;rw[if_pos h];omega
   ·rename_i h;rw[if_neg h];rw[List.length_append,List.length_singleton] at this;omega
 have h:=this l [];simpa [onceL] using h
end St
def toE(g:Gr):(St.Wd × St.Wd) × Value:=(g.1,.int .i64 (g.2:Int))
def cellsG(G:List Gr):List Value:=G.flatMap encG
theorem cellsG_snoc(G:List Gr)(g:Gr):cellsG (G++[g])=cellsG G++encG g:=by simp[cellsG]
theorem cellsG_get:∀ (G:List Gr) (i c:Nat) (h:i<G.length),c<3->(cellsG G)[i*3+c]?=(encG G[i])[c]?
 | [],_,_,h,_=>by simp at h
 | g :: G,0,c,_,hc=>by
  show (encG g++cellsG G)[0*3+c]?=_
  rw[Nat.zero_mul,Nat.zero_add,List.getElem?_append_left (by simp[encG];omega)];rfl
 | g :: G,i+1,c,h,hc=>by
  have ih:=cellsG_get G i c (by simpa using h) hc
  show (encG g++cellsG G)[(i+1)*3+c]?=_
  have hl:(encG g).length=3:=rfl;rw[List.getElem?_append_right (by rw[hl];omega),hl,show (i+1)*3+c-3=i*3+c by omega,ih];rfl
def GramsAt(w:World)(A:Option Addr)(G:List Gr):Prop:=G.length > 0->∃ b off,A=some ⟨b,off,none⟩/\b<w.heap.size/\∀ j (h:j<G.length),w.cell? ⟨b,off+j*3,none⟩=some (.string ⟨G[j].1.1.toArray⟩)/\w.cell? ⟨b,off+j*3+1,none⟩=some (.string ⟨G[j].1.2.toArray⟩)/\w.cell? ⟨b,off+j*3+2,none⟩=some (.int .i64 (G[j].2:Int))
theorem GramsAt.und{w w':World}{A:Option Addr}{f:List Gr}(h:GramsAt w A f)(u:Und w w'):GramsAt w' A f:=by
 intro h0;obtain⟨b,off,rfl,hb,hc⟩:=h h0;refine⟨b,off,rfl,Nat.lt_of_lt_of_le hb u.size,fun j hj=>?_⟩;obtain⟨c0,c1,c2⟩:=hc j hj;exact⟨(u.cell hb).trans c0,(u.cell hb).trans c1,(u.cell hb).trans c2⟩
theorem own_cellF{w:World}{B e n c:Nat}{A:Option Addr}{xs:List Value}(h:w.ownsRow B e 3 (.slice A n c) n xs)(hn:0<n) :
  ∃ g,A=some ⟨g,0,none⟩/\B<=g/\g<w.heap.size/\(∀ (j:Nat) (v:Value),xs[j]?=some v->w.cell? ⟨g,j,none⟩=some v)/\∀ j,w.frozen? ⟨g,j,none⟩=false:=by
 obtain⟨g,rfl,h1,h2,h3⟩:=own_cell h hn;refine⟨g,rfl,h1,h2,h3,fun j=>?_⟩;rcases h.2 with ⟨h0,_⟩|⟨g',cap,cur,h0,_,hg,_⟩
 ·cases h0
 ·cases h0
  exact zfH hg j
theorem holds_grams{w:World}{g:Nat}{G:List Gr}(h:∀ (j:Nat) (v:Value),(cellsG G)[j]?=some v->w.cell? ⟨g,j,none⟩=some v)(hf:∀ j,w.frozen? ⟨g,j,none⟩=false):HoldsK encG 3 w g 0 G.toArray:=by
 intro j hj;rw[size_flatK] at hj;have hj':j<G.length*3:=by simpa using hj
 refine⟨?_,by rw[Nat.zero_add];exact hf j⟩;rw[get_flatK encG 3 G.toArray j hj,Nat.zero_add];have hi:j / 3<G.length:=by omega
 have hc:j % 3<3:=Nat.mod_lt _ (by omega);refine h j _ ?_;have:=cellsG_get G (j / 3) (j % 3) hi hc
 rw[show j / 3*3+j % 3=j by omega] at this;rw[this];have e:G.toArray[j / 3]! = G[j / 3]:=by rw[getElem!_pos _ _ (by simpa using hi)];simp
 rw[e,getElem!_pos (encG G[j / 3]) (j % 3) (by show _<3;exact hc)];exact List.getElem?_eq_getElem _
theorem permin_list{d d':Array Gr}(h:Sort.PermIn 0 d.size d d'):d'.size=d.size/\d'.toList.Perm d.toList:=by
 obtain⟨h1,_,h3⟩:=h;refine⟨h1,?_⟩;rw[Array.toList_extract,Array.toList_extract] at h3;rw[List.extract_eq_take_drop] at h3;simp only[List.drop_zero,Nat.sub_zero] at h3;rw[List.extract_eq_take_drop] at h3;simp only[List.drop_zero,Nat.sub_zero] at h3;rw[List.take_of_length_le (by simp[h1]),List.take_of_length_le (by simp)] at h3;exact h3
theorem sorted_grams{w:World}{g:Nat}{G:List Gr}{d':Array Gr}(h:HoldsK encG 3 w g 0 G.toArray)(hg:g<w.heap.size)(hs:d'.size=G.toArray.size)(q:Nat)(os:Array Obj) :
  GramsAt (sortWorldK encG 3 w g 0 q d' os) (some ⟨g,0,none⟩) d'.toList/\∀ w0,Und w0 w->w0.heap.size<=g->Und w0 (sortWorldK encG 3 w g 0 q d' os):=by
 have hsw:=(SWK.start (enc:=encG) (k:=3) h).on hg q d' os hs;have hh:=hsw.holds hg h hs
 have hu:∀ w0,Und w0 w->w0.heap.size<=g->Und w0 (sortWorldK encG 3 w g 0 q d' os):=by
  intro w0 hw hb;have b:=hw.below;refine Und.mk ⟨b.os,b.tape,b.output,Nat.le_trans b.size hsw.le,fun k hk=>?_⟩;rw[<- b.block k hk];have hkl:k<w.heap.size:=Nat.lt_of_lt_of_le hk b.size
  show ((putRowK encG 3 (Sort.ahead w q) g 0 d').heap++os)[k]?=_
  rw[Array.getElem?_append_left (by rw[size_putRowK];exact hkl)];unfold putRowK Sort.putRow Sort.mapBlock;simp only[];rw[Array.getElem?_modify,if_neg (by omega)];rfl
 refine⟨fun h0=>⟨g,0,rfl,Nat.lt_of_lt_of_le hg hsw.le,fun j hj=>?_⟩,hu⟩;have hj':j<d'.size:=by simpa using hj
 have e:d'[j]! = d'.toList[j]:=by rw[getElem!_pos d' j hj'];simp
 have c0:=hh.cell hj' (show 0<3 by omega);have c1:=hh.cell hj' (show 1<3 by omega);have c2:=hh.cell hj' (show 2<3 by omega);rw[e] at c0 c1 c2;exact⟨by simpa [encG] using c0.1,by simpa [encG,Nat.add_assoc] using c1.1,by simpa [encG,Nat.add_assoc] using c2.1⟩
end
section
def Gm2Rel(w:World)(E:List ((St.Wd × St.Wd) × Value))(r:Nat)(s7:Value)(wr:World):Prop:=
 ∃ (O:List Gr) (rest:List ((St.Wd × St.Wd) × Value)),Mg.Rng Mg.prV wr r w.heap.size E rest/\(O.map toE++rest).Perm E/\wr.ownsRow (r+1) 169 3 s7 O.length (cellsG O)/\r<wr.heap.size/\Und w wr
def GmRel(w:World)(ws:List St.Wd)(s4 s13:Value)(wr:World):Prop:=
 ∃ i:Nat,i<=ws.length/\s13=.int .i64 i/\s4=.string ⟨(St.lastW [] (ws.take i)).toArray⟩/\Mg.At Mg.prV wr w.heap.size (Mg.cl (St.onceL (St.inF [] (ws.take i))) (fun c=>(((St.inF [] (ws.take i)).count c:Nat):Int)))/\Und w wr
theorem grams_any(A:Option Addr)(n c:Nat)(ws:List St.Wd)(w:World)(hn:ws.length=n)(h:WdsAt w A ws)(hl:n<=1000000)(hw:∀ x ∈ ws,x.length<=1000000000) :
  Calls Tryz.prog 135 #[.slice A n c] w fun e w'=>∃ (A':Option Addr) (n' c':Nat) (G:List Gr),e=.returned (.slice A' n' c')/\n'=G.length/\GramsAt w' A' G/\G.Perm ((St.onceL (St.prsF [] ws)).map fun p=>(p,(St.prsF [] ws).count p))/\Und w w':=by
 have H:=hid h;have HN:=hid hn;have HW:=hid hw;have hmk:=@run_makeMap Tryz.prog;clear h hn hw;go_enter Tryz.func135,Tryz.ntmps135;go_wp2;go_loopw [4,13] (fun s4 s13 wr=>GmRel w ws s4 s13 wr) (fun _ s13 _=>n+1-(intOf s13).toNat)
 case atStart=>exact⟨0,by omega,rfl,rfl,by
  have:=Mg.made_at (kv:=Mg.prV) w
  simpa [St.inF,Mg.cl,St.onceL] using this,(Und.refl w).alloc _⟩
 case round=>
  obtain⟨i,hi,rfl,rfl,hat,hu⟩:=hrel;have HU:=hid hu;have HAT:=hid hat;have hN:=HN.out;obtain⟨lw,hlw⟩:∃ lw,St.lastW [] (ws.take i)=lw:=⟨_,rfl⟩;have hll:lw.length<=1000000000:=by rw[<- hlw];exact St.last_ok (by simp) fun x hx=>HW.out x (List.mem_of_mem_take hx)
  have hin:=St.in_len (ws.take i) [];have htl:(ws.take i).length<=n:=by rw[List.length_take];omega
  rw[hlw]
  by_cases hlt:i<n
  ·have hlt2:i<ws.length:=by omega
   obtain⟨ab,aoff,rfl,hb,hc⟩:=(H.out.und hu) (by omega);have c0:=hc i hlt2;obtain⟨hst,hla⟩:=St.in_take ws [] i hlt2;have hwl:=HW.out ws[i] (List.getElem_mem hlt2);rw[hlw] at hst;generalize ws[i]=wd at c0 hst hla hwl;haveI:LtW ab wr:=LtW.of hb;have HST:=hid hst;have HLW:=hid hla;obtain⟨nn,hnn⟩:∃ nn:Int,(fun c=>(((St.inF [] (ws.take i)).count c:Nat):Int)) (lw,wd)=nn:=⟨_,rfl⟩
   have hnl:0<=nn/\nn<=1000000:=by
    have h1:(St.inF [] (ws.take i)).count (lw,wd)<=(St.inF [] (ws.take i)).length:=List.count_le_length;rw[<- hnn];constructor <;> (simp only[];omega)
   have HGK:=hid (show Mg.prGood (lw,wd) from⟨by show lw.length<=_;omega,by show wd.length<=_;omega⟩)
   have HKG:=hid (show ∀ c ∈ St.onceL (St.inF [] (ws.take i)),Mg.prGood c from fun c hm=>by
    have:=St.in_ok (p:=[]) (m:=1000000000) (by simp) (fun x hx=>HW.out x (List.mem_of_mem_take hx)) c ((St.once_both (St.inF [] (ws.take i))).2 c |>.1 hm)
    exact⟨by omega,by omega⟩)
   have HKN:=hid (St.once_both (St.inF [] (ws.take i))).1
   have H0:=hid (show (lw,wd) ∉ St.onceL (St.inF [] (ws.take i))->(fun c=>(((St.inF [] (ws.take i)).count c:Nat):Int)) (lw,wd)=0 from fun hm=>by
    have h1:(lw,wd) ∉ St.inF [] (ws.take i):=fun h=>hm ((St.once_both _).2 _ |>.2 h)
    simp only[List.count_eq_zero_of_not_mem h1];rfl)
   have HFV:=hid hnn
   have HFN:=hid (show (fun c=>(((St.inF [] (ws.take (i+1))).count c:Nat):Int)) (lw,wd)=nn+1 from by
    have h:=hnn;dsimp only at h ⊢;rw[HST.out,List.count_append,List.count_singleton_self]
    omega)
   have HNE:=hid (show nn+1 ≠ (fun c=>(((St.inF [] (ws.take i)).count c:Nat):Int)) (lw,wd) from by
    have h:=hnn;dsimp only at h ⊢
    omega)
   have HFO:=hid (show ∀ c,c ≠ (lw,wd)->(fun c=>(((St.inF [] (ws.take (i+1))).count c:Nat):Int)) c=(fun c=>(((St.inF [] (ws.take i)).count c:Nat):Int)) c from fun c hc=>by
    dsimp only
    rw[HST.out,List.count_append,show List.count c [(lw,wd)]=0 from List.count_eq_zero_of_not_mem (by simpa using hc),Nat.add_zero])
   clear hst hla hnn hc hu hat hlw;go_wp2_with fail;refine wp_region_facts (Mg.CntR Mg.prV w.heap.size (Mg.ens (lw,wd) (.int .i64 0) (Mg.cl (St.onceL (St.inF [] (ws.take i))) ((fun c=>(((St.inF [] (ws.take i)).count c:Nat):Int))))) (Mg.cl (Mg.addK (St.onceL (St.inF [] (ws.take i))) (lw,wd)) ((fun c=>(((St.inF [] (ws.take (i+1))).count c:Nat):Int))))) (Mg.Cnt Mg.prV wr w.heap.size (Mg.ens (lw,wd) (.int .i64 0) (Mg.cl (St.onceL (St.inF [] (ws.take i))) ((fun c=>(((St.inF [] (ws.take i)).count c:Nat):Int))))) (Mg.cl (Mg.addK (St.onceL (St.inF [] (ws.take i))) (lw,wd)) ((fun c=>(((St.inF [] (ws.take (i+1))).count c:Nat):Int)))) 6 8) [fun v _=>v=.map (some w.heap.size),fun v _=>v=.string ⟨lw.toArray⟩,fun v _=>v=.string ⟨wd.toArray⟩,fun v _=>v=.agg #[.string ⟨lw.toArray⟩,.string ⟨wd.toArray⟩],fun v _=>v=.int .i64 nn,fun v _=>v=.int .i64 (nn+1),fun v W=>(∃ (j:Nat) (u x:Value),v=.tuple #[x,.int .i64 j]/\(Mg.ens (lw,wd) (.int .i64 0) (Mg.cl (St.onceL (St.inF [] (ws.take i))) ((fun c=>(((St.inF [] (ws.take i)).count c:Nat):Int)))))[j]?=some ((lw,wd),u))/\(Mg.At Mg.prV W w.heap.size (Mg.ens (lw,wd) (.int .i64 0) (Mg.cl (St.onceL (St.inF [] (ws.take i))) ((fun c=>(((St.inF [] (ws.take i)).count c:Nat):Int)))))∨Mg.At Mg.prV W w.heap.size (Mg.cl (Mg.addK (St.onceL (St.inF [] (ws.take i))) (lw,wd)) ((fun c=>(((St.inF [] (ws.take (i+1))).count c:Nat):Int))))),fun v W=>(∃ (j:Nat) (u:Value),v=.int .i64 j/\(Mg.ens (lw,wd) (.int .i64 0) (Mg.cl (St.onceL (St.inF [] (ws.take i))) ((fun c=>(((St.inF [] (ws.take i)).count c:Nat):Int)))))[j]?=some ((lw,wd),u))/\(Mg.At Mg.prV W w.heap.size (Mg.ens (lw,wd) (.int .i64 0) (Mg.cl (St.onceL (St.inF [] (ws.take i))) ((fun c=>(((St.inF [] (ws.take i)).count c:Nat):Int)))))∨Mg.At Mg.prV W w.heap.size (Mg.cl (Mg.addK (St.onceL (St.inF [] (ws.take i))) (lw,wd)) ((fun c=>(((St.inF [] (ws.take (i+1))).count c:Nat):Int))))),noFact] Mg.CntR.refl Mg.CntR.trans (by kernel_rfl) (by rfl) (by kernel_rfl) (by kernel_rfl) ?frg ?hfr ?hI ?hob ?hend
   case hfr=>
    intro ρ;simp only[putAll,Act.put,zsA,zsB,zsC,Nat.zero_add,Nat.reduceAdd];exact rfl
   case hI=>
    unfold Mg.Cnt;simp only[Bool.false_eq_true,if_false];exact(by apply_rules[uUe,uUa,uUb,uUc,uUd])
   case hob=>
    refine ObsF.cons (fun ρ L W hR hI hL hD hO hF K hK=>?_) ?_
    ·skip
     clear hF hD hO;simp only[Act.put,zsA,zsB,zsC] at hK ⊢;go_simp;refine hK _ _ (Mg.CntR.refl _) (hI.keep (by decide) (by decide)) (fun W2 h2=>?_);rfl
    refine ObsF.cons (fun ρ L W hR hI hL hD hO hF K hK=>?_) ?_
    ·skip
     clear hF hD hO;simp only[Act.put,zsA,zsB,zsC] at hK ⊢;go_simp;refine hK _ _ (Mg.CntR.refl _) (hI.keep (by decide) (by decide)) (fun W2 h2=>?_);rfl
    refine ObsF.cons (fun ρ L W hR hI hL hD hO hF K hK=>?_) ?_
    ·skip
     clear hF hD hO;simp only[Act.put,zsA,zsB,zsC] at hK ⊢;go_simp;refine hK _ _ (Mg.CntR.refl _) (hI.keep (by decide) (by decide)) (fun W2 h2=>?_);rfl
    refine ObsF.cons (fun ρ L W hR hI hL hD hO hF K hK=>?_) ?_
    ·skip
     have f1:=allF_get hF (j:=1) (by decide);have f2:=allF_get hF (j:=2) (by decide);clear hF hD hO;simp only[Act.put,zsA,zsB,zsC] at hK ⊢;have e1:ρ 1=.string ⟨lw.toArray⟩:=f1;have e2:ρ 2=.string ⟨wd.toArray⟩:=f2;rw[e1,e2] at hK ⊢;go_simp;refine hK _ _ (Mg.CntR.refl _) (hI.keep (by decide) (by decide)) (fun W2 h2=>?_);rfl
    refine ObsF.cons (fun ρ L W hR hI hL hD hO hF K hK=>?_) ?_
    ·skip
     have f0:=allF_get hF (j:=0) (by decide);have f3:=allF_get hF (j:=3) (by decide);have hp0:L 5=false:=hD.not (p:=5) rfl (by decide) hL;have hp1:L 8=false:=hD.not (p:=8) rfl (by decide) hp0;clear hF hD hO;simp only[Act.put,zsA,zsB,zsC] at hK ⊢;have e0:ρ 0=.map (some w.heap.size):=f0;have e3:ρ 3=.agg #[.string ⟨lw.toArray⟩,.string ⟨wd.toArray⟩]:=f3;rw[e0,e3] at hK ⊢;have hr:(Instr.lookup 283 (.map (some w.heap.size)) (.agg #[.string ⟨lw.toArray⟩,.string ⟨wd.toArray⟩]) false).run Tryz.prog W=.ok (.int .i64 (nn)) W:=hI.read Mg.spr_KV Tryz.underlying283 hp1 HAT.out HKG.out HKN.out HGK.out H0.out HFV.out;go_simp;refine hK _ _ (Mg.CntR.refl _) (hI.keep (by decide) (by decide)) (fun W2 h2=>?_);rfl
    refine ObsF.cons (fun ρ L W hR hI hL hD hO hF K hK=>?_) ?_
    ·skip
     have f4:=allF_get hF (j:=4) (by decide);clear hF hD hO;simp only[Act.put,zsA,zsB,zsC] at hK ⊢;have e4:ρ 4=.int .i64 nn:=f4;rw[e4] at hK ⊢;have yw:=wr_i64 (x:=nn+1) (by omega) (by omega);go_simp;refine hK _ _ (Mg.CntR.refl _) (hI.keep (by decide) (by decide)) (fun W2 h2=>?_);rfl
    refine ObsF.cons (fun ρ L W hR hI hL hD hO hF K hK=>?_) ?_
    ·skip
     have f0:=allF_get hF (j:=0) (by decide);have f3:=allF_get hF (j:=3) (by decide);have hp0:L 7=false:=hD.not (p:=7) rfl (by decide) hL;have hp1:L 8=false:=hD.not (p:=8) rfl (by decide) hp0;clear hF hD hO;simp only[Act.put,zsA,zsB,zsC] at hK ⊢;have e0:ρ 0=.map (some w.heap.size):=f0;have e3:ρ 3=.agg #[.string ⟨lw.toArray⟩,.string ⟨wd.toArray⟩]:=f3;rw[e0,e3] at hK ⊢;obtain⟨j,u,x,hj,hr,hat,hI2⟩:=hI.opens Mg.spr_KV Tryz.underlying283 hL hp1 (by decide) HAT.out HKG.out HKN.out HGK.out
     replace hr:(Instr.mapEntry 283 (.map (some w.heap.size)) (.agg #[.string ⟨lw.toArray⟩,.string ⟨wd.toArray⟩])).run Tryz.prog W=_:=hr
     go_simp;refine hK _ _ (fun _=>.inl hat) hI2 (fun W2 h2=>⟨⟨j,u,x,rfl,hj⟩,h2 (.inl hat)⟩)
    refine ObsF.cons (fun ρ L W hR hI hL hD hO hF K hK=>?_) ?_
    ·skip
     have f6:=allF_get hF (j:=6) (by decide);clear hF hD hO;simp only[Act.put,zsA,zsB,zsC] at hK ⊢;obtain⟨⟨j6,u6,x6,e6,hj6⟩,hat⟩:=f6;rw[e6] at hK ⊢;go_simp;refine hK _ _ (Mg.CntR.refl _) (hI.keep (by decide) (by decide)) (fun W2 h2=>⟨⟨j6,u6,rfl,hj6⟩,h2 hat⟩)
    refine ObsF.cons (fun ρ L W hR hI hL hD hO hF K hK=>?_) ?_
    ·skip
     have f0:=allF_get hF (j:=0) (by decide);have f7:=allF_get hF (j:=7) (by decide);have f5:=allF_get hF (j:=5) (by decide);clear hF hD hO;simp only[Act.put,zsA,zsB,zsC] at hK ⊢;have e0:ρ 0=.map (some w.heap.size):=f0;obtain⟨⟨j7,u7,e7,hj7⟩,hat⟩:=f7;have e5:ρ 5=.int .i64 (nn+1):=f5;rw[e0,e7,e5] at hK ⊢;obtain⟨W9,hr,hI2,hat2⟩:=hI.stores Mg.spr_KV Tryz.underlying283 hL HAT.out HKG.out HKN.out HGK.out HFN.out HNE.out HFO.out hj7 hat
     replace hr:(Instr.entryStore 283 (.map (some w.heap.size)) (.int .i64 j7) (.int .i64 (nn+1))).run Tryz.prog W=_:=hr
     go_simp;refine hK undef _ (fun _=>.inr hat2) hI2 (fun _ _=>trivial)
    exact ObsF.nil
   case hend=>
    intro ρ L W hR hI hL hF;have hLS:L 8=true:=hL 8 (by decide);unfold Mg.Cnt at hI;rw[if_pos hLS] at hI;obtain⟨W0,hu0,rfl⟩:=hI;clear hLS hR hL hF
    have hE:=hid (fun W (hW:Und (Mg.put Mg.prV W0 w.heap.size (Mg.cl (Mg.addK (St.onceL (St.inF [] (ws.take i))) (lw,wd)) (fun c=>(((St.inF [] (ws.take (i+1))).count c:Nat):Int)))) W)=>(show GmRel w ws (.string ⟨wd.toArray⟩) (.int .i64 ((i:Int)+1)) W from⟨i+1,by omega,congrArg (Value.int .i64) (by omega),by rw[HLW.out],by
     have hp:=(Mg.put_at (HAT.out.und hu0) (Mg.cl (Mg.addK (St.onceL (St.inF [] (ws.take i))) (lw,wd)) (fun c=>(((St.inF [] (ws.take (i+1))).count c:Nat):Int)))).und hW;rw[HST.out] at hp ⊢;rw[<- Mg.addK_once]
     exact hp,(Mg.put_und _ (HU.out.trans hu0) (Nat.le_refl _)).trans hW⟩))
    clear hu0;go_wp2;exact⟨hE.out _ (Und.refl _),by simp[intOf];omega⟩
  ·have hin2:n=i:=by omega
   subst hin2;have hft:ws.take n=ws:=List.take_of_length_le (by omega);rw[hft] at HAT hlw hin;have hst:=St.prs_in ws [];rw[hlw] at hst;have HST:=hid hst;obtain⟨nn,hnn⟩:∃ nn:Int,(fun c=>(((St.inF [] ws).count c:Nat):Int)) (lw,([]:St.Wd))=nn:=⟨_,rfl⟩
   have hnl:0<=nn/\nn<=1000000:=by
    have h1:(St.inF [] ws).count (lw,([]:St.Wd))<=(St.inF [] ws).length:=List.count_le_length;rw[<- hnn];constructor <;> (simp only[];omega)
   have HGK:=hid (show Mg.prGood (lw,([]:St.Wd)) from⟨by show lw.length<=_;omega,by simp⟩)
   have HKG:=hid (show ∀ c ∈ St.onceL (St.inF [] ws),Mg.prGood c from fun c hm=>by
    have:=St.in_ok (p:=[]) (m:=1000000000) (by simp) HW.out c ((St.once_both (St.inF [] ws)).2 c |>.1 hm)
    exact⟨by omega,by omega⟩)
   have HKN:=hid (St.once_both (St.inF [] ws)).1
   have H0:=hid (show (lw,([]:St.Wd)) ∉ St.onceL (St.inF [] ws)->(fun c=>(((St.inF [] ws).count c:Nat):Int)) (lw,([]:St.Wd))=0 from fun hm=>by
    have h1:(lw,([]:St.Wd)) ∉ St.inF [] ws:=fun h=>hm ((St.once_both _).2 _ |>.2 h)
    simp only[List.count_eq_zero_of_not_mem h1];rfl)
   have HFV:=hid hnn
   have HFN:=hid (show (fun c=>(((St.prsF [] ws).count c:Nat):Int)) (lw,([]:St.Wd))=nn+1 from by
    have h:=hnn;dsimp only at h ⊢;rw[HST.out,List.count_append,List.count_singleton_self]
    omega)
   have HNE:=hid (show nn+1 ≠ (fun c=>(((St.inF [] ws).count c:Nat):Int)) (lw,([]:St.Wd)) from by
    have h:=hnn;dsimp only at h ⊢
    omega)
   have HFO:=hid (show ∀ c,c ≠ (lw,([]:St.Wd))->(fun c=>(((St.prsF [] ws).count c:Nat):Int)) c=(fun c=>(((St.inF [] ws).count c:Nat):Int)) c from fun c hc=>by
    dsimp only
    rw[HST.out,List.count_append,show List.count c [(lw,([]:St.Wd))]=0 from List.count_eq_zero_of_not_mem (by simpa using hc),Nat.add_zero])
   clear hst hnn hu hat hlw hlt;go_wp2_with fail;refine wp_region_facts (Mg.CntR Mg.prV w.heap.size (Mg.ens (lw,([]:St.Wd)) (.int .i64 0) (Mg.cl (St.onceL (St.inF [] ws)) ((fun c=>(((St.inF [] ws).count c:Nat):Int))))) (Mg.cl (Mg.addK (St.onceL (St.inF [] ws)) (lw,([]:St.Wd))) ((fun c=>(((St.prsF [] ws).count c:Nat):Int))))) (Mg.Cnt Mg.prV wr w.heap.size (Mg.ens (lw,([]:St.Wd)) (.int .i64 0) (Mg.cl (St.onceL (St.inF [] ws)) ((fun c=>(((St.inF [] ws).count c:Nat):Int))))) (Mg.cl (Mg.addK (St.onceL (St.inF [] ws)) (lw,([]:St.Wd))) ((fun c=>(((St.prsF [] ws).count c:Nat):Int)))) 5 7) [fun v _=>v=.map (some w.heap.size),fun v _=>v=.string ⟨lw.toArray⟩,fun v _=>v=.agg #[.string ⟨lw.toArray⟩,.string ⟨#[]⟩],fun v _=>v=.int .i64 nn,fun v _=>v=.int .i64 (nn+1),fun v W=>(∃ (j:Nat) (u x:Value),v=.tuple #[x,.int .i64 j]/\(Mg.ens (lw,([]:St.Wd)) (.int .i64 0) (Mg.cl (St.onceL (St.inF [] ws)) ((fun c=>(((St.inF [] ws).count c:Nat):Int)))))[j]?=some ((lw,([]:St.Wd)),u))/\(Mg.At Mg.prV W w.heap.size (Mg.ens (lw,([]:St.Wd)) (.int .i64 0) (Mg.cl (St.onceL (St.inF [] ws)) ((fun c=>(((St.inF [] ws).count c:Nat):Int)))))∨Mg.At Mg.prV W w.heap.size (Mg.cl (Mg.addK (St.onceL (St.inF [] ws)) (lw,([]:St.Wd))) ((fun c=>(((St.prsF [] ws).count c:Nat):Int))))),fun v W=>(∃ (j:Nat) (u:Value),v=.int .i64 j/\(Mg.ens (lw,([]:St.Wd)) (.int .i64 0) (Mg.cl (St.onceL (St.inF [] ws)) ((fun c=>(((St.inF [] ws).count c:Nat):Int)))))[j]?=some ((lw,([]:St.Wd)),u))/\(Mg.At Mg.prV W w.heap.size (Mg.ens (lw,([]:St.Wd)) (.int .i64 0) (Mg.cl (St.onceL (St.inF [] ws)) ((fun c=>(((St.inF [] ws).count c:Nat):Int)))))∨Mg.At Mg.prV W w.heap.size (Mg.cl (Mg.addK (St.onceL (St.inF [] ws)) (lw,([]:St.Wd))) ((fun c=>(((St.prsF [] ws).count c:Nat):Int))))),noFact] Mg.CntR.refl Mg.CntR.trans (by kernel_rfl) (by rfl) (by kernel_rfl) (by kernel_rfl) ?frh ?hfr ?hI ?hob ?hend
   case hfr=>
    intro ρ;simp only[putAll,Act.put,zsA,zsB,zsC,Nat.zero_add,Nat.reduceAdd];exact rfl
   case hI=>
    unfold Mg.Cnt;simp only[Bool.false_eq_true,if_false];exact(by apply_rules[uUe,uUa,uUb,uUc,uUd])
   case hob=>
    refine ObsF.cons (fun ρ L W hR hI hL hD hO hF K hK=>?_) ?_
    ·skip
     clear hF hD hO;simp only[Act.put,zsA,zsB,zsC] at hK ⊢;go_simp;refine hK _ _ (Mg.CntR.refl _) (hI.keep (by decide) (by decide)) (fun W2 h2=>?_);rfl
    refine ObsF.cons (fun ρ L W hR hI hL hD hO hF K hK=>?_) ?_
    ·skip
     clear hF hD hO;simp only[Act.put,zsA,zsB,zsC] at hK ⊢;go_simp;refine hK _ _ (Mg.CntR.refl _) (hI.keep (by decide) (by decide)) (fun W2 h2=>?_);rfl
    refine ObsF.cons (fun ρ L W hR hI hL hD hO hF K hK=>?_) ?_
    ·skip
     have f1:=allF_get hF (j:=1) (by decide);clear hF hD hO;simp only[Act.put,zsA,zsB,zsC] at hK ⊢;have e1:ρ 1=.string ⟨lw.toArray⟩:=f1;rw[e1] at hK ⊢;go_simp;refine hK _ _ (Mg.CntR.refl _) (hI.keep (by decide) (by decide)) (fun W2 h2=>?_);rfl
    refine ObsF.cons (fun ρ L W hR hI hL hD hO hF K hK=>?_) ?_
    ·skip
     have f0:=allF_get hF (j:=0) (by decide);have f2:=allF_get hF (j:=2) (by decide);have hp0:L 4=false:=hD.not (p:=4) rfl (by decide) hL;have hp1:L 7=false:=hD.not (p:=7) rfl (by decide) hp0;clear hF hD hO;simp only[Act.put,zsA,zsB,zsC] at hK ⊢;have e0:ρ 0=.map (some w.heap.size):=f0;have e2:ρ 2=.agg #[.string ⟨lw.toArray⟩,.string ⟨#[]⟩]:=f2;rw[e0,e2] at hK ⊢;have hr:(Instr.lookup 283 (.map (some w.heap.size)) (.agg #[.string ⟨lw.toArray⟩,.string ⟨#[]⟩]) false).run Tryz.prog W=.ok (.int .i64 (nn)) W:=hI.read Mg.spr_KV Tryz.underlying283 hp1 HAT.out HKG.out HKN.out HGK.out H0.out HFV.out;go_simp;refine hK _ _ (Mg.CntR.refl _) (hI.keep (by decide) (by decide)) (fun W2 h2=>?_);rfl
    refine ObsF.cons (fun ρ L W hR hI hL hD hO hF K hK=>?_) ?_
    ·skip
     have f3:=allF_get hF (j:=3) (by decide);clear hF hD hO;simp only[Act.put,zsA,zsB,zsC] at hK ⊢;have e3:ρ 3=.int .i64 nn:=f3;rw[e3] at hK ⊢;have yw:=wr_i64 (x:=nn+1) (by omega) (by omega);go_simp;refine hK _ _ (Mg.CntR.refl _) (hI.keep (by decide) (by decide)) (fun W2 h2=>?_);rfl
    refine ObsF.cons (fun ρ L W hR hI hL hD hO hF K hK=>?_) ?_
    ·skip
     have f0:=allF_get hF (j:=0) (by decide);have f2:=allF_get hF (j:=2) (by decide);have hp0:L 6=false:=hD.not (p:=6) rfl (by decide) hL;have hp1:L 7=false:=hD.not (p:=7) rfl (by decide) hp0;clear hF hD hO;simp only[Act.put,zsA,zsB,zsC] at hK ⊢;have e0:ρ 0=.map (some w.heap.size):=f0;have e2:ρ 2=.agg #[.string ⟨lw.toArray⟩,.string ⟨#[]⟩]:=f2;rw[e0,e2] at hK ⊢;obtain⟨j,u,x,hj,hr,hat,hI2⟩:=hI.opens Mg.spr_KV Tryz.underlying283 hL hp1 (by decide) HAT.out HKG.out HKN.out HGK.out
     replace hr:(Instr.mapEntry 283 (.map (some w.heap.size)) (.agg #[.string ⟨lw.toArray⟩,.string ⟨#[]⟩])).run Tryz.prog W=_:=hr
     go_simp;refine hK _ _ (fun _=>.inl hat) hI2 (fun W2 h2=>⟨⟨j,u,x,rfl,hj⟩,h2 (.inl hat)⟩)
    refine ObsF.cons (fun ρ L W hR hI hL hD hO hF K hK=>?_) ?_
    ·skip
     have f5:=allF_get hF (j:=5) (by decide);clear hF hD hO;simp only[Act.put,zsA,zsB,zsC] at hK ⊢;obtain⟨⟨j5,u5,x5,e5,hj5⟩,hat⟩:=f5;rw[e5] at hK ⊢;go_simp;refine hK _ _ (Mg.CntR.refl _) (hI.keep (by decide) (by decide)) (fun W2 h2=>⟨⟨j5,u5,rfl,hj5⟩,h2 hat⟩)
    refine ObsF.cons (fun ρ L W hR hI hL hD hO hF K hK=>?_) ?_
    ·skip
     have f0:=allF_get hF (j:=0) (by decide);have f6:=allF_get hF (j:=6) (by decide);have f4:=allF_get hF (j:=4) (by decide);clear hF hD hO;simp only[Act.put,zsA,zsB,zsC] at hK ⊢;have e0:ρ 0=.map (some w.heap.size):=f0;obtain⟨⟨j6,u6,e6,hj6⟩,hat⟩:=f6;have e4:ρ 4=.int .i64 (nn+1):=f4;rw[e0,e6,e4] at hK ⊢;obtain⟨W9,hr,hI2,hat2⟩:=hI.stores Mg.spr_KV Tryz.underlying283 hL HAT.out HKG.out HKN.out HGK.out HFN.out HNE.out HFO.out hj6 hat
     replace hr:(Instr.entryStore 283 (.map (some w.heap.size)) (.int .i64 j6) (.int .i64 (nn+1))).run Tryz.prog W=_:=hr
     go_simp;refine hK undef _ (fun _=>.inr hat2) hI2 (fun _ _=>trivial)
    exact ObsF.nil
   case hend=>
    intro ρ L W hR hI hL hF;have hLS:L 7=true:=hL 7 (by decide);unfold Mg.Cnt at hI;rw[if_pos hLS] at hI;obtain⟨W0,hu0,rfl⟩:=hI;clear hLS hR hL hF;have hp:=Mg.put_at (HAT.out.und hu0) (Mg.cl (Mg.addK (St.onceL (St.inF [] ws)) (lw,([]:St.Wd))) (fun c=>(((St.prsF [] ws).count c:Nat):Int)))
    have hA9:Mg.At Mg.prV (Mg.put Mg.prV W0 w.heap.size (Mg.cl (Mg.addK (St.onceL (St.inF [] ws)) (lw,([]:St.Wd))) (fun c=>(((St.prsF [] ws).count c:Nat):Int)))) w.heap.size (Mg.cl (St.onceL (St.prsF [] ws)) (fun c=>(((St.prsF [] ws).count c:Nat):Int))):=by
     have e:St.onceL (St.prsF [] ws)=Mg.addK (St.onceL (St.inF [] ws)) (lw,([]:St.Wd)):=by rw[HST.out,Mg.addK_once]
     rw[e];exact hp
    have hU9:=Mg.put_und (kv:=Mg.prV) (Mg.cl (Mg.addK (St.onceL (St.inF [] ws)) (lw,([]:St.Wd))) (fun c=>(((St.prsF [] ws).count c:Nat):Int))) (HU.out.trans hu0) (Nat.le_refl w.heap.size);generalize Mg.put Mg.prV W0 w.heap.size (Mg.cl (Mg.addK (St.onceL (St.inF [] ws)) (lw,([]:St.Wd))) (fun c=>(((St.prsF [] ws).count c:Nat):Int)))=w9 at hA9 hU9;have HA9:=hid hA9;have HU9:=hid hU9;clear hu0 hp hA9 hU9;go_wp2_with (first|(at_range;refine Mg.wp_range (kv:=Mg.prV) rfl _ 283 rfl Tryz.underlying283 w.heap.size rfl HA9.out ?_;intro w7 hrg7 hu7 hs7));go_frame;have hrb:=HU9.out.size;generalize w9.heap.size=r at hrg7 hs7 hrb ⊢;have HU7:=hid (HU9.out.trans hu7)
    have HEV:=hid (show ∀ p ∈ Mg.cl (St.onceL (St.prsF [] ws)) (fun c=>(((St.prsF [] ws).count c:Nat):Int)),∃ q:Nat,q<=1000001/\p.2=.int .i64 (q:Int) from fun p hp=>by
     obtain⟨cc,_,rfl⟩:=List.mem_map.1 hp;refine⟨(St.prsF [] ws).count cc,?_,rfl⟩;have h1:(St.prsF [] ws).count cc<=(St.prsF [] ws).length:=List.count_le_length
     rw[St.prs_len] at h1;omega)
    have HEN:=hid (show 0<(Mg.cl (St.onceL (St.prsF [] ws)) (fun c=>(((St.prsF [] ws).count c:Nat):Int))).length/\(Mg.cl (St.onceL (St.prsF [] ws)) (fun c=>(((St.prsF [] ws).count c:Nat):Int))).length<=1000001 from by
     have h0:=(St.once_both (St.prsF [] ws)).2;have hl:=St.prs_len [] ws;have h1:(St.onceL (St.prsF [] ws)).length<=(St.prsF [] ws).length:=St.once_len _
     have h2:St.onceL (St.prsF [] ws) ≠ []:=fun e=>by
      cases hp:St.prsF [] ws with
      | nil=>rw[hp] at hl;simp at hl
      | cons x xs=>have:=(h0 x).2 (by rw[hp];exact List.mem_cons_self ..);rw[e] at this;cases this
     have h3:=List.length_pos_iff.2 h2;unfold Mg.cl
     rw[List.length_map];omega)
    have HEE:=hid (show (Mg.cl (St.onceL (St.prsF [] ws)) (fun c=>(((St.prsF [] ws).count c:Nat):Int))).map (fun p=>(p.1,(intOf p.2).toNat))=(St.onceL (St.prsF [] ws)).map fun p=>(p,(St.prsF [] ws).count p) from by
     unfold Mg.cl;rw[List.map_map]
     exact List.map_congr_left fun c _=>by simp[intOf])
    generalize Mg.cl (St.onceL (St.prsF [] ws)) (fun c=>(((St.prsF [] ws).count c:Nat):Int))=E at hrg7 HEV HEN HEE;have HRG:=hid hrg7;obtain⟨i0,hi,hz0,hz1,hz2⟩:=info_parts info_gram;clear hrg7 hu7 HA9 HU9 HAT HU HST HGK HKG HKN H0 HFV HFN HNE HFO;go_loopw [7] (fun s7 wr=>Gm2Rel w E r s7 wr) (fun _ wr=>wr.rangeLeft w.heap.size r)
    case atStart=>exact⟨[],E,HRG.out,by simp,World.ownsRow_nil _ _ _ _,by omega,HU7.out⟩
    case round=>
     clear HRG HU7;obtain⟨O,rest,hrg,hperm,hown,hrsz,hu⟩:=hrel;have HRG:=hid hrg;have HU:=hid hu;have HPM:=hid hperm;have HOW:=hid hown;obtain⟨AO,cO,rfl,_⟩:=own_slice hown;clear hrg hu hperm hown;go_wp2_with (at_next;refine Mg.wp_next (kv:=Mg.prV) rfl _ rfl r w.heap.size rfl HRG.out ?_ ?_)
     ·intro h0
      subst h0;have hpm:=HPM.out;rw[List.append_nil] at hpm;have hOl:O.length=E.length:=by have:=hpm.length_eq;rw[List.length_map] at this;exact this
      have hO0:0<O.length/\O.length<=1000001:=by have:=HEN.out;omega
      clear hOl;obtain⟨g,rfl,hgB,hg,hcells,hfz⟩:=own_cellF HOW.out (by omega);have hH:=holds_grams hcells hfz
      have hcs:Calls Tryz.prog 189 #[.slice (some ⟨g,0,none⟩) O.length cO,.func (.func 190) #[] #[]] wr fun e w'=>e=.returned (.tuple #[])/\∃ d' n os,Sort.PermIn 0 O.toArray.size O.toArray d'/\w'=sortWorldK encG 3 wr g 0 n d' os:=by
       have:=gsort_any g 0 cO O.toArray wr hH hg (by simp;omega)
       simpa using this
      have HCS:=hid hcs;have HH:=hid hH;clear hcs hH hcells hfz;go_wp2_with fail;refine HCS.out.mono ?_;rintro e w' ⟨rfl,d',q,os,hp,rfl⟩;obtain⟨hd1,hd2⟩:=permin_list hp;obtain⟨hga,hun⟩:=sorted_grams HH.out hg hd1 q os
      have HF:=hid (show (O.length=d'.toList.length/\GramsAt (sortWorldK encG 3 wr g 0 q d' os) (some ⟨g,0,none⟩) d'.toList/\d'.toList.Perm ((St.onceL (St.prsF [] ws)).map fun p=>(p,(St.prsF [] ws).count p))/\Und w (sortWorldK encG 3 wr g 0 q d' os)) from
       ⟨by have h1:=Array.length_toList (xs:=d');rw[h1,hd1];simp,hga,by
        refine hd2.trans ?_;have h1:=hpm.map (fun p:(St.Wd × St.Wd) × Value=>(p.1,(intOf p.2).toNat));rw[HEE.out,List.map_map] at h1
        have h2:O.map ((fun p:(St.Wd × St.Wd) × Value=>(p.1,(intOf p.2).toNat)) ∘ toE)=O:=by
         conv=>rhs;rw[<- List.map_id O]
         exact List.map_congr_left fun x _=>by simp[toE,intOf]
        rw[h2] at h1
        exact h1,hun w HU.out (by omega)⟩)
      generalize sortWorldK encG 3 wr g 0 q d' os=w8 at HF ⊢;clear hga hun hd1 hd2 hp hpm HH HCS;go_wp2;go_ret;obtain⟨h1,h2,h3,h4⟩:=HF.out;exact⟨_,_,_,d'.toList,rfl,h1,h2,h3,h4⟩
     ·intro k1 k2 v rest' w' hp hmem hrg' hgb hsz hen
      obtain⟨q,hq,rfl⟩:∃ q:Nat,q<=1000001/\v=.int .i64 (q:Int):=HEV.out _ hmem;have hlr:=HRG.out.left;have hlr':=hrg'.left;have hpl:=hp.length_eq;have hOn:=HPM.out.length_eq;rw[List.length_append,List.length_map] at hOn;obtain⟨he0,he1⟩:=HEN.out;have HOW':=hid (HOW.out.kept hgb (.inr fun e=>by have:=owns_block HOW.out _ e;omega));have HU':=hid (show Und w w' from SuAux HU.out hgb hrb);have HRG':=hid hrg'
      have HPM':=hid (show ((O++[(((k1,k2):St.Wd × St.Wd),q)]).map toE++rest').Perm E from by
       refine List.Perm.trans ?_ HPM.out;rw[List.map_append,List.append_assoc]
       exact(hp.symm.append_left _))
      have hws:r<w'.heap.size:=by omega
      have hE:=hid (fun (v':Value) (w4:World) (h1:w4.ownsRow (r+1) 169 3 v' (O.length+1) (cellsG O++[.string ⟨k1.toArray⟩,.string ⟨k2.toArray⟩,.int .i64 (q:Int)])) (h3:Mg.Rng Mg.prV w4 r w.heap.size E rest') (h4:Und w w4) (h5:r<w4.heap.size)=>(show Gm2Rel w E r v' w4 from
       ⟨O++[((k1,k2),q)],rest',h3,HPM'.out,by rw[cellsG_snoc,List.length_append,List.length_singleton];exact h1,h5,h4⟩))
      have HGB:=hid (fun (wx w4:World) (hx:Und w' wx) (hg:wx.grownBy w4 (Value.slice AO O.length cO).ownBlock)=>(show Mg.Rng Mg.prV w4 r w.heap.size E rest'/\Und w w4/\r<w4.heap.size from
       ⟨(HRG'.out.und hx).gb hg (fun e=>by have:=owns_block HOW'.out _ e.symm;omega) (fun e=>by have:=owns_block HOW'.out _ e.symm;omega),(HU'.out.trans hx).grown hg (fun g e=>by have:=owns_block HOW'.out g e;omega),by have:=hx.size;have:=hg.size;omega⟩))
      simp only[List.length_cons] at hpl;have hml:O.length+rest'.length+1=E.length:=by omega
      clear hp hmem hgb hsz hrg';have hen':(Instr.entry (.pointer (some ⟨r,0,none⟩))).run Tryz.prog w'=.ok (.tuple #[.agg #[.string ⟨k1.toArray⟩,.string ⟨k2.toArray⟩],.int .i64 (q:Int)]) w':=hen;clear hen;rw[show Mg.prV (k1,k2)=.agg #[.string ⟨k1.toArray⟩,.string ⟨k2.toArray⟩] from rfl];go_wp2_with (at_builtin;refine wpList_append_own _ rfl _ _ 161 rfl (r+1) 169 i0 (.agg #[.string ⟨#[]⟩,.string ⟨#[]⟩,.int .i64 0]) 3 40 Tryz.underlying161 hi hz0 hz1 hz2 rfl (by decide) (.slice AO O.length cO) O.length _ rfl (own_und (by apply_rules[uUe,uUa,uUb,uUc,uUd]) HOW'.out) _ 1 1 [.string ⟨k1.toArray⟩,.string ⟨k2.toArray⟩,.int .i64 (q:Int)] rfl rfl ?_ (gram_one _ _ _) (by unfold maxLen;omega) (by omega) ?_ ?_)
      all_goals try exact side3b _ _ _ _ _ _ (by simp)
      all_goals try omega
      all_goals try (simp;omega;done)
      ·intro v' w4 hown' hgrow _
       obtain⟨g3,g4,g5⟩:=HGB.out _ w4 (by apply_rules[uUe,uUa,uUb,uUc,uUd]) hgrow;have HE2:=hid (hE.out v' w4 hown' g3 g4 g5);have hl4:=g3.left;clear hown' hgrow g3 g4 g5;go_wp2;exact⟨HE2.out,by rw[hl4,hlr];omega⟩
end
end Go.Proofs.YtcfhfdphoidaeaaGreatDoor
