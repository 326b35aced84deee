/- The contract of distance.Distance: what it gives is St.priceR and what surplus gives. -/
import Derived.Test.YtcfhfdphoidaeaaGreatDoorTkA
import Derived.Laws.OwnMore
set_option linter.unusedVariables false
set_option linter.unusedSimpArgs false
set_option maxHeartbeats 12800000
set_option maxRecDepth 20000
namespace Go.Proofs.YtcfhfdphoidaeaaGreatDoor
open Go.RowKit
theorem make_row(m:Nat)(hm:m<=1000000):∃ cs:Array Value,(∀ W:World,(Instr.makeSlice 22 (.int .i64 ((m:Int)+1)) (.int .i64 ((m:Int)+1))).run Tryz.prog W=.ok (.slice (some ⟨W.heap.size,0,none⟩) (m+1) (m+1)) (W.alloc (.cells cs 3)))/\cs.size=m+1/\∀ j,j<m+1->cs[j]?=some (.int .i64 ((0:Nat):Int)):=by
 obtain⟨i,hi,hz0,hz1,hz2⟩:=info_parts info_int;refine⟨madeCells (Value.cells (.int .i64 0)) ((m+1)*i.size),fun W=>?_,?_,fun j hj=>?_⟩
 ·have:=run_make (P:=Tryz.prog) W 22 3 i (.int .i64 0) Tryz.underlying22 hi hz0 .i64 .i64 ((m:Int)+1) ((m:Int)+1) (by omega) (by omega) (by rw[hz2];omega) (by omega)
  have e:((m:Int)+1).toNat=m+1:=by omega
  rw[e] at this;exact this
 ·rw[size_madeCells,hz1,Nat.mul_one]
 ·rw[hz1,Nat.mul_one]
  have h:=toList_madeCells_one (.int .i64 0) (m+1);rw[<- Array.getElem?_toList]
  show (madeCells #[.int .i64 0] (m+1)).toList[j]?=_
  rw[h,List.getElem?_replicate,if_pos hj];rfl
def Di1Rel(w:World)(a b:List St.It)(m:Nat)(s22:Value)(wr:World):Prop:=
 ∃ j:Nat,j<=m/\s22=.int .i64 j/\RowAt wr w.heap.size (m+1) (fun x=>if x<=j then St.dpP a b 0 x else 0)/\Und w wr
def Di2Rel(w:World)(a b:List St.It)(n m:Nat)(s41:Value)(wr:World):Prop:=
 ∃ i:Nat,i<=n/\s41=.int .i64 i/\RowAt wr w.heap.size (m+1) (fun x=>St.dpP a b i x)/\Und w wr
theorem cost_le{x y:St.Tk}{c:Nat}(h:St.costT x y=some c):c<=4:=by
 have hw:=weight_le x.1;unfold St.costT at h
 split at h
 ·cases h;omega
 ·split at h
  ·cases h
  ·split at h
   ·split at h <;> cases h <;> omega
   ·split at h
    ·cases h;exact hw
    ·cases h
def Di3Rel(w:World)(a b:List St.It)(i m tb:Nat)(kd:Int)(tx:List UInt8)(id:Int)(s10 s57:Value)(wr:World):Prop:=
 ∃ j:Nat,j<=m/\s57=.int .i64 j/\s10=.int .i64 ((St.dpP a b i j:Nat):Int)/\RowAt wr w.heap.size (m+1) (fun x=>if x<=j then St.dpP a b (i+1) x else St.dpP a b i x) /\
  wr.cell? ⟨tb,0,none⟩=some (.int .i64 kd)/\wr.cell? ⟨tb,1,none⟩=some (.string ⟨tx.toArray⟩)/\wr.cell? ⟨tb,2,none⟩=some (.int .i64 id)/\tb<wr.heap.size/\Und w wr
theorem Di3Rel.und{w:World}{a b:List St.It}{i m tb:Nat}{kd:Int}{tx:List UInt8}{id:Int}{s10 s57:Value}{wr wr':World}(h:Di3Rel w a b i m tb kd tx id s10 s57 wr)(u:Und wr wr'):Di3Rel w a b i m tb kd tx id s10 s57 wr':=by
 obtain⟨j,h1,h2,h3,h4,h5,h6,h7,h8,h9⟩:=h;exact⟨j,h1,h2,h3,h4.und u,(u.cell (p:=⟨tb,0,none⟩) h8).trans h5,(u.cell (p:=⟨tb,1,none⟩) h8).trans h6,(u.cell (p:=⟨tb,2,none⟩) h8).trans h7,Nat.lt_of_lt_of_le h8 u.size,h9.trans u⟩
theorem dist_any(A:Option Addr)(n c:Nat)(a:List St.It)(B:Option Addr)(m d:Nat)(b:List St.It)(w:World)(hn:a.length=n)(hm:b.length=m)(h:ItemsAt w A a)(h':ItemsAt w B b)(hl:n<=1000000)(hl':m<=1000000)(ht:tot a<=1000000000)(ht':tot b<=1000000000)
  (hsur:∀ W,Und w W->Calls Tryz.prog 102 #[.slice A n c,.slice B m d] W fun e w'=>e=.returned (.int .i64 ((St.surplusL a b:Nat):Int))/\Und W w') (hsl:St.surplusL a b<=100000000) :
  Calls Tryz.prog 47 #[.slice A n c,.slice B m d] w fun e w'=>e=.returned (.int .i64 ((St.distL a b:Nat):Int))/\Und w w':=by
 have H:=hid h;have H':=hid h';have HN:=hid hn;have HM:=hid hm;have HSU:=hid hsur;have HTA:=hid ht;have HTB:=hid ht';obtain⟨cz,hmk,hcz,hzz⟩:=make_row m hl';have HCZ:=hid hcz;have HZZ:=hid hzz;obtain⟨D,hde0⟩:∃ D,St.distL a b=D:=⟨_,rfl⟩;rw[hde0];have HDE:=hid hde0;clear h h' hn hm hsur ht ht' hcz hzz hde0;go_enter Tryz.func47,Tryz.ntmps47;go_wp2_with fail;go_loopw [22] (fun s22 wr=>Di1Rel w a b m s22 wr) (fun s22 _=>m+1-(intOf s22).toNat)
 case atStart=>exact⟨0,by omega,rfl,⟨cz,heap_alloc_new w _,HCZ.out,fun j hj=>by
  rw[HZZ.out j hj]
  show _=some (Value.int .i64 (((if j<=0 then St.dpP a b 0 j else 0:Nat)):Int))
  by_cases e:j=0
  ·subst e;rw[if_pos (Nat.le_refl _),St.dp_zero]
  ·rw[if_neg (by omega)]⟩,(Und.refl w).alloc _⟩
 case round=>
  obtain⟨j,hj,rfl,hrow,hu⟩:=hrel;have HU:=hid hu;have HR:=hid hrow;have hM:=HM.out
  by_cases hlt:j<m
  ·have hlt2:j<b.length:=by omega
   obtain⟨bb,off,rfl,hb,hc⟩:=(H'.out.und hu) (by omega);obtain⟨c0,c1,c2⟩:=hc j hlt2;have hstep:=St.dp_row a b j hlt2;have hsl1:=St.single_le b[j];generalize b[j]=x at c0 c1 c2 hstep hsl1;obtain⟨kd,tx,id⟩:=x;simp only at c0 c1 c2;haveI:LtW bb wr:=LtW.of hb;obtain⟨p,hp⟩:∃ p,St.dpP a b 0 j=p:=⟨_,rfl⟩;obtain⟨q,hq⟩:∃ q,St.singleT (kd,tx,id)=q:=⟨_,rfl⟩;rw[hp,hq] at hstep;rw[hq] at hsl1;have hpl:p<=4*j:=by rw[<- hp];have:=St.dp_le a b 0 (by omega) j (by omega);omega
   have hS:=fun W=>single_any kd ⟨tx.toArray⟩ id W
   simp only[List.toList_toArray,hq] at hS;have HS:=hid hS;have HGL:=hid (show w.heap.size<(wr.alloc (.cells #[.int .i64 kd,.string ⟨tx.toArray⟩,.int .i64 id] 104)).heap.size from by have:=hrow.lt;simp;omega)
   have HC:=hid (fun W (hW:Und (wr.alloc (.cells #[.int .i64 kd,.string ⟨tx.toArray⟩,.int .i64 id] 104)) W)=>(show W.cell? ⟨w.heap.size,j,none⟩=some (.int .i64 (p:Int)) from by
    have:=(HR.out.und (((Und.refl wr).alloc _).trans hW)).cell (j:=j) (by omega)
    rw[this,if_pos (Nat.le_refl _),hp]))
   have HT:=hid (fun W (hW:Und (wr.alloc (.cells #[.int .i64 kd,.string ⟨tx.toArray⟩,.int .i64 id] 104)) W)=>(show W.cell? ⟨wr.heap.size,0,none⟩=some (.int .i64 kd)/\W.cell? ⟨wr.heap.size,1,none⟩=some (.string ⟨tx.toArray⟩)/\W.cell? ⟨wr.heap.size,2,none⟩=some (.int .i64 id) from
    ⟨(hW.cell (p:=⟨wr.heap.size,0,none⟩) (by simp)).trans (by simp),(hW.cell (p:=⟨wr.heap.size,1,none⟩) (by simp)).trans (by simp),(hW.cell (p:=⟨wr.heap.size,2,none⟩) (by simp)).trans (by simp)⟩))
   have HX:=hid (fun W (hW:Und (wr.alloc (.cells #[.int .i64 kd,.string ⟨tx.toArray⟩,.int .i64 id] 104)) W)=>(show ∃ x0,W.cell? ⟨w.heap.size,j+1,none⟩=some x0 from⟨_,(HR.out.und (((Und.refl wr).alloc _).trans hW)).cell (j:=j+1) (by omega)⟩));have HF:=hid (fun W (hW:Und (wr.alloc (.cells #[.int .i64 kd,.string ⟨tx.toArray⟩,.int .i64 id] 104)) W)=>(HR.out.und (((Und.refl wr).alloc _).trans hW)).free (j+1))
   have HE:=hid (fun W (hW:Und (wr.alloc (.cells #[.int .i64 kd,.string ⟨tx.toArray⟩,.int .i64 id] 104)) W)=>(show Di1Rel w a b m (.int .i64 ((j:Int)+1)) (W.setCell ⟨w.heap.size,j+1,none⟩ (.int .i64 ((p:Int)+(q:Int)))) from by
    have hr:=(HR.out.und (((Und.refl wr).alloc _).trans hW)).set (j+1) (p+q) (f':=fun x=>if x<=j+1 then St.dpP a b 0 x else 0) (by simp[hstep]) (fun x hx _=>by
     by_cases h1:x<=j
     ·simp only[h1,show x<=j+1 by omega,if_true]
     ·simp only[h1,show ¬ x<=j+1 by omega,if_false])
    rw[Int.natCast_add] at hr
    exact⟨j+1,by omega,congrArg (Value.int .i64) (by omega),hr,RowAt.set_und (HU.out.trans (((Und.refl wr).alloc _).trans hW)) (Nat.le_refl _) _ _⟩))
   clear hc hstep hp hq hS hu hrow;go_wp2_with fail;refine wp_region_facts (fun _ _=>True) (fun L W=>if L 11=true then ∃ W0,Und (wr.alloc (.cells #[.int .i64 kd,.string ⟨tx.toArray⟩,.int .i64 id] 104)) W0/\W=W0.setCell ⟨w.heap.size,j+1,none⟩ (.int .i64 ((p:Int)+(q:Int))) else Und (wr.alloc (.cells #[.int .i64 kd,.string ⟨tx.toArray⟩,.int .i64 id] 104)) W) [fun v _=>v=.slice (some ⟨w.heap.size,0,none⟩) (m+1) (m+1),fun v _=>v=.int .i64 j,fun v _=>v=.int .i64 ((j:Int)+1),fun v _=>v=.slice (some ⟨w.heap.size,0,none⟩) (m+1) (m+1),fun v _=>v=.int .i64 j,fun v _=>v=.pointer (some ⟨w.heap.size,j,none⟩),fun v _=>v=.int .i64 (p:Int),fun v _=>v=.agg #[.int .i64 kd,.string ⟨tx.toArray⟩,.int .i64 id],fun v _=>v=.int .i64 (q:Int),fun v _=>v=.int .i64 ((p:Int)+(q:Int)),fun v _=>v=.pointer (some ⟨w.heap.size,j+1,none⟩),noFact] (fun _=>trivial) (fun _ _ _ _ _=>trivial) (by kernel_rfl) (by rfl) (by kernel_rfl) (by kernel_rfl) ?fr5 ?hfr ?hI ?hob ?hend
   case hfr=>
    intro ρ;simp only[putAll,Act.put,zsA,zsB,zsC,Nat.zero_add,Nat.reduceAdd];exact rfl
   case hI=>exact(by apply_rules[uUe,uUa,uUb,uUc,uUd])
   case hob=>
    refine ObsF.cons (fun ρ L W hR hI hL hD hO hF K hK=>?_) ?_
    ·skip
     clear hF hD hO;simp only[Act.put,zsA,zsB,zsC] at hK ⊢;go_simp;refine hK _ _ trivial (by simpa [updB] using hI) (fun W2 h2=>?_);rfl
    refine ObsF.cons (fun ρ L W hR hI hL hD hO hF K hK=>?_) ?_
    ·skip
     clear hF hD hO;simp only[Act.put,zsA,zsB,zsC] at hK ⊢;go_simp;refine hK _ _ trivial (by simpa [updB] using hI) (fun W2 h2=>?_);rfl
    refine ObsF.cons (fun ρ L W hR hI hL hD hO hF K hK=>?_) ?_
    ·skip
     have f1:=allF_get hF (j:=1) (by decide);clear hF hD hO;simp only[Act.put,zsA,zsB,zsC] at hK ⊢;have e1:ρ 1=.int .i64 j:=f1;rw[e1] at hK ⊢;have yw:=wr_i64 (x:=(j:Int)+1) (by omega) (by omega);go_simp;refine hK _ _ trivial (by simpa [updB] using hI) (fun W2 h2=>?_);rfl
    refine ObsF.cons (fun ρ L W hR hI hL hD hO hF K hK=>?_) ?_
    ·skip
     clear hF hD hO;simp only[Act.put,zsA,zsB,zsC] at hK ⊢;go_simp;refine hK _ _ trivial (by simpa [updB] using hI) (fun W2 h2=>?_);rfl
    refine ObsF.cons (fun ρ L W hR hI hL hD hO hF K hK=>?_) ?_
    ·skip
     clear hF hD hO;simp only[Act.put,zsA,zsB,zsC] at hK ⊢;go_simp;refine hK _ _ trivial (by simpa [updB] using hI) (fun W2 h2=>?_);rfl
    refine ObsF.cons (fun ρ L W hR hI hL hD hO hF K hK=>?_) ?_
    ·skip
     have f3:=allF_get hF (j:=3) (by decide);have f4:=allF_get hF (j:=4) (by decide);clear hF hD hO;simp only[Act.put,zsA,zsB,zsC] at hK ⊢;have e3:ρ 3=.slice (some ⟨w.heap.size,0,none⟩) (m+1) (m+1):=f3;have e4:ρ 4=.int .i64 j:=f4;rw[e3,e4] at hK ⊢;have z1:(j:Int)<(m:Int)+1:=by omega
     go_simp;refine hK _ _ trivial (by simpa [updB] using hI) (fun W2 h2=>?_);rfl
    refine ObsF.cons (fun ρ L W hR hI hL hD hO hF K hK=>?_) ?_
    ·skip
     have f5:=allF_get hF (j:=5) (by decide);have hp0:L 9=false:=hD.not (p:=9) rfl (by decide) hL;have hp1:L 11=false:=hD.not (p:=11) rfl (by decide) hp0;have hI5:Und (wr.alloc (.cells #[.int .i64 kd,.string ⟨tx.toArray⟩,.int .i64 id] 104)) W:=by simpa [hp1] using hI
     clear hF hD hO;simp only[Act.put,zsA,zsB,zsC] at hK ⊢;have e5:ρ 5=.pointer (some ⟨w.heap.size,j,none⟩):=f5;rw[e5] at hK ⊢;have hc:=HC.out W hI5;haveI:LtW w.heap.size W:=LtW.of (Nat.lt_of_lt_of_le HGL.out hI5.size);go_simp;refine hK _ _ trivial (by simpa [updB] using hI) (fun W2 h2=>?_);rfl
    refine ObsF.cons (fun ρ L W hR hI hL hD hO hF K hK=>?_) ?_
    ·skip
     have hp0:L 8=false:=hD.not (p:=8) rfl (by decide) hL;have hp1:L 9=false:=hD.not (p:=9) rfl (by decide) hp0;have hp2:L 11=false:=hD.not (p:=11) rfl (by decide) hp1;have hI5:Und (wr.alloc (.cells #[.int .i64 kd,.string ⟨tx.toArray⟩,.int .i64 id] 104)) W:=by simpa [hp2] using hI
     clear hF hD hO;simp only[Act.put,zsA,zsB,zsC] at hK ⊢;obtain⟨d0,d1,d2⟩:=HT.out W hI5;haveI:LtW wr.heap.size W:=LtW.of (Nat.lt_of_lt_of_le (by simp) hI5.size);go_simp;refine hK _ _ trivial (by simpa [updB] using hI) (fun W2 h2=>?_);rfl
    refine ObsF.cons (fun ρ L W hR hI hL hD hO hF K hK=>?_) ?_
    ·skip
     have f7:=allF_get hF (j:=7) (by decide);have hp0:L 9=false:=hD.not (p:=9) rfl (by decide) hL;have hp1:L 11=false:=hD.not (p:=11) rfl (by decide) hp0;have hI5:Und (wr.alloc (.cells #[.int .i64 kd,.string ⟨tx.toArray⟩,.int .i64 id] 104)) W:=by simpa [hp1] using hI
     clear hF hD hO;simp only[Act.put,zsA,zsB,zsC] at hK ⊢;have e7:ρ 7=.agg #[.int .i64 kd,.string ⟨tx.toArray⟩,.int .i64 id]:=f7;rw[e7] at hK ⊢;refine step_callF3 (o:=⟨some 35,_,_,_,_,_⟩) rfl 100 #[.agg #[.int .i64 kd,.string ⟨tx.toArray⟩,.int .i64 id]] _ (HS.out W) ?_ ?_
     ·go_simp
     rintro e W2 ⟨rfl,hu⟩;exact⟨_,rfl,hK _ _ trivial ((by simpa [updB,hp1] using hI5.trans hu)) (fun W3 h3=>rfl)⟩
    refine ObsF.cons (fun ρ L W hR hI hL hD hO hF K hK=>?_) ?_
    ·skip
     have f6:=allF_get hF (j:=6) (by decide);have f8:=allF_get hF (j:=8) (by decide);clear hF hD hO;simp only[Act.put,zsA,zsB,zsC] at hK ⊢;have e6:ρ 6=.int .i64 (p:Int):=f6;have e8:ρ 8=.int .i64 (q:Int):=f8;rw[e6,e8] at hK ⊢;have yw:=wr_i64 (x:=(p:Int)+(q:Int)) (by omega) (by omega);go_simp;refine hK _ _ trivial (by simpa [updB] using hI) (fun W2 h2=>?_);rfl
    refine ObsF.cons (fun ρ L W hR hI hL hD hO hF K hK=>?_) ?_
    ·skip
     have f0:=allF_get hF (j:=0) (by decide);have f2:=allF_get hF (j:=2) (by decide);clear hF hD hO;simp only[Act.put,zsA,zsB,zsC] at hK ⊢;have e0:ρ 0=.slice (some ⟨w.heap.size,0,none⟩) (m+1) (m+1):=f0;have e2:ρ 2=.int .i64 ((j:Int)+1):=f2;rw[e0,e2] at hK ⊢;have z1:(j:Int)+1<(m:Int)+1:=by omega
     have z0:0<=(j:Int)+1:=by omega
     have z2:((j:Int)+1).toNat=j+1:=by omega
     go_simp;refine hK _ _ trivial (by simpa [updB] using hI) (fun W2 h2=>?_);rfl
    refine ObsF.cons (fun ρ L W hR hI hL hD hO hF K hK=>?_) ?_
    ·skip
     have f9:=allF_get hF (j:=9) (by decide);have f10:=allF_get hF (j:=10) (by decide);have hI5:Und (wr.alloc (.cells #[.int .i64 kd,.string ⟨tx.toArray⟩,.int .i64 id] 104)) W:=by simpa [hL] using hI
     clear hF hD hO;simp only[Act.put,zsA,zsB,zsC] at hK ⊢;have e9:ρ 9=.int .i64 ((p:Int)+(q:Int)):=f9;have e10:ρ 10=.pointer (some ⟨w.heap.size,j+1,none⟩):=f10;rw[e9,e10] at hK ⊢;obtain⟨x0,g0⟩:=HX.out W hI5;have f0:=HF.out W hI5;haveI:LtW w.heap.size W:=LtW.of (Nat.lt_of_lt_of_le HGL.out hI5.size);go_simp;refine hK undef _ trivial (by simp only[updB,if_true];exact⟨W,hI5,rfl⟩) (fun _ _=>trivial)
    exact ObsF.nil
   case hend=>
    intro ρ L W hR hI hL hF;have hLS:L 11=true:=hL 11 (by decide);rw[if_pos hLS] at hI;obtain⟨W0,hu0,rfl⟩:=hI;clear hLS;clear hR hL hF;have hE:=hid (HE.out W0 hu0);clear hu0;go_wp2;exact⟨hE.out,by simp[intOf];omega⟩
  ·have hjm:m=j:=by omega
   subst hjm;have HR2:=hid (hrow.same (f':=fun x=>St.dpP a b 0 x) fun x hx=>by rw[if_pos (by omega)]);clear hlt hrow hu;go_wp2_with fail;go_loopw [41] (fun s41 wr=>Di2Rel w a b n m s41 wr) (fun s41 _=>n+1-(intOf s41).toNat)
   case atStart=>exact⟨0,by omega,rfl,HR2.out,HU.out⟩
   case round=>
    clear HR2 HU;obtain⟨i,hi,rfl,hrow,hu⟩:=hrel;have HU:=hid hu;have HR:=hid hrow;have hN:=HN.out
    by_cases hlt:i<n
    ·have hlt2:i<a.length:=by omega
     obtain⟨ab,aoff,rfl,hb,hc⟩:=(H.out.und hu) (by omega);obtain⟨c0,c1,c2⟩:=hc i hlt2;have hcol:=St.dp_col a b i hlt2;have hsl1:=St.single_le a[i];have hstp:=fun j (hj:j<b.length)=>St.dp_step a b i j hlt2 hj
     have htt:=tot_tk a i hlt2;have htl:=tot_tk_le a (i+1);have hTA:=HTA.out;generalize a[i]=x at c0 c1 c2 hcol hsl1 hstp htt;obtain⟨kd,tx,id⟩:=x;simp only at c0 c1 c2 htt;have htx:tx.length<=4611686018427387904:=by omega
     haveI:LtW ab wr:=LtW.of hb;obtain⟨p,hp⟩:∃ p,St.dpP a b i 0=p:=⟨_,rfl⟩;obtain⟨q,hq⟩:∃ q,St.singleT (kd,tx,id)=q:=⟨_,rfl⟩;rw[hp,hq] at hcol;rw[hq] at hsl1 hstp;have HSTP:=hid hstp;have hpl:p<=4*i:=by rw[<- hp];have:=St.dp_le a b i (by omega) 0 (by omega);omega
     have hS:=fun W=>single_any kd ⟨tx.toArray⟩ id W
     simp only[List.toList_toArray,hq] at hS;have HS:=hid hS;have hgw:w.heap.size<wr.heap.size:=hrow.lt;have HGL:=hid (show w.heap.size<(wr.alloc (.cells #[.int .i64 kd,.string ⟨tx.toArray⟩,.int .i64 id] 104)).heap.size from by simp;omega)
     have HC:=hid (fun W (hW:Und (wr.alloc (.cells #[.int .i64 kd,.string ⟨tx.toArray⟩,.int .i64 id] 104)) W)=>(show W.cell? ⟨w.heap.size,0,none⟩=some (.int .i64 (p:Int)) from by
      have:=(HR.out.und (((Und.refl wr).alloc _).trans hW)).cell (j:=0) (by omega)
      rw[this,hp]))
     have HT:=hid (fun W (hW:Und (wr.alloc (.cells #[.int .i64 kd,.string ⟨tx.toArray⟩,.int .i64 id] 104)) W)=>(show W.cell? ⟨wr.heap.size,0,none⟩=some (.int .i64 kd)/\W.cell? ⟨wr.heap.size,1,none⟩=some (.string ⟨tx.toArray⟩)/\W.cell? ⟨wr.heap.size,2,none⟩=some (.int .i64 id) from
      ⟨(hW.cell (p:=⟨wr.heap.size,0,none⟩) (by simp)).trans (by simp),(hW.cell (p:=⟨wr.heap.size,1,none⟩) (by simp)).trans (by simp),(hW.cell (p:=⟨wr.heap.size,2,none⟩) (by simp)).trans (by simp)⟩))
     have HX:=hid (fun W (hW:Und (wr.alloc (.cells #[.int .i64 kd,.string ⟨tx.toArray⟩,.int .i64 id] 104)) W)=>(show ∃ x0,W.cell? ⟨w.heap.size,0,none⟩=some x0 from⟨_,HC.out W hW⟩));have HF:=hid (fun W (hW:Und (wr.alloc (.cells #[.int .i64 kd,.string ⟨tx.toArray⟩,.int .i64 id] 104)) W)=>(HR.out.und (((Und.refl wr).alloc _).trans hW)).free 0)
     have HE:=hid (fun W (hW:Und (wr.alloc (.cells #[.int .i64 kd,.string ⟨tx.toArray⟩,.int .i64 id] 104)) W)=>(show Di3Rel w a b i m wr.heap.size kd tx id (.int .i64 (p:Int)) (.int .i64 (0:Nat)) (W.setCell ⟨w.heap.size,0,none⟩ (.int .i64 ((p:Int)+(q:Int)))) from by
      have hr:=(HR.out.und (((Und.refl wr).alloc _).trans hW)).set 0 (p+q) (f':=fun x=>if x<=0 then St.dpP a b (i+1) x else St.dpP a b i x) (by simp[hcol]) (fun x hx _=>by rw[if_neg (by omega)]);rw[Int.natCast_add] at hr;obtain⟨t0,t1,t2⟩:=HT.out W hW
      exact⟨0,by omega,rfl,by rw[hp],hr,by rw[set_ne _ (by omega)];exact t0,by rw[set_ne _ (by omega)];exact t1,by rw[set_ne _ (by omega)];exact t2,by have:=hW.size;simp at this ⊢;omega,RowAt.set_und (HU.out.trans (((Und.refl wr).alloc _).trans hW)) (Nat.le_refl _) _ _⟩))
     haveI:LtW w.heap.size wr:=LtW.of hgw
     have g0:wr.cell? ⟨w.heap.size,0,none⟩=some (.int .i64 (p:Int)):=by
      have:=hrow.cell (j:=0) (by omega)
      rw[this,hp]
     have z1:(0:Int)<(m:Int)+1:=by omega
     clear hc hcol hp hS hu hrow hstp htt htl;have hcr:∀ W,RowAt W w.heap.size (m+1) (fun x=>if x<=m then St.dpP a b (i+1) x else St.dpP a b i x)->RowAt W w.heap.size (m+1) (fun x=>St.dpP a b (i+1) x):=fun W hW=>hW.same fun x hx=>by rw[if_pos (by omega)]
     have HCR:=hid hcr;clear hcr;go_wp2_with fail;refine wp_region_facts (fun _ _=>True) (fun L W=>if L 7=true then ∃ W0,Und (wr.alloc (.cells #[.int .i64 kd,.string ⟨tx.toArray⟩,.int .i64 id] 104)) W0/\W=W0.setCell ⟨w.heap.size,0,none⟩ (.int .i64 ((p:Int)+(q:Int))) else Und (wr.alloc (.cells #[.int .i64 kd,.string ⟨tx.toArray⟩,.int .i64 id] 104)) W) [fun v _=>v=.slice (some ⟨w.heap.size,0,none⟩) (m+1) (m+1),fun v _=>v=.pointer (some ⟨w.heap.size,0,none⟩),fun v _=>v=.int .i64 (p:Int),fun v _=>v=.agg #[.int .i64 kd,.string ⟨tx.toArray⟩,.int .i64 id],fun v _=>v=.int .i64 (q:Int),fun v _=>v=.int .i64 ((p:Int)+(q:Int)),fun v _=>v=.pointer (some ⟨w.heap.size,0,none⟩),noFact] (fun _=>trivial) (fun _ _ _ _ _=>trivial) (by kernel_rfl) (by rfl) (by kernel_rfl) (by kernel_rfl) ?fr11 ?hfr ?hI ?hob ?hend
     case hfr=>
      intro ρ;simp only[putAll,Act.put,zsA,zsB,zsC,Nat.zero_add,Nat.reduceAdd];exact rfl
     case hI=>exact(by apply_rules[uUe,uUa,uUb,uUc,uUd])
     case hob=>
      refine ObsF.cons (fun ρ L W hR hI hL hD hO hF K hK=>?_) ?_
      ·skip
       clear hF hD hO;simp only[Act.put,zsA,zsB,zsC] at hK ⊢;go_simp;refine hK _ _ trivial (by simpa [updB] using hI) (fun W2 h2=>?_);rfl
      refine ObsF.cons (fun ρ L W hR hI hL hD hO hF K hK=>?_) ?_
      ·skip
       have f0:=allF_get hF (j:=0) (by decide);clear hF hD hO;simp only[Act.put,zsA,zsB,zsC] at hK ⊢;have e0:ρ 0=.slice (some ⟨w.heap.size,0,none⟩) (m+1) (m+1):=f0;rw[e0] at hK ⊢;have z1:(0:Int)<(m:Int)+1:=by omega
       go_simp;refine hK _ _ trivial (by simpa [updB] using hI) (fun W2 h2=>?_);rfl
      refine ObsF.cons (fun ρ L W hR hI hL hD hO hF K hK=>?_) ?_
      ·skip
       have f1:=allF_get hF (j:=1) (by decide);have hp0:L 5=false:=hD.not (p:=5) rfl (by decide) hL;have hp1:L 7=false:=hD.not (p:=7) rfl (by decide) hp0;have hI5:Und (wr.alloc (.cells #[.int .i64 kd,.string ⟨tx.toArray⟩,.int .i64 id] 104)) W:=by simpa [hp1] using hI
       clear hF hD hO;simp only[Act.put,zsA,zsB,zsC] at hK ⊢;have e1:ρ 1=.pointer (some ⟨w.heap.size,0,none⟩):=f1;rw[e1] at hK ⊢;have hc:=HC.out W hI5;haveI:LtW w.heap.size W:=LtW.of (Nat.lt_of_lt_of_le HGL.out hI5.size);go_simp;refine hK _ _ trivial (by simpa [updB] using hI) (fun W2 h2=>?_);rfl
      refine ObsF.cons (fun ρ L W hR hI hL hD hO hF K hK=>?_) ?_
      ·skip
       have hp0:L 4=false:=hD.not (p:=4) rfl (by decide) hL;have hp1:L 5=false:=hD.not (p:=5) rfl (by decide) hp0;have hp2:L 7=false:=hD.not (p:=7) rfl (by decide) hp1;have hI5:Und (wr.alloc (.cells #[.int .i64 kd,.string ⟨tx.toArray⟩,.int .i64 id] 104)) W:=by simpa [hp2] using hI
       clear hF hD hO;simp only[Act.put,zsA,zsB,zsC] at hK ⊢;obtain⟨d0,d1,d2⟩:=HT.out W hI5;haveI:LtW wr.heap.size W:=LtW.of (Nat.lt_of_lt_of_le (by simp) hI5.size);go_simp;refine hK _ _ trivial (by simpa [updB] using hI) (fun W2 h2=>?_);rfl
      refine ObsF.cons (fun ρ L W hR hI hL hD hO hF K hK=>?_) ?_
      ·skip
       have f3:=allF_get hF (j:=3) (by decide);have hp0:L 5=false:=hD.not (p:=5) rfl (by decide) hL;have hp1:L 7=false:=hD.not (p:=7) rfl (by decide) hp0;have hI5:Und (wr.alloc (.cells #[.int .i64 kd,.string ⟨tx.toArray⟩,.int .i64 id] 104)) W:=by simpa [hp1] using hI
       clear hF hD hO;simp only[Act.put,zsA,zsB,zsC] at hK ⊢;have e3:ρ 3=.agg #[.int .i64 kd,.string ⟨tx.toArray⟩,.int .i64 id]:=f3;rw[e3] at hK ⊢;refine step_callF3 (o:=⟨some 52,_,_,_,_,_⟩) rfl 100 #[.agg #[.int .i64 kd,.string ⟨tx.toArray⟩,.int .i64 id]] _ (HS.out W) ?_ ?_
       ·go_simp
       rintro e W2 ⟨rfl,hu⟩;exact⟨_,rfl,hK _ _ trivial ((by simpa [updB,hp1] using hI5.trans hu)) (fun W3 h3=>rfl)⟩
      refine ObsF.cons (fun ρ L W hR hI hL hD hO hF K hK=>?_) ?_
      ·skip
       have f2:=allF_get hF (j:=2) (by decide);have f4:=allF_get hF (j:=4) (by decide);clear hF hD hO;simp only[Act.put,zsA,zsB,zsC] at hK ⊢;have e2:ρ 2=.int .i64 (p:Int):=f2;have e4:ρ 4=.int .i64 (q:Int):=f4;rw[e2,e4] at hK ⊢;have yw:=wr_i64 (x:=(p:Int)+(q:Int)) (by omega) (by omega);go_simp;refine hK _ _ trivial (by simpa [updB] using hI) (fun W2 h2=>?_);rfl
      refine ObsF.cons (fun ρ L W hR hI hL hD hO hF K hK=>?_) ?_
      ·skip
       have f0:=allF_get hF (j:=0) (by decide);clear hF hD hO;simp only[Act.put,zsA,zsB,zsC] at hK ⊢;have e0:ρ 0=.slice (some ⟨w.heap.size,0,none⟩) (m+1) (m+1):=f0;rw[e0] at hK ⊢;have z1:(0:Int)<(m:Int)+1:=by omega
       go_simp;refine hK _ _ trivial (by simpa [updB] using hI) (fun W2 h2=>?_);rfl
      refine ObsF.cons (fun ρ L W hR hI hL hD hO hF K hK=>?_) ?_
      ·skip
       have f5:=allF_get hF (j:=5) (by decide);have f6:=allF_get hF (j:=6) (by decide);have hI5:Und (wr.alloc (.cells #[.int .i64 kd,.string ⟨tx.toArray⟩,.int .i64 id] 104)) W:=by simpa [hL] using hI
       clear hF hD hO;simp only[Act.put,zsA,zsB,zsC] at hK ⊢;have e5:ρ 5=.int .i64 ((p:Int)+(q:Int)):=f5;have e6:ρ 6=.pointer (some ⟨w.heap.size,0,none⟩):=f6;rw[e5,e6] at hK ⊢;obtain⟨x0,g0⟩:=HX.out W hI5;have f0:=HF.out W hI5;haveI:LtW w.heap.size W:=LtW.of (Nat.lt_of_lt_of_le HGL.out hI5.size);go_simp;refine hK undef _ trivial (by simp only[updB,if_true];exact⟨W,hI5,rfl⟩) (fun _ _=>trivial)
      exact ObsF.nil
     case hend=>
      intro ρ L W hR hI hL hF;have hLS:L 7=true:=hL 7 (by decide);rw[if_pos hLS] at hI;obtain⟨W0,hu0,rfl⟩:=hI;clear hLS;clear hR hL hF;have hE:=hid (HE.out W0 hu0);have htbg:wr.heap.size ≠ w.heap.size:=by omega
      generalize wr.heap.size=tb at hE htbg;generalize W0.setCell ⟨w.heap.size,0,none⟩ (.int .i64 ((p:Int)+(q:Int)))=W1 at hE;clear hu0 HE HC HT HX HF HGL HR HU c0 c1 c2 g0;go_wp2_with fail;go_loopw [10,57] (fun s10 s57 wr=>Di3Rel w a b i m tb kd tx id s10 s57 wr) (fun _ s57 _=>m+1-(intOf s57).toNat)
      case atStart=>exact hE.out
      case round=>
       clear hE hpl;obtain⟨j,hj,rfl,rfl,hrow,t0,t1,t2,htb,hu⟩:=hrel;have HU:=hid hu;have HR:=hid hrow;have hM:=HM.out
       by_cases hlt:j<m
       ·have hlt2:j<b.length:=by omega
        obtain⟨bb,boff,rfl,hb,hc⟩:=(H'.out.und hu) (by omega);obtain⟨c0,c1,c2⟩:=hc j hlt2;have hstep:=HSTP.out j hlt2;have hsl2:=St.single_le b[j];have htt:=tot_tk b j hlt2;have htl:=tot_tk_le b (j+1);have hTB:=HTB.out;generalize b[j]=y at c0 c1 c2 hstep hsl2 htt;obtain⟨yk,yt,yi⟩:=y;simp only at c0 c1 c2 htt;have hty:yt.length<=4611686018427387904:=by omega
        haveI:LtW bb wr:=LtW.of hb;obtain⟨u,hu'⟩:∃ u,St.dpP a b i (j+1)=u:=⟨_,rfl⟩;obtain⟨vv,hv⟩:∃ vv,St.dpP a b (i+1) j=vv:=⟨_,rfl⟩;obtain⟨z,hz⟩:∃ z,St.dpP a b i j=z:=⟨_,rfl⟩;obtain⟨r,hr⟩:∃ r,St.singleT (yk,yt,yi)=r:=⟨_,rfl⟩;have hul:u<=4*(i+j+1):=by rw[<- hu'];have:=St.dp_le a b i (by omega) (j+1) (by omega);omega
        have hvl:vv<=4*(i+1+j):=by rw[<- hv];have:=St.dp_le a b (i+1) (by omega) j (by omega);omega
        have hzl:z<=4*(i+j):=by rw[<- hz];have:=St.dp_le a b i (by omega) j (by omega);omega
        rw[hr] at hsl2;rw[hu',hv,hz,hr] at hstep;rw[hz];have hS:=fun W=>single_any yk ⟨yt.toArray⟩ yi W
        simp only[List.toList_toArray,hr] at hS;have HSY:=hid hS;have hgw:w.heap.size<wr.heap.size:=hrow.lt;have HGL:=hid (show w.heap.size<(wr.alloc (.cells #[.int .i64 yk,.string ⟨yt.toArray⟩,.int .i64 yi] 104)).heap.size from by simp;omega);have HTL:=hid (show tb<(wr.alloc (.cells #[.int .i64 yk,.string ⟨yt.toArray⟩,.int .i64 yi] 104)).heap.size from by simp;omega)
        have HCU:=hid (fun W (hW:Und (wr.alloc (.cells #[.int .i64 yk,.string ⟨yt.toArray⟩,.int .i64 yi] 104)) W)=>(show W.cell? ⟨w.heap.size,j+1,none⟩=some (.int .i64 (u:Int)) from by
         have:=(HR.out.und (((Und.refl wr).alloc _).trans hW)).cell (j:=j+1) (by omega)
         rw[this,if_neg (by omega),hu']))
        have HCV:=hid (fun W (hW:Und (wr.alloc (.cells #[.int .i64 yk,.string ⟨yt.toArray⟩,.int .i64 yi] 104)) W)=>(show W.cell? ⟨w.heap.size,j,none⟩=some (.int .i64 (vv:Int)) from by
         have:=(HR.out.und (((Und.refl wr).alloc _).trans hW)).cell (j:=j) (by omega)
         rw[this,if_pos (Nat.le_refl _),hv]))
        have HT:=hid (fun W (hW:Und (wr.alloc (.cells #[.int .i64 yk,.string ⟨yt.toArray⟩,.int .i64 yi] 104)) W)=>(show W.cell? ⟨tb,0,none⟩=some (.int .i64 kd)/\W.cell? ⟨tb,1,none⟩=some (.string ⟨tx.toArray⟩)/\W.cell? ⟨tb,2,none⟩=some (.int .i64 id) from
         ⟨((((Und.refl wr).alloc _).trans hW).cell (p:=⟨tb,0,none⟩) htb).trans t0,((((Und.refl wr).alloc _).trans hW).cell (p:=⟨tb,1,none⟩) htb).trans t1,((((Und.refl wr).alloc _).trans hW).cell (p:=⟨tb,2,none⟩) htb).trans t2⟩))
        have HTY:=hid (fun W (hW:Und (wr.alloc (.cells #[.int .i64 yk,.string ⟨yt.toArray⟩,.int .i64 yi] 104)) W)=>(show W.cell? ⟨wr.heap.size,0,none⟩=some (.int .i64 yk)/\W.cell? ⟨wr.heap.size,1,none⟩=some (.string ⟨yt.toArray⟩)/\W.cell? ⟨wr.heap.size,2,none⟩=some (.int .i64 yi) from
         ⟨(hW.cell (p:=⟨wr.heap.size,0,none⟩) (by simp)).trans (by simp),(hW.cell (p:=⟨wr.heap.size,1,none⟩) (by simp)).trans (by simp),(hW.cell (p:=⟨wr.heap.size,2,none⟩) (by simp)).trans (by simp)⟩))
        have HF:=hid (fun W (hW:Und (wr.alloc (.cells #[.int .i64 yk,.string ⟨yt.toArray⟩,.int .i64 yi] 104)) W)=>(HR.out.und (((Und.refl wr).alloc _).trans hW)).free (j+1))
        have HE:=hid (fun W (hW:Und (wr.alloc (.cells #[.int .i64 yk,.string ⟨yt.toArray⟩,.int .i64 yi] 104)) W) (t:Nat) (ht:St.dpP a b (i+1) (j+1)=t)=>(show Di3Rel w a b i m tb kd tx id (.int .i64 (u:Int)) (.int .i64 ((j:Int)+1)) (W.setCell ⟨w.heap.size,j+1,none⟩ (.int .i64 (t:Int))) from by
         have hr:=(HR.out.und (((Und.refl wr).alloc _).trans hW)).set (j+1) t (f':=fun x=>if x<=j+1 then St.dpP a b (i+1) x else St.dpP a b i x) (by simp[ht]) (fun x hx _=>by
          by_cases h1:x<=j
          ·simp only[h1,show x<=j+1 by omega,if_true]
          ·simp only[h1,show ¬ x<=j+1 by omega,if_false])
         obtain⟨t0,t1,t2⟩:=HT.out W hW
         exact⟨j+1,by omega,congrArg (Value.int .i64) (by omega),by rw[hu'],hr,by rw[set_ne _ htbg];exact t0,by rw[set_ne _ htbg];exact t1,by rw[set_ne _ htbg];exact t2,by have:=hW.size;simp at this ⊢;omega,RowAt.set_und (HU.out.trans (((Und.refl wr).alloc _).trans hW)) (Nat.le_refl _) _ _⟩))
        have hco:=fun W=>cost_any kd tx id yk yt yi W htx hty
        clear hc hu' hv hz hr hS hu hrow htt htl t0 t1 t2;cases hcs:St.costT (kd,tx,id) (yk,yt,yi) with
        | none=>
         rw[hcs] at hco hstep;have HCO:=hid hco;have HST:=hid hstep;clear hco hstep hcs;go_wp2_with fail;refine wp_region_facts (fun _ _=>True) (fun _ W=>Und (wr.alloc (.cells #[.int .i64 yk,.string ⟨yt.toArray⟩,.int .i64 yi] 104)) W) [fun v _=>v=.slice (some ⟨w.heap.size,0,none⟩) (m+1) (m+1),fun v _=>v=.int .i64 j,fun v _=>v=.int .i64 ((j:Int)+1),fun v _=>v=.pointer (some ⟨w.heap.size,j+1,none⟩),fun v _=>v=.int .i64 (u:Int),fun v _=>v=.agg #[.int .i64 kd,.string ⟨tx.toArray⟩,.int .i64 id],fun v _=>v=.int .i64 (q:Int),fun v _=>v=.int .i64 ((u:Int)+(q:Int)),fun v _=>v=.slice (some ⟨w.heap.size,0,none⟩) (m+1) (m+1),fun v _=>v=.int .i64 j,fun v _=>v=.pointer (some ⟨w.heap.size,j,none⟩),fun v _=>v=.int .i64 (vv:Int),fun v _=>v=.agg #[.int .i64 yk,.string ⟨yt.toArray⟩,.int .i64 yi],fun v _=>v=.int .i64 (r:Int),fun v _=>v=.int .i64 ((vv:Int)+(r:Int)),fun v _=>v=.int .i64 ((min (u+q) (vv+r):Nat):Int),fun v _=>v=.int .i64 ((min (u+q) (vv+r):Nat):Int)] (fun _=>trivial) (fun _ _ _ _ _=>trivial) (by kernel_rfl) (by rfl) (by kernel_rfl) (by kernel_rfl) ?fr15 ?hfr ?hI ?hob ?hend
         case hfr=>
          intro ρ;simp only[putAll,Act.put,zsA,zsB,zsC,Nat.zero_add,Nat.reduceAdd];exact rfl
         case hI=>exact(by apply_rules[uUe,uUa,uUb,uUc,uUd])
         case hob=>
          refine ObsF.cons (fun ρ L W hR hI hL hD hO hF K hK=>?_) ?_
          ·skip
           clear hF hD hO;simp only[Act.put,zsA,zsB,zsC] at hK ⊢;go_simp;refine hK _ _ trivial hI (fun W2 h2=>?_);rfl
          refine ObsF.cons (fun ρ L W hR hI hL hD hO hF K hK=>?_) ?_
          ·skip
           clear hF hD hO;simp only[Act.put,zsA,zsB,zsC] at hK ⊢;go_simp;refine hK _ _ trivial hI (fun W2 h2=>?_);rfl
          refine ObsF.cons (fun ρ L W hR hI hL hD hO hF K hK=>?_) ?_
          ·skip
           have f1:=allF_get hF (j:=1) (by decide);clear hF hD hO;simp only[Act.put,zsA,zsB,zsC] at hK ⊢;have e1:ρ 1=.int .i64 j:=f1;rw[e1] at hK ⊢;have yw:=wr_i64 (x:=(j:Int)+1) (by omega) (by omega);go_simp;refine hK _ _ trivial hI (fun W2 h2=>?_);rfl
          refine ObsF.cons (fun ρ L W hR hI hL hD hO hF K hK=>?_) ?_
          ·skip
           have f0:=allF_get hF (j:=0) (by decide);have f2:=allF_get hF (j:=2) (by decide);clear hF hD hO;simp only[Act.put,zsA,zsB,zsC] at hK ⊢;have e0:ρ 0=.slice (some ⟨w.heap.size,0,none⟩) (m+1) (m+1):=f0;have e2:ρ 2=.int .i64 ((j:Int)+1):=f2;rw[e0,e2] at hK ⊢;have z1:(j:Int)+1<(m:Int)+1:=by omega
           have z0:0<=(j:Int)+1:=by omega
           have z2:((j:Int)+1).toNat=j+1:=by omega
           go_simp;refine hK _ _ trivial hI (fun W2 h2=>?_);rfl
          refine ObsF.cons (fun ρ L W hR hI hL hD hO hF K hK=>?_) ?_
          ·skip
           have f3:=allF_get hF (j:=3) (by decide);have hI5:=hI;clear hF hD hO;simp only[Act.put,zsA,zsB,zsC] at hK ⊢;have e3:ρ 3=.pointer (some ⟨w.heap.size,j+1,none⟩):=f3;rw[e3] at hK ⊢;have hc:=HCU.out W hI5;haveI:LtW w.heap.size W:=LtW.of (Nat.lt_of_lt_of_le HGL.out hI5.size);go_simp;refine hK _ _ trivial hI (fun W2 h2=>?_);rfl
          refine ObsF.cons (fun ρ L W hR hI hL hD hO hF K hK=>?_) ?_
          ·skip
           have hI5:=hI;clear hF hD hO;simp only[Act.put,zsA,zsB,zsC] at hK ⊢;obtain⟨d0,d1,d2⟩:=HT.out W hI5;haveI:LtW tb W:=LtW.of (Nat.lt_of_lt_of_le HTL.out hI5.size);go_simp;refine hK _ _ trivial hI (fun W2 h2=>?_);rfl
          refine ObsF.cons (fun ρ L W hR hI hL hD hO hF K hK=>?_) ?_
          ·skip
           have f5:=allF_get hF (j:=5) (by decide);have hI5:=hI;clear hF hD hO;simp only[Act.put,zsA,zsB,zsC] at hK ⊢;have e5:ρ 5=.agg #[.int .i64 kd,.string ⟨tx.toArray⟩,.int .i64 id]:=f5;rw[e5] at hK ⊢;refine step_callF3 (o:=⟨some 68,_,_,_,_,_⟩) rfl 100 #[.agg #[.int .i64 kd,.string ⟨tx.toArray⟩,.int .i64 id]] _ (HS.out W) ?_ ?_
           ·go_simp
           rintro e W2 ⟨rfl,hu⟩;exact⟨_,rfl,hK _ _ trivial (hI5.trans hu) (fun W3 h3=>rfl)⟩
          refine ObsF.cons (fun ρ L W hR hI hL hD hO hF K hK=>?_) ?_
          ·skip
           have f4:=allF_get hF (j:=4) (by decide);have f6:=allF_get hF (j:=6) (by decide);clear hF hD hO;simp only[Act.put,zsA,zsB,zsC] at hK ⊢;have e4:ρ 4=.int .i64 (u:Int):=f4;have e6:ρ 6=.int .i64 (q:Int):=f6;rw[e4,e6] at hK ⊢;have yw:=wr_i64 (x:=(u:Int)+(q:Int)) (by omega) (by omega);go_simp;refine hK _ _ trivial hI (fun W2 h2=>?_);rfl
          refine ObsF.cons (fun ρ L W hR hI hL hD hO hF K hK=>?_) ?_
          ·skip
           clear hF hD hO;simp only[Act.put,zsA,zsB,zsC] at hK ⊢;go_simp;refine hK _ _ trivial hI (fun W2 h2=>?_);rfl
          refine ObsF.cons (fun ρ L W hR hI hL hD hO hF K hK=>?_) ?_
          ·skip
           clear hF hD hO;simp only[Act.put,zsA,zsB,zsC] at hK ⊢;go_simp;refine hK _ _ trivial hI (fun W2 h2=>?_);rfl
          refine ObsF.cons (fun ρ L W hR hI hL hD hO hF K hK=>?_) ?_
          ·skip
           have f8:=allF_get hF (j:=8) (by decide);have f9:=allF_get hF (j:=9) (by decide);clear hF hD hO;simp only[Act.put,zsA,zsB,zsC] at hK ⊢;have e8:ρ 8=.slice (some ⟨w.heap.size,0,none⟩) (m+1) (m+1):=f8;have e9:ρ 9=.int .i64 j:=f9;rw[e8,e9] at hK ⊢;have z1:(j:Int)<(m:Int)+1:=by omega
           go_simp;refine hK _ _ trivial hI (fun W2 h2=>?_);rfl
          refine ObsF.cons (fun ρ L W hR hI hL hD hO hF K hK=>?_) ?_
          ·skip
           have f10:=allF_get hF (j:=10) (by decide);have hI5:=hI;clear hF hD hO;simp only[Act.put,zsA,zsB,zsC] at hK ⊢;have e10:ρ 10=.pointer (some ⟨w.heap.size,j,none⟩):=f10;rw[e10] at hK ⊢;have hc:=HCV.out W hI5;haveI:LtW w.heap.size W:=LtW.of (Nat.lt_of_lt_of_le HGL.out hI5.size);go_simp;refine hK _ _ trivial hI (fun W2 h2=>?_);rfl
          refine ObsF.cons (fun ρ L W hR hI hL hD hO hF K hK=>?_) ?_
          ·skip
           have hI5:=hI;clear hF hD hO;simp only[Act.put,zsA,zsB,zsC] at hK ⊢;obtain⟨d0,d1,d2⟩:=HTY.out W hI5;haveI:LtW wr.heap.size W:=LtW.of (Nat.lt_of_lt_of_le (by simp) hI5.size);go_simp;refine hK _ _ trivial hI (fun W2 h2=>?_);rfl
          refine ObsF.cons (fun ρ L W hR hI hL hD hO hF K hK=>?_) ?_
          ·skip
           have f12:=allF_get hF (j:=12) (by decide);have hI5:=hI;clear hF hD hO;simp only[Act.put,zsA,zsB,zsC] at hK ⊢;have e12:ρ 12=.agg #[.int .i64 yk,.string ⟨yt.toArray⟩,.int .i64 yi]:=f12;rw[e12] at hK ⊢;refine step_callF3 (o:=⟨some 75,_,_,_,_,_⟩) rfl 100 #[.agg #[.int .i64 yk,.string ⟨yt.toArray⟩,.int .i64 yi]] _ (HSY.out W) ?_ ?_
           ·go_simp
           rintro e W2 ⟨rfl,hu⟩;exact⟨_,rfl,hK _ _ trivial (hI5.trans hu) (fun W3 h3=>rfl)⟩
          refine ObsF.cons (fun ρ L W hR hI hL hD hO hF K hK=>?_) ?_
          ·skip
           have f11:=allF_get hF (j:=11) (by decide);have f13:=allF_get hF (j:=13) (by decide);clear hF hD hO;simp only[Act.put,zsA,zsB,zsC] at hK ⊢;have e11:ρ 11=.int .i64 (vv:Int):=f11;have e13:ρ 13=.int .i64 (r:Int):=f13;rw[e11,e13] at hK ⊢;have yw:=wr_i64 (x:=(vv:Int)+(r:Int)) (by omega) (by omega);go_simp;refine hK _ _ trivial hI (fun W2 h2=>?_);rfl
          refine ObsF.cons (fun ρ L W hR hI hL hD hO hF K hK=>?_) ?_
          ·skip
           have f7:=allF_get hF (j:=7) (by decide);have f14:=allF_get hF (j:=14) (by decide);clear hF hD hO;simp only[Act.put,zsA,zsB,zsC] at hK ⊢;have e7:ρ 7=.int .i64 ((u:Int)+(q:Int)):=f7;have e14:ρ 14=.int .i64 ((vv:Int)+(r:Int)):=f14;rw[e7,e14] at hK ⊢;go_simp;refine hK _ _ trivial hI (fun W2 h2=>?_);exact congrArg (Value.int .i64) (by omega)
          refine ObsF.cons (fun ρ L W hR hI hL hD hO hF K hK=>?_) ?_
          ·skip
           have f15:=allF_get hF (j:=15) (by decide);clear hF hD hO;simp only[Act.put,zsA,zsB,zsC] at hK ⊢;have e15:ρ 15=.int .i64 ((min (u+q) (vv+r):Nat):Int):=f15;rw[e15] at hK ⊢;go_simp;refine hK _ _ trivial hI (fun W2 h2=>?_);rfl
          exact ObsF.nil
         case hend=>
          intro ρ L W hR hI hL hF
          have e16:ρ 16=.int .i64 ((min (u+q) (vv+r):Nat):Int):=by
           obtain⟨_,_,_,_,_,_,_,_,_,_,_,_,_,_,_,_,h,_⟩:=hF;exact h
          rw[e16];clear e16;clear hR hL hF;have g1:=HCU.out W hI;have f1:=HF.out W hI;obtain⟨t0,t1,t2⟩:=HT.out W hI;obtain⟨y0,y1,y2⟩:=HTY.out W hI;haveI:LtW w.heap.size W:=LtW.of (Nat.lt_of_lt_of_le HGL.out hI.size);haveI:LtW tb W:=LtW.of (Nat.lt_of_lt_of_le HTL.out hI.size);haveI:LtW wr.heap.size W:=LtW.of (Nat.lt_of_lt_of_le (by simp) hI.size);have x1:(j:Int)+1<(m:Int)+1:=by omega
          have x0:0<=(j:Int)+1:=by omega
          have x2:((j:Int)+1).toNat=j+1:=by omega
          have yw:=wr_i64 (x:=(j:Int)+1) (by omega) (by omega);have HWU:=hid hI;clear hI;generalize min (u+q) (vv+r)=bst at *;have hE:=hid (HE.out W HWU.out bst HST.out);clear HE HCU HCV HT HTY HF;go_wp2_with (go_at_call 101;refine(HCO.out _).mono ?_;rintro e w' ⟨rfl,X,rfl⟩);exact⟨hE.out.und (by apply_rules[uUe,uUa,uUb,uUc,uUd]),by simp[intOf];omega⟩
        | some cs=>
         have hcl:=cost_le hcs;rw[hcs] at hco hstep;simp only[optN,Option.isSome_some] at hco;have HCO:=hid hco;have HST:=hid hstep;clear hco hstep hcs;go_wp2_with fail;refine wp_region_facts (fun _ _=>True) (fun _ W=>Und (wr.alloc (.cells #[.int .i64 yk,.string ⟨yt.toArray⟩,.int .i64 yi] 104)) W) [fun v _=>v=.slice (some ⟨w.heap.size,0,none⟩) (m+1) (m+1),fun v _=>v=.int .i64 j,fun v _=>v=.int .i64 ((j:Int)+1),fun v _=>v=.pointer (some ⟨w.heap.size,j+1,none⟩),fun v _=>v=.int .i64 (u:Int),fun v _=>v=.agg #[.int .i64 kd,.string ⟨tx.toArray⟩,.int .i64 id],fun v _=>v=.int .i64 (q:Int),fun v _=>v=.int .i64 ((u:Int)+(q:Int)),fun v _=>v=.slice (some ⟨w.heap.size,0,none⟩) (m+1) (m+1),fun v _=>v=.int .i64 j,fun v _=>v=.pointer (some ⟨w.heap.size,j,none⟩),fun v _=>v=.int .i64 (vv:Int),fun v _=>v=.agg #[.int .i64 yk,.string ⟨yt.toArray⟩,.int .i64 yi],fun v _=>v=.int .i64 (r:Int),fun v _=>v=.int .i64 ((vv:Int)+(r:Int)),fun v _=>v=.int .i64 ((min (u+q) (vv+r):Nat):Int),fun v _=>v=.int .i64 ((min (u+q) (vv+r):Nat):Int)] (fun _=>trivial) (fun _ _ _ _ _=>trivial) (by kernel_rfl) (by rfl) (by kernel_rfl) (by kernel_rfl) ?fr15s ?hfr ?hI ?hob ?hend
         case hfr=>
          intro ρ;simp only[putAll,Act.put,zsA,zsB,zsC,Nat.zero_add,Nat.reduceAdd];exact rfl
         case hI=>exact(by apply_rules[uUe,uUa,uUb,uUc,uUd])
         case hob=>
          refine ObsF.cons (fun ρ L W hR hI hL hD hO hF K hK=>?_) ?_
          ·skip
           clear hF hD hO;simp only[Act.put,zsA,zsB,zsC] at hK ⊢;go_simp;refine hK _ _ trivial hI (fun W2 h2=>?_);rfl
          refine ObsF.cons (fun ρ L W hR hI hL hD hO hF K hK=>?_) ?_
          ·skip
           clear hF hD hO;simp only[Act.put,zsA,zsB,zsC] at hK ⊢;go_simp;refine hK _ _ trivial hI (fun W2 h2=>?_);rfl
          refine ObsF.cons (fun ρ L W hR hI hL hD hO hF K hK=>?_) ?_
          ·skip
           have f1:=allF_get hF (j:=1) (by decide);clear hF hD hO;simp only[Act.put,zsA,zsB,zsC] at hK ⊢;have e1:ρ 1=.int .i64 j:=f1;rw[e1] at hK ⊢;have yw:=wr_i64 (x:=(j:Int)+1) (by omega) (by omega);go_simp;refine hK _ _ trivial hI (fun W2 h2=>?_);rfl
          refine ObsF.cons (fun ρ L W hR hI hL hD hO hF K hK=>?_) ?_
          ·skip
           have f0:=allF_get hF (j:=0) (by decide);have f2:=allF_get hF (j:=2) (by decide);clear hF hD hO;simp only[Act.put,zsA,zsB,zsC] at hK ⊢;have e0:ρ 0=.slice (some ⟨w.heap.size,0,none⟩) (m+1) (m+1):=f0;have e2:ρ 2=.int .i64 ((j:Int)+1):=f2;rw[e0,e2] at hK ⊢;have z1:(j:Int)+1<(m:Int)+1:=by omega
           have z0:0<=(j:Int)+1:=by omega
           have z2:((j:Int)+1).toNat=j+1:=by omega
           go_simp;refine hK _ _ trivial hI (fun W2 h2=>?_);rfl
          refine ObsF.cons (fun ρ L W hR hI hL hD hO hF K hK=>?_) ?_
          ·skip
           have f3:=allF_get hF (j:=3) (by decide);have hI5:=hI;clear hF hD hO;simp only[Act.put,zsA,zsB,zsC] at hK ⊢;have e3:ρ 3=.pointer (some ⟨w.heap.size,j+1,none⟩):=f3;rw[e3] at hK ⊢;have hc:=HCU.out W hI5;haveI:LtW w.heap.size W:=LtW.of (Nat.lt_of_lt_of_le HGL.out hI5.size);go_simp;refine hK _ _ trivial hI (fun W2 h2=>?_);rfl
          refine ObsF.cons (fun ρ L W hR hI hL hD hO hF K hK=>?_) ?_
          ·skip
           have hI5:=hI;clear hF hD hO;simp only[Act.put,zsA,zsB,zsC] at hK ⊢;obtain⟨d0,d1,d2⟩:=HT.out W hI5;haveI:LtW tb W:=LtW.of (Nat.lt_of_lt_of_le HTL.out hI5.size);go_simp;refine hK _ _ trivial hI (fun W2 h2=>?_);rfl
          refine ObsF.cons (fun ρ L W hR hI hL hD hO hF K hK=>?_) ?_
          ·skip
           have f5:=allF_get hF (j:=5) (by decide);have hI5:=hI;clear hF hD hO;simp only[Act.put,zsA,zsB,zsC] at hK ⊢;have e5:ρ 5=.agg #[.int .i64 kd,.string ⟨tx.toArray⟩,.int .i64 id]:=f5;rw[e5] at hK ⊢;refine step_callF3 (o:=⟨some 68,_,_,_,_,_⟩) rfl 100 #[.agg #[.int .i64 kd,.string ⟨tx.toArray⟩,.int .i64 id]] _ (HS.out W) ?_ ?_
           ·go_simp
           rintro e W2 ⟨rfl,hu⟩;exact⟨_,rfl,hK _ _ trivial (hI5.trans hu) (fun W3 h3=>rfl)⟩
          refine ObsF.cons (fun ρ L W hR hI hL hD hO hF K hK=>?_) ?_
          ·skip
           have f4:=allF_get hF (j:=4) (by decide);have f6:=allF_get hF (j:=6) (by decide);clear hF hD hO;simp only[Act.put,zsA,zsB,zsC] at hK ⊢;have e4:ρ 4=.int .i64 (u:Int):=f4;have e6:ρ 6=.int .i64 (q:Int):=f6;rw[e4,e6] at hK ⊢;have yw:=wr_i64 (x:=(u:Int)+(q:Int)) (by omega) (by omega);go_simp;refine hK _ _ trivial hI (fun W2 h2=>?_);rfl
          refine ObsF.cons (fun ρ L W hR hI hL hD hO hF K hK=>?_) ?_
          ·skip
           clear hF hD hO;simp only[Act.put,zsA,zsB,zsC] at hK ⊢;go_simp;refine hK _ _ trivial hI (fun W2 h2=>?_);rfl
          refine ObsF.cons (fun ρ L W hR hI hL hD hO hF K hK=>?_) ?_
          ·skip
           clear hF hD hO;simp only[Act.put,zsA,zsB,zsC] at hK ⊢;go_simp;refine hK _ _ trivial hI (fun W2 h2=>?_);rfl
          refine ObsF.cons (fun ρ L W hR hI hL hD hO hF K hK=>?_) ?_
          ·skip
           have f8:=allF_get hF (j:=8) (by decide);have f9:=allF_get hF (j:=9) (by decide);clear hF hD hO;simp only[Act.put,zsA,zsB,zsC] at hK ⊢;have e8:ρ 8=.slice (some ⟨w.heap.size,0,none⟩) (m+1) (m+1):=f8;have e9:ρ 9=.int .i64 j:=f9;rw[e8,e9] at hK ⊢;have z1:(j:Int)<(m:Int)+1:=by omega
           go_simp;refine hK _ _ trivial hI (fun W2 h2=>?_);rfl
          refine ObsF.cons (fun ρ L W hR hI hL hD hO hF K hK=>?_) ?_
          ·skip
           have f10:=allF_get hF (j:=10) (by decide);have hI5:=hI;clear hF hD hO;simp only[Act.put,zsA,zsB,zsC] at hK ⊢;have e10:ρ 10=.pointer (some ⟨w.heap.size,j,none⟩):=f10;rw[e10] at hK ⊢;have hc:=HCV.out W hI5;haveI:LtW w.heap.size W:=LtW.of (Nat.lt_of_lt_of_le HGL.out hI5.size);go_simp;refine hK _ _ trivial hI (fun W2 h2=>?_);rfl
          refine ObsF.cons (fun ρ L W hR hI hL hD hO hF K hK=>?_) ?_
          ·skip
           have hI5:=hI;clear hF hD hO;simp only[Act.put,zsA,zsB,zsC] at hK ⊢;obtain⟨d0,d1,d2⟩:=HTY.out W hI5;haveI:LtW wr.heap.size W:=LtW.of (Nat.lt_of_lt_of_le (by simp) hI5.size);go_simp;refine hK _ _ trivial hI (fun W2 h2=>?_);rfl
          refine ObsF.cons (fun ρ L W hR hI hL hD hO hF K hK=>?_) ?_
          ·skip
           have f12:=allF_get hF (j:=12) (by decide);have hI5:=hI;clear hF hD hO;simp only[Act.put,zsA,zsB,zsC] at hK ⊢;have e12:ρ 12=.agg #[.int .i64 yk,.string ⟨yt.toArray⟩,.int .i64 yi]:=f12;rw[e12] at hK ⊢;refine step_callF3 (o:=⟨some 75,_,_,_,_,_⟩) rfl 100 #[.agg #[.int .i64 yk,.string ⟨yt.toArray⟩,.int .i64 yi]] _ (HSY.out W) ?_ ?_
           ·go_simp
           rintro e W2 ⟨rfl,hu⟩;exact⟨_,rfl,hK _ _ trivial (hI5.trans hu) (fun W3 h3=>rfl)⟩
          refine ObsF.cons (fun ρ L W hR hI hL hD hO hF K hK=>?_) ?_
          ·skip
           have f11:=allF_get hF (j:=11) (by decide);have f13:=allF_get hF (j:=13) (by decide);clear hF hD hO;simp only[Act.put,zsA,zsB,zsC] at hK ⊢;have e11:ρ 11=.int .i64 (vv:Int):=f11;have e13:ρ 13=.int .i64 (r:Int):=f13;rw[e11,e13] at hK ⊢;have yw:=wr_i64 (x:=(vv:Int)+(r:Int)) (by omega) (by omega);go_simp;refine hK _ _ trivial hI (fun W2 h2=>?_);rfl
          refine ObsF.cons (fun ρ L W hR hI hL hD hO hF K hK=>?_) ?_
          ·skip
           have f7:=allF_get hF (j:=7) (by decide);have f14:=allF_get hF (j:=14) (by decide);clear hF hD hO;simp only[Act.put,zsA,zsB,zsC] at hK ⊢;have e7:ρ 7=.int .i64 ((u:Int)+(q:Int)):=f7;have e14:ρ 14=.int .i64 ((vv:Int)+(r:Int)):=f14;rw[e7,e14] at hK ⊢;go_simp;refine hK _ _ trivial hI (fun W2 h2=>?_);exact congrArg (Value.int .i64) (by omega)
          refine ObsF.cons (fun ρ L W hR hI hL hD hO hF K hK=>?_) ?_
          ·skip
           have f15:=allF_get hF (j:=15) (by decide);clear hF hD hO;simp only[Act.put,zsA,zsB,zsC] at hK ⊢;have e15:ρ 15=.int .i64 ((min (u+q) (vv+r):Nat):Int):=f15;rw[e15] at hK ⊢;go_simp;refine hK _ _ trivial hI (fun W2 h2=>?_);rfl
          exact ObsF.nil
         case hend=>
          intro ρ L W hR hI hL hF
          have e16:ρ 16=.int .i64 ((min (u+q) (vv+r):Nat):Int):=by
           obtain⟨_,_,_,_,_,_,_,_,_,_,_,_,_,_,_,_,h,_⟩:=hF;exact h
          rw[e16];clear e16;clear hR hL hF;have g1:=HCU.out W hI;have f1:=HF.out W hI;obtain⟨t0,t1,t2⟩:=HT.out W hI;obtain⟨y0,y1,y2⟩:=HTY.out W hI;haveI:LtW w.heap.size W:=LtW.of (Nat.lt_of_lt_of_le HGL.out hI.size);haveI:LtW tb W:=LtW.of (Nat.lt_of_lt_of_le HTL.out hI.size);haveI:LtW wr.heap.size W:=LtW.of (Nat.lt_of_lt_of_le (by simp) hI.size);have x1:(j:Int)+1<(m:Int)+1:=by omega
          have x0:0<=(j:Int)+1:=by omega
          have x2:((j:Int)+1).toNat=j+1:=by omega
          have yw:=wr_i64 (x:=(j:Int)+1) (by omega) (by omega);have HWU:=hid hI;clear hI;obtain⟨bst,hb0⟩:∃ bst,min (u+q) (vv+r)=bst:=⟨_,rfl⟩;rw[hb0];have hbl:bst<=u+q:=by omega
          have hst:=HST.out;rw[hb0] at hst;have hmin:min (bst:Int) ((z:Int)+(cs:Int))=((min bst (z+cs):Nat):Int):=by omega
          have yz:=wr_i64 (x:=(z:Int)+(cs:Int)) (by omega) (by omega);generalize min bst (z+cs)=bs2 at hmin hst;have hE:=hid (HE.out W HWU.out bs2 hst);clear HE HCU HCV HT HTY HF HST hb0 hst;go_wp2_with (go_at_call 101;refine(HCO.out _).mono ?_;rintro e w' ⟨rfl,X,rfl⟩)
          exact⟨hE.out.und (by apply_rules[uUe,uUa,uUb,uUc,uUd]),by simp[intOf];omega⟩
       ·have hjm:j=m:=by omega
        subst hjm;have hE:=hid (show Di2Rel w a b n j (.int .i64 ((i:Int)+1)) wr from⟨i+1,by omega,congrArg (Value.int .i64) (by omega),HCR.out wr HR.out,HU.out⟩);clear hlt hrow hu t0 t1 t2;go_wp2;exact⟨hE.out,by simp[intOf];omega⟩
    ·have him:n=i:=by omega
     subst him;have HSUR:=hid (fun W (hW:Und wr W)=>HSU.out W (HU.out.trans hW));have HLC:=hid (fun W (hW:Und wr W)=>(show W.cell? ⟨w.heap.size,m,none⟩=some (.int .i64 ((St.dpP a b n m:Nat):Int)) from(HR.out.und hW).cell (j:=m) (by omega)));have hdp:St.dpP a b n m=St.priceR a.reverse b.reverse:=by have:=St.dp_all a b;rw[hN,HM.out] at this;exact this
     have hdl:=St.dp_le a b n (by omega) m (by have:=HM.out;omega);have hdist:St.distL a b=St.dpP a b n m+St.surplusL a b:=by unfold St.distL;rw[hdp]
     have hde:=HDE.out;rw[hdist] at hde;clear hdist hdp;generalize St.dpP a b n m=dd at HLC hdl hde;generalize St.surplusL a b=su at HSUR hsl hde;haveI:LtW w.heap.size wr:=LtW.of hrow.lt;have g0:=HLC.out wr (Und.refl _);have z1:(m:Int)<(m:Int)+1:=by omega
     have yw:=wr_i64 (x:=(dd:Int)+(su:Int)) (by omega) (by omega);clear hrow hu hlt HR;go_wp2_with fail
     first|refine wp_region_under2 (by kernel_rfl) (by kernel_rfl) ?_|refine wp_region_under (by kernel_rfl) (by kernel_rfl) ?_
     repeat (go_big_quiet_step (first|((go_at_call 102;exact Calls.under_of (HSUR.out _ (by apply_rules[uUe,uUa,uUb,uUc,uUd]))))))
     refine wpQuiet_nil ?_;rintro _ ⟨X,rfl⟩;go_wp2;go_ret;exact⟨congrArg (fun k:Int=>Ending.returned (.int .i64 k)) (by rw[<- hde];omega),HU.out.trans (by apply_rules[uUe,uUa,uUb,uUc,uUd])⟩
end Go.Proofs.YtcfhfdphoidaeaaGreatDoor
