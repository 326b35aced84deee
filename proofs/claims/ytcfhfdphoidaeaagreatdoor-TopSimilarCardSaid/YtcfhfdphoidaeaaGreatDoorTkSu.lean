/- The contract of distance.surplus: what it gives is St.surplusL. -/
import Derived.Test.YtcfhfdphoidaeaaGreatDoorMpA
import Derived.Test.YtcfhfdphoidaeaaGreatDoorTkDi
set_option linter.unusedVariables false
set_option linter.unusedSimpArgs false
set_option maxHeartbeats 12800000
set_option maxRecDepth 20000
namespace Go.Proofs.YtcfhfdphoidaeaaGreatDoor
open Go.RowKit
namespace Mg
def sumG{κ:Type}(l:List (κ × Value)):Nat:=(l.map fun p=>2*(intOf p.2).natAbs).sum
theorem sumG_perm{κ:Type}{l l':List (κ × Value)}(h:l.Perm l'):sumG l=sumG l':=(h.map _).sum_nat
end Mg
namespace St
theorem surplus_le(a b:List Tk):surplusL a b<=2*(a.length+b.length):=by
 obtain⟨hk1,hk2⟩:=once_both (tgcL a++tgcL b);have h2:=gap_sum (tgcL a) (tgcL b) (onceL (tgcL a++tgcL b));rw[com_self _ (tgcL a) hk1 fun c h=>(hk2 c).2 (List.mem_append_left _ h),com_self _ (tgcL b) hk1 fun c h=>(hk2 c).2 (List.mem_append_right _ h)] at h2;have h3:(tgcL a).length<=a.length:=by unfold tgcL;rw[List.length_map];exact List.length_filter_le ..
 have h4:(tgcL b).length<=b.length:=by unfold tgcL;rw[List.length_map];exact List.length_filter_le ..
 have h5:surplusL a b=((onceL (tgcL a++tgcL b)).map fun c=>2*gapN ((tgcL a).count c) ((tgcL b).count c)).sum:=rfl;omega
theorem tgc_take(l:List Tk)(i:Nat)(h:i<l.length):tgcL (l.take (i+1))=tgcL (l.take i)++(if tagT l[i].1 then [(l[i].1,l[i].2.1)] else []):=by
 unfold tgcL;rw[List.take_add_one,List.getElem?_eq_getElem h,List.filter_append,List.map_append];congr 1;simp only[Option.toList_some,List.filter_cons,List.filter_nil]
 split <;> rfl
theorem tgc_sub(l:List Tk)(i:Nat):∀ c ∈ tgcL (l.take i),c ∈ tgcL l:=by
 intro c hc;unfold tgcL at *;obtain⟨t,ht,rfl⟩:=List.mem_map.1 hc;obtain⟨h1,h2⟩:=List.mem_filter.1 ht;exact List.mem_map.2 ⟨t,List.mem_filter.2 ⟨List.mem_of_mem_take h1,h2⟩,rfl⟩
theorem tgc_len0(l:List Tk):(tgcL l).length<=l.length:=by unfold tgcL;rw[List.length_map];exact List.length_filter_le ..
theorem tgc_len(l:List Tk)(i:Nat):(tgcL (l.take i)).length<=l.length:=Nat.le_trans (tgc_len0 _) (by rw[List.length_take];omega)
theorem tot_mem{l:List It}{x:It}(h:x ∈ l):x.2.1.length<=tot l:=by
 induction l with
 | nil=>cases h
 | cons y l ih=>
  have e:tot (y :: l)=y.2.1.length+tot l:=by simp[tot]
  rcases List.mem_cons.1 h with rfl|h
  ·omega
  ·have:=ih h;omega
theorem tgc_good(l:List Tk)(ht:tot l<=1000000000):∀ c ∈ tgcL l,Mg.tokGood c:=by
 intro c hc;unfold tgcL at hc;obtain⟨t,htm,rfl⟩:=List.mem_map.1 hc;obtain⟨h1,h2⟩:=List.mem_filter.1 htm;have h3:=tot_mem h1;unfold Mg.tokGood;simp only[tagT,Bool.or_eq_true,beq_iff_eq] at h2;refine⟨by simp only[];omega,by simp only[];omega,by simp only[];omega⟩
end St
def Su3Rel(w:World)(E:List (St.Cl × Value))(r D:Nat)(s10:Value)(wr:World):Prop:=
 ∃ (acc:Nat) (rest:List (St.Cl × Value)),s10=.int .i64 acc/\acc+Mg.sumG rest=D/\Mg.Rng Mg.tokV wr r w.heap.size E rest/\Und w wr
theorem SuAux{w wr w':World}{r:Nat}(h:Und w wr)(g:wr.grownBy w' (some r))(hr:w.heap.size<=r):Und w w':=h.grown g fun x hx=>by cases hx;exact hr
def Su1Rel(w:World)(a b:List St.It)(s16:Value)(wr:World):Prop:=
 ∃ i:Nat,i<=a.length/\s16=.int .i64 i/\Mg.At Mg.tokV wr w.heap.size (Mg.cl (St.onceL (St.tgcL (a.take i))) (fun c=>(((St.tgcL (a.take i)).count c:Nat):Int)))/\Und w wr
def Su2Rel(w:World)(a b:List St.It)(s35:Value)(wr:World):Prop:=
 ∃ i:Nat,i<=b.length/\s35=.int .i64 i/\Mg.At Mg.tokV wr w.heap.size (Mg.cl (St.onceL (St.tgcL a++St.tgcL (b.take i))) (fun c=>(((St.tgcL a).count c:Nat):Int)-(((St.tgcL (b.take i)).count c:Nat):Int)))/\Und w wr
theorem surplus_any(A:Option Addr)(n c:Nat)(a:List St.It)(B:Option Addr)(m d:Nat)(b:List St.It)(w:World)(hn:a.length=n)(hm:b.length=m)(h:ItemsAt w A a)(h':ItemsAt w B b)(hl:n<=1000000)(hl':m<=1000000)(ht:tot a<=1000000000)(ht':tot b<=1000000000) :
  Calls Tryz.prog 102 #[.slice A n c,.slice B m d] w fun e w'=>e=.returned (.int .i64 ((St.surplusL a b:Nat):Int))/\Und w w':=by
 have H:=hid h;have H':=hid h';have HN:=hid hn;have HM:=hid hm;have HTA:=hid ht;have HTB2:=hid ht';obtain⟨D,hde0⟩:∃ D,St.surplusL a b=D:=⟨_,rfl⟩;rw[hde0];have HDE:=hid hde0;have hmk:=@run_makeMap Tryz.prog;clear h h' hn hm ht ht' hde0;go_enter Tryz.func102,Tryz.ntmps102;go_wp2;go_loopw [16] (fun s16 wr=>Su1Rel w a b s16 wr) (fun s16 _=>n+1-(intOf s16).toNat)
 case atStart=>exact⟨0,by omega,rfl,by
  have:=Mg.made_at (kv:=Mg.tokV) w
  simpa [St.tgcL,Mg.cl,St.onceL] using this,(Und.refl w).alloc _⟩
 case round=>
  obtain⟨i,hi,rfl,hat,hu⟩:=hrel;have HU:=hid hu;have HA:=hid hat;have hN:=HN.out
  by_cases hlt:i<n
  ·have hlt2:i<a.length:=by omega
   obtain⟨ab,aoff,rfl,hb,hc⟩:=(H.out.und hu) (by omega);obtain⟨c0,c1,c2⟩:=hc i hlt2;have htt:=tot_tk a i hlt2;have htl:=tot_tk_le a (i+1);have hTA:=HTA.out;have hstep:=St.tgc_take a i hlt2;have hgd:=hid (fun c (hm:c ∈ St.tgcL a)=>St.tgc_good a hTA c hm);have hsub:=hid (fun c (hm:c ∈ St.tgcL (a.take (i+1)))=>St.tgc_sub a (i+1) c hm);have hlen:=St.tgc_len a (i+1);generalize a[i]=x at c0 c1 c2 htt hstep;obtain⟨kd,tx,id⟩:=x;simp only at c0 c1 c2 htt;have hT:=fun W=>dtag_any kd ⟨tx.toArray⟩ id W
   haveI:LtW ab wr:=LtW.of hb;clear hc htt htl hTA hu hat;cases htag:St.tagT kd with
   | false=>
    rw[htag] at hT hstep;simp only[Bool.false_eq_true,if_false,List.append_nil] at hstep;have HT:=hid hT;have HST:=hid hstep;have HE:=hid (fun W (hW:Und wr W)=>(show Su1Rel w a b (.int .i64 ((i:Int)+1)) W from⟨i+1,by omega,congrArg (Value.int .i64) (by omega),by rw[HST.out];exact HA.out.und hW,HU.out.trans hW⟩));clear hT hstep htag;go_wp2_with (go_at_call 154;refine(HT.out _).mono ?_;rintro e w' ⟨rfl,X,rfl⟩);exact⟨HE.out _ (by apply_rules[uUe,uUa,uUb,uUc,uUd]),by simp[intOf];omega⟩
   | true=>
    rw[htag] at hT hstep;simp only[if_true] at hstep;have HT:=hid hT;have HST:=hid hstep;clear hT hstep htag;obtain⟨tb,htb⟩:∃ tb,wr.heap.size=tb:=⟨_,rfl⟩;obtain⟨nn,hnn⟩:∃ nn:Int,(fun c=>(((St.tgcL (a.take i)).count c:Nat):Int)) (kd,tx)=nn:=⟨_,rfl⟩
    have hnl:-1000000000<=nn/\nn<=1000000000:=by
     have h1:(St.tgcL (a.take i)).count (kd,tx)<=a.length:=Nat.le_trans List.count_le_length (Nat.le_trans (St.tgc_len a i) (by omega));rw[<- hnn];constructor <;> (simp only[];omega)
    go_wp2_with (go_at_call 154;refine(HT.out _).mono ?_;rintro e w5 ⟨rfl,hu5⟩);have d0:w5.cell? ⟨tb,0,none⟩=some (.int .i64 kd):=by subst htb;exact(hu5.cell (p:=⟨wr.heap.size,0,none⟩) (by simp)).trans (by simp)
    have d1:w5.cell? ⟨tb,1,none⟩=some (.string ⟨tx.toArray⟩):=by subst htb;exact(hu5.cell (p:=⟨wr.heap.size,1,none⟩) (by simp)).trans (by simp)
    have HTB:=hid (show tb<w5.heap.size from by have:=hu5.size;simp at this;omega);have HU5:=hid ((HU.out.trans ((Und.refl wr).alloc _)).trans hu5);have HAT:=hid (HA.out.und (((Und.refl wr).alloc _).trans hu5));have HTM:=hid (show tb ≠ w.heap.size from by have:=HA.out.lt;omega);have hmem:(kd,tx) ∈ St.tgcL (a.take (i+1)):=by rw[HST.out];simp
    have HGK:=hid (hgd.out _ (hsub.out _ hmem));have HKG:=hid (show ∀ c ∈ St.onceL (St.tgcL (a.take i)),Mg.tokGood c from fun c hm=>hgd.out c (St.tgc_sub a i c ((St.once_both _).2 c |>.1 hm)));have HKN:=hid (St.once_both (St.tgcL (a.take i))).1
    have H0:=hid (show (kd,tx) ∉ St.onceL (St.tgcL (a.take i))->(fun c=>(((St.tgcL (a.take i)).count c:Nat):Int)) (kd,tx)=0 from fun hm=>by
     have h1:(kd,tx) ∉ St.tgcL (a.take i):=fun h=>hm ((St.once_both _).2 _ |>.2 h)
     simp only[List.count_eq_zero_of_not_mem h1];rfl)
    have HFV:=hid hnn
    have HFN:=hid (show (fun c=>(((St.tgcL (a.take (i+1))).count c:Nat):Int)) (kd,tx)=nn+1 from by
     have h:=hnn;dsimp only at h ⊢;rw[HST.out,List.count_append,List.count_singleton_self]
     omega)
    have HNE:=hid (show nn+1 ≠ (fun c=>(((St.tgcL (a.take i)).count c:Nat):Int)) (kd,tx) from by
     have h:=hnn;dsimp only at h ⊢
     omega)
    have HFO:=hid (show ∀ c,c ≠ (kd,tx)->(fun c=>(((St.tgcL (a.take (i+1))).count c:Nat):Int)) c=(fun c=>(((St.tgcL (a.take i)).count c:Nat):Int)) c from fun c hc=>by
     dsimp only
     rw[HST.out,List.count_append,show List.count c [(kd,tx)]=0 from List.count_eq_zero_of_not_mem (by simpa using hc),Nat.add_zero])
    clear hu5 hmem hnn hsub hgd c0 c1 c2
    first|clear htb|skip
    refine wp_region_facts (Mg.CntR Mg.tokV w.heap.size (Mg.ens (kd,tx) (.int .i64 0) (Mg.cl (St.onceL (St.tgcL (a.take i))) ((fun c=>(((St.tgcL (a.take i)).count c:Nat):Int))))) (Mg.cl (Mg.addK (St.onceL (St.tgcL (a.take i))) (kd,tx)) ((fun c=>(((St.tgcL (a.take (i+1))).count c:Nat):Int))))) (Mg.Cnt Mg.tokV w5 w.heap.size (Mg.ens (kd,tx) (.int .i64 0) (Mg.cl (St.onceL (St.tgcL (a.take i))) ((fun c=>(((St.tgcL (a.take i)).count c:Nat):Int))))) (Mg.cl (Mg.addK (St.onceL (St.tgcL (a.take i))) (kd,tx)) ((fun c=>(((St.tgcL (a.take (i+1))).count c:Nat):Int)))) 8 10) [fun v _=>v=.map (some w.heap.size),fun v _=>v=.pointer (some ⟨tb,0,none⟩),fun v _=>v=.int .i64 kd,fun v _=>v=.pointer (some ⟨tb,1,none⟩),fun v _=>v=.string ⟨tx.toArray⟩,fun v _=>v=.agg #[.int .i64 kd,.string ⟨tx.toArray⟩,.int .i64 0],fun v _=>v=.int .i64 nn,fun v _=>v=.int .i64 (nn+1),fun v W=>(∃ (j:Nat) (u x:Value),v=.tuple #[x,.int .i64 j]/\(Mg.ens (kd,tx) (.int .i64 0) (Mg.cl (St.onceL (St.tgcL (a.take i))) ((fun c=>(((St.tgcL (a.take i)).count c:Nat):Int)))))[j]?=some ((kd,tx),u))/\(Mg.At Mg.tokV W w.heap.size (Mg.ens (kd,tx) (.int .i64 0) (Mg.cl (St.onceL (St.tgcL (a.take i))) ((fun c=>(((St.tgcL (a.take i)).count c:Nat):Int)))))∨Mg.At Mg.tokV W w.heap.size (Mg.cl (Mg.addK (St.onceL (St.tgcL (a.take i))) (kd,tx)) ((fun c=>(((St.tgcL (a.take (i+1))).count c:Nat):Int))))),fun v W=>(∃ (j:Nat) (u:Value),v=.int .i64 j/\(Mg.ens (kd,tx) (.int .i64 0) (Mg.cl (St.onceL (St.tgcL (a.take i))) ((fun c=>(((St.tgcL (a.take i)).count c:Nat):Int)))))[j]?=some ((kd,tx),u))/\(Mg.At Mg.tokV W w.heap.size (Mg.ens (kd,tx) (.int .i64 0) (Mg.cl (St.onceL (St.tgcL (a.take i))) ((fun c=>(((St.tgcL (a.take i)).count c:Nat):Int)))))∨Mg.At Mg.tokV W w.heap.size (Mg.cl (Mg.addK (St.onceL (St.tgcL (a.take i))) (kd,tx)) ((fun c=>(((St.tgcL (a.take (i+1))).count c:Nat):Int))))),noFact] Mg.CntR.refl Mg.CntR.trans (by kernel_rfl) (by rfl) (by kernel_rfl) (by kernel_rfl) ?fra ?hfr ?hI ?hob ?hend
    case hfr=>
     intro ρ;simp only[putAll,Act.put,zsA,zsB,zsC,Nat.zero_add,Nat.reduceAdd];exact rfl
    case hI=>
     unfold Mg.Cnt;simp only[Bool.false_eq_true,if_false];exact(by apply_rules[uUe,uUa,uUb,uUc,uUd])
    case hob=>
     refine ObsF.cons (fun ρ L W hR hI hL hD hO hF K hK=>?_) ?_
     ·skip
      clear hF hD hO;simp only[Act.put,zsA,zsB,zsC] at hK ⊢;go_simp;refine hK _ _ (Mg.CntR.refl _) (hI.keep (by decide) (by decide)) (fun W2 h2=>?_);rfl
     refine ObsF.cons (fun ρ L W hR hI hL hD hO hF K hK=>?_) ?_
     ·skip
      clear hF hD hO;simp only[Act.put,zsA,zsB,zsC] at hK ⊢;go_simp;refine hK _ _ (Mg.CntR.refl _) (hI.keep (by decide) (by decide)) (fun W2 h2=>?_);rfl
     refine ObsF.cons (fun ρ L W hR hI hL hD hO hF K hK=>?_) ?_
     ·skip
      have f1:=allF_get hF (j:=1) (by decide);clear hF hD hO;simp only[Act.put,zsA,zsB,zsC] at hK ⊢;have e1:ρ 1=.pointer (some ⟨tb,0,none⟩):=f1;rw[e1] at hK ⊢;have d5:=(hI.cell (b:=tb) (o:=0) HTB.out HTM.out).trans d0;haveI:LtW tb W:=LtW.of (Nat.lt_of_lt_of_le HTB.out hI.size);go_simp;refine hK _ _ (Mg.CntR.refl _) (hI.keep (by decide) (by decide)) (fun W2 h2=>?_);rfl
     refine ObsF.cons (fun ρ L W hR hI hL hD hO hF K hK=>?_) ?_
     ·skip
      clear hF hD hO;simp only[Act.put,zsA,zsB,zsC] at hK ⊢;go_simp;refine hK _ _ (Mg.CntR.refl _) (hI.keep (by decide) (by decide)) (fun W2 h2=>?_);rfl
     refine ObsF.cons (fun ρ L W hR hI hL hD hO hF K hK=>?_) ?_
     ·skip
      have f3:=allF_get hF (j:=3) (by decide);clear hF hD hO;simp only[Act.put,zsA,zsB,zsC] at hK ⊢;have e3:ρ 3=.pointer (some ⟨tb,1,none⟩):=f3;rw[e3] at hK ⊢;have d6:=(hI.cell (b:=tb) (o:=1) HTB.out HTM.out).trans d1;haveI:LtW tb W:=LtW.of (Nat.lt_of_lt_of_le HTB.out hI.size);go_simp;refine hK _ _ (Mg.CntR.refl _) (hI.keep (by decide) (by decide)) (fun W2 h2=>?_);rfl
     refine ObsF.cons (fun ρ L W hR hI hL hD hO hF K hK=>?_) ?_
     ·skip
      have f2:=allF_get hF (j:=2) (by decide);have f4:=allF_get hF (j:=4) (by decide);clear hF hD hO;simp only[Act.put,zsA,zsB,zsC] at hK ⊢;have e2:ρ 2=.int .i64 kd:=f2;have e4:ρ 4=.string ⟨tx.toArray⟩:=f4;rw[e2,e4] at hK ⊢;go_simp;refine hK _ _ (Mg.CntR.refl _) (hI.keep (by decide) (by decide)) (fun W2 h2=>?_);rfl
     refine ObsF.cons (fun ρ L W hR hI hL hD hO hF K hK=>?_) ?_
     ·skip
      have f0:=allF_get hF (j:=0) (by decide);have f5:=allF_get hF (j:=5) (by decide);have hp0:L 7=false:=hD.not (p:=7) rfl (by decide) hL;have hp1:L 10=false:=hD.not (p:=10) rfl (by decide) hp0;clear hF hD hO;simp only[Act.put,zsA,zsB,zsC] at hK ⊢;have e0:ρ 0=.map (some w.heap.size):=f0;have e5:ρ 5=.agg #[.int .i64 kd,.string ⟨tx.toArray⟩,.int .i64 0]:=f5;rw[e0,e5] at hK ⊢;have hr:(Instr.lookup 162 (.map (some w.heap.size)) (.agg #[.int .i64 kd,.string ⟨tx.toArray⟩,.int .i64 0]) false).run Tryz.prog W=.ok (.int .i64 (nn)) W:=hI.read Mg.tok_KV Tryz.underlying162 hp1 HAT.out HKG.out HKN.out HGK.out H0.out HFV.out;go_simp;refine hK _ _ (Mg.CntR.refl _) (hI.keep (by decide) (by decide)) (fun W2 h2=>?_);rfl
     refine ObsF.cons (fun ρ L W hR hI hL hD hO hF K hK=>?_) ?_
     ·skip
      have f6:=allF_get hF (j:=6) (by decide);clear hF hD hO;simp only[Act.put,zsA,zsB,zsC] at hK ⊢;have e6:ρ 6=.int .i64 nn:=f6;rw[e6] at hK ⊢;have yw:=wr_i64 (x:=nn+1) (by omega) (by omega);go_simp;refine hK _ _ (Mg.CntR.refl _) (hI.keep (by decide) (by decide)) (fun W2 h2=>?_);rfl
     refine ObsF.cons (fun ρ L W hR hI hL hD hO hF K hK=>?_) ?_
     ·skip
      have f0:=allF_get hF (j:=0) (by decide);have f5:=allF_get hF (j:=5) (by decide);have hp0:L 9=false:=hD.not (p:=9) rfl (by decide) hL;have hp1:L 10=false:=hD.not (p:=10) rfl (by decide) hp0;clear hF hD hO;simp only[Act.put,zsA,zsB,zsC] at hK ⊢;have e0:ρ 0=.map (some w.heap.size):=f0;have e5:ρ 5=.agg #[.int .i64 kd,.string ⟨tx.toArray⟩,.int .i64 0]:=f5;rw[e0,e5] at hK ⊢;obtain⟨j,u,x,hj,hr,hat,hI2⟩:=hI.opens Mg.tok_KV Tryz.underlying162 hL hp1 (by decide) HAT.out HKG.out HKN.out HGK.out
      replace hr:(Instr.mapEntry 162 (.map (some w.heap.size)) (.agg #[.int .i64 kd,.string ⟨tx.toArray⟩,.int .i64 0])).run Tryz.prog W=_:=hr
      go_simp;refine hK _ _ (fun _=>.inl hat) hI2 (fun W2 h2=>⟨⟨j,u,x,rfl,hj⟩,h2 (.inl hat)⟩)
     refine ObsF.cons (fun ρ L W hR hI hL hD hO hF K hK=>?_) ?_
     ·skip
      have f8:=allF_get hF (j:=8) (by decide);clear hF hD hO;simp only[Act.put,zsA,zsB,zsC] at hK ⊢;obtain⟨⟨j8,u8,x8,e8,hj8⟩,hat⟩:=f8;rw[e8] at hK ⊢;go_simp;refine hK _ _ (Mg.CntR.refl _) (hI.keep (by decide) (by decide)) (fun W2 h2=>⟨⟨j8,u8,rfl,hj8⟩,h2 hat⟩)
     refine ObsF.cons (fun ρ L W hR hI hL hD hO hF K hK=>?_) ?_
     ·skip
      have f0:=allF_get hF (j:=0) (by decide);have f9:=allF_get hF (j:=9) (by decide);have f7:=allF_get hF (j:=7) (by decide);clear hF hD hO;simp only[Act.put,zsA,zsB,zsC] at hK ⊢;have e0:ρ 0=.map (some w.heap.size):=f0;obtain⟨⟨j9,u9,e9,hj9⟩,hat⟩:=f9;have e7:ρ 7=.int .i64 (nn+1):=f7;rw[e0,e9,e7] at hK ⊢;obtain⟨W9,hr,hI2,hat2⟩:=hI.stores Mg.tok_KV Tryz.underlying162 hL HAT.out HKG.out HKN.out HGK.out HFN.out HNE.out HFO.out hj9 hat
      replace hr:(Instr.entryStore 162 (.map (some w.heap.size)) (.int .i64 j9) (.int .i64 (nn+1))).run Tryz.prog W=_:=hr
      go_simp;refine hK undef _ (fun _=>.inr hat2) hI2 (fun _ _=>trivial)
     exact ObsF.nil
    case hend=>
     intro ρ L W hR hI hL hF;have hLS:L 10=true:=hL 10 (by decide);unfold Mg.Cnt at hI;rw[if_pos hLS] at hI;obtain⟨W0,hu0,rfl⟩:=hI;clear hLS hR hL hF
     have hE:=hid (show Su1Rel w a b (.int .i64 ((i:Int)+1)) (Mg.put Mg.tokV W0 w.heap.size (Mg.cl (Mg.addK (St.onceL (St.tgcL (a.take i))) (kd,tx)) (fun c=>(((St.tgcL (a.take (i+1))).count c:Nat):Int)))) from⟨i+1,by omega,congrArg (Value.int .i64) (by omega),by
      rw[HST.out,<- Mg.addK_once];have hp:=Mg.put_at (HAT.out.und hu0) (Mg.cl (Mg.addK (St.onceL (St.tgcL (a.take i))) (kd,tx)) (fun c=>(((St.tgcL (a.take (i+1))).count c:Nat):Int)));rw[HST.out] at hp
      exact hp,Mg.put_und _ (HU5.out.trans hu0) (Nat.le_refl _)⟩)
     clear hu0;go_wp2;exact⟨hE.out,by simp[intOf];omega⟩
  ·have hin:n=i:=by omega
   subst hin;have hft:a.take n=a:=List.take_of_length_le (by omega);rw[hft] at HA;clear hlt hat hu
   have HB:=hid (show Su2Rel w a b (.int .i64 (0:Nat)) wr from⟨0,by omega,rfl,by
    have:=HA.out
    simpa [St.tgcL] using this,HU.out⟩)
   go_wp2;go_loopw [35] (fun s35 wr=>Su2Rel w a b s35 wr) (fun s35 _=>m+1-(intOf s35).toNat)
   case atStart=>exact HB.out
   case round=>
    clear HB HA HU;obtain⟨i,hi,rfl,hat,hu⟩:=hrel;have HU:=hid hu;have HA:=hid hat;have hN:=HM.out
    by_cases hlt:i<m
    ·have hlt2:i<b.length:=by omega
     obtain⟨ab,aoff,rfl,hb,hc⟩:=(H'.out.und hu) (by omega);obtain⟨c0,c1,c2⟩:=hc i hlt2;have htt:=tot_tk b i hlt2;have htl:=tot_tk_le b (i+1);have hTA:=HTB2.out;have hstep:=St.tgc_take b i hlt2;have hgd:=hid (fun c (hm:c ∈ St.tgcL b)=>St.tgc_good b hTA c hm);have hsub:=hid (fun c (hm:c ∈ St.tgcL (b.take (i+1)))=>St.tgc_sub b (i+1) c hm);have hlen:=St.tgc_len b (i+1);generalize b[i]=x at c0 c1 c2 htt hstep;obtain⟨kd,tx,id⟩:=x;simp only at c0 c1 c2 htt;have hT:=fun W=>dtag_any kd ⟨tx.toArray⟩ id W
     haveI:LtW ab wr:=LtW.of hb;clear hc htt htl hTA hu hat;cases htag:St.tagT kd with
     | false=>
      rw[htag] at hT hstep;simp only[Bool.false_eq_true,if_false,List.append_nil] at hstep;have HT:=hid hT;have HST:=hid hstep;have HE:=hid (fun W (hW:Und wr W)=>(show Su2Rel w a b (.int .i64 ((i:Int)+1)) W from⟨i+1,by omega,congrArg (Value.int .i64) (by omega),by rw[HST.out];exact HA.out.und hW,HU.out.trans hW⟩));clear hT hstep htag;go_wp2_with (go_at_call 154;refine(HT.out _).mono ?_;rintro e w' ⟨rfl,X,rfl⟩);exact⟨HE.out _ (by apply_rules[uUe,uUa,uUb,uUc,uUd]),by simp[intOf];omega⟩
     | true=>
      rw[htag] at hT hstep;simp only[if_true] at hstep;have HT:=hid hT;have HST:=hid hstep;clear hT hstep htag;obtain⟨tb,htb⟩:∃ tb,wr.heap.size=tb:=⟨_,rfl⟩;obtain⟨nn,hnn⟩:∃ nn:Int,(fun c=>(((St.tgcL a).count c:Nat):Int)-(((St.tgcL (b.take i)).count c:Nat):Int)) (kd,tx)=nn:=⟨_,rfl⟩
      have hnl:-1000000000<=nn/\nn<=1000000000:=by
       have h1:(St.tgcL a).count (kd,tx)<=a.length:=Nat.le_trans List.count_le_length (St.tgc_len0 a);have h2:(St.tgcL (b.take i)).count (kd,tx)<=b.length:=Nat.le_trans List.count_le_length (Nat.le_trans (St.tgc_len b i) (by omega));have h3:=HN.out;rw[<- hnn];constructor <;> (simp only[];omega)
      go_wp2_with (go_at_call 154;refine(HT.out _).mono ?_;rintro e w5 ⟨rfl,hu5⟩);have d0:w5.cell? ⟨tb,0,none⟩=some (.int .i64 kd):=by subst htb;exact(hu5.cell (p:=⟨wr.heap.size,0,none⟩) (by simp)).trans (by simp)
      have d1:w5.cell? ⟨tb,1,none⟩=some (.string ⟨tx.toArray⟩):=by subst htb;exact(hu5.cell (p:=⟨wr.heap.size,1,none⟩) (by simp)).trans (by simp)
      have HTB:=hid (show tb<w5.heap.size from by have:=hu5.size;simp at this;omega);have HU5:=hid ((HU.out.trans ((Und.refl wr).alloc _)).trans hu5);have HAT:=hid (HA.out.und (((Und.refl wr).alloc _).trans hu5));have HTM:=hid (show tb ≠ w.heap.size from by have:=HA.out.lt;omega);have hmem:(kd,tx) ∈ St.tgcL (b.take (i+1)):=by rw[HST.out];simp
      have HGK:=hid (hgd.out _ (hsub.out _ hmem))
      have HKG:=hid (show ∀ c ∈ St.onceL (St.tgcL a++St.tgcL (b.take i)),Mg.tokGood c from fun c hm=>by
       rcases List.mem_append.1 ((St.once_both _).2 c |>.1 hm) with h|h
       ·exact St.tgc_good a HTA.out c h
       ·exact St.tgc_good b HTB2.out c (St.tgc_sub b i c h))
      have HKN:=hid (St.once_both (St.tgcL a++St.tgcL (b.take i))).1
      have H0:=hid (show (kd,tx) ∉ St.onceL (St.tgcL a++St.tgcL (b.take i))->(fun c=>(((St.tgcL a).count c:Nat):Int)-(((St.tgcL (b.take i)).count c:Nat):Int)) (kd,tx)=0 from fun hm=>by
       have h1:(kd,tx) ∉ St.tgcL a++St.tgcL (b.take i):=fun h=>hm ((St.once_both _).2 _ |>.2 h)
       simp only[List.mem_append,not_or] at h1
       simp only[List.count_eq_zero_of_not_mem h1.1,List.count_eq_zero_of_not_mem h1.2];rfl)
      have HFV:=hid hnn
      have HFN:=hid (show (fun c=>(((St.tgcL a).count c:Nat):Int)-(((St.tgcL (b.take (i+1))).count c:Nat):Int)) (kd,tx)=nn-1 from by
       have h:=hnn;dsimp only at h ⊢;rw[HST.out,List.count_append,List.count_singleton_self]
       omega)
      have HNE:=hid (show nn-1 ≠ (fun c=>(((St.tgcL a).count c:Nat):Int)-(((St.tgcL (b.take i)).count c:Nat):Int)) (kd,tx) from by
       have h:=hnn;dsimp only at h ⊢
       omega)
      have HFO:=hid (show ∀ c,c ≠ (kd,tx)->(fun c=>(((St.tgcL a).count c:Nat):Int)-(((St.tgcL (b.take (i+1))).count c:Nat):Int)) c=(fun c=>(((St.tgcL a).count c:Nat):Int)-(((St.tgcL (b.take i)).count c:Nat):Int)) c from fun c hc=>by
       dsimp only
       rw[HST.out,List.count_append,show List.count c [(kd,tx)]=0 from List.count_eq_zero_of_not_mem (by simpa using hc),Nat.add_zero])
      clear hu5 hmem hnn hsub hgd c0 c1 c2
      first|clear htb|skip
      refine wp_region_facts (Mg.CntR Mg.tokV w.heap.size (Mg.ens (kd,tx) (.int .i64 0) (Mg.cl (St.onceL (St.tgcL a++St.tgcL (b.take i))) ((fun c=>(((St.tgcL a).count c:Nat):Int)-(((St.tgcL (b.take i)).count c:Nat):Int))))) (Mg.cl (Mg.addK (St.onceL (St.tgcL a++St.tgcL (b.take i))) (kd,tx)) ((fun c=>(((St.tgcL a).count c:Nat):Int)-(((St.tgcL (b.take (i+1))).count c:Nat):Int))))) (Mg.Cnt Mg.tokV w5 w.heap.size (Mg.ens (kd,tx) (.int .i64 0) (Mg.cl (St.onceL (St.tgcL a++St.tgcL (b.take i))) ((fun c=>(((St.tgcL a).count c:Nat):Int)-(((St.tgcL (b.take i)).count c:Nat):Int))))) (Mg.cl (Mg.addK (St.onceL (St.tgcL a++St.tgcL (b.take i))) (kd,tx)) ((fun c=>(((St.tgcL a).count c:Nat):Int)-(((St.tgcL (b.take (i+1))).count c:Nat):Int)))) 8 10) [fun v _=>v=.map (some w.heap.size),fun v _=>v=.pointer (some ⟨tb,0,none⟩),fun v _=>v=.int .i64 kd,fun v _=>v=.pointer (some ⟨tb,1,none⟩),fun v _=>v=.string ⟨tx.toArray⟩,fun v _=>v=.agg #[.int .i64 kd,.string ⟨tx.toArray⟩,.int .i64 0],fun v _=>v=.int .i64 nn,fun v _=>v=.int .i64 (nn-1),fun v W=>(∃ (j:Nat) (u x:Value),v=.tuple #[x,.int .i64 j]/\(Mg.ens (kd,tx) (.int .i64 0) (Mg.cl (St.onceL (St.tgcL a++St.tgcL (b.take i))) ((fun c=>(((St.tgcL a).count c:Nat):Int)-(((St.tgcL (b.take i)).count c:Nat):Int)))))[j]?=some ((kd,tx),u))/\(Mg.At Mg.tokV W w.heap.size (Mg.ens (kd,tx) (.int .i64 0) (Mg.cl (St.onceL (St.tgcL a++St.tgcL (b.take i))) ((fun c=>(((St.tgcL a).count c:Nat):Int)-(((St.tgcL (b.take i)).count c:Nat):Int)))))∨Mg.At Mg.tokV W w.heap.size (Mg.cl (Mg.addK (St.onceL (St.tgcL a++St.tgcL (b.take i))) (kd,tx)) ((fun c=>(((St.tgcL a).count c:Nat):Int)-(((St.tgcL (b.take (i+1))).count c:Nat):Int))))),fun v W=>(∃ (j:Nat) (u:Value),v=.int .i64 j/\(Mg.ens (kd,tx) (.int .i64 0) (Mg.cl (St.onceL (St.tgcL a++St.tgcL (b.take i))) ((fun c=>(((St.tgcL a).count c:Nat):Int)-(((St.tgcL (b.take i)).count c:Nat):Int)))))[j]?=some ((kd,tx),u))/\(Mg.At Mg.tokV W w.heap.size (Mg.ens (kd,tx) (.int .i64 0) (Mg.cl (St.onceL (St.tgcL a++St.tgcL (b.take i))) ((fun c=>(((St.tgcL a).count c:Nat):Int)-(((St.tgcL (b.take i)).count c:Nat):Int)))))∨Mg.At Mg.tokV W w.heap.size (Mg.cl (Mg.addK (St.onceL (St.tgcL a++St.tgcL (b.take i))) (kd,tx)) ((fun c=>(((St.tgcL a).count c:Nat):Int)-(((St.tgcL (b.take (i+1))).count c:Nat):Int))))),noFact] Mg.CntR.refl Mg.CntR.trans (by kernel_rfl) (by rfl) (by kernel_rfl) (by kernel_rfl) ?frb ?hfr ?hI ?hob ?hend
      case hfr=>
       intro ρ;simp only[putAll,Act.put,zsA,zsB,zsC,Nat.zero_add,Nat.reduceAdd];exact rfl
      case hI=>
       unfold Mg.Cnt;simp only[Bool.false_eq_true,if_false];exact(by apply_rules[uUe,uUa,uUb,uUc,uUd])
      case hob=>
       refine ObsF.cons (fun ρ L W hR hI hL hD hO hF K hK=>?_) ?_
       ·skip
        clear hF hD hO;simp only[Act.put,zsA,zsB,zsC] at hK ⊢;go_simp;refine hK _ _ (Mg.CntR.refl _) (hI.keep (by decide) (by decide)) (fun W2 h2=>?_);rfl
       refine ObsF.cons (fun ρ L W hR hI hL hD hO hF K hK=>?_) ?_
       ·skip
        clear hF hD hO;simp only[Act.put,zsA,zsB,zsC] at hK ⊢;go_simp;refine hK _ _ (Mg.CntR.refl _) (hI.keep (by decide) (by decide)) (fun W2 h2=>?_);rfl
       refine ObsF.cons (fun ρ L W hR hI hL hD hO hF K hK=>?_) ?_
       ·skip
        have f1:=allF_get hF (j:=1) (by decide);clear hF hD hO;simp only[Act.put,zsA,zsB,zsC] at hK ⊢;have e1:ρ 1=.pointer (some ⟨tb,0,none⟩):=f1;rw[e1] at hK ⊢;have d5:=(hI.cell (b:=tb) (o:=0) HTB.out HTM.out).trans d0;haveI:LtW tb W:=LtW.of (Nat.lt_of_lt_of_le HTB.out hI.size);go_simp;refine hK _ _ (Mg.CntR.refl _) (hI.keep (by decide) (by decide)) (fun W2 h2=>?_);rfl
       refine ObsF.cons (fun ρ L W hR hI hL hD hO hF K hK=>?_) ?_
       ·skip
        clear hF hD hO;simp only[Act.put,zsA,zsB,zsC] at hK ⊢;go_simp;refine hK _ _ (Mg.CntR.refl _) (hI.keep (by decide) (by decide)) (fun W2 h2=>?_);rfl
       refine ObsF.cons (fun ρ L W hR hI hL hD hO hF K hK=>?_) ?_
       ·skip
        have f3:=allF_get hF (j:=3) (by decide);clear hF hD hO;simp only[Act.put,zsA,zsB,zsC] at hK ⊢;have e3:ρ 3=.pointer (some ⟨tb,1,none⟩):=f3;rw[e3] at hK ⊢;have d6:=(hI.cell (b:=tb) (o:=1) HTB.out HTM.out).trans d1;haveI:LtW tb W:=LtW.of (Nat.lt_of_lt_of_le HTB.out hI.size);go_simp;refine hK _ _ (Mg.CntR.refl _) (hI.keep (by decide) (by decide)) (fun W2 h2=>?_);rfl
       refine ObsF.cons (fun ρ L W hR hI hL hD hO hF K hK=>?_) ?_
       ·skip
        have f2:=allF_get hF (j:=2) (by decide);have f4:=allF_get hF (j:=4) (by decide);clear hF hD hO;simp only[Act.put,zsA,zsB,zsC] at hK ⊢;have e2:ρ 2=.int .i64 kd:=f2;have e4:ρ 4=.string ⟨tx.toArray⟩:=f4;rw[e2,e4] at hK ⊢;go_simp;refine hK _ _ (Mg.CntR.refl _) (hI.keep (by decide) (by decide)) (fun W2 h2=>?_);rfl
       refine ObsF.cons (fun ρ L W hR hI hL hD hO hF K hK=>?_) ?_
       ·skip
        have f0:=allF_get hF (j:=0) (by decide);have f5:=allF_get hF (j:=5) (by decide);have hp0:L 7=false:=hD.not (p:=7) rfl (by decide) hL;have hp1:L 10=false:=hD.not (p:=10) rfl (by decide) hp0;clear hF hD hO;simp only[Act.put,zsA,zsB,zsC] at hK ⊢;have e0:ρ 0=.map (some w.heap.size):=f0;have e5:ρ 5=.agg #[.int .i64 kd,.string ⟨tx.toArray⟩,.int .i64 0]:=f5;rw[e0,e5] at hK ⊢;have hr:(Instr.lookup 162 (.map (some w.heap.size)) (.agg #[.int .i64 kd,.string ⟨tx.toArray⟩,.int .i64 0]) false).run Tryz.prog W=.ok (.int .i64 (nn)) W:=hI.read Mg.tok_KV Tryz.underlying162 hp1 HAT.out HKG.out HKN.out HGK.out H0.out HFV.out;go_simp;refine hK _ _ (Mg.CntR.refl _) (hI.keep (by decide) (by decide)) (fun W2 h2=>?_);rfl
       refine ObsF.cons (fun ρ L W hR hI hL hD hO hF K hK=>?_) ?_
       ·skip
        have f6:=allF_get hF (j:=6) (by decide);clear hF hD hO;simp only[Act.put,zsA,zsB,zsC] at hK ⊢;have e6:ρ 6=.int .i64 nn:=f6;rw[e6] at hK ⊢;have yw:=wr_i64 (x:=nn-1) (by omega) (by omega);go_simp;refine hK _ _ (Mg.CntR.refl _) (hI.keep (by decide) (by decide)) (fun W2 h2=>?_);rfl
       refine ObsF.cons (fun ρ L W hR hI hL hD hO hF K hK=>?_) ?_
       ·skip
        have f0:=allF_get hF (j:=0) (by decide);have f5:=allF_get hF (j:=5) (by decide);have hp0:L 9=false:=hD.not (p:=9) rfl (by decide) hL;have hp1:L 10=false:=hD.not (p:=10) rfl (by decide) hp0;clear hF hD hO;simp only[Act.put,zsA,zsB,zsC] at hK ⊢;have e0:ρ 0=.map (some w.heap.size):=f0;have e5:ρ 5=.agg #[.int .i64 kd,.string ⟨tx.toArray⟩,.int .i64 0]:=f5;rw[e0,e5] at hK ⊢;obtain⟨j,u,x,hj,hr,hat,hI2⟩:=hI.opens Mg.tok_KV Tryz.underlying162 hL hp1 (by decide) HAT.out HKG.out HKN.out HGK.out
        replace hr:(Instr.mapEntry 162 (.map (some w.heap.size)) (.agg #[.int .i64 kd,.string ⟨tx.toArray⟩,.int .i64 0])).run Tryz.prog W=_:=hr
        go_simp;refine hK _ _ (fun _=>.inl hat) hI2 (fun W2 h2=>⟨⟨j,u,x,rfl,hj⟩,h2 (.inl hat)⟩)
       refine ObsF.cons (fun ρ L W hR hI hL hD hO hF K hK=>?_) ?_
       ·skip
        have f8:=allF_get hF (j:=8) (by decide);clear hF hD hO;simp only[Act.put,zsA,zsB,zsC] at hK ⊢;obtain⟨⟨j8,u8,x8,e8,hj8⟩,hat⟩:=f8;rw[e8] at hK ⊢;go_simp;refine hK _ _ (Mg.CntR.refl _) (hI.keep (by decide) (by decide)) (fun W2 h2=>⟨⟨j8,u8,rfl,hj8⟩,h2 hat⟩)
       refine ObsF.cons (fun ρ L W hR hI hL hD hO hF K hK=>?_) ?_
       ·skip
        have f0:=allF_get hF (j:=0) (by decide);have f9:=allF_get hF (j:=9) (by decide);have f7:=allF_get hF (j:=7) (by decide);clear hF hD hO;simp only[Act.put,zsA,zsB,zsC] at hK ⊢;have e0:ρ 0=.map (some w.heap.size):=f0;obtain⟨⟨j9,u9,e9,hj9⟩,hat⟩:=f9;have e7:ρ 7=.int .i64 (nn-1):=f7;rw[e0,e9,e7] at hK ⊢;obtain⟨W9,hr,hI2,hat2⟩:=hI.stores Mg.tok_KV Tryz.underlying162 hL HAT.out HKG.out HKN.out HGK.out HFN.out HNE.out HFO.out hj9 hat
        replace hr:(Instr.entryStore 162 (.map (some w.heap.size)) (.int .i64 j9) (.int .i64 (nn-1))).run Tryz.prog W=_:=hr
        go_simp;refine hK undef _ (fun _=>.inr hat2) hI2 (fun _ _=>trivial)
       exact ObsF.nil
      case hend=>
       intro ρ L W hR hI hL hF;have hLS:L 10=true:=hL 10 (by decide);unfold Mg.Cnt at hI;rw[if_pos hLS] at hI;obtain⟨W0,hu0,rfl⟩:=hI;clear hLS hR hL hF
       have hE:=hid (show Su2Rel w a b (.int .i64 ((i:Int)+1)) (Mg.put Mg.tokV W0 w.heap.size (Mg.cl (Mg.addK (St.onceL (St.tgcL a++St.tgcL (b.take i))) (kd,tx)) (fun c=>(((St.tgcL a).count c:Nat):Int)-(((St.tgcL (b.take (i+1))).count c:Nat):Int)))) from⟨i+1,by omega,congrArg (Value.int .i64) (by omega),by
        rw[HST.out,<- List.append_assoc,<- Mg.addK_once];have hp:=Mg.put_at (HAT.out.und hu0) (Mg.cl (Mg.addK (St.onceL (St.tgcL a++St.tgcL (b.take i))) (kd,tx)) (fun c=>(((St.tgcL a).count c:Nat):Int)-(((St.tgcL (b.take (i+1))).count c:Nat):Int)));rw[HST.out] at hp
        exact hp,Mg.put_und _ (HU5.out.trans hu0) (Nat.le_refl _)⟩)
       clear hu0;go_wp2;exact⟨hE.out,by simp[intOf];omega⟩
    ·have hin:m=i:=by omega
     subst hin;have hft:b.take m=b:=List.take_of_length_le (by omega);rw[hft] at HA;clear hlt hat hu;go_wp2_with (first|(at_range;refine Mg.wp_range (kv:=Mg.tokV) rfl _ 162 rfl Tryz.underlying162 w.heap.size rfl HA.out ?_;intro w7 hrg7 hu7 hs7));go_frame;have hrb:=HU.out.size;generalize wr.heap.size=r at hrg7 hs7 hrb ⊢;have HRG:=hid hrg7;have HU7:=hid (HU.out.trans hu7)
     have hS:Mg.sumG (Mg.cl (St.onceL (St.tgcL a++St.tgcL b)) (fun c=>(((St.tgcL a).count c:Nat):Int)-(((St.tgcL b).count c:Nat):Int)))=D:=by
      rw[<- HDE.out];unfold Mg.sumG Mg.cl St.surplusL;rw[List.map_map];congr 1;refine List.map_congr_left fun c _=>?_
      show 2*(intOf (.int .i64 _)).natAbs=_
      unfold St.gapN intOf;dsimp only;omega
     have HEV:=hid (show ∀ p ∈ Mg.cl (St.onceL (St.tgcL a++St.tgcL b)) (fun c=>(((St.tgcL a).count c:Nat):Int)-(((St.tgcL b).count c:Nat):Int)),∃ q:Int,p.2=.int .i64 q from fun p hp=>by
      obtain⟨c,_,rfl⟩:=List.mem_map.1 hp
      exact⟨_,rfl⟩)
     have hDl:D<=4000000:=by
      have h1:=St.surplus_le a b;rw[HDE.out] at h1;have h2:=HN.out;omega
     generalize Mg.cl (St.onceL (St.tgcL a++St.tgcL b)) (fun c=>(((St.tgcL a).count c:Nat):Int)-(((St.tgcL b).count c:Nat):Int))=E at HRG hS HA HEV;have HSS:=hid hS;clear hrg7 hu7 hs7 hS HA HU;go_loopw [10] (fun s10 wr=>Su3Rel w E r D s10 wr) (fun _ wr=>wr.rangeLeft w.heap.size r)
     case atStart=>exact⟨0,E,rfl,by rw[HSS.out,Nat.zero_add],HRG.out,HU7.out⟩
     case round=>
      clear HRG HU7;obtain⟨acc,rest,rfl,hsum,hrg,hu⟩:=hrel;have HRG:=hid hrg;have HU:=hid hu;have HSM:=hid hsum;have hacc:acc<=D:=by omega
      clear hrg hu hsum;go_wp2_with (at_next;refine Mg.wp_next (kv:=Mg.tokV) rfl _ rfl r w.heap.size rfl HRG.out ?_ ?_)
      ·intro h0
       have hv:acc=D:=by have:=HSM.out;rw[h0] at this;exact this
       clear h0;go_wp2;go_ret;exact⟨congrArg (fun k:Nat=>Ending.returned (.int .i64 (k:Int))) hv,HU.out⟩
      ·intro k1 k2 v rest' w' hp hmem hrg' hgb hsz hen
       have hlr:=HRG.out.left;have hlr':=hrg'.left;have hpl:=hp.length_eq;have hps:=Mg.sumG_perm hp;have HU':=hid (show Und w w' from SuAux HU.out hgb hrb);have HRG':=hid hrg';obtain⟨q,rfl⟩:∃ q:Int,v=.int .i64 q:=HEV.out _ hmem;have hsm:=HSM.out;rw[hps] at hsm
       have hsq:acc+2*q.natAbs+Mg.sumG rest'=D:=by
        have e:Mg.sumG (((k1,k2),Value.int .i64 q) :: rest')=2*q.natAbs+Mg.sumG rest':=by simp[Mg.sumG,intOf]
        rw[e] at hsm;omega
       have hqb:q.natAbs<=D:=by omega
       have hE:=hid (show Su3Rel w E r D (.int .i64 ((acc:Int)+2*((q.natAbs:Nat):Int))) w' from⟨acc+2*q.natAbs,rest',congrArg (Value.int .i64) (by omega),by omega,HRG'.out,HU'.out⟩);have hmx:max q (-q)=((q.natAbs:Nat):Int):=by omega
       clear hp hmem hrg' hgb hsz hps hsm hsq;go_wp2;exact⟨hE.out,by rw[hlr',hlr,hpl];simp⟩
theorem stotal_any(A:Option Addr)(n c:Nat)(a:List St.It)(B:Option Addr)(m d:Nat)(b:List St.It)(w:World)(hn:a.length=n)(hm:b.length=m)(h:ItemsAt w A a)(h':ItemsAt w B b)(hl:n<=1000000)(hl':m<=1000000) :
  Calls Tryz.prog 46 #[.slice A n c,.slice B m d] w fun e w'=>e=.returned (.int .i64 ((max (St.totalT a) (St.totalT b):Nat):Int))/\Und w w':=by
 have HA:=hid (fun W (hW:Und w W)=>total_any A n c a W hn (h.und hW) (by omega));have HB:=hid (fun W (hW:Und w W)=>total_any B m d b W hm (h'.und hW) (by omega));have ha:=total_le a;have hb:=total_le b;clear h h';generalize St.totalT a=x at HA ha ⊢;generalize St.totalT b=y at HB hb ⊢;go_enter Tryz.func46,Tryz.ntmps46;go_wp2_with fail;refine(HA.out _ (by apply_rules[uUe,uUa,uUb,uUc,uUd])).mono ?_;rintro e w' ⟨rfl,X,rfl⟩;go_wp2_with fail;refine(HB.out _ (by apply_rules[uUe,uUa,uUb,uUc,uUd])).mono ?_;rintro e w' ⟨rfl,X2,rfl⟩;go_wp2;go_ret;exact⟨congrArg (fun k:Int=>Ending.returned (.int .i64 k)) (by omega),(by apply_rules[uUe,uUa,uUb,uUc,uUd])⟩
theorem dist_bound(a b:List St.It)(hn:a.length<=1000000)(hm:b.length<=1000000):St.distL a b<=100000000:=by
 have h1:=St.dp_le a b a.length (Nat.le_refl _) b.length (Nat.le_refl _);rw[St.dp_all] at h1;have h2:=St.surplus_le a b;unfold St.distL;omega
theorem percent_any(A:Option Addr)(n c:Nat)(a:List St.It)(B:Option Addr)(m d:Nat)(b:List St.It)(w:World)(hn:a.length=n)(hm:b.length=m)(h:ItemsAt w A a)(h':ItemsAt w B b)(hl:n<=1000000)(hl':m<=1000000)(ht:tot a<=1000000000)(ht':tot b<=1000000000) :
  Calls Tryz.prog 11 #[.slice A n c,.slice B m d] w fun e w'=>e=.returned (.int .i64 ((St.percentL a b:Nat):Int))/\Und w w':=by
 have HT:=hid (fun W (hW:Und w W)=>stotal_any A n c a B m d b W hn hm (h.und hW) (h'.und hW) hl hl');have HD:=hid (fun W (hW:Und w W)=>dist_any A n c a B m d b W hn hm (h.und hW) (h'.und hW) hl hl' ht ht' (fun W' hW'=>surplus_any A n c a B m d b W' hn hm ((h.und hW).und hW') ((h'.und hW).und hW') hl hl' ht ht') (Nat.le_trans (St.surplus_le a b) (by omega)));have hdb:=dist_bound a b (by omega) (by omega);have ha:=total_le a;have hb:=total_le b;have hv:St.percentL a b=if max (St.totalT a) (St.totalT b)=0 then 100 else 100*(max (St.totalT a) (St.totalT b)-St.distL a b) / max (St.totalT a) (St.totalT b):=rfl
 rw[hv];have htb:max (St.totalT a) (St.totalT b)<=8000000:=by omega
 clear h h' hv ha hb;generalize max (St.totalT a) (St.totalT b)=t at HT htb ⊢;generalize St.distL a b=dd at HD hdb ⊢
 by_cases h0:t=0
 ·subst h0
  simp only[if_true];go_enter Tryz.func11,Tryz.ntmps11;go_wp2_with (go_at_call 46;refine(HT.out _ (by apply_rules[uUe,uUa,uUb,uUc,uUd])).mono ?_;rintro e w' ⟨rfl,X,rfl⟩);go_ret;exact⟨rfl,(by apply_rules[uUe,uUa,uUb,uUc,uUd])⟩
 ·rw[if_neg h0]
  have q0:((t:Int)==0)=false:=by simpa using h0
  have hmx:max ((t:Int)-(dd:Int)) 0=((t-dd:Nat):Int):=by omega
  have y1:=wr_i64 (x:=(t:Int)-(dd:Int)) (by omega) (by omega);have y2:=wr_i64 (x:=100*((t-dd:Nat):Int)) (by omega) (by omega)
  have hq:(100*((t-dd:Nat):Int)).tdiv (t:Int)=((100*(t-dd) / t:Nat):Int):=by
   rw[show (100*((t-dd:Nat):Int))=((100*(t-dd):Nat):Int) by omega];exact(Int.ofNat_tdiv _ _).symm
  have hql:100*(t-dd) / t<=100*(t-dd):=Nat.div_le_self _ _;generalize t-dd=e at *;generalize 100*e / t=z at *;go_enter Tryz.func11,Tryz.ntmps11;go_wp2_with (first|(go_at_call 46;refine(HT.out _ (by apply_rules[uUe,uUa,uUb,uUc,uUd])).mono ?_;rintro e w' ⟨rfl,X,rfl⟩)|(go_at_call 47;refine(HD.out _ (by apply_rules[uUe,uUa,uUb,uUc,uUd])).mono ?_;rintro e w' ⟨rfl,X,rfl⟩));go_ret;exact⟨rfl,(by apply_rules[uUe,uUa,uUb,uUc,uUd])⟩
end Go.Proofs.YtcfhfdphoidaeaaGreatDoor
