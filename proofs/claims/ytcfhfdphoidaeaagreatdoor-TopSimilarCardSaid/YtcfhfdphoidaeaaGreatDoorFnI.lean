/- The contract of (*match.Finder).Find at a finder of one entry, for one in a hundred. -/
import Derived.Test.YtcfhfdphoidaeaaGreatDoorFnH
set_option linter.unusedVariables false
set_option linter.unusedSimpArgs false
set_option linter.all false
namespace Go.Proofs.YtcfhfdphoidaeaaGreatDoor
open Go.RowKit
set_option maxRecDepth 20000
set_option maxHeartbeats 12800000
theorem info_match:(Tryz.prog.info? 48).map (fun i=>(i.zero,i.size,i.bytes))=some (some (.agg #[.int .i64 0,.int .i64 0,.int .i64 0,.int .i64 0,.int .i64 0]),5,40):=by kernel_rfl
theorem cells_at5{W:World}{b:Nat}{cs:List Value}{T:TypeId}(h:W.heap[b]?=some (.cells cs.toArray T (0,0))):∀ (j:Nat) (u:Value),cs[j]?=some u->W.cell? ((⟨b,0,none⟩:Addr).add j)=some u:=by
 intro j u hu;have hadd:(⟨b,0,none⟩:Addr).add j=⟨b,j,none⟩:=by unfold Addr.add;split <;> simp_all
 rw[hadd,zcH h j];simpa using hu
def CdVal(cand:Bool)(v:Value)(w:World):Prop:=(cand=false/\v=.slice none 0 0)∨(cand=true/\∃ b c,v=.slice (some ⟨b,0,none⟩) 1 c/\w.cell? ⟨b,0,none⟩=some (.int .i64 0))
theorem CdEnd.val{cand:Bool}{w w':World}{e:Ending}(h:CdEnd cand w e w'):∃ v,e=.returned v/\CdVal cand v w'/\Und w w':=by
 obtain⟨hu,⟨h1,h2⟩|⟨h1,b,c,h2,h3⟩⟩:=h
 ·exact⟨_,h2,.inl ⟨h1,rfl⟩,hu⟩
 ·exact⟨_,h2,.inr ⟨h1,b,c,rfl,h3⟩,hu⟩
def FdEnd(p:Nat)(w:World)(e:Ending)(w':World):Prop:=
 Und w w'/\((p=0/\∃ A,e=.returned (.tuple #[.slice A 0 0,.int .i64 0]))∨(1<=p/\∃ g,e=.returned (.tuple #[.slice (some ⟨g,0,none⟩) 1 1,.int .i64 0])/\w'.cell? ⟨g,4,none⟩=some (.int .i64 (p:Int))))
theorem find_any(B fb ib m0 m1 m2 n:Nat)(la:List St.It)(Q:Option Addr)(m k:Nat)(f:List St.It)(w:World)(hx:FinderOne w B fb ib m0 m1 m2 n la)(hm:f.length=m)(h0:0<m)(hf:St.Fr.FragOk f)(hk:m<=k)(hk63:k<=9223372036854775807)(hQ:ItemsAt w Q f)
  (hla:la.length<=1000000) (hta:tot la<=1000000000) (hwa:∀ x ∈ St.wordN la,x ≠ []) :
  Calls Tryz.prog 9 #[.pointer (some ⟨fb,0,none⟩),.slice none 0 0,qryV Q m k] w (FdEnd (St.percentL la (St.tokL f)) w):=by
 obtain⟨im,hm0,hm1,hm2,hm3⟩:=info_parts info_match;have hl:=hf.len;have HTT:=hid (show tot f<=700 from hf.txt);have hnt:(St.tokL f).length<=f.length+tot f:=St.tokL_len f;have htl:(St.tokL f).length<=800:=by have:=HTT.out;omega
 have htt:=tokL_tot f;have HV:=hid (fun W (u:Und w W)=>qvalid_any Q m k f W hm h0 hf hk hk63 (hQ.und u));have HTK:=hid (fun W (u:Und w W)=>tokens_any Q m k f W hm (hQ.und u) (by omega) (Nat.le_trans HTT.out (by omega)));obtain⟨g,cg,key,A1,A2,TA,c1,c2,ct,hfb,hgc,hgl,hTA,hix⟩:=hx;have HFB0:=hid hfb;have HG0:=hid (And.intro hgl hgc);have HTA0:=hid hTA;have HIX:=hid hix;obtain⟨cand,hcand⟩:∃ c,St.candL la (St.tokL f)=c:=⟨_,rfl⟩;obtain⟨p,hp⟩:∃ p,St.percentL la (St.tokL f)=p:=⟨_,rfl⟩;have HCN:=hid (show cand=false->p=0 from fun h=>by rw[<- hp];exact St.percent_none la (St.tokL f) hwa (St.tokL_word f) hla (by omega) (by rw[hcand];exact h));have hp100:=percent_le la (St.tokL f);rw[hp] at hp100;have HLA:=hid (And.intro hla hta);obtain⟨lb,hlb⟩:∃ lb,St.tokL f=lb:=⟨_,rfl⟩;rw[hlb] at hcand hp htl htt HTK;have htb:tot lb<=1000000000:=by have:=HTT.out;omega
 have HPC:=hid hp;have HCND:=hid hcand;rw[hlb,hp];obtain⟨nb,hnb⟩:∃ nb,lb.length=nb:=⟨_,rfl⟩;rw[hnb] at HTK htl;have HNB:=hid hnb;have HP:=hid pval0_any;clear hQ hm hf hfb hgc hgl hTA hix hcand hp hnt htt hlb hnb hwa hla hta;unfold qryV at *;go_enter Tryz.func9,Tryz.ntmps9;go_wp2_with fail;refine(HV.out _ (by apply_rules[uUe,uUa,uUb,uUc,uUd])).mono ?_;rintro e w1 ⟨rfl,X1,rfl⟩;go_wp2_with (go_at_call 36;refine(HP.out _).mono ?_;rintro e w' ⟨rfl,rfl⟩);refine(HTK.out _ (by apply_rules[uUe,uUa,uUb,uUc,uUd])).mono ?_;rintro e w5 ⟨v5,rfl,hown,hu5⟩;obtain⟨TB,cb,rfl,_⟩:=own_slice hown;have hZ:Und ((w.alloc (.cells #[.pointer (some ⟨fb,0,none⟩)] 31)).alloc (.cells #[.slice Q m k,.string ⟨#[]⟩,.string ⟨#[]⟩,.int .i64 0,.int .i64 1,.int .i64 3] 41)) w5:=(show Und _ (under ((w.alloc (.cells #[.pointer (some ⟨fb,0,none⟩)] 31)).alloc (.cells #[.slice Q m k,.string ⟨#[]⟩,.string ⟨#[]⟩,.int .i64 0,.int .i64 1,.int .i64 3] 41)) X1) from(by apply_rules[uUe,uUa,uUb,uUc,uUd])).trans hu5;have HU5:=hid (show Und w w5 from(show Und w ((w.alloc (.cells #[.pointer (some ⟨fb,0,none⟩)] 31)).alloc (.cells #[.slice Q m k,.string ⟨#[]⟩,.string ⟨#[]⟩,.int .i64 0,.int .i64 1,.int .i64 3] 41)) from(by apply_rules[uUe,uUa,uUb,uUc,uUd])).trans hZ);have h1:=heap_alloc_new w (.cells #[.pointer (some ⟨fb,0,none⟩)] 31 (0,0));have h2:=heap_alloc_new (w.alloc (.cells #[.pointer (some ⟨fb,0,none⟩)] 31)) (.cells #[.slice Q m k,.string ⟨#[]⟩,.string ⟨#[]⟩,.int .i64 0,.int .i64 1,.int .i64 3] 41 (0,0));rw[World.size_alloc] at h2;have HX5:=hid ((hZ.below.block w.heap.size (by simp;omega)).trans ((@heap_alloc_old (w.alloc (.cells #[.pointer (some ⟨fb,0,none⟩)] 31)) (.cells #[.slice Q m k,.string ⟨#[]⟩,.string ⟨#[]⟩,.int .i64 0,.int .i64 1,.int .i64 3] 41) _ (by simp)).trans h1));have HQ5:=hid ((hZ.below.block (w.heap.size+1) (by simp)).trans h2);have HTB5:=hid (items_ownE hown HNB.out);obtain⟨bx,hbx⟩:∃ bx,w.heap.size=bx:=⟨_,rfl⟩;obtain⟨qb,hqb⟩:∃ qb,bx+1=qb:=⟨_,rfl⟩;rw[hbx] at HX5 HQ5 ⊢;rw[hqb] at HQ5 ⊢;clear hZ h1 h2 hown hu5 hbx hqb HV HTK;go_wp2_with fail;refine gen_region (fun W3=>Und w W3/\W3.heap[bx]?=some (.cells #[.pointer (some ⟨fb,0,none⟩)] 31 (0,0))/\W3.heap[qb]?=some (.cells #[.slice Q m k,.string ⟨#[]⟩,.string ⟨#[]⟩,.int .i64 0,.int .i64 1,.int .i64 3] 41 (0,0))/\ItemsAt W3 TB lb) ⟨HU5.out,HX5.out,HQ5.out,HTB5.out⟩ (fun W3 h3=>?_);obtain⟨hu3,hx3,hq3,hb3⟩:=h3;have HU3:=hid hu3;have HX3:=hid hx3;have HQ3:=hid hq3;have HTB3:=hid hb3;have HTA3:=hid (HTA0.out.und hu3);have HF3:=hid ((hu3.below.block fb (lt_of_heap HFB0.out)).trans HFB0.out);have HG3:=hid (And.intro (Nat.lt_of_lt_of_le HG0.out.1 hu3.size) (fun j u (hj:([.int .i64 0,.string key,.slice A1 n c1,.slice A2 n c2,.string ⟨#[]⟩,.string ⟨#[]⟩,.string ⟨#[]⟩,.string ⟨#[]⟩,.int .i64 0,.int .i64 1,.slice TA la.length ct]:List Value)[j]?=some u)=>(hu3.cell (p:=⟨g,j,none⟩) HG0.out.1).trans (HG0.out.2 j u hj)));have hf3:=HF3.out;have HBX:=hid (lt_of_heap hx3);have HQB:=hid (lt_of_heap hq3);have HFB:=hid (lt_of_heap hf3);have x0:=zcH hx3 0;have f0:=zcH hf3 0;have q4:=zcH hq3 4;simp only[List.getElem?_toArray,List.getElem?_cons_zero,List.getElem?_cons_succ] at x0 f0 q4;have HCA0:=hid (fun W (u:Und W3 W)=>cands_any ib m0 m1 m2 B la lb TB nb cb W (HIX.out.und (hu3.trans u)) HNB.out (hb3.und u) (by omega) htb HLA.out.1)
 have HCA:=hid (show ∀ W,Und W3 W->Calls Tryz.prog 37 #[.pointer (some ⟨ib,0,none⟩),.slice TB nb cb,.int .i64 1] W (CdEnd cand W) from by
  intro W u;have h9:=HCA0.out W u;rw[HCND.out] at h9
  exact h9)
 clear hu3 hx3 hq3 hb3 hf3 HCA0 HU5 HX5 HQ5 HTB5 HFB0 HG0 HTA0 HIX;refine wp_region_factsR (fun _ _=>True) (fun ρ L W=>Und W3 W/\(L 8=true->CdVal cand (ρ 8) W)/\(L 9=true->ρ 9=ρ 8)) [fun v _=>v=.pointer (some ⟨fb,0,none⟩),fun v _=>v=.pointer (some ⟨fb,0,none⟩),fun v _=>v=.pointer (some ⟨fb,0,none⟩),fun v _=>v=.pointer (some ⟨ib,0,none⟩),fun v _=>v=.slice TB nb cb,fun v _=>v=.pointer (some ⟨qb,4,none⟩),fun v _=>v=.int .i64 1,fun v _=>v=.int .i64 1,noFact,noFact] (fun _=>trivial) (fun _ _ _ _ _=>trivial) (by kernel_rfl) (by rfl) (by kernel_rfl) (by kernel_rfl) ?frf ?hfr ?hI ?hob ?hend
 case hfr=>
  intro ρ;simp only[putAll,Act.put,zsA,zsB,zsC,Nat.zero_add,Nat.reduceAdd];exact rfl
 case hI=>
  intro ρ;exact⟨((by apply_rules[uUe,uUa,uUb,uUc,uUd]):Und W3 W3.drew),fun h=>by simp at h,fun h=>by simp at h⟩
 case hob=>
  refine ObsG.cons (fun ρ L W hR hI hL hD hO hF K hK=>?_) ?_
  ·skip
   clear hF hO;simp only[Act.put,zsA,zsB,zsC] at hK ⊢;have yx0:=(hI.1.cell (p:=⟨bx,0,none⟩) HBX.out).trans x0;haveI:LtW bx W:=LtW.of (Nat.lt_of_lt_of_le HBX.out hI.1.size);go_simp;refine hK _ _ trivial (by simpa [updB,upd] using hI) (fun W2 h2=>?_);rfl
  refine ObsG.cons (fun ρ L W hR hI hL hD hO hF K hK=>?_) ?_
  ·skip
   have f0:=allF_get hF (j:=0) (by decide);clear hF hO;simp only[Act.put,zsA,zsB,zsC] at hK ⊢;have e0:ρ 0=.pointer (some ⟨fb,0,none⟩):=f0;rw[e0] at hK ⊢;go_simp;refine hK _ _ trivial (by simpa [updB,upd] using hI) (fun W2 h2=>?_);rfl
  refine ObsG.cons (fun ρ L W hR hI hL hD hO hF K hK=>?_) ?_
  ·skip
   have f1:=allF_get hF (j:=1) (by decide);clear hF hO;simp only[Act.put,zsA,zsB,zsC] at hK ⊢;have e1:ρ 1=.pointer (some ⟨fb,0,none⟩):=f1;rw[e1] at hK ⊢;go_simp;refine hK _ _ trivial (by simpa [updB,upd] using hI) (fun W2 h2=>?_);rfl
  refine ObsG.cons (fun ρ L W hR hI hL hD hO hF K hK=>?_) ?_
  ·skip
   have f2:=allF_get hF (j:=2) (by decide);clear hF hO;simp only[Act.put,zsA,zsB,zsC] at hK ⊢;have e2:ρ 2=.pointer (some ⟨fb,0,none⟩):=f2;rw[e2] at hK ⊢;have yf0:=(hI.1.cell (p:=⟨fb,0,none⟩) HFB.out).trans f0;haveI:LtW fb W:=LtW.of (Nat.lt_of_lt_of_le HFB.out hI.1.size);go_simp;refine hK _ _ trivial (by simpa [updB,upd] using hI) (fun W2 h2=>?_);rfl
  refine ObsG.cons (fun ρ L W hR hI hL hD hO hF K hK=>?_) ?_
  ·skip
   clear hF hO;simp only[Act.put,zsA,zsB,zsC] at hK ⊢;go_simp;refine hK _ _ trivial (by simpa [updB,upd] using hI) (fun W2 h2=>?_);rfl
  refine ObsG.cons (fun ρ L W hR hI hL hD hO hF K hK=>?_) ?_
  ·skip
   clear hF hO;simp only[Act.put,zsA,zsB,zsC] at hK ⊢;go_simp;refine hK _ _ trivial (by simpa [updB,upd] using hI) (fun W2 h2=>?_);rfl
  refine ObsG.cons (fun ρ L W hR hI hL hD hO hF K hK=>?_) ?_
  ·skip
   have f5:=allF_get hF (j:=5) (by decide);clear hF hO;simp only[Act.put,zsA,zsB,zsC] at hK ⊢;have e5:ρ 5=.pointer (some ⟨qb,4,none⟩):=f5;rw[e5] at hK ⊢;have yq4:=(hI.1.cell (p:=⟨qb,4,none⟩) HQB.out).trans q4;haveI:LtW qb W:=LtW.of (Nat.lt_of_lt_of_le HQB.out hI.1.size);go_simp;refine hK _ _ trivial (by simpa [updB,upd] using hI) (fun W2 h2=>?_);rfl
  refine ObsG.cons (fun ρ L W hR hI hL hD hO hF K hK=>?_) ?_
  ·skip
   have f6:=allF_get hF (j:=6) (by decide);clear hF hO;simp only[Act.put,zsA,zsB,zsC] at hK ⊢;have e6:ρ 6=.int .i64 1:=f6;rw[e6] at hK ⊢;go_simp;refine hK _ _ trivial (by simpa [updB,upd] using hI) (fun W2 h2=>?_);rfl
  refine ObsG.cons (fun ρ L W hR hI hL hD hO hF K hK=>?_) ?_
  ·skip
   have f3:=allF_get hF (j:=3) (by decide);have f4:=allF_get hF (j:=4) (by decide);have f7:=allF_get hF (j:=7) (by decide);have h9:L 9=false:=hD.not (p:=9) rfl (by decide) hL;clear hF hO;simp only[Act.put,zsA,zsB,zsC] at hK ⊢;have e3:ρ 3=.pointer (some ⟨ib,0,none⟩):=f3;have e4:ρ 4=.slice TB nb cb:=f4;have e7:ρ 7=.int .i64 1:=f7;rw[e3,e4,e7] at hK ⊢;refine step_callF3 (o:=⟨some 39,_,_,_,_,_⟩) rfl 37 #[.pointer (some ⟨ib,0,none⟩),.slice TB nb cb,.int .i64 1] _ (HCA.out W hI.1) ?_ ?_
   ·go_simp
   rintro e W2 hcd;obtain⟨v,rfl,hv,hu⟩:=hcd.val;refine⟨v,rfl,hK _ _ trivial ⟨hI.1.trans hu,fun _=>by simpa [upd] using hv,fun h=>by simp[updB,h9] at h⟩ (fun W4 h4=>trivial)⟩
  refine ObsG.cons (fun ρ L W hR hI hL hD hO hF K hK=>?_) ?_
  ·skip
   have f8:=allF_get hF (j:=8) (by decide);clear hF hO;simp only[Act.put,zsA,zsB,zsC] at hK ⊢;go_simp;refine hK _ _ trivial ⟨hI.1,fun h=>by simpa [upd] using hI.2.1 (by simpa [updB] using h),fun _=>by simp[upd]⟩ (fun W4 h4=>trivial)
  exact ObsG.nil
 case hend=>
  intro ρ L W hR hI hL hF;obtain⟨hu,h8,h9⟩:=hI;have hcd:=h8 (hL 8 (by decide));have e9:=h9 (hL 9 (by decide));have HUW:=hid (HU3.out.trans hu);have HCD:=hid hcd;have HQW:=hid ((hu.below.block qb (lt_of_heap HQ3.out)).trans HQ3.out);have HXW:=hid ((hu.below.block bx (lt_of_heap HX3.out)).trans HX3.out);have HFW:=hid ((hu.below.block fb (lt_of_heap HF3.out)).trans HF3.out);have HGW:=hid (fun j u (hj:([.int .i64 0,.string key,.slice A1 n c1,.slice A2 n c2,.string ⟨#[]⟩,.string ⟨#[]⟩,.string ⟨#[]⟩,.string ⟨#[]⟩,.int .i64 0,.int .i64 1,.slice TA la.length ct]:List Value)[j]?=some u)=>(hu.cell (p:=⟨g,j,none⟩) HG3.out.1).trans (HG3.out.2 j u hj));have HGL:=hid (Nat.lt_of_lt_of_le HG3.out.1 hu.size);have HTAW:=hid (HTA3.out.und hu);have HTBW:=hid (HTB3.out.und hu);have hqw:=HQW.out;have hxw:=HXW.out;have hfw:=HFW.out;clear hu h8 h9 hR hL hF x0 f0 q4;have q0:=zcH hqw 0;have q1:=zcH hqw 1;have q2:=zcH hqw 2;have q3:=zcH hqw 3;have q4:=zcH hqw 4;have q5:=zcH hqw 5;simp only[List.getElem?_toArray,List.getElem?_cons_zero,List.getElem?_cons_succ] at q0 q1 q2 q3 q4 q5;haveI:LtW qb _:=LtW.of (lt_of_heap hqw);have f0:=zcH hfw 0;have f1:=zcH hfw 1;have f2:=zcH hfw 2;simp only[List.getElem?_toArray,List.getElem?_cons_zero,List.getElem?_cons_succ] at f0 f1 f2;haveI:LtW fb _:=LtW.of (lt_of_heap hfw);have x0:=zcH hxw 0;simp only[List.getElem?_toArray,List.getElem?_cons_zero,List.getElem?_cons_succ] at x0;haveI:LtW bx _:=LtW.of (lt_of_heap hxw);haveI:LtW g W:=LtW.of HGL.out;have s0:=HGW.out 0 _ rfl;have s1:=HGW.out 1 _ rfl;have s2:=HGW.out 2 _ rfl;have s3:=HGW.out 3 _ rfl;have s4:=HGW.out 4 _ rfl;have s5:=HGW.out 5 _ rfl;have s6:=HGW.out 6 _ rfl;have s7:=HGW.out 7 _ rfl;have s8:=HGW.out 8 _ rfl;have s9:=HGW.out 9 _ rfl;have s10:=HGW.out 10 _ rfl;rw[e9];clear e9 hqw hxw hfw;rcases hcd with ⟨hc0,hv⟩|⟨hc1,b9,c9,hv,hv0⟩
  ·rw[hv]
   have HP0:=hid (HCN.out hc0);go_wp2_with fail;refine wp_loop_rounds 2 ?_;rw[rounds_succ];go_wp2_with (go_at_call 38;refine(bs0_any _).mono ?_;rintro e w' ⟨rfl,rfl⟩);rw[rounds_succ];go_wp2_with fail;refine(fsort0 none 0 _ _).mono ?_;rintro e w' ⟨rfl,rfl⟩;go_wp2_with fail;refine(clip_any none 0 0 _ (Nat.le_refl _) (by omega)).mono ?_;rintro e w' ⟨rfl,rfl⟩;go_wp2;go_ret2;exact⟨HUW.out.trans (by apply_rules[uUe,uUa,uUb,uUc,uUd]),.inl ⟨HP0.out,_,rfl⟩⟩
  ·rw[hv]
   haveI:LtW b9 W:=LtW.of (lt_of_cell hv0);have HB0:=hid hv0;go_wp2_with fail;refine wp_loop_rounds 2 ?_;rw[rounds_succ];go_wp2_with fail;refine(bs1_any b9 c9 _ (by go_simp)).mono ?_;rintro e w' ⟨rfl,rfl⟩;have hcm:=fun W (hA:ItemsAt W TA la) (hB:ItemsAt W TB lb)=>compare_any A1 A2 n c1 c2 TA la.length ct la TB nb cb lb Q m k W rfl HNB.out hA hB HLA.out.1 (by omega) HLA.out.2 htb
   rw[HPC.out] at hcm;unfold entV qryV at hcm;have HCM:=hid hcm;clear hcm;go_wp2_with fail;refine(HCM.out _ (HTAW.out.und (by apply_rules[uUe,uUa,uUb,uUc,uUd])) (HTBW.out.und (by apply_rules[uUe,uUa,uUb,uUc,uUd]))).mono ?_;rintro e w9 ⟨rfl,X9,rfl⟩
   by_cases hp0:1<=p
   ·have z1:(1:Int)<=(p:Int):=by omega
    have HP1:=hid hp0;clear hp0;go_wp2_with (at_builtin;(with_reducible (refine wpList_append_own _ rfl _ _ 37 rfl w.heap.size 48 im (.agg #[.int .i64 0,.int .i64 0,.int .i64 0,.int .i64 0,.int .i64 0]) 5 40 Tryz.underlying37 hm0 hm1 hm2 hm3 rfl (by decide) (.slice none 0 0) 0 [] ?_ (World.ownsRow_nil _ _ _ _) ?_ 1 1 [.int .i64 0,.int .i64 (p:Int),.int .i64 0,.int .i64 0,.int .i64 (p:Int)] ?_ ?_ ?_ ?_ ?_ ?_ ?_ ?_));all_goals (first|rfl|(unfold maxLen;omega)|omega|skip))
    ·exact cells_at5 (heap_alloc2_new _ _ _)
    ·intro u hu
     simp only[List.mem_cons,List.not_mem_nil,or_false] at hu;rcases hu with rfl|rfl|rfl|rfl|rfl <;> rfl
    ·exact Nat.le_trans HUW.out.size (Und.size (show Und W _ from(by apply_rules[uUe,uUa,uUb,uUc,uUd])))
    ·intro v' w4 hown hgrow _
     obtain⟨A',c',rfl,hc1',hc2'⟩:=own_slice hown;obtain⟨g',rfl,_,_,hc⟩:=own_cell hown (by omega);have h4:=hc 4 _ rfl;have hu4:Und W w4:=(show Und W _ from(by apply_rules[uUe,uUa,uUb,uUc,uUd])).grown hgrow (fun g e=>by cases e);have HU4:=hid (HUW.out.trans hu4);have q5:=(hu4.cell (p:=⟨qb,5,none⟩) (lt_of_heap HQW.out)).trans q5;haveI:LtW qb w4:=LtW.of (lt_of_cell q5);have HH4:=hid h4;have hcc:1<=c'/\c'<=9223372036854775807:=⟨hc1',by unfold maxLen at hc2';omega⟩;clear hown hgrow hc h4 hu4;go_wp2_with fail;rw[rounds_succ];go_wp2_with fail;refine(fsort1 (some ⟨g',0,none⟩) c' _ _).mono ?_;rintro e w' ⟨rfl,rfl⟩;go_wp2_with fail;refine(clip_any (some ⟨g',0,none⟩) 1 c' _ hcc.1 hcc.2).mono ?_;rintro e w' ⟨rfl,rfl⟩;go_wp2;go_ret2;exact⟨HU4.out,.inr ⟨HP1.out,g',rfl,HH4.out⟩⟩
   ·have hpz:p=0:=by omega
    subst hpz;clear hp0;go_wp2_with fail;rw[rounds_succ];go_wp2_with fail;refine(fsort0 none 0 _ _).mono ?_;rintro e w' ⟨rfl,rfl⟩;go_wp2_with fail;refine(clip_any none 0 0 _ (Nat.le_refl _) (by omega)).mono ?_;rintro e w' ⟨rfl,rfl⟩;go_wp2;go_ret2;exact⟨HUW.out.trans (by apply_rules[uUe,uUa,uUb,uUc,uUd]),.inl ⟨rfl,_,rfl⟩⟩
end Go.Proofs.YtcfhfdphoidaeaaGreatDoor
set_option linter.all false
namespace Go.Proofs.YtcfhfdphoidaeaaGreatDoor
open Go.RowKit
set_option maxRecDepth 20000
set_option maxHeartbeats 25600000
theorem info_toks:(Tryz.prog.info? 45).map (fun i=>(i.zero,i.size,i.bytes))=some (some (.slice none 0 0),1,24):=by kernel_rfl
theorem at_one{W:World}{b:Nat}{v:Value}{T:TypeId}(h:W.heap[b]?=some (.cells #[v] T (0,0))):∀ (j:Nat) (u:Value),[v][j]?=some u->W.cell? ((⟨b,0,none⟩:Addr).add j)=some u:=cells_at5 (cs:=[v]) h
def SmEnd(p:Nat)(w:World)(e:Ending)(w':World):Prop:=
 Und w w'/\∃ g c,e=.returned (.tuple #[.slice (some ⟨g,0,none⟩) 2 c,.int .i64 0])/\w'.cell? ⟨g,5,none⟩=some (.int .i64 (if p=0 then -1 else 0))/\w'.cell? ⟨g,6,none⟩=some (.int .i64 (p:Int))
theorem similar_any(g:Nat)(A Q:Option Addr)(n c m k:Nat)(fa fb:List St.It)(w:World)(hn:fa.length=n)(hm:fb.length=m)(ha:St.Fr.FragOk fa)(hb:St.Fr.FragOk fb)(hc:n<=c)(hc63:c<=9223372036854775807)(hk:m<=k)(hk63:k<=9223372036854775807)
  (hA:ItemsAt w A fa) (hQ:ItemsAt w Q fb) (h0:w.cell? ⟨g,0,none⟩=some (.slice A n c)) (h1:w.cell? ⟨g,1,none⟩=some (.slice Q m k)) :
  Calls Tryz.prog 10 #[.slice (some ⟨g,0,none⟩) 2 2,.int .i64 1] w (SmEnd (St.percentL (St.tokL fa) (St.tokL fb)) w):=by
 obtain⟨it,ht0,ht1,ht2,ht3⟩:=info_parts info_toks;obtain⟨im,hm0,hm1,hm2,hm3⟩:=info_parts info_match;have hla:=ha.len;have hlb:=hb.len;have HTA:=hid (show tot fa<=700 from ha.txt);have HTB:=hid (show tot fb<=700 from hb.txt);have HV1:=hid (fun W (u:Und w W)=>ivalid_any A n c fa W hn hc hc63 (hA.und u) (by omega) (Nat.le_trans HTA.out (by omega)));have HV2:=hid (fun W (u:Und w W)=>ivalid_any Q m k fb W hm hk hk63 (hQ.und u) (by omega) (Nat.le_trans HTB.out (by omega)));rw[ha.valid] at HV1;rw[hb.valid] at HV2;have HK1:=hid (fun W (u:Und w W)=>tokens_any A n c fa W hn (hA.und u) (by omega) (Nat.le_trans HTA.out (by omega)));have HK2:=hid (fun W (u:Und w W)=>tokens_any Q m k fb W hm (hQ.und u) (by omega) (Nat.le_trans HTB.out (by omega)));have hnta:(St.tokL fa).length<=fa.length+tot fa:=St.tokL_len fa;have hntb:(St.tokL fb).length<=fb.length+tot fb:=St.tokL_len fb;have htta:=tokL_tot fa;have httb:=tokL_tot fb;have htas:=HTA.out;have htbs:=HTB.out;obtain⟨la,hla2⟩:∃ la,St.tokL fa=la:=⟨_,rfl⟩;obtain⟨lb,hlb2⟩:∃ lb,St.tokL fb=lb:=⟨_,rfl⟩;rw[hla2] at HK1 hnta htta ⊢;rw[hlb2] at HK2 hntb httb ⊢;obtain⟨na,hna⟩:∃ na,la.length=na:=⟨_,rfl⟩;obtain⟨nb,hnb⟩:∃ nb,lb.length=nb:=⟨_,rfl⟩;rw[hna] at HK1 hnta;rw[hnb] at HK2 hntb;have hna8:na<=800:=by omega
 have hnb8:nb<=800:=by omega
 have HNA:=hid hna;have HNB:=hid hnb;have hp100:=percent_le la lb;have HPR:=hid (fun TA ca TB cb W (h1:ItemsAt W TA la) (h2:ItemsAt W TB lb)=>percent_any TA na ca la TB nb cb lb W hna hnb h1 h2 (by omega) (by omega) (by omega) (by omega));obtain⟨p,hp⟩:∃ p,St.percentL la lb=p:=⟨_,rfl⟩;rw[hp] at HPR hp100 ⊢;haveI:LtW g w:=LtW.of (lt_of_cell h0);have H1:=hid h1;have H0:=hid h0;clear hA hQ hn hm ha hb hla2 hlb2 hna hnb hnta hntb htta httb htas htbs hp;go_enter Tryz.func10,Tryz.ntmps10;go_wp2_with fail;refine wp_loop_rounds 3 ?_;rw[rounds_succ];go_wp2_with fail;refine(HV1.out _ (by apply_rules[uUe,uUa,uUb,uUc,uUd])).mono ?_;rintro e w1 ⟨rfl,X1,rfl⟩;go_wp2_with fail;refine(HK1.out _ (by apply_rules[uUe,uUa,uUb,uUc,uUd])).mono ?_;rintro e w2 ⟨v2,rfl,ho2,hu2⟩;obtain⟨TA,ca,rfl,_⟩:=own_slice ho2;have HU2:=hid (show Und w w2 from(show Und w _ from(by apply_rules[uUe,uUa,uUb,uUc,uUd])).trans hu2);have HA2:=hid ho2;clear ho2 hu2;go_wp2_with (at_builtin;(with_reducible (refine wpList_append_own _ rfl _ _ 102 rfl w.heap.size 45 it (.slice none 0 0) 1 24 Tryz.underlying102 ht0 ht1 ht2 ht3 rfl (by decide) (.slice none 0 0) 0 [] ?_ (World.ownsRow_nil _ _ _ _) ?_ 1 1 [.slice TA na ca] ?_ ?_ ?_ ?_ ?_ ?_ ?_ ?_));all_goals (first|rfl|(unfold maxLen;omega)|omega|skip))
 ·exact at_one (heap_alloc_new _ _)
 ·intro u hu
  rw[List.mem_singleton.1 hu];rfl
 ·exact Nat.le_trans HU2.out.size (Und.size (show Und w2 _ from(by apply_rules[uUe,uUa,uUb,uUc,uUd])))
 intro v3 w3 ho3 hg3 _;obtain⟨AT,cT,rfl,_⟩:=own_slice ho3;have hu3:Und w2 w3:=(show Und w2 _ from(by apply_rules[uUe,uUa,uUb,uUc,uUd])).grown hg3 (fun g e=>by cases e);have HU3:=hid (HU2.out.trans hu3);have HA3:=hid (own_und hu3 HA2.out);have HO3:=hid ho3;have g1:=(HU3.out.cell (p:=⟨g,1,none⟩) (lt_of_cell H1.out)).trans H1.out;haveI:LtW g w3:=LtW.of (lt_of_cell g1);clear ho3 hg3 hu3 h0 h1 HV1 HK1;go_wp2_with fail;rw[rounds_succ];go_wp2_with fail;refine(HV2.out _ HU3.out).mono ?_;rintro e w4 ⟨rfl,hu4⟩;have HU4:=hid (HU3.out.trans hu4);have HO4:=hid (own_und hu4 HO3.out);have HA4:=hid (own_und hu4 HA3.out);clear hu4 g1;go_wp2_with fail;refine(HK2.out _ HU4.out).mono ?_;rintro e w5 ⟨v5,rfl,ho5,hu5⟩;obtain⟨TB,cb,rfl,_⟩:=own_slice ho5;have HU5:=hid (HU4.out.trans hu5);have HO5:=hid (own_und hu5 HO4.out);have HA5:=hid (own_und hu5 HA4.out);have HB5:=hid ho5;clear ho5 hu5;go_wp2_with (at_builtin;(with_reducible (refine wpList_append_own _ rfl _ _ 102 rfl w.heap.size 45 it (.slice none 0 0) 1 24 Tryz.underlying102 ht0 ht1 ht2 ht3 rfl (by decide) (.slice AT 1 cT) 1 [.slice TA na ca] ?_ (own_und (by apply_rules[uUe,uUa,uUb,uUc,uUd]) HO5.out) ?_ 1 1 [.slice TB nb cb] ?_ ?_ ?_ ?_ ?_ ?_ ?_ ?_));all_goals (first|rfl|(unfold maxLen;omega)|omega|skip))
 ·exact at_one (heap_alloc_new _ _)
 ·intro u hu
  rw[List.mem_singleton.1 hu];rfl
 ·exact Nat.le_trans HU5.out.size (Und.size (show Und w5 _ from(by apply_rules[uUe,uUa,uUb,uUc,uUd])))
 intro v6 w6 ho6 hg6 _;obtain⟨g5,rfl,hg5,_,_⟩:=own_cell HO5.out (by omega);have hgs:GS [g5] w5 w6:=(GS.of_und (show Und w5 _ from(by apply_rules[uUe,uUa,uUb,uUc,uUd]))).gb hg6 (fun g e=>.inl (by cases e;exact List.mem_singleton.2 rfl))
 have hty:∀ g ∈ [g5],∀ cs fr,w5.heap[g]? ≠ some (.cells cs 104 fr):=by
  intro g hm cs fr hx;rw[List.mem_singleton.1 hm] at hx;rcases HO5.out.2 with ⟨e,_⟩|⟨g',cap,cur,hv,_,hb,_⟩
  ·cases e
  ·cases hv
   rw[hb] at hx;cases hx
 have HIA6:=hid (items_ownE (hgs.own HA5.out hty) HNA.out);have HIB6:=hid (items_ownE (hgs.own HB5.out hty) HNB.out);have HU6:=hid (GS.base HU5.out hgs (fun g hm=>by rw[List.mem_singleton.1 hm];exact hg5));obtain⟨AT',cT',rfl,_⟩:=own_slice ho6;obtain⟨g6,rfl,_,hl6,hc6⟩:=own_cell ho6 (by omega);have x0:=hc6 0 _ rfl;have x1:=hc6 1 _ rfl;haveI:LtW g6 w6:=LtW.of hl6;clear hg6 ho6 hgs hc6 hty HV2 HK2;go_wp2_with fail;rw[rounds_succ];go_wp2_with fail;refine wp_loop_rounds 3 ?_;rw[rounds_succ];go_wp2_with fail;refine wp_loop_rounds 1 ?_;rw[rounds_succ];go_wp2_with (at_builtin;(with_reducible (refine wpList_append_own _ rfl _ _ 37 rfl w6.heap.size 48 im (.agg #[.int .i64 0,.int .i64 0,.int .i64 0,.int .i64 0,.int .i64 0]) 5 40 Tryz.underlying37 hm0 hm1 hm2 hm3 rfl (by decide) (.slice none 0 0) 0 [] ?_ (World.ownsRow_nil _ _ _ _) ?_ 1 1 [.int .i64 (-1),.int .i64 0,.int .i64 0,.int .i64 0,.int .i64 0] ?_ ?_ ?_ ?_ ?_ ?_ ?_ ?_));all_goals (first|rfl|(unfold maxLen;omega)|omega|skip))
 ·exact cells_at5 (heap_alloc2_new _ _ _)
 ·intro u hu
  simp only[List.mem_cons,List.not_mem_nil,or_false] at hu;rcases hu with rfl|rfl|rfl|rfl|rfl <;> rfl
 ·exact Und.size (show Und w6 _ from(by apply_rules[uUe,uUa,uUb,uUc,uUd]))
 intro v7 w7 ho7 hg7 _;obtain⟨AM,cM,rfl,_⟩:=own_slice ho7;have hu7:Und w6 w7:=(show Und w6 _ from(by apply_rules[uUe,uUa,uUb,uUc,uUd])).grown hg7 (fun g e=>by cases e);have HU7:=hid (HU6.out.trans hu7);have HU67:=hid hu7;have HO7:=hid ho7;have HIA7:=hid (HIA6.out.und hu7);have HIB7:=hid (HIB6.out.und hu7);have y0:=(hu7.cell (p:=⟨g6,0,none⟩) hl6).trans x0;have y1:=(hu7.cell (p:=⟨g6,1,none⟩) hl6).trans x1;haveI:LtW g6 w7:=LtW.of (lt_of_cell y0);clear ho7 hg7 hu7 x0 x1 hl6 HIA6 HIB6;go_wp2_with fail;rw[rounds_succ];go_wp2_with fail;refine wp_loop_rounds 2 ?_;rw[rounds_succ];go_wp2_with fail
 first|refine wp_region_under2 (by kernel_rfl) (by kernel_rfl) ?_|refine wp_region_under (by kernel_rfl) (by kernel_rfl) ?_
 repeat (go_big_quiet_step (first|((go_at_call 11;exact Calls.under_of (HPR.out TA ca TB cb _ (HIA7.out.und (by apply_rules[uUe,uUa,uUb,uUc,uUd])) (HIB7.out.und (by apply_rules[uUe,uUa,uUb,uUc,uUd])))))))
 refine wpQuiet_nil ?_;rintro _ ⟨X,rfl⟩
 by_cases hp0:1<=p
 ·have z1:(1:Int)<=(p:Int):=by omega
  have z2:(0:Int)<(p:Int):=by omega
  have HP1:=hid hp0;clear hp0;go_wp2_with fail;rw[rounds_succ];go_wp2_with (at_builtin;(with_reducible (refine wpList_append_own _ rfl _ _ 37 rfl w6.heap.size 48 im (.agg #[.int .i64 0,.int .i64 0,.int .i64 0,.int .i64 0,.int .i64 0]) 5 40 Tryz.underlying37 hm0 hm1 hm2 hm3 rfl (by decide) (.slice AM 1 cM) 1 [.int .i64 (-1),.int .i64 0,.int .i64 0,.int .i64 0,.int .i64 0] ?_ (own_und (by apply_rules[uUe,uUa,uUb,uUc,uUd]) HO7.out) ?_ 1 1 [.int .i64 0,.int .i64 (p:Int),.int .i64 0,.int .i64 0,.int .i64 (p:Int)] ?_ ?_ ?_ ?_ ?_ ?_ ?_ ?_));all_goals (first|rfl|(unfold maxLen;omega)|omega|skip))
  ·exact cells_at5 (heap_alloc_new _ _)
  ·intro u hu
   simp only[List.mem_cons,List.not_mem_nil,or_false] at hu;rcases hu with rfl|rfl|rfl|rfl|rfl <;> rfl
  ·exact Und.size (HU67.out.trans (show Und w7 _ from(by apply_rules[uUe,uUa,uUb,uUc,uUd])))
  intro v8 w8 ho8 hg8 _;obtain⟨AN,cN,rfl,_⟩:=own_slice ho8;obtain⟨g8,rfl,_,hl8,hc8⟩:=own_cell ho8 (by omega);have x5:=hc8 5 _ rfl;have x6:=hc8 6 _ rfl;have HX5:=hid x5;have HX6:=hid x6;have hu8:Und w6 w8:=(HU67.out.trans (show Und w7 _ from(by apply_rules[uUe,uUa,uUb,uUc,uUd]))).grown hg8 (owns_block HO7.out);have HU8:=hid (HU6.out.trans hu8);clear hg8 ho8 hc8 x5 x6 hu8;go_wp2_with fail;rw[rounds_succ];go_wp2;go_ret2;exact⟨HU8.out,g8,_,rfl,by rw[if_neg (by have:=HP1.out;omega)];exact HX5.out,HX6.out⟩
 ·have hpz:p=0:=by omega
  subst hpz;clear hp0;go_wp2_with fail;rw[rounds_succ];go_wp2_with (at_builtin;(with_reducible (refine wpList_append_own _ rfl _ _ 37 rfl w6.heap.size 48 im (.agg #[.int .i64 0,.int .i64 0,.int .i64 0,.int .i64 0,.int .i64 0]) 5 40 Tryz.underlying37 hm0 hm1 hm2 hm3 rfl (by decide) (.slice AM 1 cM) 1 [.int .i64 (-1),.int .i64 0,.int .i64 0,.int .i64 0,.int .i64 0] ?_ (own_und (by apply_rules[uUe,uUa,uUb,uUc,uUd]) HO7.out) ?_ 1 1 [.int .i64 (-1),.int .i64 0,.int .i64 0,.int .i64 0,.int .i64 0] ?_ ?_ ?_ ?_ ?_ ?_ ?_ ?_));all_goals (first|rfl|(unfold maxLen;omega)|omega|skip))
  ·exact cells_at5 (heap_alloc_new _ _)
  ·intro u hu
   simp only[List.mem_cons,List.not_mem_nil,or_false] at hu;rcases hu with rfl|rfl|rfl|rfl|rfl <;> rfl
  ·exact Und.size (HU67.out.trans (show Und w7 _ from(by apply_rules[uUe,uUa,uUb,uUc,uUd])))
  intro v8 w8 ho8 hg8 _;obtain⟨AN,cN,rfl,_⟩:=own_slice ho8;obtain⟨g8,rfl,_,hl8,hc8⟩:=own_cell ho8 (by omega);have x5:=hc8 5 _ rfl;have x6:=hc8 6 _ rfl;have HX5:=hid x5;have HX6:=hid x6;have hu8:Und w6 w8:=(HU67.out.trans (show Und w7 _ from(by apply_rules[uUe,uUa,uUb,uUc,uUd]))).grown hg8 (owns_block HO7.out);have HU8:=hid (HU6.out.trans hu8);clear hg8 ho8 hc8 x5 x6 hu8;go_wp2_with fail;rw[rounds_succ];go_wp2;go_ret2;exact⟨HU8.out,g8,_,rfl,HX5.out,HX6.out⟩
end Go.Proofs.YtcfhfdphoidaeaaGreatDoor
set_option linter.all false
namespace Go.Proofs.YtcfhfdphoidaeaaGreatDoor
open Go.RowKit
set_option maxRecDepth 20000
set_option maxHeartbeats 25600000
theorem info_rngK:(Tryz.prog.info? 62).map (fun i=>(i.zero,i.size,i.bytes))=some (some (.agg #[.int .i64 0,.int .i64 0]),2,16):=by kernel_rfl
theorem rangesK_any(R P Q:Nat)(A:Option Addr)(c:Nat)(w:World)(hR:RuleAt w R P Q)(hA:ItemsAt w A St.kF) :
  Calls Tryz.prog 15 #[.slice (some ⟨R,0,none⟩) 1 1,.slice A 5 c] w fun e w'=>∃ v,e=.returned v/\w'.ownsRow w.heap.size 62 2 v 2 [.int .i64 0,.int .i64 5,.int .i64 6,.int .i64 16]/\Und w w':=by
 obtain⟨in0,hn0,hn1,hn2,hn3⟩:=info_parts info_int;have HPL:=hid (plainK_any A c w hA);have HBK:=hid (fun W (u:Und w W)=>breaksK_any R P Q W (hR.und u));have HPC:=hid (fun W (u:Und w W)=>placeK_any A c W (hA.und u));have hle:=fun W (u:Und w W)=>ilength_any A 5 c _ W rfl (hA.und u) (by omega) (by decide)
 rw[St.kF_lenL] at hle;have HLE:=hid hle;clear hle;have HBL:=hid (fun W (u:Und w W)=>blanks_any A 5 c _ W rfl (hA.und u) (by omega) (by decide));have hs1:=fun W (u:Und w W)=>islice_any A 5 c _ 0 5 W rfl (hA.und u) (by omega) (by decide) (by omega) (by rw[St.kF_lenL];omega)
 rw[St.kF_s1] at hs1;have HS1:=hid hs1;have hs2:=fun W (u:Und w W)=>islice_any A 5 c _ 5 16 W rfl (hA.und u) (by omega) (by decide) (by omega) (by rw[St.kF_lenL];omega)
 rw[St.kF_s2] at hs2;have HS2:=hid hs2;obtain⟨ir,hr0,hr1,hr2,hr3⟩:=info_parts info_rngK;clear hs1 hs2;clear hR hA;go_enter Tryz.func15,Tryz.ntmps15;go_wp2_with fail;refine HPL.out.mono ?_;rintro e w1 ⟨rfl,hu1⟩;have HU1:=hid hu1;clear hu1;go_wp2_with fail;refine(HBK.out _ HU1.out).mono ?_;rintro e w2 ⟨v2,rfl,ho2,hu2⟩;have HU2:=hid (HU1.out.trans hu2);obtain⟨AB,cB,rfl,_⟩:=own_slice ho2;obtain⟨g2,rfl,_,hl2,hc2⟩:=own_cell ho2 (by omega);have x0:=hc2 0 _ rfl;haveI:LtW g2 w2:=LtW.of hl2;clear ho2 hu2 hc2 HPL HBK;go_wp2_with fail;refine wp_loop_rounds 2 ?_;rw[rounds_succ];go_wp2_with fail;refine(HPC.out _ HU2.out).mono ?_;rintro e w3 ⟨rfl,hu3⟩;have HU3:=hid (HU2.out.trans hu3);clear hu3 x0 HPC hl2;go_wp2_with (at_builtin;(with_reducible (refine wpList_append_own _ rfl _ _ 22 rfl w.heap.size 3 in0 (.int .i64 0) 1 8 Tryz.underlying22 hn0 hn1 hn2 hn3 rfl (by decide) (.slice none 0 0) 0 [] ?_ (World.ownsRow_nil _ _ _ _) ?_ 1 1 [.int .i64 5] ?_ ?_ ?_ ?_ ?_ ?_ ?_ ?_));all_goals (first|rfl|(unfold maxLen;omega)|omega|skip))
 ·intro j u hx
  rw[Addr.add_mid,Nat.zero_add,zcH (heap_alloc_new w3 (.cells #[.int .i64 5] 3 (0,0))) j];simpa using hx
 ·intro u hu
  rw[List.mem_singleton.1 hu];rfl
 ·exact Nat.le_trans HU3.out.size (by simp)
 intro v4 w4 ho4 hg4 _;obtain⟨A4,c4,rfl,_⟩:=own_slice ho4;have HU4:=hid (HU3.out.trans ((show Und w3 _ from(by apply_rules[uUe,uUa,uUb,uUc,uUd])).grown hg4 (fun g e=>by cases e)));have HO4:=hid ho4;clear ho4 hg4;go_wp2_with fail;rw[rounds_succ];go_wp2_with fail;refine(HLE.out _ HU4.out).mono ?_;rintro e w5 ⟨rfl,hu5⟩;have HU5:=hid (HU4.out.trans hu5);have HO5:=hid (own_und hu5 HO4.out);clear hu5 HLE HO4;go_wp2_with (at_builtin;(with_reducible (refine wpList_append_own _ rfl _ _ 22 rfl w.heap.size 3 in0 (.int .i64 0) 1 8 Tryz.underlying22 hn0 hn1 hn2 hn3 rfl (by decide) (.slice A4 1 c4) 1 [.int .i64 5] ?_ (own_und (by apply_rules[uUe,uUa,uUb,uUc,uUd]) HO5.out) ?_ 1 1 [.int .i64 16] ?_ ?_ ?_ ?_ ?_ ?_ ?_ ?_));all_goals (first|rfl|(unfold maxLen;omega)|omega|skip))
 ·intro j u hx
  rw[Addr.add_mid,Nat.zero_add,zcH (heap_alloc_new w5 (.cells #[.int .i64 16] 3 (0,0))) j];simpa using hx
 ·intro u hu
  rw[List.mem_singleton.1 hu];rfl
 ·exact Nat.le_trans HU5.out.size (by simp)
 intro v6 w6 ho6 hg6 _;obtain⟨A6,c6,rfl,_⟩:=own_slice ho6;have HU6:=hid ((HU5.out.trans (show Und w5 _ from(by apply_rules[uUe,uUa,uUb,uUc,uUd]))).grown hg6 (fun g hg=>owns_block HO5.out g hg));have HO6:=hid ho6;clear ho6 hg6 HO5;go_wp2_with fail;refine(HBL.out _ HU6.out).mono ?_;rintro e w7 ⟨v7,rfl,ho7,hu7⟩;have HU7:=hid (HU6.out.trans hu7);have HO7:=hid (own_und hu7 HO6.out);rw[St.kF_blank] at ho7;obtain⟨A7,c7,rfl,_⟩:=own_slice ho7;obtain⟨g7,rfl,_,hl7,hc7⟩:=own_cell ho7 (by decide);obtain⟨g6,rfl,_,hl6,hc6⟩:=own_cell HO7.out (by omega)
 have HB:=hid (fun W (u:Und w7 W)=>(show g7<W.heap.size/\W.cell? ⟨g7,0,none⟩=some (.bool false)/\W.cell? ⟨g7,4,none⟩=some (.bool false)/\W.cell? ⟨g7,5,none⟩=some (.bool true)/\W.cell? ⟨g7,6,none⟩=some (.bool false)/\W.cell? ⟨g7,15,none⟩=some (.bool false) from
  have h:=fun i v hv=>(u.cell (p:=⟨g7,i,none⟩) hl7).trans (hc7 i v hv)
  ⟨Nat.lt_of_lt_of_le hl7 u.size,h 0 _ rfl,h 4 _ rfl,h 5 _ rfl,h 6 _ rfl,h 15 _ rfl⟩))
 have HI:=hid (fun W (u:Und w7 W)=>(show g6<W.heap.size/\W.cell? ⟨g6,0,none⟩=some (.int .i64 5)/\W.cell? ⟨g6,1,none⟩=some (.int .i64 16) from
  have h:=fun i v hv=>(u.cell (p:=⟨g6,i,none⟩) hl6).trans (hc6 i v hv)
  ⟨Nat.lt_of_lt_of_le hl6 u.size,h 0 _ rfl,h 1 _ rfl⟩))
 simp only[List.length_cons,List.length_nil,Nat.zero_add,Nat.reduceAdd];obtain⟨hi0,i0,i1⟩:=HI.out w7 (Und.refl _);haveI:LtW g6 w7:=LtW.of hi0;clear ho7 hu7 hc7 hc6 hl7 hl6 HBL HO6 HO7;go_wp2_with fail;refine wp_loop_rounds 3 ?_;rw[rounds_succ];go_wp2_with fail;refine(HS1.out _ HU7.out).mono ?_;rintro e w8 ⟨v8,rfl,ho8,hu8⟩;have HU78:=hid hu8;obtain⟨A8,c8,rfl,_⟩:=own_slice ho8;have HPL8:=hid (iplain_any A8 1 c8 St.kG1 w8 rfl (items_own ho8 rfl) (by omega) (by decide));rw[St.kG1_plain] at HPL8;simp only[show St.kG1.length=1 from rfl];clear ho8 hu8 i0 i1 HS1;go_wp2_with fail;refine HPL8.out.mono ?_;rintro e w9 ⟨rfl,hu9⟩;have HU79:=hid (HU78.out.trans hu9);clear hu9 HPL8;go_wp2_with fail;refine(trim1_any _).mono ?_;rintro e w10 ⟨rfl,hu10⟩;have HU710:=hid (HU79.out.trans hu10);clear hu10;obtain⟨hb0,b0,b4,b5,b6,b15⟩:=HB.out _ HU710.out;haveI:LtW g7 w10:=LtW.of hb0;go_wp2_with fail;refine wp_loop_rounds 1 ?_;rw[rounds_succ];go_wp2_with fail;refine wp_loop_rounds 1 ?_;rw[rounds_succ];go_wp2_with (at_builtin;(with_reducible (refine wpList_append_own _ rfl _ _ 57 rfl w.heap.size 62 ir (.agg #[.int .i64 0,.int .i64 0]) 2 16 Tryz.underlying57 hr0 hr1 hr2 hr3 rfl (by decide) (.slice none 0 0) 0 [] ?_ (World.ownsRow_nil _ _ _ _) ?_ 1 1 [.int .i64 0,.int .i64 5] ?_ ?_ ?_ ?_ ?_ ?_ ?_ ?_));all_goals (first|rfl|(unfold maxLen;omega)|omega|skip))
 ·exact cells_at5 (heap_alloc2_new _ _ _)
 ·intro u hu
  simp only[List.mem_cons,List.not_mem_nil,or_false] at hu;rcases hu with rfl|rfl <;> rfl
 ·have:=Und.size (HU7.out.trans HU710.out);simp;omega
 intro v11 w11 ho11 hg11 _;obtain⟨A11,c11,rfl,_⟩:=own_slice ho11;have HU711:=hid (HU710.out.trans ((show Und w10 _ from(by apply_rules[uUe,uUa,uUb,uUc,uUd])).grown hg11 (fun g e=>by cases e)));have HO11:=hid ho11;clear ho11 hg11 b0 b4 b5 b6 b15 hb0 HU78 HU79 HU710;obtain⟨hi0',i0,i1⟩:=HI.out w11 HU711.out;haveI:LtW g6 w11:=LtW.of hi0';go_wp2_with fail;rw[rounds_succ];go_wp2_with fail;refine(HS2.out _ (HU7.out.trans HU711.out)).mono ?_;rintro e w12 ⟨v12,rfl,ho12,hu12⟩;have HU712:=hid (HU711.out.trans hu12);have HO12:=hid (own_und hu12 HO11.out);obtain⟨A12,c12,rfl,_⟩:=own_slice ho12;have HPL12:=hid (iplain_any A12 5 c12 St.kG2 w12 rfl (items_own ho12 rfl) (by omega) (by decide));rw[St.kG2_plain] at HPL12;simp only[show St.kG2.length=5 from rfl];clear ho12 hu12 i0 i1 HS2 HO11;go_wp2_with fail;refine HPL12.out.mono ?_;rintro e w13 ⟨rfl,hu13⟩;have HU713:=hid (HU712.out.trans hu13);have HO13:=hid (own_und hu13 HO12.out);clear hu13 HPL12 HO12;go_wp2_with fail;refine(trim2_any _).mono ?_;rintro e w14 ⟨rfl,hu14⟩;have HU714:=hid (HU713.out.trans hu14);have HO14:=hid (own_und hu14 HO13.out);clear hu14 HO13;obtain⟨hb0,b0,b4,b5,b6,b15⟩:=HB.out _ HU714.out;haveI:LtW g7 w14:=LtW.of hb0;go_wp2_with fail;refine wp_loop_rounds 2 ?_;rw[rounds_succ];go_wp2_with fail;rw[rounds_succ];go_wp2_with fail;refine wp_loop_rounds 1 ?_;rw[rounds_succ];go_wp2_with (at_builtin;(with_reducible (refine wpList_append_own _ rfl _ _ 57 rfl w.heap.size 62 ir (.agg #[.int .i64 0,.int .i64 0]) 2 16 Tryz.underlying57 hr0 hr1 hr2 hr3 rfl (by decide) (.slice A11 1 c11) 1 [.int .i64 0,.int .i64 5] ?_ (own_und (by apply_rules[uUe,uUa,uUb,uUc,uUd]) HO14.out) ?_ 1 1 [.int .i64 6,.int .i64 16] ?_ ?_ ?_ ?_ ?_ ?_ ?_ ?_));all_goals (first|rfl|(unfold maxLen;omega)|omega|skip))
 ·exact cells_at5 (heap_alloc2_new _ _ _)
 ·intro u hu
  simp only[List.mem_cons,List.not_mem_nil,or_false] at hu;rcases hu with rfl|rfl <;> rfl
 ·have:=Und.size (HU7.out.trans HU714.out);simp;omega
 intro v15 w15 ho15 hg15 _;have HU15:=hid (((HU7.out.trans HU714.out).trans (show Und w14 _ from(by apply_rules[uUe,uUa,uUb,uUc,uUd]))).grown hg15 (fun g hg=>owns_block HO14.out g hg));have HO15:=hid ho15;clear ho15 hg15 b0 b4 b5 b6 b15 hb0;go_wp2_with fail;rw[rounds_succ];go_wp2;go_ret;exact⟨_,rfl,HO15.out,HU15.out⟩
end Go.Proofs.YtcfhfdphoidaeaaGreatDoor
