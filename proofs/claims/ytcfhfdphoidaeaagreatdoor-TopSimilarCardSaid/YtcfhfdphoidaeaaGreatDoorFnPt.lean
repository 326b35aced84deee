/- The contracts of (*match.Finder).find, slices.Insert and (*match.Finder).Put at an empty. -/
import Derived.Test.YtcfhfdphoidaeaaGreatDoorFnD
import Derived.Test.YtcfhfdphoidaeaaGreatDoorFnF
set_option linter.unusedVariables false
set_option linter.unusedSimpArgs false
set_option linter.all false
namespace Go.Proofs.YtcfhfdphoidaeaaGreatDoor
open Go.RowKit
set_option maxRecDepth 20000
set_option maxHeartbeats 12800000
theorem find0_any(fb ib:Nat)(q:Int)(s:ByteArray)(w:World)(h:w.heap[fb]?=some (.cells #[.pointer (some ⟨ib,0,none⟩),.slice none 0 0,.int .i64 q] 81 (0,0))) :
  Calls Tryz.prog 30 #[.pointer (some ⟨fb,0,none⟩),.string s] w fun e w'=>e=.returned (.tuple #[.int .i64 0,.bool false])/\w'=w:=by
 have z1:=zcH h 1;simp only[List.getElem?_toArray,List.getElem?_cons_zero,List.getElem?_cons_succ] at z1;haveI:LtW fb w:=LtW.of (lt_of_heap h);have HB:=hid (fun s fv c W=>bsf0_any s fv c W);clear h;go_enter Tryz.func30,Tryz.ntmps30;go_wp2_with (go_at_call 78;refine(HB.out _ _ 0 _).mono ?_;rintro e w' ⟨rfl,rfl⟩);go_ret2;exact⟨rfl,rfl⟩
theorem info_stored:(Tryz.prog.info? 87).map (fun i=>(i.zero,i.size,i.bytes))=some (some (.agg #[.int .i64 0,.string ⟨#[]⟩,.slice none 0 0,.slice none 0 0,.string ⟨#[]⟩,.string ⟨#[]⟩,.string ⟨#[]⟩,.string ⟨#[]⟩,.int .i64 0,.int .i64 0,.slice none 0 0]),11,176):=by kernel_rfl
theorem insert0_any(g:Nat)(cs:List Value)(w:World)(hl:cs.length=11)(h1:∀ u ∈ cs,u.oneCell'=true)(h:w.heap[g]?=some (.cells cs.toArray 87 (0,0))) :
  Calls Tryz.prog 33 #[.slice none 0 0,.int .i64 0,.slice (some ⟨g,0,none⟩) 1 1] w fun e w'=>∃ v,e=.returned v/\w'.ownsRow w.heap.size 87 11 v 1 cs/\Und w w':=by
 obtain⟨i0,hi,hz0,hz1,hz2⟩:=info_parts info_stored
 have HC:=hid (fun (W:World) (u:Und w W)=>(show ∀ j u,cs[j]?=some u->W.cell? ((⟨g,0,none⟩:Addr).add j)=some u from fun j x hx=>by
  have hadd:(⟨g,0,none⟩:Addr).add j=⟨g,j,none⟩:=by unfold Addr.add;split <;> simp_all
  rw[hadd,u.cell (p:=⟨g,j,none⟩) (lt_of_heap h),zcH h j]
  simpa using hx))
 clear h;go_enter Tryz.func33,Tryz.ntmps33;go_wp2_with (at_builtin;(with_reducible (refine wpList_append_own _ rfl _ _ 79 rfl w.heap.size 87 i0 (.agg #[.int .i64 0,.string ⟨#[]⟩,.slice none 0 0,.slice none 0 0,.string ⟨#[]⟩,.string ⟨#[]⟩,.string ⟨#[]⟩,.string ⟨#[]⟩,.int .i64 0,.int .i64 0,.slice none 0 0]) 11 176 Tryz.underlying79 hi hz0 hz1 hz2 rfl (by decide) (.slice none 0 0) 0 [] ?_ (World.ownsRow_nil _ _ _ _) ⟨g,0,none⟩ 1 1 cs ?_ ?_ ?_ ?_ ?_ ?_ ?_ ?_));all_goals (first|rfl|exact h1|(unfold maxLen;omega)|omega|skip))
 ·exact HC.out _ (by apply_rules[uUe,uUa,uUb,uUc,uUd])
 ·intro v' w4 hown hgrow _
  have hg1:Und w w4:=(Und.refl w).grown hgrow (fun g e=>by cases e);have HH:=hid (And.intro hown hg1);clear hown hgrow hg1;go_wp2;go_ret;exact⟨v',rfl,by simpa using HH.out.1,HH.out.2⟩
def FinderOne(w:World)(B fb ib m0 m1 m2 n:Nat)(l:List St.It):Prop:=
 ∃ (g cg:Nat) (key:ByteArray) (A1 A2 TA:Option Addr) (c1 c2 ct:Nat),w.heap[fb]?=some (.cells #[.pointer (some ⟨ib,0,none⟩),.slice (some ⟨g,0,none⟩) 1 cg,.int .i64 1] 81 (0,0)) /\
  (∀ j u,([.int .i64 0,.string key,.slice A1 n c1,.slice A2 n c2,.string ⟨#[]⟩,.string ⟨#[]⟩,.string ⟨#[]⟩,.string ⟨#[]⟩,.int .i64 0,.int .i64 1,.slice TA l.length ct]:List Value)[j]?=some u->w.cell? ⟨g,j,none⟩=some u)/\g<w.heap.size/\ItemsAt w TA l/\IxOne w B ib m0 m1 m2 l
theorem tokT_tot:∀ (n:Nat) (s:List UInt8),tot (St.tokT n s)<=s.length
 | 0,s=>by simp[St.tokT,tot]
 | n+1,[]=>by simp[St.tokT,tot]
 | n+1,c :: r=>by
  have ih:=tokT_tot n ((c :: r).drop (St.nextL (c :: r)).2);have hl:=St.next_le c r;have e:St.tokT (n+1) (c :: r)=((St.nextL (c :: r)).1,(c :: r).take (St.nextL (c :: r)).2,0) :: St.tokT n ((c :: r).drop (St.nextL (c :: r)).2):=rfl;rw[e];unfold tot at *;rw[List.map_cons,List.sum_cons];rw[List.length_drop] at ih;simp only[List.length_take,List.length_cons] at *;omega
theorem tokL_tot(f:List St.It):tot (St.tokL f)<=tot f:=by
 induction f with
 | nil=>simp[St.tokL,tot]
 | cons x f ih=>
  have e:St.tokL (x :: f)=St.tokI x++St.tokL f:=by simp[St.tokL]
  rw[e]
  have h1:tot (St.tokI x)<=x.2.1.length:=by
   unfold St.tokI
   split
   ·simp[tot]
   ·split
    ·exact tokT_tot _ _
    ·simp[tot]
  unfold tot at *;rw[List.map_append,List.sum_append,List.map_cons,List.sum_cons];omega
theorem GS.items{S:List Nat}{a b:World}(u:GS S a b)(hm:∀ g ∈ S,IsMap a g){A:Option Addr}{f:List St.It}(h:ItemsAt a A f):ItemsAt b A f:=by
 intro h0;obtain⟨g,off,rfl,hb,hc⟩:=h h0;refine⟨g,off,rfl,Nat.lt_of_lt_of_le hb u.size,fun j hj=>?_⟩;obtain⟨c0,c1,c2⟩:=hc j hj;exact⟨u.cellm hm c0,u.cellm hm c1,u.cellm hm c2⟩
theorem items_ownE{w:World}{B n c:Nat}{e:TypeId}{A:Option Addr}{f:List St.It}(h:w.ownsRow B e 3 (.slice A n c) n (cellsIt f))(hn:f.length=n):ItemsAt w A f:=by
 intro h0;obtain⟨g,rfl,_,hg,hc⟩:=own_cell h (by omega);refine⟨g,0,rfl,hg,fun j hj=>?_⟩;obtain⟨a,b,c⟩:=cellsIt_at f j hj;rw[Nat.zero_add];exact⟨hc _ _ a,hc _ _ b,hc _ _ c⟩
theorem put_any(fb ib m0 m1 m2:Nat)(A B:Option Addr)(n c d:Nat)(f:List St.It)(w0 w:World)(hn:f.length=n)(h0:0<n)(hf:St.Fr.FragOk f)(hc:n<=c)(hc63:c<=9223372036854775807)(hd:n<=d)(hd63:d<=9223372036854775807)(hA:ItemsAt w A f)(hB:ItemsAt w B f)
  (hu0:Und w0 w) (hfb:w.heap[fb]?=some (.cells #[.pointer (some ⟨ib,0,none⟩),.slice none 0 0,.int .i64 0] 81 (0,0))) (hfl:w0.heap.size<=fb) (hix:IxNone w w0.heap.size ib m0 m1 m2) :
  Calls Tryz.prog 8 #[.pointer (some ⟨fb,0,none⟩),entV A B n c d] w fun e w'=>e=.returned (.int .i64 0)/\(∃ B',FinderOne w' B' fb ib m0 m1 m2 n (St.tokL f))/\Und w0 w':=by
 have hl:=hf.len;have HTT:=hid (show tot f<=700 from hf.txt);have HV:=hid (fun W (u:Und w W)=>mvalid_any A B n c d f W hn h0 hf hc hc63 hd hd63 (hA.und u) (hB.und u));have HKEY:=hid (fun W (u:Und w W)=>key_entry A B n c d f W hn h0 hf hc hc63 hd hd63 (hA.und u) (hB.und u));have HCL0:=hid (fun W (u:Und w W)=>clone_any A B n c d f W hn h0 (hA.und u) (hB.und u) (by omega));have HTK0:=hid (fun W (u:Und w W)=>tokens_any A n c f W hn (hA.und u) (by omega) (Nat.le_trans HTT.out (by omega)));have hnt:(St.tokL f).length<=f.length+tot f:=St.tokL_len f;have htl:(St.tokL f).length<=800:=by have:=HTT.out;omega
 obtain⟨nt,hnt2⟩:∃ nt,(St.tokL f).length=nt:=⟨_,rfl⟩;rw[hnt2] at HTK0 htl;have HNT:=hid hnt2;have HU0:=hid hu0;have HFB0:=hid hfb;have HFL:=hid hfl;have HIX0:=hid hix;have HFND:=hid (fun s W (u:Und w W)=>find0_any fb ib 0 s W ((u.below.block fb (lt_of_heap hfb)).trans hfb));clear hA hB hn hf hfb hfl hix hu0 hnt hnt2;unfold entV at *;go_enter Tryz.func8,Tryz.ntmps8;go_wp2_with fail;refine(HV.out _ (by apply_rules[uUe,uUa,uUb,uUc,uUd])).mono ?_;rintro e w1 ⟨rfl,X1,rfl⟩;go_wp2_with fail;refine(HKEY.out _ (by apply_rules[uUe,uUa,uUb,uUc,uUd])).mono ?_;rintro e w2 ⟨key,rfl,hu2⟩;have HU2:=hid ((show Und w (under (w.alloc (.cells #[.slice A n c,.slice B n d,.string ⟨#[]⟩,.string ⟨#[]⟩,.string ⟨#[]⟩,.string ⟨#[]⟩,.int .i64 0,.int .i64 1] 36)) X1) from(by apply_rules[uUe,uUa,uUb,uUc,uUd])).trans hu2);have he2:=(((show Und (w.alloc (.cells #[.slice A n c,.slice B n d,.string ⟨#[]⟩,.string ⟨#[]⟩,.string ⟨#[]⟩,.string ⟨#[]⟩,.int .i64 0,.int .i64 1] 36)) (under (w.alloc (.cells #[.slice A n c,.slice B n d,.string ⟨#[]⟩,.string ⟨#[]⟩,.string ⟨#[]⟩,.string ⟨#[]⟩,.int .i64 0,.int .i64 1] 36)) X1) from(by apply_rules[uUe,uUa,uUb,uUc,uUd])).trans hu2).below.block w.heap.size (by simp)).trans (heap_alloc_new w (.cells #[.slice A n c,.slice B n d,.string ⟨#[]⟩,.string ⟨#[]⟩,.string ⟨#[]⟩,.string ⟨#[]⟩,.int .i64 0,.int .i64 1] 36));have HE2:=hid he2;have hf2:=(HU2.out.below.block fb (lt_of_heap HFB0.out)).trans HFB0.out;have z0:=zcH hf2 0;have z1:=zcH hf2 1;have z2:=zcH hf2 2;simp only[List.getElem?_toArray,List.getElem?_cons_zero,List.getElem?_cons_succ] at z0 z1 z2;haveI:LtW fb w2:=LtW.of (lt_of_heap hf2);have HF2:=hid hf2;clear hu2 he2 hf2;go_wp2_with fail;refine(HFND.out _ _ HU2.out).mono ?_;rintro e w3 ⟨rfl,rfl⟩;go_wp2_with fail;obtain⟨eb,heb⟩:∃ eb,w.heap.size=eb:=⟨_,rfl⟩;rw[heb] at HE2 ⊢;have HEW:=hid heb;have HIX2:=hid (HIX0.out.und HU2.out);clear heb z0 z1 z2 HFND HFB0 HIX0 HV HKEY;refine gen_region (fun W=>Und w W/\W.heap[eb]?=some (.cells #[.slice A n c,.slice B n d,.string ⟨#[]⟩,.string ⟨#[]⟩,.string ⟨#[]⟩,.string ⟨#[]⟩,.int .i64 0,.int .i64 1] 36 (0,0))/\W.heap[fb]?=some (.cells #[.pointer (some ⟨ib,0,none⟩),.slice none 0 0,.int .i64 0] 81 (0,0))/\IxNone W w0.heap.size ib m0 m1 m2) ⟨HU2.out,HE2.out,HF2.out,HIX2.out⟩ (fun W3 h3=>?_);obtain⟨hu3,he3,hf3,hix3⟩:=h3;have HU3:=hid hu3;have HEB3:=hid he3;have HFB3:=hid hf3;have HIX3:=hid hix3;have HEB:=hid (lt_of_heap he3);have HFB:=hid (lt_of_heap hf3);have HCL:=hid (fun W (u:Und W3 W)=>HCL0.out W (hu3.trans u));have HTK:=hid (fun W (u:Und W3 W)=>HTK0.out W (hu3.trans u));have e0:=zcH he3 0;have e1:=zcH he3 1;have e2:=zcH he3 2;have e3:=zcH he3 3;have e4:=zcH he3 4;have e5:=zcH he3 5;have e6:=zcH he3 6;have e7:=zcH he3 7;have p0:=zcH hf3 0;have p1:=zcH hf3 1;have p2:=zcH hf3 2;simp only[List.getElem?_toArray,List.getElem?_cons_zero,List.getElem?_cons_succ] at e0 e1 e2 e3 e4 e5 e6 e7 p0 p1 p2;clear hu3 he3 hf3 hix3 HU2 HE2 HF2 HIX2 HCL0 HTK0;refine wp_region_factsR (fun _ _=>True) (fun ρ L W=>Und W3 W/\(L 6=true->∃ (A1 A2:Option Addr) (c1 c2:Nat),ρ 6=entV A1 A2 n c1 c2/\n<=c1/\c1<=maxLen/\n<=c2/\c2<=maxLen)/\(L 9=true->∃ (TA:Option Addr) (ct:Nat),ρ 9=.slice TA nt ct/\W.ownsRow W3.heap.size 104 3 (.slice TA nt ct) nt (cellsIt (St.tokL f)))/\(L 10=true->∃ (A1 A2 TA:Option Addr) (c1 c2 ct:Nat),ρ 9=.slice TA nt ct/\n<=c1/\c1<=maxLen/\n<=c2/\c2<=maxLen/\ρ 10=.agg #[.int .i64 0,.string key,.slice A1 n c1,.slice A2 n c2,.string ⟨#[]⟩,.string ⟨#[]⟩,.string ⟨#[]⟩,.string ⟨#[]⟩,.int .i64 0,.int .i64 1,.slice TA nt ct])/\(L 11=true->∃ b:Nat,ρ 11=.pointer (some ⟨b,0,none⟩)/\W3.heap.size<=b/\if L 12=true then ∃ cs,ρ 10=.agg cs/\W.heap[b]?=some (.cells cs 87 (0,0)) else W.heap[b]?=some (.cells #[.int .i64 0,.string ⟨#[]⟩,.slice none 0 0,.slice none 0 0,.string ⟨#[]⟩,.string ⟨#[]⟩,.string ⟨#[]⟩,.string ⟨#[]⟩,.int .i64 0,.int .i64 0,.slice none 0 0] 87 (0,0)))) [fun v _=>v=.pointer (some ⟨fb,0,none⟩),fun v _=>v=.pointer (some ⟨fb,0,none⟩),fun v _=>v=.pointer (some ⟨fb,2,none⟩),fun v _=>v=.int .i64 0,fun v _=>v=.string key,fun v _=>v=.agg #[.slice A n c,.slice B n d,.string ⟨#[]⟩,.string ⟨#[]⟩,.string ⟨#[]⟩,.string ⟨#[]⟩,.int .i64 0,.int .i64 1],fun v _=>∃ (A1 A2:Option Addr) (c1 c2:Nat),v=entV A1 A2 n c1 c2,fun v _=>v=.pointer (some ⟨eb,0,none⟩),fun v _=>v=.slice A n c,fun v _=>∃ (TA:Option Addr) (ct:Nat),v=.slice TA nt ct,fun v _=>∃ cs,v=.agg cs,fun v _=>∃ b:Nat,v=.pointer (some ⟨b,0,none⟩),noFact] (fun _=>trivial) (fun _ _ _ _ _=>trivial) (by kernel_rfl) (by rfl) (by kernel_rfl) (by kernel_rfl) ?fr8 ?hfr ?hI ?hob ?hend
 case hfr=>
  intro ρ;simp only[putAll,Act.put,zsA,zsB,zsC,Nat.zero_add,Nat.reduceAdd];exact rfl
 case hI=>
  intro ρ;exact⟨((by apply_rules[uUe,uUa,uUb,uUc,uUd]):Und W3 W3.drew),fun h=>by simp at h,fun h=>by simp at h,fun h=>by simp at h,fun h=>by simp at h⟩
 case hob=>
  refine ObsG.cons (fun ρ L W hR hI hL hD hO hF K hK=>?_) ?_
  ·skip
   clear hF hO;simp only[Act.put,zsA,zsB,zsC] at hK ⊢;go_simp;refine hK _ _ trivial (by simpa [updB,upd] using hI) (fun W2 h2=>?_);rfl
  refine ObsG.cons (fun ρ L W hR hI hL hD hO hF K hK=>?_) ?_
  ·skip
   have f0:=allF_get hF (j:=0) (by decide);clear hF hO;simp only[Act.put,zsA,zsB,zsC] at hK ⊢;have e0:ρ 0=.pointer (some ⟨fb,0,none⟩):=f0;rw[e0] at hK ⊢;go_simp;refine hK _ _ trivial (by simpa [updB,upd] using hI) (fun W2 h2=>?_);rfl
  refine ObsG.cons (fun ρ L W hR hI hL hD hO hF K hK=>?_) ?_
  ·skip
   have f1:=allF_get hF (j:=1) (by decide);clear hF hO;simp only[Act.put,zsA,zsB,zsC] at hK ⊢;have e1:ρ 1=.pointer (some ⟨fb,0,none⟩):=f1;rw[e1] at hK ⊢;go_simp;refine hK _ _ trivial (by simpa [updB,upd] using hI) (fun W2 h2=>?_);rfl
  refine ObsG.cons (fun ρ L W hR hI hL hD hO hF K hK=>?_) ?_
  ·skip
   have f2:=allF_get hF (j:=2) (by decide);clear hF hO;simp only[Act.put,zsA,zsB,zsC] at hK ⊢;have e2:ρ 2=.pointer (some ⟨fb,2,none⟩):=f2;rw[e2] at hK ⊢;have yp2:=(hI.1.cell (p:=⟨fb,2,none⟩) HFB.out).trans p2;haveI:LtW fb W:=LtW.of (Nat.lt_of_lt_of_le HFB.out hI.1.size);go_simp;refine hK _ _ trivial (by simpa [updB,upd] using hI) (fun W2 h2=>?_);rfl
  refine ObsG.cons (fun ρ L W hR hI hL hD hO hF K hK=>?_) ?_
  ·skip
   clear hF hO;simp only[Act.put,zsA,zsB,zsC] at hK ⊢;go_simp;refine hK _ _ trivial (by simpa [updB,upd] using hI) (fun W2 h2=>?_);rfl
  refine ObsG.cons (fun ρ L W hR hI hL hD hO hF K hK=>?_) ?_
  ·skip
   clear hF hO;simp only[Act.put,zsA,zsB,zsC] at hK ⊢;have ye0:=(hI.1.cell (p:=⟨eb,0,none⟩) HEB.out).trans e0;have ye1:=(hI.1.cell (p:=⟨eb,1,none⟩) HEB.out).trans e1;have ye2:=(hI.1.cell (p:=⟨eb,2,none⟩) HEB.out).trans e2;have ye3:=(hI.1.cell (p:=⟨eb,3,none⟩) HEB.out).trans e3;have ye4:=(hI.1.cell (p:=⟨eb,4,none⟩) HEB.out).trans e4;have ye5:=(hI.1.cell (p:=⟨eb,5,none⟩) HEB.out).trans e5;have ye6:=(hI.1.cell (p:=⟨eb,6,none⟩) HEB.out).trans e6;have ye7:=(hI.1.cell (p:=⟨eb,7,none⟩) HEB.out).trans e7;haveI:LtW eb W:=LtW.of (Nat.lt_of_lt_of_le HEB.out hI.1.size);go_simp;refine hK _ _ trivial (by simpa [updB,upd] using hI) (fun W2 h2=>?_);rfl
  refine ObsG.cons (fun ρ L W hR hI hL hD hO hF K hK=>?_) ?_
  ·skip
   have f5:=allF_get hF (j:=5) (by decide);have h10:L 10=false:=hD.not (p:=10) rfl (by decide) hL;have h12:L 12=false:=hD.not (p:=12) rfl (by decide) h10;clear hF hO;simp only[Act.put,zsA,zsB,zsC] at hK ⊢;have e5:ρ 5=.agg #[.slice A n c,.slice B n d,.string ⟨#[]⟩,.string ⟨#[]⟩,.string ⟨#[]⟩,.string ⟨#[]⟩,.int .i64 0,.int .i64 1]:=f5;rw[e5] at hK ⊢;refine step_callF3 (o:=⟨some 39,_,_,_,_,_⟩) rfl 31 #[.agg #[.slice A n c,.slice B n d,.string ⟨#[]⟩,.string ⟨#[]⟩,.string ⟨#[]⟩,.string ⟨#[]⟩,.int .i64 0,.int .i64 1]] _ (HCL.out W hI.1) ?_ ?_
   ·go_simp
   rintro e W2 ⟨A1,A2,c1,c2,rfl,k1,k2,k3,k4,_,_,hu⟩;refine⟨_,rfl,hK _ _ trivial ⟨hI.1.trans hu,?_,?_,?_,?_⟩ (fun W4 h4=>⟨A1,A2,c1,c2,rfl⟩)⟩
   ·exact fun _=>⟨A1,A2,c1,c2,by simp[upd,entV],k1,k2,k3,k4⟩
   ·intro h
    obtain⟨TA,ct,e,hr⟩:=hI.2.2.1 (by simpa [updB] using h);exact⟨TA,ct,by simpa [upd] using e,own_und hu hr⟩
   ·intro h
    simp[updB,h10] at h
   ·intro h
    obtain⟨b,e,hb,hc⟩:=hI.2.2.2.2 (by simpa [updB] using h);rw[if_neg (by simp[h12])] at hc;exact⟨b,by simpa [upd] using e,hb,by rw[if_neg (by simp[updB,h12])];exact(hu.below.block b (lt_of_heap hc)).trans hc⟩
  refine ObsG.cons (fun ρ L W hR hI hL hD hO hF K hK=>?_) ?_
  ·skip
   clear hF hO;simp only[Act.put,zsA,zsB,zsC] at hK ⊢;go_simp;refine hK _ _ trivial (by simpa [updB,upd] using hI) (fun W2 h2=>?_);rfl
  refine ObsG.cons (fun ρ L W hR hI hL hD hO hF K hK=>?_) ?_
  ·skip
   have f7:=allF_get hF (j:=7) (by decide);clear hF hO;simp only[Act.put,zsA,zsB,zsC] at hK ⊢;have e7:ρ 7=.pointer (some ⟨eb,0,none⟩):=f7;rw[e7] at hK ⊢;have ye0:=(hI.1.cell (p:=⟨eb,0,none⟩) HEB.out).trans e0;haveI:LtW eb W:=LtW.of (Nat.lt_of_lt_of_le HEB.out hI.1.size);go_simp;refine hK _ _ trivial (by simpa [updB,upd] using hI) (fun W2 h2=>?_);rfl
  refine ObsG.cons (fun ρ L W hR hI hL hD hO hF K hK=>?_) ?_
  ·skip
   have f8:=allF_get hF (j:=8) (by decide);have h10:L 10=false:=hD.not (p:=10) rfl (by decide) hL;have h12:L 12=false:=hD.not (p:=12) rfl (by decide) h10;clear hF hO;simp only[Act.put,zsA,zsB,zsC] at hK ⊢;have e8:ρ 8=.slice A n c:=f8;rw[e8] at hK ⊢;refine step_callF3 (o:=⟨some 42,_,_,_,_,_⟩) rfl 12 #[.slice A n c] _ (HTK.out W hI.1) ?_ ?_
   ·go_simp
   rintro e W2 ⟨v,rfl,hown,hu⟩;obtain⟨TA,ct,rfl,_⟩:=own_slice hown;refine⟨_,rfl,hK _ _ trivial ⟨hI.1.trans hu,?_,?_,?_,?_⟩ (fun W4 h4=>⟨TA,ct,rfl⟩)⟩
   ·intro h
    obtain⟨A1,A2,c1,c2,e,k⟩:=hI.2.1 (by simpa [updB] using h);exact⟨A1,A2,c1,c2,by simpa [upd,entV] using e,k⟩
   ·exact fun _=>⟨TA,ct,by simp[upd],own_low hown hI.1.size⟩
   ·intro h
    simp[updB,h10] at h
   ·intro h
    obtain⟨b,e,hb,hc⟩:=hI.2.2.2.2 (by simpa [updB] using h);rw[if_neg (by simp[h12])] at hc;exact⟨b,by simpa [upd] using e,hb,by rw[if_neg (by simp[updB,h12])];exact(hu.below.block b (lt_of_heap hc)).trans hc⟩
  refine ObsG.cons (fun ρ L W hR hI hL hD hO hF K hK=>?_) ?_
  ·skip
   have f3:=allF_get hF (j:=3) (by decide);have f4:=allF_get hF (j:=4) (by decide);have f6:=allF_get hF (j:=6) (by decide);have f9:=allF_get hF (j:=9) (by decide)
   have h6:L 6=true:=by
    cases h:L 6 with
    | true=>rfl
    | false=>
     have e:=hO 6 _ 39 rfl rfl h;obtain⟨_,_,_,_,hb⟩:=f6;rw[e] at hb;cases hb
   have h9:L 9=true:=by
    cases h:L 9 with
    | true=>rfl
    | false=>
     have e:=hO 9 _ 42 rfl rfl h;obtain⟨_,_,hb⟩:=f9;rw[e] at hb;cases hb
   have h12:L 12=false:=hD.not (p:=12) rfl (by decide) hL;clear hF hO;simp only[Act.put,zsA,zsB,zsC] at hK ⊢;have e3:ρ 3=.int .i64 0:=f3;have e4:ρ 4=.string key:=f4;rw[e3,e4] at hK ⊢;obtain⟨A1,A2,c1,c2,e6,k⟩:=hI.2.1 h6;obtain⟨TA,ct,e9,hr⟩:=hI.2.2.1 h9;rw[e6,e9] at hK ⊢;unfold entV at hK ⊢;go_simp;refine hK _ _ trivial ⟨hI.1,?_,?_,?_,?_⟩ (fun W4 h4=>⟨_,rfl⟩)
   ·intro h
    obtain⟨A1,A2,c1,c2,e,k⟩:=hI.2.1 (by simpa [updB] using h);exact⟨A1,A2,c1,c2,by simpa [upd,entV] using e,k⟩
   ·intro h
    obtain⟨TA,ct,e,hr⟩:=hI.2.2.1 (by simpa [updB] using h);exact⟨TA,ct,by simpa [upd] using e,hr⟩
   ·exact fun _=>⟨A1,A2,TA,c1,c2,ct,by simpa [upd] using e9,k.1,k.2.1,k.2.2.1,k.2.2.2,by simp[upd]⟩
   ·intro h
    obtain⟨b,e,hb,hc⟩:=hI.2.2.2.2 (by simpa [updB] using h);rw[if_neg (by simp[h12])] at hc;exact⟨b,by simpa [upd] using e,hb,by rw[if_neg (by simp[updB,h12])];exact hc⟩
  refine ObsG.cons (fun ρ L W hR hI hL hD hO hF K hK=>?_) ?_
  ·skip
   have h12:L 12=false:=hD.not (p:=12) rfl (by decide) hL;clear hF hO;simp only[Act.put,zsA,zsB,zsC] at hK ⊢;have hu:=(Und.refl W).alloc (.cells #[.int .i64 0,.string ⟨#[]⟩,.slice none 0 0,.slice none 0 0,.string ⟨#[]⟩,.string ⟨#[]⟩,.string ⟨#[]⟩,.string ⟨#[]⟩,.int .i64 0,.int .i64 0,.slice none 0 0] 87);go_simp;refine hK _ _ trivial ⟨hI.1.alloc _,?_,?_,?_,?_⟩ (fun W4 h4=>⟨_,rfl⟩)
   ·intro h
    obtain⟨A1,A2,c1,c2,e,k⟩:=hI.2.1 (by simpa [updB] using h);exact⟨A1,A2,c1,c2,by simpa [upd,entV] using e,k⟩
   ·intro h
    obtain⟨TA,ct,e,hr⟩:=hI.2.2.1 (by simpa [updB] using h);exact⟨TA,ct,by simpa [upd] using e,own_und hu hr⟩
   ·intro h
    obtain⟨A1,A2,TA,c1,c2,ct,e9,k1,k2,k3,k4,e⟩:=hI.2.2.2.1 (by simpa [updB] using h);exact⟨A1,A2,TA,c1,c2,ct,by simpa [upd] using e9,k1,k2,k3,k4,by simpa [upd] using e⟩
   ·exact fun _=>⟨W.heap.size,by simp[upd],hI.1.size,by rw[if_neg (by simp[updB,h12])];exact heap_alloc_new W _⟩
  refine ObsG.cons (fun ρ L W hR hI hL hD hO hF K hK=>?_) ?_
  ·skip
   have f10:=allF_get hF (j:=10) (by decide);have f11:=allF_get hF (j:=11) (by decide)
   have h10:L 10=true:=by
    cases h:L 10 with
    | true=>rfl
    | false=>
     have e:=hO 10 _ 43 rfl rfl h;obtain⟨_,hb⟩:=f10;rw[e] at hb;cases hb
   have h11:L 11=true:=by
    cases h:L 11 with
    | true=>rfl
    | false=>
     have e:=hO 11 _ 9 rfl rfl h;obtain⟨_,hb⟩:=f11;rw[e] at hb;cases hb
   clear hF hO;simp only[Act.put,zsA,zsB,zsC] at hK ⊢;obtain⟨A1,A2,TA,c1,c2,ct,e9,k1,k2,k3,k4,e10⟩:=hI.2.2.2.1 h10;obtain⟨b,e11,hbl,hc⟩:=hI.2.2.2.2 h11;rw[if_neg (by simp[hL])] at hc;rw[e10,e11] at hK ⊢;have E9:=hid e9;clear e9;haveI:LtW b W:=LtW.of (lt_of_heap hc);have fz0:W.frozen? ⟨b,0,none⟩=false:=zfH hc 0;have gz0:=zcH hc 0;simp only[List.getElem?_toArray,List.getElem?_cons_zero,List.getElem?_cons_succ] at gz0;have fz1:W.frozen? ⟨b,1,none⟩=false:=zfH hc 1;have gz1:=zcH hc 1;simp only[List.getElem?_toArray,List.getElem?_cons_zero,List.getElem?_cons_succ] at gz1;have fz2:W.frozen? ⟨b,2,none⟩=false:=zfH hc 2;have gz2:=zcH hc 2;simp only[List.getElem?_toArray,List.getElem?_cons_zero,List.getElem?_cons_succ] at gz2;have fz3:W.frozen? ⟨b,3,none⟩=false:=zfH hc 3;have gz3:=zcH hc 3;simp only[List.getElem?_toArray,List.getElem?_cons_zero,List.getElem?_cons_succ] at gz3;have fz4:W.frozen? ⟨b,4,none⟩=false:=zfH hc 4;have gz4:=zcH hc 4;simp only[List.getElem?_toArray,List.getElem?_cons_zero,List.getElem?_cons_succ] at gz4;have fz5:W.frozen? ⟨b,5,none⟩=false:=zfH hc 5;have gz5:=zcH hc 5;simp only[List.getElem?_toArray,List.getElem?_cons_zero,List.getElem?_cons_succ] at gz5;have fz6:W.frozen? ⟨b,6,none⟩=false:=zfH hc 6;have gz6:=zcH hc 6;simp only[List.getElem?_toArray,List.getElem?_cons_zero,List.getElem?_cons_succ] at gz6;have fz7:W.frozen? ⟨b,7,none⟩=false:=zfH hc 7;have gz7:=zcH hc 7;simp only[List.getElem?_toArray,List.getElem?_cons_zero,List.getElem?_cons_succ] at gz7;have fz8:W.frozen? ⟨b,8,none⟩=false:=zfH hc 8;have gz8:=zcH hc 8;simp only[List.getElem?_toArray,List.getElem?_cons_zero,List.getElem?_cons_succ] at gz8;have fz9:W.frozen? ⟨b,9,none⟩=false:=zfH hc 9;have gz9:=zcH hc 9;simp only[List.getElem?_toArray,List.getElem?_cons_zero,List.getElem?_cons_succ] at gz9;have fz10:W.frozen? ⟨b,10,none⟩=false:=zfH hc 10;have gz10:=zcH hc 10;simp only[List.getElem?_toArray,List.getElem?_cons_zero,List.getElem?_cons_succ] at gz10;have hbt:∀ v,W.ownsRow W3.heap.size 104 3 (v) nt (cellsIt (St.tokL f))->v.ownBlock ≠ some b:=fun v h=>own_ne h hc (by decide)
   go_simp;refine hK undef _ trivial ⟨(RowAt.set_und (RowAt.set_und (RowAt.set_und (RowAt.set_und (RowAt.set_und (RowAt.set_und (RowAt.set_und (RowAt.set_und (RowAt.set_und (RowAt.set_und (RowAt.set_und hI.1 hbl 0 (.int .i64 0)) hbl 1 (.string key)) hbl 2 (.slice A1 n c1)) hbl 3 (.slice A2 n c2)) hbl 4 (.string ⟨#[]⟩)) hbl 5 (.string ⟨#[]⟩)) hbl 6 (.string ⟨#[]⟩)) hbl 7 (.string ⟨#[]⟩)) hbl 8 (.int .i64 0)) hbl 9 (.int .i64 1)) hbl 10 (.slice TA nt ct)),?_,?_,?_,?_⟩ (fun _ _=>trivial)
   ·intro h
    obtain⟨A1,A2,c1,c2,e,k⟩:=hI.2.1 (by simpa [updB] using h);exact⟨A1,A2,c1,c2,by simpa [upd,entV] using e,k⟩
   ·intro h
    obtain⟨TA,ct,e,hr⟩:=hI.2.2.1 (by simpa [updB] using h);exact⟨TA,ct,by simpa [upd] using e,(own_set (own_set (own_set (own_set (own_set (own_set (own_set (own_set (own_set (own_set (own_set hr (hbt _ hr)) (hbt _ hr)) (hbt _ hr)) (hbt _ hr)) (hbt _ hr)) (hbt _ hr)) (hbt _ hr)) (hbt _ hr)) (hbt _ hr)) (hbt _ hr)) (hbt _ hr))⟩
   ·intro h
    exact⟨A1,A2,TA,c1,c2,ct,by simpa [upd] using E9.out,k1,k2,k3,k4,by simpa [upd] using e10⟩
   ·intro h
    refine⟨b,by simpa [upd] using e11,hbl,?_⟩;rw[if_pos (by simp[updB])];exact⟨_,by simpa [upd] using e10,(heap_setCell_same _ b 10 _ _ (.slice TA nt ct) (heap_setCell_same _ b 9 _ _ (.int .i64 1) (heap_setCell_same _ b 8 _ _ (.int .i64 0) (heap_setCell_same _ b 7 _ _ (.string ⟨#[]⟩) (heap_setCell_same _ b 6 _ _ (.string ⟨#[]⟩) (heap_setCell_same _ b 5 _ _ (.string ⟨#[]⟩) (heap_setCell_same _ b 4 _ _ (.string ⟨#[]⟩) (heap_setCell_same _ b 3 _ _ (.slice A2 n c2) (heap_setCell_same _ b 2 _ _ (.slice A1 n c1) (heap_setCell_same _ b 1 _ _ (.string key) (heap_setCell_same _ b 0 _ _ (.int .i64 0) hc)))))))))))⟩
  exact ObsG.nil
 case hend=>
  intro ρ L W hR hI hL hF;obtain⟨hu,_,h9,h10,h11⟩:=hI;obtain⟨TA,ct,e9,hrow⟩:=h9 (hL 9 (by decide));obtain⟨A1,A2,TA',c1,c2,ct',e9',k1,k2,k3,k4,e10⟩:=h10 (hL 10 (by decide));rw[e9] at e9';obtain⟨rfl,_,rfl⟩:=Value.slice.inj e9';obtain⟨b,e11,hbl,hc⟩:=h11 (hL 11 (by decide));rw[if_pos (hL 12 (by decide))] at hc;obtain⟨cs,ec,hb⟩:=hc;rw[e10] at ec;obtain rfl:=Value.agg.inj ec;rw[e11];have HU8:=hid (HU3.out.trans hu);have HB8:=hid hb;have HROW:=hid hrow;have HBL:=hid (Nat.le_trans HU3.out.size hbl);have HKC:=hid (And.intro k1 (And.intro k2 (And.intro k3 k4)));have HF8:=hid ((hu.below.block fb HFB.out).trans HFB3.out);have HIX8:=hid (HIX3.out.und hu);have hf8:=HF8.out;have z0:=zcH hf8 0;have z1:=zcH hf8 1;have z2:=zcH hf8 2;have fz2:=zfH hf8 2;simp only[List.getElem?_toArray,List.getElem?_cons_zero,List.getElem?_cons_succ] at z0 z1 z2;haveI:LtW fb W:=LtW.of (lt_of_heap hf8);clear hu h9 h10 h11 e9 e9' e10 e11 ec hb hrow hbl k1 k2 k3 k4 hR hL hF hf8 p0 p1 p2 e0 e1 e2 e3 e4 e5 e6 e7;have hsb8:=HB8.out;have hbf:b ≠ fb:=fun e=>by rw[e,HF8.out] at hsb8;simp at hsb8
  have h19:=heap_setCell_same W fb 2 _ _ (.int .i64 1) HF8.out;have hb9:=(heap_set_other 2 hbf (.int .i64 1) (lt_of_heap hsb8)).trans hsb8;have hu9:W.grownBy (W.setCell ⟨fb,2,none⟩ (.int .i64 1)) (some fb):=gb_set W ⟨fb,2,none⟩ _;have HG9:=hid (show Und w0 (W.setCell ⟨fb,2,none⟩ (.int .i64 1)) from RowAt.set_und (HU0.out.trans HU8.out) HFL.out 2 _)
  have HX9:=hid (show IxNone (W.setCell ⟨fb,2,none⟩ (.int .i64 1)) w0.heap.size ib m0 m1 m2 from by
   obtain⟨⟨x1,x2⟩,x3,x4,x5,x6⟩:=HIX8.out;have hif:ib ≠ fb:=fun e=>by rw[e,HF8.out] at x1;simp at x1
   exact⟨⟨(heap_set_other 2 hif _ (lt_of_heap x1)).trans x1,x2⟩,x3.setCell _ _,x4.setCell _ _,x5.setCell _ _,x6⟩)
  have HT9:=hid (show (W.setCell ⟨fb,2,none⟩ (.int .i64 1)).ownsRow W3.heap.size 104 3 (.slice TA nt ct) nt (cellsIt (St.tokL f)) from own_set HROW.out (own_ne HROW.out HF8.out (by decide)));have HS9:=hid hb9;have HF9:=hid h19;clear hsb8 h19 hb9 hu9;go_wp2_with fail;refine gen_region (fun W9=>Und w0 W9/\IxNone W9 w0.heap.size ib m0 m1 m2/\W9.ownsRow W3.heap.size 104 3 (.slice TA nt ct) nt (cellsIt (St.tokL f))/\W9.heap[b]?=some (.cells #[.int .i64 0,.string key,.slice A1 n c1,.slice A2 n c2,.string ⟨#[]⟩,.string ⟨#[]⟩,.string ⟨#[]⟩,.string ⟨#[]⟩,.int .i64 0,.int .i64 1,.slice TA nt ct] 87 (0,0))/\W9.heap[fb]?=some (.cells #[.pointer (some ⟨ib,0,none⟩),.slice none 0 0,.int .i64 1] 81 (0,0))) ⟨HG9.out,HX9.out,HT9.out,HS9.out,HF9.out⟩ (fun W9 h9=>?_);obtain⟨hu9,hx9,ht9,hs9,hf9⟩:=h9;have HUN:=hid hu9;have HXN:=hid hx9;have HTN:=hid ht9;have HSN:=hid hs9;have HFB9:=hid hf9;have HSB:=hid (fun W (hW:W9.grownBy W (some fb))=>(show W.heap[b]?=some (.cells #[.int .i64 0,.string key,.slice A1 n c1,.slice A2 n c2,.string ⟨#[]⟩,.string ⟨#[]⟩,.string ⟨#[]⟩,.string ⟨#[]⟩,.int .i64 0,.int .i64 1,.slice TA nt ct] 87 (0,0)) from(hW.block b (lt_of_heap hs9) (by simpa using hbf)).trans hs9));have HBF:=hid hbf;clear hu9 hx9 ht9 hs9 hf9 hbf HG9 HX9 HT9 HS9 HF9 HF8 HIX8 HROW HU8 HB8;refine wp_region_factsR (fun _ _=>True) (fun ρ L W=>W9.grownBy W (some fb)/\W.heap[fb]?=some (.cells #[.pointer (some ⟨ib,0,none⟩),(if L 11=true then ρ 8 else .slice none 0 0),.int .i64 1] 81 (0,0))/\(L 7=true->∃ g:Nat,ρ 7=.slice (some ⟨g,0,none⟩) 1 1/\W9.heap.size<=g/\W.heap[g]?=some (.cells #[.int .i64 0,.string key,.slice A1 n c1,.slice A2 n c2,.string ⟨#[]⟩,.string ⟨#[]⟩,.string ⟨#[]⟩,.string ⟨#[]⟩,.int .i64 0,.int .i64 1,.slice TA nt ct] 87 (0,0)))/\(L 8=true->W.ownsRow W9.heap.size 87 11 (ρ 8) 1 [.int .i64 0,.string key,.slice A1 n c1,.slice A2 n c2,.string ⟨#[]⟩,.string ⟨#[]⟩,.string ⟨#[]⟩,.string ⟨#[]⟩,.int .i64 0,.int .i64 1,.slice TA nt ct])) [fun v _=>v=.pointer (some ⟨fb,0,none⟩),fun v _=>v=.pointer (some ⟨fb,0,none⟩),fun v _=>v=.pointer (some ⟨fb,0,none⟩),fun v _=>v=.pointer (some ⟨fb,1,none⟩),fun v _=>v=.slice none 0 0,fun v _=>v=.int .i64 0,fun v _=>v=.agg #[.int .i64 0,.string key,.slice A1 n c1,.slice A2 n c2,.string ⟨#[]⟩,.string ⟨#[]⟩,.string ⟨#[]⟩,.string ⟨#[]⟩,.int .i64 0,.int .i64 1,.slice TA nt ct],fun v _=>∃ g:Nat,v=.slice (some ⟨g,0,none⟩) 1 1,fun v _=>∃ (A:Option Addr) (c:Nat),v=.slice A 1 c,fun v _=>v=.pointer (some ⟨fb,0,none⟩),fun v _=>v=.pointer (some ⟨fb,1,none⟩),noFact] (fun _=>trivial) (fun _ _ _ _ _=>trivial) (by kernel_rfl) (by rfl) (by kernel_rfl) (by kernel_rfl) ?fr13 ?hfr ?hI ?hob ?hend
  case hfr=>
   intro ρ;simp only[putAll,Act.put,zsA,zsB,zsC,Nat.zero_add,Nat.reduceAdd];exact rfl
  case hI=>
   intro ρ;exact⟨((by apply_rules[uUe,uUa,uUb,uUc,uUd]):Und W9 W9.drew).gb _,by rw[if_neg (by simp)];exact HFB9.out,fun h=>by simp at h,fun h=>by simp at h⟩
  case hob=>
   refine ObsG.cons (fun ρ L W hR hI hL hD hO hF K hK=>?_) ?_
   ·skip
    clear hF hO;simp only[Act.put,zsA,zsB,zsC] at hK ⊢;go_simp;refine hK _ _ trivial (by simpa [updB,upd] using hI) (fun W2 h2=>?_);rfl
   refine ObsG.cons (fun ρ L W hR hI hL hD hO hF K hK=>?_) ?_
   ·skip
    clear hF hO;simp only[Act.put,zsA,zsB,zsC] at hK ⊢;go_simp;refine hK _ _ trivial (by simpa [updB,upd] using hI) (fun W2 h2=>?_);rfl
   refine ObsG.cons (fun ρ L W hR hI hL hD hO hF K hK=>?_) ?_
   ·skip
    have f1:=allF_get hF (j:=1) (by decide);clear hF hO;simp only[Act.put,zsA,zsB,zsC] at hK ⊢;have e1:ρ 1=.pointer (some ⟨fb,0,none⟩):=f1;rw[e1] at hK ⊢;go_simp;refine hK _ _ trivial (by simpa [updB,upd] using hI) (fun W2 h2=>?_);rfl
   refine ObsG.cons (fun ρ L W hR hI hL hD hO hF K hK=>?_) ?_
   ·skip
    have f2:=allF_get hF (j:=2) (by decide);clear hF hO;simp only[Act.put,zsA,zsB,zsC] at hK ⊢;have e2:ρ 2=.pointer (some ⟨fb,0,none⟩):=f2;rw[e2] at hK ⊢;go_simp;refine hK _ _ trivial (by simpa [updB,upd] using hI) (fun W2 h2=>?_);rfl
   refine ObsG.cons (fun ρ L W hR hI hL hD hO hF K hK=>?_) ?_
   ·skip
    have f3:=allF_get hF (j:=3) (by decide);have h8:L 8=false:=hD.not (p:=8) rfl (by decide) hL;have h11:L 11=false:=hD.not (p:=11) rfl (by decide) h8;clear hF hO;simp only[Act.put,zsA,zsB,zsC] at hK ⊢;have e3:ρ 3=.pointer (some ⟨fb,1,none⟩):=f3;rw[e3] at hK ⊢;have hb:=hI.2.1;haveI:LtW fb W:=LtW.of (lt_of_heap hb);have d:=zcH hb 1;simp only[h11,Bool.false_eq_true,if_false,List.getElem?_toArray,List.getElem?_cons_zero,List.getElem?_cons_succ] at d;go_simp;refine hK _ _ trivial (by simpa [updB,upd] using hI) (fun W2 h2=>?_);rfl
   refine ObsG.cons (fun ρ L W hR hI hL hD hO hF K hK=>?_) ?_
   ·skip
    clear hF hO;simp only[Act.put,zsA,zsB,zsC] at hK ⊢;go_simp;refine hK _ _ trivial (by simpa [updB,upd] using hI) (fun W2 h2=>?_);rfl
   refine ObsG.cons (fun ρ L W hR hI hL hD hO hF K hK=>?_) ?_
   ·skip
    clear hF hO;simp only[Act.put,zsA,zsB,zsC] at hK ⊢;have hb:=HSB.out W hI.1;haveI:LtW b W:=LtW.of (lt_of_heap hb);have d0:=zcH hb 0;have d1:=zcH hb 1;have d2:=zcH hb 2;have d3:=zcH hb 3;have d4:=zcH hb 4;have d5:=zcH hb 5;have d6:=zcH hb 6;have d7:=zcH hb 7;have d8:=zcH hb 8;have d9:=zcH hb 9;have d10:=zcH hb 10;simp only[List.getElem?_toArray,List.getElem?_cons_zero,List.getElem?_cons_succ] at d0 d1 d2 d3 d4 d5 d6 d7 d8 d9 d10;go_simp;refine hK _ _ trivial (by simpa [updB,upd] using hI) (fun W2 h2=>?_);rfl
   refine ObsG.cons (fun ρ L W hR hI hL hD hO hF K hK=>?_) ?_
   ·skip
    have f6:=allF_get hF (j:=6) (by decide);have h8:L 8=false:=hD.not (p:=8) rfl (by decide) hL;have h11:L 11=false:=hD.not (p:=11) rfl (by decide) h8;clear hF hO;simp only[Act.put,zsA,zsB,zsC] at hK ⊢;have e6:ρ 6=.agg #[.int .i64 0,.string key,.slice A1 n c1,.slice A2 n c2,.string ⟨#[]⟩,.string ⟨#[]⟩,.string ⟨#[]⟩,.string ⟨#[]⟩,.int .i64 0,.int .i64 1,.slice TA nt ct]:=f6;rw[e6] at hK ⊢;have hu:=(Und.refl W).alloc (.cells #[.int .i64 0,.string key,.slice A1 n c1,.slice A2 n c2,.string ⟨#[]⟩,.string ⟨#[]⟩,.string ⟨#[]⟩,.string ⟨#[]⟩,.int .i64 0,.int .i64 1,.slice TA nt ct] 87);go_simp;refine hK _ _ trivial ⟨gb_und hI.1 hu,?_,?_,?_⟩ (fun W4 h4=>⟨_,rfl⟩)
    ·have h9:=(hu.below.block fb (lt_of_heap hI.2.1)).trans hI.2.1
     simpa [updB,upd,h11] using h9
    ·exact fun _=>⟨W.heap.size,by simp[upd],hI.1.size,heap_alloc_new W _⟩
    ·intro h
     simpa [upd] using own_und hu (hI.2.2.2 (by simpa [updB] using h))
   refine ObsG.cons (fun ρ L W hR hI hL hD hO hF K hK=>?_) ?_
   ·skip
    have f4:=allF_get hF (j:=4) (by decide);have f5:=allF_get hF (j:=5) (by decide);have f7:=allF_get hF (j:=7) (by decide)
    have h7:L 7=true:=by
     cases h:L 7 with
     | true=>rfl
     | false=>
      have e:=hO 7 _ 79 rfl rfl h;obtain⟨_,hb⟩:=f7;rw[e] at hb;cases hb
    have h11:L 11=false:=hD.not (p:=11) rfl (by decide) hL;clear hF hO;simp only[Act.put,zsA,zsB,zsC] at hK ⊢;have e4:ρ 4=.slice none 0 0:=f4;have e5:ρ 5=.int .i64 0:=f5;rw[e4,e5] at hK ⊢;obtain⟨g,e7,hg,hc⟩:=hI.2.2.1 h7;rw[e7] at hK ⊢
    refine step_callF3 (o:=⟨some 80,_,_,_,_,_⟩) rfl 33 #[.slice none 0 0,.int .i64 0,.slice (some ⟨g,0,none⟩) 1 1] _ (insert0_any g [.int .i64 0,.string key,.slice A1 n c1,.slice A2 n c2,.string ⟨#[]⟩,.string ⟨#[]⟩,.string ⟨#[]⟩,.string ⟨#[]⟩,.int .i64 0,.int .i64 1,.slice TA nt ct] W rfl (fun u hu=>by
     simp only[List.mem_cons,List.not_mem_nil,or_false] at hu
     rcases hu with rfl|rfl|rfl|rfl|rfl|rfl|rfl|rfl|rfl|rfl|rfl <;> rfl) hc) ?_ ?_
    ·go_simp
    rintro e W2 ⟨v,rfl,hown,hu⟩
    refine⟨_,rfl,hK _ _ trivial ⟨gb_und hI.1 hu,?_,?_,?_⟩ (fun W4 h4=>by
     obtain⟨A',c',e,_⟩:=own_slice hown
     exact⟨A',c',e⟩)⟩
    ·have h9:=(hu.below.block fb (lt_of_heap hI.2.1)).trans hI.2.1
     simpa [updB,upd,h11] using h9
    ·intro h
     obtain⟨g,e,hg,hc⟩:=hI.2.2.1 (by simpa [updB] using h);exact⟨g,by simpa [upd] using e,hg,(hu.below.block g (lt_of_heap hc)).trans hc⟩
    ·intro _
     simpa [upd] using own_low hown hI.1.size
   refine ObsG.cons (fun ρ L W hR hI hL hD hO hF K hK=>?_) ?_
   ·skip
    have f0:=allF_get hF (j:=0) (by decide);clear hF hO;simp only[Act.put,zsA,zsB,zsC] at hK ⊢;have e0:ρ 0=.pointer (some ⟨fb,0,none⟩):=f0;rw[e0] at hK ⊢;go_simp;refine hK _ _ trivial (by simpa [updB,upd] using hI) (fun W2 h2=>?_);rfl
   refine ObsG.cons (fun ρ L W hR hI hL hD hO hF K hK=>?_) ?_
   ·skip
    have f9:=allF_get hF (j:=9) (by decide);clear hF hO;simp only[Act.put,zsA,zsB,zsC] at hK ⊢;have e9:ρ 9=.pointer (some ⟨fb,0,none⟩):=f9;rw[e9] at hK ⊢;go_simp;refine hK _ _ trivial (by simpa [updB,upd] using hI) (fun W2 h2=>?_);rfl
   refine ObsG.cons (fun ρ L W hR hI hL hD hO hF K hK=>?_) ?_
   ·skip
    have f8:=allF_get hF (j:=8) (by decide);have f10:=allF_get hF (j:=10) (by decide);clear hF hO;simp only[Act.put,zsA,zsB,zsC] at hK ⊢;have e10:ρ 10=.pointer (some ⟨fb,1,none⟩):=f10;rw[e10] at hK ⊢;obtain⟨A8,c8,e8⟩:=f8;rw[e8] at hK ⊢;obtain⟨hi1,hi2,hi3,hi4⟩:=hI;haveI:LtW fb W:=LtW.of (lt_of_heap hi2);have fz:W.frozen? ⟨fb,1,none⟩=false:=zfH hi2 1;have gz:=zcH hi2 1;simp only[hL,Bool.false_eq_true,if_false,List.getElem?_toArray,List.getElem?_cons_zero,List.getElem?_cons_succ] at gz;have hnb:∀ v,W.ownsRow W9.heap.size 87 11 v 1 [.int .i64 0,.string key,.slice A1 n c1,.slice A2 n c2,.string ⟨#[]⟩,.string ⟨#[]⟩,.string ⟨#[]⟩,.string ⟨#[]⟩,.int .i64 0,.int .i64 1,.slice TA nt ct]->v.ownBlock ≠ some fb:=fun v h=>own_ne h hi2 (by decide)
    go_simp;refine hK undef _ trivial ⟨gb_setCell hi1 ⟨fb,1,none⟩ _ (.inl rfl),?_,fun h=>?_,fun h=>?_⟩ (fun _ _=>trivial)
    ·have h9:=heap_setCell_same W fb 1 _ _ (.slice A8 1 c8) hi2
     rw[hL] at h9;simpa [updB,upd,e8] using h9
    ·obtain⟨g,e,hg,hc⟩:=hi3 (by simpa [updB] using h)
     have hgf:g ≠ fb:=fun e2=>by
      rw[e2,hi2] at hc;simp at hc
     exact⟨g,by simpa [upd] using e,hg,(heap_set_other 1 hgf _ (lt_of_heap hc)).trans hc⟩
    ·have h9:=hi4 (by simpa [updB] using h)
     simpa [upd] using own_set h9 (hnb _ h9)
   exact ObsG.nil
  case hend=>
   intro ρ L W hR hI hL hF;obtain⟨hg,hf,_,h8⟩:=hI;rw[if_pos (hL 11 (by decide))] at hf;have hr8:=h8 (hL 8 (by decide));obtain⟨A8,c8,e8,_⟩:=own_slice hr8;rw[e8] at hf hr8;obtain⟨g,rfl,hgl,hgs,hgc⟩:=own_cell hr8 (by omega);have h1:=HSB.out W hg;have h2:W.ownsRow W3.heap.size 104 3 (.slice TA nt ct) nt (cellsIt (St.tokL f)):=HTN.out.kept hg (.inr (own_ne HTN.out HFB9.out (by decide)))
   have h3:IxNone W w0.heap.size ib m0 m1 m2:=by
    obtain⟨⟨x1,x2⟩,x3,x4,x5,x6⟩:=HXN.out;have hif:ib ≠ fb:=fun e=>by rw[e,HFB9.out] at x1;simp at x1
    have hmm:∀ x,IsMap W9 x->some x ≠ some fb:=fun x hx e=>by
     obtain⟨p,q,h⟩:=hx;rw[Option.some.inj e,HFB9.out] at h;cases h
    exact⟨⟨(hg.block ib (lt_of_heap x1) (by simpa using hif)).trans x1,x2⟩,x3.gb hg (hmm _ x3.isMap),x4.gb hg (hmm _ x4.isMap),x5.gb hg (hmm _ x5.isMap),x6⟩
   have h4:Und w0 W:=HUN.out.grown hg (fun g e=>by cases e;exact HFL.out);clear hr8 e8 h8 hR hL hF hg hgl;go_wp2_with fail;refine gen_region (fun W10=>Und w0 W10/\IxNone W10 w0.heap.size ib m0 m1 m2/\W10.ownsRow W3.heap.size 104 3 (.slice TA nt ct) nt (cellsIt (St.tokL f))/\W10.heap[b]?=some (.cells #[.int .i64 0,.string key,.slice A1 n c1,.slice A2 n c2,.string ⟨#[]⟩,.string ⟨#[]⟩,.string ⟨#[]⟩,.string ⟨#[]⟩,.int .i64 0,.int .i64 1,.slice TA nt ct] 87 (0,0))/\W10.heap[fb]?=some (.cells #[.pointer (some ⟨ib,0,none⟩),.slice (some ⟨g,0,none⟩) 1 c8,.int .i64 1] 81 (0,0))/\g<W10.heap.size/\∀ j u,([.int .i64 0,.string key,.slice A1 n c1,.slice A2 n c2,.string ⟨#[]⟩,.string ⟨#[]⟩,.string ⟨#[]⟩,.string ⟨#[]⟩,.int .i64 0,.int .i64 1,.slice TA nt ct]:List Value)[j]?=some u->W10.cell? ⟨g,j,none⟩=some u) ⟨h4,h3,h2,h1,hf,hgs,hgc⟩ (fun W10 h10=>?_);clear h1 h2 h3 h4 hf hgs hgc;obtain⟨hu,hx,ht,hb,hf,hgs,hgc⟩:=h10;have HUX:=hid hu;have HXX:=hid hx;have HTX:=hid (items_ownE ht HNT.out);have HBX:=hid hb;have HFX:=hid hf;have HGS:=hid hgs;have HGC:=hid hgc;have HADD:=hid (fun W (u:Und W10 W)=>add_any ib m0 m1 m2 TA nt ct (St.tokL f) W HNT.out (HTX.out.und u) (by omega) (Nat.le_trans (tokL_tot f) (Nat.le_trans HTT.out (by omega))) ((hx.und u).1) ((hx.und u).2.1) ((hx.und u).2.2.1) ((hx.und u).2.2.2.1));clear hu hx ht hb hf hgs hgc;refine wp_region_factsR (fun _ _=>True) (fun _ L W=>if L 8=true then GS [m0,m1,m2] W10 W/\∃ B9,IxOne W B9 ib m0 m1 m2 (St.tokL f) else Und W10 W) [fun v _=>v=.pointer (some ⟨fb,0,none⟩),fun v _=>v=.pointer (some ⟨fb,0,none⟩),fun v _=>v=.pointer (some ⟨fb,0,none⟩),fun v _=>v=.pointer (some ⟨ib,0,none⟩),fun v _=>v=.pointer (some ⟨b,0,none⟩),fun v _=>v=.int .i64 0,fun v _=>v=.pointer (some ⟨b,10,none⟩),fun v _=>v=.slice TA nt ct,noFact] (fun _=>trivial) (fun _ _ _ _ _=>trivial) (by kernel_rfl) (by rfl) (by kernel_rfl) (by kernel_rfl) ?fr14 ?hfr ?hI ?hob ?hend
   case hfr=>
    intro ρ;simp only[putAll,Act.put,zsA,zsB,zsC,Nat.zero_add,Nat.reduceAdd];exact rfl
   case hI=>
    intro ρ;exact(by rw[if_neg (by simp)];exact(by apply_rules[uUe,uUa,uUb,uUc,uUd]))
   case hob=>
    refine ObsG.cons (fun ρ L W hR hI hL hD hO hF K hK=>?_) ?_
    ·skip
     clear hF hO;simp only[Act.put,zsA,zsB,zsC] at hK ⊢;go_simp;refine hK _ _ trivial (by simpa [updB,upd] using hI) (fun W2 h2=>?_);rfl
    refine ObsG.cons (fun ρ L W hR hI hL hD hO hF K hK=>?_) ?_
    ·skip
     have f0:=allF_get hF (j:=0) (by decide);clear hF hO;simp only[Act.put,zsA,zsB,zsC] at hK ⊢;have e0:ρ 0=.pointer (some ⟨fb,0,none⟩):=f0;rw[e0] at hK ⊢;go_simp;refine hK _ _ trivial (by simpa [updB,upd] using hI) (fun W2 h2=>?_);rfl
    refine ObsG.cons (fun ρ L W hR hI hL hD hO hF K hK=>?_) ?_
    ·skip
     have f1:=allF_get hF (j:=1) (by decide);clear hF hO;simp only[Act.put,zsA,zsB,zsC] at hK ⊢;have e1:ρ 1=.pointer (some ⟨fb,0,none⟩):=f1;rw[e1] at hK ⊢;go_simp;refine hK _ _ trivial (by simpa [updB,upd] using hI) (fun W2 h2=>?_);rfl
    refine ObsG.cons (fun ρ L W hR hI hL hD hO hF K hK=>?_) ?_
    ·skip
     have f2:=allF_get hF (j:=2) (by decide);have h8:L 8=false:=hD.not (p:=8) rfl (by decide) hL;clear hF hO;simp only[Act.put,zsA,zsB,zsC] at hK ⊢;have e2:ρ 2=.pointer (some ⟨fb,0,none⟩):=f2;rw[e2] at hK ⊢;have hI5:Und W10 W:=by simpa [h8] using hI
     have hb:=(hI5.below.block fb (lt_of_heap HFX.out)).trans HFX.out;haveI:LtW fb W:=LtW.of (lt_of_heap hb);have d:=zcH hb 0;simp only[List.getElem?_toArray,List.getElem?_cons_zero,List.getElem?_cons_succ] at d;go_simp;refine hK _ _ trivial (by simpa [updB,upd] using hI) (fun W2 h2=>?_);rfl
    refine ObsG.cons (fun ρ L W hR hI hL hD hO hF K hK=>?_) ?_
    ·skip
     clear hF hO;simp only[Act.put,zsA,zsB,zsC] at hK ⊢;go_simp;refine hK _ _ trivial (by simpa [updB,upd] using hI) (fun W2 h2=>?_);rfl
    refine ObsG.cons (fun ρ L W hR hI hL hD hO hF K hK=>?_) ?_
    ·skip
     have f4:=allF_get hF (j:=4) (by decide);have h8:L 8=false:=hD.not (p:=8) rfl (by decide) hL;clear hF hO;simp only[Act.put,zsA,zsB,zsC] at hK ⊢;have e4:ρ 4=.pointer (some ⟨b,0,none⟩):=f4;rw[e4] at hK ⊢;have hI5:Und W10 W:=by simpa [h8] using hI
     have hb:=(hI5.below.block b (lt_of_heap HBX.out)).trans HBX.out;haveI:LtW b W:=LtW.of (lt_of_heap hb);have d:=zcH hb 0;simp only[List.getElem?_toArray,List.getElem?_cons_zero,List.getElem?_cons_succ] at d;go_simp;refine hK _ _ trivial (by simpa [updB,upd] using hI) (fun W2 h2=>?_);rfl
    refine ObsG.cons (fun ρ L W hR hI hL hD hO hF K hK=>?_) ?_
    ·skip
     clear hF hO;simp only[Act.put,zsA,zsB,zsC] at hK ⊢;go_simp;refine hK _ _ trivial (by simpa [updB,upd] using hI) (fun W2 h2=>?_);rfl
    refine ObsG.cons (fun ρ L W hR hI hL hD hO hF K hK=>?_) ?_
    ·skip
     have f6:=allF_get hF (j:=6) (by decide);have h8:L 8=false:=hD.not (p:=8) rfl (by decide) hL;clear hF hO;simp only[Act.put,zsA,zsB,zsC] at hK ⊢;have e6:ρ 6=.pointer (some ⟨b,10,none⟩):=f6;rw[e6] at hK ⊢;have hI5:Und W10 W:=by simpa [h8] using hI
     have hb:=(hI5.below.block b (lt_of_heap HBX.out)).trans HBX.out;haveI:LtW b W:=LtW.of (lt_of_heap hb);have d:=zcH hb 10;simp only[List.getElem?_toArray,List.getElem?_cons_zero,List.getElem?_cons_succ] at d;go_simp;refine hK _ _ trivial (by simpa [updB,upd] using hI) (fun W2 h2=>?_);rfl
    refine ObsG.cons (fun ρ L W hR hI hL hD hO hF K hK=>?_) ?_
    ·skip
     have f3:=allF_get hF (j:=3) (by decide);have f5:=allF_get hF (j:=5) (by decide);have f7:=allF_get hF (j:=7) (by decide);clear hF hO;simp only[Act.put,zsA,zsB,zsC] at hK ⊢;have e3:ρ 3=.pointer (some ⟨ib,0,none⟩):=f3;have e5:ρ 5=.int .i64 0:=f5;have e7:ρ 7=.slice TA nt ct:=f7;rw[e3,e5,e7] at hK ⊢;have hI5:Und W10 W:=by simpa [hL] using hI
     refine step_callF3 (o:=⟨some 91,_,_,_,_,_⟩) rfl 34 #[.pointer (some ⟨ib,0,none⟩),.int .i64 0,.slice TA nt ct] _ (HADD.out W hI5) ?_ ?_
     ·go_simp
     rintro e W2 ⟨rfl,hix,hgs⟩;refine⟨_,rfl,hK _ _ trivial ?_ (fun W4 h4=>trivial)⟩;rw[if_pos (by simp[updB])];exact⟨(GS.of_und hI5).trans hgs,_,hix⟩
    exact ObsG.nil
   case hend=>
    intro ρ L W hR hI hL hF;rw[if_pos (hL 8 (by decide))] at hI;obtain⟨hgs,B9,hix⟩:=hI
    have HFIN:=hid (show (∃ B',FinderOne W B' fb ib m0 m1 m2 n (St.tokL f))/\Und w0 W from by
     have hm:∀ x ∈ [m0,m1,m2],IsMap W10 x:=fun x hx=>by
      obtain⟨_,x3,x4,x5,_⟩:=HXX.out;simp only[List.mem_cons,List.not_mem_nil,or_false] at hx;rcases hx with rfl|rfl|rfl
      ·exact x3.isMap
      ·exact x4.isMap
      ·exact x5.isMap
     have hfm:fb ∉ [m0,m1,m2]:=fun e=>by
      obtain⟨x,y,h⟩:=hm _ e;rw[HFX.out] at h;cases h
     refine⟨⟨B9,g,c8,key,A1,A2,TA,c1,c2,ct,(hgs.block fb (lt_of_heap HFX.out) hfm).trans HFX.out,fun j u hj=>hgs.cellm hm (HGC.out j u ?_),Nat.lt_of_lt_of_le HGS.out hgs.size,hgs.items hm HTX.out,hix⟩,GS.base HUX.out hgs fun x hx=>?_⟩
     ·rw[HNT.out] at hj;exact hj
     ·obtain⟨_,_,_,_,_,x3,x4,x5⟩:=HXX.out
      simp only[List.mem_cons,List.not_mem_nil,or_false] at hx
      rcases hx with rfl|rfl|rfl <;> assumption)
    clear hgs hix hR hL hF;go_wp2;go_ret;exact⟨rfl,HFIN.out⟩
end Go.Proofs.YtcfhfdphoidaeaaGreatDoor
