/- The law DocumentContents: walk. Conditions: the library's tables lie at their places; the. -/
import Derived.Test.YthoemdibbldndaaGreatDoorDocLi
import Derived.Test.YthoemdibbldndaaGreatDoorDocLn
import Derived.Test.YthoemdibbldndaaGreatDoorGM
import Derived.Test.YthoemdibbldndaaGreatDoorDocCo
import Derived.Deep.CutRange
set_option linter.unusedVariables false
set_option linter.unusedSimpArgs false
set_option maxHeartbeats 12800000
set_option maxRecDepth 20000
namespace Go.Proofs.YthoemdibbldndaaGreatDoor
open Go.RowKit
def unitV(ps:List St.Pt)(k:Int):Nat:=if (unitsL ps).length=0 then 0 else ((unitsL ps)[(k % ((unitsL ps).length:Int)).toNat]?).getD 0
theorem unit10_any(fmt:Int)(A:Option Addr)(n c:Nat)(ps:List St.Pt)(k:Int)(w:World)(hn:ps.length=n)(h:PartsAt w A ps)(hl:n<=4000000000000) :
  Calls Tryz.prog 25 #[.agg #[.int .i64 fmt,.slice A n c],.int .i64 k] w fun e w'=>e=.returned (.int .i64 (unitV ps k:Nat))/\Und w w':=by
 have hul:(unitsL ps).length<=n:=by rw[<- hn];exact units_len ps ps.length
 have hru:=hid (fun W (hW:Und w W)=>runits_any fmt A n c ps W hn (h.und hW) hl);obtain⟨us,hus⟩:∃ us,us=unitsL ps:=⟨_,rfl⟩;have hvd:unitV ps k=if us.length=0 then 0 else (us[(k % (us.length:Int)).toNat]?).getD 0:=by rw[hus];rfl
 unfold UnEnd at hru;rw[<- hus] at hul hru;clear h hn hus;obtain⟨m,hm⟩:∃ m,m=us.length:=⟨_,rfl⟩;have HM:=hid hm;rw[<- hm] at hul hru hvd;rw[hvd]
 by_cases h0:m=0
 ·subst h0
  rw[if_pos rfl];clear hvd hm;go_enter Tryz.func25,Tryz.ntmps25;go_wp2_with fail;refine(hru.out _ (by apply_rules[uUe,uUa,uUb,uUc,uUd])).mono ?_;rintro e w2 ⟨A2,c2,rfl,hN,h1,h2,hu⟩;have HU:=hid (Und.trans ((by apply_rules[uUe,uUa,uUb,uUc,uUd]):Und w (w.alloc (.cells #[.int .i64 fmt,.slice A n c] 25))) hu);clear hu hN;go_wp2;go_ret;exact⟨rfl,HU.out⟩
 ·rw[if_neg h0]
  have a1:=Int.emod_nonneg k (show (m:Int) ≠ 0 by omega);have b1:=Int.emod_lt_of_pos k (show (0:Int)<(m:Int) by omega);have hpl:=hid (fun W=>place_any k (m:Int) W (by omega) (by omega));generalize k % (m:Int)=p at a1 b1 hpl hvd ⊢;obtain⟨j,rfl⟩:∃ j:Nat,p=j:=⟨p.toNat,by omega⟩;have hj:j<us.length:=by rw[<- HM.out];omega
  rw[Int.toNat_natCast,List.getElem?_eq_getElem hj,Option.getD_some];have z0:(m==0)=false:=by simp;omega
  have z0':((m:Int)==0)=false:=by simp;omega
  have y1:(j:Int)<(m:Int):=by omega
  have y0:(0:Int)<=(j:Int):=by omega
  clear hvd hm;go_enter Tryz.func25,Tryz.ntmps25;go_wp2_with fail;refine(hru.out _ (by apply_rules[uUe,uUa,uUb,uUc,uUd])).mono ?_;rintro e w2 ⟨A2,c2,rfl,hN,h1,h2,hu⟩;have HU:=hid (Und.trans ((by apply_rules[uUe,uUa,uUb,uUc,uUd]):Und w (w.alloc (.cells #[.int .i64 fmt,.slice A n c] 25))) hu);obtain⟨b,off,rfl,hb,hc⟩:=hN (by omega);have c0:=hc j hj;haveI:LtW b w2:=LtW.of hb;obtain⟨v,hv⟩:∃ v,v=us[j]:=⟨_,rfl⟩;rw[<- hv] at c0;have HJ:=hid hv;clear hv;clear hu hN hc hru;go_wp2_with fail;refine(hpl.out _).mono ?_;rintro e w3 ⟨rfl,rfl⟩;go_wp2;go_ret;exact⟨ret_int (congrArg (fun z:Nat=>(z:Int)) HJ.out),HU.out⟩
theorem ix4i(a b c d:Int)(W:World):(Instr.index 44 (.agg #[.int .i64 a,.int .i64 b,.int .i64 c,.int .i64 d]) (.int .i64 0)).run Tryz.prog W=.ok (.int .i64 a) W/\(Instr.index 44 (.agg #[.int .i64 a,.int .i64 b,.int .i64 c,.int .i64 d]) (.int .i64 1)).run Tryz.prog W=.ok (.int .i64 b) W /\
  (Instr.index 44 (.agg #[.int .i64 a,.int .i64 b,.int .i64 c,.int .i64 d]) (.int .i64 2)).run Tryz.prog W=.ok (.int .i64 c) W/\(Instr.index 44 (.agg #[.int .i64 a,.int .i64 b,.int .i64 c,.int .i64 d]) (.int .i64 3)).run Tryz.prog W=.ok (.int .i64 d) W:=
 ⟨by kernel_rfl,by kernel_rfl,by kernel_rfl,by kernel_rfl⟩
theorem lightRaw(ps:List St.Pt):(St.rawP ps).length<=lightN ps/\10*ps.length<=lightN ps:=by
 induction ps with
 | nil=>simp[St.rawP,lightN]
 | cons x ps ih=>
  have e1:St.rawP (x :: ps)=x.2.2++St.rawP ps:=rfl;have e2:lightN (x :: ps)=(10+x.2.1.length+x.2.2.length)+lightN ps:=by simp[lightN]
  rw[e1,e2,List.length_append,List.length_cons];omega
def CntRel(w:World)(i:Value)(wr:World):Prop:=∃ k:Nat,k<=4/\i=.int .i64 k/\Und w wr
theorem contents_any(fd:Int)(A B:Option Addr)(n c m d:Nat)(ds:List St.Pt)(zs:List Int)(at':Int)(w:World)(hL:Mk.LibAt w)(hn:ds.length=n)(h:PartsAt w A ds)(hs:lightN ds<=100000000)(hz:zs.length=m)(hm:m<=9223372036854775807)(hI:IntsAt w B zs) :
  Calls Tryz.prog 6 #[.agg #[.int .i64 fd,.slice A n c],.int .i64 at',.slice B m d] w fun e w'=>e=.returned (.bool true)/\Und w w':=by
 have HLB:=hid hL;have HKN:=hid (fun W (hW:Und w W)=>known10_any W (HLB.out.und hW));have HP:=hid h;have HMD:=hid (fun W (hW:Und w W)=>made10_any B m d zs W hz hm (hI.und hW));obtain⟨hr1,hr2⟩:=lightRaw ds;rw[hn] at hr2;have hli:=fun W (hW:Und w W)=>light_any fd A n c ds W hn (HP.out.und hW) (by omega) (by omega)
 have HN:=hid hn;clear hL h hI hn
 by_cases q0:lightN ds<=1000
 rotate_left 1
 ·rw[decide_eq_false q0] at hli
  have hli:=hid hli;go_enter Tryz.func6,Tryz.ntmps6;go_wp2_with fail;refine(hli.out _ (by apply_rules[uUe,uUa,uUb,uUc,uUd])).mono ?_;rintro e w1 ⟨rfl,hu1⟩;have HU1:=hid (Und.trans ((by apply_rules[uUe,uUa,uUb,uUc,uUd]):Und w (w.alloc (.cells #[.int .i64 fd,.slice A n c] 25))) hu1);clear hu1;go_wp2_with fail;refine(HKN.out _ HU1.out).mono ?_;rintro e w2 ⟨rfl,hu⟩;have HU:=hid (HU1.out.trans hu);clear hu;go_wp2;go_ret;exact⟨rfl,HU.out⟩
 rw[decide_eq_true q0] at hli;have hli:=hid hli
 by_cases q1:200<m
 ·have z1:(200:Int)<(m:Int):=by omega
  go_enter Tryz.func6,Tryz.ntmps6;go_wp2_with fail;refine(hli.out _ (by apply_rules[uUe,uUa,uUb,uUc,uUd])).mono ?_;rintro e w1 ⟨rfl,hu1⟩;have HU1:=hid (Und.trans ((by apply_rules[uUe,uUa,uUb,uUc,uUd]):Und w (w.alloc (.cells #[.int .i64 fd,.slice A n c] 25))) hu1);clear hu1;go_wp2_with fail;refine(HKN.out _ HU1.out).mono ?_;rintro e w2 ⟨rfl,hu⟩;have HU:=hid (HU1.out.trans hu);clear hu;go_wp2;go_ret;exact⟨rfl,HU.out⟩
 have z1:¬ (200:Int)<(m:Int):=by omega
 go_enter Tryz.func6,Tryz.ntmps6;go_wp2_with fail;refine(hli.out _ (by apply_rules[uUe,uUa,uUb,uUc,uUd])).mono ?_;rintro e w1 ⟨rfl,hu1⟩;have hb1:=(hu1.below.block w.heap.size (by simp)).trans (heap_alloc_new w (.cells #[.int .i64 fd,.slice A n c] 25));have HB1:=hid hb1;have HU1:=hid (Und.trans ((by apply_rules[uUe,uUa,uUb,uUc,uUd]):Und w (w.alloc (.cells #[.int .i64 fd,.slice A n c] 25))) hu1);clear hu1 hb1 hli;go_wp2_with fail;refine(HMD.out _ HU1.out).mono ?_;rintro e w2 ⟨fm,A2,c2,ps,rfl,hF,hP2,k1,k2,hu2⟩;have hrl:=hF.raw;have hpl:=hF.len;have hb2:=(hu2.below.block w.heap.size (lt_of_heap HB1.out)).trans HB1.out;have HU2:=hid (HU1.out.trans hu2);have HP2:=hid hP2;have hd0:w2.cell? ⟨w.heap.size,0,none⟩=some (.int .i64 fd):=by rw[zcH hb2];rfl
 have hd1:w2.cell? ⟨w.heap.size,1,none⟩=some (.slice A n c):=by rw[zcH hb2];rfl
 haveI:LtW w.heap.size w2:=LtW.of (lt_of_heap hb2);have hpl9:=fun W=>(place_any at' 9 W (by omega) (by omega)).mono (fun e w' (h:_/\W=w')=>(⟨h.1,h.2 ▸ Und.refl _⟩:_/\Und W w'))
 have hun1:=fun W (hW:Und w2 W)=>unit10_any fm A2 ps.length c2 ps at' W rfl (HP2.out.und hW) (by omega)
 have hun2:=fun W (hW:Und w2 W)=>unit10_any fd A n c ds at' W HN.out (HP.out.und (HU2.out.trans hW)) (by omega)
 obtain⟨pn,hpn⟩:∃ pn,pn=ps.length:=⟨_,rfl⟩;have HPN:=hid hpn;rw[<- hpn] at hpl k1 hun1 ⊢;generalize at' % 9=p9 at hpl9;generalize (unitV ps at':Int)=u1 at hun1;generalize (unitV ds at':Int)=u2 at hun2;have HP9:=hid hpl9;have HN1:=hid hun1;have HN2:=hid hun2;have HB2:=hid hb2;clear hu2 hb2 hP2 HMD hF HB1 hpl9 hun1 hun2 hpn;go_wp2_with fail;have hxb:=heap_alloc_new w2 (.cells #[.int .i64 fm,.slice A2 pn c2] 25);have hus:Und w2 (w2.alloc (.cells #[.int .i64 fm,.slice A2 pn c2] 25)):=(Und.refl _).alloc _;have hdb:=(hus.below.block w.heap.size (lt_of_heap HB2.out)).trans HB2.out;have HS:=hid hus;generalize w2.alloc (.cells #[.int .i64 fm,.slice A2 pn c2] 25)=ws at *;obtain⟨xd,hxd⟩:∃ xd,xd=w2.heap.size:=⟨_,rfl⟩;rw[<- hxd] at hxb ⊢;have HX:=hid hxb;have HD:=hid hdb;clear hus hxb hdb hxd;refine wp_region_facts (fun a b=>Und a b) (fun _ _=>True) [fun v _=>v=.int .i64 at',fun v _=>v=.int .i64 at',fun v _=>v=.int .i64 p9,fun v _=>v=.agg #[.int .i64 fm,.slice A2 pn c2],fun v _=>v=.int .i64 at',fun v _=>v=.int .i64 u1,fun v _=>v=.agg #[.int .i64 fd,.slice A n c],fun v _=>v=.int .i64 at',fun v _=>v=.int .i64 u2,fun v _=>v=.agg #[.int .i64 at',.int .i64 p9,.int .i64 u1,.int .i64 u2],fun v _=>v=.int .i64 0] Und.refl (fun a b c h k=>h.trans k) (by kernel_rfl) (by rfl) (by kernel_rfl) (by kernel_rfl) ?_ ?_ ?_ ?_ ?_;rotate_left 1
 ·skip
  intro ρ;simp only[putAll,Act.put,zsA,zsB,zsC,Nat.zero_add,Nat.reduceAdd];exact rfl
 ·trivial
 ·skip
  refine ObsF.cons (fun ρ L W hR hI hL hD hO hF K hK=>?_) ?_
  ·skip
   clear hF hD hO hI hL hR;simp only[Act.put,zsA,zsB,zsC] at hK ⊢;go_simp;refine hK _ _ (Und.refl W) trivial (fun W2 h2=>rfl)
  refine ObsF.cons (fun ρ L W hR hI hL hD hO hF K hK=>?_) ?_
  ·skip
   clear hF hD hO hI hL hR;simp only[Act.put,zsA,zsB,zsC] at hK ⊢;go_simp;refine hK _ _ (Und.refl W) trivial (fun W2 h2=>rfl)
  refine ObsF.cons (fun ρ L W hR hI hL hD hO hF K hK=>?_) ?_
  ·skip
   have f1:=allF_get hF (j:=1) (by decide);have hUW:=hid (HS.out.trans ((Und.refl ws).drew.trans hR));clear hF hD hO hI hL hR;simp only[Act.put,zsA,zsB,zsC] at hK ⊢;have e1:ρ 1=.int .i64 at':=f1;rw[e1] at hK ⊢;refine step_callX (o:=⟨some 31,_,_,_,_,_⟩) rfl 15 #[.int .i64 at',.int .i64 9] _ (HP9.out W) ?_ ?_
   ·go_simp;done
   rintro e w' ⟨rfl,hu⟩;exact⟨_,rfl,hK _ _ hu trivial (fun W2 h2=>rfl)⟩
  refine ObsF.cons (fun ρ L W hR hI hL hD hO hF K hK=>?_) ?_
  ·skip
   have hbk:=(hR.below.block xd (lt_of_heap HX.out)).trans HX.out;clear hF hD hO hI hL hR;simp only[Act.put,zsA,zsB,zsC] at hK ⊢;have d0:W.cell? ⟨xd,0,none⟩=some (.int .i64 fm):=by rw[zcH hbk];rfl
   have d1:W.cell? ⟨xd,1,none⟩=some (.slice A2 pn c2):=by rw[zcH hbk];rfl
   haveI:LtW xd W:=LtW.of (lt_of_heap hbk);go_simp;refine hK _ _ (Und.refl W) trivial (fun W2 h2=>rfl)
  refine ObsF.cons (fun ρ L W hR hI hL hD hO hF K hK=>?_) ?_
  ·skip
   clear hF hD hO hI hL hR;simp only[Act.put,zsA,zsB,zsC] at hK ⊢;go_simp;refine hK _ _ (Und.refl W) trivial (fun W2 h2=>rfl)
  refine ObsF.cons (fun ρ L W hR hI hL hD hO hF K hK=>?_) ?_
  ·skip
   have f3:=allF_get hF (j:=3) (by decide);have f4:=allF_get hF (j:=4) (by decide);have hUW:=hid (HS.out.trans ((Und.refl ws).drew.trans hR));clear hF hD hO hI hL hR;simp only[Act.put,zsA,zsB,zsC] at hK ⊢;have e3:ρ 3=.agg #[.int .i64 fm,.slice A2 pn c2]:=f3;have e4:ρ 4=.int .i64 at':=f4;rw[e3,e4] at hK ⊢;refine step_callX (o:=⟨some 34,_,_,_,_,_⟩) rfl 25 #[.agg #[.int .i64 fm,.slice A2 pn c2],.int .i64 at'] _ (HN1.out W hUW.out) ?_ ?_
   ·go_simp;done
   rintro e w' ⟨rfl,hu⟩;exact⟨_,rfl,hK _ _ hu trivial (fun W2 h2=>rfl)⟩
  refine ObsF.cons (fun ρ L W hR hI hL hD hO hF K hK=>?_) ?_
  ·skip
   have hbk:=(hR.below.block w.heap.size (lt_of_heap HD.out)).trans HD.out;clear hF hD hO hI hL hR;simp only[Act.put,zsA,zsB,zsC] at hK ⊢;have d0:W.cell? ⟨w.heap.size,0,none⟩=some (.int .i64 fd):=by rw[zcH hbk];rfl
   have d1:W.cell? ⟨w.heap.size,1,none⟩=some (.slice A n c):=by rw[zcH hbk];rfl
   haveI:LtW w.heap.size W:=LtW.of (lt_of_heap hbk);go_simp;refine hK _ _ (Und.refl W) trivial (fun W2 h2=>rfl)
  refine ObsF.cons (fun ρ L W hR hI hL hD hO hF K hK=>?_) ?_
  ·skip
   clear hF hD hO hI hL hR;simp only[Act.put,zsA,zsB,zsC] at hK ⊢;go_simp;refine hK _ _ (Und.refl W) trivial (fun W2 h2=>rfl)
  refine ObsF.cons (fun ρ L W hR hI hL hD hO hF K hK=>?_) ?_
  ·skip
   have f6:=allF_get hF (j:=6) (by decide);have f7:=allF_get hF (j:=7) (by decide);have hUW:=hid (HS.out.trans ((Und.refl ws).drew.trans hR));clear hF hD hO hI hL hR;simp only[Act.put,zsA,zsB,zsC] at hK ⊢;have e6:ρ 6=.agg #[.int .i64 fd,.slice A n c]:=f6;have e7:ρ 7=.int .i64 at':=f7;rw[e6,e7] at hK ⊢;refine step_callX (o:=⟨some 37,_,_,_,_,_⟩) rfl 25 #[.agg #[.int .i64 fd,.slice A n c],.int .i64 at'] _ (HN2.out W hUW.out) ?_ ?_
   ·go_simp;done
   rintro e w' ⟨rfl,hu⟩;exact⟨_,rfl,hK _ _ hu trivial (fun W2 h2=>rfl)⟩
  refine ObsF.cons (fun ρ L W hR hI hL hD hO hF K hK=>?_) ?_
  ·skip
   have f0:=allF_get hF (j:=0) (by decide);have f2:=allF_get hF (j:=2) (by decide);have f5:=allF_get hF (j:=5) (by decide);have f8:=allF_get hF (j:=8) (by decide);clear hF hD hO hI hL hR;simp only[Act.put,zsA,zsB,zsC] at hK ⊢;have e0:ρ 0=.int .i64 at':=f0;have e2:ρ 2=.int .i64 p9:=f2;have e5:ρ 5=.int .i64 u1:=f5;have e8:ρ 8=.int .i64 u2:=f8;rw[e0,e2,e5,e8] at hK ⊢;go_simp;refine hK _ _ (Und.refl W) trivial (fun W2 h2=>rfl)
  refine ObsF.cons (fun ρ L W hR hI hL hD hO hF K hK=>?_) ?_
  ·skip
   clear hF hD hO hI hL hR;simp only[Act.put,zsA,zsB,zsC] at hK ⊢;go_simp;refine hK _ _ (Und.refl W) trivial (fun W2 h2=>rfl)
  exact ObsF.nil
 ·skip
  intro ρ L W hR hI hL hF;obtain⟨e0,e1,e2,e3,e4,e5,e6,e7,e8,e9,e10,_⟩:=hF;have e0:ρ 0=.int .i64 at':=e0;have e1:ρ 1=.int .i64 at':=e1;have e2:ρ 2=.int .i64 p9:=e2;have e3:ρ 3=.agg #[.int .i64 fm,.slice A2 pn c2]:=e3;have e4:ρ 4=.int .i64 at':=e4;have e5:ρ 5=.int .i64 u1:=e5;have e6:ρ 6=.agg #[.int .i64 fd,.slice A n c]:=e6;have e7:ρ 7=.int .i64 at':=e7;have e8:ρ 8=.int .i64 u2:=e8;have e9:ρ 9=.agg #[.int .i64 at',.int .i64 p9,.int .i64 u1,.int .i64 u2]:=e9;have e10:ρ 10=.int .i64 0:=e10;have hUS:Und ws W:=(Und.refl ws).drew.trans hR;have HX3:=hid ((hUS.below.block xd (lt_of_heap HX.out)).trans HX.out);have HD3:=hid ((hUS.below.block w.heap.size (lt_of_heap HD.out)).trans HD.out);have HP3:=hid (HP2.out.und (HS.out.trans hUS));have HU3:=hid (HU2.out.trans (HS.out.trans hUS));clear hR hI hL hUS HX HD HP2 HS HN1 HN2 HP9;rw[e0,e1,e2,e3,e4,e5,e6,e7,e8,e9,e10];clear e0 e1 e2 e3 e4 e5 e6 e7 e8 e9 e10;go_wp2_with fail;go_loopw [39] (fun j wz=>CntRel W j wz) (fun j _=>5-(intOf j).toNat)
  case atStart=>exact⟨0,by omega,rfl,Und.refl _⟩
  case round=>
   obtain⟨j,hj,rfl,hu⟩:=hrel;have HUZ:=hid hu;clear hu;rcases(show j=4∨j<4 by omega) with h|h
   ·subst h
    go_wp2_with fail;refine(HKN.out _ (HU3.out.trans HUZ.out)).mono ?_;rintro e w5 ⟨rfl,hu5⟩;have HU5:=hid ((HU3.out.trans HUZ.out).trans hu5);clear hu5;go_wp2;go_ret;exact⟨rfl,HU5.out⟩
   ·obtain⟨kv,hix⟩:∃ kv:Int,(Instr.index 44 (.agg #[.int .i64 at',.int .i64 p9,.int .i64 u1,.int .i64 u2]) (.int .i64 (j:Int))).run Tryz.prog wr=.ok (.int .i64 kv) wr:=by
     obtain⟨j0,j1,j2,j3⟩:=ix4i at' p9 u1 u2 wr;rcases(show j=0∨j=1∨j=2∨j=3 by omega) with rfl|rfl|rfl|rfl
     ·exact⟨_,j0⟩
     ·exact⟨_,j1⟩
     ·exact⟨_,j2⟩
     ·exact⟨_,j3⟩
    have zj:(j:Int)<4:=by omega
    have hc1:=fun W' (hW:Und wr W')=>dcontent_all fd A n c ds kv W' HN.out (HP.out.und (HU3.out.trans (HUZ.out.trans hW))) (by omega) (by omega)
    have hc2:=fun W' (hW:Und wr W')=>rcontent_all fd A n c ds kv W' HN.out (HP.out.und (HU3.out.trans (HUZ.out.trans hW))) (by omega) (by omega)
    have hc3:=fun W' (hW:Und wr W')=>dcontent_all fm A2 pn c2 ps kv W' HPN.out.symm (HP3.out.und (HUZ.out.trans hW)) (by omega) (by omega)
    have hc4:=fun W' (hW:Und wr W')=>rcontent_all fm A2 pn c2 ps kv W' HPN.out.symm (HP3.out.und (HUZ.out.trans hW)) (by omega) (by omega)
    generalize CD fd ds kv=R1 at hc1 hc2;generalize CD fm ps kv=R2 at hc3 hc4;obtain⟨f1,cu1,t1,er1⟩:=R1;obtain⟨f2,cu2,t2,er2⟩:=R2;have HC1:=hid hc1;have HC2:=hid hc2;have HC3:=hid hc3;have HC4:=hid hc4;have HXR:=hid ((HUZ.out.below.block xd (lt_of_heap HX3.out)).trans HX3.out);have HDR:=hid ((HUZ.out.below.block w.heap.size (lt_of_heap HD3.out)).trans HD3.out);clear hc1 hc2 hc3 hc4 h;have d0:wr.cell? ⟨w.heap.size,0,none⟩=some (.int .i64 fd):=by rw[zcH HDR.out];rfl
    have d1:wr.cell? ⟨w.heap.size,1,none⟩=some (.slice A n c):=by rw[zcH HDR.out];rfl
    haveI:LtW w.heap.size wr:=LtW.of (lt_of_heap HDR.out);go_wp2_with fail;refine(HC1.out _ (Und.refl _)).mono ?_;rintro e w5 ⟨A5,c5,rfl,hI5,h51,h52,hu5⟩;have HI5:=hid hI5;have HU5:=hid hu5;have hb5:=(hu5.below.block w.heap.size (lt_of_heap HDR.out)).trans HDR.out;clear d0 d1 hI5 hu5 HC1 hix;have d0:w5.cell? ⟨w.heap.size,0,none⟩=some (.int .i64 fd):=by rw[zcH hb5];rfl
    have d1:w5.cell? ⟨w.heap.size,1,none⟩=some (.slice A n c):=by rw[zcH hb5];rfl
    haveI:LtW w.heap.size w5:=LtW.of (lt_of_heap hb5);clear hb5;go_wp2_with fail;refine(HC2.out _ HU5.out).mono ?_;rintro e w6 ⟨A6,c6,rfl,hI6,h61,h62,hu6⟩;have HI6:=hid hI6;have HI5':=hid (HI5.out.und hu6);have HU6:=hid (HU5.out.trans hu6);have hb6:=((HU5.out.trans hu6).below.block xd (lt_of_heap HXR.out)).trans HXR.out;clear d0 d1 hI6 hu6 HC2 HI5;have d0:w6.cell? ⟨xd,0,none⟩=some (.int .i64 fm):=by rw[zcH hb6];rfl
    have d1:w6.cell? ⟨xd,1,none⟩=some (.slice A2 pn c2):=by rw[zcH hb6];rfl
    haveI:LtW xd w6:=LtW.of (lt_of_heap hb6);clear hb6;go_wp2_with fail;refine(HC3.out _ HU6.out).mono ?_;rintro e w7 ⟨A7,c7,rfl,hI7,h71,h72,hu7⟩;have HI7:=hid hI7;have HI5:=hid (HI5'.out.und hu7);have HI6':=hid (HI6.out.und hu7);have HU7:=hid (HU6.out.trans hu7);have hb7:=((HU6.out.trans hu7).below.block xd (lt_of_heap HXR.out)).trans HXR.out;clear d0 d1 hI7 hu7 HC3 HI5' HI6;have d0:w7.cell? ⟨xd,0,none⟩=some (.int .i64 fm):=by rw[zcH hb7];rfl
    have d1:w7.cell? ⟨xd,1,none⟩=some (.slice A2 pn c2):=by rw[zcH hb7];rfl
    haveI:LtW xd w7:=LtW.of (lt_of_heap hb7);clear hb7;go_wp2_with fail;refine(HC4.out _ HU7.out).mono ?_;rintro e w8 ⟨A8,c8,rfl,hI8,h81,h82,hu8⟩;have hs1:=fun W' (hW:Und w8 W')=>rsame_any A5 A6 f1.length f1.length c5 c6 f1 f1 W' rfl rfl h51 h61 h52 h62 ((HI5.out.und hu8).und hW) ((HI6'.out.und hu8).und hW)
    have hs2:=fun W' (hW:Und w8 W')=>rsame_any A7 A8 f2.length f2.length c7 c8 f2 f2 W' rfl rfl h71 h81 h72 h82 ((HI7.out.und hu8).und hW) (hI8.und hW)
    rw[decide_eq_true rfl] at hs1 hs2;have HS1:=hid hs1;have HS2:=hid hs2;have HU8:=hid (HU7.out.trans hu8);have v1:(er1 != er1)=false:=by simp
    have v2:(er2 != er2)=false:=by simp
    clear d0 d1 hs1 hs2 hI8 hu8 HC4 HI5 HI6' HI7 HU7;go_wp2_with fail;refine(HS1.out _ (Und.refl _)).mono ?_;rintro e w9 ⟨rfl,hu9⟩;have HS3:=hid (HS2.out _ hu9);have HU9:=hid (HU8.out.trans hu9);clear hu9 HS1 HS2 HU8;go_wp2_with fail;refine HS3.out.mono ?_;rintro e w10 ⟨rfl,hu10⟩;have HU10:=hid (HUZ.out.trans (HU9.out.trans hu10));clear hu10 HS3 HU9;have HREL:=hid (show CntRel W (.int .i64 ((j:Int)+1)) w10 from⟨j+1,by omega,congrArg (Value.int .i64) (by omega),HU10.out⟩);go_wp2
    first|exact⟨HREL.out,by simp[intOf];omega⟩|(refine⟨?_,by simp[intOf];omega⟩;(repeat apply Exists.intro);exact⟨HREL.out,rfl⟩)
end Go.Proofs.YthoemdibbldndaaGreatDoor
