/- The walk of the law that the repetition analysis shows what a finder shows. -/
import Derived.Test.YtcfhfdphoidaeaaGreatDoorFnKn
import Derived.Test.YtcfhfdphoidaeaaGreatDoorGL
set_option linter.unusedVariables false
set_option linter.unusedSimpArgs false
set_option linter.all false
namespace Go.Proofs.YtcfhfdphoidaeaaGreatDoor
open Go.RowKit
set_option maxRecDepth 20000
set_option maxHeartbeats 25600000
def MadeF(w:World)(e:Ending)(w':World):Prop:=∃ Q k f,e=.returned (.slice Q f.length k)/\ItemsAt w' Q f/\St.Fr.FragOk f/\f.length<=k/\k<=9223372036854775807/\Und w w'
theorem frag_made(A:Option Addr)(n c:Nat)(zs:List Int)(W:World)(hz:zs.length=n)(hn:n<=9223372036854775807)(hI:IntsAt W A zs) :
  Calls Tryz.prog 5 #[.pointer (some ⟨W.heap.size,0,none⟩),.int .i64 5,.bool true,.bool true] (W.alloc (.cells #[.slice A n c,.int .i64 0] 28)) (MadeF W):=by
 refine(fragn_gen (W.heap.size+1) W.heap.size 0 5 _ (GenP.fresh hn hz hI) (by omega) (by omega)).mono ?_;rintro e w2 ⟨v,f,cc,rfl,ho,hgt,hfl,hft,hcn,hG2,hk⟩;obtain⟨A2,c2,rfl,h1,h2,h3⟩:=own_slice' ho;have hu:Und W w2:=((Und.refl W).alloc _).of_gb hk (fun g e=>by cases e;exact Nat.le_refl _);exact⟨A2,c2,f,rfl,items_own ho rfl,St.Fr.frag_ok hgt (by omega) (by omega) (Nat.le_trans hft (by omega)),h1,by unfold maxLen at h2;omega,hu⟩
theorem find_two(p:Nat)(w:World)(e:Ending)(w':World)(h:FdEnd p w e w'):Und w w'/\∃ X nx,e=.returned (.tuple #[.slice X nx nx,.int .i64 0])/\((p=0/\nx=0)∨(1<=p/\nx=1/\∃ g,X=some ⟨g,0,none⟩/\w'.cell? ⟨g,4,none⟩=some (.int .i64 (p:Int)))):=by
 obtain⟨hu,⟨h0,X,he⟩|⟨h1,g,he,hc⟩⟩:=h
 ·exact⟨hu,X,0,he,.inl ⟨h0,rfl⟩⟩
 ·exact⟨hu,_,1,he,.inr ⟨h1,rfl,g,rfl,hc⟩⟩
theorem hu6x{w w':World}{p nx:Nat}{X:Option Addr}(u:Und w w')(h:(p=0/\nx=0)∨(1<=p/\nx=1/\∃ g,X=some ⟨g,0,none⟩/\w.cell? ⟨g,4,none⟩=some (.int .i64 (p:Int)))):(p=0/\nx=0)∨(1<=p/\nx=1/\∃ g,X=some ⟨g,0,none⟩/\w'.cell? ⟨g,4,none⟩=some (.int .i64 (p:Int))):=by
 rcases h with h|⟨h1,h2,g,h3,h4⟩
 ·exact .inl h
 ·exact .inr ⟨h1,h2,g,h3,(u.cell (p:=⟨g,4,none⟩) (lt_of_cell h4)).trans h4⟩
theorem topsim_any(A B:Option Addr)(n c m d:Nat)(zs ys:List Int)(w:World)(hL:Mk.LibAt w)(hz:zs.length=n)(hn:n<=9223372036854775807)(hI:IntsAt w A zs)(hy:ys.length=m)(hm:m<=9223372036854775807)(hJ:IntsAt w B ys) :
  Calls Tryz.prog 3 #[.slice A n c,.slice B m d] w fun e w'=>e=.returned (.bool true)/\Und w w':=by
 have HLB:=hid hL;have HKN:=hid (fun W (hW:Und w W)=>known_any W (HLB.out.und hW));have HFA:=hid (fun W (hW:Und w W)=>frag_made A n c zs W hz hn (hI.und hW));have HFB:=hid (fun W (hW:Und w W)=>frag_made B m d ys W hy hm (hJ.und hW));clear hL hI hz hJ hy
 by_cases bad:100<n∨100<m
 ·have bad2:(100:Int)<(n:Int)∨(¬ (100:Int)<(n:Int)/\(100:Int)<(m:Int)):=by omega
  clear bad;rcases bad2 with z1|⟨z1,z2⟩
  all_goals
   go_enter Tryz.func3,Tryz.ntmps3;go_wp2_with fail;refine(HKN.out _ (Und.refl _)).mono ?_;rintro e w2 ⟨rfl,hu⟩;have HU:=hid hu;clear hu;go_wp2;go_ret;exact⟨rfl,HU.out⟩
 have z1:¬ (100:Int)<(n:Int):=by omega
 have z2:¬ (100:Int)<(m:Int):=by omega
 clear bad;go_enter Tryz.func3,Tryz.ntmps3;go_wp2_with fail;refine(HFA.out _ (Und.refl _)).mono ?_;rintro e w1 ⟨QA,ka,fa,rfl,hQA,hfa,ha1,ha2,hu1⟩;have HU1:=hid hu1;have HQA:=hid (fun W (u:Und w1 W)=>hQA.und u);clear hQA hu1 HFA;go_wp2_with fail;refine(HFB.out _ HU1.out).mono ?_;rintro e w2 ⟨QB,kb,fb,rfl,hQB,hfb,hb1,hb2,hu2⟩;have HU2:=hid (HU1.out.trans hu2);have HQA2:=hid (fun W (u:Und w2 W)=>HQA.out W (hu2.trans u));have HQB2:=hid (fun W (u:Und w2 W)=>hQB.und u);clear hQB hu2 HFB HQA;have hla:=hfa.len;have hlb:=hfb.len;have HTA:=hid (show tot fa<=700 from hfa.txt);have HTB:=hid (show tot fb<=700 from hfb.txt);have HCA:=hid (fun W (u:Und w2 W)=>canon_any QA QA fa.length ka ka fa W rfl (HQA2.out W u) (HQA2.out W u) (by omega) (Nat.le_trans HTA.out (by omega)));rw[hfa.renum] at HCA;have HPT:=hid (fun fo ib m0 m1 m2 A1 A2 c1 c2 w0 W h0 hc hc63 hd hd63 hA hB hu0 hfo hfl hix=>put_any fo ib m0 m1 m2 A1 A2 fa.length c1 c2 fa w0 W rfl h0 hfa hc hc63 hd hd63 hA hB hu0 hfo hfl hix)
 have HFD:=hid (fun B fo ib m0 m1 m2 h0 W hx (u:Und w2 W)=>find_any B fo ib m0 m1 m2 fa.length (St.tokL fa) QB fb.length kb fb W hx rfl h0 hfb hb1 hb2 (HQB2.out W u)
  (by have h1:(St.tokL fa).length<=fa.length+tot fa:=St.tokL_len fa;have:=HTA.out;omega) (by have:=tokL_tot fa;have:=HTA.out;omega) (St.tokL_word fa))
 have HSM:=hid (fun g W (u:Und w2 W) h0 h1=>similar_any g QA QB fa.length ka fb.length kb fa fb W rfl rfl hfa hfb ha1 ha2 hb1 hb2 (HQA2.out W u) (HQB2.out W u) h0 h1);have HK1:=hid (fun W (u:Und w2 W)=>tokens_any QA fa.length ka fa W rfl (HQA2.out W u) (by omega) (Nat.le_trans HTA.out (by omega)));have HK2:=hid (fun W (u:Und w2 W)=>tokens_any QB fb.length kb fb W rfl (HQB2.out W u) (by omega) (Nat.le_trans HTB.out (by omega)));have hnta:(St.tokL fa).length<=fa.length+tot fa:=St.tokL_len fa;have hntb:(St.tokL fb).length<=fb.length+tot fb:=St.tokL_len fb;have htta:=tokL_tot fa;have httb:=tokL_tot fb;have htas:=HTA.out;have htbs:=HTB.out;have hka8:(St.tokL fa).length<=800:=by omega
 have hkb8:(St.tokL fb).length<=800:=by omega
 have HPR:=hid (fun TA ca TB cb W (h1:ItemsAt W TA (St.tokL fa)) (h2:ItemsAt W TB (St.tokL fb))=>percent_any TA (St.tokL fa).length ca (St.tokL fa) TB (St.tokL fb).length cb (St.tokL fb) W rfl rfl h1 h2 (by omega) (by omega) (by omega) (by omega));clear hnta hntb htta httb htas htbs hfa hfb HQA2 HQB2;obtain⟨la,hla2⟩:∃ la,St.tokL fa=la:=⟨_,rfl⟩;obtain⟨lb,hlb2⟩:∃ lb,St.tokL fb=lb:=⟨_,rfl⟩;rw[hla2] at HPT HFD HSM HK1 HPR hka8;rw[hlb2] at HFD HSM HK2 HPR hkb8;obtain⟨p,hp⟩:∃ p,St.percentL la lb=p:=⟨_,rfl⟩;rw[hp] at HFD HSM HPR;have hp100:=percent_le la lb;rw[hp] at hp100;generalize hna:fa.length=na at *;generalize hnb:fb.length=nb at *;obtain⟨ta,hta⟩:∃ ta,la.length=ta:=⟨_,rfl⟩;obtain⟨tb,htb⟩:∃ tb,lb.length=tb:=⟨_,rfl⟩;have HTA2:=hid hta;have HTB2:=hid htb;rw[hta] at HK1 HPR hka8;rw[htb] at HK2 HPR hkb8;clear hla2 hlb2 hp hna hnb hta htb HTA HTB
 by_cases hnil:na=0∨nb=0
 ·have bad2:(na:Int)=0∨(¬ (na:Int)=0/\(nb:Int)=0):=by omega
  clear hnil;rcases bad2 with y1|⟨y1,y2⟩
  all_goals
   go_wp2_with fail;refine(HKN.out _ HU2.out).mono ?_;rintro e w3 ⟨rfl,hu⟩;have HU:=hid (HU2.out.trans hu);clear hu;go_wp2;go_ret;exact⟨rfl,HU.out⟩
 have y1:((na:Int)==0)=false:=by simp;omega
 have y2:((nb:Int)==0)=false:=by simp;omega
 have na0:0<na:=by omega
 have nb0:0<nb:=by omega
 clear hnil;go_wp2_with fail;refine(HCA.out _ (Und.refl _)).mono ?_;rintro e w3 ⟨A1,c1,A2,c2,rfl,hI1,hI2,k1,k2,k3,k4,hu3⟩;have HU3:=hid hu3;have HI1:=hid hI1;have HI2:=hid hI2;clear hI1 hI2 hu3 HCA;go_wp2_with fail;refine(mnew_any _).mono ?_;rintro e w4 ⟨fo,ib,m0,m1,m2,rfl,hfo,hfl,hix,hu4⟩;have HU4:=hid hu4;have HP4:=hid (HPT.out fo ib m0 m1 m2 A1 A2 c1 c2 w3 w4 na0 k1 k2 k3 k4 (HI1.out.und hu4) (HI2.out.und hu4) hu4 hfo hfl hix);clear hfo hfl hix hu4 HPT;go_wp2_with fail;refine HP4.out.mono ?_;rintro e w5 ⟨rfl,⟨B5,hx5⟩,hu5⟩;have HU5:=hid (HU3.out.trans hu5);have HF5:=hid (HFD.out B5 fo ib m0 m1 m2 nb0 w5 hx5 HU5.out);clear hx5 hu5 HFD HP4;go_wp2_with fail;refine HF5.out.mono ?_;intro e w6 hfd;obtain⟨hu6,X,nx,rfl,hx6⟩:=find_two _ _ _ _ hfd;have HU6:=hid (HU5.out.trans hu6);have HX6:=hid hx6;clear hfd hu6 hx6 HF5;go_wp2_with fail;have hb:=heap_alloc_new w6 (.cells #[.slice QA na ka,.slice QB nb kb] 24 (0,0));refine(HSM.out w6.heap.size _ (HU6.out.trans (by apply_rules[uUe,uUa,uUb,uUc,uUd])) ?_ ?_).mono ?_
 ·rw[zcH hb];rfl
 ·rw[zcH hb];rfl
 rintro e w7 ⟨hu7,gy,cy,rfl,y5,y6⟩;have HU67:=hid ((show Und w6 _ from(by apply_rules[uUe,uUa,uUb,uUc,uUd])).trans hu7);have HU7:=hid (HU6.out.trans HU67.out);have HY:=hid (fun W (u:Und w7 W)=>And.intro ((u.cell (p:=⟨gy,5,none⟩) (lt_of_cell y5)).trans y5) ((u.cell (p:=⟨gy,6,none⟩) (lt_of_cell y6)).trans y6));clear hb hu7 y5 y6 HSM;go_wp2_with fail;refine(HK1.out w7 HU7.out).mono ?_;rintro e w8 ⟨v8,rfl,ho8,hu8⟩;obtain⟨T8,c8,rfl,_⟩:=own_slice ho8;have HU78:=hid hu8;have HI8:=hid (fun W (u:Und w8 W)=>(items_ownE ho8 HTA2.out).und u);clear ho8 hu8 HK1;go_wp2_with fail;refine(HK2.out w8 (HU7.out.trans HU78.out)).mono ?_;rintro e w9 ⟨v9,rfl,ho9,hu9⟩;obtain⟨T9,c9,rfl,_⟩:=own_slice ho9;have HU79:=hid (HU78.out.trans hu9);have HI9:=hid (items_ownE ho9 HTB2.out);have HI89:=hid (HI8.out w9 hu9);clear ho9 hu9 HK2 HI8;go_wp2_with fail;refine(HPR.out T8 c8 T9 c9 w9 HI89.out HI9.out).mono ?_;rintro e w10 ⟨rfl,hu10⟩;have HU710:=hid (HU79.out.trans hu10);have HU10:=hid (HU2.out.trans (HU7.out.trans HU710.out));obtain⟨y5,y6⟩:=HY.out w10 HU710.out;haveI:LtW gy w10:=LtW.of (lt_of_cell y5);have HX10:=hid (hu6x (HU67.out.trans HU710.out) HX6.out);clear hu10 HPR HI89 HI9 HY HU78 HU79
 by_cases hp0:p=0
 ·subst hp0
  have hnx:nx=0:=by
   rcases HX10.out with ⟨_,h⟩|⟨h,_⟩
   ·exact h
   ·omega
  subst hnx;rw[if_pos rfl] at y5;go_wp2_with fail;refine(HKN.out _ HU10.out).mono ?_;rintro e w11 ⟨rfl,hu⟩;have HU:=hid (HU10.out.trans hu);clear hu y5 y6;go_wp2;go_ret;exact⟨rfl,HU.out⟩
 ·rw[if_neg hp0] at y5
  obtain⟨hnx,gx,hX,hc⟩:nx=1/\∃ g,X=some ⟨g,0,none⟩/\w10.cell? ⟨g,4,none⟩=some (.int .i64 (p:Int)):=by
   rcases HX10.out with ⟨h,_⟩|⟨_,h⟩
   ·exact absurd h hp0
   ·exact h
  subst hnx;subst hX;haveI:LtW gx w10:=LtW.of (lt_of_cell hc);have z3:¬ (p:Int)=0:=by omega
  go_wp2_with fail;refine(HKN.out _ HU10.out).mono ?_;rintro e w11 ⟨rfl,hu⟩;have HU:=hid (HU10.out.trans hu);clear hu y5 y6 hc;go_wp2;go_ret;exact⟨rfl,HU.out⟩
end Go.Proofs.YtcfhfdphoidaeaaGreatDoor
