/- The contract of the reference's splitMarkup and Split at a markup: what it gives is mkT. -/
import Derived.Test.YthoemdibbldndaaGreatDoorRMk2
import Derived.Test.YthoemdibbldndaaGreatDoorRefUnit
set_option linter.unusedVariables false
set_option linter.unusedSimpArgs false
set_option maxHeartbeats 12800000
set_option maxRecDepth 20000
namespace Go.Proofs.YthoemdibbldndaaGreatDoor.Mk
open Go.RowKit
theorem rDecimal_any(n:Nat)(w:World)(hn:n<=4611686018427387904):Calls Tryz.prog 134 #[.int .i64 n] w fun e w'=>e=.returned (.string ⟨(Lib.decDigits n).toArray⟩)/\Und w w':=by
 have h0:¬ (n:Int)<0:=by omega
 go_enter Tryz.func134,Tryz.ntmps134;go_wp2_with (go_at_call 176;refine(decimal_any n _ hn).mono ?_;rintro e w' ⟨rfl,X,rfl⟩);go_ret;exact⟨rfl,(by apply_rules[uUe,uUa,uUb,uUc,uUd])⟩
def RmRel(w:World)(d:ByteArray)(s6 s7:Value)(wr:World):Prop:=
 ∃ (a r fuel:Nat) (s:St.PS),s6=.int .i64 a/\s7=.int .i64 r/\a<=d.size/\r<=a/\d.size-a<fuel/\s.2<=a/\s.1.length<=2*a/\RV wr w.heap.size w.heap.size d s/\mkT d=St.endM' d.data.toList (St.mkS dE Lib.decDigits d.data.toList fuel a r s)/\Und w wr
theorem find_no{s t:List UInt8}{a:Nat}{z:Int}(h:Lib.index (s.drop a) t=z)(hz:z<0):findI s t a=-1:=by unfold findI;rw[h,if_pos hz]
theorem find_at{s t:List UInt8}{a j:Nat}(h:Lib.index (s.drop a) t=(j:Int)):findI s t a=((a+j:Nat):Int):=by unfold findI;rw[h,if_neg (by omega)];omega
theorem rsplitMk_any(d:ByteArray)(w:World)(hd:d.size<=65536):Calls Tryz.prog 101 #[.string d] w (SplitEnd (mkT d) w):=by
 have hd63:d.size<=4611686018427387904:=by omega
 have hlen:=St.len_list d;have hR0:RV (w.alloc (.cells #[.string d,.slice none 0 0,.int .i64 0] 191)) w.heap.size w.heap.size d ([],0):=⟨Nat.le_refl _,.slice none 0 0,heap_alloc_new w _,World.ownsRow_nil _ _ _ _⟩
 have hS0:mkT d=St.endM' d.data.toList (St.mkS dE Lib.decDigits d.data.toList (d.size+1) 0 0 ([],0)):=by
  unfold mkT;rw[St.splitM_ok (by omega),hlen]
 have HE0:=hid (And.intro hR0 (And.intro hS0 ((Und.refl w).alloc (.cells #[.string d,.slice none 0 0,.int .i64 0] 191))));have HLEN:=hid hlen;clear hR0 hS0 hlen;go_enter Tryz.func101,Tryz.ntmps101;go_wp2_with fail;go_loopw [6,7] (fun s6 s7 wr=>RmRel w d s6 s7 wr) (fun s6 _ _=>d.size+1-(intOf s6).toNat)
 case atStart=>exact⟨0,0,d.size+1,([],0),rfl,rfl,by omega,by omega,by omega,by simp,by simp,HE0.out.1,HE0.out.2.1,HE0.out.2.2⟩
 case round=>
  obtain⟨a,r,fuel,s,rfl,rfl,ha,hra,hfu,hs2,hs1,hP,hS,hu⟩:=hrel;have HP:=hid hP;have HS:=hid hS;have HU:=hid hu;have hsz:=hu.size;clear hP hS hu HE0
  by_cases hlt:a<d.size
  rotate_left 1
  ·have hae:a=d.size:=by omega
   have HL:=hid (rend_any wr w.heap.size w.heap.size d s HP.out (by omega) (by omega) (by omega) hsz);have HR:=hid (HS.out.trans (show St.endM' d.data.toList (St.mkS dE Lib.decDigits d.data.toList fuel a r s)=(St.endS d.data.toList s,0,0) by rw[St.mkS_end (by rw[HLEN.out];omega)];rfl));have z:¬ (a:Int)<d.size:=by omega
   go_wp2_with fail;refine HL.out.mono ?_;rintro e w3 ⟨A,c,rfl,hpa,hq1,hq2,hbl⟩;have HE:=hid (And.intro hpa (Und.of_below (Below.trans HU.out.below hbl)));have hq1':=hid hq1;clear hpa hbl hq1 HL;go_wp2;go_ret3;unfold SplitEnd;rw[HR.out];exact⟨A,c,by simp[St.endS],HE.out.1,by simpa [St.endS] using hq1'.out,hq2,HE.out.2⟩
  obtain⟨fuel,rfl⟩:∃ m,fuel=m+1:=⟨fuel-1,by omega⟩;have HAL:=hid (show ¬ d.data.toList.length<=a by rw[HLEN.out];omega);have z:(a:Int)<d.size:=by omega
  have z2:(a:Int)<=d.size:=by omega
  have hcons:=St.drop_at d a hlt
  by_cases c60:d[a].toNat=60
  rotate_left 1
  ·have f60:((d[a].toNat:Int) != 60)=true:=by simp;omega
   have ho:St.outsM (d.data.toList.drop a)=some (1,[]):=St.outs_ne (by rw[hcons];simp;intro e;exact c60 (by rw[e];rfl));have HST:=hid (HS.out.trans (by rw[St.mkS_skip HAL.out ho]):mkT d=St.endM' d.data.toList (St.mkS dE Lib.decDigits d.data.toList fuel (a+1) r s));clear hcons c60 ho;go_wp2;exact⟨⟨a+1,r,fuel,s,congrArg (Value.int .i64) (by omega),rfl,by omega,by omega,by omega,by omega,by omega,HP.out,HST.out,HU.out⟩,by simp[intOf];omega⟩
  have f60:((d[a].toNat:Int) != 60)=false:=by simp;omega
  obtain⟨x,hx⟩:∃ x,d.extract a d.size=x:=⟨_,rfl⟩;have hxl:x.data.toList=d.data.toList.drop a:=by rw[<- hx,Lib.extract_data,List.take_of_length_le (by simp)]
  have hxs:x.size=d.size-a:=by rw[<- hx];simp
  have hhd:(d.data.toList.drop a).head?=some 60:=by rw[hcons];simp;exact UInt8.toNat_inj.1 c60
  have hbg:=fun W=>begins_any x ⟨#[60,33,45,45]⟩ W (by omega) (by show 4<=_;omega)
  have htg:=fun W=>rtag_any x W (by omega) (by omega)
  rw[hxl] at htg
  have herr:St.outsM (d.data.toList.drop a)=none->mkT d=([],a,2):=fun ho=>HS.out.trans (by rw[St.mkS_bad HAL.out ho];rfl)
  cases hp:preB ⟨#[60,33,45,45]⟩ x with
  | true=>
   rw[hp] at hbg;have hp':([60,33,45,45]:List UInt8).isPrefixOf (d.data.toList.drop a)=true:=by rw[<- hxl];exact hp
   have h4:a+4<=d.size:=by have:=(List.isPrefixOf_iff_prefix.1 hp').length_le;simp at this;omega
   have hR:=St.outs_com hp';rw[List.drop_drop] at hR;have hfd:=fun W=>rfind_any d ⟨#[45,45,62]⟩ (a+4) W (by decide) (by decide) h4 hd63
   have hq4:((a+4:Nat):Int)=(a:Int)+4:=by omega
   rw[show (⟨#[45,45,62]⟩:ByteArray).data.toList=[45,45,62] from rfl,hq4] at hfd;have hge:=Lib.index_ge (d.data.toList.drop (a+4)) [45,45,62];have HBG:=hid hbg;have hno:=St.comment_no hp';rw[hno] at htg
   by_cases hz:Lib.index (d.data.toList.drop (a+4)) [45,45,62]<0
   ·rw[if_pos hz] at hR
    rw[find_no rfl hz] at hfd;have HFD:=hid hfd;have HTG:=hid htg;have HR:=hid (herr hR);have HNM:=hid (fun W=>rname_u [] W (by simp));clear hbg htg herr hfd hR hz hge hno hp' hp hhd hcons c60 hxl;go_wp2_with fail;refine(HBG.out _).mono ?_;rintro e w2 ⟨rfl,rfl⟩;go_wp2_with fail;refine(HFD.out _).mono ?_;rintro e w3 ⟨rfl,rfl⟩;go_wp2_with fail;refine(HTG.out _).mono ?_;rintro e w4 ⟨rfl,hu4⟩;have HU4:=hid (HU.out.trans hu4);clear hu4 HTG;simp only[elV];go_wp2_with fail;refine(HNM.out _).mono ?_;rintro e w5 ⟨rfl,hu5⟩;have HU5:=hid ((HU4.out.alloc _).trans hu5);clear hu5 HNM;go_wp2;go_ret3;exact SplitEnd.err HR.out HU5.out _ rfl
   ·obtain⟨j,hj⟩:∃ j:Nat,Lib.index (d.data.toList.drop (a+4)) [45,45,62]=(j:Int):=⟨_,(Int.toNat_of_nonneg (by omega)).symm⟩
    have hrm:=St.index_room hj (by simp);simp at hrm;rw[hj,if_neg (by omega),Int.toNat_natCast] at hR;rw[find_at hj] at hfd;have HFD:=hid hfd;have HST:=hid (HS.out.trans (by rw[St.mkS_skip HAL.out hR]):mkT d=St.endM' d.data.toList (St.mkS dE Lib.decDigits d.data.toList fuel (a+(j+7)) r s));clear hbg htg herr hfd hR hz hge hno hp' hp hhd hcons c60 hxl hj;generalize hk:a+4+j=k at HFD;go_wp2_with fail;refine(HBG.out _).mono ?_;rintro e w2 ⟨rfl,rfl⟩;go_wp2_with fail;refine(HFD.out _).mono ?_;rintro e w3 ⟨rfl,rfl⟩;go_wp2;exact⟨⟨a+(j+7),r,fuel,s,congrArg (Value.int .i64) (by omega),rfl,by omega,by omega,by omega,by omega,by omega,HP.out,HST.out,HU.out⟩,by simp[intOf];omega⟩
  | false=>
   rw[hp] at hbg;have hp':([60,33,45,45]:List UInt8).isPrefixOf (d.data.toList.drop a)=false:=by rw[<- hxl];exact hp
   have hR:=St.outs_tag hhd hp';have HBG:=hid hbg;cases hq:St.tagL (d.data.toList.drop a) with
   | none=>
    rw[hq] at hR htg;have HTG:=hid htg;have HR:=hid (herr hR);have HNM:=hid (fun W=>rname_u [] W (by simp));clear hbg htg herr hR hp' hp hhd hcons c60 hxl hq;go_wp2_with fail;refine(HBG.out _).mono ?_;rintro e w2 ⟨rfl,rfl⟩;go_wp2_with fail;refine(HTG.out _).mono ?_;rintro e w4 ⟨rfl,hu4⟩;have HU4:=hid (HU.out.trans hu4);clear hu4 HTG;simp only[elV];go_wp2_with fail;refine(HNM.out _).mono ?_;rintro e w5 ⟨rfl,hu5⟩;have HU5:=hid ((HU4.out.alloc _).trans hu5);clear hu5 HNM;go_wp2;go_ret3;exact SplitEnd.err HR.out HU5.out _ rfl
   | some q=>
    obtain⟨k,t,n⟩:=q;obtain⟨hk,hn2,hnl,htl⟩:=St.tag_len hq;rw[hq] at hR htg;simp only at hR;obtain⟨tb,htb⟩:∃ tb:ByteArray,(⟨t.toArray⟩:ByteArray)=tb:=⟨_,rfl⟩;obtain⟨nb,hnb⟩:∃ nb:ByteArray,(⟨(St.nameOf t).toArray⟩:ByteArray)=nb:=⟨_,rfl⟩;have htl':t.length<=4611686018427387904:=by rw[List.length_drop,HLEN.out] at hnl;omega
    have hnm:=fun W=>rname_u t W htl'
    rw[htb,hnb] at hnm;have hnbl:nb.data.toList=St.nameOf t:=by rw[<- hnb]
    have hnbs:nb.size=(St.nameOf t).length:=by rw[<- hnb];show (St.nameOf t).toArray.size=_;simp
    have hbk:=fun W=>block_any nb W
    rw[hnbl] at hbk;have htg2:∀ W,Calls Tryz.prog 137 #[.string x] W fun e w'=>e=.returned (.tuple #[.agg #[.int .i64 k,.string ⟨t.toArray⟩,.int .i64 0],.int .i64 n])/\Und W w':=htg
    rw[htb] at htg2;have HTG:=hid htg2;have HNM:=hid hnm;have n0:((n:Int)==0)=false:=by simp;omega
    have hnl2:a+n<=d.size:=by rw[List.length_drop,HLEN.out] at hnl;omega
    cases hb:St.blockL (St.nameOf t) with
    | false=>
     rw[hb] at hR hbk;have HST:=hid (HS.out.trans (by rw[St.mkS_skip HAL.out hR]):mkT d=St.endM' d.data.toList (St.mkS dE Lib.decDigits d.data.toList fuel (a+n) r s));have HBK:=hid hbk;clear hbg htg htg2 herr hR hp' hp hhd hcons c60 hxl hq hbk hb hnm htb hnb hnbl hnbs hnl;go_wp2_with fail;refine(HBG.out _).mono ?_;rintro e w2 ⟨rfl,rfl⟩;go_wp2_with fail;refine(HTG.out _).mono ?_;rintro e w4 ⟨rfl,hu4⟩;have HU4:=hid (HU.out.trans hu4);have HP4:=hid (HP.out.und hu4);clear hu4 HTG;go_wp2_with fail;refine(HNM.out _).mono ?_;rintro e w5 ⟨rfl,hu5⟩;have HU5:=hid ((HU4.out.alloc _).trans hu5);have HP5:=hid (HP4.out.und (((Und.refl _).alloc _).trans hu5));clear hu5 HNM;go_wp2_with fail;refine(HBK.out _).mono ?_;rintro e w6 ⟨rfl,rfl⟩;go_wp2_with fail;refine(HBK.out _).mono ?_;rintro e w6 ⟨rfl,rfl⟩;go_wp2;exact⟨⟨a+n,r,fuel,s,congrArg (Value.int .i64) (by omega),rfl,by omega,by omega,by omega,by omega,by omega,HP5.out,HST.out,HU5.out⟩,by simp[intOf];omega⟩
    | true=>
     rw[hb] at hR hbk;have HBK:=hid hbk;have hbl5:=St.block_len hb;obtain⟨b,hbE⟩:∃ b,St.nameOf t=b:=⟨_,rfl⟩;rw[hbE] at hR hnbl hnbs hbl5;clear hbg htg htg2 hp' hp hhd hcons c60 hxl hq hbk hb hnm htb hnb hnl hbE
     by_cases hk2:k=2
     rotate_left 1
     ·have hkb:(k != 2)=true:=by simpa using hk2
      have HR:=hid (herr (by rw[hR,if_pos rfl,if_neg hk2]));clear herr hR hk hk2;go_wp2_with fail;refine(HBG.out _).mono ?_;rintro e w2 ⟨rfl,rfl⟩;go_wp2_with fail;refine(HTG.out _).mono ?_;rintro e w4 ⟨rfl,hu4⟩;have HU4:=hid (HU.out.trans hu4);clear hu4 HTG;go_wp2_with fail;refine(HNM.out _).mono ?_;rintro e w5 ⟨rfl,hu5⟩;have hbx:=(hu5.below.block w4.heap.size (by simp)).trans (heap_alloc_at w4 (.cells #[.int .i64 k,.string tb,.int .i64 0] 36) w4.heap.size rfl);have x0:w5.cell? ⟨w4.heap.size,0,none⟩=some (.int .i64 k):=zcH hbx 0;haveI:LtW w4.heap.size w5:=LtW.of (lt_of_heap hbx);have HU5:=hid ((HU4.out.alloc _).trans hu5);clear hu5 HNM hbx;go_wp2_with fail;refine(HBK.out _).mono ?_;rintro e w6 ⟨rfl,rfl⟩;go_wp2;go_ret3;exact SplitEnd.err HR.out HU5.out _ rfl
     ·subst hk2
      have ho:St.outsM (d.data.toList.drop a)=some (n,b):=by rw[hR,if_pos rfl,if_pos rfl]
      have hb0:b ≠ []:=hbl5.1;have hb5:=hbl5.2;clear herr hR hk hbl5;obtain⟨x2,hx2⟩:∃ x2,d.extract (a+n) d.size=x2:=⟨_,rfl⟩;have hx2l:x2.data.toList=d.data.toList.drop (a+n):=by rw[<- hx2,Lib.extract_data,List.take_of_length_le (by simp)]
      have hx2s:x2.size=d.size-(a+n):=by rw[<- hx2];simp
      obtain⟨eb,heb⟩:∃ eb:ByteArray,(⟨#[60,47]⟩:ByteArray)++nb++⟨#[62]⟩=eb:=⟨_,rfl⟩;have hebl:eb.data.toList=St.endM b:=by rw[<- heb,<- hnbl];have:=endB nb.data.toList;rwa [ba_eta] at this
      have hebs:eb.size=b.length+3:=by have:=congrArg List.length hebl;rw[St.len_list] at this;rw[this];simp[St.endM]
      have hfd:=fun W=>rfind_any d eb (a+n) W (by omega) (by omega) hnl2 hd63
      have hq1:((a+n:Nat):Int)=(a:Int)+n:=by omega
      rw[hebl,hq1] at hfd;have y1:((a:Int)+n)<=d.size:=by omega
      have y2:(0:Int)<=(a:Int)+n:=by omega
      have y3:¬ 9223372036854775807<2+nb.size:=by omega
      have y4:¬ 9223372036854775807<2+nb.size+1:=by omega
      have y5:((a:Int)+n).toNat=a+n:=by omega
      have hge:=Lib.index_ge (d.data.toList.drop (a+n)) (St.endM b)
      by_cases hz:Lib.index (d.data.toList.drop (a+n)) (St.endM b)<0
      ·have hN:=fun he=>St.mkS_open (dE:=dE) (dig:=Lib.decDigits) (fuel:=fuel) (r:=r) (s:=s) HAL.out ho hb0 hz he
       have hNE:=fun he=>St.mkS_openE (dE:=dE) (dig:=Lib.decDigits) (fuel:=fuel) (r:=r) (s:=s) HAL.out ho hb0 hz he
       rw[find_no rfl hz] at hfd;rw[<- hx2l,dE_of] at hN hNE;have hdc:=fun W=>rdecT_any 1 St.markL mark_at mark_okT x2 W (by omega)
       rw[show St.decT St.markL x2.size x2.data.toList 0 0 [] [] [] 0=mkD x2 from rfl] at hdc;have hat:=mkD_at x2;generalize mkD x2=R at hdc hat hN hNE;obtain⟨rf,rc,rw',re⟩:=R;simp only at hN hNE hat;have HDC:=hid hdc;have HN:=hid hN;have HNE:=hid hNE;have HFD:=hid hfd;clear hdc hN hNE hfd hge hz ho hb0 hx2l hebl hnbl;go_wp2_with fail;refine(HBG.out _).mono ?_;rintro e w2 ⟨rfl,rfl⟩;go_wp2_with fail;refine(HTG.out _).mono ?_;rintro e w4 ⟨rfl,hu4⟩;have HU4:=hid (HU.out.trans hu4);clear hu4 HTG;go_wp2_with fail;refine(HNM.out _).mono ?_;rintro e w5 ⟨rfl,hu5⟩;have hbx:=(hu5.below.block w4.heap.size (by simp)).trans (heap_alloc_at w4 (.cells #[.int .i64 2,.string tb,.int .i64 0] 36) w4.heap.size rfl);have x0:w5.cell? ⟨w4.heap.size,0,none⟩=some (.int .i64 2):=zcH hbx 0;haveI:LtW w4.heap.size w5:=LtW.of (lt_of_heap hbx);have HU5:=hid ((HU4.out.alloc _).trans hu5);clear hu5 HNM hbx;go_wp2_with fail;refine(HBK.out _).mono ?_;rintro e w6 ⟨rfl,rfl⟩;go_wp2_with fail;refine(HBK.out _).mono ?_;rintro e w6 ⟨rfl,rfl⟩;go_wp2_with fail;refine(HFD.out _).mono ?_;rintro e w7 ⟨rfl,rfl⟩;go_wp2_with fail;refine(HDC.out _).mono ?_;rintro e w8 ⟨v1,v2,rfl,_,_,hu8⟩;have HU8:=hid (HU5.out.trans hu8);clear hu8 HDC HFD HBK HBG;simp only
       by_cases hre:re=0
       ·subst hre
        have HR:=hid (HS.out.trans (by rw[HN.out rfl,HLEN.out];rfl):mkT d=([],d.size,2));clear HN HNE HS;go_wp2;go_ret3;exact SplitEnd.err HR.out HU8.out _ rfl
       ·have hrb:(re==0)=false:=by simpa using hre
        have hrb2:(re != 0)=true:=by simpa using hre
        have HR:=hid (HS.out.trans (by rw[HNE.out hre];rfl):mkT d=([],a+n+rw',re));clear HN HNE HS;go_wp2;go_ret3;exact SplitEnd.err HR.out HU8.out _ (by omega)
      ·obtain⟨j,hj⟩:∃ j:Nat,Lib.index (d.data.toList.drop (a+n)) (St.endM b)=(j:Int):=⟨_,(Int.toNat_of_nonneg (by omega)).symm⟩
       have hrm:=St.index_room hj (by simp[St.endM]);have hel:(St.endM b).length=b.length+3:=by simp[St.endM]
       rw[List.length_drop,HLEN.out,hel] at hrm;have hE:=fun he=>St.mkS_err (dE:=dE) (dig:=Lib.decDigits) (fuel:=fuel) (r:=r) (s:=s) (j:=j) HAL.out ho hb0 hj he
       have hUn:=fun he=>St.mkS_unit (dE:=dE) (dig:=Lib.decDigits) (fuel:=fuel) (r:=r) (s:=s) (j:=j) HAL.out ho hb0 hj he
       rw[find_at hj] at hfd;obtain⟨x3,hx3⟩:∃ x3,d.extract (a+n) (a+n+j)=x3:=⟨_,rfl⟩;have hc3:St.cutL d.data.toList (a+n) (a+n+j)=x3.data.toList:=by rw[<- hx3,cut_list]
       have hx3s:x3.size<=d.size:=by rw[<- hx3];simp;omega
       rw[hc3,dE_of] at hE hUn;have hdc:=fun W=>rdecT_any 1 St.markL mark_at mark_okT x3 W (by omega)
       rw[show St.decT St.markL x3.size x3.data.toList 0 0 [] [] [] 0=mkD x3 from rfl] at hdc;have hat:=mkD_at x3;generalize mkD x3=R at hdc hat hE hUn;obtain⟨rf,rc,rw',re⟩:=R;simp only at hE hUn hat;obtain⟨u,hu⟩:∃ u,a+n+j=u:=⟨_,rfl⟩;have hun:=fun W (hp:RV W w.heap.size w.heap.size d s) (hw:w.heap.size<=W.heap.size)=>runit_any W w.heap.size w.heap.size d ⟨(Lib.decDigits (r+1)).toArray⟩ s (a+n) (a+n+j) hp (by omega) (by omega) (by omega) hd63 (by omega) hw
       rw[hq1] at hun;rw[hu] at hfd hx3 hun hUn;have HDC:=hid hdc;have HE:=hid hE;have HUN:=hid hUn;have HFD:=hid hfd;have HUNI:=hid hun;have y6:¬ (u:Int)<0:=by omega
       have y8:(a:Int)+n<=(u:Int):=by omega
       have y9:(u:Int)<=d.size:=by omega
       have hr1:((r+1:Nat):Int)=(r:Int)+1:=by omega
       have HIT:=hid (fun W=>rDecimal_any (r+1) W (by omega));rw[hr1] at HIT;clear hdc hE hUn hfd hun hge hz hj ho hb0 hx2l hebl hnbl hel hc3 hq1 hr1;go_wp2_with fail;refine(HBG.out _).mono ?_;rintro e w2 ⟨rfl,rfl⟩;go_wp2_with fail;refine(HTG.out _).mono ?_;rintro e w4 ⟨rfl,hu4⟩;have HU4:=hid hu4;clear hu4 HTG;go_wp2_with fail;refine(HNM.out _).mono ?_;rintro e w5 ⟨rfl,hu5⟩;have hbx:=(hu5.below.block w4.heap.size (by simp)).trans (heap_alloc_at w4 (.cells #[.int .i64 2,.string tb,.int .i64 0] 36) w4.heap.size rfl);have x0:w5.cell? ⟨w4.heap.size,0,none⟩=some (.int .i64 2):=zcH hbx 0;haveI:LtW w4.heap.size w5:=LtW.of (lt_of_heap hbx);have HU5:=hid ((HU4.out.alloc _).trans hu5);clear hu5 HNM hbx;go_wp2_with fail;refine(HBK.out _).mono ?_;rintro e w6 ⟨rfl,rfl⟩;go_wp2_with fail;refine(HBK.out _).mono ?_;rintro e w6 ⟨rfl,rfl⟩;go_wp2_with fail;refine(HFD.out _).mono ?_;rintro e w7 ⟨rfl,rfl⟩;go_wp2_with fail;refine(HDC.out _).mono ?_;rintro e w8 ⟨v1,v2,rfl,_,_,hu8⟩;have HU8:=hid (HU5.out.trans hu8);clear hu8 HDC HFD HBK HBG HU5 HU4;simp only
       by_cases hre:re=0
       ·subst hre
        have HST:=hid (HS.out.trans (by rw[HUN.out rfl]):mkT d=St.endM' d.data.toList (St.mkS dE Lib.decDigits d.data.toList fuel (u+(b.length+3)) (r+1) (St.unitS d.data.toList s (a+n) u (Lib.decDigits (r+1)))));have HU9:=hid (HU.out.trans HU8.out);have HP9:=hid (HP.out.und HU8.out);clear HE HUN HS HU HP HU8;go_wp2_with fail;refine(HIT.out _).mono ?_;rintro e w9 ⟨rfl,hu9⟩;have HPa:=hid (HP9.out.und hu9);have HUa:=hid (HU9.out.trans hu9);have hsza:=HUa.out.size;clear hu9 HIT HP9 HU9;go_wp2_with fail;refine(HUNI.out _ HPa.out hsza).mono ?_;rintro e wb ⟨rfl,hpb,hblb,_⟩;have HPb:=hid hpb;have HUb:=hid (Und.of_below (Below.trans HUa.out.below hblb));clear hpb hblb HUNI HPa HUa;go_wp2;exact⟨⟨u+(b.length+3),r+1,fuel,_,congrArg (Value.int .i64) (by omega),congrArg (Value.int .i64) (by omega),by omega,by omega,by omega,by first|(simp[St.unitS];done)|(simp[St.unitS];omega),by first|(simp[St.unitS];done)|(simp[St.unitS];omega),HPb.out,HST.out,HUb.out⟩,by simp[intOf];omega⟩
       ·have hrb:(re==0)=false:=by simpa using hre
        have hrb2:(re != 0)=true:=by simpa using hre
        have HR:=hid (HS.out.trans (by rw[HE.out hre];rfl):mkT d=([],a+n+rw',re));have HU9:=hid (HU.out.trans HU8.out);clear HE HUN HS HU HU8;go_wp2;go_ret3;exact SplitEnd.err HR.out HU9.out _ (by omega)
theorem rsplit_any(d:ByteArray)(w:World)(hd63:d.size<=4611686018427387904):Calls Tryz.prog 60 #[.int .i64 1,.string d] w (SplitEnd (mkT d) w):=by
 by_cases hbig:65536<d.size
 ·have hR:mkT d=([],0,3):=by unfold mkT St.splitM;rw[if_pos (by rw[St.len_list];omega)]
  have HR:=hid hR;have hb:(65536:Int)<d.size:=by omega
  clear hR;go_enter Tryz.func60,Tryz.ntmps60;go_wp2;go_ret3;exact SplitEnd.err HR.out (Und.refl _) _ rfl
 ·have hb:¬ (65536:Int)<d.size:=by omega
  have HS:=hid (rsplitMk_any d w (by omega));go_enter Tryz.func60,Tryz.ntmps60;go_wp2_with fail;refine HS.out.mono ?_;rintro e w' ⟨A,c,rfl,hp,h1,h2,hu⟩;have HP:=hid hp;clear hp;go_wp2;go_ret3;exact⟨A,c,rfl,HP.out,h1,h2,hu⟩
end Go.Proofs.YthoemdibbldndaaGreatDoor.Mk
