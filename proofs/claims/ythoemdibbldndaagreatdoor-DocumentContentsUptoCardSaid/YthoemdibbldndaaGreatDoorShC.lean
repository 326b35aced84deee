/- The contract of the reference's field: what it gives is St.fieldL. -/
import Derived.Deep.QuietTactic
import Derived.BigQuiet
import Derived.LoopN
import Derived.Test.YthoemdibbldndaaGreatDoorRefUnit
import Derived.Test.YthoemdibbldndaaGreatDoorGH
import Derived.Test.YthoemdibbldndaaGreatDoorShB
set_option linter.unusedVariables false
set_option linter.unusedSimpArgs false
set_option maxHeartbeats 12800000
set_option maxRecDepth 20000
namespace Go.Proofs.YthoemdibbldndaaGreatDoor.Sh
open Go.RowKit Go.Proofs.YthoemdibbldndaaGreatDoor.St
section
theorem rfield_any(d:ByteArray)(a:Nat)(w:World)(ha:a<=d.size)(hd:d.size<=4611686018427387904):Calls Tryz.prog 143 #[.string d,.int .i64 a] w (FieldEnd (d.data.toList.drop a) a w):=by
 by_cases hlt:a<d.size
 ·have hcons:=St.drop_at d a hlt
  by_cases c34:d[a].toNat=34
  ·have hF:=St.field_q (r:=d.data.toList.drop (a+1)) c34
   rw[<- hcons] at hF;have HF:=hid hF;have z1:(a:Int)<d.size:=by omega
   have b34:((d[a].toNat:Int)==34)=true:=by simp;omega
   clear hF hcons;go_enter Tryz.func143,Tryz.ntmps143;go_wp2;go_loopw [8] (fun s4 wr=>QRel w d (a+1) s4 wr) (fun s4 _=>d.size+1-(intOf s4).toNat)
   case atStart=>exact⟨a+1,congrArg (Value.int .i64) (by omega),by omega,by omega,by cases St.quotedL (d.data.toList.drop (a+1)) <;> simp,Und.refl _⟩
   case round=>
    obtain⟨j,rfl,hj1,hj2,hq,hu⟩:=hrel;have HQ:=hid hq;have HU:=hid hu;clear hq hu
    by_cases hjl:j<d.size
    ·have hjc:=St.drop_at d j hjl
     have z2:(j:Int)<d.size:=by omega
     by_cases q34:d[j].toNat=34
     ·have q34':((d[j].toNat:Int)==34)=true:=by simp;omega
      by_cases hjl2:j+1<d.size
      ·have hjc2:=St.drop_at d (j+1) hjl2
       have z3:(j:Int)+1<d.size:=by omega
       by_cases p34:d[j+1].toNat=34
       ·have hs:=St.quoted_two (r:=d.data.toList.drop (j+1+1)) q34 p34
        rw[<- hjc2,<- hjc] at hs;have HS:=hid hs;have p34':((d[j+1].toNat:Int)==34)=true:=by simp;omega
        clear hs hjc hjc2 HF;go_wp2;refine⟨⟨j+2,congrArg (Value.int .i64) (by omega),by omega,by omega,?_,HU.out⟩,by simp[intOf];omega⟩;rw[HQ.out,HS.out];cases St.quotedL (d.data.toList.drop (j+1+1)) with
        | none=>rfl
        | some n=>simp;omega
       ·have hs:=St.quoted_end (r:=d.data.toList.drop (j+1+1)) q34 p34
        rw[<- hjc2,<- hjc] at hs;have HS:=hid hs;have p34':((d[j+1].toNat:Int)==34)=false:=by simp;omega
        have hq2:St.quotedL (d.data.toList.drop (a+1))=some (j-a):=by rw[HQ.out,HS.out];simp;omega
        have hf2:=hid (fe_q HF.out hq2 hj1);have hec:St.endB (d.data.toList.drop (j+1))=decide (d[j+1].toNat=44∨d[j+1].toNat=10):=by rw[hjc2];rfl
        have z4:(((j:Int)+1==(d.size:Int))=false):=by simp;omega
        have z5:¬ (d.size:Int)<=(j:Int):=by omega
        clear hs hjc hjc2 b34 hlt c34 HF HQ HS hq2;have HF:=hf2;clear hf2
        by_cases k44:d[j+1].toNat=44
        ·have m44:((d[j+1].toNat:Int)==44)=true:=by simp;omega
         have heb:=hid (show St.endB (d.data.toList.drop (j+1))=true by rw[hec];simp[k44]);clear hec;go_wp2_with fail;go_quiet (fail);go_wp2;go_ret3;exact fe_done HF.out heb.out (by omega) (by apply_rules[uUe,uUa,uUb,uUc,uUd])
        ·have m44:((d[j+1].toNat:Int)==44)=false:=by simp;omega
         by_cases k10:d[j+1].toNat=10
         ·have m10:((d[j+1].toNat:Int)==10)=true:=by simp;omega
          have heb:=hid (show St.endB (d.data.toList.drop (j+1))=true by rw[hec];simp[k10]);clear hec;go_wp2_with fail;go_quiet (fail);go_wp2;go_ret3;exact fe_done HF.out heb.out (by omega) (by apply_rules[uUe,uUa,uUb,uUc,uUd])
         ·have m10:((d[j+1].toNat:Int)==10)=false:=by simp;omega
          have heb:=hid (show St.endB (d.data.toList.drop (j+1))=false by rw[hec];simp[k44,k10]);clear hec;go_wp2_with fail;go_quiet (fail);go_wp2;go_ret3;exact fe_done HF.out heb.out (by omega) (by apply_rules[uUe,uUa,uUb,uUc,uUd])
      ·have hje:j+1=d.size:=by omega
       have hnil:=St.drop_all d (j+1) (by omega);have hs:=St.quoted_last q34;rw[hnil] at hjc;rw[<- hjc] at hs;have hq2:St.quotedL (d.data.toList.drop (a+1))=some (j-a):=by rw[HQ.out,hs];simp;omega
       have hf2:=hid (fe_q HF.out hq2 hj1);have heb:=hid (show St.endB (d.data.toList.drop (j+1))=true by rw[hnil];rfl);have z3:¬ (j:Int)+1<d.size:=by omega
       have z4:(((j:Int)+1==(d.size:Int))=true):=by simp;omega
       have z5:¬ (d.size:Int)<=(j:Int):=by omega
       clear hs hjc hnil b34 hlt c34 HF HQ hq2 hje hjl2;have HF:=hf2;clear hf2;go_wp2_with fail;go_quiet (fail);go_wp2;go_ret3;exact fe_done HF.out heb.out (by omega) (by apply_rules[uUe,uUa,uUb,uUc,uUd])
     ·have hs:=St.quoted_plain (r:=d.data.toList.drop (j+1)) q34
      rw[<- hjc] at hs;have HS:=hid hs;have q34':((d[j].toNat:Int)==34)=false:=by simp;omega
      clear hs hjc HF;go_wp2;refine⟨⟨j+1,congrArg (Value.int .i64) (by omega),by omega,by omega,?_,HU.out⟩,by simp[intOf];omega⟩;rw[HQ.out,HS.out];cases St.quotedL (d.data.toList.drop (j+1)) with
      | none=>rfl
      | some n=>simp;omega
    ·have hje:j=d.size:=by omega
     subst hje;have hnil:d.data.toList.drop d.size=[]:=List.drop_of_length_le (by simp);have hq2:St.quotedL (d.data.toList.drop (a+1))=none:=by rw[HQ.out,hnil];rfl
     have HQ2:=hid hq2;clear hjl hq2 hnil;go_wp2;go_ret3;refine⟨HU.out,?_⟩;rw[HF.out,HQ2.out];exact⟨_,_,rfl⟩
  ·have c34':((d[a].toNat:Int)==34)=false:=by simp;omega
   have HFB:=hid (St.field_b (l:=d.data.toList.drop a) (fun c r e=>by rw[hcons] at e;simp only[List.cons.injEq] at e;rw[<- e.1];exact c34));have z1:(a:Int)<d.size:=by omega
   clear hcons c34;go_enter Tryz.func143,Tryz.ntmps143;go_wp2;go_loopw [8] (fun s4 wr=>BRel w d a s4 wr) (fun s4 _=>d.size+1-(intOf s4).toNat)
   case atStart=>exact⟨a,rfl,by omega,by omega,by simp,Und.refl _⟩
   case round=>
    obtain⟨j,rfl,hj1,hj2,hq,hu⟩:=hrel;have HQ:=hid hq;have HU:=hid hu;clear hq hu
    by_cases hjl:j<d.size
    ·have hjc:=St.drop_at d j hjl
     have z2:(j:Int)<d.size:=by omega
     cases hbc:St.bareC d[j]
     ·have htw:(d.data.toList.drop j).takeWhile St.bareC=[]:=by rw[hjc,List.takeWhile_cons_of_neg (by simp[hbc])]
      have hlen:((d.data.toList.drop a).takeWhile St.bareC).length=j-a:=by rw[HQ.out,htw];simp
      have hf2:=HFB.out;rw[hlen,List.drop_drop,show a+(j-a)=j by omega] at hf2;have HF:=hid hf2;have hec:St.endB (d.data.toList.drop j)=decide (d[j].toNat=44∨d[j].toNat=10):=by rw[hjc];rfl
      have z4:(((j:Int)==(d.size:Int))=false):=by simp;omega
      have hb3:d[j].toNat=34∨d[j].toNat=44∨d[j].toNat=10:=by
       unfold St.bareC at hbc;have:=of_decide_eq_false hbc
       omega
      clear hf2 hlen htw hjc hbc HQ HFB
      by_cases k34:d[j].toNat=34
      ·have m34:((d[j].toNat:Int)==34)=true:=by simp;omega
       have k44:d[j].toNat ≠ 44:=by omega
       have k10:d[j].toNat ≠ 10:=by omega
       have m44:((d[j].toNat:Int)==44)=false:=by simp;omega
       have m10:((d[j].toNat:Int)==10)=false:=by simp;omega
       have heb:=hid (show St.endB (d.data.toList.drop (j))=false by rw[hec];simp[k44,k10]);clear hec hb3 k44 k10;go_wp2_with fail;go_quiet (fail);go_wp2;go_ret3;exact fe_done HF.out heb.out (by omega) (by apply_rules[uUe,uUa,uUb,uUc,uUd])
      ·have m34:((d[j].toNat:Int)==34)=false:=by simp;omega
       by_cases k44:d[j].toNat=44
       ·have m44:((d[j].toNat:Int)==44)=true:=by simp;omega
        have heb:=hid (show St.endB (d.data.toList.drop (j))=true by rw[hec];simp[k44]);clear hec;go_wp2_with fail;go_quiet (fail);go_wp2;go_ret3;exact fe_done HF.out heb.out (by omega) (by apply_rules[uUe,uUa,uUb,uUc,uUd])
       ·have m44:((d[j].toNat:Int)==44)=false:=by simp;omega
        by_cases k10:d[j].toNat=10
        ·have m10:((d[j].toNat:Int)==10)=true:=by simp;omega
         have heb:=hid (show St.endB (d.data.toList.drop (j))=true by rw[hec];simp[k10]);clear hec;go_wp2_with fail;go_quiet (fail);go_wp2;go_ret3;exact fe_done HF.out heb.out (by omega) (by apply_rules[uUe,uUa,uUb,uUc,uUd])
        ·exact absurd hb3 (by omega)
     ·have hb3:d[j].toNat ≠ 34/\d[j].toNat ≠ 44/\d[j].toNat ≠ 10:=by
       unfold St.bareC at hbc;exact of_decide_eq_true hbc
      have m34:((d[j].toNat:Int)==34)=false:=by simp;omega
      have m44:((d[j].toNat:Int)==44)=false:=by simp;omega
      have m10:((d[j].toNat:Int)==10)=false:=by simp;omega
      have n34:((d[j].toNat:Int) != 34)=true:=by simp;omega
      have n44:((d[j].toNat:Int) != 44)=true:=by simp;omega
      have n10:((d[j].toNat:Int) != 10)=true:=by simp;omega
      have htw:((d.data.toList.drop j).takeWhile St.bareC).length=1+((d.data.toList.drop (j+1)).takeWhile St.bareC).length:=by
       rw[hjc,List.takeWhile_cons_of_pos hbc];simp;omega
      have HTW:=hid htw;clear htw hjc hbc hb3;go_wp2;refine⟨⟨j+1,congrArg (Value.int .i64) (by omega),by omega,by omega,?_,HU.out⟩,by simp[intOf];omega⟩;rw[HQ.out,HTW.out];omega
    ·have hje:j=d.size:=by omega
     subst hje;have hnil:d.data.toList.drop d.size=[]:=List.drop_of_length_le (by simp);have hlen:((d.data.toList.drop a).takeWhile St.bareC).length=d.size-a:=by rw[HQ.out,hnil];simp
     have hf2:=HFB.out;rw[hlen,List.drop_drop,show a+(d.size-a)=d.size by omega] at hf2;have HF:=hid hf2;have heb:=hid (show St.endB (d.data.toList.drop d.size)=true by rw[hnil];rfl);clear hf2 hlen hnil HQ HFB;go_wp2_with fail;go_quiet (fail);go_wp2;go_ret3;exact fe_done HF.out heb.out (by omega) (by apply_rules[uUe,uUa,uUb,uUc,uUd])
 ·have hae:a=d.size:=by omega
  subst hae;have hnil:d.data.toList.drop d.size=[]:=List.drop_of_length_le (by simp);rw[hnil];go_enter Tryz.func143,Tryz.ntmps143;go_wp2;refine wp_loop_rounds 1 ?_;rw[rounds_succ];go_wp2_with fail;go_quiet (fail);go_wp2;go_ret3;exact⟨(by apply_rules[uUe,uUa,uUb,uUc,uUd]),by rw[St.field_nil];simp⟩
end
section
namespace St
variable {dE:List UInt8->Nat × Int} {dig:Nat->List UInt8} {d:List UInt8} {W C:Nat}
theorem recs_ok0{fuel a r e n:Nat}{s s':PS}(h:¬ d.length<=a)(hr:recS dE d W C (dig r) (d.length+1) a 0 s=.ok (e,n,s'))(hn:¬ n<W):recsS dE dig d W C (fuel+1) a r s=recsS dE dig d W C fuel (e+1) (r+1) s':=by
 rw[recsS,if_neg h,hr];simp only[];rw[if_neg hn]
theorem split_ok0{e n tx c:Nat}(h0:¬ 65536<d.length)(h:headS d (d.length+1) 0 0 0 0=.ok (e,n,tx,c))(ht:tx ≠ 0)(ht2:¬ 1<tx):splitS dE dig d=endR d (recsS dE dig d n c (d.length+1) (e+1) 1 ([],0)):=by
 rw[splitS,if_neg h0,h];simp only[];rw[if_neg ht,if_neg ht2];cases recsS dE dig d n c (d.length+1) (e+1) 1 ([],0) <;> rfl
end St
theorem Decimal_any(n:Nat)(w:World)(hn:n<=4611686018427387904):Calls Tryz.prog 134 #[.int .i64 n] w fun e w'=>e=.returned (.string ⟨(Lib.decDigits n).toArray⟩)/\Und w w':=by
 have h0:¬ (n:Int)<0:=by omega
 go_enter Tryz.func134,Tryz.ntmps134;go_wp2_with (go_at_call 176;refine(decimal_any n _ hn).mono ?_;rintro e w' ⟨rfl,X,rfl⟩);go_ret;exact⟨rfl,(by apply_rules[uUe,uUa,uUb,uUc,uUd])⟩
theorem rdecode_err(x:ByteArray)(w:World)(hx:x.size<=4611686018427387904):Calls Tryz.prog 63 #[.int .i64 3,.string x] w fun e w'=>∃ v1 v2,e=.returned (.tuple #[v1,v2,.int .i64 ((dE x.data.toList).1:Nat),.int .i64 (dE x.data.toList).2])/\Und w w':=by
 refine(rdecode_any 3 St.sheetL sheet_at sheet_ok x w hx).mono ?_;rintro e w' ⟨v1,v2,rfl,_,_,hu⟩;rw[dE_of];exact⟨v1,v2,rfl,hu⟩
noncomputable def osM(d:ByteArray)(s6 s9:Value):Nat:=if intOf s9=0 then d.size+3 else d.size+2-(intOf s6).toNat
theorem osM_zero(d:ByteArray)(s6:Value):osM d s6 (.int .i64 0)=d.size+3:=by unfold osM;rw[if_pos (by simp[intOf])]
theorem osM_pos(d:ByteArray)(r:Nat)(s6:Value)(hr:1<=r):osM d s6 (.int .i64 r)=d.size+2-(intOf s6).toNat:=by
 unfold osM;rw[if_neg];intro e;simp[intOf] at e;omega
theorem osM_one(d:ByteArray)(a:Nat):osM d (.int .i64 a) (.int .i64 1)=d.size+2-a:=osM_pos d 1 _ (by omega)
def OsRel(w:World)(d:ByteArray)(s6 s7 s8 s9:Value)(wr:World):Prop:=
 Und w wr/\((s6=.int .i64 0/\s7=.int .i64 0/\s8=.int .i64 (-1)/\s9=.int .i64 0/\RV wr w.heap.size w.heap.size d ([],0)) ∨
  ∃ (a r cols col fuel:Nat) (s:St.PS),s6=.int .i64 a/\s7=.int .i64 cols/\s8=.int .i64 col/\s9=.int .i64 r/\a<=d.size+1/\1<=r/\r<=a+1/\cols<=100000/\col<=100000/\d.size-a<fuel/\s.2<=a/\s.2<=d.size/\s.1.length<=2*a /\
   RV wr w.heap.size w.heap.size d s/\sheetS d=St.endR d.data.toList (St.recsS dE Lib.decDigits d.data.toList cols col fuel a r s))
def HrRel(w:World)(d:ByteArray)(s6 s8 s11 s12:Value)(wr:World):Prop:=
 ∃ (a n tx col fuel:Nat) (c:Int),s6=.int .i64 a/\s8=.int .i64 c/\s11=.int .i64 n/\s12=.int .i64 tx/\a<=d.size/\n<=a/\tx<=n/\(0<tx->c=col)/\col<=n/\d.size+1-a<=fuel /\
  St.headS d.data.toList (d.data.toList.length+1) 0 0 0 0=St.headS d.data.toList fuel a n tx col/\RV wr w.heap.size w.heap.size d ([],0)/\Und w wr
def RrRel(w:World)(d:ByteArray)(r cols col a0:Nat)(s:St.PS)(s6 s8 s11:Value)(wr:World):Prop:=
 ∃ (a n fuel:Nat) (s1:St.PS),s6=.int .i64 a/\s8=.int .i64 col/\s11=.int .i64 n/\a0<=a/\a<=d.size/\n<=a/\d.size+1-a<=fuel /\
  St.recS dE d.data.toList cols col (Lib.decDigits r) (d.data.toList.length+1) a0 0 s=St.recS dE d.data.toList cols col (Lib.decDigits r) fuel a n s1/\RV wr w.heap.size w.heap.size d s1/\s1.2<=a/\s1.2<=d.size/\s1.1.length<=2*a/\Und w wr
theorem rsplitSheet_any(d:ByteArray)(w:World)(hd:d.size<=65536):Calls Tryz.prog 103 #[.string d] w (SplitEnd (sheetS d) w):=by
 have HLEN:=hid (St.len_list d);have H0L:=hid (show ¬ 65536<d.data.toList.length by rw[St.len_list];omega);have HRV:=hid (show RV (w.alloc (.cells #[.string d,.slice none 0 0,.int .i64 0] 191)) w.heap.size w.heap.size d ([],0) from⟨Nat.le_refl _,_,heap_alloc_new w _,World.ownsRow_nil _ _ _ _⟩);go_enter Tryz.func103,Tryz.ntmps103;go_wp2;go_loopw [6,7,8,9] (fun s6 s7 s8 s9 wr=>OsRel w d s6 s7 s8 s9 wr) (fun s6 _ _ s9 _=>osM d s6 s9)
 case atStart=>exact⟨(by apply_rules[uUe,uUa,uUb,uUc,uUd]),.inl ⟨rfl,rfl,rfl,rfl,HRV.out⟩⟩
 case round=>
  obtain⟨hu,hrel⟩:=hrel;clear HRV;have HU:=hid hu;clear hu;rcases hrel with ⟨rfl,rfl,rfl,rfl,hRV⟩|⟨a0,r,cols,col,fuel0,s,rfl,rfl,rfl,rfl,ha0,hr1,hr2,hc1,hc2,hfu,hs1,hs1',hs2,hRV,hS⟩
  ·have HRV:=hid hRV
   clear hRV;obtain⟨wo,rfl⟩:∃ wo:World,wo=wr:=⟨_,rfl⟩;go_wp2_with fail;go_loopw [6,8,11,12] (fun s6 s8 s11 s12 wr=>HrRel w d s6 s8 s11 s12 wr) (fun s6 _ _ _ _=>d.size+1-(intOf s6).toNat)
   case atStart=>exact⟨0,0,0,0,d.data.toList.length+1,-1,rfl,rfl,rfl,rfl,by omega,by omega,by omega,by omega,by omega,by simp,rfl,HRV.out,HU.out⟩
   case round=>
    clear HRV HU;obtain⟨a,n,tx,col,fuel,c,rfl,rfl,rfl,rfl,ha,hna,htx,hcT,hcol,hfu,hH,hRV,hu⟩:=hrel;obtain⟨fuel,rfl⟩:∃ m,fuel=m+1:=⟨fuel-1,by omega⟩;have HH:=hid hH;have HR:=hid hRV;have HU:=hid hu;have HF:=hid (rfield_any d a wr ha (by omega));clear hH hRV hu;go_wp2_with fail;refine HF.out.mono ?_;rintro e w2 ⟨hu2,hm⟩;have HR2:=hid (HR.out.und hu2);have HU2:=hid (HU.out.trans hu2);clear HR HU HF hu2;cases hs:St.fieldL (d.data.toList.drop a) with
    | none=>
     rw[hs] at hm;obtain⟨x,y,rfl⟩:=hm;have hR:=hid (St.split_err (dE:=dE) (dig:=Lib.decDigits) H0L.out (HH.out.trans (St.head_none hs)));clear hs HH;go_wp2;go_ret3;exact SplitEnd.err hR.out HU2.out
    | some x=>
     obtain⟨k,q⟩:=x;rw[hs] at hm;simp only at hm;subst hm;obtain⟨hk1,_⟩:=St.field_len hs;have hk2:a+k<=d.size:=by simp at hk1;omega
     have hh:=HH.out.trans (St.head_step hs);have hma:a<=a+k:=by omega
     rw[<- cut_list] at hh;generalize hm:a+k=m at hk2 hh hma ⊢;obtain⟨t,ht⟩:∃ t,d.extract a m=t:=⟨_,rfl⟩;rw[ht] at hh;have w1:(0:Int)<=a:=by omega
     have w2':(a:Int)<=m:=by omega
     have w3:(m:Int)<=d.size:=by omega
     by_cases hs:t=sText
     ·subst hs
      unfold sText at ht;have hif:((sText.data.toList==[116,101,120,116])=true):=rfl;simp only[hif,if_true] at hh;have HH2:=hid hh;clear hh HH hk1 hif;rcases Nat.lt_or_ge m d.size with hml|hml
      ·have hcons:=St.drop_at d m hml
       have y1:¬ (d.size:Int)<=(m:Int):=by omega
       have y3:(m:Int)<d.size:=by omega
       by_cases c10:d[m].toNat=10
       ·have y2:((d[m].toNat:Int)==10)=true:=by simp;omega
        have hh3:=HH2.out;rw[hcons] at hh3;simp only[c10,if_true] at hh3;have HH3:=hid hh3;clear hh3 hcons
        by_cases q0:tx=0
        ·subst q0
         clear hcT;have hR:=hid (St.split_ok0 (dE:=dE) (dig:=Lib.decDigits) H0L.out HH3.out (by decide) (by decide));clear HH3 HH2;go_wp2;refine⟨⟨HU2.out,.inr ⟨m+1,1,n+1,n,d.size+1,([],0),congrArg (Value.int .i64) (by omega),congrArg (Value.int .i64) (by omega),rfl,rfl,by omega,by omega,by omega,by omega,by omega,by omega,by simp,by simp,by simp,HR2.out,by unfold sheetS;rw[hR.out,HLEN.out]⟩⟩,?_⟩
         first|(have:=osM_one d (m+1);simp only[osM_zero];simp only[Int.natCast_add,Int.cast_ofNat_Int] at this ⊢;omega)|(rw[osM_zero];unfold osM intOf;simp;omega)
        ·have y5:(((tx:Int)+1==0)=false):=by simp;omega
         have y6:(1:Int)<(tx:Int)+1:=by omega
         have hR:=hid (St.split_many (dE:=dE) (dig:=Lib.decDigits) H0L.out HH3.out (by omega) (by omega));go_wp2;go_ret3;exact SplitEnd.err hR.out HU2.out
       ·have y2:((d[m].toNat:Int)==10)=false:=by simp;omega
        have hh3:=HH2.out;rw[hcons] at hh3;simp only[c10,if_false] at hh3;have HH3:=hid hh3;clear hh3 hcons;go_wp2;refine⟨⟨m+1,n+1,tx+1,n,fuel,n,congrArg (Value.int .i64) (by omega),rfl,congrArg (Value.int .i64) (by omega),congrArg (Value.int .i64) (by omega),by omega,by omega,by omega,fun _=>rfl,by omega,by omega,HH3.out,HR2.out,HU2.out⟩,by simp[intOf];omega⟩
      ·have hme:m=d.size:=by omega
       subst hme;have hnil:=St.drop_all d d.size (by omega);have y1:(d.size:Int)<=(d.size:Int):=by omega
       have hh3:=HH2.out;rw[hnil] at hh3;simp only[] at hh3;have HH3:=hid hh3;clear hh3 hnil
       by_cases q0:tx=0
       ·subst q0
        clear hcT;have hR:=hid (St.split_ok0 (dE:=dE) (dig:=Lib.decDigits) H0L.out HH3.out (by decide) (by decide));clear HH3 HH2;go_wp2;refine⟨⟨HU2.out,.inr ⟨d.size+1,1,n+1,n,d.size+1,([],0),congrArg (Value.int .i64) (by omega),congrArg (Value.int .i64) (by omega),rfl,rfl,by omega,by omega,by omega,by omega,by omega,by omega,by simp,by simp,by simp,HR2.out,by unfold sheetS;rw[hR.out,HLEN.out]⟩⟩,?_⟩
        first|(have:=osM_one d (d.size+1);simp only[osM_zero];simp only[Int.natCast_add,Int.cast_ofNat_Int] at this ⊢;omega)|(rw[osM_zero];unfold osM intOf;simp;omega)
       ·have y5:(((tx:Int)+1==0)=false):=by simp;omega
        have y6:(1:Int)<(tx:Int)+1:=by omega
        have hR:=hid (St.split_many (dE:=dE) (dig:=Lib.decDigits) H0L.out HH3.out (by omega) (by omega));go_wp2;go_ret3;exact SplitEnd.err hR.out HU2.out
     ·have hif:(t.data.toList==[116,101,120,116])=false:=by
       refine Bool.eq_false_iff.2 fun e=>?_
       exact hs (bytes_ext _ _ (show t.data.toList=sText.data.toList from eq_of_beq e))
      have hne:(t.toList==[116,101,120,116])=false:=by rw[Lib.toList_data];exact hif
      simp only[hif,Bool.false_eq_true,if_false] at hh;have HH2:=hid hh;clear hh HH hk1 hif hs;rcases Nat.lt_or_ge m d.size with hml|hml
      ·have hcons:=St.drop_at d m hml
       have y1:¬ (d.size:Int)<=(m:Int):=by omega
       have y3:(m:Int)<d.size:=by omega
       by_cases c10:d[m].toNat=10
       ·have y2:((d[m].toNat:Int)==10)=true:=by simp;omega
        have hh3:=HH2.out;rw[hcons] at hh3;simp only[c10,if_true] at hh3;have HH3:=hid hh3;clear hh3 hcons;rcases(show tx=0∨tx=1∨1<tx by omega) with q0|q1|q2
        ·subst q0
         have hR:=hid (St.split_none (dE:=dE) (dig:=Lib.decDigits) H0L.out HH3.out rfl);go_wp2;go_ret3;exact SplitEnd.err hR.out HU2.out
        ·subst q1
         have hcc:=hcT (by omega);subst hcc;clear hcT;have hR:=hid (St.split_ok0 (dE:=dE) (dig:=Lib.decDigits) H0L.out HH3.out (by decide) (by decide));clear HH3 HH2;go_wp2;refine⟨⟨HU2.out,.inr ⟨m+1,1,n+1,col,d.size+1,([],0),congrArg (Value.int .i64) (by omega),congrArg (Value.int .i64) (by omega),rfl,rfl,by omega,by omega,by omega,by omega,by omega,by omega,by simp,by simp,by simp,HR2.out,by unfold sheetS;rw[hR.out,HLEN.out]⟩⟩,?_⟩
         first|(have:=osM_one d (m+1);simp only[osM_zero];simp only[Int.natCast_add,Int.cast_ofNat_Int] at this ⊢;omega)|(rw[osM_zero];unfold osM intOf;simp;omega)
        ·have y5:(((tx:Int)==0)=false):=by simp;omega
         have y6:(1:Int)<(tx:Int):=by omega
         have hR:=hid (St.split_many (dE:=dE) (dig:=Lib.decDigits) H0L.out HH3.out (by omega) (by omega));go_wp2;go_ret3;exact SplitEnd.err hR.out HU2.out
       ·have y2:((d[m].toNat:Int)==10)=false:=by simp;omega
        have hh3:=HH2.out;rw[hcons] at hh3;simp only[c10,if_false] at hh3;have HH3:=hid hh3;clear hh3 hcons;go_wp2;refine⟨⟨m+1,n+1,tx,col,fuel,c,congrArg (Value.int .i64) (by omega),rfl,congrArg (Value.int .i64) (by omega),congrArg (Value.int .i64) (by omega),by omega,by omega,by omega,hcT,by omega,by omega,HH3.out,HR2.out,HU2.out⟩,by simp[intOf];omega⟩
      ·have hme:m=d.size:=by omega
       subst hme;have hnil:=St.drop_all d d.size (by omega);have y1:(d.size:Int)<=(d.size:Int):=by omega
       have hh3:=HH2.out;rw[hnil] at hh3;simp only[] at hh3;have HH3:=hid hh3;clear hh3 hnil;rcases(show tx=0∨tx=1∨1<tx by omega) with q0|q1|q2
       ·subst q0
        have hR:=hid (St.split_none (dE:=dE) (dig:=Lib.decDigits) H0L.out HH3.out rfl);go_wp2;go_ret3;exact SplitEnd.err hR.out HU2.out
       ·subst q1
        have hcc:=hcT (by omega);subst hcc;clear hcT;have hR:=hid (St.split_ok0 (dE:=dE) (dig:=Lib.decDigits) H0L.out HH3.out (by decide) (by decide));clear HH3 HH2;go_wp2;refine⟨⟨HU2.out,.inr ⟨d.size+1,1,n+1,col,d.size+1,([],0),congrArg (Value.int .i64) (by omega),congrArg (Value.int .i64) (by omega),rfl,rfl,by omega,by omega,by omega,by omega,by omega,by omega,by simp,by simp,by simp,HR2.out,by unfold sheetS;rw[hR.out,HLEN.out]⟩⟩,?_⟩
        first|(have:=osM_one d (d.size+1);simp only[osM_zero];simp only[Int.natCast_add,Int.cast_ofNat_Int] at this ⊢;omega)|(rw[osM_zero];unfold osM intOf;simp;omega)
       ·have y5:(((tx:Int)==0)=false):=by simp;omega
        have y6:(1:Int)<(tx:Int):=by omega
        have hR:=hid (St.split_many (dE:=dE) (dig:=Lib.decDigits) H0L.out HH3.out (by omega) (by omega));go_wp2;go_ret3;exact SplitEnd.err hR.out HU2.out
  ·have r0:((r:Int)==0)=false:=by simp;omega
   have r1:(0:Int)<(r:Int):=by omega
   have HRV:=hid hRV;have HS:=hid hS;clear hRV hS
   by_cases hlt:a0<d.size
   ·have z:(a0:Int)<d.size:=by omega
    have HAL:=hid (show ¬ d.data.toList.length<=a0 by rw[HLEN.out];omega);obtain⟨fuel0,rfl⟩:∃ m,fuel0=m+1:=⟨fuel0-1,by omega⟩;obtain⟨wo,rfl⟩:∃ wo:World,wo=wr:=⟨_,rfl⟩;go_wp2_with fail;go_loopw [6,8,11] (fun s6 s8 s11 wr=>RrRel w d r cols col a0 s s6 s8 s11 wr) (fun s6 _ _ _=>d.size+1-(intOf s6).toNat)
    case atStart=>exact⟨a0,0,d.data.toList.length+1,s,rfl,rfl,rfl,by omega,by omega,by omega,by simp <;> omega,rfl,HRV.out,by omega,by omega,by omega,HU.out⟩
    case round=>
     clear HRV HU;obtain⟨a,n,fuel,s1,rfl,rfl,rfl,haa,ha,hna,hfu2,hH,hRV,hs3,hs3',hs4,hu⟩:=hrel;obtain⟨fuel,rfl⟩:∃ m,fuel=m+1:=⟨fuel-1,by omega⟩;have HH:=hid hH;have HR:=hid hRV;have HU:=hid hu;have HF:=hid (rfield_any d a wr ha (by omega));clear hH hRV hu;go_wp2_with fail;refine HF.out.mono ?_;rintro e w2 ⟨hu2,hm⟩;have HR2:=hid (HR.out.und hu2);have HU2:=hid (HU.out.trans hu2);clear HR HU HF hu2;cases hs:St.fieldL (d.data.toList.drop a) with
     | none=>
      rw[hs] at hm;obtain⟨x,y,rfl⟩:=hm;have hR:=hid (HS.out.trans (congrArg _ (St.recs_err HAL.out (HH.out.trans (St.rec_none hs)))));clear hs HH;go_wp2;go_ret3;exact SplitEnd.err hR.out HU2.out
     | some x=>
      obtain⟨k,q⟩:=x;rw[hs] at hm;simp only at hm;subst hm;obtain⟨hk1,hkq⟩:=St.field_len hs;have hk2:a+k<=d.size:=by simp at hk1;omega
      have hb1:=fun hb=>HS.out.trans (congrArg _ (St.recs_err HAL.out (HH.out.trans (St.rec_bad (dE:=dE) (key:=Lib.decDigits r) (fuel:=fuel) (s:=s1) hs (W:=cols) (n:=n) (C:=col) hb))))
      have hb2:=fun hb he=>HS.out.trans (congrArg _ (St.recs_err HAL.out (HH.out.trans (St.rec_dec (dE:=dE) (key:=Lib.decDigits r) (fuel:=fuel) (s:=s1) hs (W:=cols) (n:=n) (C:=col) hb he))))
      have hb3:=fun hb he=>HH.out.trans (St.rec_step (dE:=dE) (key:=Lib.decDigits r) (fuel:=fuel) (s:=s1) hs (W:=cols) (n:=n) (C:=col) hb he)
      have hma:a<=a+k:=by omega
      have hmq:q=true->a+2<=a+k:=fun h=>by have:=hkq h;omega
      generalize hm:a+k=m at hk2 hb1 hb2 hb3 hma hmq ⊢;have HB1:=hid hb1;have HB2:=hid hb2;have HB3:=hid hb3;clear hb1 hb2 hb3 hs HH hk1 hkq
      by_cases hw:cols<=n
      ·have v1:(cols:Int)<=(n:Int):=by omega
       have hR:=hid (HB1.out (.inl hw));go_wp2;go_ret3;exact SplitEnd.err hR.out HU2.out
      ·have v1:¬ (cols:Int)<=(n:Int):=by omega
       by_cases hnc:n=col
       ·subst hnc
        have v2:((n:Int)==(n:Int))=true:=beq_self_eq_true _;cases q
        ·have hR:=hid (HB1.out (.inr ⟨rfl,rfl⟩))
         go_wp2;go_ret3;exact SplitEnd.err hR.out HU2.out
        ·have hm2:=hmq rfl
         obtain⟨x,hx⟩:∃ x,d.extract (a+1) (m-1)=x:=⟨_,rfl⟩;have hxs:x.size<=d.size:=by rw[<- hx];simp;omega
         have hxl:x.data.toList=St.cutL d.data.toList (a+1) (m-1):=by rw[<- hx,cut_list]
         have hdc:=rdecode_err x;have hei:(dE x.data.toList).1<=x.size:=by rw[dE_of];exact sheetD_at x
         rw[hxl] at hdc hei;have hb2:=HB2.out (by simp;omega);have hb3:=HB3.out (by simp;omega);rw[if_pos rfl] at hb3;generalize dE (St.cutL d.data.toList (a+1) (m-1))=ev at hdc hei hb2 hb3;obtain⟨ei,er⟩:=ev;simp only at hdc hei hb2 hb3;have HDC:=hid hdc;have HC2:=hid hb2;have HC3:=hid hb3;have w1:(0:Int)<=(a:Int)+1:=by omega
         have w2':(a:Int)+1<=(m:Int)-1:=by omega
         have w3:(m:Int)-1<=d.size:=by omega
         have w4:((a:Int)+1).toNat=a+1:=by omega
         have w5:((m:Int)-1).toNat=m-1:=by omega
         clear hdc hb2 hb3 hxl HB1 HB2 HB3;go_wp2_with fail;refine(HDC.out _ (by omega)).mono ?_;rintro e w3' ⟨v1',v2',rfl,hu3⟩;have HR2':=hid (HR2.out.und hu3);have HU2':=hid (HU2.out.trans hu3);clear HR2 HU2 hu3 HDC
         by_cases her:er=0
         ·subst her
          have HH2:=hid (HC3.out (fun h=>h.2 rfl));have hun:=fun W (hRV:RV W w.heap.size w.heap.size d s1) (hs:w.heap.size<=W.heap.size)=>runit_any W w.heap.size w.heap.size d ⟨(Lib.decDigits r).toArray⟩ s1 (a+1) (m-1) hRV (by omega) (by omega) (by omega) (by omega) (by omega) hs
          rw[show ((a+1:Nat):Int)=(a:Int)+1 by omega,show ((m-1:Nat):Int)=(m:Int)-1 by omega] at hun;have HUN:=hid hun;clear hun;clear HC2 HC3;go_wp2_with fail;refine(Decimal_any r _ (by omega)).mono ?_;rintro e w4' ⟨rfl,hu4⟩;have HR4:=hid (HR2'.out.und hu4);have HU4:=hid (HU2'.out.trans hu4);clear HR2' HU2' hu4;go_wp2_with fail;refine(HUN.out _ HR4.out HU4.out.size).mono ?_;rintro e w5' ⟨rfl,hRV5,hbl,_⟩;have hu5:Und w w5':=Und.of_below (Below.trans HU4.out.below hbl);have hRV5':RV w5' w.heap.size w.heap.size d (St.unitS d.data.toList s1 (a+1) (m-1) (Lib.decDigits r)):=by simpa using hRV5
          have hs5:(St.unitS d.data.toList s1 (a+1) (m-1) (Lib.decDigits r)).2<=m:=by show m-1<=m;omega
          have hs6:(St.unitS d.data.toList s1 (a+1) (m-1) (Lib.decDigits r)).1.length<=2*(a+1):=by show (s1.1++[_,_]).length<=_;simp;omega
          generalize St.unitS d.data.toList s1 (a+1) (m-1) (Lib.decDigits r)=s2 at HH2 hRV5' hs5 hs6;have HR3:=hid hRV5';have HU3:=hid hu5;clear hRV5 hRV5' hu5 hbl HR4 HU4 HUN;rcases Nat.lt_or_ge m d.size with hml|hml
          ·have hcons:=St.drop_at d m hml
           have y1:¬ (d.size:Int)<=(m:Int):=by omega
           have y3:(m:Int)<d.size:=by omega
           by_cases c10:d[m].toNat=10
           ·have y2:((d[m].toNat:Int)==10)=true:=by simp;omega
            have hh3:=HH2.out;rw[hcons] at hh3;simp only[c10,if_true] at hh3;have HH3:=hid hh3;clear hh3 hcons
            by_cases hw:n+1<cols
            ·have hw':(n:Int)+1<(cols:Int):=by omega
             have hR:=hid ((HS.out).trans (congrArg _ (St.recs_few HAL.out HH3.out hw)));go_wp2;go_ret3;exact SplitEnd.err hR.out HU3.out
            ·have hw':¬ (n:Int)+1<(cols:Int):=by omega
             have hR:=hid ((HS.out).trans (congrArg _ (St.recs_ok0 HAL.out HH3.out hw)));clear HH3 HH2;go_wp2;refine⟨⟨HU3.out,.inr ⟨m+1,r+1,cols,_,fuel0,s2,congrArg (Value.int .i64) (by omega),rfl,rfl,congrArg (Value.int .i64) (by omega),by omega,by omega,by omega,by omega,by omega,by omega,by omega,by omega,by omega,HR3.out,hR.out⟩⟩,?_⟩;have o1:=osM_pos d r (.int .i64 a0) hr1;have o2:=osM_pos d (r+1) (.int .i64 ((m+1:Nat):Int)) (by omega);simp only[Int.natCast_add,Int.cast_ofNat_Int] at o1 o2 ⊢;rw[o1,o2];simp[intOf];omega
           ·have y2:((d[m].toNat:Int)==10)=false:=by simp;omega
            have hh3:=HH2.out;rw[hcons] at hh3;simp only[c10,if_false] at hh3;have HH3:=hid hh3;clear hh3 hcons;go_wp2;refine⟨⟨m+1,n+1,fuel,s2,congrArg (Value.int .i64) (by omega),rfl,congrArg (Value.int .i64) (by omega),by omega,by omega,by omega,by omega,HH3.out,HR3.out,by omega,by omega,by omega,HU3.out⟩,by simp[intOf];omega⟩
          ·have hme:m=d.size:=by omega
           subst hme;have hnil:=St.drop_all d d.size (by omega);have y1:(d.size:Int)<=(d.size:Int):=by omega
           have hh3:=HH2.out;rw[hnil] at hh3;simp only[] at hh3;have HH3:=hid hh3;clear hh3 hnil
           by_cases hw:n+1<cols
           ·have hw':(n:Int)+1<(cols:Int):=by omega
            have hR:=hid ((HS.out).trans (congrArg _ (St.recs_few HAL.out HH3.out hw)));go_wp2;go_ret3;exact SplitEnd.err hR.out HU3.out
           ·have hw':¬ (n:Int)+1<(cols:Int):=by omega
            have hR:=hid ((HS.out).trans (congrArg _ (St.recs_ok0 HAL.out HH3.out hw)));clear HH3 HH2;go_wp2;refine⟨⟨HU3.out,.inr ⟨d.size+1,r+1,cols,_,fuel0,s2,congrArg (Value.int .i64) (by omega),rfl,rfl,congrArg (Value.int .i64) (by omega),by omega,by omega,by omega,by omega,by omega,by omega,by omega,by omega,by omega,HR3.out,hR.out⟩⟩,?_⟩;have o1:=osM_pos d r (.int .i64 a0) hr1;have o2:=osM_pos d (r+1) (.int .i64 ((d.size+1:Nat):Int)) (by omega);simp only[Int.natCast_add,Int.cast_ofNat_Int] at o1 o2 ⊢;rw[o1,o2];simp[intOf];omega
         ·have her':(er==0)=false:=by simpa using her
          have hR:=hid (HC2.out ⟨trivial,her⟩);clear HC2 HC3 HR2';go_wp2;go_ret3;have hsum:(a:Int)+1+(ei:Int)=((a+1+ei:Nat):Int):=by omega
          try rw[hsum]
          exact SplitEnd.err hR.out HU2'.out
       ·have v2:((n:Int)==(col:Int))=false:=by simp;omega
        have hh:=HB3.out (by omega) (by omega);rw[if_neg hnc] at hh;have HH2:=hid hh;obtain⟨s2,hs2e⟩:∃ s2,s2=s1:=⟨_,rfl⟩;rw[<- hs2e] at HH2 hs3 hs3' hs4 HR2;have HR3:=hid HR2.out;have HU3:=hid HU2.out;have hs5:s2.2<=m:=by omega
        have hs6:s2.1.length<=2*(a+1):=by omega
        clear hh HR2 HU2 HB1 HB2 HB3 hs2e;rcases Nat.lt_or_ge m d.size with hml|hml
        ·have hcons:=St.drop_at d m hml
         have y1:¬ (d.size:Int)<=(m:Int):=by omega
         have y3:(m:Int)<d.size:=by omega
         by_cases c10:d[m].toNat=10
         ·have y2:((d[m].toNat:Int)==10)=true:=by simp;omega
          have hh3:=HH2.out;rw[hcons] at hh3;simp only[c10,if_true] at hh3;have HH3:=hid hh3;clear hh3 hcons
          by_cases hw:n+1<cols
          ·have hw':(n:Int)+1<(cols:Int):=by omega
           have hR:=hid ((HS.out).trans (congrArg _ (St.recs_few HAL.out HH3.out hw)));go_wp2;go_ret3;exact SplitEnd.err hR.out HU3.out
          ·have hw':¬ (n:Int)+1<(cols:Int):=by omega
           have hR:=hid ((HS.out).trans (congrArg _ (St.recs_ok0 HAL.out HH3.out hw)));clear HH3 HH2;go_wp2;refine⟨⟨HU3.out,.inr ⟨m+1,r+1,cols,_,fuel0,s2,congrArg (Value.int .i64) (by omega),rfl,rfl,congrArg (Value.int .i64) (by omega),by omega,by omega,by omega,by omega,by omega,by omega,by omega,by omega,by omega,HR3.out,hR.out⟩⟩,?_⟩;have o1:=osM_pos d r (.int .i64 a0) hr1;have o2:=osM_pos d (r+1) (.int .i64 ((m+1:Nat):Int)) (by omega);simp only[Int.natCast_add,Int.cast_ofNat_Int] at o1 o2 ⊢;rw[o1,o2];simp[intOf];omega
         ·have y2:((d[m].toNat:Int)==10)=false:=by simp;omega
          have hh3:=HH2.out;rw[hcons] at hh3;simp only[c10,if_false] at hh3;have HH3:=hid hh3;clear hh3 hcons;go_wp2;refine⟨⟨m+1,n+1,fuel,s2,congrArg (Value.int .i64) (by omega),rfl,congrArg (Value.int .i64) (by omega),by omega,by omega,by omega,by omega,HH3.out,HR3.out,by omega,by omega,by omega,HU3.out⟩,by simp[intOf];omega⟩
        ·have hme:m=d.size:=by omega
         subst hme;have hnil:=St.drop_all d d.size (by omega);have y1:(d.size:Int)<=(d.size:Int):=by omega
         have hh3:=HH2.out;rw[hnil] at hh3;simp only[] at hh3;have HH3:=hid hh3;clear hh3 hnil
         by_cases hw:n+1<cols
         ·have hw':(n:Int)+1<(cols:Int):=by omega
          have hR:=hid ((HS.out).trans (congrArg _ (St.recs_few HAL.out HH3.out hw)));go_wp2;go_ret3;exact SplitEnd.err hR.out HU3.out
         ·have hw':¬ (n:Int)+1<(cols:Int):=by omega
          have hR:=hid ((HS.out).trans (congrArg _ (St.recs_ok0 HAL.out HH3.out hw)));clear HH3 HH2;go_wp2;refine⟨⟨HU3.out,.inr ⟨d.size+1,r+1,cols,_,fuel0,s2,congrArg (Value.int .i64) (by omega),rfl,rfl,congrArg (Value.int .i64) (by omega),by omega,by omega,by omega,by omega,by omega,by omega,by omega,by omega,by omega,HR3.out,hR.out⟩⟩,?_⟩;have o1:=osM_pos d r (.int .i64 a0) hr1;have o2:=osM_pos d (r+1) (.int .i64 ((d.size+1:Nat):Int)) (by omega);simp only[Int.natCast_add,Int.cast_ofNat_Int] at o1 o2 ⊢;rw[o1,o2];simp[intOf];omega
   ·have z:¬ (a0:Int)<d.size:=by omega
    have hR:=HS.out;rw[St.recs_end _ _ _ _ (by rw[HLEN.out];omega)] at hR;have HR:=hid hR;clear hR HS;go_wp2_with fail;refine(rend_any _ w.heap.size w.heap.size d s HRV.out (by omega) (by omega) (by omega) HU.out.size).mono ?_;rintro e w3 ⟨A,c,rfl,hp,h1,h2,hbl⟩;have hu3:Und w w3:=Und.of_below (Below.trans HU.out.below hbl);have HE:=hid (And.intro hp hu3);clear hp hu3 hbl;go_wp2;go_ret3;unfold SplitEnd;rw[HR.out];have hq1:=hid h1;clear h1;exact⟨A,c,by simp[St.endS,St.endR],HE.out.1,by simpa [St.endS,St.endR] using hq1.out,h2,HE.out.2⟩
theorem rsplit_any(d:ByteArray)(w:World)(hd63:d.size<=4611686018427387904):Calls Tryz.prog 60 #[.int .i64 3,.string d] w (SplitEnd (sheetS d) w):=by
 by_cases hbig:65536<d.size
 ·have hR:sheetS d=([],0,3):=by unfold sheetS St.splitS;rw[if_pos (by rw[St.len_list];omega)]
  have HR:=hid hR;have hb:(65536:Int)<d.size:=by omega
  clear hR;go_enter Tryz.func60,Tryz.ntmps60;go_wp2;go_ret3;exact SplitEnd.err HR.out (Und.refl _)
 ·have hb:¬ (65536:Int)<d.size:=by omega
  have HS:=hid (rsplitSheet_any d w (by omega));go_enter Tryz.func60,Tryz.ntmps60;go_wp2_with fail;refine HS.out.mono ?_;rintro e w' ⟨A,c,rfl,hp,h1,h2,hu⟩;have HP:=hid hp;clear hp;go_wp2;go_ret3;exact⟨A,c,rfl,HP.out,h1,h2,hu⟩
end
end Go.Proofs.YthoemdibbldndaaGreatDoor.Sh
