/- The splitting of the three formats, as the document's package and the reference call it. -/
import Derived.Test.YthoemdibbldndaaGreatDoorDcD
import Derived.Test.YthoemdibbldndaaGreatDoorDocR
import Derived.Test.YthoemdibbldndaaGreatDoorRMkSpl
import Derived.Test.YthoemdibbldndaaGreatDoorRsC
import Derived.Test.YthoemdibbldndaaGreatDoorShC
set_option linter.unusedVariables false
set_option linter.unusedSimpArgs false
namespace Go.Proofs.YthoemdibbldndaaGreatDoor
open Go.RowKit
section
def S2(l:List UInt8):List St.Pt × Nat × Int:=St.splitR dE l
def S3(l:List UInt8):List St.Pt × Nat × Int:=St.splitS Sh.dE Lib.decDigits l
theorem rs1:RsAt 1 St.S1:=⟨.inl rfl,fun d W hd=>Mk.rsplit_any d W (by omega)⟩
theorem rs2:RsAt 2 S2:=⟨.inr (.inl rfl),fun d W hd=>rsplit_any d W (by omega)⟩
theorem rs3:RsAt 3 S3:=⟨.inr (.inr rfl),fun d W hd=>Sh.rsplit_any d W (by omega)⟩
def SOf(fmt:Int):List UInt8->List St.Pt × Nat × Int:=if fmt=1 then St.S1 else if fmt=2 then S2 else S3
theorem rsOf(fmt:Int)(h:fmt=1∨fmt=2∨fmt=3):RsAt fmt (SOf fmt):=by
 rcases h with rfl|rfl|rfl
 ·exact rs1
 ·exact rs2
 ·exact rs3
end
section
def InvS(d:List UInt8)(s:St.PS):Prop:=s.1.length % 2=0/\(∀ i (h:i<s.1.length),s.1[i].1=decide (i % 2=1)/\(s.1[i].2.1=[] ↔ s.1[i].1=false)/\(s.1[i].1=true->(dE s.1[i].2.2).2=0))/\s.1.flatMap (·.2.2)=d.take s.2/\s.2<=d.length
theorem inv_nil(d:List UInt8):InvS d ([],0):=⟨rfl,fun i h=>by simp at h,by simp,by simp⟩
theorem cut_join(d:List UInt8)(a b:Nat)(h:a<=b):d.take a++St.cutL d a b=d.take b:=by
 unfold St.cutL
 conv=>rhs;rw[<- List.take_append_drop a (d.take b)]
 rw[List.take_take,Nat.min_eq_left h]
theorem inv_unit{d:List UInt8}{s:St.PS}{a b:Nat}{key:List UInt8}(h:InvS d s)(h1:s.2<=a)(h2:a<=b)(h3:b<=d.length)(hk:key ≠ [])(he:(dE (St.cutL d a b)).2=0):InvS d (St.unitS d s a b key):=by
 obtain⟨i1,i2,i3,i4⟩:=h;unfold St.unitS;refine⟨by simp;omega,fun i hi=>?_,?_,h3⟩
 ·simp only[List.length_append,List.length_cons,List.length_nil] at hi
  by_cases hlt:i<s.1.length
  ·simp only[List.getElem_append_left hlt];exact i2 i hlt
  ·simp only[List.getElem_append_right (Nat.le_of_not_lt hlt)]
   rcases(show i-s.1.length=0∨i-s.1.length=1 by omega) with hq|hq
   ·simp only[hq,List.getElem_cons_zero]
    refine⟨by rw[decide_eq_false (by omega)],by simp,by simp⟩
   ·simp only[hq,List.getElem_cons_succ,List.getElem_cons_zero]
    refine⟨by rw[decide_eq_true (by omega)],by simp[hk],fun _=>he⟩
 ·simp only[List.flatMap_append,List.flatMap_cons,List.flatMap_nil,List.append_nil]
  rw[i3,<- List.append_assoc,cut_join d _ _ h1,cut_join d _ _ h2]
def PartsOk(d:List UInt8)(ps:List St.Pt):Prop:=ps.length % 2=1/\(∀ i (h:i<ps.length),ps[i].1=decide (i % 2=1)/\(ps[i].2.1=[] ↔ ps[i].1=false)/\(ps[i].1=true->(dE ps[i].2.2).2=0))/\ps.flatMap (·.2.2)=d
theorem inv_end{d:List UInt8}{s:St.PS}(h:InvS d s):PartsOk d (St.endS d s):=by
 obtain⟨i1,i2,i3,i4⟩:=h;unfold St.endS;refine⟨by simp;omega,fun i hi=>?_,?_⟩
 ·simp only[List.length_append,List.length_singleton] at hi
  by_cases hlt:i<s.1.length
  ·simp only[List.getElem_append_left hlt];exact i2 i hlt
  ·simp only[List.getElem_append_right (Nat.le_of_not_lt hlt)]
   have hq:i-s.1.length=0:=by omega
   simp only[hq,List.getElem_cons_zero];refine⟨by rw[decide_eq_false (by omega)],by simp,by simp⟩
 ·simp only[List.flatMap_append,List.flatMap_cons,List.flatMap_nil,List.append_nil]
  rw[i3];simp
theorem take_ne{l:List UInt8}{n:Nat}(h:n ≠ 0)(hl:n<=l.length):l.take n ≠ []:=by
 intro e;have h2:=congrArg List.length e;rw[List.length_take,List.length_nil] at h2;omega
theorem inv_res{d:List UInt8}:∀ (fuel a:Nat) (s s':St.PS),InvS d s->s.2<=a->St.resS dE d fuel a s=.ok s'->InvS d s'
 | 0,a,s,s',hi,_,h=>by simp[St.resS] at h;subst h;exact hi
 | fuel+1,a,s,s',hi,ha,h=>by
  by_cases hl:d.length<=a
  ·rw[St.resS_end hl] at h;cases h;exact hi
  ·cases h1:St.skipB (d.drop a) with
   | true=>
    rw[St.resS_skip hl h1] at h;exact inv_res fuel _ s s' hi (by have:=St.lineN_le (d.drop a);simp at this;omega) h
   | false=>
    by_cases h2:St.keyN (d.drop a)=0∨64<St.keyN (d.drop a)∨((d.drop (a+St.keyN (d.drop a))).head?.map UInt8.toNat) ≠ some 61
    ·rw[St.resS_bad hl h1 h2] at h;cases h
    ·cases h3:St.hasK s.1 (St.cutL d a (a+St.keyN (d.drop a))) with
     | true=>rw[St.resS_dup hl h1 h2 h3] at h;cases h
     | false=>
      have hk:=St.keyN_le (d.drop a);obtain⟨n,hn⟩:∃ n,St.keyN (d.drop a)=n:=⟨_,rfl⟩;obtain⟨b,hb⟩:∃ b,a+n+1=b:=⟨_,rfl⟩;obtain⟨t,ht⟩:∃ t,b+St.endN (d.drop b)=t:=⟨_,rfl⟩;have he:=St.endN_le (d.drop b)
      have hlt:a+n<d.length:=by
       rcases Nat.lt_or_ge (a+n) d.length with hq|hq
       ·exact hq
       ·exfalso
        apply h2;rw[hn,List.drop_of_length_le hq];exact .inr (.inr (by simp))
      simp only[List.length_drop] at he hk
      by_cases h4:(dE (St.cutL d b t)).2=0
      ·rw[St.resS_unit hl h1 h2 h3 hn hb ht h4] at h
       refine inv_res fuel _ _ s' (inv_unit hi (by omega) (by omega) (by omega) ?_ h4) ?_ h
       ·unfold St.cutL
        rw[List.drop_take];refine take_ne ?_ ?_
        ·have:=(not_or.1 h2).1;omega
        ·simp;omega
       ·show t<=_
        omega
      ·rw[St.resS_err hl h1 h2 h3 hn hb ht h4] at h;cases h
theorem res_noerr{d:List UInt8}:∀ (fuel a:Nat) (s:St.PS) (x:Nat),St.resS dE d fuel a s ≠ .error (x,0)
 | 0,a,s,x=>by simp[St.resS]
 | fuel+1,a,s,x=>by
  intro h
  by_cases hl:d.length<=a
  ·rw[St.resS_end hl] at h;cases h
  ·cases h1:St.skipB (d.drop a) with
   | true=>rw[St.resS_skip hl h1] at h;exact res_noerr fuel _ s x h
   | false=>
    by_cases h2:St.keyN (d.drop a)=0∨64<St.keyN (d.drop a)∨((d.drop (a+St.keyN (d.drop a))).head?.map UInt8.toNat) ≠ some 61
    ·rw[St.resS_bad hl h1 h2] at h;simp at h
    ·cases h3:St.hasK s.1 (St.cutL d a (a+St.keyN (d.drop a))) with
     | true=>rw[St.resS_dup hl h1 h2 h3] at h;simp at h
     | false=>
      by_cases h4:(dE (St.cutL d (a+St.keyN (d.drop a)+1) (a+St.keyN (d.drop a)+1+St.endN (d.drop (a+St.keyN (d.drop a)+1))))).2=0
      ·rw[St.resS_unit hl h1 h2 h3 rfl rfl rfl h4] at h;exact res_noerr fuel _ _ x h
      ·rw[St.resS_err hl h1 h2 h3 rfl rfl rfl h4] at h
       simp only[Except.error.injEq,Prod.mk.injEq] at h;exact h4 h.2
theorem resT_parts(d:ByteArray)(h:(resT d).2.2=0):PartsOk d.data.toList (resT d).1:=by
 unfold resT at h ⊢
 by_cases h0:65536<d.data.toList.length
 ·unfold St.splitR at h;rw[if_pos h0] at h;cases h
 ·rw[St.splitR_ok h0] at h ⊢
  cases hr:St.resS dE d.data.toList (d.data.toList.length+1) 0 ([],0) with
  | error x=>
   obtain⟨a,er⟩:=x;rw[hr] at h;have:er=0:=h
   subst this;exact absurd hr (res_noerr _ _ _ _)
  | ok s=>exact inv_end (inv_res _ _ _ _ (inv_nil _) (by simp) hr)
end
end Go.Proofs.YthoemdibbldndaaGreatDoor
namespace Go.Proofs.YthoemdibbldndaaGreatDoor.Sh
open Go.RowKit Go.Proofs.YthoemdibbldndaaGreatDoor.St
namespace St
theorem recs_ok0'{dE:List UInt8->Nat × Int}{dig:Nat->List UInt8}{d:List UInt8}{W C fuel a r e n:Nat}{s s':PS}(h:¬ d.length<=a)(hr:recS dE d W C (dig r) (d.length+1) a 0 s=.ok (e,n,s'))(hn:¬ n<W):recsS dE dig d W C (fuel+1) a r s=recsS dE dig d W C fuel (e+1) (r+1) s':=by
 rw[recsS,if_neg h,hr];simp only[];rw[if_neg hn]
theorem split_ok0'{dE:List UInt8->Nat × Int}{dig:Nat->List UInt8}{d:List UInt8}{e n tx c:Nat}(h0:¬ 65536<d.length)(h:headS d (d.length+1) 0 0 0 0=.ok (e,n,tx,c))(ht:tx ≠ 0)(ht2:¬ 1<tx):splitS dE dig d=endR d (recsS dE dig d n c (d.length+1) (e+1) 1 ([],0)):=by
 rw[splitS,if_neg h0,h];simp only[];rw[if_neg ht,if_neg ht2];cases recsS dE dig d n c (d.length+1) (e+1) 1 ([],0) <;> rfl
end St
def InvS(d:List UInt8)(s:St.PS):Prop:=s.1.length % 2=0/\(∀ i (h:i<s.1.length),s.1[i].1=decide (i % 2=1)/\(s.1[i].2.1=[] ↔ s.1[i].1=false)/\(s.1[i].1=true->(dE s.1[i].2.2).2=0))/\s.1.flatMap (·.2.2)=d.take s.2/\s.2<=d.length
theorem inv_nil(d:List UInt8):InvS d ([],0):=⟨rfl,fun i h=>by simp at h,by simp,by simp⟩
theorem cut_join(d:List UInt8)(a b:Nat)(h:a<=b):d.take a++St.cutL d a b=d.take b:=by
 unfold St.cutL
 conv=>rhs;rw[<- List.take_append_drop a (d.take b)]
 rw[List.take_take,Nat.min_eq_left h]
theorem inv_unit{d:List UInt8}{s:St.PS}{a b:Nat}{key:List UInt8}(h:InvS d s)(h1:s.2<=a)(h2:a<=b)(h3:b<=d.length)(hk:key ≠ [])(he:(dE (St.cutL d a b)).2=0):InvS d (St.unitS d s a b key):=by
 obtain⟨i1,i2,i3,i4⟩:=h;unfold St.unitS;refine⟨by simp;omega,fun i hi=>?_,?_,h3⟩
 ·simp only[List.length_append,List.length_cons,List.length_nil] at hi
  by_cases hlt:i<s.1.length
  ·simp only[List.getElem_append_left hlt];exact i2 i hlt
  ·simp only[List.getElem_append_right (Nat.le_of_not_lt hlt)]
   rcases(show i-s.1.length=0∨i-s.1.length=1 by omega) with hq|hq
   ·simp only[hq,List.getElem_cons_zero]
    refine⟨by rw[decide_eq_false (by omega)],by simp,by simp⟩
   ·simp only[hq,List.getElem_cons_succ,List.getElem_cons_zero]
    refine⟨by rw[decide_eq_true (by omega)],by simp[hk],fun _=>he⟩
 ·simp only[List.flatMap_append,List.flatMap_cons,List.flatMap_nil,List.append_nil]
  rw[i3,<- List.append_assoc,cut_join d _ _ h1,cut_join d _ _ h2]
def PartsOk(d:List UInt8)(ps:List St.Pt):Prop:=ps.length % 2=1/\(∀ i (h:i<ps.length),ps[i].1=decide (i % 2=1)/\(ps[i].2.1=[] ↔ ps[i].1=false)/\(ps[i].1=true->(dE ps[i].2.2).2=0))/\ps.flatMap (·.2.2)=d
theorem inv_end{d:List UInt8}{s:St.PS}(h:InvS d s):PartsOk d (St.endS d s):=by
 obtain⟨i1,i2,i3,i4⟩:=h;unfold St.endS;refine⟨by simp;omega,fun i hi=>?_,?_⟩
 ·simp only[List.length_append,List.length_singleton] at hi
  by_cases hlt:i<s.1.length
  ·simp only[List.getElem_append_left hlt];exact i2 i hlt
  ·simp only[List.getElem_append_right (Nat.le_of_not_lt hlt)]
   have hq:i-s.1.length=0:=by omega
   simp only[hq,List.getElem_cons_zero];refine⟨by rw[decide_eq_false (by omega)],by simp,by simp⟩
 ·simp only[List.flatMap_append,List.flatMap_cons,List.flatMap_nil,List.append_nil]
  rw[i3];simp
theorem inv_rec{d key:List UInt8}{W C:Nat}(hk:key ≠ []):∀ (fuel a n:Nat) (s:St.PS) (e m:Nat) (s':St.PS),InvS d s->s.2<=a->St.recS dE d W C key fuel a n s=.ok (e,m,s')->InvS d s'/\s'.2<=e/\a<=e
 | 0,a,n,s,e,m,s',_,_,h=>by simp[St.recS] at h
 | fuel+1,a,n,s,e,m,s',hi,ha,h=>by
  cases hf:St.fieldL (d.drop a) with
  | none=>rw[St.rec_none hf] at h;cases h
  | some x=>
   obtain⟨k,q⟩:=x
   by_cases hb:W<=n∨(n=C/\q=false)
   ·rw[St.rec_bad hf hb] at h;cases h
   ·by_cases he:n=C/\(dE (St.cutL d (a+1) (a+k-1))).2 ≠ 0
    ·rw[St.rec_dec hf hb he] at h;cases h
    ·rw[St.rec_step hf hb he] at h
     obtain⟨hk1,hkq⟩:=St.field_len hf;simp only[List.length_drop] at hk1
     have hs':InvS d (if n=C then St.unitS d s (a+1) (a+k-1) key else s)/\(if n=C then St.unitS d s (a+1) (a+k-1) key else s).2<=a+k:=by
      by_cases hnc:n=C
      ·rw[if_pos hnc]
       have hq:q=true:=by
        cases q
        ·exact absurd (.inr ⟨hnc,rfl⟩) hb
        ·rfl
       have h2:=hkq hq;have hal:a+k<=d.length:=by omega
       refine⟨inv_unit hi (by omega) (by omega) (by omega) hk ?_,by show a+k-1<=_;omega⟩
       by_cases hz:(dE (St.cutL d (a+1) (a+k-1))).2=0
       ·exact hz
       ·exact absurd ⟨hnc,hz⟩ he
      ·rw[if_neg hnc];exact⟨hi,by omega⟩
     generalize (if n=C then St.unitS d s (a+1) (a+k-1) key else s)=s2 at h hs';obtain⟨h1,h2⟩:=hs'
     split at h
     ·simp only[Except.ok.injEq,Prod.mk.injEq] at h
      obtain⟨rfl,_,rfl⟩:=h;exact⟨h1,h2,by omega⟩
     ·split at h
      ·simp only[Except.ok.injEq,Prod.mk.injEq] at h
       obtain⟨rfl,_,rfl⟩:=h;exact⟨h1,h2,by omega⟩
      ·have:=inv_rec hk fuel (a+k+1) (n+1) s2 e m s' h1 (by omega) h
       exact⟨this.1,this.2.1,by omega⟩
theorem inv_recs{d:List UInt8}{W C:Nat}:∀ (fuel a r:Nat) (s s':St.PS),InvS d s->s.2<=a->St.recsS dE Lib.decDigits d W C fuel a r s=.ok s'->InvS d s'
 | 0,a,r,s,s',hi,_,h=>by simp[St.recsS] at h;subst h;exact hi
 | fuel+1,a,r,s,s',hi,ha,h=>by
  by_cases hl:d.length<=a
  ·rw[St.recs_end _ _ _ _ hl] at h;cases h;exact hi
  ·cases hr:St.recS dE d W C (Lib.decDigits r) (d.length+1) a 0 s with
   | error x=>rw[St.recs_err hl hr] at h;cases h
   | ok x=>
    obtain⟨e,n,s2⟩:=x
    have hkey:Lib.decDigits r ≠ []:=by
     unfold Lib.decDigits;split <;> simp
    have hv:=inv_rec hkey _ _ _ _ _ _ _ hi ha hr
    by_cases hn:n<W
    ·rw[St.recs_few hl hr hn] at h;cases h
    ·rw[St.recs_ok0' hl hr hn] at h
     exact inv_recs fuel (e+1) (r+1) s2 s' hv.1 (by omega) h
theorem sheetS_parts(d:ByteArray)(h:(sheetS d).2.2=0):PartsOk d.data.toList (sheetS d).1:=by
 unfold sheetS at h ⊢
 by_cases h0:65536<d.data.toList.length
 ·unfold St.splitS at h;rw[if_pos h0] at h;cases h
 ·cases hh:St.headS d.data.toList (d.data.toList.length+1) 0 0 0 0 with
  | error x=>
   obtain⟨a,er⟩:=x
   have hne:er ≠ 0:=by
    intro e;subst e
    have:∀ (fuel a n t c x:Nat),St.headS d.data.toList fuel a n t c ≠ .error (x,0):=by
     intro fuel
     induction fuel with
     | zero=>intro a n t c x h;simp[St.headS] at h
     | succ fuel ih=>
      intro a n t c x h;cases hf:St.fieldL (d.data.toList.drop a) with
      | none=>rw[St.head_none hf] at h;simp at h
      | some y=>
       obtain⟨k,q⟩:=y;rw[St.head_step hf] at h
       split at h
       ·cases h
       ·split at h
        ·cases h
        ·exact ih _ _ _ _ _ h
    exact this _ _ _ _ _ _ hh
   rw[St.split_err h0 hh] at h;exact absurd h hne
  | ok x=>
   obtain⟨e,n,tx,c⟩:=x
   by_cases ht:tx=0
   ·rw[St.split_none h0 hh ht] at h;cases h
   ·by_cases ht2:1<tx
    ·rw[St.split_many h0 hh ht ht2] at h;cases h
    ·rw[St.split_ok0' h0 hh ht ht2] at h ⊢
     cases hr:St.recsS dE Lib.decDigits d.data.toList n c (d.data.toList.length+1) (e+1) 1 ([],0) with
     | error x=>
      obtain⟨a,er⟩:=x
      have hne:er ≠ 0:=by
       intro e0;subst e0
       have hrec:∀ (fuel a m x:Nat) (key:List UInt8) (s:St.PS),St.recS dE d.data.toList n c key fuel a m s ≠ .error (x,0):=by
        intro fuel
        induction fuel with
        | zero=>intro a m x key s h;simp[St.recS] at h
        | succ fuel ih=>
         intro a m x key s h;cases hf:St.fieldL (d.data.toList.drop a) with
         | none=>rw[St.rec_none hf] at h;simp at h
         | some y=>
          obtain⟨k,q⟩:=y
          by_cases hb:n<=m∨(m=c/\q=false)
          ·rw[St.rec_bad hf hb] at h;simp at h
          ·by_cases he:m=c/\(dE (St.cutL d.data.toList (a+1) (a+k-1))).2 ≠ 0
           ·rw[St.rec_dec hf hb he] at h
            simp only[Except.error.injEq,Prod.mk.injEq] at h;exact he.2 h.2
           ·rw[St.rec_step hf hb he] at h
            split at h
            ·cases h
            ·split at h
             ·cases h
             ·exact ih _ _ _ _ _ h
       have hrecs:∀ (fuel a r x:Nat) (s:St.PS),St.recsS dE Lib.decDigits d.data.toList n c fuel a r s ≠ .error (x,0):=by
        intro fuel
        induction fuel with
        | zero=>intro a r x s h;simp[St.recsS] at h
        | succ fuel ih=>
         intro a r x s h
         by_cases hl:d.data.toList.length<=a
         ·rw[St.recs_end _ _ _ _ hl] at h;cases h
         ·cases hr:St.recS dE d.data.toList n c (Lib.decDigits r) (d.data.toList.length+1) a 0 s with
          | error y=>
           rw[St.recs_err hl hr] at h;simp only[Except.error.injEq] at h;subst h;exact hrec _ _ _ _ _ _ hr
          | ok y=>
           obtain⟨e',n',s2⟩:=y
           by_cases hn:n'<n
           ·rw[St.recs_few hl hr hn] at h;simp at h
           ·rw[St.recs_ok0' hl hr hn] at h;exact ih _ _ _ _ h
       exact hrecs _ _ _ _ _ hr
      rw[hr] at h;exact absurd h hne
     | ok s=>exact inv_end (inv_recs _ _ _ _ _ (inv_nil _) (by simp) hr)
end Go.Proofs.YthoemdibbldndaaGreatDoor.Sh
namespace Go.Proofs.YthoemdibbldndaaGreatDoor
open Go.RowKit
def FromS(fmt:Int)(ps:List St.Pt):Prop:=(fmt=1∨fmt=2∨fmt=3)/\∃ (d:List UInt8) (pl:Nat),d.length<=1000000/\SOf fmt d=(ps,pl,0)
theorem sof_raw{fmt:Int}(hk:fmt=1∨fmt=2∨fmt=3){d:List UInt8}{ps:List St.Pt}{pl:Nat}(h:SOf fmt d=(ps,pl,0)):St.rawP ps=d:=by
 rcases hk with rfl|rfl|rfl
 ·have h0:St.splitM Mk.dE Lib.decDigits d=(ps,pl,0):=h
  have:=(St.splitM_parts (dE:=Mk.dE) (dig:=Lib.decDigits) (fun n=>by unfold Lib.decDigits;split <;> simp) (d:=d) (by rw[h0])).2.2
  rw[h0] at this;exact this
 ·have h0:resT ⟨d.toArray⟩=(ps,pl,0):=h
  have:=(resT_parts ⟨d.toArray⟩ (by rw[h0])).2.2
  rw[h0] at this
  show ps.flatMap (·.2.2)=d
  simpa using this
 ·have h0:Sh.sheetS ⟨d.toArray⟩=(ps,pl,0):=h
  have:=(Sh.sheetS_parts ⟨d.toArray⟩ (by rw[h0])).2.2
  rw[h0] at this
  show ps.flatMap (·.2.2)=d
  simpa using this
theorem FromS.raw{fmt:Int}{ps:List St.Pt}(h:FromS fmt ps):(St.rawP ps).length<=1000000:=by
 obtain⟨hk,d,pl,hd,hs⟩:=h;rw[sof_raw hk hs];exact hd
end Go.Proofs.YthoemdibbldndaaGreatDoor
