/- The splitting of the three formats, as the document's package and the reference call it. -/
import Derived.Test.YthoemdibbldndaaGreatDoorDcD
import Derived.Test.YthoemdibbldndaaGreatDoorDcE
import Derived.Test.YthoemdibbldndaaGreatDoorRMkSpl
import Derived.Test.YthoemdibbldndaaGreatDoorRsC
import Derived.Test.YthoemdibbldndaaGreatDoorShC
set_option linter.all false
set_option maxHeartbeats 0
namespace Go.Proofs.YthoemdibbldndaaGreatDoor
open Go.RowKit
section
def S2(l:List UInt8):List St.Pt × Nat × Int:=St.lG dE l
def S3(l:List UInt8):List St.Pt × Nat × Int:=St.fq Sh.dE Lib.decDigits l
theorem Ie(d:ByteArray)(w:World)(hd:d.size<=1000000000):Calls Tryz.prog 46 #[.int .i64 2,.string d] w (aH (S2 d.1.1) w):=by
 have H:=aa (Fu d w (by omega));have hR:je d=S2 d.1.1:=rfl;rw[hR]at H;generalize S2 d.1.1=R at *;obtain⟨ps,pl,er⟩:=R;clear hR;go_enter Tryz.func46,Tryz.ntmps46;go_wp2_with fail;refine H.out.mono ?_;rintro e w' ⟨A,c,rfl,hP,h1,h2,hu⟩;have HE:=aa (show aH (ps,pl,er) w (.returned (.tuple #[.slice A ps.length c,.int .i64 (pl:Int),.int .i64 er])) w' from⟨A,c,rfl,hP,h1,h2,hu⟩);clear hP h1 h2 hu;go_wp2;go_ret3;exact HE.out
theorem If(d:ByteArray)(w:World)(hL:Sh.mA w)(hd:d.size<=1000000000):Calls Tryz.prog 46 #[.int .i64 3,.string d] w (Sh.aH (S3 d.1.1) w):=by
 have H:=aa (Sh.Fi d w hL (by omega));have hR:Sh.fE d=S3 d.1.1:=rfl;rw[hR]at H;generalize S3 d.1.1=R at *;obtain⟨ps,pl,er⟩:=R;clear hL hR;go_enter Tryz.func46,Tryz.ntmps46;go_wp2_with fail;refine H.out.mono ?_;rintro e w' ⟨A,c,rfl,hP,h1,h2,hu⟩;have HE:=aa (show Sh.aH (ps,pl,er) w (.returned (.tuple #[.slice A ps.length c,.int .i64 (pl:Int),.int .i64 er])) w' from⟨A,c,rfl,hP,h1,h2,hu⟩);clear hP h1 h2 hu;go_wp2;go_ret3;exact HE.out
theorem T9(w:World):rR w 2 S2:=⟨.inr (.inl rfl),λd W _ hd=>Ie d W hd⟩
theorem Ua(w:World)(hL:Sh.mA w):rR w 3 S3:=⟨.inr (.inr rfl),λd W hW hd=>If d W (hL.ah hW) hd⟩
theorem Ri:wE 1 St.S1:=⟨.inl rfl,λd W hd=>Mk.lC d W (by omega)⟩
theorem T6:wE 2 S2:=⟨.inr (.inl rfl),λd W hd=>lC d W (by omega)⟩
theorem T7:wE 3 S3:=⟨.inr (.inr rfl),λd W hd=>Sh.lC d W (by omega)⟩
def lM(fmt:Int):List UInt8->List St.Pt × Nat × Int:=if fmt=1 then St.S1 else if fmt=2 then S2 else S3
theorem OI(fmt:Int)(h:fmt=1\/fmt=2\/fmt=3):wE fmt (lM fmt):=by
 rcases h with rfl|rfl|rfl
 ·exact Ri
 ·exact T6
 exact T7
end
section
def j8(d:List UInt8)(s:St.PS):Prop:=s.1.length % 2=0/\(∀i (h:i<s.1.length),s.1[i].1=decide (i % 2=1)/\(s.1[i].2.1=[] ↔ s.1[i].1=false)/\(s.1[i].1=true->(dE s.1[i].2.2).2=0))/\s.1.flatMap (·.2.2)=d.take s.2/\s.2<=d.length
theorem wX(d:List UInt8):j8 d ([],0):=⟨rfl,λi h=>by simp at h,by simp,by simp⟩
theorem nS(d:List UInt8)(a b:Nat)(h:a<=b):d.take a++St.be d a b=d.take b:=by
 unfold St.be
 conv=>rhs;rw[<-List.take_append_drop a (d.take b)]
 rw[List.take_take,Nat.min_eq_left h]
theorem uD{d:List UInt8}{s:St.PS}{a b:Nat}{key:List UInt8}(h:j8 d s)(h1:s.2<=a)(h2:a<=b)(h3:b<=d.length)(hk:key≠[])(he:(dE (St.be d a b)).2=0):j8 d (St.bQ d s a b key):=by
 obtain⟨i1,i2,i3,i4⟩:=h;unfold St.bQ;refine⟨by simp;omega,λi hi=>?_,?_,h3⟩
 ·simp only[List.length_append,List.length_cons,List.length_nil]at hi
  by_cases hlt:i<s.1.length
  ·simp only[List.getElem_append_left hlt];exact i2 i hlt
  simp only[List.getElem_append_right (Nat.le_of_not_lt hlt)];rcases(show i-s.1.length=0\/i-s.1.length=1 by omega)with hq|hq
  ·simp only[hq,List.getElem_cons_zero];refine⟨by rw[decide_eq_false (by omega)],by simp,by simp⟩
  simp only[hq,List.getElem_cons_succ,List.getElem_cons_zero];refine⟨by rw[decide_eq_true (by omega)],by simp[hk],λ_=>he⟩
 simp only[List.flatMap_append,List.flatMap_cons,List.flatMap_nil,List.append_nil];rw[i3,<-List.append_assoc,nS d _ _ h1,nS d _ _ h2]
def pG(d:List UInt8)(ps:List St.Pt):Prop:=ps.length % 2=1/\(∀i (h:i<ps.length),ps[i].1=decide (i % 2=1)/\(ps[i].2.1=[] ↔ ps[i].1=false)/\(ps[i].1=true->(dE ps[i].2.2).2=0))/\ps.flatMap (·.2.2)=d
theorem wW{d:List UInt8}{s:St.PS}(h:j8 d s):pG d (St.dt d s):=by
 obtain⟨i1,i2,i3,i4⟩:=h;unfold St.dt;refine⟨by simp;omega,λi hi=>?_,?_⟩
 ·simp only[List.length_append,List.length_singleton]at hi
  by_cases hlt:i<s.1.length
  ·simp only[List.getElem_append_left hlt];exact i2 i hlt
  simp only[List.getElem_append_right (Nat.le_of_not_lt hlt)];have hq:i-s.1.length=0:=by omega
  simp only[hq,List.getElem_cons_zero];refine⟨by rw[decide_eq_false (by omega)],by simp,by simp⟩
 simp only[List.flatMap_append,List.flatMap_cons,List.flatMap_nil,List.append_nil];rw[i3];simp
theorem Ma{l:List UInt8}{n:Nat}(h:n≠0)(hl:n<=l.length):l.take n≠[]:=by
 intro e;have h2:=congrArg List.length e;rw[List.length_take,List.length_nil]at h2;omega
theorem wY{d:List UInt8}:∀(fuel a:Nat) (s s':St.PS),j8 d s->s.2<=a->St.ed dE d fuel a s=.ok s'->j8 d s'
 | 0,a,s,s',hi,_,h=>by simp[St.ed]at h;subst h;exact hi
 | fuel+1,a,s,s',hi,ha,h=>by
  by_cases hl:d.length<=a
  ·rw[St.mg hl]at h;cases h;exact hi
  cases h1:St.ez (d.drop a)with
  | true=>
   rw[St.kS hl h1]at h;exact wY fuel _ s s' hi (by have:=St.kD (d.drop a);simp at this;omega) h
  | false=>
   by_cases h2:St.bH (d.drop a)=0\/64<St.bH (d.drop a)\/((d.drop (a+St.bH (d.drop a))).head?.map UInt8.toNat)≠some 61
   ·rw[St.qY hl h1 h2]at h;cases h
   cases h3:St.gi s.1 (St.be d a (a+St.bH (d.drop a)))with
   | true=>rw[St.qZ hl h1 h2 h3]at h;cases h
   | false=>
    have hk:=St.Df (d.drop a);obtain⟨n,hn⟩:∃n,St.bH (d.drop a)=n:=⟨_,rfl⟩;obtain⟨b,hb⟩:∃b,a+n+1=b:=⟨_,rfl⟩;obtain⟨t,ht⟩:∃t,b+St.eu (d.drop b)=t:=⟨_,rfl⟩;have he:=St.kI (d.drop b)
    have hlt:a+n<d.length:=by
     rcases Nat.lt_or_ge (a+n) d.length with hq|hq
     ·exact hq
     exfalso;apply h2;rw[hn,List.drop_of_length_le hq];exact .inr (.inr (by simp))
    simp only[List.length_drop]at he hk
    by_cases h4:(dE (St.be d b t)).2=0
    ·rw[St.o7 hl h1 h2 h3 hn hb ht h4]at h;refine wY fuel _ _ s' (uD hi (by omega) (by omega) (by omega) ?_ h4) ?_ h
     ·unfold St.be;rw[List.drop_take];refine Ma ?_ ?_
      ·have:=(not_or.1 h2).1;omega
      simp;omega
     show t<=_
     omega
    rw[St.q6 hl h1 h2 h3 hn hb ht h4]at h;cases h
theorem sG{d:List UInt8}:∀(fuel a:Nat) (s:St.PS) (x:Nat),St.ed dE d fuel a s≠.error (x,0)
 | 0,a,s,x=>by simp[St.ed]
 | fuel+1,a,s,x=>by
  intro h
  by_cases hl:d.length<=a
  ·rw[St.mg hl]at h;cases h
  cases h1:St.ez (d.drop a)with
  | true=>rw[St.kS hl h1]at h;exact sG fuel _ s x h
  | false=>
   by_cases h2:St.bH (d.drop a)=0\/64<St.bH (d.drop a)\/((d.drop (a+St.bH (d.drop a))).head?.map UInt8.toNat)≠some 61
   ·rw[St.qY hl h1 h2]at h;simp at h
   cases h3:St.gi s.1 (St.be d a (a+St.bH (d.drop a)))with
   | true=>rw[St.qZ hl h1 h2 h3]at h;simp at h
   | false=>
    by_cases h4:(dE (St.be d (a+St.bH (d.drop a)+1) (a+St.bH (d.drop a)+1+St.eu (d.drop (a+St.bH (d.drop a)+1))))).2=0
    ·rw[St.o7 hl h1 h2 h3 rfl rfl rfl h4]at h;exact sG fuel _ _ x h
    rw[St.q6 hl h1 h2 h3 rfl rfl rfl h4]at h;simp only[Except.error.injEq,Prod.mk.injEq]at h;exact h4 h.2
theorem E6(d:ByteArray)(h:(je d).2.2=0):pG d.1.1 (je d).1:=by
 unfold je at h |-
 by_cases h0:65536<d.1.1.length
 ·unfold St.lG at h;rw[if_pos h0]at h;cases h
 rw[St.sQ h0]at h |-;cases hr:St.ed dE d.1.1 (d.1.1.length+1) 0 ([],0)with
 | error x=>
  obtain⟨a,er⟩:=x;rw[hr]at h;have:er=0:=h
  subst this;exact absurd hr (sG _ _ _ _)
 | ok s=>exact wW (wY _ _ _ _ (wX _) (by simp) hr)
end
end Go.Proofs.YthoemdibbldndaaGreatDoor
namespace Go.Proofs.YthoemdibbldndaaGreatDoor.Sh
open Go.RowKit Go.Proofs.YthoemdibbldndaaGreatDoor.St
namespace St
theorem yG{dE:List UInt8->Nat × Int}{dig:Nat->List UInt8}{d:List UInt8}{W C fuel a r e n:Nat}{s s':PS}(h:¬d.length<=a)(hr:eQ dE d W C (dig r) (d.length+1) a 0 s=.ok (e,n,s'))(hn:¬n<W):cU dE dig d W C (fuel+1) a r s=cU dE dig d W C fuel (e+1) (r+1) s':=by
 rw[cU,if_neg h,hr];simp only[];rw[if_neg hn]
theorem Fh{dE:List UInt8->Nat × Int}{dig:Nat->List UInt8}{d:List UInt8}{e n tx c:Nat}(h0:¬65536<d.length)(h:fB d (d.length+1) 0 0 0 0=.ok (e,n,tx,c))(ht:tx≠0)(ht2:¬1<tx):fq dE dig d=pn d (cU dE dig d n c (d.length+1) (e+1) 1 ([],0)):=by
 rw[fq,if_neg h0,h];simp only[];rw[if_neg ht,if_neg ht2];cases cU dE dig d n c (d.length+1) (e+1) 1 ([],0)<;>rfl
end St
def j8(d:List UInt8)(s:St.PS):Prop:=s.1.length % 2=0/\(∀i (h:i<s.1.length),s.1[i].1=decide (i % 2=1)/\(s.1[i].2.1=[] ↔ s.1[i].1=false)/\(s.1[i].1=true->(dE s.1[i].2.2).2=0))/\s.1.flatMap (·.2.2)=d.take s.2/\s.2<=d.length
theorem wX(d:List UInt8):j8 d ([],0):=⟨rfl,λi h=>by simp at h,by simp,by simp⟩
theorem nS(d:List UInt8)(a b:Nat)(h:a<=b):d.take a++St.be d a b=d.take b:=by
 unfold St.be
 conv=>rhs;rw[<-List.take_append_drop a (d.take b)]
 rw[List.take_take,Nat.min_eq_left h]
theorem uD{d:List UInt8}{s:St.PS}{a b:Nat}{key:List UInt8}(h:j8 d s)(h1:s.2<=a)(h2:a<=b)(h3:b<=d.length)(hk:key≠[])(he:(dE (St.be d a b)).2=0):j8 d (St.bQ d s a b key):=by
 obtain⟨i1,i2,i3,i4⟩:=h;unfold St.bQ;refine⟨by simp;omega,λi hi=>?_,?_,h3⟩
 ·simp only[List.length_append,List.length_cons,List.length_nil]at hi
  by_cases hlt:i<s.1.length
  ·simp only[List.getElem_append_left hlt];exact i2 i hlt
  simp only[List.getElem_append_right (Nat.le_of_not_lt hlt)];rcases(show i-s.1.length=0\/i-s.1.length=1 by omega)with hq|hq
  ·simp only[hq,List.getElem_cons_zero];refine⟨by rw[decide_eq_false (by omega)],by simp,by simp⟩
  simp only[hq,List.getElem_cons_succ,List.getElem_cons_zero];refine⟨by rw[decide_eq_true (by omega)],by simp[hk],λ_=>he⟩
 simp only[List.flatMap_append,List.flatMap_cons,List.flatMap_nil,List.append_nil];rw[i3,<-List.append_assoc,nS d _ _ h1,nS d _ _ h2]
def pG(d:List UInt8)(ps:List St.Pt):Prop:=ps.length % 2=1/\(∀i (h:i<ps.length),ps[i].1=decide (i % 2=1)/\(ps[i].2.1=[] ↔ ps[i].1=false)/\(ps[i].1=true->(dE ps[i].2.2).2=0))/\ps.flatMap (·.2.2)=d
theorem wW{d:List UInt8}{s:St.PS}(h:j8 d s):pG d (St.dt d s):=by
 obtain⟨i1,i2,i3,i4⟩:=h;unfold St.dt;refine⟨by simp;omega,λi hi=>?_,?_⟩
 ·simp only[List.length_append,List.length_singleton]at hi
  by_cases hlt:i<s.1.length
  ·simp only[List.getElem_append_left hlt];exact i2 i hlt
  simp only[List.getElem_append_right (Nat.le_of_not_lt hlt)];have hq:i-s.1.length=0:=by omega
  simp only[hq,List.getElem_cons_zero];refine⟨by rw[decide_eq_false (by omega)],by simp,by simp⟩
 simp only[List.flatMap_append,List.flatMap_cons,List.flatMap_nil,List.append_nil];rw[i3];simp
theorem De{d key:List UInt8}{W C:Nat}(hk:key≠[]):∀(fuel a n:Nat) (s:St.PS) (e m:Nat) (s':St.PS),j8 d s->s.2<=a->St.eQ dE d W C key fuel a n s=.ok (e,m,s')->j8 d s'/\s'.2<=e/\a<=e
 | 0,a,n,s,e,m,s',_,_,h=>by simp[St.eQ]at h
 | fuel+1,a,n,s,e,m,s',hi,ha,h=>by
  cases hf:St.dx (d.drop a)with
  | none=>rw[St.qU hf]at h;cases h
  | some x=>
   obtain⟨k,q⟩:=x
   by_cases hb:W<=n\/(n=C/\q=false)
   ·rw[St.tw hf hb]at h;cases h
   by_cases he:n=C/\(dE (St.be d (a+1) (a+k-1))).2≠0
   ·rw[St.tz hf hb he]at h;cases h
   rw[St.qV hf hb he]at h;obtain⟨hk1,hkq⟩:=St.mE hf;simp only[List.length_drop]at hk1
   have hs':j8 d (if n=C then St.bQ d s (a+1) (a+k-1) key else s)/\(if n=C then St.bQ d s (a+1) (a+k-1) key else s).2<=a+k:=by
    by_cases hnc:n=C
    ·rw[if_pos hnc];have hq:q=true:=by
      cases q
      ·exact absurd (.inr ⟨hnc,rfl⟩) hb
      rfl
     have h2:=hkq hq;have hal:a+k<=d.length:=by omega
     refine⟨uD hi (by omega) (by omega) (by omega) hk ?_,by show a+k-1<=_;omega⟩
     by_cases hz:(dE (St.be d (a+1) (a+k-1))).2=0
     ·exact hz
     exact absurd ⟨hnc,hz⟩ he
    rw[if_neg hnc];exact⟨hi,by omega⟩
   generalize(if n=C then St.bQ d s (a+1) (a+k-1) key else s)=s2 at h hs';obtain⟨h1,h2⟩:=hs'
   split at h
   ·simp only[Except.ok.injEq,Prod.mk.injEq]at h;obtain⟨rfl,_,rfl⟩:=h;exact⟨h1,h2,by omega⟩
   split at h
   ·simp only[Except.ok.injEq,Prod.mk.injEq]at h;obtain⟨rfl,_,rfl⟩:=h;exact⟨h1,h2,by omega⟩
   have:=De hk fuel (a+k+1) (n+1) s2 e m s' h1 (by omega) h
   exact⟨this.1,this.2.1,by omega⟩
theorem Bk{d:List UInt8}{W C:Nat}:∀(fuel a r:Nat) (s s':St.PS),j8 d s->s.2<=a->St.cU dE Lib.decDigits d W C fuel a r s=.ok s'->j8 d s'
 | 0,a,r,s,s',hi,_,h=>by simp[St.cU]at h;subst h;exact hi
 | fuel+1,a,r,s,s',hi,ha,h=>by
  by_cases hl:d.length<=a
  ·rw[St.me _ _ _ _ hl]at h;cases h;exact hi
  cases hr:St.eQ dE d W C (Lib.decDigits r) (d.length+1) a 0 s with
  | error x=>rw[St.mf hl hr]at h;cases h
  | ok x=>
   obtain⟨e,n,s2⟩:=x
   have hkey:Lib.decDigits r≠[]:=by
    unfold Lib.decDigits;split<;>simp
   have hv:=De hkey _ _ _ _ _ _ _ hi ha hr
   by_cases hn:n<W
   ·rw[St.kE hl hr hn]at h;cases h
   rw[St.yG hl hr hn]at h;exact Bk fuel (e+1) (r+1) s2 s' hv.1 (by omega) h
theorem BW(d:ByteArray)(h:(fE d).2.2=0):pG d.1.1 (fE d).1:=by
 unfold fE at h |-
 by_cases h0:65536<d.1.1.length
 ·unfold St.fq at h;rw[if_pos h0]at h;cases h
 cases hh:St.fB d.1.1 (d.1.1.length+1) 0 0 0 0 with
 | error x=>
  obtain⟨a,er⟩:=x
  have hne:er≠0:=by
   intro e;subst e
   have:∀(fuel a n t c x:Nat),St.fB d.1.1 fuel a n t c≠.error (x,0):=by
    intro fuel
    induction fuel with
    | zero=>intro a n t c x h;simp[St.fB]at h
    | succ fuel ih=>
     intro a n t c x h;cases hf:St.dx (d.1.1.drop a)with
     | none=>rw[St.sg hf]at h;simp at h
     | some y=>
      obtain⟨k,q⟩:=y;rw[St.sh hf]at h
      split at h
      ·cases h
      split at h
      ·cases h
      exact ih _ _ _ _ _ h
   exact this _ _ _ _ _ _ hh
  rw[St.sR h0 hh]at h;exact absurd h hne
 | ok x=>
  obtain⟨e,n,tx,c⟩:=x
  by_cases ht:tx=0
  ·rw[St.nx h0 hh ht]at h;cases h
  by_cases ht2:1<tx
  ·rw[St.j1 h0 hh ht ht2]at h;cases h
  rw[St.Fh h0 hh ht ht2]at h |-;cases hr:St.cU dE Lib.decDigits d.1.1 n c (d.1.1.length+1) (e+1) 1 ([],0)with
  | error x=>
   obtain⟨a,er⟩:=x
   have hne:er≠0:=by
    intro e0;subst e0
    have hrec:∀(fuel a m x:Nat) (key:List UInt8) (s:St.PS),St.eQ dE d.1.1 n c key fuel a m s≠.error (x,0):=by
     intro fuel
     induction fuel with
     | zero=>intro a m x key s h;simp[St.eQ]at h
     | succ fuel ih=>
      intro a m x key s h;cases hf:St.dx (d.1.1.drop a)with
      | none=>rw[St.qU hf]at h;simp at h
      | some y=>
       obtain⟨k,q⟩:=y
       by_cases hb:n<=m\/(m=c/\q=false)
       ·rw[St.tw hf hb]at h;simp at h
       by_cases he:m=c/\(dE (St.be d.1.1 (a+1) (a+k-1))).2≠0
       ·rw[St.tz hf hb he]at h;simp only[Except.error.injEq,Prod.mk.injEq]at h;exact he.2 h.2
       rw[St.qV hf hb he]at h
       split at h
       ·cases h
       split at h
       ·cases h
       exact ih _ _ _ _ _ h
    have PW:∀(fuel a r x:Nat) (s:St.PS),St.cU dE Lib.decDigits d.1.1 n c fuel a r s≠.error (x,0):=by
     intro fuel
     induction fuel with
     | zero=>intro a r x s h;simp[St.cU]at h
     | succ fuel ih=>
      intro a r x s h
      by_cases hl:d.1.1.length<=a
      ·rw[St.me _ _ _ _ hl]at h;cases h
      cases hr:St.eQ dE d.1.1 n c (Lib.decDigits r) (d.1.1.length+1) a 0 s with
      | error y=>
       rw[St.mf hl hr]at h;simp only[Except.error.injEq]at h;subst h;exact hrec _ _ _ _ _ _ hr
      | ok y=>
       obtain⟨e',n',s2⟩:=y
       by_cases hn:n'<n
       ·rw[St.kE hl hr hn]at h;simp at h
       rw[St.yG hl hr hn]at h;exact ih _ _ _ _ h
    exact PW _ _ _ _ _ hr
   rw[hr]at h;exact absurd h hne
  | ok s=>exact wW (Bk _ _ _ _ _ (wX _) (by simp) hr)
end Go.Proofs.YthoemdibbldndaaGreatDoor.Sh
namespace Go.Proofs.YthoemdibbldndaaGreatDoor
open Go.RowKit
def mm(fmt:Int)(ps:List St.Pt):Prop:=(fmt=1\/fmt=2\/fmt=3)/\∃(d:List UInt8) (pl:Nat),d.length<=1000000/\lM fmt d=(ps,pl,0)
theorem L7{fmt:Int}(hk:fmt=1\/fmt=2\/fmt=3){d:List UInt8}{ps:List St.Pt}{pl:Nat}(h:lM fmt d=(ps,pl,0)):St.bp ps=d:=by
 rcases hk with rfl|rfl|rfl
 ·have h0:St.iY Mk.dE Lib.decDigits d=(ps,pl,0):=h;have:=(St.B7 (dE:=Mk.dE) (dig:=Lib.decDigits) (λn=>by unfold Lib.decDigits;split<;>simp) (d:=d) (by rw[h0])).2.2
  rw[h0]at this;exact this
 ·have h0:je ⟨d.toArray⟩=(ps,pl,0):=h;have:=(E6 ⟨d.toArray⟩ (by rw[h0])).2.2
  rw[h0]at this
  show ps.flatMap (·.2.2)=d
  simpa using this
 have h0:Sh.fE ⟨d.toArray⟩=(ps,pl,0):=h;have:=(Sh.BW ⟨d.toArray⟩ (by rw[h0])).2.2
 rw[h0]at this
 show ps.flatMap (·.2.2)=d
 simpa using this
theorem mm.au{fmt:Int}{ps:List St.Pt}(h:mm fmt ps):(St.bp ps).length<=1000000:=by
 obtain⟨hk,d,pl,hd,hs⟩:=h;rw[L7 hk hs];exact hd
