/- The splitting of the three formats, as the document's package and the reference call it. -/
import Derived.Test.YthoemdibbldndaaGreatDoorDcD
import Derived.Test.YthoemdibbldndaaGreatDoorDcE
import Derived.Test.YthoemdibbldndaaGreatDoorRMs
import Derived.Test.YthoemdibbldndaaGreatDoorRsC
import Derived.Test.YthoemdibbldndaaGreatDoorShC
set_option linter.all false
set_option maxHeartbeats 0
namespace Go.Proofs.YthoemdibbldndaaGreatDoor
open Go.RowKit
section
def S2(l:List UInt8):List St.Pt × Nat × Int:=St.lc dE l
def S3(l:List UInt8):List St.Pt × Nat × Int:=St.eI Sh.dE Lib.decDigits l
theorem KN(d:ByteArray)(w:World)(hd:d.size<=1000000000):Calls Tryz.prog 46 #[.int .i64 2,.string d] w (aG (S2 d.1.1) w):=by
 have H:=aa (IJ d w (by omega));have hR:jJ d=S2 d.1.1:=rfl;rw[hR]at H;generalize S2 d.1.1=R at *;obtain⟨ps,pl,er⟩:=R;clear hR;go_enter Tryz.func46,Tryz.ntmps46;go_wp2_with fail;refine H.out.mono ?_;rintro e w' ⟨A,c,rfl,hP,h1,h2,hu⟩;have HE:=aa (show aG (ps,pl,er) w (.returned (.tuple #[.slice A ps.length c,.int .i64 (pl:Int),.int .i64 er])) w' from⟨A,c,rfl,hP,h1,h2,hu⟩);clear hP h1 h2 hu;go_wp2;go_ret3;exact HE.out
theorem KO(d:ByteArray)(w:World)(hL:Sh.mJ w)(hd:d.size<=1000000000):Calls Tryz.prog 46 #[.int .i64 3,.string d] w (Sh.aG (S3 d.1.1) w):=by
 have H:=aa (Sh.Iy d w hL (by omega));have hR:Sh.fJ d=S3 d.1.1:=rfl;rw[hR]at H;generalize S3 d.1.1=R at *;obtain⟨ps,pl,er⟩:=R;clear hL hR;go_enter Tryz.func46,Tryz.ntmps46;go_wp2_with fail;refine H.out.mono ?_;rintro e w' ⟨A,c,rfl,hP,h1,h2,hu⟩;have HE:=aa (show Sh.aG (ps,pl,er) w (.returned (.tuple #[.slice A ps.length c,.int .i64 (pl:Int),.int .i64 er])) w' from⟨A,c,rfl,hP,h1,h2,hu⟩);clear hP h1 h2 hu;go_wp2;go_ret3;exact HE.out
theorem WQ(w:World)(hL:Mk.jQ w):qt w 1 St.S1:=(NP w hL).sp
theorem Ul(w:World):qt w 2 S2:=⟨.inr (.inl rfl),λd W _ hd=>KN d W hd⟩
theorem Um(w:World)(hL:Sh.mJ w):qt w 3 S3:=⟨.inr (.inr rfl),λd W hW hd=>KO d W (hL.ai hW) hd⟩
theorem WL:Ch 1 St.S1:=⟨.inl rfl,λd W hd=>Mk.mz d W (by omega)⟩
theorem WM:Ch 2 S2:=⟨.inr (.inl rfl),λd W hd=>mz d W (by omega)⟩
theorem WN:Ch 3 S3:=⟨.inr (.inr rfl),λd W hd=>Sh.mz d W (by omega)⟩
def sD(fmt:Int):List UInt8->List St.Pt × Nat × Int:=if fmt=1 then St.S1 else if fmt=2 then S2 else S3
theorem Vo(fmt:Int)(w:World)(h:fmt=1\/fmt=2\/fmt=3)(hL:Mk.jQ w)(hT:Sh.mJ w):qt w fmt (sD fmt):=by
 rcases h with rfl|rfl|rfl
 ·exact WQ w hL
 ·exact Ul w
 exact Um w hT
theorem Vm(fmt:Int)(h:fmt=1\/fmt=2\/fmt=3):Ch fmt (sD fmt):=by
 rcases h with rfl|rfl|rfl
 ·exact WL
 ·exact WM
 exact WN
end
section
def kO(d:List UInt8)(s:St.PS):Prop:=s.1.length % 2=0/\(∀i (h:i<s.1.length),s.1[i].1=decide (i % 2=1)/\(s.1[i].2.1=[] ↔ s.1[i].1=false)/\(s.1[i].1=true->(dE s.1[i].2.2).2=0))/\s.1.flatMap (·.2.2)=d.take s.2/\s.2<=d.length
theorem yO(d:List UInt8):kO d ([],0):=⟨rfl,λi h=>by simp at h,by simp,by simp⟩
theorem oQ(d:List UInt8)(a b:Nat)(h:a<=b):d.take a++St.a6 d a b=d.take b:=by
 unfold St.a6
 conv=>rhs;rw[<-List.take_append_drop a (d.take b)]
 rw[List.take_take,Nat.min_eq_left h]
theorem vF{d:List UInt8}{s:St.PS}{a b:Nat}{key:List UInt8}(h:kO d s)(h1:s.2<=a)(h2:a<=b)(h3:b<=d.length)(hk:key≠[])(he:(dE (St.a6 d a b)).2=0):kO d (St.bi d s a b key):=by
 obtain⟨i1,i2,i3,i4⟩:=h;unfold St.bi;refine⟨by simp;omega,λi hi=>?_,?_,h3⟩
 ·simp only[List.length_append,List.length_cons,List.length_nil]at hi
  by_cases hlt:i<s.1.length
  ·simp only[List.getElem_append_left hlt];exact i2 i hlt
  simp only[List.getElem_append_right (Nat.le_of_not_lt hlt)];rcases(show i-s.1.length=0\/i-s.1.length=1 by omega)with hq|hq
  ·simp only[hq,List.getElem_cons_zero];refine⟨by rw[decide_eq_false (by omega)],by simp,by simp⟩
  simp only[hq,List.getElem_cons_succ,List.getElem_cons_zero];refine⟨by rw[decide_eq_true (by omega)],by simp[hk],λ_=>he⟩
 simp only[List.flatMap_append,List.flatMap_cons,List.flatMap_nil,List.append_nil];rw[i3,<-List.append_assoc,oQ d _ _ h1,oQ d _ _ h2]
def qM(d:List UInt8)(ps:List St.Pt):Prop:=ps.length % 2=1/\(∀i (h:i<ps.length),ps[i].1=decide (i % 2=1)/\(ps[i].2.1=[] ↔ ps[i].1=false)/\(ps[i].1=true->(dE ps[i].2.2).2=0))/\ps.flatMap (·.2.2)=d
theorem yN{d:List UInt8}{s:St.PS}(h:kO d s):qM d (St.cI d s):=by
 obtain⟨i1,i2,i3,i4⟩:=h;unfold St.cI;refine⟨by simp;omega,λi hi=>?_,?_⟩
 ·simp only[List.length_append,List.length_singleton]at hi
  by_cases hlt:i<s.1.length
  ·simp only[List.getElem_append_left hlt];exact i2 i hlt
  simp only[List.getElem_append_right (Nat.le_of_not_lt hlt)];have hq:i-s.1.length=0:=by omega
  simp only[hq,List.getElem_cons_zero];refine⟨by rw[decide_eq_false (by omega)],by simp,by simp⟩
 simp only[List.flatMap_append,List.flatMap_cons,List.flatMap_nil,List.append_nil];rw[i3];simp
theorem Pv{l:List UInt8}{n:Nat}(h:n≠0)(hl:n<=l.length):l.take n≠[]:=by
 intro e;have h2:=congrArg List.length e;rw[List.length_take,List.length_nil]at h2;omega
theorem yP{d:List UInt8}:∀(fuel a:Nat) (s s':St.PS),kO d s->s.2<=a->St.de dE d fuel a s=.ok s'->kO d s'
 | 0,a,s,s',hi,_,h=>by simp[St.de]at h;subst h;exact hi
 | fuel+1,a,s,s',hi,ha,h=>by
  by_cases hl:d.length<=a
  ·rw[St.lA hl]at h;cases h;exact hi
  cases h1:St.dQ (d.drop a)with
  | true=>
   rw[St.kt hl h1]at h;exact yP fuel _ s s' hi (by have:=St.lr (d.drop a);simp at this;omega) h
  | false=>
   by_cases h2:St.bI (d.drop a)=0\/64<St.bI (d.drop a)\/((d.drop (a+St.bI (d.drop a))).head?.map UInt8.toNat)≠some 61
   ·rw[St.si hl h1 h2]at h;cases h
   cases h3:St.eC s.1 (St.a6 d a (a+St.bI (d.drop a)))with
   | true=>rw[St.sj hl h1 h2 h3]at h;cases h
   | false=>
    have hk:=St.FC (d.drop a);obtain⟨n,hn⟩:∃n,St.bI (d.drop a)=n:=⟨_,rfl⟩;obtain⟨b,hb⟩:∃b,a+n+1=b:=⟨_,rfl⟩;obtain⟨t,ht⟩:∃t,b+St.dk (d.drop b)=t:=⟨_,rfl⟩;have he:=St.lG (d.drop b)
    have hlt:a+n<d.length:=by
     rcases Nat.lt_or_ge (a+n) d.length with hq|hq
     ·exact hq
     exfalso;apply h2;rw[hn,List.drop_of_length_le hq];exact .inr (.inr (by simp))
    simp only[List.length_drop]at he hk
    by_cases h4:(dE (St.a6 d b t)).2=0
    ·rw[St.nS hl h1 h2 h3 hn hb ht h4]at h;refine yP fuel _ _ s' (vF hi (by omega) (by omega) (by omega) ?_ h4) ?_ h
     ·unfold St.a6;rw[List.drop_take];refine Pv ?_ ?_
      ·have:=(not_or.1 h2).1;omega
      simp;omega
     show t<=_
     omega
    rw[St.sk hl h1 h2 h3 hn hb ht h4]at h;cases h
theorem tZ{d:List UInt8}:∀(fuel a:Nat) (s:St.PS) (x:Nat),St.de dE d fuel a s≠.error (x,0)
 | 0,a,s,x=>by simp[St.de]
 | fuel+1,a,s,x=>by
  intro h
  by_cases hl:d.length<=a
  ·rw[St.lA hl]at h;cases h
  cases h1:St.dQ (d.drop a)with
  | true=>rw[St.kt hl h1]at h;exact tZ fuel _ s x h
  | false=>
   by_cases h2:St.bI (d.drop a)=0\/64<St.bI (d.drop a)\/((d.drop (a+St.bI (d.drop a))).head?.map UInt8.toNat)≠some 61
   ·rw[St.si hl h1 h2]at h;simp at h
   cases h3:St.eC s.1 (St.a6 d a (a+St.bI (d.drop a)))with
   | true=>rw[St.sj hl h1 h2 h3]at h;simp at h
   | false=>
    by_cases h4:(dE (St.a6 d (a+St.bI (d.drop a)+1) (a+St.bI (d.drop a)+1+St.dk (d.drop (a+St.bI (d.drop a)+1))))).2=0
    ·rw[St.nS hl h1 h2 h3 rfl rfl rfl h4]at h;exact tZ fuel _ _ x h
    rw[St.sk hl h1 h2 h3 rfl rfl rfl h4]at h;simp only[Except.error.injEq,Prod.mk.injEq]at h;exact h4 h.2
theorem Ii(d:ByteArray)(h:(jJ d).2.2=0):qM d.1.1 (jJ d).1:=by
 unfold jJ at h |-
 by_cases h0:65536<d.1.1.length
 ·unfold St.lc at h;rw[if_pos h0]at h;cases h
 rw[St.qj h0]at h |-;cases hr:St.de dE d.1.1 (d.1.1.length+1) 0 ([],0)with
 | error x=>
  obtain⟨a,er⟩:=x;rw[hr]at h;have:er=0:=h
  subst this;exact absurd hr (tZ _ _ _ _)
 | ok s=>exact yN (yP _ _ _ _ (yO _) (by simp) hr)
end
end Go.Proofs.YthoemdibbldndaaGreatDoor
namespace Go.Proofs.YthoemdibbldndaaGreatDoor.Sh
open Go.RowKit Go.Proofs.YthoemdibbldndaaGreatDoor.St
namespace St
theorem AW{dE:List UInt8->Nat × Int}{dig:Nat->List UInt8}{d:List UInt8}{W C fuel a r e n:Nat}{s s':PS}(h:¬d.length<=a)(hr:dv dE d W C (dig r) (d.length+1) a 0 s=.ok (e,n,s'))(hn:¬n<W):cE dE dig d W C (fuel+1) a r s=cE dE dig d W C fuel (e+1) (r+1) s':=by
 rw[cE,if_neg h,hr];simp only[];rw[if_neg hn]
theorem Ix{dE:List UInt8->Nat × Int}{dig:Nat->List UInt8}{d:List UInt8}{e n tx c:Nat}(h0:¬65536<d.length)(h:fh d (d.length+1) 0 0 0 0=.ok (e,n,tx,c))(ht:tx≠0)(ht2:¬1<tx):eI dE dig d=qy d (cE dE dig d n c (d.length+1) (e+1) 1 ([],0)):=by
 rw[eI,if_neg h0,h];simp only[];rw[if_neg ht,if_neg ht2];cases cE dE dig d n c (d.length+1) (e+1) 1 ([],0)<;>rfl
end St
def kO(d:List UInt8)(s:St.PS):Prop:=s.1.length % 2=0/\(∀i (h:i<s.1.length),s.1[i].1=decide (i % 2=1)/\(s.1[i].2.1=[] ↔ s.1[i].1=false)/\(s.1[i].1=true->(dE s.1[i].2.2).2=0))/\s.1.flatMap (·.2.2)=d.take s.2/\s.2<=d.length
theorem yO(d:List UInt8):kO d ([],0):=⟨rfl,λi h=>by simp at h,by simp,by simp⟩
theorem oQ(d:List UInt8)(a b:Nat)(h:a<=b):d.take a++St.a6 d a b=d.take b:=by
 unfold St.a6
 conv=>rhs;rw[<-List.take_append_drop a (d.take b)]
 rw[List.take_take,Nat.min_eq_left h]
theorem vF{d:List UInt8}{s:St.PS}{a b:Nat}{key:List UInt8}(h:kO d s)(h1:s.2<=a)(h2:a<=b)(h3:b<=d.length)(hk:key≠[])(he:(dE (St.a6 d a b)).2=0):kO d (St.bi d s a b key):=by
 obtain⟨i1,i2,i3,i4⟩:=h;unfold St.bi;refine⟨by simp;omega,λi hi=>?_,?_,h3⟩
 ·simp only[List.length_append,List.length_cons,List.length_nil]at hi
  by_cases hlt:i<s.1.length
  ·simp only[List.getElem_append_left hlt];exact i2 i hlt
  simp only[List.getElem_append_right (Nat.le_of_not_lt hlt)];rcases(show i-s.1.length=0\/i-s.1.length=1 by omega)with hq|hq
  ·simp only[hq,List.getElem_cons_zero];refine⟨by rw[decide_eq_false (by omega)],by simp,by simp⟩
  simp only[hq,List.getElem_cons_succ,List.getElem_cons_zero];refine⟨by rw[decide_eq_true (by omega)],by simp[hk],λ_=>he⟩
 simp only[List.flatMap_append,List.flatMap_cons,List.flatMap_nil,List.append_nil];rw[i3,<-List.append_assoc,oQ d _ _ h1,oQ d _ _ h2]
def qM(d:List UInt8)(ps:List St.Pt):Prop:=ps.length % 2=1/\(∀i (h:i<ps.length),ps[i].1=decide (i % 2=1)/\(ps[i].2.1=[] ↔ ps[i].1=false)/\(ps[i].1=true->(dE ps[i].2.2).2=0))/\ps.flatMap (·.2.2)=d
theorem yN{d:List UInt8}{s:St.PS}(h:kO d s):qM d (St.cI d s):=by
 obtain⟨i1,i2,i3,i4⟩:=h;unfold St.cI;refine⟨by simp;omega,λi hi=>?_,?_⟩
 ·simp only[List.length_append,List.length_singleton]at hi
  by_cases hlt:i<s.1.length
  ·simp only[List.getElem_append_left hlt];exact i2 i hlt
  simp only[List.getElem_append_right (Nat.le_of_not_lt hlt)];have hq:i-s.1.length=0:=by omega
  simp only[hq,List.getElem_cons_zero];refine⟨by rw[decide_eq_false (by omega)],by simp,by simp⟩
 simp only[List.flatMap_append,List.flatMap_cons,List.flatMap_nil,List.append_nil];rw[i3];simp
theorem FB{d key:List UInt8}{W C:Nat}(hk:key≠[]):∀(fuel a n:Nat) (s:St.PS) (e m:Nat) (s':St.PS),kO d s->s.2<=a->St.dv dE d W C key fuel a n s=.ok (e,m,s')->kO d s'/\s'.2<=e/\a<=e
 | 0,a,n,s,e,m,s',_,_,h=>by simp[St.dv]at h
 | fuel+1,a,n,s,e,m,s',hi,ha,h=>by
  cases hf:St.cX (d.drop a)with
  | none=>rw[St.se hf]at h;cases h
  | some x=>
   obtain⟨k,q⟩:=x
   by_cases hb:W<=n\/(n=C/\q=false)
   ·rw[St.uJ hf hb]at h;cases h
   by_cases he:n=C/\(dE (St.a6 d (a+1) (a+k-1))).2≠0
   ·rw[St.uK hf hb he]at h;cases h
   rw[St.sf hf hb he]at h;obtain⟨hk1,hkq⟩:=St.nJ hf;simp only[List.length_drop]at hk1
   have hs':kO d (if n=C then St.bi d s (a+1) (a+k-1) key else s)/\(if n=C then St.bi d s (a+1) (a+k-1) key else s).2<=a+k:=by
    by_cases hnc:n=C
    ·rw[if_pos hnc];have hq:q=true:=by
      cases q
      ·exact absurd (.inr ⟨hnc,rfl⟩) hb
      rfl
     have h2:=hkq hq;have hal:a+k<=d.length:=by omega
     refine⟨vF hi (by omega) (by omega) (by omega) hk ?_,by show a+k-1<=_;omega⟩
     by_cases hz:(dE (St.a6 d (a+1) (a+k-1))).2=0
     ·exact hz
     exact absurd ⟨hnc,hz⟩ he
    rw[if_neg hnc];exact⟨hi,by omega⟩
   generalize(if n=C then St.bi d s (a+1) (a+k-1) key else s)=s2 at h hs';obtain⟨h1,h2⟩:=hs'
   split at h
   ·simp only[Except.ok.injEq,Prod.mk.injEq]at h;obtain⟨rfl,_,rfl⟩:=h;exact⟨h1,h2,by omega⟩
   split at h
   ·simp only[Except.ok.injEq,Prod.mk.injEq]at h;obtain⟨rfl,_,rfl⟩:=h;exact⟨h1,h2,by omega⟩
   have:=FB hk fuel (a+k+1) (n+1) s2 e m s' h1 (by omega) h
   exact⟨this.1,this.2.1,by omega⟩
theorem C9{d:List UInt8}{W C:Nat}:∀(fuel a r:Nat) (s s':St.PS),kO d s->s.2<=a->St.cE dE Lib.decDigits d W C fuel a r s=.ok s'->kO d s'
 | 0,a,r,s,s',hi,_,h=>by simp[St.cE]at h;subst h;exact hi
 | fuel+1,a,r,s,s',hi,ha,h=>by
  by_cases hl:d.length<=a
  ·rw[St.nh _ _ _ _ hl]at h;cases h;exact hi
  cases hr:St.dv dE d W C (Lib.decDigits r) (d.length+1) a 0 s with
  | error x=>rw[St.nj hl hr]at h;cases h
  | ok x=>
   obtain⟨e,n,s2⟩:=x
   have hkey:Lib.decDigits r≠[]:=by
    unfold Lib.decDigits;split<;>simp
   have hv:=FB hkey _ _ _ _ _ _ _ hi ha hr
   by_cases hn:n<W
   ·rw[St.lz hl hr hn]at h;cases h
   rw[St.AW hl hr hn]at h;exact C9 fuel (e+1) (r+1) s2 s' hv.1 (by omega) h
theorem DX(d:ByteArray)(h:(fJ d).2.2=0):qM d.1.1 (fJ d).1:=by
 unfold fJ at h |-
 by_cases h0:65536<d.1.1.length
 ·unfold St.eI at h;rw[if_pos h0]at h;cases h
 cases hh:St.fh d.1.1 (d.1.1.length+1) 0 0 0 0 with
 | error x=>
  obtain⟨a,er⟩:=x
  have hne:er≠0:=by
   intro e;subst e
   have:∀(fuel a n t c x:Nat),St.fh d.1.1 fuel a n t c≠.error (x,0):=by
    intro fuel
    induction fuel with
    | zero=>intro a n t c x h;simp[St.fh]at h
    | succ fuel ih=>
     intro a n t c x h;cases hf:St.cX (d.1.1.drop a)with
     | none=>rw[St.tI hf]at h;simp at h
     | some y=>
      obtain⟨k,q⟩:=y;rw[St.nM hf]at h
      split at h
      ·cases h
      split at h
      ·cases h
      exact ih _ _ _ _ _ h
   exact this _ _ _ _ _ _ hh
  rw[St.uh h0 hh]at h;exact absurd h hne
 | ok x=>
  obtain⟨e,n,tx,c⟩:=x
  by_cases ht:tx=0
  ·rw[St.om h0 hh ht]at h;cases h
  by_cases ht2:1<tx
  ·rw[St.kM h0 hh ht ht2]at h;cases h
  rw[St.Ix h0 hh ht ht2]at h |-;cases hr:St.cE dE Lib.decDigits d.1.1 n c (d.1.1.length+1) (e+1) 1 ([],0)with
  | error x=>
   obtain⟨a,er⟩:=x
   have hne:er≠0:=by
    intro e0;subst e0
    have hrec:∀(fuel a m x:Nat) (key:List UInt8) (s:St.PS),St.dv dE d.1.1 n c key fuel a m s≠.error (x,0):=by
     intro fuel
     induction fuel with
     | zero=>intro a m x key s h;simp[St.dv]at h
     | succ fuel ih=>
      intro a m x key s h;cases hf:St.cX (d.1.1.drop a)with
      | none=>rw[St.se hf]at h;simp at h
      | some y=>
       obtain⟨k,q⟩:=y
       by_cases hb:n<=m\/(m=c/\q=false)
       ·rw[St.uJ hf hb]at h;simp at h
       by_cases he:m=c/\(dE (St.a6 d.1.1 (a+1) (a+k-1))).2≠0
       ·rw[St.uK hf hb he]at h;simp only[Except.error.injEq,Prod.mk.injEq]at h;exact he.2 h.2
       rw[St.sf hf hb he]at h
       split at h
       ·cases h
       split at h
       ·cases h
       exact ih _ _ _ _ _ h
    have S0:∀(fuel a r x:Nat) (s:St.PS),St.cE dE Lib.decDigits d.1.1 n c fuel a r s≠.error (x,0):=by
     intro fuel
     induction fuel with
     | zero=>intro a r x s h;simp[St.cE]at h
     | succ fuel ih=>
      intro a r x s h
      by_cases hl:d.1.1.length<=a
      ·rw[St.nh _ _ _ _ hl]at h;cases h
      cases hr:St.dv dE d.1.1 n c (Lib.decDigits r) (d.1.1.length+1) a 0 s with
      | error y=>
       rw[St.nj hl hr]at h;simp only[Except.error.injEq]at h;subst h;exact hrec _ _ _ _ _ _ hr
      | ok y=>
       obtain⟨e',n',s2⟩:=y
       by_cases hn:n'<n
       ·rw[St.lz hl hr hn]at h;simp at h
       rw[St.AW hl hr hn]at h;exact ih _ _ _ _ h
    exact S0 _ _ _ _ _ hr
   rw[hr]at h;exact absurd h hne
  | ok s=>exact yN (C9 _ _ _ _ _ (yO _) (by simp) hr)
end Go.Proofs.YthoemdibbldndaaGreatDoor.Sh
namespace Go.Proofs.YthoemdibbldndaaGreatDoor
open Go.RowKit
def wv(fmt:Int)(ps:List St.Pt):Prop:=(fmt=1\/fmt=2\/fmt=3)/\∃(d:List UInt8) (pl:Nat),d.length<=1000000/\sD fmt d=(ps,pl,0)
theorem Ps{fmt:Int}(hk:fmt=1\/fmt=2\/fmt=3){d:List UInt8}{ps:List St.Pt}{pl:Nat}(h:sD fmt d=(ps,pl,0)):St.b6 ps=d:=by
 rcases hk with rfl|rfl|rfl
 ·have h0:St.ij Mk.dE Lib.decDigits d=(ps,pl,0):=h;have:=(St.D5 (dE:=Mk.dE) (dig:=Lib.decDigits) (λn=>by unfold Lib.decDigits;split<;>simp) (d:=d) (by rw[h0])).2.2
  rw[h0]at this;exact this
 ·have h0:jJ ⟨d.toArray⟩=(ps,pl,0):=h;have:=(Ii ⟨d.toArray⟩ (by rw[h0])).2.2
  rw[h0]at this
  show ps.flatMap (·.2.2)=d
  simpa using this
 have h0:Sh.fJ ⟨d.toArray⟩=(ps,pl,0):=h;have:=(Sh.DX ⟨d.toArray⟩ (by rw[h0])).2.2
 rw[h0]at this
 show ps.flatMap (·.2.2)=d
 simpa using this
theorem wv.raw{fmt:Int}{ps:List St.Pt}(h:wv fmt ps):(St.b6 ps).length<=1000000:=by
 obtain⟨hk,d,pl,hd,hs⟩:=h;rw[Ps hk hs];exact hd
