/- The contracts of strconv.Itoa at this translation and of the table's field. -/
import Derived.Test.YthoemdibbldndaaGreatDoorPart
import Derived.Test.YthoemdibbldndaaGreatDoorShA
import Derived.WalkSmall
import Derived.Deep.RegionHeld3
set_option linter.unusedVariables false
set_option linter.unusedSimpArgs false
namespace Go.Proofs.YthoemdibbldndaaGreatDoor.Sh
open Go.RowKit Go.Proofs.YthoemdibbldndaaGreatDoor.St
section
def dE(l:List UInt8):Nat × Int:=((St.dec St.sheetL l.length l 0 0 [] []).2.2.1,(St.dec St.sheetL l.length l 0 0 [] []).2.2.2)
theorem dE_of(x:ByteArray):dE x.data.toList=((sheetD x).2.2.1,(sheetD x).2.2.2):=by
 unfold dE sheetD;rw[St.len_list]
theorem dec_at:∀ (fuel:Nat) (l:List UInt8) (a d:Nat) (f:List St.It) (cuts:List Nat),(St.dec St.sheetL fuel l a d f cuts).2.2.1<=a+l.length
 | 0,l,a,d,f,cuts=>by simp[St.dec]
 | fuel+1,l,a,d,f,cuts=>by
  by_cases h0:l=[]
  ·subst h0;rw[St.dec_nil];simp
  ·cases hs:St.sheetL l with
   | none=>rw[St.dec_none fuel a d f cuts h0 hs];simp
   | some x=>
    obtain⟨k,t,n⟩:=x;obtain⟨hk,hn1,hn2⟩:=St.sheet_len hs
    by_cases hf:512<(St.addI f (k,t,0)).length∨1024<=cuts.length
    ·rw[St.dec_full fuel a d f cuts h0 hs (by omega) hf];simp
    ·rw[St.dec_step fuel a d f cuts h0 hs (by omega) hf]
     have h:=dec_at fuel (l.drop n) (a+n) (a+n) (St.addI f (k,t,0)) (cuts++[d]);rw[List.length_drop] at h;omega
theorem sheetD_at(x:ByteArray):(sheetD x).2.2.1<=x.size:=by
 have:=dec_at x.size x.data.toList 0 0 [] []
 rw[St.len_list] at this;unfold sheetD;omega
end
section
namespace St
theorem quoted_len:∀ (m:Nat) (l:List UInt8) (n:Nat),l.length<=m->quotedL l=some n->1<=n/\n<=l.length
 | 0,l,n,hl,h=>by
  have h0:l=[]:=List.eq_nil_of_length_eq_zero (by omega);subst h0;cases h
 | m+1,[],n,hl,h=>by cases h
 | m+1,c :: r,n,hl,h=>by
  by_cases hc:c.toNat=34
  ·cases r with
   | nil=>rw[quoted_last hc] at h;cases h;simp
   | cons d r=>
    by_cases hd:d.toNat=34
    ·rw[quoted_two hc hd] at h
     cases hq:quotedL r with
     | none=>rw[hq] at h;cases h
     | some k=>
      rw[hq] at h;have:=quoted_len m r k (by simp at hl;omega) hq
      simp at h;simp;omega
    ·rw[quoted_end hc hd] at h;cases h;simp
  ·rw[quoted_plain hc] at h
   cases hq:quotedL r with
   | none=>rw[hq] at h;cases h
   | some k=>
    rw[hq] at h;have:=quoted_len m r k (by simp at hl;omega) hq
    simp at h;simp;omega
theorem field_len{l:List UInt8}{k:Nat}{q:Bool}(h:fieldL l=some (k,q)):k<=l.length/\(q=true->2<=k):=by
 cases l with
 | nil=>rw[field_nil] at h;simp at h;obtain⟨rfl,rfl⟩:=h;simp
 | cons c r=>
  by_cases hc:c.toNat=34
  ·rw[field_q hc] at h
   cases hq:quotedL r with
   | none=>rw[hq] at h;cases h
   | some n=>
    rw[hq] at h;simp only at h
    split at h
    ·simp only[Option.some.injEq,Prod.mk.injEq] at h
     obtain⟨rfl,rfl⟩:=h;have:=quoted_len _ r n (Nat.le_refl _) hq
     simp;omega
    ·cases h
  ·rw[field_b (fun c' r' e=>by simp only[List.cons.injEq] at e;rw[<- e.1];exact hc)] at h
   split at h
   ·simp only[Option.some.injEq,Prod.mk.injEq] at h
    obtain⟨rfl,rfl⟩:=h;refine⟨?_,fun h=>by cases h⟩;exact(List.takeWhile_prefix _).length_le
   ·cases h
theorem head_none{d:List UInt8}{fuel a n tx col:Nat}(h:fieldL (d.drop a)=none):headS d (fuel+1) a n tx col=.error (a,2):=by
 rw[headS,h]
theorem head_step{d:List UInt8}{fuel a n tx col k:Nat}{q:Bool}(h:fieldL (d.drop a)=some (k,q)):headS d (fuel+1) a n tx col=match d.drop (a+k) with
   | []=>.ok (a+k,n+1,(if cutL d a (a+k)==[116,101,120,116] then tx+1 else tx),(if cutL d a (a+k)==[116,101,120,116] then n else col))
   | c :: _=>if c.toNat=10 then .ok (a+k,n+1,(if cutL d a (a+k)==[116,101,120,116] then tx+1 else tx),(if cutL d a (a+k)==[116,101,120,116] then n else col)) else headS d fuel (a+k+1) (n+1) (if cutL d a (a+k)==[116,101,120,116] then tx+1 else tx) (if cutL d a (a+k)==[116,101,120,116] then n else col):=by
 rw[headS,h];simp only[];cases d.drop (a+k) <;> rfl
end St
end
section
namespace St
variable {dE:List UInt8->Nat × Int} {d key:List UInt8} {W C fuel a n k:Nat} {q:Bool} {s:PS}
theorem rec_none(h:fieldL (d.drop a)=none):recS dE d W C key (fuel+1) a n s=.error (a,2):=by
 rw[recS,h]
theorem rec_bad(h:fieldL (d.drop a)=some (k,q))(hb:W<=n∨(n=C/\q=false)):recS dE d W C key (fuel+1) a n s=.error (a,2):=by
 rw[recS,h];simp only[];rw[if_pos hb]
theorem rec_dec(h:fieldL (d.drop a)=some (k,q))(hb:¬ (W<=n∨(n=C/\q=false)))(he:n=C/\(dE (cutL d (a+1) (a+k-1))).2 ≠ 0):recS dE d W C key (fuel+1) a n s=.error (a+1+(dE (cutL d (a+1) (a+k-1))).1,(dE (cutL d (a+1) (a+k-1))).2):=by
 rw[recS,h];simp only[];rw[if_neg hb,if_pos he]
theorem rec_step(h:fieldL (d.drop a)=some (k,q))(hb:¬ (W<=n∨(n=C/\q=false)))(he:¬ (n=C/\(dE (cutL d (a+1) (a+k-1))).2 ≠ 0)):recS dE d W C key (fuel+1) a n s=match d.drop (a+k) with
   | []=>.ok (a+k,n+1,if n=C then unitS d s (a+1) (a+k-1) key else s)
   | c :: _=>if c.toNat=10 then .ok (a+k,n+1,if n=C then unitS d s (a+1) (a+k-1) key else s) else recS dE d W C key fuel (a+k+1) (n+1) (if n=C then unitS d s (a+1) (a+k-1) key else s):=by
 rw[recS,h];simp only[];rw[if_neg hb,if_neg he];cases d.drop (a+k) <;> rfl
end St
end
section
namespace St
variable {dE:List UInt8->Nat × Int} {dig:Nat->List UInt8} {d:List UInt8} {W C:Nat}
theorem recs_end(fuel a r:Nat)(s:PS)(h:d.length<=a):recsS dE dig d W C fuel a r s=.ok s:=by
 cases fuel with
 | zero=>rfl
 | succ f=>rw[recsS,if_pos h]
theorem recs_err{fuel a r:Nat}{s:PS}{x:Nat × Int}(h:¬ d.length<=a)(hr:recS dE d W C (dig r) (d.length+1) a 0 s=.error x):recsS dE dig d W C (fuel+1) a r s=.error x:=by
 rw[recsS,if_neg h,hr]
theorem recs_few{fuel a r e n:Nat}{s s':PS}(h:¬ d.length<=a)(hr:recS dE d W C (dig r) (d.length+1) a 0 s=.ok (e,n,s'))(hn:n<W):recsS dE dig d W C (fuel+1) a r s=.error (a,2):=by
 rw[recsS,if_neg h,hr];simp only[];rw[if_pos hn]
theorem split_err{a:Nat}{er:Int}(h0:¬ 65536<d.length)(h:headS d (d.length+1) 0 0 0 0=.error (a,er)):splitS dE dig d=([],a,er):=by
 rw[splitS,if_neg h0,h]
theorem split_none{e n tx c:Nat}(h0:¬ 65536<d.length)(h:headS d (d.length+1) 0 0 0 0=.ok (e,n,tx,c))(ht:tx=0):splitS dE dig d=([],0,6):=by
 rw[splitS,if_neg h0,h];simp only[];rw[if_pos ht]
theorem split_many{e n tx c:Nat}(h0:¬ 65536<d.length)(h:headS d (d.length+1) 0 0 0 0=.ok (e,n,tx,c))(ht:tx ≠ 0)(ht2:1<tx):splitS dE dig d=([],0,5):=by
 rw[splitS,if_neg h0,h];simp only[];rw[if_neg ht,if_pos ht2]
def endR(d:List UInt8):Except (Nat × Int) PS->List Pt × Nat × Int
 | .error (a,e)=>([],a,e)
 | .ok s=>(endS d s,0,0)
end St
def sheetS(d:ByteArray):List St.Pt × Nat × Int:=St.splitS dE Lib.decDigits d.data.toList
def SplitEnd(R:List St.Pt × Nat × Int)(w:World)(e:Ending)(w':World):Prop:=
 ∃ (A:Option Addr) (c:Nat),e=.returned (.tuple #[.slice A R.1.length c,.int .i64 (R.2.1:Int),.int .i64 R.2.2])/\PartsAt w' A R.1/\R.1.length<=c/\c<=9223372036854775807/\Und w w'
theorem SplitEnd.err{R:List St.Pt × Nat × Int}{w w':World}{a:Nat}{er:Int}(h:R=([],a,er))(u:Und w w'):SplitEnd R w (.returned (.tuple #[.slice none 0 0,.int .i64 a,.int .i64 er])) w':=by
 subst h;exact⟨none,0,rfl,fun h=>absurd h (by simp),by simp,by omega,u⟩
end
end Go.Proofs.YthoemdibbldndaaGreatDoor.Sh
