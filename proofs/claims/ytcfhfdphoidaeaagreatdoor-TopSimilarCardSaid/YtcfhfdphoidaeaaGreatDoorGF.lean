/- The contract of bitextmake.Place: the remainder that is not negative. -/
import Derived.Test.YtcfhfdphoidaeaaGreatDoorGA
import Derived.Deep.QuietTactic
import Derived.BigQuiet
set_option linter.unusedVariables false
set_option linter.unusedSimpArgs false
set_option maxHeartbeats 12800000
set_option maxRecDepth 20000
namespace Go.Proofs.YtcfhfdphoidaeaaGreatDoor
open Go.RowKit
section
theorem tmod_lo{x n:Int}(hn:1<=n)(h:x.tmod n<0):x.tmod n+n=x % n:=by
 have h1:=Int.lt_tmod_of_pos x (by omega:0<n);have h2:=Int.mul_tdiv_add_tmod x n;have h3:x=(x.tmod n+n)+n*(x.tdiv n-1):=by rw[Int.mul_sub];omega
 rw[h3,Int.add_mul_emod_self_left,<- h3];exact(Int.emod_eq_of_lt (by omega) (by omega)).symm
theorem tmod_hi{x n:Int}(hn:1<=n)(h:¬ x.tmod n<0):x.tmod n=x % n:=by
 have h1:=Int.tmod_lt_of_pos x (by omega:0<n);have h2:=Int.mul_tdiv_add_tmod x n;have h3:x=x.tmod n+n*x.tdiv n:=by omega
 rw[h3,Int.add_mul_emod_self_left,<- h3];exact(Int.emod_eq_of_lt (by omega) (by omega)).symm
theorem place_any(x n:Int)(w:World)(h1:1<=n)(h2:n<=4611686018427387904) :
  Calls Tryz.prog 69 #[.int .i64 x,.int .i64 n] w fun e w'=>e=.returned (.int .i64 (x % n))/\w=w':=by
 have b1:=Int.lt_tmod_of_pos x (by omega:0<n);have b2:=Int.tmod_lt_of_pos x (by omega:0<n);have hs:¬ n=0:=by omega
 have hs':¬ n=-1:=by omega
 by_cases h:x.tmod n<0
 ·go_enter Tryz.func69,Tryz.ntmps69
  go_wp2;go_ret;exact⟨ret_int (tmod_lo h1 h),rfl⟩
 ·go_enter Tryz.func69,Tryz.ntmps69
  go_wp2;go_ret;exact⟨ret_int (tmod_hi h1 (by omega)),rfl⟩
end
section
def IntsAt(w:World)(A:Option Addr)(zs:List Int):Prop:=
 zs.length > 0->∃ b off,A=some ⟨b,off,none⟩/\b<w.heap.size/\∀ i,i<zs.length->w.cell? ⟨b,off+i,none⟩=some (.int .i64 (zs.getD i 0))
theorem IntsAt.und{w w':World}{A:Option Addr}{zs:List Int}(h:IntsAt w A zs)(u:Und w w'):IntsAt w' A zs:=by
 intro h0;obtain⟨b,off,hA,hb,hc⟩:=h h0;exact⟨b,off,hA,Nat.lt_of_lt_of_le hb u.size,fun i hi=>by rw[u.cell hb];exact hc i hi⟩
def GenP(w:World)(B g P:Nat):Prop:=
 ∃ (A:Option Addr) (n c p:Nat) (zs:List Int),g<B/\B<=w.heap.size/\p<=P/\n<=9223372036854775807/\w.cell? ⟨g,0,none⟩=some (.slice A n c)/\w.cell? ⟨g,1,none⟩=some (.int .i64 p)/\w.frozen? ⟨g,1,none⟩=false/\zs.length=n /\
  (zs.length > 0->∃ b off,A=some ⟨b,off,none⟩/\b<B/\b ≠ g/\∀ i,i<zs.length->w.cell? ⟨b,off+i,none⟩=some (.int .i64 (zs.getD i 0)))
theorem GenP.lt{w:World}{B g P:Nat}(h:GenP w B g P):g<B/\B<=w.heap.size:=by obtain⟨_,_,_,_,_,h1,h2,_⟩:=h;exact⟨h1,h2⟩
theorem GenP.le{w:World}{B g P Q:Nat}(h:GenP w B g P)(hq:P<=Q):GenP w B g Q:=by
 obtain⟨A,n,c,p,zs,h1,h2,h3,h4⟩:=h;exact⟨A,n,c,p,zs,h1,h2,Nat.le_trans h3 hq,h4⟩
theorem GenP.gb{w w':World}{B g P:Nat}{row:Option Nat}(h:GenP w B g P)(k:w.grownBy w' row)(hr:∀ x,row=some x->B<=x):GenP w' B g P:=by
 obtain⟨A,n,c,p,zs,h1,h2,h3,h4,h5,h6,h7,h8,h9⟩:=h;have hne:∀ b,b<B->some b ≠ row:=fun b hb e=>by have:=hr b e.symm;omega
 refine⟨A,n,c,p,zs,h1,Nat.le_trans h2 k.size,h3,h4,?_,?_,?_,h8,fun h0=>?_⟩
 ·exact(gb_cell k (p:=⟨g,0,none⟩) (Nat.lt_of_lt_of_le h1 h2) (hne g h1)).trans h5
 ·exact(gb_cell k (p:=⟨g,1,none⟩) (Nat.lt_of_lt_of_le h1 h2) (hne g h1)).trans h6
 ·exact(gb_frozen k (p:=⟨g,1,none⟩) (Nat.lt_of_lt_of_le h1 h2) (hne g h1)).trans h7
 ·obtain⟨b,off,e,hb,hbg,hc⟩:=h9 h0
  exact⟨b,off,e,hb,hbg,fun i hi=>(gb_cell k (p:=⟨b,off+i,none⟩) (Nat.lt_of_lt_of_le hb h2) (hne b hb)).trans (hc i hi)⟩
theorem GenP.und{w w':World}{B g P:Nat}(h:GenP w B g P)(u:Und w w'):GenP w' B g P:=h.gb (u.gb none) (fun _ e=>by cases e)
theorem GenP.fresh{w:World}{A:Option Addr}{n c:Nat}{zs:List Int}{T:TypeId}(hn:n<=9223372036854775807)(hz:zs.length=n)(h:IntsAt w A zs):GenP (w.alloc (.cells #[.slice A n c,.int .i64 0] T)) (w.heap.size+1) w.heap.size 0:=by
 refine⟨A,n,c,0,zs,by omega,by simp,by omega,hn,by simp,by simp,?_,hz,fun h0=>?_⟩
 ·exact zfH (heap_alloc_new w _) 1
 ·obtain⟨b,off,e,hb,hc⟩:=h h0
  refine⟨b,off,e,by omega,by omega,fun i hi=>?_⟩;exact(((Und.refl w).alloc _).cell (p:=⟨b,off+i,none⟩) hb).trans (hc i hi)
theorem next_gen(B g P:Nat)(m:Int)(w:World)(hG:GenP w B g P)(hP:P<=4611686018427387904)(h1:1<=m)(h2:m<=4611686018427387904) :
  Calls Tryz.prog 19 #[.pointer (some ⟨g,0,none⟩),.int .i64 m] w fun e w'=>∃ r:Nat,e=.returned (.int .i64 r)/\(r:Int)<m/\GenP w' B g (P+1)/\w.grownBy w' (some g):=by
 have HG:=hid hG;obtain⟨A,n,c,p,zs,hgB,hB,hpP,hn,g0,g1,g2,hz,hI⟩:=hG;have HZ:=hid hz;have H:=hid hI;have hg:=zbL _ _ g0;haveI:LtW g w:=LtW.of hg;clear hI hz
 have fin:∀ W:World,Und (w.setCell ⟨g,1,none⟩ (.int .i64 ((p:Int)+1))) W->GenP W B g (P+1)/\w.grownBy W (some g):=by
  intro W hW
  have hset:GenP (w.setCell ⟨g,1,none⟩ (.int .i64 ((p:Int)+1))) B g (P+1):=by
   obtain⟨A,n,c,p',zs,h1,h2,h3,h4,h5,h6,h7,h8,h9⟩:=HG.out;rw[g1] at h6;simp only[Option.some.injEq,Value.int.injEq,true_and] at h6;have e:p=p':=by omega
   subst e;refine⟨A,n,c,p+1,zs,h1,by simpa using h2,by omega,h4,?_,?_,?_,h8,fun h0=>?_⟩
   ·rw[<- h5];go_simp
   ·go_simp
   ·rw[<- h7];go_simp
   ·obtain⟨b,off,e,hb,hbg,hc⟩:=h9 h0
    refine⟨b,off,e,hb,hbg,fun i hi=>?_⟩;exact(gb_cell (gb_set w ⟨g,1,none⟩ _) (p:=⟨b,off+i,none⟩) (Nat.lt_of_lt_of_le hb h2) (by simpa using hbg)).trans (hc i hi)
  exact⟨hset.und hW,gb_und (gb_set w ⟨g,1,none⟩ _) hW⟩
 have FIN:=hid fin;clear fin
 by_cases hlt:p<n
 ·obtain⟨b,off,rfl,hb,hbg,hc⟩:=H.out (by rw[HZ.out];omega)
  have hck:=hc p (by rw[HZ.out];omega);generalize zs.getD p 0=z at hck;clear hc;haveI:LtW b w:=LtW.of (by omega);go_enter Tryz.func19,Tryz.ntmps19;go_wp2_with fail
  first|refine wp_region_under2 (by kernel_rfl) (by kernel_rfl) ?_|refine wp_region_under (by kernel_rfl) (by kernel_rfl) ?_
  repeat (go_big_quiet_step (first|(fail)))
  refine wpQuiet_nil ?_;rintro _ ⟨X,rfl⟩;go_wp2_with fail
  first|refine wp_region_under2 (by kernel_rfl) (by kernel_rfl) ?_|refine wp_region_under (by kernel_rfl) (by kernel_rfl) ?_
  repeat (go_big_quiet_step (first|(fail)))
  refine wpQuiet_nil ?_;rintro _ ⟨X,rfl⟩;go_wp2_with (go_at_call 69;refine(place_any _ _ _ h1 h2).mono ?_;rintro e w' ⟨rfl,rfl⟩);go_ret;obtain⟨r,hr⟩:∃ r:Nat,z % m=r:=⟨(z % m).toNat,by have:=Int.emod_nonneg z (show m ≠ 0 by omega);omega⟩;exact⟨r,ret_int hr,by rw[<- hr];exact Int.emod_lt_of_pos _ (by omega),(FIN.out _ (by apply_rules[uUe,uUa,uUb,uUc,uUd])).1,(FIN.out _ (by apply_rules[uUe,uUa,uUb,uUc,uUd])).2⟩
 ·go_enter Tryz.func19,Tryz.ntmps19
  go_wp2_with fail
  first|refine wp_region_under2 (by kernel_rfl) (by kernel_rfl) ?_|refine wp_region_under (by kernel_rfl) (by kernel_rfl) ?_
  repeat (go_big_quiet_step (first|(fail)))
  refine wpQuiet_nil ?_;rintro _ ⟨X,rfl⟩;go_wp2_with (go_at_call 69;refine(place_any _ _ _ h1 h2).mono ?_;rintro e w' ⟨rfl,rfl⟩);go_ret;exact⟨0,by simp,by omega,(FIN.out _ (by apply_rules[uUe,uUa,uUb,uUc,uUd])).1,(FIN.out _ (by apply_rules[uUe,uUa,uUb,uUc,uUd])).2⟩
theorem lit_cell(w w':World)(xs:Array Value)(T:TypeId)(B g:Nat)(hk:(w.alloc (.cells xs T)).grownBy w' (some g))(hg:g<B)(hB:B<=w.heap.size)(r:Nat)(v:Value)(hv:xs[r]?=some v):w'.cell? ⟨w.heap.size,r,none⟩=some v:=by
 have:=gb_cell hk (p:=⟨w.heap.size,r,none⟩) (by simp) (by simp;omega)
 rw[this,World.cell?_alloc_at _ _ _ _ rfl];exact hv
theorem word_gen(B g P:Nat)(w:World)(hG:GenP w B g P)(hP:P<=4611686018427387904) :
  Calls Tryz.prog 70 #[.pointer (some ⟨g,0,none⟩)] w fun e w'=>∃ t:ByteArray,e=.returned (.string t)/\t.size<=5/\GenP w' B g (P+1)/\w.grownBy w' (some g):=by
 have HG:=hid hG;obtain⟨hgB,hB⟩:=hG.lt;clear hG;go_enter Tryz.func70,Tryz.ntmps70;go_wp2_with fail;have hG1:=HG.out.und ((Und.refl w).alloc (.cells #[.string ⟨#[114,101,100]⟩,.string ⟨#[99,97,114]⟩,.string ⟨#[82,101,100]⟩,.string ⟨#[97]⟩,.string ⟨#[99,97,114,115]⟩,.string ⟨#[49,44,53]⟩,.string ⟨#[50,50]⟩,.string ⟨#[100,111,110,39,116]⟩,.string ⟨#[46]⟩,.string ⟨#[33]⟩,.string ⟨#[32]⟩,.string ⟨#[32,32]⟩,.string ⟨#[60]⟩,.string ⟨#[38]⟩,.string ⟨#[123]⟩,.string ⟨#[34]⟩,.string ⟨#[92]⟩,.string ⟨#[120,45,121]⟩,.string ⟨#[10]⟩,.string ⟨#[61]⟩,.string ⟨#[125]⟩,.string ⟨#[62]⟩,.string ⟨#[9]⟩,.string ⟨#[98]⟩] 9));refine(next_gen B g P 24 _ hG1 hP (by omega) (by omega)).mono ?_;rintro e w2 ⟨r,rfl,hr,hG2,hk⟩;have hr':r<24:=by omega
 obtain⟨t,ht,hts⟩:∃ t:ByteArray,(#[.string ⟨#[114,101,100]⟩,.string ⟨#[99,97,114]⟩,.string ⟨#[82,101,100]⟩,.string ⟨#[97]⟩,.string ⟨#[99,97,114,115]⟩,.string ⟨#[49,44,53]⟩,.string ⟨#[50,50]⟩,.string ⟨#[100,111,110,39,116]⟩,.string ⟨#[46]⟩,.string ⟨#[33]⟩,.string ⟨#[32]⟩,.string ⟨#[32,32]⟩,.string ⟨#[60]⟩,.string ⟨#[38]⟩,.string ⟨#[123]⟩,.string ⟨#[34]⟩,.string ⟨#[92]⟩,.string ⟨#[120,45,121]⟩,.string ⟨#[10]⟩,.string ⟨#[61]⟩,.string ⟨#[125]⟩,.string ⟨#[62]⟩,.string ⟨#[9]⟩,.string ⟨#[98]⟩]:Array Value)[r]?=some (.string t)/\t.size<=5:=by
  rcases(show r=0∨r=1∨r=2∨r=3∨r=4∨r=5∨r=6∨r=7∨r=8∨r=9∨r=10∨r=11∨r=12∨r=13∨r=14∨r=15∨r=16∨r=17∨r=18∨r=19∨r=20∨r=21∨r=22∨r=23 by omega) with h|h|h|h|h|h|h|h|h|h|h|h|h|h|h|h|h|h|h|h|h|h|h|h <;> subst h <;> exact⟨_,rfl,by decide⟩
 have hcell:=lit_cell w w2 _ _ B g hk hgB hB r _ ht;have hkw:w.grownBy w2 (some g):=gb_trans (((Und.refl w).alloc _).gb (some g)) hk (fun _ e=>.inl e);have HE:=hid (And.intro hG2 hkw);have hsz:w.heap.size<w2.heap.size:=by have:=hk.size;simp at this;omega
 haveI:LtW w.heap.size w2:=LtW.of hsz;clear hG1 hG2 hkw hk ht;go_wp2;go_ret;exact⟨t,rfl,hts,HE.out.1,HE.out.2⟩
def LnRel(w:World)(B g P n:Nat)(s5 s6:Value)(wr:World):Prop:=∃ (i k:Nat) (t:ByteArray),s5=.string t/\s6=.int .i64 i/\k+i<=n/\t.size<=6*k/\GenP wr B g (P+1+2*k)/\w.grownBy wr (some g)
theorem line_gen(B g P n:Nat)(w:World)(hG:GenP w B g P)(hP:P<=1000000)(hn:n<=1000) :
  Calls Tryz.prog 20 #[.pointer (some ⟨g,0,none⟩),.int .i64 n] w fun e w'=>∃ t:ByteArray,e=.returned (.string t)/\t.size<=6*n/\GenP w' B g (P+1+2*n)/\w.grownBy w' (some g):=by
 have HG:=hid hG;clear hG;go_enter Tryz.func20,Tryz.ntmps20;go_wp2_with fail;refine(next_gen B g P ((n:Int)+1) _ HG.out (by omega) (by omega) (by omega)).mono ?_;rintro e w2 ⟨r,rfl,hr,hG2,hk⟩;have HG2:=hid hG2;have HK2:=hid hk;clear hG2 hk HG;go_wp2_with fail;go_loopw [5,6] (fun s5 s6 wr=>LnRel w B g P n s5 s6 wr) (fun _ s6 _=>(intOf s6).toNat)
 case atStart=>exact⟨r,0,⟨#[]⟩,rfl,rfl,by omega,by show 0<=_;omega,HG2.out,HK2.out⟩
 case round=>
  clear HG2 HK2 hr;obtain⟨i,k,t,rfl,rfl,hki,hts,hG,hk⟩:=hrel;have HG:=hid hG;have HK:=hid hk;clear hG hk
  by_cases hi:0<i
  ·have z:(0:Int)<(i:Int):=by omega
   go_wp2_with fail;refine(word_gen B g _ _ HG.out (by omega)).mono ?_;rintro e w3 ⟨u,rfl,hu,hG3,hk3⟩;have HG3:=hid hG3;have HK3:=hid (gb_trans HK.out hk3 (fun _ e=>.inl e));clear hG3 hk3 HG HK
   by_cases hte:t=⟨#[]⟩
   ·subst hte
    have y1:¬ 9223372036854775807<(⟨#[]⟩:ByteArray).size+u.size:=by show ¬ 9223372036854775807<0+_;omega
    go_wp2;refine⟨⟨i-1,k+1,_,rfl,congrArg (Value.int .i64) (by omega),by omega,?_,HG3.out.le (by omega),HK3.out⟩,by simp[intOf];omega⟩;rw[ByteArray.size_append]
    show 0+_<=_;omega
   ·have hne:(t.toList==[])=false:=by
     rw[Lib.toList_data];refine Bool.eq_false_iff.2 fun e=>hte (ByteArray.ext ?_)
     have:=eq_of_beq e
     simpa using this
    clear hte;go_wp2_with fail;refine(next_gen B g _ 3 _ HG3.out (by omega) (by omega) (by omega)).mono ?_;rintro e w4 ⟨r,rfl,hr,hG4,hk4⟩;have HG4:=hid hG4;have HK4:=hid (gb_trans HK3.out hk4 (fun _ e=>.inl e));clear hG4 hk4 HG3 HK3
    by_cases hr0:0<r
    ·have z2:(0:Int)<(r:Int):=by omega
     have y1:¬ 9223372036854775807<t.size+1:=by omega
     have y2:¬ 9223372036854775807<t.size+1+u.size:=by omega
     go_wp2;refine⟨⟨i-1,k+1,_,rfl,congrArg (Value.int .i64) (by omega),by omega,?_,HG4.out.le (by omega),HK4.out⟩,by simp[intOf];omega⟩;rw[ByteArray.size_append,ByteArray.size_append]
     show _+1+_<=_;omega
    ·have z2:¬ (0:Int)<(r:Int):=by omega
     have y1:¬ 9223372036854775807<t.size+u.size:=by omega
     go_wp2;refine⟨⟨i-1,k+1,_,rfl,congrArg (Value.int .i64) (by omega),by omega,?_,HG4.out.le (by omega),HK4.out⟩,by simp[intOf];omega⟩;rw[ByteArray.size_append];omega
  ·have z:¬ (0:Int)<(i:Int):=by omega
   go_wp2;go_ret;exact⟨t,rfl,by omega,HG.out.le (by omega),HK.out⟩
end
end Go.Proofs.YtcfhfdphoidaeaaGreatDoor
