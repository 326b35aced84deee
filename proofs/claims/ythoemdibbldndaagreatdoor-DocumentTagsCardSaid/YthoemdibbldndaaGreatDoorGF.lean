/- The contract of bitextmake.Place: the remainder that is not negative. -/
import Derived.Test.YthoemdibbldndaaGreatDoorGA
import Derived.Deep.QuietTactic
import Derived.BigQuiet
set_option linter.all false
set_option maxHeartbeats 0
set_option maxRecDepth 20000
open Go.Value renaming int->UM,string->UN,pointer->UQ
open Option renaming none->UW,some->UX
open Go renaming World->UY
namespace Go.Proofs.YthoemdibbldndaaGreatDoor
open Go.RowKit
section
theorem M9{x n:Int}(hn:1<=n)(h:x.tmod n<0):x.tmod n+n=x % n:=by
 have h1:=Int.lt_tmod_of_pos x (by omega:0<n);have h2:=Int.mul_tdiv_add_tmod x n;have h3:x=(x.tmod n+n)+n*(x.tdiv n-1):=by rw[Int.mul_sub];omega
 rw[h3,Int.add_mul_emod_self_left,<-h3];exact(Int.emod_eq_of_lt (by omega) (by omega)).symm
theorem M8{x n:Int}(hn:1<=n)(h:¬x.tmod n<0):x.tmod n=x % n:=by
 have h1:=Int.tmod_lt_of_pos x (by omega:0<n);have h2:=Int.mul_tdiv_add_tmod x n;have h3:x=x.tmod n+n*x.tdiv n:=by omega
 rw[h3,Int.add_mul_emod_self_left,<-h3];exact(Int.emod_eq_of_lt (by omega) (by omega)).symm
theorem sJ(x n:Int)(w:UY)(h1:1<=n)(h2:n<=4611686018427387904) :
  Calls Tryz.prog 15 #[UM .i64 x,UM .i64 n] w λe w'=>e=.returned (UM .i64 (x % n))/\w=w':=by
 have b1:=Int.lt_tmod_of_pos x (by omega:0<n);have b2:=Int.tmod_lt_of_pos x (by omega:0<n);have hs:¬n=0:=by omega
 have hs':¬n=-1:=by omega
 by_cases h:x.tmod n<0
 ·go_enter Tryz.func15,Tryz.ntmps15;go_wp2;go_ret;exact⟨ba (M9 h1 h),rfl⟩
 go_enter Tryz.func15,Tryz.ntmps15;go_wp2;go_ret;exact⟨ba (M8 h1 (by omega)),rfl⟩
end
section
def iv(w:UY)(A:Option Addr)(zs:List Int):Prop:=
 zs.length > 0->∃b off,A=UX ⟨b,off,UW⟩/\b<w.1.size/\∀i,i<zs.length->w.cell? ⟨b,off+i,UW⟩=UX (UM .i64 (zs.getD i 0))
theorem iv.ai{w w':UY}{A:Option Addr}{zs:List Int}(h:iv w A zs)(u:ac w w'):iv w' A zs:=by
 intro h0;obtain⟨b,off,hA,hb,hc⟩:=h h0;exact⟨b,off,hA,Nat.lt_of_lt_of_le hb u.size,λi hi=>by rw[u.cell hb];exact hc i hi⟩
def bK(w:UY)(B g P:Nat):Prop:=
 ∃(A:Option Addr) (n c p:Nat) (zs:List Int),g<B/\B<=w.1.size/\p<=P/\n<=9223372036854775807/\w.cell? ⟨g,0,UW⟩=UX (.slice A n c)/\w.cell? ⟨g,1,UW⟩=UX (UM .i64 p)/\w.frozen? ⟨g,1,UW⟩=false/\zs.length=n /\
  (zs.length > 0->∃b off,A=UX ⟨b,off,UW⟩/\b<B/\b≠g/\∀i,i<zs.length->w.cell? ⟨b,off+i,UW⟩=UX (UM .i64 (zs.getD i 0)))
theorem bK.lt{w:UY}{B g P:Nat}(h:bK w B g P):g<B/\B<=w.1.size:=by obtain⟨_,_,_,_,_,h1,h2,_⟩:=h;exact⟨h1,h2⟩
theorem bK.le{w:UY}{B g P Q:Nat}(h:bK w B g P)(hq:P<=Q):bK w B g Q:=by
 obtain⟨A,n,c,p,zs,h1,h2,h3,h4⟩:=h;exact⟨A,n,c,p,zs,h1,h2,Nat.le_trans h3 hq,h4⟩
theorem bK.gb{w w':UY}{B g P:Nat}{row:Option Nat}(h:bK w B g P)(k:w.grownBy w' row)(hr:∀x,row=UX x->B<=x):bK w' B g P:=by
 obtain⟨A,n,c,p,zs,h1,h2,h3,h4,h5,h6,h7,h8,h9⟩:=h;have hne:∀b,b<B->UX b≠row:=λb hb e=>by have:=hr b e.symm;omega
 refine⟨A,n,c,p,zs,h1,Nat.le_trans h2 k.size,h3,h4,?_,?_,?_,h8,λh0=>?_⟩
 ·exact(dd k (p:=⟨g,0,UW⟩) (Nat.lt_of_lt_of_le h1 h2) (hne g h1)).trans h5
 ·exact(dd k (p:=⟨g,1,UW⟩) (Nat.lt_of_lt_of_le h1 h2) (hne g h1)).trans h6
 ·exact(G0 k (p:=⟨g,1,UW⟩) (Nat.lt_of_lt_of_le h1 h2) (hne g h1)).trans h7
 obtain⟨b,off,e,hb,hbg,hc⟩:=h9 h0;exact⟨b,off,e,hb,hbg,λi hi=>(dd k (p:=⟨b,off+i,UW⟩) (Nat.lt_of_lt_of_le hb h2) (hne b hb)).trans (hc i hi)⟩
theorem bK.ai{w w':UY}{B g P:Nat}(h:bK w B g P)(u:ac w w'):bK w' B g P:=h.gb (u.gb UW) (λ_ e=>by cases e)
theorem bK.fresh{w:UY}{A:Option Addr}{n c:Nat}{zs:List Int}{T:TypeId}(hn:n<=9223372036854775807)(hz:zs.length=n)(h:iv w A zs):bK (w.alloc (.cells #[.slice A n c,UM .i64 0] T)) (w.1.size+1) w.1.size 0:=by
 refine⟨A,n,c,0,zs,by omega,by simp,by omega,hn,by simp,by simp,?_,hz,λh0=>?_⟩
 ·exact bk (heap_alloc_new w _) 1
 obtain⟨b,off,e,hb,hc⟩:=h h0;refine⟨b,off,e,by omega,by omega,λi hi=>?_⟩;exact(((ac.refl w).alloc _).cell (p:=⟨b,off+i,UW⟩) hb).trans (hc i hi)
theorem cx(B g P:Nat)(m:Int)(w:UY)(hG:bK w B g P)(hP:P<=4611686018427387904)(h1:1<=m)(h2:m<=4611686018427387904) :
  Calls Tryz.prog 64 #[UQ (UX ⟨g,0,UW⟩),UM .i64 m] w λe w'=>∃r:Nat,e=.returned (UM .i64 r)/\(r:Int)<m/\bK w' B g (P+1)/\w.grownBy w' (UX g):=by
 have HG:=aa hG;obtain⟨A,n,c,p,zs,kw,hB,hpP,hn,g0,g1,g2,hz,hI⟩:=hG;have HZ:=aa hz;have H:=aa hI;have hg:=cM _ _ g0;haveI:af g w:=af.of hg;clear hI hz
 have fin:∀W:UY,ac (w.setCell ⟨g,1,UW⟩ (UM .i64 ((p:Int)+1))) W->bK W B g (P+1)/\w.grownBy W (UX g):=by
  intro W hW
  have kN:bK (w.setCell ⟨g,1,UW⟩ (UM .i64 ((p:Int)+1))) B g (P+1):=by
   obtain⟨A,n,c,p',zs,h1,h2,h3,h4,h5,h6,h7,h8,h9⟩:=HG.out;rw[g1]at h6;simp only[Option.some.injEq,Value.int.injEq,true_and]at h6;have e:p=p':=by omega
   subst e;refine⟨A,n,c,p+1,zs,h1,by simpa using h2,by omega,h4,?_,?_,?_,h8,λh0=>?_⟩
   ·rw[<-h5];go_simp
   ·go_simp
   ·rw[<-h7];go_simp
   obtain⟨b,off,e,hb,hbg,hc⟩:=h9 h0;refine⟨b,off,e,hb,hbg,λi hi=>?_⟩;exact(dd (cK w ⟨g,1,UW⟩ _) (p:=⟨b,off+i,UW⟩) (Nat.lt_of_lt_of_le hb h2) (by simpa using hbg)).trans (hc i hi)
  exact⟨kN.ai hW,cm (cK w ⟨g,1,UW⟩ _) hW⟩
 have gF:=aa fin;clear fin
 by_cases hlt:p<n
 ·obtain⟨b,off,rfl,hb,hbg,hc⟩:=H.out (by rw[HZ.out];omega);have jk:=hc p (by rw[HZ.out];omega);generalize zs.getD p 0=z at jk;clear hc;haveI:af b w:=af.of (by omega);go_enter Tryz.func64,Tryz.ntmps64;go_wp2_with fail
  first|refine aM (by kernel_rfl) (by kernel_rfl) ?_|refine aQ (by kernel_rfl) (by kernel_rfl) ?_
  repeat (go_big_quiet_step (first|(fail)))
  refine wpQuiet_nil ?_;rintro _ ⟨X,rfl⟩;go_wp2_with fail
  first|refine aM (by kernel_rfl) (by kernel_rfl) ?_|refine aQ (by kernel_rfl) (by kernel_rfl) ?_
  repeat (go_big_quiet_step (first|(fail)))
  refine wpQuiet_nil ?_;rintro _ ⟨X,rfl⟩;go_wp2_with (go_at_call 15;refine(sJ _ _ _ h1 h2).mono ?_;rintro e w' ⟨rfl,rfl⟩);go_ret;obtain⟨r,hr⟩:∃r:Nat,z % m=r:=⟨(z % m).toNat,by have:=Int.emod_nonneg z (show m≠0 by omega);omega⟩;exact⟨r,ba hr,by rw[<-hr];exact Int.emod_lt_of_pos _ (by omega),(gF.out _ uZ).1,(gF.out _ uZ).2⟩
 go_enter Tryz.func64,Tryz.ntmps64;go_wp2_with fail
 first|refine aM (by kernel_rfl) (by kernel_rfl) ?_|refine aQ (by kernel_rfl) (by kernel_rfl) ?_
 repeat (go_big_quiet_step (first|(fail)))
 refine wpQuiet_nil ?_;rintro _ ⟨X,rfl⟩;go_wp2_with (go_at_call 15;refine(sJ _ _ _ h1 h2).mono ?_;rintro e w' ⟨rfl,rfl⟩);go_ret;exact⟨0,by simp,by omega,(gF.out _ uZ).1,(gF.out _ uZ).2⟩
theorem gw(w w':UY)(xs:Array Value)(T:TypeId)(B g:Nat)(hk:(w.alloc (.cells xs T)).grownBy w' (UX g))(hg:g<B)(hB:B<=w.1.size)(r:Nat)(v:Value)(hv:xs[r]?=UX v):w'.cell? ⟨w.1.size,r,UW⟩=UX v:=by
 have:=dd hk (p:=⟨w.1.size,r,UW⟩) (by simp) (by simp;omega)
 rw[this,World.cell?_alloc_at _ _ _ _ rfl];exact hv
theorem KW(B g P:Nat)(w:UY)(hG:bK w B g P)(hP:P<=4611686018427387904) :
  Calls Tryz.prog 147 #[UQ (UX ⟨g,0,UW⟩)] w λe w'=>∃t:ByteArray,e=.returned (UN t)/\t.size<=5/\bK w' B g (P+1)/\w.grownBy w' (UX g):=by
 have HG:=aa hG;obtain⟨kw,hB⟩:=hG.lt;clear hG;go_enter Tryz.func147,Tryz.ntmps147;go_wp2_with fail;have G6:=HG.out.ai ((ac.refl w).alloc (.cells #[UN ⟨#[114,101,100]⟩,UN ⟨#[99,97,114]⟩,UN ⟨#[82,101,100]⟩,UN ⟨#[97]⟩,UN ⟨#[99,97,114,115]⟩,UN ⟨#[49,44,53]⟩,UN ⟨#[50,50]⟩,UN ⟨#[100,111,110,39,116]⟩,UN ⟨#[46]⟩,UN ⟨#[33]⟩,UN ⟨#[32]⟩,UN ⟨#[32,32]⟩,UN ⟨#[60]⟩,UN ⟨#[38]⟩,UN ⟨#[123]⟩,UN ⟨#[34]⟩,UN ⟨#[92]⟩,UN ⟨#[120,45,121]⟩,UN ⟨#[10]⟩,UN ⟨#[61]⟩,UN ⟨#[125]⟩,UN ⟨#[62]⟩,UN ⟨#[9]⟩,UN ⟨#[98]⟩] 9));refine(cx B g P 24 _ G6 hP (by omega) (by omega)).mono ?_;rintro e w2 ⟨r,rfl,hr,hG2,hk⟩;have hr':r<24:=by omega
 obtain⟨t,ht,hts⟩:∃t:ByteArray,(#[UN ⟨#[114,101,100]⟩,UN ⟨#[99,97,114]⟩,UN ⟨#[82,101,100]⟩,UN ⟨#[97]⟩,UN ⟨#[99,97,114,115]⟩,UN ⟨#[49,44,53]⟩,UN ⟨#[50,50]⟩,UN ⟨#[100,111,110,39,116]⟩,UN ⟨#[46]⟩,UN ⟨#[33]⟩,UN ⟨#[32]⟩,UN ⟨#[32,32]⟩,UN ⟨#[60]⟩,UN ⟨#[38]⟩,UN ⟨#[123]⟩,UN ⟨#[34]⟩,UN ⟨#[92]⟩,UN ⟨#[120,45,121]⟩,UN ⟨#[10]⟩,UN ⟨#[61]⟩,UN ⟨#[125]⟩,UN ⟨#[62]⟩,UN ⟨#[9]⟩,UN ⟨#[98]⟩]:Array Value)[r]?=UX (UN t)/\t.size<=5:=by
  rcases(show r=0\/r=1\/r=2\/r=3\/r=4\/r=5\/r=6\/r=7\/r=8\/r=9\/r=10\/r=11\/r=12\/r=13\/r=14\/r=15\/r=16\/r=17\/r=18\/r=19\/r=20\/r=21\/r=22\/r=23 by omega)with h|h|h|h|h|h|h|h|h|h|h|h|h|h|h|h|h|h|h|h|h|h|h|h<;>subst h<;>exact⟨_,rfl,by decide⟩
 have hcell:=gw w w2 _ _ B g hk kw hB r _ ht;have Oh:w.grownBy w2 (UX g):=aW (((ac.refl w).alloc _).gb (UX g)) hk (λ_ e=>.inl e);have HE:=aa (And.intro hG2 Oh);have hsz:w.1.size<w2.1.size:=by have:=hk.size;simp at this;omega
 haveI:af w.1.size w2:=af.of hsz;clear G6 hG2 Oh hk ht;go_wp2;go_ret;exact⟨t,rfl,hts,HE.out.1,HE.out.2⟩
def PA(w:UY)(B g P n:Nat)(s5 s6:Value)(wr:UY):Prop:=∃(i k:Nat) (t:ByteArray),s5=UN t/\s6=UM .i64 i/\k+i<=n/\t.size<=6*k/\bK wr B g (P+1+2*k)/\w.grownBy wr (UX g)
theorem Bs(B g P n:Nat)(w:UY)(hG:bK w B g P)(hP:P<=1000000)(hn:n<=1000) :
  Calls Tryz.prog 106 #[UQ (UX ⟨g,0,UW⟩),UM .i64 n] w λe w'=>∃t:ByteArray,e=.returned (UN t)/\t.size<=6*n/\bK w' B g (P+1+2*n)/\w.grownBy w' (UX g):=by
 have HG:=aa hG;clear hG;go_enter Tryz.func106,Tryz.ntmps106;go_wp2_with fail;refine(cx B g P ((n:Int)+1) _ HG.out (by omega) (by omega) (by omega)).mono ?_;rintro e w2 ⟨r,rfl,hr,hG2,hk⟩;have HG2:=aa hG2;have iO:=aa hk;clear hG2 hk HG;go_wp2_with fail;go_loopw [5,6] (λs5 s6 wr=>PA w B g P n s5 s6 wr) (λ_ s6 _=>(intOf s6).toNat)
 case atStart=>exact⟨r,0,⟨#[]⟩,rfl,rfl,by omega,by show 0<=_;omega,HG2.out,iO.out⟩
 case round=>
  clear HG2 iO hr;obtain⟨i,k,t,rfl,rfl,hki,hts,hG,hk⟩:=hrel;have HG:=aa hG;have HK:=aa hk;clear hG hk
  by_cases hi:0<i
  ·have z:(0:Int)<(i:Int):=by omega
   go_wp2_with fail;refine(KW B g _ _ HG.out (by omega)).mono ?_;rintro e w3 ⟨u,rfl,hu,hG3,hk3⟩;have kk:=aa hG3;have gu:=aa (aW HK.out hk3 (λ_ e=>.inl e));clear hG3 hk3 HG HK
   by_cases hte:t=⟨#[]⟩
   ·subst hte;have y1:¬9223372036854775807<(⟨#[]⟩:ByteArray).size+u.size:=by show ¬9223372036854775807<0+_;omega
    go_wp2;refine⟨⟨i-1,k+1,_,rfl,congrArg (UM .i64) (by omega),by omega,?_,kk.out.le (by omega),gu.out⟩,by simp[intOf];omega⟩;rw[ByteArray.size_append]
    show 0+_<=_;omega
   have hne:(t.toList==[])=false:=by
    rw[Lib.toList_data];refine Bool.eq_false_iff.2 λe=>hte (ByteArray.ext ?_)
    have:=eq_of_beq e
    simpa using this
   clear hte;go_wp2_with fail;refine(cx B g _ 3 _ kk.out (by omega) (by omega) (by omega)).mono ?_;rintro e w4 ⟨r,rfl,hr,hG4,hk4⟩;have fx:=aa hG4;have dB:=aa (aW gu.out hk4 (λ_ e=>.inl e));clear hG4 hk4 kk gu
   by_cases vI:0<r
   ·have z2:(0:Int)<(r:Int):=by omega
    have y1:¬9223372036854775807<t.size+1:=by omega
    have y2:¬9223372036854775807<t.size+1+u.size:=by omega
    go_wp2;refine⟨⟨i-1,k+1,_,rfl,congrArg (UM .i64) (by omega),by omega,?_,fx.out.le (by omega),dB.out⟩,by simp[intOf];omega⟩;rw[ByteArray.size_append,ByteArray.size_append]
    show _+1+_<=_;omega
   have z2:¬(0:Int)<(r:Int):=by omega
   have y1:¬9223372036854775807<t.size+u.size:=by omega
   go_wp2;refine⟨⟨i-1,k+1,_,rfl,congrArg (UM .i64) (by omega),by omega,?_,fx.out.le (by omega),dB.out⟩,by simp[intOf];omega⟩;rw[ByteArray.size_append];omega
  have z:¬(0:Int)<(i:Int):=by omega
  go_wp2;go_ret;exact⟨t,rfl,by omega,HG.out.le (by omega),HK.out⟩
end
