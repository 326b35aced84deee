/- The contract of bitextmake.Place: the remainder that is not negative. -/
import Derived.Test.YthoemdibbldndaaGreatDoorGA
import Derived.Deep.QuietTactic
import Derived.BigQuiet
set_option linter.all false
set_option maxHeartbeats 0
set_option maxRecDepth 20000
open Go.Value renaming int->Yh,string->Yi,pointer->Yl
open Option renaming none->Yq,some->Yr
open Go renaming World->Ys
namespace Go.Proofs.YthoemdibbldndaaGreatDoor
open Go.RowKit
section
theorem Pz{x n:Int}(hn:1<=n)(h:x.tmod n<0):x.tmod n+n=x % n:=by
 have h1:=Int.lt_tmod_of_pos x (by omega:0<n);have h2:=Int.mul_tdiv_add_tmod x n;have h3:x=(x.tmod n+n)+n*(x.tdiv n-1):=by rw[Int.mul_sub];omega
 rw[h3,Int.add_mul_emod_self_left,<-h3];exact(Int.emod_eq_of_lt (by omega) (by omega)).symm
theorem Py{x n:Int}(hn:1<=n)(h:¬x.tmod n<0):x.tmod n=x % n:=by
 have h1:=Int.tmod_lt_of_pos x (by omega:0<n);have h2:=Int.mul_tdiv_add_tmod x n;have h3:x=x.tmod n+n*x.tdiv n:=by omega
 rw[h3,Int.add_mul_emod_self_left,<-h3];exact(Int.emod_eq_of_lt (by omega) (by omega)).symm
theorem tT(x n:Int)(w:Ys)(h1:1<=n)(h2:n<=4611686018427387904) :
  Calls Tryz.prog 15 #[Yh .i64 x,Yh .i64 n] w λe w'=>e=.returned (Yh .i64 (x % n))/\w=w':=by
 have b1:=Int.lt_tmod_of_pos x (by omega:0<n);have b2:=Int.tmod_lt_of_pos x (by omega:0<n);have hs:¬n=0:=by omega
 have hs':¬n=-1:=by omega
 by_cases h:x.tmod n<0
 ·go_enter Tryz.func15,Tryz.ntmps15;go_wp2;go_ret;exact⟨ba (Pz h1 h),rfl⟩
 go_enter Tryz.func15,Tryz.ntmps15;go_wp2;go_ret;exact⟨ba (Py h1 (by omega)),rfl⟩
end
section
def fq(w:Ys)(A:Option Addr)(zs:List Int):Prop:=
 zs.length > 0->∃b off,A=Yr ⟨b,off,Yq⟩/\b<w.1.size/\∀i,i<zs.length->w.cell? ⟨b,off+i,Yq⟩=Yr (Yh .i64 (zs.getD i 0))
theorem fq.ai{w w':Ys}{A:Option Addr}{zs:List Int}(h:fq w A zs)(u:ac w w'):fq w' A zs:=by
 intro h0;obtain⟨b,off,hA,hb,hc⟩:=h h0;exact⟨b,off,hA,Nat.lt_of_lt_of_le hb u.size,λi hi=>by rw[u.cell hb];exact hc i hi⟩
def bp(w:Ys)(B g P:Nat):Prop:=
 ∃(A:Option Addr) (n c p:Nat) (zs:List Int),g<B/\B<=w.1.size/\p<=P/\n<=9223372036854775807/\w.cell? ⟨g,0,Yq⟩=Yr (.slice A n c)/\w.cell? ⟨g,1,Yq⟩=Yr (Yh .i64 p)/\w.frozen? ⟨g,1,Yq⟩=false/\zs.length=n /\
  (zs.length > 0->∃b off,A=Yr ⟨b,off,Yq⟩/\b<B/\b≠g/\∀i,i<zs.length->w.cell? ⟨b,off+i,Yq⟩=Yr (Yh .i64 (zs.getD i 0)))
theorem bp.lt{w:Ys}{B g P:Nat}(h:bp w B g P):g<B/\B<=w.1.size:=by obtain⟨_,_,_,_,_,h1,h2,_⟩:=h;exact⟨h1,h2⟩
theorem bp.le{w:Ys}{B g P Q:Nat}(h:bp w B g P)(hq:P<=Q):bp w B g Q:=by
 obtain⟨A,n,c,p,zs,h1,h2,h3,h4⟩:=h;exact⟨A,n,c,p,zs,h1,h2,Nat.le_trans h3 hq,h4⟩
theorem bp.gb{w w':Ys}{B g P:Nat}{row:Option Nat}(h:bp w B g P)(k:w.grownBy w' row)(hr:∀x,row=Yr x->B<=x):bp w' B g P:=by
 obtain⟨A,n,c,p,zs,h1,h2,h3,h4,h5,h6,h7,h8,h9⟩:=h;have hne:∀b,b<B->Yr b≠row:=λb hb e=>by have:=hr b e.symm;omega
 refine⟨A,n,c,p,zs,h1,Nat.le_trans h2 k.size,h3,h4,?_,?_,?_,h8,λh0=>?_⟩
 ·exact(dA k (p:=⟨g,0,Yq⟩) (Nat.lt_of_lt_of_le h1 h2) (hne g h1)).trans h5
 ·exact(dA k (p:=⟨g,1,Yq⟩) (Nat.lt_of_lt_of_le h1 h2) (hne g h1)).trans h6
 ·exact(Jv k (p:=⟨g,1,Yq⟩) (Nat.lt_of_lt_of_le h1 h2) (hne g h1)).trans h7
 obtain⟨b,off,e,hb,hbg,hc⟩:=h9 h0;exact⟨b,off,e,hb,hbg,λi hi=>(dA k (p:=⟨b,off+i,Yq⟩) (Nat.lt_of_lt_of_le hb h2) (hne b hb)).trans (hc i hi)⟩
theorem bp.ai{w w':Ys}{B g P:Nat}(h:bp w B g P)(u:ac w w'):bp w' B g P:=h.gb (u.gb Yq) (λ_ e=>by cases e)
theorem bp.fresh{w:Ys}{A:Option Addr}{n c:Nat}{zs:List Int}{T:TypeId}(hn:n<=9223372036854775807)(hz:zs.length=n)(h:fq w A zs):bp (w.alloc (.cells #[.slice A n c,Yh .i64 0] T)) (w.1.size+1) w.1.size 0:=by
 refine⟨A,n,c,0,zs,by omega,by simp,by omega,hn,by simp,by simp,?_,hz,λh0=>?_⟩
 ·exact bz (heap_alloc_new w _) 1
 obtain⟨b,off,e,hb,hc⟩:=h h0;refine⟨b,off,e,by omega,by omega,λi hi=>?_⟩;exact(((ac.refl w).alloc _).cell (p:=⟨b,off+i,Yq⟩) hb).trans (hc i hi)
theorem bR(B g P:Nat)(m:Int)(w:Ys)(hG:bp w B g P)(hP:P<=4611686018427387904)(h1:1<=m)(h2:m<=4611686018427387904) :
  Calls Tryz.prog 64 #[Yl (Yr ⟨g,0,Yq⟩),Yh .i64 m] w λe w'=>∃r:Nat,e=.returned (Yh .i64 r)/\(r:Int)<m/\bp w' B g (P+1)/\w.grownBy w' (Yr g):=by
 have HG:=aa hG;obtain⟨A,n,c,p,zs,ka,hB,hpP,hn,g0,g1,g2,hz,hI⟩:=hG;have HZ:=aa hz;have H:=aa hI;have hg:=cx _ _ g0;haveI:af g w:=af.of hg;clear hI hz
 have fin:∀W:Ys,ac (w.setCell ⟨g,1,Yq⟩ (Yh .i64 ((p:Int)+1))) W->bp W B g (P+1)/\w.grownBy W (Yr g):=by
  intro W hW
  have lm:bp (w.setCell ⟨g,1,Yq⟩ (Yh .i64 ((p:Int)+1))) B g (P+1):=by
   obtain⟨A,n,c,p',zs,h1,h2,h3,h4,h5,h6,h7,h8,h9⟩:=HG.out;rw[g1]at h6;simp only[Option.some.injEq,Value.int.injEq,true_and]at h6;have e:p=p':=by omega
   subst e;refine⟨A,n,c,p+1,zs,h1,by simpa using h2,by omega,h4,?_,?_,?_,h8,λh0=>?_⟩
   ·rw[<-h5];go_simp
   ·go_simp
   ·rw[<-h7];go_simp
   obtain⟨b,off,e,hb,hbg,hc⟩:=h9 h0;refine⟨b,off,e,hb,hbg,λi hi=>?_⟩;exact(dA (cJ w ⟨g,1,Yq⟩ _) (p:=⟨b,off+i,Yq⟩) (Nat.lt_of_lt_of_le hb h2) (by simpa using hbg)).trans (hc i hi)
  exact⟨lm.ai hW,bK (cJ w ⟨g,1,Yq⟩ _) hW⟩
 have gX:=aa fin;clear fin
 by_cases hlt:p<n
 ·obtain⟨b,off,rfl,hb,hbg,hc⟩:=H.out (by rw[HZ.out];omega);have jy:=hc p (by rw[HZ.out];omega);generalize zs.getD p 0=z at jy;clear hc;haveI:af b w:=af.of (by omega);go_enter Tryz.func64,Tryz.ntmps64;go_wp2_with fail
  first|refine aP (by kernel_rfl) (by kernel_rfl) ?_|refine aS (by kernel_rfl) (by kernel_rfl) ?_
  repeat (go_big_quiet_step (first|(fail)))
  refine wpQuiet_nil ?_;rintro _ ⟨X,rfl⟩;go_wp2_with fail
  first|refine aP (by kernel_rfl) (by kernel_rfl) ?_|refine aS (by kernel_rfl) (by kernel_rfl) ?_
  repeat (go_big_quiet_step (first|(fail)))
  refine wpQuiet_nil ?_;rintro _ ⟨X,rfl⟩;go_wp2_with (go_at_call 15;refine(tT _ _ _ h1 h2).mono ?_;rintro e w' ⟨rfl,rfl⟩);go_ret;obtain⟨r,hr⟩:∃r:Nat,z % m=r:=⟨(z % m).toNat,by have:=Int.emod_nonneg z (show m≠0 by omega);omega⟩;exact⟨r,ba hr,by rw[<-hr];exact Int.emod_lt_of_pos _ (by omega),(gX.out _ uZ).1,(gX.out _ uZ).2⟩
 go_enter Tryz.func64,Tryz.ntmps64;go_wp2_with fail
 first|refine aP (by kernel_rfl) (by kernel_rfl) ?_|refine aS (by kernel_rfl) (by kernel_rfl) ?_
 repeat (go_big_quiet_step (first|(fail)))
 refine wpQuiet_nil ?_;rintro _ ⟨X,rfl⟩;go_wp2_with (go_at_call 15;refine(tT _ _ _ h1 h2).mono ?_;rintro e w' ⟨rfl,rfl⟩);go_ret;exact⟨0,by simp,by omega,(gX.out _ uZ).1,(gX.out _ uZ).2⟩
theorem gN(w w':Ys)(xs:Array Value)(T:TypeId)(B g:Nat)(hk:(w.alloc (.cells xs T)).grownBy w' (Yr g))(hg:g<B)(hB:B<=w.1.size)(r:Nat)(v:Value)(hv:xs[r]?=Yr v):w'.cell? ⟨w.1.size,r,Yq⟩=Yr v:=by
 have:=dA hk (p:=⟨w.1.size,r,Yq⟩) (by simp) (by simp;omega)
 rw[this,World.cell?_alloc_at _ _ _ _ rfl];exact hv
theorem M6(B g P:Nat)(w:Ys)(hG:bp w B g P)(hP:P<=4611686018427387904) :
  Calls Tryz.prog 147 #[Yl (Yr ⟨g,0,Yq⟩)] w λe w'=>∃t:ByteArray,e=.returned (Yi t)/\t.size<=5/\bp w' B g (P+1)/\w.grownBy w' (Yr g):=by
 have HG:=aa hG;obtain⟨ka,hB⟩:=hG.lt;clear hG;go_enter Tryz.func147,Tryz.ntmps147;go_wp2_with fail;have JC:=HG.out.ai ((ac.refl w).alloc (.cells #[Yi ⟨#[114,101,100]⟩,Yi ⟨#[99,97,114]⟩,Yi ⟨#[82,101,100]⟩,Yi ⟨#[97]⟩,Yi ⟨#[99,97,114,115]⟩,Yi ⟨#[49,44,53]⟩,Yi ⟨#[50,50]⟩,Yi ⟨#[100,111,110,39,116]⟩,Yi ⟨#[46]⟩,Yi ⟨#[33]⟩,Yi ⟨#[32]⟩,Yi ⟨#[32,32]⟩,Yi ⟨#[60]⟩,Yi ⟨#[38]⟩,Yi ⟨#[123]⟩,Yi ⟨#[34]⟩,Yi ⟨#[92]⟩,Yi ⟨#[120,45,121]⟩,Yi ⟨#[10]⟩,Yi ⟨#[61]⟩,Yi ⟨#[125]⟩,Yi ⟨#[62]⟩,Yi ⟨#[9]⟩,Yi ⟨#[98]⟩] 9));refine(bR B g P 24 _ JC hP (by omega) (by omega)).mono ?_;rintro e w2 ⟨r,rfl,hr,hG2,hk⟩;have hr':r<24:=by omega
 obtain⟨t,ht,hts⟩:∃t:ByteArray,(#[Yi ⟨#[114,101,100]⟩,Yi ⟨#[99,97,114]⟩,Yi ⟨#[82,101,100]⟩,Yi ⟨#[97]⟩,Yi ⟨#[99,97,114,115]⟩,Yi ⟨#[49,44,53]⟩,Yi ⟨#[50,50]⟩,Yi ⟨#[100,111,110,39,116]⟩,Yi ⟨#[46]⟩,Yi ⟨#[33]⟩,Yi ⟨#[32]⟩,Yi ⟨#[32,32]⟩,Yi ⟨#[60]⟩,Yi ⟨#[38]⟩,Yi ⟨#[123]⟩,Yi ⟨#[34]⟩,Yi ⟨#[92]⟩,Yi ⟨#[120,45,121]⟩,Yi ⟨#[10]⟩,Yi ⟨#[61]⟩,Yi ⟨#[125]⟩,Yi ⟨#[62]⟩,Yi ⟨#[9]⟩,Yi ⟨#[98]⟩]:Array Value)[r]?=Yr (Yi t)/\t.size<=5:=by
  rcases(show r=0\/r=1\/r=2\/r=3\/r=4\/r=5\/r=6\/r=7\/r=8\/r=9\/r=10\/r=11\/r=12\/r=13\/r=14\/r=15\/r=16\/r=17\/r=18\/r=19\/r=20\/r=21\/r=22\/r=23 by omega)with h|h|h|h|h|h|h|h|h|h|h|h|h|h|h|h|h|h|h|h|h|h|h|h<;>subst h<;>exact⟨_,rfl,by decide⟩
 have hcell:=gN w w2 _ _ B g hk ka hB r _ ht;have Rb:w.grownBy w2 (Yr g):=aO (((ac.refl w).alloc _).gb (Yr g)) hk (λ_ e=>.inl e);have HE:=aa (And.intro hG2 Rb);have hsz:w.1.size<w2.1.size:=by have:=hk.size;simp at this;omega
 haveI:af w.1.size w2:=af.of hsz;clear JC hG2 Rb hk ht;go_wp2;go_ret;exact⟨t,rfl,hts,HE.out.1,HE.out.2⟩
def SG(w:Ys)(B g P n:Nat)(s5 s6:Value)(wr:Ys):Prop:=∃(i k:Nat) (t:ByteArray),s5=Yi t/\s6=Yh .i64 i/\k+i<=n/\t.size<=6*k/\bp wr B g (P+1+2*k)/\w.grownBy wr (Yr g)
theorem vH(B g P n:Nat)(w:Ys)(hG:bp w B g P)(hP:P<=1000000)(hn:n<=1000) :
  Calls Tryz.prog 106 #[Yl (Yr ⟨g,0,Yq⟩),Yh .i64 n] w λe w'=>∃t:ByteArray,e=.returned (Yi t)/\t.size<=6*n/\bp w' B g (P+1+2*n)/\w.grownBy w' (Yr g):=by
 have HG:=aa hG;clear hG;go_enter Tryz.func106,Tryz.ntmps106;go_wp2_with fail;refine(bR B g P ((n:Int)+1) _ HG.out (by omega) (by omega) (by omega)).mono ?_;rintro e w2 ⟨r,rfl,hr,hG2,hk⟩;have HG2:=aa hG2;have fX:=aa hk;clear hG2 hk HG;go_wp2_with fail;go_loopw [5,6] (λs5 s6 wr=>SG w B g P n s5 s6 wr) (λ_ s6 _=>(intOf s6).toNat)
 case atStart=>exact⟨r,0,⟨#[]⟩,rfl,rfl,by omega,by show 0<=_;omega,HG2.out,fX.out⟩
 case round=>
  clear HG2 fX hr;obtain⟨i,k,t,rfl,rfl,hki,hts,hG,hk⟩:=hrel;have HG:=aa hG;have HK:=aa hk;clear hG hk
  by_cases hi:0<i
  ·have z:(0:Int)<(i:Int):=by omega
   go_wp2_with fail;refine(M6 B g _ _ HG.out (by omega)).mono ?_;rintro e w3 ⟨u,rfl,hu,hG3,hk3⟩;have ix:=aa hG3;have fH:=aa (aO HK.out hk3 (λ_ e=>.inl e));clear hG3 hk3 HG HK
   by_cases hte:t=⟨#[]⟩
   ·subst hte;have y1:¬9223372036854775807<(⟨#[]⟩:ByteArray).size+u.size:=by show ¬9223372036854775807<0+_;omega
    go_wp2;refine⟨⟨i-1,k+1,_,rfl,congrArg (Yh .i64) (by omega),by omega,?_,ix.out.le (by omega),fH.out⟩,by simp[intOf];omega⟩;rw[ByteArray.size_append]
    show 0+_<=_;omega
   have hne:(t.toList==[])=false:=by
    rw[Lib.toList_data];refine Bool.eq_false_iff.2 λe=>hte (ByteArray.ext ?_)
    have:=eq_of_beq e
    simpa using this
   clear hte;go_wp2_with fail;refine(bR B g _ 3 _ ix.out (by omega) (by omega) (by omega)).mono ?_;rintro e w4 ⟨r,rfl,hr,hG4,hk4⟩;have eL:=aa hG4;have dm:=aa (aO fH.out hk4 (λ_ e=>.inl e));clear hG4 hk4 ix fH
   by_cases sP:0<r
   ·have z2:(0:Int)<(r:Int):=by omega
    have y1:¬9223372036854775807<t.size+1:=by omega
    have y2:¬9223372036854775807<t.size+1+u.size:=by omega
    go_wp2;refine⟨⟨i-1,k+1,_,rfl,congrArg (Yh .i64) (by omega),by omega,?_,eL.out.le (by omega),dm.out⟩,by simp[intOf];omega⟩;rw[ByteArray.size_append,ByteArray.size_append]
    show _+1+_<=_;omega
   have z2:¬(0:Int)<(r:Int):=by omega
   have y1:¬9223372036854775807<t.size+u.size:=by omega
   go_wp2;refine⟨⟨i-1,k+1,_,rfl,congrArg (Yh .i64) (by omega),by omega,?_,eL.out.le (by omega),dm.out⟩,by simp[intOf];omega⟩;rw[ByteArray.size_append];omega
  have z:¬(0:Int)<(i:Int):=by omega
  go_wp2;go_ret;exact⟨t,rfl,by omega,HG.out.le (by omega),HK.out⟩
end
