/- Plain: a fragment as the maker makes it is valid, and its numbers are those that. -/
import Derived.Test.YtcfhfdphoidaeaaGreatDoorRdsA
import Derived.Test.YtcfhfdphoidaeaaGreatDoorDcA
import Derived.Test.YtcfhfdphoidaeaaGreatDoorGO
import Derived.LoopN
import Derived.Deep.MidRow
import Derived.Deep.Cut
import Derived.Great.Walk
set_option linter.unusedVariables false
set_option linter.unusedSimpArgs false
set_option maxHeartbeats 12800000
set_option maxRecDepth 20000
set_option linter.all false
namespace Go.Proofs.YtcfhfdphoidaeaaGreatDoor.St.Fr
def NAf:Bool->List It->Prop
 | _,[]=>True
 | p,x :: r=>(x.1=1->x.2.1 ≠ []/\x.2.2=0/\p=false)/\NAf (decide (x.1=1)) r
def lastT(p:Bool)(f:List It):Bool:=match f.getLast? with|none=>p|some y=>decide (y.1=1)
theorem lastT_cons(p:Bool)(x:It)(f:List It):lastT p (x :: f)=lastT (decide (x.1=1)) f:=by
 unfold lastT;cases f with
 | nil=>rfl
 | cons y r=>
  rw[List.getLast?_cons_cons];cases h:(y :: r).getLast? with
  | none=>simp at h
  | some z=>rfl
theorem naf_snoc{x:It}:∀ (f:List It) (p:Bool),NAf p f->(x.1=1->x.2.1 ≠ []/\x.2.2=0/\lastT p f=false)->NAf p (f++[x])
 | [],p,_,h=>⟨h,trivial⟩
 | y :: f,p,hf,h=>⟨hf.1,naf_snoc f _ hf.2 (by rw[lastT_cons] at h;exact h)⟩
theorem nm_naf_n:∀ (n:Nat) (f:List It),f.length=n->Nm f->NAf false f
 | 0,f,hn,_=>by rw[List.eq_nil_of_length_eq_zero hn];trivial
 | n+1,f,hn,h=>by
  rcases snoc_cases f with rfl|⟨a,b,rfl⟩
  ·trivial
  ·obtain⟨h1,h2⟩:=nm_left h
   refine naf_snoc a false (nm_naf_n n a (by simpa using hn) h1) fun hb=>⟨(h2 hb).1,(h2 hb).2.1,?_⟩
   unfold lastT;cases hg:a.getLast? with
   | none=>rfl
   | some z=>exact decide_eq_false ((h2 hb).2.2 z hg)
theorem nm_naf{f:List It}(h:Nm f):NAf false f:=nm_naf_n _ f rfl h
def lastB(b:List It):Bool:=lastT false b
theorem check_goodF{b:List It}{x:It}(hg:GItem x)(h1:x.1=1->x.2.1 ≠ []/\lastB b=false)(hc:isTagK x.1=true->∀ y ∈ b,clash x y=false):checkL b x=0:=by
 have hany:isTagK x.1=true->b.any (clash x)=false:=fun ht=>by
  rw[Bool.eq_false_iff];intro e;obtain⟨y,hy,hy2⟩:=List.any_eq_true.1 e;rw[hc ht y hy] at hy2;cases hy2
 unfold checkL;rcases hg with ⟨g,g0⟩|⟨g,g1,g2⟩|⟨g,g1,g2,g3,g4⟩|⟨g,g1,g2,g3,g4⟩
 ·obtain⟨q1,q3⟩:=h1 g
  rw[if_pos g,if_neg];rintro (e|e|⟨y,hy,hy1⟩)
  ·exact q1 e
  ·exact e g0
  ·unfold lastB lastT at q3
   rw[hy] at q3;simp[hy1] at q3
 ·rw[if_neg (by omega),if_pos g,if_pos ⟨g1,g2⟩]
 ·rw[if_neg (by omega),if_neg (by omega),if_pos g,if_pos ⟨g1,g3,g4⟩,hany (by rw[isTagK_iff];omega)];rfl
 ·rw[if_neg (by omega),if_neg (by omega),if_neg (by omega),if_pos g,if_pos ⟨g1,g3,g4⟩,hany (by rw[isTagK_iff];omega)];rfl
theorem naf_validF:∀ (f b:List It),NAf (lastB b) f->(∀ x ∈ f,GItem x)->NoClash f->(∀ y ∈ b,∀ x ∈ f,isTagK x.1=true->clash x y=false)->validFrom b f=0
 | [],_,_,_,_,_=>rfl
 | x :: f,b,h,hg,hc,hb=>by
  have hcp:=List.pairwise_cons.1 hc;have hck:checkL b x=0:=check_goodF (hg x (by simp)) (fun h1=>⟨(h.1 h1).1,(h.1 h1).2.2⟩) fun ht y hy=>hb y hy x (by simp) ht
  rw[validFrom,if_neg (by simp[hck])];refine naf_validF f (b++[x]) ?_ (fun y hy=>hg y (by simp[hy])) hcp.2 ?_
  ·have:lastB (b++[x])=decide (x.1=1):=by unfold lastB lastT;simp
   rw[this];exact h.2
  ·intro y hy z hz ht
   rcases List.mem_append.1 hy with hy|hy
   ·exact hb y hy z (by simp[hz]) ht
   ·simp at hy;subst hy;exact hcp.1 z hz ht
theorem len_tot:∀ f:List It,lenL f<=f.length+(f.map fun x=>x.2.1.length).sum
 | []=>by simp[lenL]
 | x :: f=>by
  have ih:=len_tot f;unfold lenL at *;rw[List.map_cons,List.map_cons,List.sum_cons,List.sum_cons,List.length_cons];have:widthI x<=1+x.2.1.length:=by unfold widthI;split <;> omega
  omega
structure FragOk (f:List It):Prop where
 valid:validL f=0
 renum:renumL f=f
 len:f.length<=100
 txt:(f.map fun x=>x.2.1.length).sum<=700
 small:∀ x ∈ f,0<=x.2.2/\x.2.2<=99
theorem frag_ok{f:List It}{c:Nat}(h:GenT true f [] c)(hc:c<=99)(h1:f.length<=100)(h2:(f.map fun x=>x.2.1.length).sum<=700):FragOk f:=by
 have hg:=genT_good h (by omega);obtain⟨q,hq⟩:=hg.ok;have hl:=len_tot f;refine⟨?_,?_,h1,h2,fun x hx=>?_⟩
 ·unfold validL
  rw[if_neg (by omega)];exact naf_validF f [] (nm_naf hg.nm) hg.items hg.clash fun y hy=>by cases hy
 ·unfold renumL
  rw[(renum_ok hq).2];exact hg.nm
 ·have hid:=ids_le (genT_inv h) x hx
  rcases hg.items x hx with ⟨_,h⟩|⟨_,_,h⟩|⟨_,_,_,h⟩|⟨_,_,_,h⟩ <;> omega
end Go.Proofs.YtcfhfdphoidaeaaGreatDoor.St.Fr
set_option linter.all false
namespace Go.Proofs.YtcfhfdphoidaeaaGreatDoor
open Go.RowKit
def FndRel(zs:List Int)(x:Int)(w:World)(i:Value):Prop:=∃ k:Nat,k<=zs.length/\i=.int .i64 k/\Hid (∀ j,j<k->zs.getD j 0 ≠ x)
theorem mem_at(zs:List Int)(x:Int)(k:Nat)(hk:k<zs.length)(h:zs.getD k 0=x):x ∈ zs:=by
 rw[List.getD_eq_getElem?_getD,List.getElem?_eq_getElem hk] at h;simp at h;rw[<- h];exact List.getElem_mem hk
theorem not_mem(zs:List Int)(x:Int)(h:∀ j,j<zs.length->zs.getD j 0 ≠ x):¬ x ∈ zs:=by
 intro hm;obtain⟨j,hj,e⟩:=List.mem_iff_getElem.1 hm;apply h j hj;rw[List.getD_eq_getElem?_getD,List.getElem?_eq_getElem hj];simpa using e
theorem index_any(A:Option Addr)(c n:Nat)(x:Int)(zs:List Int)(w:World)(hn:zs.length=n)(h63:n<=9223372036854775807)(h:IntsAt w A zs) :
  Calls Tryz.prog 73 #[.slice A n c,.int .i64 x] w fun e w'=>∃ i:Int,e=.returned (.int .i64 i)/\(0<=i ↔ x ∈ zs)/\w=w':=by
 have H:=hid h;clear h;go_enter Tryz.func73,Tryz.ntmps73;go_wp2;go_loop [5,8] (fun _ i=>FndRel zs x w i) (fun _ i=>n+1-(intOf i).toNat)
 case atStart=>exact⟨0,by omega,rfl,hid (fun j hj=>by omega)⟩
 case round=>
  obtain⟨k,hk,rfl,HA⟩:=hrel
  by_cases hlt:k<n
  ·obtain⟨b,off,rfl,hb,hc⟩:=H.out (by omega)
   have hck:=hc k (by omega);generalize hz:zs.getD k 0=z at hck;have HZ:=hid hz;clear hz hc
   by_cases hq:x=z
   ·have e:(x==z)=true:=by simpa using hq
    have HQ:=hid hq;clear hq;go_wp2;go_ret;exact⟨_,rfl,⟨fun _=>mem_at zs x k (by omega) (by rw[HZ.out,HQ.out]),fun _=>by omega⟩,rfl⟩
   ·have e:(x==z)=false:=by simpa using hq
    have HQ:=hid hq;clear hq;go_wp2;refine⟨⟨k+1,by omega,rfl,hid (fun j hj=>?_)⟩,by simp[intOf];omega⟩
    by_cases hjk:j=k
    ·subst hjk;rw[HZ.out];exact fun h=>HQ.out h.symm
    ·exact HA.out j (by omega)
  ·have hk':k=n:=by omega
   subst hk';go_wp2;go_ret;exact⟨_,rfl,⟨fun h=>absurd h (by decide),fun h=>absurd h (not_mem zs x (fun j hj=>HA.out j (by omega)))⟩,rfl⟩
theorem contains_any(A:Option Addr)(c n:Nat)(x:Int)(zs:List Int)(w:World)(hn:zs.length=n)(h63:n<=9223372036854775807)(h:IntsAt w A zs) :
  Calls Tryz.prog 24 #[.slice A n c,.int .i64 x] w fun e w'=>e=.returned (.bool (decide (x ∈ zs)))/\w=w':=by
 have H:=hid h;clear h;go_enter Tryz.func24,Tryz.ntmps24;go_wp2_with (go_at_call 73;refine(index_any A c n x zs _ hn h63 H.out).mono ?_;rintro e w' ⟨i,rfl,hi,rfl⟩;have HI:=hid hi;clear hi);go_ret;exact⟨ret_bool (by rw[decide_eq_decide];exact HI.out),rfl⟩
def CaRel(w3:World)(A2:Option Addr)(q c2:Nat)(s6 s14:Value)(wr:World):Prop:=∃ k:Nat,k<=q/\s6=.slice A2 q c2/\s14=.int .i64 k/\wr=w3
theorem canon_any(A B:Option Addr)(n c d:Nat)(f:List St.It)(w:World)(hn:f.length=n)(h:ItemsAt w A f)(h':ItemsAt w B f)(hl:n<=100000)(ht:tot f<=1000000000000) :
  Calls Tryz.prog 6 #[.slice A n c,.slice B n d] w fun e w'=>∃ A1 c1 A2 c2,e=.returned (.tuple #[.slice A1 (St.renumL f).length c1,.slice A2 (St.renumL f).length c2])/\ItemsAt w' A1 (St.renumL f)/\ItemsAt w' A2 (St.renumL f)/\(St.renumL f).length<=c1/\c1<=9223372036854775807/\(St.renumL f).length<=c2/\c2<=9223372036854775807/\Und w w':=by
 have H1:=hid (inum_any A n c f w hn h hl);have HA:=hid h;have HB:=hid h';have HN:=hid hn;obtain⟨hnd,hall⟩:=numL_nodup f;have HND:=hid hnd;have HALL:=hid hall;clear h h' hnd hall hn;go_enter Tryz.func6,Tryz.ntmps6;go_wp2_with fail;refine H1.out.mono ?_;rintro e w2 ⟨v2,rfl,hqn,ho2,hu2⟩;obtain⟨A2,c2,rfl,_,hc22,_⟩:=own_slice' ho2;have HU2:=hid hu2;have HI2:=hid (zc_row ho2 rfl);clear hu2 ho2 H1;go_wp2_with fail;refine(inum_any B n d f w2 HN.out (HB.out.und HU2.out) hl).mono ?_;rintro e w3 ⟨v3,rfl,_,ho3,hu3⟩;obtain⟨A3,c3,rfl,_,_,_⟩:=own_slice' ho3;have HU3:=hid (HU2.out.trans hu3);have HI23:=hid (HI2.out.und hu3);have HI3:=hid (zc_row ho3 rfl);have HUP:=hid (fun W=>icount_any (St.numL f).length W (by omega));clear hu3 ho3;obtain⟨q,hq⟩:∃ q,(St.numL f).length=q:=⟨_,rfl⟩;have HQ:=hid hq;rw[hq] at hqn HUP ⊢;have hc63:c2<=9223372036854775807:=by unfold maxLen at hc22;omega
 clear hq hc22;go_wp2_with fail;go_loopw [6,14] (fun s6 s14 wr=>CaRel w3 A2 q c2 s6 s14 wr) (fun _ s14 _=>q+1-(intOf s14).toNat)
 case atStart=>exact⟨0,by omega,rfl,rfl,rfl⟩
 case round=>
  obtain⟨k,hk,rfl,rfl,hw⟩:=hrel;subst hw
  by_cases hlt:k<q
  ·obtain⟨b,off,rfl,hb,hc⟩:=HI3.out (by have:=HQ.out;omega)
   have hck:=hc k (by have:=HQ.out;omega)
   have hzm:(St.numL f).getD k 0 ∈ St.numL f:=by
    have hkl:k<(St.numL f).length:=by have:=HQ.out;omega
    rw[List.getD_eq_getElem?_getD,List.getElem?_eq_getElem hkl];exact List.getElem_mem hkl
   generalize (St.numL f).getD k 0=z at hck hzm;have hcn:=contains_any A2 c2 q z (St.numL f) wr HQ.out (by omega) HI23.out;rw[decide_eq_true hzm] at hcn;have HC:=hid hcn;haveI:LtW b wr:=LtW.of hb;clear hcn hc hzm;go_wp2_with (go_at_call 24;refine HC.out.mono ?_;rintro e w' ⟨rfl,rfl⟩);exact⟨⟨k+1,by omega,rfl,congrArg (Value.int .i64) (by omega),rfl⟩,by simp[intOf];omega⟩
  ·have hkq:k=q:=by omega
   subst hkq;clear hlt hk;go_wp2_with fail;refine(HUP.out _).mono ?_;rintro e w4 ⟨A4,c4,rfl,hI4,_,_,hu4⟩;have HU4:=hid hu4;have HI4:=hid hI4;clear hu4 hI4;go_wp2_with fail;refine(iren_any A A2 A4 n c k c2 c4 f (St.numL f) w4 HN.out HQ.out (HA.out.und (HU3.out.trans HU4.out)) (HI23.out.und HU4.out) HI4.out HND.out HALL.out hl (by omega) ht).mono ?_;rintro e w5 ⟨v5,rfl,ho5,hu5⟩;obtain⟨A5,c5,rfl,hl5,hm5,_⟩:=own_slice' ho5;have HO5:=hid (items_own ho5 rfl);have HU5:=hid (HU4.out.trans hu5);clear hu5 ho5;go_wp2_with fail;refine(HUP.out _).mono ?_;rintro e w6 ⟨A6,c6,rfl,hI6,_,_,hu6⟩;have HU6:=hid (HU5.out.trans hu6);have HI6:=hid hI6;have HO6:=hid (HO5.out.und hu6);clear hu6 hI6;go_wp2_with fail;refine(iren_any B A2 A6 n d k c2 c6 f (St.numL f) w6 HN.out HQ.out (HB.out.und (HU3.out.trans HU6.out)) (HI23.out.und HU6.out) HI6.out HND.out HALL.out hl (by omega) ht).mono ?_;rintro e w7 ⟨v7,rfl,ho7,hu7⟩;obtain⟨A7,c7,rfl,hl7,hm7,_⟩:=own_slice' ho7;have HO7:=hid (items_own ho7 rfl)
   have HF:=hid (show ItemsAt w7 A5 (St.renumL f)/\ItemsAt w7 A7 (St.renumL f)/\(St.renumL f).length<=c5/\c5<=9223372036854775807/\(St.renumL f).length<=c7/\c7<=9223372036854775807/\Und w w7 from
    ⟨HO6.out.und hu7,HO7.out,hl5,by unfold maxLen at hm5;omega,hl7,by unfold maxLen at hm7;omega,HU3.out.trans (HU6.out.trans hu7)⟩)
   clear hu7 ho7 hl5 hm5 hl7 hm7;go_wp2;go_ret2;exact⟨_,_,_,_,rfl,HF.out⟩
end Go.Proofs.YtcfhfdphoidaeaaGreatDoor
set_option linter.all false
namespace Go.Proofs.YtcfhfdphoidaeaaGreatDoor
open Go.RowKit
theorem flush0_any(b:Nat)(w:World)(hb:w.cell? ⟨b,1,none⟩=some (.slice none 0 0)) :
  Calls Tryz.prog 129 #[.pointer (some ⟨b,0,none⟩)] w fun e w'=>e=.returned (.tuple #[])/\w'=w:=by
 haveI:LtW b w:=LtW.of (zbL w _ hb);go_enter Tryz.func129,Tryz.ntmps129;go_wp2;go_end0;exact⟨rfl,rfl⟩
theorem parse0_any(w:World):Calls Tryz.prog 75 #[.string ⟨#[]⟩] w fun e w'=>e=.returned (.tuple #[.slice none 0 0,.int .i64 0,.int .i64 0])/\Und w w':=by
 have hmk:=@run_makeMap Tryz.prog;have HF:=hid flush0_any;go_enter Tryz.func75,Tryz.ntmps75;go_wp2_with fail;refine wp_loop_rounds 1 ?_;rw[rounds_succ];go_wp2_with (go_at_call 129;refine(HF.out _ _ (by go_simp)).mono ?_;rintro e w' ⟨rfl,rfl⟩);go_ret3;exact⟨rfl,(by apply_rules[uUe,uUa,uUb,uUc,uUd])⟩
def entV(A B:Option Addr)(n c d:Nat):Value:=.agg #[.slice A n c,.slice B n d,.string ⟨#[]⟩,.string ⟨#[]⟩,.string ⟨#[]⟩,.string ⟨#[]⟩,.int .i64 0,.int .i64 1]
theorem mvalid_any(A B:Option Addr)(n c d:Nat)(f:List St.It)(w:World)(hn:f.length=n)(h0:0<n)(hf:St.Fr.FragOk f)(hc:n<=c)(hc63:c<=9223372036854775807)(hd:n<=d)(hd63:d<=9223372036854775807)(hA:ItemsAt w A f)(hB:ItemsAt w B f) :
  Calls Tryz.prog 28 #[entV A B n c d] w fun e w'=>e=.returned (.int .i64 0)/\Und w w':=by
 have hl:=hf.len;have ht:=hf.txt;have HN:=hid hn;have HR:=hid hf.renum;have HA:=hid hA;have HB:=hid hB;have HTT:=hid (show tot f<=700 from ht);have H1:=hid (fun W (u:Und w W)=>ivalid_any A n c f W hn hc hc63 (HA.out.und u) (by omega) (Nat.le_trans HTT.out (by omega)));have H2:=hid (fun W (u:Und w W)=>ivalid_any B n d f W hn hd hd63 (HB.out.und u) (by omega) (Nat.le_trans HTT.out (by omega)));rw[hf.valid] at H1 H2;have H3:=hid (fun W (u:Und w W)=>canon_any A B n c d f W hn (HA.out.und u) (HB.out.und u) (by omega) (Nat.le_trans HTT.out (by omega)));rw[hf.renum,hn] at H3;have HP:=hid parse0_any;have z0:((n:Int)==0)=false:=by simp;omega
 clear hA hB ht hf hn;unfold entV;go_enter Tryz.func28,Tryz.ntmps28;go_wp2_with fail;refine(H1.out _ (by apply_rules[uUe,uUa,uUb,uUc,uUd])).mono ?_;rintro e w1 ⟨rfl,hu1⟩;have HU1:=hid (((Und.refl w).alloc (.cells #[.slice A n c,.slice B n d,.string ⟨#[]⟩,.string ⟨#[]⟩,.string ⟨#[]⟩,.string ⟨#[]⟩,.int .i64 0,.int .i64 1] 36)).trans hu1);have HB1:=hid (show w1.heap[w.heap.size]?=some (.cells #[.slice A n c,.slice B n d,.string ⟨#[]⟩,.string ⟨#[]⟩,.string ⟨#[]⟩,.string ⟨#[]⟩,.int .i64 0,.int .i64 1] 36 (0,0)) from(hu1.below.block _ (by simp)).trans (heap_alloc_new w _));haveI:LtW w.heap.size w1:=LtW.of (lt_of_heap HB1.out);have d0:=zcH HB1.out 0;have d1:=zcH HB1.out 1;have d2:=zcH HB1.out 2;have d3:=zcH HB1.out 3;have d4:=zcH HB1.out 4;have d5:=zcH HB1.out 5;have d6:=zcH HB1.out 6;have d7:=zcH HB1.out 7;simp only[List.getElem?_toArray,List.getElem?_cons_zero,List.getElem?_cons_succ] at d0 d1 d2 d3 d4 d5 d6 d7;clear hu1;go_wp2_with fail;refine(H2.out _ HU1.out).mono ?_;rintro e w2 ⟨rfl,X2,rfl⟩;go_wp2_with fail;refine(H3.out _ (HU1.out.trans (by apply_rules[uUe,uUa,uUb,uUc,uUd]))).mono ?_;rintro e w3 ⟨A1,c1,A2,c2,rfl,hI1,hI2,hc1,hc1',hc2,hc2',hu3⟩;have hu13:Und w1 w3:=(show Und w1 (under w1 X2) from(by apply_rules[uUe,uUa,uUb,uUc,uUd])).trans hu3;have HB3:=hid ((hu13.below.block _ (lt_of_heap HB1.out)).trans HB1.out);have HU3:=hid (HU1.out.trans hu13);clear d0 d1 d2 d3 d4 d5 d6 d7;haveI:LtW w.heap.size w3:=LtW.of (lt_of_heap HB3.out);have d0:=zcH HB3.out 0;have d1:=zcH HB3.out 1;have d2:=zcH HB3.out 2;have d3:=zcH HB3.out 3;have d4:=zcH HB3.out 4;have d5:=zcH HB3.out 5;have d6:=zcH HB3.out 6;have d7:=zcH HB3.out 7;simp only[List.getElem?_toArray,List.getElem?_cons_zero,List.getElem?_cons_succ] at d0 d1 d2 d3 d4 d5 d6 d7;have HS1:=hid (fun W (u:Und w3 W)=>isame_any A1 A n n c1 c f f W HN.out HN.out hc1 hc hc1' hc63 (hI1.und u) (HA.out.und (HU3.out.trans u)));have HS2:=hid (fun W (u:Und w3 W)=>isame_any A2 B n n c2 d f f W HN.out HN.out hc2 hd hc2' hd63 (hI2.und u) (HB.out.und (HU3.out.trans u)));rw[decide_eq_true rfl] at HS1 HS2;clear hI1 hI2 hu3 hu13;go_wp2_with fail;refine(HS1.out _ (by apply_rules[uUe,uUa,uUb,uUc,uUd])).mono ?_;rintro e w4 ⟨rfl,X4,rfl⟩;go_wp2_with fail;refine(HS2.out _ (by apply_rules[uUe,uUa,uUb,uUc,uUd])).mono ?_;rintro e w5 ⟨rfl,X5,rfl⟩;go_wp2_with (go_at_call 75;refine(HP.out _).mono ?_;rintro e w' ⟨rfl,X,rfl⟩);go_ret;exact⟨rfl,HU3.out.trans (by apply_rules[uUe,uUa,uUb,uUc,uUd])⟩
end Go.Proofs.YtcfhfdphoidaeaaGreatDoor
set_option linter.all false
namespace Go.Proofs.YtcfhfdphoidaeaaGreatDoor
open Go.RowKit
set_option maxRecDepth 20000
set_option maxHeartbeats 25600000
def atE:List Value:=[.int .u8 0,.int .u8 0,.int .u8 0,.int .u8 0,.int .u8 2,.int .u8 64,.int .u8 0,.int .u8 0,.int .u8 0,.int .u8 0,.int .u8 0,.int .u8 0,.int .u8 0,.int .u8 0,.int .u8 0,.int .u8 0,.int .u8 0,.int .u8 0,.int .u8 0,.int .u8 0,.int .u8 0,.int .u8 0,.int .u8 0,.int .u8 0,.int .u8 0,.int .u8 0,.int .u8 0,.int .u8 0,.int .u8 0,.int .u8 0,.int .u8 0,.int .u8 0,.int .i64 1,.bool false]
def atB:List Value:=[.int .u8 0,.int .u8 0,.int .u8 0,.int .u8 0,.int .u8 1,.int .u8 0,.int .u8 0,.int .u8 0,.int .u8 0,.int .u8 0,.int .u8 0,.int .u8 0,.int .u8 0,.int .u8 0,.int .u8 0,.int .u8 0,.int .u8 0,.int .u8 0,.int .u8 0,.int .u8 0,.int .u8 0,.int .u8 0,.int .u8 0,.int .u8 0,.int .u8 0,.int .u8 0,.int .u8 0,.int .u8 0,.int .u8 0,.int .u8 0,.int .u8 0,.int .u8 0,.int .i64 1,.bool false]
theorem info_atom:(Tryz.prog.info? 122).map (·.size)=some 34:=by kernel_rfl
def zAtom:Array Value:=#[.int .u8 0,.int .u8 0,.int .u8 0,.int .u8 0,.int .u8 0,.int .u8 0,.int .u8 0,.int .u8 0,.int .u8 0,.int .u8 0,.int .u8 0,.int .u8 0,.int .u8 0,.int .u8 0,.int .u8 0,.int .u8 0,.int .u8 0,.int .u8 0,.int .u8 0,.int .u8 0,.int .u8 0,.int .u8 0,.int .u8 0,.int .u8 0,.int .u8 0,.int .u8 0,.int .u8 0,.int .u8 0,.int .u8 0,.int .u8 0,.int .u8 0,.int .u8 0,.int .i64 0,.bool false]
theorem info_atom2:(Tryz.prog.info? 122).map (fun i=>(i.zero,i.size,i.bytes))=some (some (.agg zAtom),34,48):=by kernel_rfl
theorem bs_E:Tryz.prog.builtSlice 122 1 [(0,.agg atE.toArray)]=some atE.toArray:=by kernel_rfl
theorem bs_B:Tryz.prog.builtSlice 122 1 [(0,.agg atB.toArray)]=some atB.toArray:=by kernel_rfl
theorem sentence_any(w:World):Calls Tryz.prog 16 #[] w fun e w'=>Und w w'/\∃ R P Q,e=.returned (.slice (some ⟨R,0,none⟩) 1 1)/\w'.cell? ⟨R,0,none⟩=some (.bool true)/\w'.cell? ⟨R,1,none⟩=some (.slice (some ⟨P,0,none⟩) 1 1)/\w'.cell? ⟨R,2,none⟩=some (.slice (some ⟨Q,0,none⟩) 1 1)/\w'.rangeAt P 0 atE/\w'.rangeAt Q 0 atB:=by
 go_enter Tryz.func16,Tryz.ntmps16;go_upto_region 6 with (fail);have e1:bits BinOp.or IntKind.u8 0 2=2:=by decide
 have e2:bits BinOp.or IntKind.u8 0 64=64:=by decide
 have e3:bits BinOp.or IntKind.u8 0 1=1:=by decide
 rw[e1,e2,e3];have u1:Und w (w.alloc (.cells atE.toArray 122)):=(by apply_rules[uUe,uUa,uUb,uUc,uUd])
 show Code.wp _ _ _ _ ((w.alloc (.cells atE.toArray 122)).alloc (.cells atB.toArray 122))
 have u2:Und w ((w.alloc (.cells atE.toArray 122)).alloc (.cells atB.toArray 122)):=(by apply_rules[uUe,uUa,uUb,uUc,uUd])
 have r1:((w.alloc (.cells atE.toArray 122)).alloc (.cells atB.toArray 122)).rangeAt w.heap.size 0 atE:=by
  refine World.rangeAt_alloc (fun j v hv=>?_) _;rw[World.cell?_alloc_new,Nat.zero_add,List.getElem?_toArray];exact hv
 have r2:((w.alloc (.cells atE.toArray 122)).alloc (.cells atB.toArray 122)).rangeAt (w.heap.size+1) 0 atB:=by
  have hs:(w.alloc (.cells atE.toArray 122)).heap.size=w.heap.size+1:=by simp
  rw[<- hs];intro j v hv;rw[World.cell?_alloc_new,Nat.zero_add,List.getElem?_toArray];exact hv
 generalize (w.alloc (.cells atE.toArray 122)).alloc (.cells atB.toArray 122)=W1 at u2 r1 r2 ⊢;refine wp_region_list ?_;refine wpList_load_mid rfl 122 _ rfl w.heap.size 0 rfl atE _ r1 Tryz.underlying122 rfl info_atom ?_;refine Great.wpList_buildSliceTo rfl 123 122 1 _ rfl _ rfl _ rfl Tryz.underlying123 atE.toArray ?bs1 ?_
 case bs1=>
  refine Eq.trans (congrArg _ ?_) bs_E;simp only[List.map_toArray,List.map_cons,List.map_nil,Act.eval,Act.put,zsA,zsB,zsC];rfl
 refine wpList_load_mid rfl 122 _ rfl (w.heap.size+1) 0 rfl atB _ (World.rangeAt_alloc r2 _) Tryz.underlying122 rfl info_atom ?_;refine Great.wpList_buildSliceTo rfl 123 122 1 _ rfl _ rfl _ rfl Tryz.underlying123 atB.toArray ?bs2 ?_
 case bs2=>
  refine Eq.trans (congrArg _ ?_) bs_B;simp only[List.map_toArray,List.map_cons,List.map_nil,Act.eval,Act.put,zsA,zsB,zsC];rfl
 have q1:((W1.alloc (.cells atE.toArray 122)).alloc (.cells atB.toArray 122)).rangeAt W1.heap.size 0 atE:=by
  refine World.rangeAt_alloc (fun j v hv=>?_) _;rw[World.cell?_alloc_new,Nat.zero_add,List.getElem?_toArray];exact hv
 have q2:((W1.alloc (.cells atE.toArray 122)).alloc (.cells atB.toArray 122)).rangeAt (W1.alloc (.cells atE.toArray 122)).heap.size 0 atB:=by
  intro j v hv;rw[World.cell?_alloc_new,Nat.zero_add,List.getElem?_toArray];exact hv
 have u3:Und w ((W1.alloc (.cells atE.toArray 122)).alloc (.cells atB.toArray 122)):=(by apply_rules[uUe,uUa,uUb,uUc,uUd]);clear r1 r2 u2 u1;generalize W1.heap.size=P at q1 ⊢;generalize (W1.alloc (.cells atE.toArray 122)).heap.size=Q at q2 ⊢;generalize (W1.alloc (.cells atE.toArray 122)).alloc (.cells atB.toArray 122)=W2 at q1 q2 u3 ⊢;have hq1:=hid q1;have hq2:=hid q2;have hu3:=hid u3;clear q1 q2 u3;simp only[Act.put,zsA,zsB,zsC];generalize atE.toArray=EA;generalize atB.toArray=BA;go_wp2;go_ret;exact⟨hu3.out.trans (by apply_rules[uUe,uUa,uUb,uUc,uUd]),_,P,Q,rfl,by go_simp,by go_simp,by go_simp,World.rangeAt_alloc hq1.out _,World.rangeAt_alloc hq2.out _⟩
end Go.Proofs.YtcfhfdphoidaeaaGreatDoor
