/- For document.Replace: its own blocks in memory, the cases of St.replD, and the errors. -/
import Derived.Test.YtcfhfdphoidaeaaGreatDoorDcB
import Derived.Deep.CutRange
set_option linter.unusedVariables false
set_option linter.unusedSimpArgs false
set_option maxHeartbeats 12800000
set_option maxRecDepth 20000
namespace Go.Proofs.YtcfhfdphoidaeaaGreatDoor
open Go.RowKit
section
namespace St
variable {D:List UInt8->Res} {S:List UInt8->List Pt × Nat × Int} {E:List It->List UInt8 × Int} {fmt:Int} {ps:List Pt} {k:Int} {rs:List (Int × Int)} {ts:List (List It)}
theorem replD_v(h:validD S ps ≠ 0):replD D S E fmt ps k rs ts=((0,[]),validD S ps):=by unfold replD;rw[if_pos h]
theorem replD_c(h0:validD S ps=0)(h:(contD D ps k).2.2.2 ≠ 0):replD D S E fmt ps k rs ts=((0,[]),(contD D ps k).2.2.2):=by
 unfold replD;rw[if_neg (by simpa using h0),if_pos h]
theorem replD_a(h0:validD S ps=0)(h1:(contD D ps k).2.2.2=0)(h:ts.length ≠ rs.length∨ascL (lenL (contD D ps k).1) 0 rs=false):replD D S E fmt ps k rs ts=((0,[]),1):=by
 unfold replD;rw[if_neg (by simpa using h0),if_neg (by simpa using h1),if_pos h]
theorem replD_m(h0:validD S ps=0)(h1:(contD D ps k).2.2.2=0)(h:ts.length=rs.length)(h':ascL (lenL (contD D ps k).1) 0 rs=true):replD D S E fmt ps k rs ts=match encR E (ptAt ps k).2.2 (contD D ps k).2.1 0 [] rs ts with
  | .error e=>((0,[]),e)
  | .ok (s,at')=>replE D fmt ps k.toNat (renumL (replL (contD D ps k).1 rs ts)) (s++(ptAt ps k).2.2.drop at'):=by
 unfold replD;rw[if_neg (by simpa using h0),if_neg (by simpa using h1),if_neg (by simp[h,h'])];split <;> rename_i e <;> rw[e]
theorem cont_ok(h:(contD D ps k).2.2.2=0):∃ (j:Nat) (hj:j<ps.length),k=j/\ps[j].1=true/\contD D ps k=D ps[j].2.2/\ptAt ps k=ps[j]:=by
 by_cases hk:0<=k
 ·obtain⟨j,rfl⟩:∃ j:Nat,k=j:=⟨k.toNat,by omega⟩
  have hp:ptAt ps (j:Int)=(ps[j]?).getD (false,[],[]):=by unfold ptAt;rw[if_pos hk];simp
  by_cases hj:j<ps.length
  ·rw[List.getElem?_eq_getElem hj,Option.getD_some] at hp
   unfold contD at h
   split at h
   ·rename_i hu
    refine⟨j,hj,rfl,by rw[<- hp];exact hu,?_,hp⟩;unfold contD;rw[if_pos hu,hp]
   ·cases h
  ·rw[List.getElem?_eq_none (by omega)] at hp
   unfold contD at h;rw[hp] at h;cases h
 ·have hp:ptAt ps k=(false,[],[]):=by unfold ptAt;rw[if_neg hk]
  unfold contD at h;rw[hp] at h;cases h
theorem enc_drop(E:List It->List UInt8 × Int)(raw:List UInt8)(cuts:List Nat)(a:Nat)(s:List UInt8)(rs:List (Int × Int))(ts:List (List It))(k:Nat)(h:k<rs.length)(h':k<ts.length) :
  encR E raw cuts a s (rs.drop k) (ts.drop k)=if (E ts[k]).2 ≠ 0 then .error (E ts[k]).2 else encR E raw cuts (cuts.getD rs[k].2.toNat 0) (s++(cutL raw a (cuts.getD rs[k].1.toNat 0)++(E ts[k]).1)) (rs.drop (k+1)) (ts.drop (k+1)):=by
 rw[List.drop_eq_getElem_cons h,List.drop_eq_getElem_cons h',encR];rfl
theorem mono_at{c:List Nat}(h:c.Pairwise (·<=·)){i j:Nat}(hij:i<=j)(hj:j<c.length):c.getD i 0<=c.getD j 0:=by
 rw[List.getD_eq_getElem?_getD,List.getD_eq_getElem?_getD,List.getElem?_eq_getElem hj,List.getElem?_eq_getElem (show i<c.length by omega),Option.getD_some,Option.getD_some];rcases Nat.lt_or_eq_of_le hij with h1|rfl
 ·exact List.pairwise_iff_getElem.1 h i j (by omega) hj h1
 ·exact Nat.le_refl _
end St
structure Hd (w W:World) (fmt:Int) (A:Option Addr) (n c:Nat):Prop where
 u:Und w W
 b0:W.heap[w.heap.size]?=some (.cells #[.int .i64 fmt,.slice A n c] 52)
 b1:W.heap[w.heap.size+1]?=some (.cells #[.int .i64 0,.slice none 0 0] 52)
 b2:W.heap[w.heap.size+2]?=some (.cells #[.int .i64 0,.slice none 0 0] 52)
theorem Hd.start(w:World)(fmt:Int)(A:Option Addr)(n c:Nat):Hd w (((w.alloc (.cells #[.int .i64 fmt,.slice A n c] 52)).alloc (.cells #[.int .i64 0,.slice none 0 0] 52)).alloc (.cells #[.int .i64 0,.slice none 0 0] 52)) fmt A n c:=by
 have e1:=heap_alloc_new w (.cells #[.int .i64 fmt,.slice A n c] 52);have e2:=heap_alloc_new (w.alloc (.cells #[.int .i64 fmt,.slice A n c] 52)) (.cells #[.int .i64 0,.slice none 0 0] 52);have e3:=heap_alloc_new ((w.alloc (.cells #[.int .i64 fmt,.slice A n c] 52)).alloc (.cells #[.int .i64 0,.slice none 0 0] 52)) (.cells #[.int .i64 0,.slice none 0 0] 52);have u1:=((Und.refl (w.alloc (.cells #[.int .i64 fmt,.slice A n c] 52))).alloc (.cells #[.int .i64 0,.slice none 0 0] 52)).alloc (.cells #[.int .i64 0,.slice none 0 0] 52);have u2:=(Und.refl ((w.alloc (.cells #[.int .i64 fmt,.slice A n c] 52)).alloc (.cells #[.int .i64 0,.slice none 0 0] 52))).alloc (.cells #[.int .i64 0,.slice none 0 0] 52);refine⟨(by apply_rules[uUe,uUa,uUb,uUc,uUd]),(u1.below.block w.heap.size (by simp)).trans e1,?_,?_⟩
 ·have hs:(w.alloc (.cells #[.int .i64 fmt,.slice A n c] 52)).heap.size=w.heap.size+1:=by simp
  rw[hs] at e2;exact(u2.below.block (w.heap.size+1) (by simp)).trans e2
 ·have hs:((w.alloc (.cells #[.int .i64 fmt,.slice A n c] 52)).alloc (.cells #[.int .i64 0,.slice none 0 0] 52)).heap.size=w.heap.size+2:=by simp
  rw[hs] at e3;exact e3
section
variable {w W W':World} {fmt:Int} {A:Option Addr} {n c:Nat}
theorem Hd.und(h:Hd w W fmt A n c)(u:Und W W'):Hd w W' fmt A n c:=
 ⟨h.u.trans u,(u.below.block _ (lt_of_heap h.b0)).trans h.b0,(u.below.block _ (lt_of_heap h.b1)).trans h.b1,(u.below.block _ (lt_of_heap h.b2)).trans h.b2⟩
theorem Hd.c00(h:Hd w W fmt A n c):W.cell? ⟨w.heap.size,0,none⟩=some (.int .i64 fmt):=zcH h.b0 0
theorem Hd.c01(h:Hd w W fmt A n c):W.cell? ⟨w.heap.size,1,none⟩=some (.slice A n c):=zcH h.b0 1
theorem Hd.c10(h:Hd w W fmt A n c):W.cell? ⟨w.heap.size+1,0,none⟩=some (.int .i64 0):=zcH h.b1 0
theorem Hd.c11(h:Hd w W fmt A n c):W.cell? ⟨w.heap.size+1,1,none⟩=some (.slice none 0 0):=zcH h.b1 1
theorem Hd.c20(h:Hd w W fmt A n c):W.cell? ⟨w.heap.size+2,0,none⟩=some (.int .i64 0):=zcH h.b2 0
theorem Hd.c21(h:Hd w W fmt A n c):W.cell? ⟨w.heap.size+2,1,none⟩=some (.slice none 0 0):=zcH h.b2 1
theorem Hd.f10(h:Hd w W fmt A n c):W.frozen? ⟨w.heap.size+1,0,none⟩=false:=zfH h.b1 0
theorem Hd.f11(h:Hd w W fmt A n c):W.frozen? ⟨w.heap.size+1,1,none⟩=false:=zfH h.b1 1
theorem Hd.l0(h:Hd w W fmt A n c):LtW w.heap.size W:=LtW.of (lt_of_heap h.b0)
theorem Hd.l1(h:Hd w W fmt A n c):LtW (w.heap.size+1) W:=LtW.of (lt_of_heap h.b1)
theorem Hd.l2(h:Hd w W fmt A n c):LtW (w.heap.size+2) W:=LtW.of (lt_of_heap h.b2)
theorem Hd.set(h:Hd w W fmt A n c)(u v:Value):Und w ((W.setCell ⟨w.heap.size+1,0,none⟩ u).setCell ⟨w.heap.size+1,1,none⟩ v):=
 Und.mk ((h.u.below.setCell (p:=⟨w.heap.size+1,0,none⟩) (by simp) u).setCell (p:=⟨w.heap.size+1,1,none⟩) (by simp) v)
end
def RepEnd(R:(Int × List St.Pt) × Int)(w:World)(e:Ending)(w':World):Prop:=
 ∃ A c,e=.returned (.tuple #[.agg #[.int .i64 R.1.1,.slice A R.1.2.length c],.int .i64 R.2])/\PartsAt w' A R.1.2/\R.1.2.length<=c/\c<=9223372036854775807/\Und w w'
theorem RepEnd.miss{R:(Int × List St.Pt) × Int}{er:Int}{w w':World}(h:R=((0,[]),er))(u:Und w w'):RepEnd R w (.returned (.tuple #[.agg #[.int .i64 0,.slice none 0 0],.int .i64 er])) w':=by
 subst h;exact⟨none,0,rfl,fun h=>absurd h (by simp),by simp,by omega,u⟩
end
section
section
variable {fmt:Int} {D:List UInt8->St.Res} {S:List UInt8->List St.Pt × Nat × Int}
theorem drep_early(A B C:Option Addr)(n c m d m2 e0:Nat)(ps:List St.Pt)(k:Int)(rs:List (Int × Int))(ts:List (List St.It))(w:World)(hF:FmAt w fmt D S)(hn:ps.length=n)(hnc:n<=c)(hc63:c<=9223372036854775807)(hm:rs.length=m)(hm2:ts.length=m2)(h:PartsAt w A ps)(hB:RangesAt w B rs)(hl:n<=1000000)(hr:(St.rawP ps).length<=1000000)(hml:m<=20)
  (hbad:St.validD S ps ≠ 0∨(St.contD D ps k).2.2.2 ≠ 0∨ts.length ≠ rs.length∨St.ascL (St.lenL (St.contD D ps k).1) 0 rs=false) :
  Calls Tryz.prog 17 #[.agg #[.int .i64 fmt,.slice A n c],.int .i64 k,.slice B m d,.slice C m2 e0] w (RepEnd (St.replD D S (St.encS fmt) fmt ps k rs ts) w):=by
 have HV:=hid (fun W (hW:Und w W)=>dvalid_any A n c ps W (hF.und hW) hn hnc hc63 (h.und hW) (by omega) (by omega));have HC:=hid (fun W (hW:Und w W)=>dcont_any A n c ps k W (hF.und hW) hn (h.und hW) (by omega) (by omega));have HA:=hid (fun W (hW:Und w W) (L:Nat)=>dasc_any B m d L rs W hm (hB.und hW) (by omega))
 by_cases hv:St.validD S ps=0
 ·rw[hv] at HV
  by_cases hc:(St.contD D ps k).2.2.2=0
  ·have hR:=hid (St.replD_a (E:=St.encS fmt) (fmt:=fmt) (k:=k) hv hc (by simpa [hv,hc] using hbad))
   obtain⟨j,hj,rfl,hu1,hcd,hpt⟩:=St.cont_ok hc;rw[hcd] at hc HC hbad;have hok:=hF.ok _ hc;have hra:=raw_at ps j hj;have htot:=hok.tot;have hle:=hok.le;have hlen:=hok.len;generalize D ps[j].2.2=R at hc HC hbad hok htot hle hlen;generalize St.replD D S (St.encS fmt) fmt ps (j:Int) rs ts=RR at *;obtain⟨f,cuts,tt,er⟩:=R;simp only at hc hbad htot hle hlen;subst hc;clear hok hcd hpt hu1 h hB hF;go_enter Tryz.func17,Tryz.ntmps17;go_wp2_with fail;refine(HV.out _ (by apply_rules[uUe,uUa,uUb,uUc,uUd])).mono ?_;rintro e w1 ⟨rfl,hu1⟩;have hd1:=(Hd.start w fmt A n c).und hu1;have a0:=hd1.c00;have a1:=hd1.c01;haveI l0:=hd1.l0;haveI l1:=hd1.l1;haveI l2:=hd1.l2;have HD1:=hid hd1;clear hd1 hu1;go_wp2_with fail;refine(HC.out _ HD1.out.u).mono ?_;rintro e w2 ⟨A2,c2,rfl,hI,hc2,hc3,hu2⟩;have HI:=hid hI;have hd2:=HD1.out.und hu2;have z0:=hd2.c20;have z1:=hd2.c21;have r0:=hd2.c10;have r1:=hd2.c11;have q0:=hd2.f10;have q1:=hd2.f11;haveI l0:=hd2.l0;haveI l1:=hd2.l1;haveI l2:=hd2.l2;have HD2:=hid hd2;clear hd2 hu2 a0 a1 hI
   by_cases hmm:m2=m
   ·subst hmm
    have hf:=hid (show St.ascL (St.lenL f) 0 rs=false by
     rcases hbad with hb|hb|hb|hb
     ·exact absurd hv hb
     ·exact absurd rfl hb
     ·omega
     ·exact hb)
    clear hbad;go_wp2_with fail;refine(ilength_any A2 f.length c2 f w2 rfl HI.out (by omega) (by omega)).mono ?_;rintro e w3 ⟨rfl,hu3⟩;have HD3:=hid (HD2.out.und hu3);clear hu3;go_wp2_with fail;refine(HA.out _ HD3.out.u _).mono ?_;rintro e w4 ⟨rfl,hu4⟩;have hd4:=HD3.out.und hu4;have z0:=hd4.c20;have z1:=hd4.c21;have r0:=hd4.c10;have r1:=hd4.c11;have q0:=hd4.f10;have q1:=hd4.f11;haveI l0:=hd4.l0;haveI l1:=hd4.l1;haveI l2:=hd4.l2;have HD4:=hid hd4;clear hd4 hu4;rw[hf.out];go_wp2;refine bodyPost_ret (v:=.tuple #[.agg #[.int .i64 0,.slice none 0 0],.int .i64 1]) ?_ rfl ?_
    ·simp[results,Tryz.results17,go_sem,r0,r1]
    ·exact RepEnd.miss hR.out (HD4.out.set _ _)
   ·have z2:((m2:Int) != (m:Int))=true:=by simp;omega
    clear hbad;go_wp2;refine bodyPost_ret (v:=.tuple #[.agg #[.int .i64 0,.slice none 0 0],.int .i64 1]) ?_ rfl ?_
    ·simp[results,Tryz.results17,go_sem,r0,r1]
    ·exact RepEnd.miss hR.out (HD2.out.set _ _)
  ·have hR:=hid (St.replD_c (E:=St.encS fmt) (fmt:=fmt) (rs:=rs) (ts:=ts) hv hc)
   generalize St.contD D ps k=R at *;generalize St.replD D S (St.encS fmt) fmt ps k rs ts=RR at *;obtain⟨f,cuts,tt,er⟩:=R;simp only at hc hR;have z5:(er==0)=false:=by simpa using hc
   have z6:(er != 0)=true:=by simpa using hc
   clear hbad hF h hB hc;go_enter Tryz.func17,Tryz.ntmps17;go_wp2_with fail;refine(HV.out _ (by apply_rules[uUe,uUa,uUb,uUc,uUd])).mono ?_;rintro e w1 ⟨rfl,hu1⟩;have hd1:=(Hd.start w fmt A n c).und hu1;have a0:=hd1.c00;have a1:=hd1.c01;haveI l0:=hd1.l0;haveI l1:=hd1.l1;haveI l2:=hd1.l2;have HD1:=hid hd1;clear hd1 hu1;go_wp2_with fail;refine(HC.out _ HD1.out.u).mono ?_;rintro e w2 ⟨A2,c2,rfl,hI,hc2,hc3,hu2⟩;have hd2:=HD1.out.und hu2;have z0:=hd2.c20;have z1:=hd2.c21;have r0:=hd2.c10;have r1:=hd2.c11;have q0:=hd2.f10;have q1:=hd2.f11;haveI l0:=hd2.l0;haveI l1:=hd2.l1;haveI l2:=hd2.l2;have HD2:=hid hd2;clear hd2 hu2 a0 a1 hI;simp only;go_wp2;refine bodyPost_ret (v:=.tuple #[.agg #[.int .i64 0,.slice none 0 0],.int .i64 er]) ?_ rfl ?_
   ·simp[results,Tryz.results17,go_sem,r0,r1]
   ·exact RepEnd.miss hR.out (HD2.out.set _ _)
 ·have hR:=hid (St.replD_v (D:=D) (E:=St.encS fmt) (fmt:=fmt) (k:=k) (rs:=rs) (ts:=ts) hv)
  generalize St.replD D S (St.encS fmt) fmt ps k rs ts=RR at *;generalize St.validD S ps=vv at *;have z5:(vv==0)=false:=by simpa using hv
  have z6:(vv != 0)=true:=by simpa using hv
  clear hbad hF h hB hv;go_enter Tryz.func17,Tryz.ntmps17;go_wp2_with fail;refine(HV.out _ (by apply_rules[uUe,uUa,uUb,uUc,uUd])).mono ?_;rintro e w1 ⟨rfl,hu1⟩;have hd2:=(Hd.start w fmt A n c).und hu1;have z0:=hd2.c20;have z1:=hd2.c21;have r0:=hd2.c10;have r1:=hd2.c11;have q0:=hd2.f10;have q1:=hd2.f11;haveI l0:=hd2.l0;haveI l1:=hd2.l1;haveI l2:=hd2.l2;have HD2:=hid hd2;clear hd2 hu1;go_wp2;refine bodyPost_ret (v:=.tuple #[.agg #[.int .i64 0,.slice none 0 0],.int .i64 vv]) ?_ rfl ?_
  ·simp[results,Tryz.results17,go_sem,r0,r1]
  ·exact RepEnd.miss hR.out (HD2.out.set _ _)
end
end
section
section
variable {fmt:Int} {D:List UInt8->St.Res} {S:List UInt8->List St.Pt × Nat × Int}
def RwRelJ(w w5:World)(A:Option Addr)(n c:Nat)(fmt:Int)(raw:List UInt8)(cuts:List Nat)(L:Nat)(rs:List (Int × Int))(ts:List (List St.It))(s16 s17 s73:Value)(wr:World):Prop:=
 ∃ (i a x:Nat) (sB:ByteArray),i<=rs.length/\s73=.int .i64 i/\s17=.int .i64 a/\s16=.string sB/\a<=cuts.getD x 0/\x<=L/\St.ascL L x (rs.drop i)=true/\sB.size<=2000000*i /\
  St.encR (St.encS fmt) raw cuts 0 [] rs ts=St.encR (St.encS fmt) raw cuts a sB.data.toList (rs.drop i) (ts.drop i)/\Hd w wr fmt A n c/\Und w5 wr
def CloneAt(w w9:World)(fmt:Int)(A:Option Addr)(n c:Nat)(ps:List St.Pt)(s23:Value)(W:World):Prop:=
 ∃ (gd g cap:Nat) (cur:Array Value),s23=.pointer (some ⟨gd,0,none⟩)/\w9.heap.size<=gd/\w9.heap.size<=g/\gd ≠ g/\W.heap[gd]?=some (.cells #[.int .i64 fmt,.slice (some ⟨g,0,none⟩) n cap] 52) /\
  W.heap[g]?=some (.cells cur 110)/\cur.size=cap*3/\n<=cap/\cap<=9223372036854775807/\cur.toList.take (n*3)=cellsP ps/\Hd w W fmt A n c/\Und w9 W
theorem cellsP_setRaw(ps:List St.Pt)(k:Nat)(s:List UInt8)(h:k<ps.length):cellsP (St.setRaw ps k s)=(cellsP ps).set (k*3+2) (.string ⟨s.toArray⟩):=by
 induction ps generalizing k with
 | nil=>simp at h
 | cons x ps ih=>
  match k,h with
  | 0,_=>rfl
  | k+1,h=>
   have e:(k+1)*3+2=(k*3+2)+3:=by omega
   rw[e];have:=ih k (by simpa using h)
   show ([Value.bool x.1,.string ⟨x.2.1.toArray⟩,.string ⟨x.2.2.toArray⟩]++cellsP (St.setRaw ps k s))=_
   rw[this];rfl
theorem own_some{w:World}{B e size n:Nat}{v:Value}{xs:List Value}(h:w.ownsRow B e size v n xs)(h0:0<n):∃ g cap,v=.slice (some ⟨g,0,none⟩) n cap/\B<=g/\g<w.heap.size/\w.ownsRow B e size (.slice (some ⟨g,0,none⟩) n cap) n xs:=by
 have h':=h;rcases h.2 with ⟨_,e2⟩|⟨g,cap,cur,rfl,hb,hg,_⟩
 ·omega
 ·exact⟨g,cap,rfl,hb,lt_of_heap hg,h'⟩
theorem clone_last{w w9 w10:World}{A:Option Addr}{n c B g cap:Nat}{ps:List St.Pt}(hd:Hd w w9 fmt A n c)(ho:w10.ownsRow B 110 3 (.slice (some ⟨g,0,none⟩) n cap) n (cellsP ps))(hB:w9.heap.size<=B)(u:Und w9 w10)(h0:0<n) :
  CloneAt w w9 fmt A n c ps (.pointer (some ⟨w10.heap.size,0,none⟩)) (w10.alloc (.cells #[.int .i64 fmt,.slice (some ⟨g,0,none⟩) n cap] 52)):=by
 rcases ho.2 with ⟨_,e2⟩|⟨g',cap',cur,he,hb,hg,h1,h2,h3,h4⟩
 ·omega
 ·cases he
  have hlt:=lt_of_heap hg;have u2:=(Und.refl w10).alloc (.cells #[.int .i64 fmt,.slice (some ⟨g,0,none⟩) n cap] 52);exact⟨_,g,cap,cur,rfl,u.size,by omega,by omega,heap_alloc_new _ _,(u2.below.block g hlt).trans hg,h3,h1,by unfold maxLen at h2;omega,h4,hd.und (u.trans u2),u.trans u2⟩
theorem clone_first{w w9 w10:World}{A:Option Addr}{n c B g cap:Nat}{ps:List St.Pt}(hd:Hd w w9 fmt A n c)(ho:w10.ownsRow B 110 3 (.slice (some ⟨g,0,none⟩) n cap) n (cellsP ps))(hB:w9.heap.size+1<=B)(u:Und (w9.alloc (.cells #[.int .i64 0,.slice none 0 0] 52)) w10)(h0:0<n) :
  CloneAt w w9 fmt A n c ps (.pointer (some ⟨w9.heap.size,0,none⟩)) ((w10.setCell ⟨w9.heap.size,0,none⟩ (.int .i64 fmt)).setCell ⟨w9.heap.size,1,none⟩ (.slice (some ⟨g,0,none⟩) n cap)):=by
 rcases ho.2 with ⟨_,e2⟩|⟨g',cap',cur,he,hb,hg,h1,h2,h3,h4⟩
 ·omega
 ·cases he
  have hgd:=(u.below.block w9.heap.size (by simp)).trans (heap_alloc_new w9 (.cells #[.int .i64 0,.slice none 0 0] 52));have e1:=heap_setCell_same _ _ 0 _ _ (.int .i64 fmt) hgd;have e2:=heap_setCell_same _ _ 1 _ _ (.slice (some ⟨g,0,none⟩) n cap) e1;have u9:Und w9 w10:=((Und.refl w9).alloc _).trans u;have u2:Und w9 ((w10.setCell ⟨w9.heap.size,0,none⟩ (.int .i64 fmt)).setCell ⟨w9.heap.size,1,none⟩ (.slice (some ⟨g,0,none⟩) n cap)):=(u9.setCell (p:=⟨w9.heap.size,0,none⟩) (Nat.le_refl _) _).setCell (p:=⟨w9.heap.size,1,none⟩) (Nat.le_refl _) _;refine⟨_,g,cap,cur,rfl,Nat.le_refl _,by omega,by omega,e2,?_,h3,h1,by unfold maxLen at h2;omega,h4,hd.und u2,u2⟩;rw[heap_setCell_other _ _ _ _ (show g ≠ (⟨w9.heap.size,1,none⟩:Addr).block by simp only;omega),heap_setCell_other _ _ _ _ (show g ≠ (⟨w9.heap.size,0,none⟩:Addr).block by simp only;omega)];exact hg
theorem rawP_set(ps:List St.Pt)(k:Nat)(s:List UInt8):(St.rawP (St.setRaw ps k s)).length<=(St.rawP ps).length+s.length:=by
 induction ps generalizing k with
 | nil=>simp[St.setRaw,St.rawP]
 | cons x ps ih=>
  match k with
  | 0=>simp[St.setRaw,St.rawP];omega
  | k+1=>
   have:=ih k
   have e1:St.rawP (St.setRaw (x :: ps) (k+1) s)=x.2.2++St.rawP (St.setRaw ps k s):=rfl;have e2:St.rawP (x :: ps)=x.2.2++St.rawP ps:=rfl;rw[e1,e2,List.length_append,List.length_append];omega
theorem setRaw_len(ps:List St.Pt)(k:Nat)(s:List UInt8):(St.setRaw ps k s).length=ps.length:=by unfold St.setRaw;simp
theorem clone_parts{W:World}{g cap n:Nat}{cur:Array Value}{ps:List St.Pt}{k:Nat}{s:List UInt8}(hn:ps.length=n)(hk:k<n)(hg:W.heap[g]?=some (.cells cur 110))(hs:cur.size=cap*3)(h1:n<=cap)(h2:cap<=9223372036854775807)(h3:cur.toList.take (n*3)=cellsP ps) :
  PartsAt (W.setCell ⟨g,k*3+2,none⟩ (.string ⟨s.toArray⟩)) (some ⟨g,0,none⟩) (St.setRaw ps k s):=by
 have e1:=heap_setCell_same _ _ (k*3+2) _ _ (.string ⟨s.toArray⟩) hg;refine parts_own (B:=g) (n:=n) (c:=cap) ⟨by rw[cellsP_length,setRaw_len,hn],.inr ⟨g,cap,_,rfl,Nat.le_refl _,e1,h1,by unfold maxLen;omega,by simpa using hs,?_⟩⟩ (by rw[setRaw_len,hn]);rw[cellsP_setRaw _ _ _ (by omega),<- h3,Array.toList_setIfInBounds,List.take_set]
end
end
section
section
variable {fmt:Int} {D:List UInt8->St.Res} {S:List UInt8->List St.Pt × Nat × Int}
theorem drep_main(A B C:Option Addr)(n c m d e0 j:Nat)(ps:List St.Pt)(rs:List (Int × Int))(ts:List (List St.It))(w:World)(hF:FmAt w fmt D S)(hn:ps.length=n)(hnc:n<=c)(hc63:c<=9223372036854775807)(hm:rs.length=m)(hm2:ts.length=m)(h:PartsAt w A ps)(hB:RangesAt w B rs)(hC:TargsAt w C ts)(hl:n<=1000000)(hr:(St.rawP ps).length<=1000000)(hml:m<=20)
  (hts:∀ t ∈ ts,t.length<=1100/\tot t<=20000000) (hen:∀ t ∈ ts,(St.encS fmt t).1.length<=1000000) (hj:j<ps.length) (hv:St.validD S ps=0) (hc:(St.contD D ps j).2.2.2=0) (hcd:St.contD D ps j=D ps[j].2.2) (hpt:St.ptAt ps j=ps[j]) (hasc:St.ascL (St.lenL (St.contD D ps j).1) 0 rs=true) :
  Calls Tryz.prog 17 #[.agg #[.int .i64 fmt,.slice A n c],.int .i64 j,.slice B m d,.slice C m e0] w (RepEnd (St.replD D S (St.encS fmt) fmt ps j rs ts) w):=by
 have HV:=hid (fun W (hW:Und w W)=>dvalid_any A n c ps W (hF.und hW) hn hnc hc63 (h.und hW) (by omega) (by omega));have HC:=hid (fun W (hW:Und w W)=>dcont_any A n c ps j W (hF.und hW) hn (h.und hW) (by omega) (by omega));have HA:=hid (fun W (hW:Und w W) (L:Nat)=>dasc_any B m d L rs W hm (hB.und hW) (by omega));have hRR:=St.replD_m (E:=St.encS fmt) (fmt:=fmt) (k:=j) hv hc (by omega:ts.length=rs.length) hasc;rw[hv] at HV;rw[hcd] at hc HC hasc hRR;rw[hpt] at hRR;have hra:=raw_at ps j hj;obtain⟨b,off,rfl,hb,hcl⟩:=h (by omega);have hpr:=(hcl j hj).2.2;have HCL:=hid (fun W (hW:Und w W)=>sclone_any b off n c ps W hn (Nat.lt_of_lt_of_le hb hW.size) (fun i hi=>⟨(hW.cell hb).trans (hcl i hi).1,(hW.cell hb).trans (hcl i hi).2.1,(hW.cell hb).trans (hcl i hi).2.2⟩) (by omega));have hok:=hF.ok _ hc;obtain⟨rw',hrw'⟩:∃ rw':ByteArray,rw'=⟨ps[j].2.2.toArray⟩:=⟨_,rfl⟩;have hrl:rw'.data.toList=ps[j].2.2:=by rw[hrw']
 have hrz:rw'.size=ps[j].2.2.length:=by rw[<- hrl,St.len_list]
 rw[<- hrw'] at hpr;have HCU:=hid (fun W (hW:Und w W)=>hF.cut rw' W hW (by omega));have HDE:=hid (fun (s:ByteArray) W (hW:Und w W) (hs:s.size<=1000000000)=>hF.dec s W hW hs);have HEN:=hid hF.enc;have HH:=hid h;have HB:=hid hB;have HC2:=hid hC;rw[hrl] at HCU;generalize hraw:ps[j].2.2=raw at *;generalize D raw=R at hc HC hasc hRR hok HCU;obtain⟨f,cuts,tt,er⟩:=R;have hcut:=hok.cl;have htot:=hok.tot;have hle:=hok.le;have hlen:=hok.len;have hmono:=hok.mono;have htop:=hok.top;simp only at hc hcut htot hle hlen hmono htop hasc HCU hRR;subst hc;generalize St.replD D S (St.encS fmt) fmt ps (j:Int) rs ts=RR at *;have HRR:=hid hRR;have HTS:=hid hts;have HEL:=hid hen;have HMO:=hid hmono;have HTO:=hid htop;have HASC:=hid hasc;have HN:=hid hn;have HM:=hid hm;have HM2:=hid hm2;have HRL:=hid hrl;have HHC:=hid hcl;have HPR:=hid hpr;have HBW:=hid hb;clear hok hcd hpt hF hRR hts hen hmono htop hasc hrw' hB hC h hcl hpr;go_enter Tryz.func17,Tryz.ntmps17;go_wp2_with fail;refine(HV.out _ (by apply_rules[uUe,uUa,uUb,uUc,uUd])).mono ?_;rintro e w1 ⟨rfl,hu1⟩;have hd1:=(Hd.start w fmt (some ⟨b,off,none⟩) n c).und hu1;have a0:=hd1.c00;have a1:=hd1.c01;haveI l0:=hd1.l0;have HD1:=hid hd1;clear hd1 hu1;go_wp2_with fail;refine(HC.out _ HD1.out.u).mono ?_;rintro e w2 ⟨A2,c2,rfl,hI,hc2,hc3,hu2⟩;have HI:=hid hI;have HD2:=hid (HD1.out.und hu2);clear hu2 a0 a1 hI l0;simp only;go_wp2_with fail;refine(ilength_any A2 f.length c2 f w2 rfl HI.out (by omega) (by omega)).mono ?_;rintro e w3 ⟨rfl,hu3⟩;have HD3:=hid (HD2.out.und hu3);have HU3:=hid hu3;clear hu3;go_wp2_with fail;refine(HA.out _ HD3.out.u _).mono ?_;rintro e w4 ⟨rfl,hu4⟩;have hd4:=HD3.out.und hu4;have HU4:=hid (HU3.out.trans hu4);have a0:=hd4.c00;have a1:=hd4.c01;haveI l0:=hd4.l0;have p0:=(hd4.u.cell (p:=⟨b,off+j*3+2,none⟩) HBW.out).trans HPR.out;haveI lb:LtW b w4:=LtW.of (Nat.lt_of_lt_of_le hb hd4.u.size);have HD4:=hid hd4;have y1:(j:Int)<(n:Int):=by omega
 have y2:¬ (j:Int)<0:=by omega
 clear hd4 hu4;rw[HASC.out];go_wp2_with fail;refine(HCU.out _ HD4.out.u).mono ?_;rintro e w5 ⟨A5,c5,rfl,hN5,hc51,hc52,hu5⟩;have HN5:=hid hN5;have HD5:=hid (HD4.out.und hu5);have HU5:=hid (HU4.out.trans hu5);clear hN5 hu5 a0 a1 p0 lb l0;have hcutN:=hcut;generalize hN5:cuts.length=N5 at hcut ⊢ hc51;obtain⟨L,hL⟩:∃ L,L=St.lenL f:=⟨_,rfl⟩;rw[<- hL] at hcut;have hASC:=HASC.out;rw[<- hL] at hASC;have HASC':=hid hASC;have hA2:A2=none->True:=fun _=>trivial
 clear hASC HV HC HA HCU HH HHC HPR hv hraw hA2 HRL HASC;go_wp2_with fail;go_loopw [16,17,73] (fun s16 s17 s73 wr=>RwRelJ w w5 (some ⟨b,off,none⟩) n c fmt raw cuts L rs ts s16 s17 s73 wr) (fun _ _ s73 _=>m+1-(intOf s73).toNat)
 case atStart=>exact⟨0,0,0,⟨#[]⟩,by omega,rfl,rfl,rfl,by omega,by omega,HASC'.out,Nat.le_refl 0,by simp,HD5.out,Und.refl _⟩
 case round=>
  obtain⟨i,a,x,sB,hi,rfl,rfl,rfl,hax,hxL,has,hsz,hen,hd,hu⟩:=hrel;have HU:=hid hu;have HD:=hid hd;have HEN2:=hid hen;have hM:=HM.out;have hM2:=HM2.out
  have hcx:cuts.getD x 0<=raw.length:=by
   rw[List.getD_eq_getElem?_getD,List.getElem?_eq_getElem (show x<cuts.length by omega),Option.getD_some];exact HTO.out _ (List.getElem_mem _)
  have a0:=hd.c00;haveI l0:=hd.l0
  by_cases hlt:i<m
  ·have hlt2:i<rs.length:=by omega
   have hlt3:i<ts.length:=by omega
   obtain⟨b2,off2,rfl,hb2,hc2'⟩:=(HB.out.und hd.u) (by omega);obtain⟨c0,c1⟩:=hc2' i hlt2;obtain⟨b3,off3,rfl,hb3,hc3'⟩:=(HC2.out.und hd.u) (by omega);obtain⟨At,ct,g0,gI,gn,gc,gA⟩:=hc3' i hlt3;obtain⟨b5,off5,rfl,hb5,hc5'⟩:=(HN5.out.und hu) (by omega);rw[asc_drop _ _ rs i hlt2] at has;have hrd:=St.enc_drop (St.encS fmt) raw cuts a sB.data.toList rs ts i hlt2 hlt3;have htb:=HTS.out ts[i] (List.getElem_mem hlt3);have heb:=HEL.out ts[i] (List.getElem_mem hlt3);generalize rs[i]=r at c0 c1 has hrd;generalize ts[i]=t at g0 gI gn hrd htb heb;obtain⟨p,q⟩:=r;simp only at c0 c1 has hrd
   split at has
   ·cases has
   rename_i hcond
   obtain⟨p',rfl⟩:∃ p':Nat,p=p':=⟨p.toNat,by omega⟩;obtain⟨q',rfl⟩:∃ q':Nat,q=q':=⟨q.toNat,by omega⟩;have hap:x<=p':=by omega
   have hpq:p'<=q':=by omega
   have hqL:q'<=L:=by omega
   simp only[Int.toNat_natCast] at hrd;have m1:=St.mono_at HMO.out hap (show p'<cuts.length by omega);have m2:=St.mono_at HMO.out hpq (show q'<cuts.length by omega);have hcp:=hc5' p' (by omega);have hcq:=hc5' q' (by omega);have gp:cuts.getD p' 0=cuts[p']:=by rw[List.getD_eq_getElem?_getD,List.getElem?_eq_getElem (show p'<cuts.length by omega),Option.getD_some]
   have gq:cuts.getD q' 0=cuts[q']:=by rw[List.getD_eq_getElem?_getD,List.getElem?_eq_getElem (show q'<cuts.length by omega),Option.getD_some]
   have tq:=HTO.out _ (List.getElem_mem (show q'<cuts.length by omega));rw[<- gp] at hcp;rw[<- gq] at hcq tq;have hEN:=hid (fun W (hW:Und wr W)=>HEN.out At t.length ct t W (hd.u.trans hW) rfl gn gc (gI.und hW) (by omega) (by omega));generalize St.encS fmt t=Et at hrd heb hEN;obtain⟨tl,te⟩:=Et;simp only at hrd heb hEN;have htl:(⟨tl.toArray⟩:ByteArray).data.toList=tl:=by simp
   have htz:(⟨tl.toArray⟩:ByteArray).size=tl.length:=by show tl.toArray.size=_;simp
   generalize (⟨tl.toArray⟩:ByteArray)=tB at hEN htl htz;obtain⟨cp,hcpe⟩:∃ cp,cp=cuts.getD p' 0:=⟨_,rfl⟩;obtain⟨cq,hcqe⟩:∃ cq,cq=cuts.getD q' 0:=⟨_,rfl⟩;rw[<- hcpe] at hcp hrd m1 m2;have hcqe':=hcqe;rw[<- hcqe] at hcq tq hrd m2;haveI lb2:LtW b2 wr:=LtW.of hb2;haveI lb3:LtW b3 wr:=LtW.of hb3;haveI lb5:LtW b5 wr:=LtW.of hb5;have z1:(i:Int)<(m:Int):=by omega
   have z2:¬ (i:Int)<0:=by omega
   have z3:(p':Int)<(N5:Int):=by omega
   have z4:(q':Int)<(N5:Int):=by omega
   have z5:(a:Int)<=(cp:Int):=by omega
   have z6:(cp:Int)<=(rw'.size:Int):=by omega
   have z7:(0:Int)<=(a:Int):=by omega
   have HGI:=hid gI;clear hc2' hc3' hc5' hcond gp gq hu hd hen gI hcpe HMO HTO
   by_cases hte:te=0
   ·subst hte
    have hfin:∀ W,Und wr W->RwRelJ w w5 (some ⟨b,off,none⟩) n c fmt raw cuts L rs ts (.string (sB++(rw'.extract a cp++tB))) (.int .i64 (cq:Int)) (.int .i64 ((i:Int)+1)) W:=fun W hW=>
     ⟨i+1,cq,q',_,by omega,congrArg (Value.int .i64) (by omega),rfl,rfl,by rw[hcqe];exact Nat.le_refl _,hqL,has,by rw[ByteArray.size_append,ByteArray.size_append,ByteArray.size_extract];omega,by
      rw[HEN2.out,hrd,if_neg (by simp),ByteArray.data_append,Array.toList_append,ByteArray.data_append,Array.toList_append,cut_list,htl,hrl],HD.out.und hW,HU.out.trans hW⟩
    have HFIN:=hid hfin;clear hfin hrd has hcqe hcqe';go_wp2_with fail
    first|refine wp_region_under2 (by kernel_rfl) (by kernel_rfl) ?_|refine wp_region_under (by kernel_rfl) (by kernel_rfl) ?_
    repeat (go_big_quiet_step (first|((go_at_call 62;exact Calls.under_of (hEN.out _ (by apply_rules[uUe,uUa,uUb,uUc,uUd]))))))
    refine wpQuiet_nil ?_;rintro _ ⟨X,rfl⟩;go_wp2_with fail;exact⟨HFIN.out _ (by apply_rules[uUe,uUa,uUb,uUc,uUd]),by simp[intOf];omega⟩
   ·have hR:=hid (show RR=((0,[]),te) by rw[HRR.out,HEN2.out,hrd,if_pos hte])
    have z8:(te==0)=false:=by simpa using hte
    have z9:(te != 0)=true:=by simpa using hte
    clear hrd has hcqe hcqe' hte;go_wp2_with fail
    first|refine wp_region_under2 (by kernel_rfl) (by kernel_rfl) ?_|refine wp_region_under (by kernel_rfl) (by kernel_rfl) ?_
    repeat (go_big_quiet_step (first|((go_at_call 62;exact Calls.under_of (hEN.out _ (by apply_rules[uUe,uUa,uUb,uUc,uUd]))))))
    refine wpQuiet_nil ?_;rintro _ ⟨X,rfl⟩;have hd6:=HD.out.und ((by apply_rules[uUe,uUa,uUb,uUc,uUd]):Und wr (under (wr.alloc (.cells #[.int .i64 (p':Int),.int .i64 (q':Int)] 62)) X));have y0:=hd6.c20;have y3:=hd6.c21;have r0:=hd6.c10;have r1:=hd6.c11;have q0:=hd6.f10;have q1:=hd6.f11;haveI l1:=hd6.l1;haveI l2:=hd6.l2;have HD6:=hid hd6;clear hd6;generalize under (wr.alloc (.cells #[.int .i64 (p':Int),.int .i64 (q':Int)] 62)) X=w6 at *;go_wp2;refine bodyPost_ret (v:=.tuple #[.agg #[.int .i64 0,.slice none 0 0],.int .i64 te]) ?_ rfl ?_
    ·simp[results,Tryz.results17,go_sem,r0,r1]
    ·exact RepEnd.miss hR.out (HD6.out.set _ _)
  ·have hkn:i=m:=by omega
   subst hkn;have hR0:=HRR.out;rw[HEN2.out,List.drop_of_length_le (by omega),List.drop_of_length_le (by omega)] at hR0;simp only[St.encR,Int.toNat_natCast] at hR0
   have hsF:(sB++rw'.extract a raw.length).data.toList=sB.data.toList++raw.drop a:=by
    rw[ByteArray.data_append,Array.toList_append,cut_list,hrl];unfold St.cutL;rw[List.take_of_length_le (by omega)]
   have hzF:(sB++rw'.extract a raw.length).size<=200000000:=by rw[ByteArray.size_append,ByteArray.size_extract];omega
   rw[<- hsF] at hR0;have hDE:=HDE.out (sB++rw'.extract a raw.length);have z5:(a:Int)<=(rw'.size:Int):=by omega
   have z7:(0:Int)<=(a:Int):=by omega
   have HDE':=hid hDE;have HP:=hid (fun W (hW:Und wr W)=>drepl_any A2 B C f.length c2 i d e0 f rs ts W rfl hm hm2 (HI.out.und ((HU5.out.trans hu).trans hW)) (HB.out.und (hd.u.trans hW)) (HC2.out.und (hd.u.trans hW)) hlen (by omega) hml (fun t ht=>⟨(HTS.out t ht).1,by have:=(HTS.out t ht).2;omega⟩) (by rw[<- hL];exact HASC'.out));have HR0:=hid hR0;clear hR0 hDE hsF hen hax has hlt HRR HEN HEN2 HB HC2 HASC' HTS HEL HMO HTO hu;go_wp2_with fail;generalize sB++rw'.extract a raw.length=sF at *;refine(HDE'.out _ hd.u (by omega)).mono ?_;rintro e w6 ⟨A6,c6,rfl,hI6,hc61,hc62,hu6⟩;have hd6:=hd.und hu6;have HD6:=hid hd6;have HU6:=hid hu6;have HI6:=hid hI6;have hR1:=HR0.out;unfold St.replE at hR1;have hsl:sF.data.toList.length=sF.size:=St.len_list sF;generalize D sF.data.toList=R6 at hR1 HI6 hc61 ⊢;obtain⟨g6,cu6,t6,e6⟩:=R6;simp only at hR1 HI6 hc61 ⊢;have HR1:=hid hR1;clear hR1 HR0 hsz a0 hI6 hu6 hd l0
   by_cases he6:e6=0
   ·subst he6
    clear hd6;go_wp2_with fail;refine(HP.out _ HU6.out).mono ?_;rintro e w7 ⟨v7,rfl,ho7,hl7,ht7,hu7⟩;obtain⟨A7,c7,rfl,hc71,hc72,_⟩:=own_slice' ho7;have HI7:=hid (items_own ho7 rfl);have HU7:=hid hu7;have HD7:=hid (HD6.out.und hu7);generalize St.replL f rs ts=P7 at *;clear ho7 hu7 HP;go_wp2_with fail;refine(irenum_any A7 P7.length c7 P7 w7 rfl HI7.out (by omega) (by omega)).mono ?_;rintro e w8 ⟨v8,rfl,ho8,hu8⟩;obtain⟨A8,c8,rfl,hc81,hc82,_⟩:=own_slice' ho8;have HI8:=hid (items_own ho8 rfl);have HU8:=hid (HU7.out.trans hu8);have HD8:=hid (HD7.out.und hu8);generalize St.renumL P7=P8 at *;have hc83:c8<=9223372036854775807:=by unfold maxLen at hc82;omega
    clear ho8 hu8 HI7;go_wp2_with fail;refine(isame_any A6 A8 g6.length P8.length c6 c8 g6 P8 w8 rfl rfl hc61 hc81 hc62 hc83 (HI6.out.und HU8.out) HI8.out).mono ?_;rintro e w9 ⟨rfl,hu9⟩;have hdE:=HD8.out.und hu9;clear hu9;obtain⟨bb,hbb⟩:∃ bb,bb=decide (g6=P8):=⟨_,rfl⟩;rw[<- hbb];cases bb
    ·have hR:=hid (show RR=((0,[]),11) by rw[HR1.out,if_neg (by simp),if_pos (of_decide_eq_false hbb.symm)])
     clear hbb;have y0:=hdE.c20;have y3:=hdE.c21;have r0:=hdE.c10;have r1:=hdE.c11;have q0:=hdE.f10;have q1:=hdE.f11;haveI l1:=hdE.l1;haveI l2:=hdE.l2;have HDE:=hid hdE;clear hdE;go_wp2;refine bodyPost_ret (v:=.tuple #[.agg #[.int .i64 0,.slice none 0 0],.int .i64 (11)]) ?_ rfl ?_
     ·simp[results,Tryz.results17,go_sem,r0,r1]
     ·exact RepEnd.miss hR.out (HDE.out.set _ _)
    ·have hR:=hid (show RR=if 65536<(St.rawP (St.setRaw ps j sF.data.toList)).length then ((0,[]),3) else ((fmt,St.setRaw ps j sF.data.toList),0) by rw[HR1.out,if_neg (by simp),if_neg (by simpa using of_decide_eq_true hbb.symm)])
     have a0:=hdE.c00;have a1:=hdE.c01;have y0:=hdE.c20;have y3:=hdE.c21;haveI l0:=hdE.l0;haveI l1:=hdE.l1;haveI l2:=hdE.l2;have HD9:=hid hdE;have hn0:0<n:=by omega
     clear hbb hdE;go_wp2_with fail;go_cut [23] from 24 (fun s23 wx=>CloneAt w w9 fmt (some ⟨b,off,none⟩) n c ps s23 wx)
     case first=>
      go_region_law (first
       | (refine step_callX rfl 66 #[.slice (some ⟨b,off,none⟩) n c] _ (HCL.out (w9.alloc (.cells #[.int .i64 0,.slice none 0 0] 52)).drew (HD9.out.u.trans (by apply_rules[uUe,uUa,uUb,uUc,uUd]))) ?_ ?_;(· go_simp;done);rintro e w10 ⟨v10,rfl,ho10,hu10⟩;obtain⟨g10,k10,rfl,hg10,hgl10,hoo10⟩:=own_some ho10 hn0;have hz10:w9.heap.size+1<=(w9.alloc (.cells #[.int .i64 0,.slice none 0 0] 52)).drew.heap.size:=(by simp);have hb10:=(hu10.below.block w9.heap.size (by simp)).trans (heap_alloc_new w9 (.cells #[.int .i64 0,.slice none 0 0] 52));have d0:w10.cell? ⟨w9.heap.size,0,none⟩=some (.int .i64 0):=zcH hb10 0;have d1:w10.cell? ⟨w9.heap.size,1,none⟩=some (.slice none 0 0):=zcH hb10 1;have f0:w10.frozen? ⟨w9.heap.size,0,none⟩=false:=zfH hb10 0;have f1:w10.frozen? ⟨w9.heap.size,1,none⟩=false:=zfH hb10 1;have hd10:=HD9.out.und (Und.trans (by apply_rules[uUe,uUa,uUb,uUc,uUd]) hu10);have b0:=hd10.c00;haveI k0:=hd10.l0;haveI k1:LtW w9.heap.size w10:=LtW.of (lt_of_heap hb10);refine⟨_,rfl,?_⟩)
       | (refine step_callX rfl 66 #[.slice (some ⟨b,off,none⟩) n c] _ (HCL.out w9.drew (HD9.out.u.trans (by apply_rules[uUe,uUa,uUb,uUc,uUd]))) ?_ ?_;(· go_simp;done);rintro e w10 ⟨v10,rfl,ho10,hu10⟩;obtain⟨g10,k10,rfl,hg10,hgl10,hoo10⟩:=own_some ho10 hn0;have hz10:w9.heap.size<=w9.drew.heap.size:=(by simp);have hd10:=HD9.out.und (Und.trans (by apply_rules[uUe,uUa,uUb,uUc,uUd]) hu10);have b0:=hd10.c00;haveI k0:=hd10.l0;refine⟨_,rfl,?_⟩))
      all_goals
       go_wp2_with fail;go_meet
       first
        | exact clone_first HD9.out hoo10 hz10 (Und.trans (by apply_rules[uUe,uUa,uUb,uUc,uUd]) hu10) hn0
        | exact clone_last HD9.out hoo10 hz10 (Und.trans (by apply_rules[uUe,uUa,uUb,uUc,uUd]) hu10) hn0
     case rest=>
      obtain⟨gd,g,cap,cur,rfl,hgd,hg9,hne,hgdh,hgh,hcs,hncap,hcap,hct,hdc,huc⟩:=hcut;have hul:=rawP_set ps j sF.data.toList;have hsl:=setRaw_len ps j sF.data.toList;have hp:=clone_parts (s:=sF.data.toList) hn (by omega:j<n) hgh hcs hncap hcap hct;rw[ba_eta] at hp;have hus:=huc.setCell (p:=⟨g,j*3+2,none⟩) hg9 (.string sF);have hgs:=(heap_setCell_other wc ⟨g,j*3+2,none⟩ gd (.string sF) hne).trans hgdh;have hds:=HD9.out.und hus;have d0:wc.cell? ⟨gd,0,none⟩=some (.int .i64 fmt):=zcH hgdh 0;have d1:wc.cell? ⟨gd,1,none⟩=some (.slice (some ⟨g,0,none⟩) n cap):=zcH hgdh 1;have e2:wc.frozen? ⟨g,j*3+2,none⟩=false:=zfH hgh (j*3+2);obtain⟨v2,hv2⟩:∃ v2,wc.cell? ⟨g,j*3+2,none⟩=some v2:=⟨_,(zcH hgh (j*3+2)).trans (Array.getElem?_eq_getElem (by omega))⟩;have s0:(wc.setCell ⟨g,j*3+2,none⟩ (.string sF)).cell? ⟨gd,0,none⟩=some (.int .i64 fmt):=zcH hgs 0;have s1:(wc.setCell ⟨g,j*3+2,none⟩ (.string sF)).cell? ⟨gd,1,none⟩=some (.slice (some ⟨g,0,none⟩) n cap):=zcH hgs 1;haveI m0:LtW gd wc:=LtW.of (lt_of_heap hgdh);haveI m1:LtW g wc:=LtW.of (lt_of_heap hgh);have HDS:=hid hds;have HP':=hid hp;have HGS:=hid hgs;clear hdc huc hus hds hgs hp hgdh hgh hct a0 a1 y0 y3 l0 l1 l2;go_wp2_with fail;generalize wc.setCell ⟨g,j*3+2,none⟩ (.string sF)=w11 at *;refine(dbytes_any fmt (some ⟨g,0,none⟩) n cap (St.setRaw ps j sF.data.toList) w11 (by omega) HP'.out (by omega) (by omega)).mono ?_;rintro e w12 ⟨rfl,hu12⟩;have hd12:=HDS.out.und hu12;have hg12:=(hu12.below.block gd (lt_of_heap HGS.out)).trans HGS.out;have HP12:=hid (HP'.out.und hu12);have t0:w12.cell? ⟨gd,0,none⟩=some (.int .i64 fmt):=zcH hg12 0;have t1:w12.cell? ⟨gd,1,none⟩=some (.slice (some ⟨g,0,none⟩) n cap):=zcH hg12 1;haveI m2:LtW gd w12:=LtW.of (lt_of_heap hg12);have hbz:(⟨(St.rawP (St.setRaw ps j sF.data.toList)).toArray⟩:ByteArray).size=(St.rawP (St.setRaw ps j sF.data.toList)).length:=by show (St.rawP (St.setRaw ps j sF.data.toList)).toArray.size=_;simp
      generalize (⟨(St.rawP (St.setRaw ps j sF.data.toList)).toArray⟩:ByteArray)=bts at *;have HD12:=hid hd12;have r0:=hd12.c10;have r1:=hd12.c11;have q0:=hd12.f10;have q1:=hd12.f11;have y0:=hd12.c20;have y3:=hd12.c21;haveI l1:=hd12.l1;haveI l2:=hd12.l2;clear s0 s1 d0 d1 e2 hv2 hu12 hg12 hd12 m0 m1
      by_cases hbig:65536<(St.rawP (St.setRaw ps j sF.data.toList)).length
      ·have hR2:=hid (show RR=((0,[]),3) by rw[hR.out,if_pos hbig])
       have z1:(65536:Int)<(bts.size:Int):=by omega
       clear hbz hbig hR;go_wp2;refine bodyPost_ret (v:=.tuple #[.agg #[.int .i64 0,.slice none 0 0],.int .i64 3]) ?_ rfl ?_
       ·simp[results,Tryz.results17,go_sem,r0,r1]
       ·exact RepEnd.miss hR2.out (HD12.out.set _ _)
      ·have hR2:=hid (show RR=((fmt,St.setRaw ps j sF.data.toList),0) by rw[hR.out,if_neg hbig])
       have z1:¬ (65536:Int)<(bts.size:Int):=by omega
       have hE:=hid (fun u v=>parts_set HP12.out HD12.out.b1 u v);clear hbz hbig hR;go_wp2;refine bodyPost_ret (v:=.tuple #[.agg #[.int .i64 fmt,.slice (some ⟨g,0,none⟩) n cap],.int .i64 0]) ?_ rfl ?_
       ·simp[results,Tryz.results17,go_sem,r0,r1]
       ·rw[hR2.out]
        exact⟨some ⟨g,0,none⟩,cap,by simp only;rw[hsl,hn],hE.out _ _,by simp only;omega,hcap,HD12.out.set _ _⟩
   ·have hR:=hid (show RR=((0,[]),e6) by rw[HR1.out,if_pos he6])
    have z8:(e6==0)=false:=by simpa using he6
    have z9:(e6 != 0)=true:=by simpa using he6
    have hdE:=hd6;clear hd6 he6;have y0:=hdE.c20;have y3:=hdE.c21;have r0:=hdE.c10;have r1:=hdE.c11;have q0:=hdE.f10;have q1:=hdE.f11;haveI l1:=hdE.l1;haveI l2:=hdE.l2;have HDE:=hid hdE;clear hdE;go_wp2;refine bodyPost_ret (v:=.tuple #[.agg #[.int .i64 0,.slice none 0 0],.int .i64 (e6)]) ?_ rfl ?_
    ·simp[results,Tryz.results17,go_sem,r0,r1]
    ·exact RepEnd.miss hR.out (HDE.out.set _ _)
end
end
section
variable {fmt:Int} {D:List UInt8->St.Res} {S:List UInt8->List St.Pt × Nat × Int}
theorem dreplace_any(A B C:Option Addr)(n c m d m2 e0:Nat)(ps:List St.Pt)(k:Int)(rs:List (Int × Int))(ts:List (List St.It))(w:World)(hF:FmAt w fmt D S)(hn:ps.length=n)(hnc:n<=c)(hc63:c<=9223372036854775807)(hm:rs.length=m)(hm2:ts.length=m2)(h:PartsAt w A ps)(hB:RangesAt w B rs)(hC:TargsAt w C ts)(hl:n<=1000000)(hr:(St.rawP ps).length<=1000000)(hml:m<=20)
  (hts:∀ t ∈ ts,t.length<=1100/\tot t<=20000000) (hen:∀ t ∈ ts,(St.encS fmt t).1.length<=1000000) :
  Calls Tryz.prog 17 #[.agg #[.int .i64 fmt,.slice A n c],.int .i64 k,.slice B m d,.slice C m2 e0] w (RepEnd (St.replD D S (St.encS fmt) fmt ps k rs ts) w):=by
 by_cases hbad:St.validD S ps ≠ 0∨(St.contD D ps k).2.2.2 ≠ 0∨ts.length ≠ rs.length∨St.ascL (St.lenL (St.contD D ps k).1) 0 rs=false
 ·exact drep_early A B C n c m d m2 e0 ps k rs ts w hF hn hnc hc63 hm hm2 h hB hl hr hml hbad
 ·have h1:St.validD S ps=0:=Decidable.byContradiction fun e=>hbad (.inl e)
  have h2:(St.contD D ps k).2.2.2=0:=Decidable.byContradiction fun e=>hbad (.inr (.inl e))
  have h3:ts.length=rs.length:=Decidable.byContradiction fun e=>hbad (.inr (.inr (.inl e)))
  have h4:St.ascL (St.lenL (St.contD D ps k).1) 0 rs=true:=by
   cases hq:St.ascL (St.lenL (St.contD D ps k).1) 0 rs
   ·exact absurd (.inr (.inr (.inr hq))) hbad
   ·rfl
  obtain⟨j,hj,rfl,_,hcd,hpt⟩:=St.cont_ok h2;obtain rfl:m2=m:=by omega
  exact drep_main A B C n c m2 d e0 j ps rs ts w hF hn hnc hc63 hm hm2 h hB hC hl hr hml hts hen hj h1 h2 hcd hpt h4
end
end Go.Proofs.YtcfhfdphoidaeaaGreatDoor
