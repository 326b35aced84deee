/- The contract of item.Plain. The contract of segment.Place at a place in the first text. -/
import Derived.Test.YtcfhfdphoidaeaaGreatDoorFnG
set_option linter.unusedVariables false
set_option linter.unusedSimpArgs false
set_option linter.all false
namespace Go.Proofs.YtcfhfdphoidaeaaGreatDoor
open Go.RowKit
set_option maxRecDepth 20000
set_option maxHeartbeats 25600000
namespace St
def plain1(x:It):List UInt8:=if x.1=1 then x.2.1 else if x.1=5 then [255] else []
def plainL(f:List It):List UInt8:=f.flatMap plain1
theorem plain_snoc(f:List It)(k:Nat)(h:k<f.length):plainL (f.take (k+1))=plainL (f.take k)++plain1 f[k]:=by
 unfold plainL;rw[List.take_add_one,List.getElem?_eq_getElem h,List.flatMap_append];simp
theorem plain1_len(x:It):(plain1 x).length<=x.2.1.length+1:=by
 unfold plain1
 split
 ·omega
 ·split <;> simp
theorem plain_len:∀ f:List It,(plainL f).length<=tot f+f.length
 | []=>by simp[plainL]
 | x :: f=>by
  have h:=plain_len f;have h1:=plain1_len x;have e:plainL (x :: f)=plain1 x++plainL f:=by simp[plainL]
  have e2:tot (x :: f)=x.2.1.length+tot f:=by simp[tot]
  rw[e,e2,List.length_append,List.length_cons];omega
end St
def PnRel(w:World)(f:List St.It)(n:Nat)(s3 s8:Value)(wr:World):Prop:=
 ∃ (k:Nat) (t:List UInt8),k<=n/\St.plainL (f.take k)=t/\s8=.int .i64 k/\wr.ownsRow w.heap.size 5 1 s3 t.length (Lib.byteCells t)/\Und w wr
theorem iplain_any(A:Option Addr)(n c:Nat)(f:List St.It)(w:World)(hn:f.length=n)(h:ItemsAt w A f)(hl:n<=1000)(ht:tot f<=100000) :
  Calls Tryz.prog 53 #[.slice A n c] w fun e w'=>e=.returned (.string ⟨(St.plainL f).toArray⟩)/\Und w w':=by
 obtain⟨ib,kb,kz0,kz1,kz2⟩:=info_parts info_byte;have H:=hid h;have HN:=hid hn;have HT:=hid ht;clear h hn ht;go_enter Tryz.func53,Tryz.ntmps53;go_wp2_with fail;go_loopw [3,8] (fun s3 s8 wr=>PnRel w f n s3 s8 wr) (fun _ s8 _=>n+1-(intOf s8).toNat)
 case atStart=>exact⟨0,[],by omega,rfl,rfl,World.ownsRow_nil _ _ _ _,Und.refl _⟩
 case round=>
  obtain⟨k,t,hk,htt,rfl,ho,hu⟩:=hrel;have HU:=hid hu;obtain⟨AB,cB,rfl,_⟩:=own_slice ho;have HO:=hid ho;have HNo:=HN.out;have hpl:=St.plain_len (f.take k);have htk:=tot_tk_le f k;have HTo:=HT.out;rw[List.length_take] at hpl
  by_cases hlt:k<n
  ·have hlt2:k<f.length:=by omega
   obtain⟨bb,off,rfl,hb,hc⟩:=(H.out.und hu) (by omega);obtain⟨c0,c1,c2⟩:=hc k hlt2;have hps:=St.plain_snoc f k hlt2
   have hxl:f[k].2.1.length<=tot f:=by
    have h1:=tot_tk f k hlt2;have h2:=tot_tk_le f (k+1);omega
   generalize f[k]=x at c0 c1 c2 hps hxl;obtain⟨kd,tx,id⟩:=x;simp only at c0 c1 c2 hxl;haveI:LtW bb wr:=LtW.of hb;have z1:(k:Int)<(n:Int):=by omega
   have hxs:(⟨tx.toArray⟩:ByteArray).size=tx.length:=by show tx.toArray.size=_;simp
   rw[htt] at hps hpl
   have hST:=fun (y:List UInt8) (hy:St.plain1 (kd,tx,id)=y) (v':Value) (w4:World) (h1:w4.ownsRow w.heap.size 5 1 v' (t++y).length (Lib.byteCells (t++y))) (h2:Und w w4)=>(show PnRel w f n v' (.int .i64 ((k:Int)+1)) w4 from
    ⟨k+1,t++y,by omega,by rw[hps,hy],congrArg (Value.int .i64) (by omega),h1,h2⟩)
   have HST:=hid hST;have htl:t.length<=200000:=by omega
   clear hc hps hST ho hu htt hpl htk
   by_cases h1:kd=1
   ·subst h1
    have HW:=hid (HST.out tx (by simp[St.plain1]));clear HST;go_wp2_with (at_builtin;(with_reducible (refine Lib.wpList_append_own_string _ rfl _ _ 137 9 rfl w.heap.size 5 ib Tryz.underlying137 Tryz.underlying9 kb kz0 kz1 kz2 (.slice AB t.length cB) t.length (Lib.byteCells t) ?_ (own_und (by apply_rules[uUe,uUa,uUb,uUc,uUd]) HO.out) ?_ ?_ ?_ ?_ ?_ ?_));all_goals (first|rfl|skip))
    ·rw[hxs];unfold maxLen;omega
    ·rw[hxs];omega
    ·have:=HU.out.size;simp;omega
    ·intro v' w4 hown hgrow _
     have hu4:=(HU.out.trans (by apply_rules[uUe,uUa,uUb,uUc,uUd])).grown hgrow (fun g hg=>owns_block HO.out g hg);have HE:=hid (HW.out v' w4 (app_row hown).1 hu4);clear hown hgrow hu4;go_wp2;exact⟨HE.out,by simp[intOf] <;> omega⟩
   ·by_cases h5:kd=5
    ·subst h5
     have HW:=hid (HST.out [255] (by simp[St.plain1]));clear HST h1;go_wp2_with (at_builtin;(with_reducible (refine wpList_append_own _ rfl _ _ 137 rfl w.heap.size 5 ib (.int .u8 0) 1 1 Tryz.underlying137 kb kz0 kz1 kz2 rfl (by decide) (.slice AB t.length cB) t.length (Lib.byteCells t) ?_ (own_und (by apply_rules[uUe,uUa,uUb,uUc,uUd]) HO.out) ?_ 1 1 [.int .u8 255] ?_ ?_ ?_ ?_ ?_ ?_ ?_ ?_));all_goals (first|rfl|(unfold maxLen;omega)|omega|skip))
     ·intro j u hx
      have hh:=heap_alloc_new (wr.alloc (.cells #[.int .i64 5,.string ⟨tx.toArray⟩,.int .i64 id] 66)) (.cells #[.int .u8 255] 5 (0,0));rw[World.size_alloc] at hh;rw[Addr.add_mid,Nat.zero_add,zcH hh j];simpa using hx
     ·intro u hu
      rw[List.mem_singleton.1 hu];rfl
     ·have:=HU.out.size;simp;omega
     intro v' w4 hown hgrow _;have hu4:=(HU.out.trans (by apply_rules[uUe,uUa,uUb,uUc,uUd])).grown hgrow (fun g hg=>owns_block HO.out g hg);have HE:=hid (HW.out v' w4 (by simpa [Lib.byteCells] using hown) hu4);clear hown hgrow hu4;go_wp2;exact⟨HE.out,by simp[intOf] <;> omega⟩
    ·have q1:(kd==1)=false:=by simpa using h1
     have q5:(kd==5)=false:=by simpa using h5
     have HW:=hid (show PnRel w f n (.slice AB t.length cB) (.int .i64 ((k:Int)+1)) wr from by
      have hx:=HST.out [] (by simp[St.plain1,h1,h5]) (.slice AB t.length cB) wr (by rw[List.append_nil];exact HO.out) HU.out
      exact hx)
     clear HST;go_wp2
     exact⟨by
      obtain⟨k',t',a1,a2,a3,a4,a5⟩:=HW.out
      exact⟨k',t',a1,a2,a3,own_und (by apply_rules[uUe,uUa,uUb,uUc,uUd]) a4,a5.trans (by apply_rules[uUe,uUa,uUb,uUc,uUd])⟩,by simp[intOf] <;> omega⟩
  ·have hkn:k=n:=by omega
   subst hkn;have hcv:=conv_ownE HO.out;have htt2:St.plainL f=t:=by rw[<- htt,List.take_of_length_le (by omega)]
   have HT2:=hid htt2;clear hlt ho hu htt htt2;go_wp2;go_ret;exact⟨by rw[HT2.out];rfl,HU.out⟩
end Go.Proofs.YtcfhfdphoidaeaaGreatDoor
set_option linter.all false
namespace Go.Proofs.YtcfhfdphoidaeaaGreatDoor
open Go.RowKit
set_option maxRecDepth 20000
set_option maxHeartbeats 25600000
theorem splace_any(A:Option Addr)(n c p:Nat)(tx:List UInt8)(id:Int)(f:List St.It)(w:World)(hn:((1,tx,id) :: f).length=n)(h:ItemsAt w A ((1,tx,id) :: f))(hl:n<=1000)(ht:tot ((1,tx,id) :: f)<=100000)(hnorm:St.normL ((1,tx,id) :: f)=(1,tx,id) :: f)(hp0:0<p)(hp:p<tx.length) :
  Calls Tryz.prog 54 #[.slice A n c,.int .i64 (p:Int)] w fun e w'=>e=.returned (.int .i64 (p:Int))/\Und w w':=by
 have HPL:=hid (iplain_any A n c _ w hn h hl ht)
 have hpl:p<=(St.plainL ((1,tx,id) :: f)).length:=by
  have:St.plainL ((1,tx,id) :: f)=tx++St.plainL f:=by simp[St.plainL,St.plain1]
  rw[this,List.length_append];omega
 have hpx:=hid (show p<=100000 by simp[tot] at ht;omega);obtain⟨q,hq⟩:∃ q,St.plainL ((1,tx,id) :: f)=q:=⟨_,rfl⟩;rw[hq] at HPL hpl;have hqs:(⟨q.toArray⟩:ByteArray).size=q.length:=by show q.toArray.size=_;simp
 have HNM:=hid (fun W (u:Und w W)=>inorm_any A n c _ W hn (h.und u) (by omega) (by omega));rw[hnorm,hn] at HNM;have HN:=hid hn;clear h ht hnorm hn hq;have z1:¬ (p:Int)<0:=by omega
 have z2:¬ (q.length:Int)<(p:Int):=by omega
 have z3:¬ q.length<p:=by omega
 have z4:(0:Int)<(p:Int):=by omega
 go_enter Tryz.func54,Tryz.ntmps54;go_wp2_with fail;refine HPL.out.mono ?_;rintro e w1 ⟨rfl,hu1⟩;have HU1:=hid hu1;clear hu1;go_wp2_with fail;refine(HNM.out _ HU1.out).mono ?_;rintro e w2 ⟨v2,rfl,ho,hu2⟩;have HU2:=hid (HU1.out.trans hu2);obtain⟨A2,c2,rfl,_⟩:=own_slice ho;have hi2:=items_own ho HN.out;obtain⟨bb,off,rfl,hb,hc⟩:=hi2 (by simp);obtain⟨c0,c1,c2'⟩:=hc 0 (by simp);simp only[Nat.zero_mul,Nat.add_zero,List.getElem_cons_zero] at c0 c1 c2';haveI:LtW bb w2:=LtW.of hb;have hxs:(⟨tx.toArray⟩:ByteArray).size=tx.length:=by show tx.toArray.size=_;simp
 have z5:(p:Int)<(tx.length:Int):=by omega
 have hn0:0<n:=by have:=HN.out;simp at this;omega
 have z6:(0:Int)<(n:Int):=by omega
 clear ho hu2 hc;go_wp2_with fail;refine wp_loop_rounds 1 ?_;rw[rounds_succ];go_wp2
 have hw:wrap64 (p:Int)=(p:Int):=by
  have:=hpx.out
  unfold wrap64;omega
 go_ret;exact⟨by rw[hw];rfl,HU2.out.trans (by apply_rules[uUe,uUa,uUb,uUc,uUd])⟩
end Go.Proofs.YtcfhfdphoidaeaaGreatDoor
set_option linter.all false
namespace Go.Proofs.YtcfhfdphoidaeaaGreatDoor
open Go.RowKit
set_option maxRecDepth 20000
set_option maxHeartbeats 25600000
def Tr1Rel(w:World)(lo:Nat)(s2:Value)(wr:World):Prop:=∃ k:Nat,k<=lo/\s2=.int .i64 k/\Und w wr
def Tr2Rel(w:World)(hi n:Nat)(s3:Value)(wr:World):Prop:=∃ k:Nat,hi<=k/\k<=n/\s3=.int .i64 k/\Und w wr
theorem trim_any(s:ByteArray)(lo hi:Nat)(w:World)(hs:s.size<=100000)(h0:lo<hi)(h1:hi<=s.size)(ha:∀ j (h:j<s.size),j<lo->St.clsB s[j]=2)(hb:∀ h:lo<s.size,St.clsB s[lo] ≠ 2)(hc:∀ j (h:j<s.size),hi<=j->St.clsB s[j]=2)(hd:∀ h:hi-1<s.size,St.clsB s[hi-1] ≠ 2) :
  Calls Tryz.prog 58 #[.string s] w fun e w'=>e=.returned (.tuple #[.int .i64 (lo:Int),.int .i64 (hi:Int)])/\Und w w':=by
 have HA:=hid ha;have HB:=hid hb;have HC:=hid hc;have HD:=hid hd;clear ha hb hc hd;go_enter Tryz.func58,Tryz.ntmps58;go_wp2_with fail;go_loopw [2] (fun s2 wr=>Tr1Rel w lo s2 wr) (fun s2 _=>s.size+1-(intOf s2).toNat)
 case atStart=>exact⟨0,by omega,rfl,Und.refl _⟩
 case round=>
  obtain⟨k,hk,rfl,hu⟩:=hrel;have HU:=hid hu;have hlt:k<s.size:=by omega
  have z1:(k:Int)<(s.size:Int):=by omega
  have ho:=fun W=>of_any s[k] W
  by_cases hkl:k<lo
  ·rw[HA.out k hlt hkl] at ho
   have HM:=hid (fun W (u:Und wr W)=>(show Tr1Rel w lo (.int .i64 ((k:Int)+1)) W from⟨k+1,by omega,congrArg (Value.int .i64) (by omega),HU.out.trans u⟩));have HO:=hid ho;clear ho hu hkl;go_wp2_with ((go_at_call 103;refine(HO.out _).mono ?_;rintro e w' ⟨rfl,X,rfl⟩));exact⟨HM.out _ (by apply_rules[uUe,uUa,uUb,uUc,uUd]),by simp[intOf] <;> omega⟩
  ·have hkk:k=lo:=by omega
   subst hkk;have hcl:=HB.out hlt;obtain⟨q,hq⟩:∃ q,St.clsB s[k]=q:=⟨_,rfl⟩;rw[hq] at ho hcl;have HO:=hid ho;clear ho hu hkl hq;go_wp2_with ((go_at_call 103;refine(HO.out _).mono ?_;rintro e w' ⟨rfl,X,rfl⟩));have HU2:=hid (HU.out.trans (show Und wr (under wr X) from(by apply_rules[uUe,uUa,uUb,uUc,uUd])));have hqf:(q==2)=false:=by simpa using hcl
   simp only[hqf];clear HU HO hcl hqf;go_loopw [3] (fun s3 wr=>Tr2Rel w hi s.size s3 wr) (fun s3 _=>(intOf s3).toNat)
   case atStart=>exact⟨s.size,h1,by omega,rfl,HU2.out⟩
   case round=>
    clear HU2;obtain⟨m,hm1,hm2,rfl,hu⟩:=hrel;have HU:=hid hu;obtain⟨j,rfl⟩:∃ j,m=j+1:=⟨m-1,by omega⟩;have hj:j<s.size:=by omega
    have y1:(k:Int)<((j+1:Nat):Int):=by omega
    have y2:((j+1:Nat):Int)-1=(j:Int):=by omega
    have y3:(j:Int)<(s.size:Int):=by omega
    have ho:=fun W=>of_any s[j] W
    by_cases hjh:hi<=j
    ·rw[HC.out j hj hjh] at ho
     have HM:=hid (fun W (u:Und wr W)=>(show Tr2Rel w hi s.size (.int .i64 (j:Int)) W from⟨j,hjh,by omega,rfl,HU.out.trans u⟩));have HO:=hid ho;clear ho hu hjh;go_wp2_with ((go_at_call 103;refine(HO.out _).mono ?_;rintro e w' ⟨rfl,X,rfl⟩));exact⟨HM.out _ (by apply_rules[uUe,uUa,uUb,uUc,uUd]),by simp[intOf] <;> omega⟩
    ·have hjk:hi=j+1:=by omega
     subst hjk;have hcl:=HD.out (by simpa using hj);simp only[Nat.add_sub_cancel] at hcl;obtain⟨q2,hq2⟩:∃ q,St.clsB s[j]=q:=⟨_,rfl⟩;rw[hq2] at ho hcl;have HO:=hid ho;have y4:¬ (k:Int)=((j+1:Nat):Int):=by omega
     have y5:¬ (k:Int)=(j:Int)+1:=by omega
     clear ho hu hjh hq2;go_wp2_with ((go_at_call 103;refine(HO.out _).mono ?_;rintro e w' ⟨rfl,X,rfl⟩));go_ret2;exact⟨rfl,HU.out.trans (by apply_rules[uUe,uUa,uUb,uUc,uUd])⟩
end Go.Proofs.YtcfhfdphoidaeaaGreatDoor
set_option linter.all false
namespace Go.Proofs.YtcfhfdphoidaeaaGreatDoor
open Go.RowKit
set_option maxRecDepth 20000
set_option maxHeartbeats 25600000
namespace St
def blank1(x:It):List Bool:=if x.1=1 then x.2.1.map (fun c=>decide (clsB c=2)) else [false]
def blankL(f:List It):List Bool:=f.flatMap blank1
theorem blank_snoc(f:List It)(k:Nat)(h:k<f.length):blankL (f.take (k+1))=blankL (f.take k)++blank1 f[k]:=by
 unfold blankL;rw[List.take_add_one,List.getElem?_eq_getElem h,List.flatMap_append];simp
theorem blank1_len(x:It):(blank1 x).length<=x.2.1.length+1:=by
 unfold blank1
 split <;> simp
theorem blank_len:∀ f:List It,(blankL f).length<=tot f+f.length
 | []=>by simp[blankL]
 | x :: f=>by
  have h:=blank_len f;have h1:=blank1_len x;have e:blankL (x :: f)=blank1 x++blankL f:=by simp[blankL]
  have e2:tot (x :: f)=x.2.1.length+tot f:=by simp[tot]
  rw[e,e2,List.length_append,List.length_cons];omega
end St
def bCells(l:List Bool):List Value:=l.map Value.bool
theorem bCells_snoc(l:List Bool)(b:Bool):bCells l++[.bool b]=bCells (l++[b]):=by simp[bCells]
theorem blk_kept{a b c:World}{B e size n eb:Nat}{v:Value}{xs:List Value}{cs:Array Value}{T:TypeId}{fr:Nat × Nat}(hu:Und a b)(hg:b.grownBy c v.ownBlock)(ho:a.ownsRow B e size v n xs)(hb:a.heap[eb]?=some (.cells cs T fr))(hne:T ≠ e):c.heap[eb]?=some (.cells cs T fr):=by
 have hlt:=lt_of_heap hb;refine(hg.block eb (Nat.lt_of_lt_of_le hlt hu.size) fun he=>?_).trans ((hu.below.block eb hlt).trans hb);rcases ho.2 with ⟨rfl,_⟩|⟨g,cap,cur,rfl,_,hgb,_⟩
 ·simp[Value.ownBlock] at he
 ·simp only[Value.ownBlock,Option.some.injEq] at he
  subst he;rw[hb] at hgb;cases hgb;exact hne rfl
def BlRel(w:World)(f:List St.It)(n:Nat)(s3 s9:Value)(wr:World):Prop:=
 ∃ (k:Nat) (t:List Bool),k<=n/\St.blankL (f.take k)=t/\s9=.int .i64 k/\wr.ownsRow w.heap.size 4 1 s3 t.length (bCells t)/\Und w wr
def BlIn(w:World)(t:List Bool)(tx:List UInt8)(id:Int)(eb:Nat)(s3 s6:Value)(wr:World):Prop:=
 ∃ (j:Nat) (y:List Bool),j<=tx.length/\y=t++(tx.take j).map (fun c=>decide (St.clsB c=2))/\s6=.int .i64 j/\wr.ownsRow w.heap.size 4 1 s3 y.length (bCells y)/\wr.heap[eb]?=some (.cells #[.int .i64 1,.string ⟨tx.toArray⟩,.int .i64 id] 66 (0,0))/\Und w wr
theorem blanks_any(A:Option Addr)(n c:Nat)(f:List St.It)(w:World)(hn:f.length=n)(h:ItemsAt w A f)(hl:n<=1000)(ht:tot f<=100000) :
  Calls Tryz.prog 56 #[.slice A n c] w fun e w'=>∃ v,e=.returned v/\w'.ownsRow w.heap.size 4 1 v (St.blankL f).length (bCells (St.blankL f))/\Und w w':=by
 obtain⟨ib,kb,kz0,kz1,kz2⟩:=info_parts info_bool;have H:=hid h;have HN:=hid hn;have HT:=hid ht;clear h hn ht;go_enter Tryz.func56,Tryz.ntmps56;go_wp2_with fail;go_loopw [3,9] (fun s3 s9 wr=>BlRel w f n s3 s9 wr) (fun _ s9 _=>n+1-(intOf s9).toNat)
 case atStart=>exact⟨0,[],by omega,rfl,rfl,World.ownsRow_nil _ _ _ _,Und.refl _⟩
 case round=>
  obtain⟨k,t,hk,htt,rfl,ho,hu⟩:=hrel;have HU:=hid hu;obtain⟨AB,cB,rfl,_⟩:=own_slice ho;have HO:=hid ho;have HNo:=HN.out;have hpl:=St.blank_len (f.take k);have htk:=tot_tk_le f k;have HTo:=HT.out;rw[List.length_take] at hpl
  by_cases hlt:k<n
  ·have hlt2:k<f.length:=by omega
   obtain⟨bb,off,rfl,hb,hc⟩:=(H.out.und hu) (by omega);obtain⟨c0,c1,c2⟩:=hc k hlt2;have hps:=St.blank_snoc f k hlt2
   have hxl:f[k].2.1.length<=tot f:=by
    have h1:=tot_tk f k hlt2;have h2:=tot_tk_le f (k+1);omega
   generalize f[k]=x at c0 c1 c2 hps hxl;obtain⟨kd,tx,id⟩:=x;simp only at c0 c1 c2 hxl;haveI:LtW bb wr:=LtW.of hb;have z1:(k:Int)<(n:Int):=by omega
   have hxs:(⟨tx.toArray⟩:ByteArray).size=tx.length:=by show tx.toArray.size=_;simp
   rw[htt] at hps hpl
   have hST:=fun (y:List Bool) (hy:St.blank1 (kd,tx,id)=y) (v':Value) (w4:World) (h1:w4.ownsRow w.heap.size 4 1 v' (t++y).length (bCells (t++y))) (h2:Und w w4)=>(show BlRel w f n v' (.int .i64 ((k:Int)+1)) w4 from
    ⟨k+1,t++y,by omega,by rw[hps,hy],congrArg (Value.int .i64) (by omega),h1,h2⟩)
   have HST:=hid hST;have htl:t.length<=200000:=by omega
   have hxl2:tx.length<=100000:=by omega
   clear hc hps hST ho hu htt hpl htk hxl
   by_cases h1:kd=1
   ·subst h1
    have HW:=hid (HST.out (tx.map (fun c=>decide (St.clsB c=2))) (by simp[St.blank1]));clear HST;go_wp2_with fail;obtain⟨eb,heb⟩:∃ eb,wr.heap.size=eb:=⟨_,rfl⟩
    have hin:BlIn w t tx id eb (.slice AB t.length cB) (.int .i64 (0:Nat)) (wr.alloc (.cells #[.int .i64 1,.string ⟨tx.toArray⟩,.int .i64 id] 66)):=
     ⟨0,t,by omega,by simp,rfl,own_und (by apply_rules[uUe,uUa,uUb,uUc,uUd]) HO.out,by rw[<- heb];exact heap_alloc_new _ _,HU.out.alloc _⟩
    have HIN:=hid hin;clear hin;simp only[heb];generalize wr.alloc (.cells #[.int .i64 1,.string ⟨tx.toArray⟩,.int .i64 id] 66)=W1 at HIN ⊢;clear heb HU HO c0 c1 c2;go_loopw [3,6] (fun s3 s6 wr=>BlIn w t tx id eb s3 s6 wr) (fun _ s6 _=>tx.length+1-(intOf s6).toNat)
    case atStart=>exact HIN.out
    case round=>
     clear HIN;obtain⟨j,y,hj,hy,rfl,ho,he1,hu⟩:=hrel;have HU:=hid hu;obtain⟨AB2,cB2,rfl,_⟩:=own_slice ho;have HO:=hid ho;have HE1:=hid he1;have HY:=hid hy;have hyl:y.length<=300000:=by rw[hy];simp;omega
     haveI:LtW eb wr:=LtW.of (lt_of_heap he1);have hc1:wr.cell? ⟨eb,1,none⟩=some (.string ⟨tx.toArray⟩):=zcH he1 1
     by_cases hlj:j<tx.length
     ·have y1:(j:Int)<(tx.length:Int):=by omega
      have hjx:j<(⟨tx.toArray⟩:ByteArray).size:=by omega
      have hbx:(⟨tx.toArray⟩:ByteArray)[j]=tx[j]:=by show tx.toArray[j]=_;simp
      have hof:=fun W=>of_any tx[j] W
      have hstep:tx.take (j+1)=tx.take j++[tx[j]]:=by rw[List.take_add_one,List.getElem?_eq_getElem hlj];rfl
      have HM:=hid (fun v' w4 (g1:w4.ownsRow w.heap.size 4 1 v' (y.length+1) (bCells y++[.bool (decide (St.clsB tx[j]=2))])) (g2:Und w w4) (g3:w4.heap[eb]?=some (.cells #[.int .i64 1,.string ⟨tx.toArray⟩,.int .i64 id] 66 (0,0)))=>(show BlIn w t tx id eb v' (.int .i64 ((j:Int)+1)) w4 from
       ⟨j+1,y++[decide (St.clsB tx[j]=2)],by omega,by rw[hstep,hy,List.map_append,List.append_assoc];rfl,congrArg (Value.int .i64) (by omega),by rw[bCells_snoc] at g1;simpa using g1,g3,g2⟩))
      obtain⟨q,hq⟩:∃ q,St.clsB tx[j]=q:=⟨_,rfl⟩;rw[hq] at hof HM;have HOF:=hid hof;clear hof hstep hy ho hu he1;have hqd:decide (q=2)=(q==2):=by by_cases h:q=2 <;> simp[h]
      rw[hqd] at HM;clear hqd hq;go_wp2_with fail;refine(HOF.out _).mono ?_;rintro e w' ⟨rfl,X,rfl⟩;go_wp2_with (at_builtin;(with_reducible (refine wpList_append_own _ rfl _ _ 116 rfl w.heap.size 4 ib (.bool false) 1 1 Tryz.underlying116 kb kz0 kz1 kz2 rfl (by decide) (.slice AB2 y.length cB2) y.length (bCells y) ?_ (own_und (by apply_rules[uUe,uUa,uUb,uUc,uUd]) HO.out) ?_ 1 1 [.bool (q==2)] ?_ ?_ ?_ ?_ ?_ ?_ ?_ ?_));all_goals (first|rfl|(unfold maxLen;omega)|omega|skip))
      ·intro i u hx
       have hh:=heap_alloc_new (under wr X) (.cells #[.bool (q==2)] 4 (0,0));rw[Addr.add_mid,Nat.zero_add];rw[show (under wr X).heap.size=_ from rfl] at hh;rw[zcH hh i];simpa using hx
      ·intro u hu
       rw[List.mem_singleton.1 hu];rfl
      ·have h9:=Und.size (HU.out.trans (show Und wr (under wr X) from(by apply_rules[uUe,uUa,uUb,uUc,uUd])));simp;omega
      intro v' w4 hown hgrow _;have hu4:=(HU.out.trans (show Und wr _ from(by apply_rules[uUe,uUa,uUb,uUc,uUd]))).grown hgrow (fun g hg=>owns_block HO.out g hg);have HE:=hid (HM.out v' w4 hown hu4 (blk_kept (show Und wr _ from(by apply_rules[uUe,uUa,uUb,uUc,uUd])) hgrow HO.out HE1.out (by decide)));clear hown hgrow hu4;go_wp2;exact⟨HE.out,by simp[intOf] <;> omega⟩
     ·have hjn:j=tx.length:=by omega
      subst hjn;have HF:=hid (HW.out (.slice AB2 y.length cB2) wr (by rw[HY.out,List.take_length] at ho;rw[HY.out,List.take_length];exact ho) hu);clear ho hu hlj hy;go_wp2;exact⟨HF.out,by simp[intOf] <;> omega⟩
   ·have q1:(kd==1)=false:=by simpa using h1
    have HW:=hid (HST.out [false] (by simp[St.blank1,h1]));clear HST;go_wp2_with (at_builtin;(with_reducible (refine wpList_append_own _ rfl _ _ 116 rfl w.heap.size 4 ib (.bool false) 1 1 Tryz.underlying116 kb kz0 kz1 kz2 rfl (by decide) (.slice AB t.length cB) t.length (bCells t) ?_ (own_und (by apply_rules[uUe,uUa,uUb,uUc,uUd]) HO.out) ?_ 1 1 [.bool false] ?_ ?_ ?_ ?_ ?_ ?_ ?_ ?_));all_goals (first|rfl|(unfold maxLen;omega)|omega|skip))
    ·intro j u hx
     have hh:=heap_alloc_new (wr.alloc (.cells #[.int .i64 kd,.string ⟨tx.toArray⟩,.int .i64 id] 66)) (.cells #[.bool false] 4 (0,0));rw[World.size_alloc] at hh;rw[Addr.add_mid,Nat.zero_add,zcH hh j];simpa using hx
    ·intro u hu
     rw[List.mem_singleton.1 hu];rfl
    ·have:=HU.out.size;simp;omega
    intro v' w4 hown hgrow _;have hu4:=(HU.out.trans (by apply_rules[uUe,uUa,uUb,uUc,uUd])).grown hgrow (fun g hg=>owns_block HO.out g hg);have HE:=hid (HW.out v' w4 (by simpa [bCells] using hown) hu4);clear hown hgrow hu4;go_wp2;exact⟨HE.out,by simp[intOf] <;> omega⟩
  ·have hkn:k=n:=by omega
   subst hkn;have htt2:St.blankL f=t:=by rw[<- htt,List.take_of_length_le (by omega)]
   have HT2:=hid htt2;clear hlt ho hu htt htt2;go_wp2;go_ret;exact⟨_,rfl,by rw[HT2.out];exact HO.out,HU.out⟩
end Go.Proofs.YtcfhfdphoidaeaaGreatDoor
set_option linter.all false
namespace Go.Proofs.YtcfhfdphoidaeaaGreatDoor
open Go.RowKit
set_option maxRecDepth 20000
set_option maxHeartbeats 25600000
def inE(x:UInt8):Bool:=x==46 || x==33
def inB(x:UInt8):Bool:=x==32
def txK:List UInt8:=[83,97,118,101,46,32,82,101,100,32,99,97,114,33]
def txS:List UInt8:=[83,97,118,101,46,32,82,100,99,114,33]
theorem txK_in:∀ x ∈ txK,x ∈ txS:=by decide
theorem con_E:∀ x ∈ txS,∀ w:World,Calls Tryz.prog 171 #[.agg atE.toArray,.int .u8 (x.toNat:Int)] w fun e w'=>e=.returned (.bool (inE x))/\Und w w':=by
 intro x hx w;simp only[txS,List.mem_cons,List.not_mem_nil,or_false] at hx;unfold atE;rcases hx with rfl|rfl|rfl|rfl|rfl|rfl|rfl|rfl|rfl|rfl|rfl
 all_goals
  go_enter Tryz.func171,Tryz.ntmps171;go_wp2;go_ret;exact⟨rfl,(by apply_rules[uUe,uUa,uUb,uUc,uUd])⟩
theorem con_B:∀ x ∈ txS,∀ w:World,Calls Tryz.prog 171 #[.agg atB.toArray,.int .u8 (x.toNat:Int)] w fun e w'=>e=.returned (.bool (inB x))/\Und w w':=by
 intro x hx w;simp only[txS,List.mem_cons,List.not_mem_nil,or_false] at hx;unfold atB;rcases hx with rfl|rfl|rfl|rfl|rfl|rfl|rfl|rfl|rfl|rfl|rfl
 all_goals
  go_enter Tryz.func171,Tryz.ntmps171;go_wp2;go_ret;exact⟨rfl,(by apply_rules[uUe,uUa,uUb,uUc,uUd])⟩
end Go.Proofs.YtcfhfdphoidaeaaGreatDoor
set_option linter.all false
namespace Go.Proofs.YtcfhfdphoidaeaaGreatDoor
open Go.RowKit
set_option maxRecDepth 100000
namespace St
def kF:List It:=[(1,[83,97,118,101,46,32],0),(2,[98],1),(1,[82,101,100],0),(3,[98],1),(1,[32,99,97,114,33],0)]
def kG1:List It:=[(1,[83,97,118,101,46],0)]
def kG2:List It:=[(1,[32],0),(2,[98],1),(1,[82,101,100],0),(3,[98],1),(1,[32,99,97,114,33],0)]
theorem kF_lenL:lenL kF=16:=by kernel_rfl
theorem kF_norm:normL kF=kF:=by kernel_rfl
theorem kF_plain:plainL kF=txK:=by kernel_rfl
theorem kF_s1:sliceL 0 5 0 kF=kG1:=by kernel_rfl
theorem kF_s2:sliceL 5 16 0 kF=kG2:=by kernel_rfl
theorem kG1_plain:plainL kG1=[83,97,118,101,46]:=by kernel_rfl
theorem kG2_plain:plainL kG2=[32,82,101,100,32,99,97,114,33]:=by kernel_rfl
theorem kF_blank:blankL kF=[false,false,false,false,false,true,false,false,false,false,false,true,false,false,false,false]:=by kernel_rfl
end St
def txB:ByteArray:=⟨txK.toArray⟩
theorem txB_size:txB.size=14:=rfl
theorem txB_hk:∀ i,1<=i->i<txB.size->(endB txB inE i && endB (revS txB) inB (txB.size-i))=decide (i=5):=by
 intro i h1 h2;have h:((List.range 14).all fun i=>decide (i=0) || ((endB txB inE i && endB (revS txB) inB (14-i))==decide (i=5)))=true:=by kernel_rfl
 have h3:=List.all_eq_true.1 h i (List.mem_range.2 h2);rw[txB_size];have h4:¬ i=0:=by omega
 simpa [h4] using h3
theorem breaksK_any(R P Q:Nat)(w:World)(hR:RuleAt w R P Q):Calls Tryz.prog 52 #[.slice (some ⟨R,0,none⟩) 1 1,.string txB] w fun e w'=>∃ v,e=.returned v/\w'.ownsRow w.heap.size 3 1 v 1 [.int .i64 ((5:Nat):Int)]/\Und w w':=
 breaks_any R P Q 5 txB inE inB w hR (by decide) (by decide) (fun x hx=>con_E x (txK_in x hx)) (fun x hx=>con_B x (txK_in x hx)) ⟨by decide,by decide⟩ txB_hk
theorem placeK_any(A:Option Addr)(c:Nat)(w:World)(h:ItemsAt w A St.kF):Calls Tryz.prog 54 #[.slice A 5 c,.int .i64 ((5:Nat):Int)] w fun e w'=>e=.returned (.int .i64 ((5:Nat):Int))/\Und w w':=
 splace_any A 5 c 5 [83,97,118,101,46,32] 0 _ w rfl h (by omega) (by decide) St.kF_norm (by omega) (by decide)
theorem plainK_any(A:Option Addr)(c:Nat)(w:World)(h:ItemsAt w A St.kF):Calls Tryz.prog 53 #[.slice A 5 c] w fun e w'=>e=.returned (.string txB)/\Und w w':=by
 have:=iplain_any A 5 c _ w rfl h (by omega) (by decide)
 rw[St.kF_plain] at this;exact this
theorem trim1_any(w:World):Calls Tryz.prog 58 #[.string ⟨#[83,97,118,101,46]⟩] w fun e w'=>e=.returned (.tuple #[.int .i64 ((0:Nat):Int),.int .i64 ((5:Nat):Int)])/\Und w w':=
 trim_any ⟨#[83,97,118,101,46]⟩ 0 5 w (by decide) (by omega) (by decide) (fun j h hj=>by omega) (fun _=>(by decide:St.clsB 83 ≠ 2)) (fun j h hj=>absurd h (by show ¬ j<5;omega)) (fun _=>(by decide:St.clsB 46 ≠ 2))
theorem trim2_any(w:World):Calls Tryz.prog 58 #[.string ⟨#[32,82,101,100,32,99,97,114,33]⟩] w fun e w'=>e=.returned (.tuple #[.int .i64 ((1:Nat):Int),.int .i64 ((9:Nat):Int)])/\Und w w':=
 trim_any ⟨#[32,82,101,100,32,99,97,114,33]⟩ 1 9 w (by decide) (by omega) (by decide) (fun j h hj=>by
  have e:j=0:=by omega
  subst e
  exact(by decide:St.clsB 32=2)) (fun _=>(by decide:St.clsB 82 ≠ 2)) (fun j h hj=>absurd h (by show ¬ j<9;omega)) (fun _=>(by decide:St.clsB 33 ≠ 2))
end Go.Proofs.YtcfhfdphoidaeaaGreatDoor
