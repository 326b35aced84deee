/- The contracts of the document's laws' light, and of Units of the program and of the. -/
import Derived.Test.YthoemdibbldndaaGreatDoorDocRV
set_option linter.unusedVariables false
set_option linter.unusedSimpArgs false
set_option maxHeartbeats 12800000
set_option maxRecDepth 20000
namespace Go.Proofs.YthoemdibbldndaaGreatDoor
open Go.RowKit
def lightN(ps:List St.Pt):Nat:=(ps.map fun p=>10+p.2.1.length+p.2.2.length).sum
theorem light_take(ps:List St.Pt)(k:Nat)(h:k<ps.length):lightN (ps.take (k+1))=lightN (ps.take k)+(10+ps[k].2.1.length+ps[k].2.2.length):=by
 unfold lightN;rw[List.take_add_one,List.getElem?_eq_getElem h,List.map_append,List.sum_append];simp
theorem light_le(ps:List St.Pt)(k:Nat):lightN (ps.take k)<=lightN ps:=by
 have e:lightN ps=lightN (ps.take k)+lightN (ps.drop k):=by
  conv=>lhs;rw[<- List.take_append_drop k ps]
  unfold lightN;rw[List.map_append,List.sum_append]
 omega
def LiRel(W1:World)(ps:List St.Pt)(n:Nat)(s3 s8:Value)(wr:World):Prop:=∃ k:Nat,k<=n/\s8=.int .i64 k/\s3=.int .i64 (lightN (ps.take k):Nat)/\Und W1 wr
theorem light_any(fmt:Int)(A:Option Addr)(n c:Nat)(ps:List St.Pt)(w:World)(hn:ps.length=n)(h:PartsAt w A ps)(hl:n<=9223372036854775807)(hs:lightN ps<=4611686018427387904) :
  Calls Tryz.prog 24 #[.agg #[.int .i64 fmt,.slice A n c]] w fun e w'=>e=.returned (.bool (decide (lightN ps<=1000)))/\Und w w':=by
 have H:=hid h;have HN:=hid hn;have HS:=hid hs;have hb0:=heap_alloc_new w (.cells #[.int .i64 fmt,.slice A n c] 25);clear h hn hs;go_enter Tryz.func24,Tryz.ntmps24;go_wp2_with fail;go_loopw [3,8] (fun s3 s8 wr=>LiRel (w.alloc (.cells #[.int .i64 fmt,.slice A n c] 25)) ps n s3 s8 wr) (fun _ s8 _=>n+1-(intOf s8).toNat)
 case atStart=>exact⟨0,by omega,rfl,by simp[lightN],Und.refl _⟩
 case round=>
  obtain⟨k,hk,rfl,rfl,hu⟩:=hrel;have hN:=HN.out;have hS:=HS.out;have hb1:=(hu.below.block w.heap.size (by simp)).trans hb0;have d0:wr.cell? ⟨w.heap.size,0,none⟩=some (.int .i64 fmt):=zcH hb1 0;have d1:wr.cell? ⟨w.heap.size,1,none⟩=some (.slice A n c):=zcH hb1 1;haveI:LtW w.heap.size wr:=LtW.of (lt_of_heap hb1);have HU:=hid hu;have hle:=light_le ps k
  by_cases hlt:k<n
  ·have hlt2:k<ps.length:=by omega
   have htk:=light_take ps k hlt2;have hle2:=light_le ps (k+1);obtain⟨b,off,rfl,hb,hc⟩:=(H.out.und (Und.trans ((by apply_rules[uUe,uUa,uUb,uUc,uUd]):Und w (w.alloc (.cells #[.int .i64 fmt,.slice A n c] 25))) hu)) (by omega);obtain⟨c0,c1,c2⟩:=hc k hlt2;generalize ps[k]=x at c0 c1 c2 htk;obtain⟨xu,xk,xr⟩:=x;simp only at c0 c1 c2 htk;haveI:LtW b wr:=LtW.of hb;have z1:(k:Int)<(n:Int):=by omega
   have z0:(0:Int)<=(k:Int):=by omega
   have hk1:(⟨xk.toArray⟩:ByteArray).size=xk.length:=by show xk.toArray.size=_;simp
   have hr1:(⟨xr.toArray⟩:ByteArray).size=xr.length:=by show xr.toArray.size=_;simp
   have hx1:IntKind.i64.wrap (10+(xk.length:Int))=10+(xk.length:Int):=IntWalk.i64_in _ (by omega);have hx2:IntKind.i64.wrap (10+(xk.length:Int)+(xr.length:Int))=10+(xk.length:Int)+(xr.length:Int):=IntWalk.i64_in _ (by omega);have hx3:IntKind.i64.wrap ((lightN (ps.take k):Nat)+(10+(xk.length:Int)+(xr.length:Int)))=(lightN (ps.take k):Nat)+(10+(xk.length:Int)+(xr.length:Int)):=IntWalk.i64_in _ (by omega)
   have HE:=hid (fun (wz:World) (hz:Und wr wz)=>(show LiRel (w.alloc (.cells #[.int .i64 fmt,.slice (some ⟨b,off,none⟩) n c] 25)) ps n (.int .i64 ((lightN (ps.take k):Nat)+(10+(xk.length:Int)+(xr.length:Int)))) (.int .i64 ((k:Int)+1)) wz from
    ⟨k+1,by omega,congrArg (Value.int .i64) (by omega),congrArg (Value.int .i64) (by rw[htk];omega),HU.out.trans hz⟩))
   clear hc hlt2 htk hu hb1;go_wp2_with fail
   first|refine wp_region_under2 (by kernel_rfl) (by kernel_rfl) ?_|refine wp_region_under (by kernel_rfl) (by kernel_rfl) ?_
   repeat (go_big_quiet_step (first|(fail)))
   refine wpQuiet_nil ?_;rintro _ ⟨X,rfl⟩;go_wp2;exact⟨HE.out _ (by apply_rules[uUe,uUa,uUb,uUc,uUd]),by simp[intOf];omega⟩
  ·obtain rfl:k=n:=by omega
   have z1:¬ (k:Int)<(k:Int):=by omega
   have hft:ps.take k=ps:=List.take_of_length_le (by omega);rw[hft];obtain⟨b,hb⟩:∃ b,b=decide (lightN ps<=1000):=⟨_,rfl⟩;have hb2:decide ((lightN ps:Int)<=1000)=b:=by rw[hb];congr 1;simp only[eq_iff_iff];omega
   clear hlt hft hu hb1;go_wp2;go_ret;rw[<- hb];exact⟨by first|rfl|(rw[hb2]),Und.trans (by apply_rules[uUe,uUa,uUb,uUc,uUd]) HU.out⟩
def unitsL(ps:List St.Pt):List Nat:=(List.range ps.length).filter fun i=>(ps[i]?.map (·.1)).getD false
def unitsT(ps:List St.Pt)(k:Nat):List Nat:=(List.range k).filter fun i=>(ps[i]?.map (·.1)).getD false
theorem units_succ(ps:List St.Pt)(k:Nat)(h:k<ps.length):unitsT ps (k+1)=unitsT ps k++(if ps[k].1=true then [k] else []):=by
 unfold unitsT;rw[List.range_succ,List.filter_append];congr 1;simp only[List.filter_cons,List.filter_nil,List.getElem?_eq_getElem h,Option.map_some,Option.getD_some]
theorem units_len(ps:List St.Pt)(k:Nat):(unitsT ps k).length<=k:=by
 unfold unitsT;exact Nat.le_trans (List.length_filter_le _ _) (by simp)
def UnEnd(ps:List St.Pt)(w:World)(e:Ending)(w':World):Prop:=∃ A c,e=.returned (.slice A (unitsL ps).length c)/\NatsAt w' A (unitsL ps)/\(unitsL ps).length<=c/\c<=9223372036854775807/\Und w w'
def UnRel(w W1:World)(ps:List St.Pt)(n:Nat)(s3 s:Value)(wr:World):Prop:=∃ k:Nat,k<=n/\s=.int .i64 k/\wr.ownsRow (w.heap.size+1) 3 1 s3 (unitsT ps k).length (cellsN (unitsT ps k))/\Und W1 wr
theorem runits_any(fmt:Int)(A:Option Addr)(n c:Nat)(ps:List St.Pt)(w:World)(hn:ps.length=n)(h:PartsAt w A ps)(hl:n<=4000000000000) :
  Calls Tryz.prog 38 #[.agg #[.int .i64 fmt,.slice A n c]] w (UnEnd ps w):=by
 have H:=hid h;have HN:=hid hn;obtain⟨i0,hi,hz0,hz1,hz2⟩:=info_parts info_int;have hb0:=heap_alloc_new w (.cells #[.int .i64 fmt,.slice A n c] 25);clear h hn;go_enter Tryz.func38,Tryz.ntmps38;go_wp2_with fail;go_loopw [3,8] (fun s3 s wr=>UnRel w (w.alloc (.cells #[.int .i64 fmt,.slice A n c] 25)) ps n s3 s wr) (fun _ s _=>n+1-(intOf s).toNat)
 case atStart=>exact⟨0,by omega,rfl,World.ownsRow_nil _ _ _ _,Und.refl _⟩
 case round=>
  obtain⟨k,hk,rfl,hown,hu⟩:=hrel;have hN:=HN.out;have hb1:=(hu.below.block w.heap.size (by simp)).trans hb0;have d0:wr.cell? ⟨w.heap.size,0,none⟩=some (.int .i64 fmt):=zcH hb1 0;have d1:wr.cell? ⟨w.heap.size,1,none⟩=some (.slice A n c):=zcH hb1 1;haveI:LtW w.heap.size wr:=LtW.of (lt_of_heap hb1);have HU:=hid hu;have HO:=hid hown;have HUW:=hid (Und.trans ((by apply_rules[uUe,uUa,uUb,uUc,uUd]):Und w (w.alloc (.cells #[.int .i64 fmt,.slice A n c] 25))) hu);have hsz:=HUW.out.size;have hul:=units_len ps k;obtain⟨Ao,co,rfl,hco1,hco2⟩:=own_slice hown
  by_cases hlt:k<n
  ·have hlt2:k<ps.length:=by omega
   have huc:=units_succ ps k hlt2;obtain⟨b,off,rfl,hb,hc⟩:=(H.out.und HUW.out) (by omega);obtain⟨c0,c1,c2⟩:=hc k hlt2;generalize ps[k]=x at c0 c1 c2 huc;obtain⟨xu,xk,xr⟩:=x;simp only at c0 c1 c2 huc;haveI:LtW b wr:=LtW.of hb;have z1:(k:Int)<(n:Int):=by omega
   have z0:(0:Int)<=(k:Int):=by omega
   have HUC:=hid huc;generalize hum:unitsT ps k=us at *;have HUM:=hid hum;clear hc hlt2 hu hb1 hown huc hum;cases xu
   ·have HE:=hid (fun (wz:World) (hz:Und wr wz)=>(show UnRel w (w.alloc (.cells #[.int .i64 fmt,.slice (some ⟨b,off,none⟩) n c] 25)) ps n (.slice Ao us.length co) (.int .i64 ((k:Int)+1)) wz from
     ⟨k+1,by omega,congrArg (Value.int .i64) (by omega),by rw[HUC.out,if_neg (by simp),List.append_nil];exact own_und hz HO.out,HU.out.trans hz⟩))
    go_wp2;exact⟨HE.out _ (by apply_rules[uUe,uUa,uUb,uUc,uUd]),by simp[intOf];omega⟩
   ·go_wp2_with (at_builtin;refine wpList_append_own _ rfl _ _ 42 rfl (w.heap.size+1) 3 i0 (.int .i64 0) 1 8 Tryz.underlying42 hi hz0 hz1 hz2 rfl (by decide) (.slice Ao us.length co) us.length _ rfl (HO.out.alloc _) _ 1 1 [.int .i64 (k:Int)] rfl rfl ?_ ?_ (by unfold maxLen;omega) (by omega) ?_ ?_)
    all_goals first|rfl|(have:=HU.out.size;simp at this ⊢;omega)|skip
    ·intro v' w4 hown' hgrow _
     have hu4:=(HU.out.alloc _).grown hgrow (fun g hg=>by have:=owns_block HO.out g hg;simpa using this)
     have HE:=hid (show UnRel w (w.alloc (.cells #[.int .i64 fmt,.slice (some ⟨b,off,none⟩) n c] 25)) ps n v' (.int .i64 ((k:Int)+1)) w4 from
      ⟨k+1,by omega,congrArg (Value.int .i64) (by omega),by rw[HUC.out,if_pos trivial,cellsN_snoc,List.length_append];exact hown',hu4⟩)
     obtain⟨A',c',rfl,_⟩:=own_slice hown';clear hown' hgrow hu4;go_wp2;exact⟨HE.out,by simp[intOf];omega⟩
  ·obtain rfl:k=n:=by omega
   have z1:¬ (k:Int)<(k:Int):=by omega
   have hun:unitsT ps k=unitsL ps:=by unfold unitsL unitsT;rw[hN]
   have HE:=hid (show UnEnd ps w (.returned (.slice Ao (unitsL ps).length co)) wr from⟨Ao,co,rfl,by rw[<- hun];exact nats_own hown rfl,by rw[<- hun];exact hco1,by unfold maxLen at hco2;omega,HUW.out⟩);have hll:(unitsT ps k).length=(unitsL ps).length:=by rw[hun]
   rw[hll];clear hlt hu hb1 hown;go_wp2;go_ret;exact HE.out
end Go.Proofs.YthoemdibbldndaaGreatDoor
