/- The contracts of slices.Sort, BinarySearch, SortFunc, BinarySearchFunc and Clip at no. -/
import Derived.LoopN
import Derived.Test.YtcfhfdphoidaeaaGreatDoorFnE
set_option linter.unusedVariables false
set_option linter.unusedSimpArgs false
set_option maxHeartbeats 12800000
set_option maxRecDepth 20000
set_option linter.all false
namespace Go.Proofs.YtcfhfdphoidaeaaGreatDoor
open Go.RowKit
set_option maxRecDepth 20000
set_option maxHeartbeats 6400000
theorem lenN_any(n:Nat)(w:World)(h:n<=1):Calls Tryz.prog 95 #[.int .u64 (n:Int)] w fun e w'=>∃ r,e=.returned r/\w'=w:=by
 have h2:n=0∨n=1:=by omega
 rcases h2 with rfl|rfl
 all_goals
  go_enter Tryz.func95,Tryz.ntmps95;go_wp2;go_ret;exact⟨_,rfl,rfl⟩
theorem oins0(v:Value)(w:World):Calls Tryz.prog 192 #[v,.int .i64 0,.int .i64 0] w fun e w'=>e=.returned (.tuple #[])/\w'=w:=by
 go_enter Tryz.func192,Tryz.ntmps192;go_wp2_with fail;refine wp_loop_rounds 1 ?_;rw[rounds_succ];go_wp2;go_end0;exact⟨rfl,rfl⟩
theorem opdq0(v r:Value)(w:World):Calls Tryz.prog 140 #[v,.int .i64 0,.int .i64 0,r] w fun e w'=>e=.returned (.tuple #[])/\w'=w:=by
 have H:=hid (fun W=>oins0 v W);go_enter Tryz.func140,Tryz.ntmps140;go_wp2_with fail;refine wp_loop_rounds 1 ?_;rw[rounds_succ];go_wp2_with (go_at_call 192;refine(H.out _).mono ?_;rintro e w' ⟨rfl,rfl⟩);refine bodyPost_ret (results_none rfl _ _ _) rfl ?_;exact⟨rfl,rfl⟩
theorem osort0(A:Option Addr)(c:Nat)(w:World):Calls Tryz.prog 89 #[.slice A 0 c] w fun e w'=>e=.returned (.tuple #[])/\w'=w:=by
 have H:=hid (fun r W=>opdq0 (.slice A 0 c) r W);go_enter Tryz.func89,Tryz.ntmps89;go_wp2_with fail;refine(lenN_any 0 _ (by omega)).mono ?_;rintro e w' ⟨r,rfl,rfl⟩;go_wp2_with (go_at_call 140;refine(H.out _ _).mono ?_;rintro e w' ⟨rfl,rfl⟩);go_end0;exact⟨rfl,rfl⟩
theorem oins1(v:Value)(w:World):Calls Tryz.prog 192 #[v,.int .i64 0,.int .i64 1] w fun e w'=>e=.returned (.tuple #[])/\w'=w:=by
 go_enter Tryz.func192,Tryz.ntmps192;go_wp2_with fail;refine wp_loop_rounds 1 ?_;rw[rounds_succ];go_wp2;go_end0;exact⟨rfl,rfl⟩
theorem opdq1(v r:Value)(w:World):Calls Tryz.prog 140 #[v,.int .i64 0,.int .i64 1,r] w fun e w'=>e=.returned (.tuple #[])/\w'=w:=by
 have H:=hid (fun W=>oins1 v W);go_enter Tryz.func140,Tryz.ntmps140;go_wp2_with fail;refine wp_loop_rounds 1 ?_;rw[rounds_succ];go_wp2_with (go_at_call 192;refine(H.out _).mono ?_;rintro e w' ⟨rfl,rfl⟩);refine bodyPost_ret (results_none rfl _ _ _) rfl ?_;exact⟨rfl,rfl⟩
theorem osort1(A:Option Addr)(c:Nat)(w:World):Calls Tryz.prog 89 #[.slice A 1 c] w fun e w'=>e=.returned (.tuple #[])/\w'=w:=by
 have H:=hid (fun r W=>opdq1 (.slice A 1 c) r W);go_enter Tryz.func89,Tryz.ntmps89;go_wp2_with fail;refine(lenN_any 1 _ (by omega)).mono ?_;rintro e w' ⟨r,rfl,rfl⟩;go_wp2_with (go_at_call 140;refine(H.out _ _).mono ?_;rintro e w' ⟨rfl,rfl⟩);go_end0;exact⟨rfl,rfl⟩
theorem fins0(v:Value)(fv:Value)(w:World):Calls Tryz.prog 142 #[v,.int .i64 0,.int .i64 0,fv] w fun e w'=>e=.returned (.tuple #[])/\w'=w:=by
 go_enter Tryz.func142,Tryz.ntmps142;go_wp2_with fail;refine wp_loop_rounds 1 ?_;rw[rounds_succ];go_wp2;go_end0;exact⟨rfl,rfl⟩
theorem fpdq0(v r:Value)(fv:Value)(w:World):Calls Tryz.prog 94 #[v,.int .i64 0,.int .i64 0,r,fv] w fun e w'=>e=.returned (.tuple #[])/\w'=w:=by
 have H:=hid (fun W=>fins0 v fv W);go_enter Tryz.func94,Tryz.ntmps94;go_wp2_with fail;refine wp_loop_rounds 1 ?_;rw[rounds_succ];go_wp2_with (go_at_call 142;refine(H.out _).mono ?_;rintro e w' ⟨rfl,rfl⟩);refine bodyPost_ret (results_none rfl _ _ _) rfl ?_;exact⟨rfl,rfl⟩
theorem fsort0(A:Option Addr)(c:Nat)(fv:Value)(w:World):Calls Tryz.prog 40 #[.slice A 0 c,fv] w fun e w'=>e=.returned (.tuple #[])/\w'=w:=by
 have H:=hid (fun r W=>fpdq0 (.slice A 0 c) r fv W);go_enter Tryz.func40,Tryz.ntmps40;go_wp2_with fail;refine(lenN_any 0 _ (by omega)).mono ?_;rintro e w' ⟨r,rfl,rfl⟩;go_wp2_with (go_at_call 94;refine(H.out _ _).mono ?_;rintro e w' ⟨rfl,rfl⟩);go_end0;exact⟨rfl,rfl⟩
theorem fins1(v:Value)(fv:Value)(w:World):Calls Tryz.prog 142 #[v,.int .i64 0,.int .i64 1,fv] w fun e w'=>e=.returned (.tuple #[])/\w'=w:=by
 go_enter Tryz.func142,Tryz.ntmps142;go_wp2_with fail;refine wp_loop_rounds 1 ?_;rw[rounds_succ];go_wp2;go_end0;exact⟨rfl,rfl⟩
theorem fpdq1(v r:Value)(fv:Value)(w:World):Calls Tryz.prog 94 #[v,.int .i64 0,.int .i64 1,r,fv] w fun e w'=>e=.returned (.tuple #[])/\w'=w:=by
 have H:=hid (fun W=>fins1 v fv W);go_enter Tryz.func94,Tryz.ntmps94;go_wp2_with fail;refine wp_loop_rounds 1 ?_;rw[rounds_succ];go_wp2_with (go_at_call 142;refine(H.out _).mono ?_;rintro e w' ⟨rfl,rfl⟩);refine bodyPost_ret (results_none rfl _ _ _) rfl ?_;exact⟨rfl,rfl⟩
theorem fsort1(A:Option Addr)(c:Nat)(fv:Value)(w:World):Calls Tryz.prog 40 #[.slice A 1 c,fv] w fun e w'=>e=.returned (.tuple #[])/\w'=w:=by
 have H:=hid (fun r W=>fpdq1 (.slice A 1 c) r fv W);go_enter Tryz.func40,Tryz.ntmps40;go_wp2_with fail;refine(lenN_any 1 _ (by omega)).mono ?_;rintro e w' ⟨r,rfl,rfl⟩;go_wp2_with (go_at_call 94;refine(H.out _ _).mono ?_;rintro e w' ⟨rfl,rfl⟩);go_end0;exact⟨rfl,rfl⟩
theorem clip_any(A:Option Addr)(n c:Nat)(w:World)(h:n<=c)(h2:c<=9223372036854775807):Calls Tryz.prog 44 #[.slice A n c] w fun e w'=>e=.returned (.slice A n n)/\w'=w:=by
 go_enter Tryz.func44,Tryz.ntmps44;go_wp2;go_ret;exact⟨rfl,rfl⟩
theorem bsf0_any(s fv:Value)(c:Nat)(w:World):Calls Tryz.prog 78 #[.slice none 0 0,s,fv] w fun e w'=>e=.returned (.tuple #[.int .i64 0,.bool false])/\w'=w:=by
 go_enter Tryz.func78,Tryz.ntmps78;go_wp2_with fail;refine wp_loop_rounds 1 ?_;rw[rounds_succ];go_wp2;go_ret2;exact⟨rfl,rfl⟩
theorem bs0_any(w:World):Calls Tryz.prog 38 #[.slice none 0 0,.int .i64 0] w fun e w'=>e=.returned (.tuple #[.int .i64 0,.bool false])/\w'=w:=by
 go_enter Tryz.func38,Tryz.ntmps38;go_wp2_with fail;refine wp_loop_rounds 1 ?_;rw[rounds_succ];go_wp2;go_ret2;exact⟨rfl,rfl⟩
theorem nan_int(x:Int)(w:World):Calls Tryz.prog 96 #[.int .i64 x] w fun e w'=>e=.returned (.bool false)/\w'=w:=by
 go_enter Tryz.func96,Tryz.ntmps96;go_wp2;go_ret;exact⟨rfl,rfl⟩
theorem less00_any(w:World):Calls Tryz.prog 90 #[.int .i64 0,.int .i64 0] w fun e w'=>e=.returned (.bool false)/\w'=w:=by
 have HN:=hid nan_int;go_enter Tryz.func90,Tryz.ntmps90;go_wp2_with (go_at_call 96;refine(HN.out _ _).mono ?_;rintro e w' ⟨rfl,rfl⟩);go_ret;exact⟨rfl,rfl⟩
theorem bs1_any(b c:Nat)(w:World)(h:w.cell? ⟨b,0,none⟩=some (.int .i64 0)):Calls Tryz.prog 38 #[.slice (some ⟨b,0,none⟩) 1 c,.int .i64 0] w fun e w'=>e=.returned (.tuple #[.int .i64 0,.bool true])/\w'=w:=by
 have HL:=hid less00_any;haveI:LtW b w:=LtW.of (zbL w _ h);go_enter Tryz.func38,Tryz.ntmps38;go_wp2_with fail;refine wp_loop_rounds 2 ?_;rw[rounds_succ];go_wp2_with (go_at_call 90;refine(HL.out _).mono ?_;rintro e w' ⟨rfl,rfl⟩);rw[rounds_succ];go_wp2;go_ret2;exact⟨rfl,rfl⟩
end Go.Proofs.YtcfhfdphoidaeaaGreatDoor
set_option linter.all false
namespace Go.Proofs.YtcfhfdphoidaeaaGreatDoor
open Go.RowKit
theorem info_int9:(Tryz.prog.info? 3).map (fun i=>(i.zero,i.size,i.bytes))=some (some (.int .i64 0),1,8):=by kernel_rfl
theorem perm_one{α:Type}{a b:α}{l:List α}(h:[a].Perm (b :: l)):a=b/\l=[]:=by
 have h1:=h.length_eq;simp at h1;subst h1;exact⟨by simpa using h,rfl⟩
namespace Mg
variable {κ:Type} {kv:κ->Value} {kt:TypeId}
theorem wp_next1{w:World}{ops:Array Oper}{rst:List Oper}{o:Oper}{a:Act}{Q:Exit->Act->World->Prop}(hg:o.guard=none)(it:Operand)(hop:o.op=Op.next it false)(r mb:Nat){l:List (κ × Value)}{k:κ}{v:Value}
  (hit:a.eval it=.pointer (some ⟨r,0,none⟩)) (h:Rng kv w r mb l [(k,v)])
  (hMore:∀ w',Rng kv w' r mb l []->w.grownBy w' (some r)->w'.heap.size=w.heap.size->(Instr.entry (.pointer (some ⟨r,0,none⟩))).run Tryz.prog w'=.ok (.tuple #[kv k,v]) w' ->
   wpList Tryz.prog ops Q rst (a.put o.dst (.tuple #[.bool true,kv k,v])) w'):wpList Tryz.prog ops Q (o :: rst) a w:=
 wp_next hg it hop r mb hit h (fun h0=>by cases h0) fun k' v' rest' w' hp _ hr hgb hs hen=>by
  obtain⟨e,rfl⟩:=perm_one hp;cases e;exact hMore w' hr hgb hs hen
theorem wp_next0{w:World}{ops:Array Oper}{rst:List Oper}{o:Oper}{a:Act}{Q:Exit->Act->World->Prop}(hg:o.guard=none)(it:Operand)(hop:o.op=Op.next it false)(r mb:Nat){l:List (κ × Value)}
  (hit:a.eval it=.pointer (some ⟨r,0,none⟩)) (h:Rng kv w r mb l [])
  (hDone:wpList Tryz.prog ops Q rst (a.put o.dst (.tuple #[.bool false])) w):wpList Tryz.prog ops Q (o :: rst) a w:=
 wp_next hg it hop r mb hit h (fun _=>hDone) fun k' v' rest' w' hp _ hr hgb hs hen=>absurd hp.length_eq (by simp)
end Mg
def CdEnd(cand:Bool)(w:World)(e:Ending)(w':World):Prop:=
 Und w w'/\((cand=false/\e=.returned (.slice none 0 0))∨(cand=true/\∃ b c,e=.returned (.slice (some ⟨b,0,none⟩) 1 c)/\w'.cell? ⟨b,0,none⟩=some (.int .i64 0)))
theorem cands_any(ib m0 m1 m2 B:Nat)(la lb:List St.It)(A:Option Addr)(n c:Nat)(w:World)(hx:IxOne w B ib m0 m1 m2 la)(hn:lb.length=n)(hA:ItemsAt w A lb)(hl:n<=1000000)(ht:tot lb<=1000000000)(hla:la.length<=1000000) :
  Calls Tryz.prog 37 #[.pointer (some ⟨ib,0,none⟩),.slice A n c,.int .i64 1] w (CdEnd (St.candL la lb) w):=by
 obtain⟨i9,hi9,hz0,hz1,hz2⟩:=info_parts info_int9;have HX:=hid hx;obtain⟨⟨hib,_,_,_⟩,⟨A0,n0,c0,cm0,hm0⟩,_,_⟩:=hx;have HIB:=hid hib;have HM0:=hid hm0;have HSUR:=hid (fun W (u:Und w W)=>survey_any A n c lb W hn (hA.und u) hl ht);have HSH:=hid (fun (W:World) (b0:Nat) (v:Value) (hx:IxOne W B ib m0 m1 m2 la) (hv:SvAt W b0 lb v)=>shared_any ib m0 m1 m2 B b0 la lb v W hx hv (by omega) ht hla);obtain⟨pa,hpa⟩:∃ x,(St.wordN la).length+1=x:=⟨_,rfl⟩;obtain⟨wa,hwa⟩:∃ x,St.nontagW (St.clsL la)=x:=⟨_,rfl⟩;obtain⟨tga,htga⟩:∃ x,St.tagN (St.clsL la)=x:=⟨_,rfl⟩;obtain⟨tota,htota⟩:∃ x,St.totalT la=x:=⟨_,rfl⟩;obtain⟨pb,hpb⟩:∃ x,(St.wordN lb).length+1=x:=⟨_,rfl⟩;obtain⟨wb,hwb⟩:∃ x,St.nontagW (St.clsL lb)=x:=⟨_,rfl⟩;obtain⟨tgb,htgb⟩:∃ x,St.tagN (St.clsL lb)=x:=⟨_,rfl⟩;obtain⟨totb,htotb⟩:∃ x,St.totalT lb=x:=⟨_,rfl⟩;obtain⟨cp,hcp⟩:∃ x,St.cmP la lb=x:=⟨_,rfl⟩;obtain⟨cw,hcw⟩:∃ x,St.cmW la lb=x:=⟨_,rfl⟩;obtain⟨ct,hct⟩:∃ x,St.cmT la lb=x:=⟨_,rfl⟩;obtain⟨bd,hbd⟩:∃ x,St.bndL la lb=x:=⟨_,rfl⟩;obtain⟨mx,hmx⟩:∃ x,max totb tota=x:=⟨_,rfl⟩;obtain⟨al,hal⟩:∃ x,St.allowN mx=x:=⟨_,rfl⟩;obtain⟨cand,hcand⟩:∃ x,St.candL la lb=x:=⟨_,rfl⟩;have k1:=St.cmP_le la lb;have k2:=St.cmW_le la lb;have k3:=St.cmT_le la lb;have k4:=St.cmT_le2 la lb;have ca:=St.cls_len la;have cb:=St.cls_len lb;have wla:=wordN_len la;have wlb:=wordN_len lb;have na:=St.nontag_le (St.clsL la);have nb:=St.nontag_le (St.clsL lb);have ta:=St.tagN_le (St.clsL la);have tb0:=St.tagN_le (St.clsL lb);have tta:=total_le la;have ttb:=total_le lb;have HBD:=hid (fun W=>bound_any pb wb tgb pa wa tga cp cw ct W (by omega) (by omega) (by omega) (by omega) (by omega) (by omega) (by omega) (by omega) (by omega));have hbe:St.bndN wb tgb pb wa tga pa cw ct cp=bd:=by rw[<- hbd,<- hwb,<- htgb,<- hpb,<- hwa,<- htga,<- hpa,<- hcw,<- hct,<- hcp];rfl
 rw[hbe] at HBD;have HAL:=hid (fun W=>allowed_any mx W (by omega));rw[hal] at HAL;have HMX:=hid (show max (totb:Int) (tota:Int)=(mx:Int) from by omega)
 have hce:cand=decide (bd<=al):=by
  rw[<- hcand];unfold St.candL;rw[hbd,htotb,htota,hmx,hal]
 have HCD:=hid hce.symm;rw[hpa,hwa,htga,htota] at hm0 HM0;rw[hcp,hcw,hct] at HSH;have HQB:=hid (And.intro hpb (And.intro hwb (And.intro htgb htotb)));have x0:=zcH hib 0;simp only[List.getElem?_toArray,List.getElem?_cons_zero,List.getElem?_cons_succ] at x0;rw[hcand];clear hA hn hib hm0 k1 k2 k3 k4 ca cb wla wlb na nb ta tb0 tta ttb hpa hwa htga htota hpb hwb htgb htotb hcp hcw hct hbd hmx hal hcand hbe hce;go_enter Tryz.func37,Tryz.ntmps37;go_wp2_with fail;refine(HSUR.out _ (by apply_rules[uUe,uUa,uUb,uUc,uUd])).mono ?_;rintro e w5 ⟨v5,rfl,hsv,hu5⟩;have HSV:=hid hsv;have HU5:=hid hu5;obtain⟨A5,c5,G,cm,hv5,_,_,_,_⟩:=hsv;obtain⟨q1,q2,q3,q4⟩:=HQB.out;rw[q1,q2,q3,q4] at hv5;clear q1 q2 q3 q4 hu5;subst hv5;obtain⟨sb,hsb⟩:∃ sb,w5.heap.size=sb:=⟨_,rfl⟩;have hs5:=heap_alloc_new w5 (.cells (svC A5 G.length c5 cm pb wb tgb totb) 166 (0,0));have HX6:=hid (show IxOne (w5.alloc (.cells (svC A5 G.length c5 cm pb wb tgb totb) 166)) B ib m0 m1 m2 la from HX.out.und (HU5.out.alloc _));have HV6:=hid (HSV.out.und ((Und.refl w5).alloc (.cells (svC A5 G.length c5 cm pb wb tgb totb) 166)));have HU6:=hid (HU5.out.alloc (.cells (svC A5 G.length c5 cm pb wb tgb totb) 166));have HS6:=hid hs5;rw[hsb] at HS6;clear hs5;have HCALL:=hid (HSH.out _ _ _ HX6.out HV6.out);unfold svC at *;go_wp2_with fail;refine HCALL.out.mono ?_;rintro e w7 ⟨mb,lm,rfl,hsa,hsl,hu7⟩
 try rw[hsb]
 have HSL:=hid hsl;have HSA0:=hid hsa;have HU7:=hid (HU6.out.trans hu7);have HS7:=hid ((hu7.below.block sb (lt_of_heap HS6.out)).trans HS6.out);have hi7:=(HU7.out.below.block ib (lt_of_heap HIB.out)).trans HIB.out;have x0:=zcH hi7 0;simp only[List.getElem?_toArray,List.getElem?_cons_zero,List.getElem?_cons_succ] at x0;haveI:LtW ib w7:=LtW.of (lt_of_heap hi7);have HM7:=hid (HM0.out.und HU7.out);clear hsa hsl hu7 hi7 hsb HCALL HX6 HV6 HU6 HS6 HSUR HSH;go_wp2_with (first|(at_range;refine Mg.wp_range (kv:=Mg.numV) rfl _ 150 rfl Tryz.underlying150 m0 rfl HM7.out ?_;intro w8 hrg8 hu8 hs8))
 try go_frame
 obtain⟨r,hr⟩:∃ r,w7.heap.size=r:=⟨_,rfl⟩;have HLT:=hid (And.intro (lt_of_heap HS7.out) (And.intro HSA0.out.lt HU7.out.size));rw[hr] at hrg8 HLT ⊢;have HRG:=hid hrg8;have HU8:=hid (HU7.out.trans hu8);have HS8:=hid ((hu8.below.block sb (lt_of_heap HS7.out)).trans HS7.out);have HSA8:=hid (HSA0.out.und hu8);clear hrg8 hu8 hs8 hr x0 HSA0 HS7 HU7 HM7;refine wp_loop_rounds 2 ?_;rw[rounds_succ];go_wp2_with (at_next;refine Mg.wp_next1 (kv:=Mg.numV) rfl _ rfl r m0 rfl HRG.out ?_;intro w9 hrg9 hgb hsz hen);have hen':(Instr.entry (.pointer (some ⟨r,0,none⟩))).run Tryz.prog w9=.ok (.tuple #[.int .i64 0,.agg #[.slice A0 n0 c0,.map (some cm0),.int .i64 (pa:Int),.int .i64 (wa:Int),.int .i64 (tga:Int),.int .i64 (tota:Int)]]) w9:=hen;rw[show Mg.numV 0=.int .i64 0 from rfl];have hrl:=lt_of_heap (HRG.out.2.choose_spec.choose_spec.1);have HRG9:=hid hrg9;have HU9:=hid (show w8.grownBy w9 (some r) from hgb);obtain⟨l1,l2,l3⟩:=HLT.out;have HU9W:=hid (show Und w w9 from HU8.out.grown hgb (fun g e=>by cases e;exact l3));have HSA9:=hid (HSA8.out.gb hgb (by simp;omega));have HS9:=hid ((hgb.block sb (lt_of_heap HS8.out) (by simp;omega)).trans HS8.out);clear hen hrg9 hgb l1 l2 l3;obtain⟨tb,htb⟩:∃ tb,w8.heap.size=tb:=⟨_,rfl⟩;have htb9:w9.heap.size=tb:=hsz.trans htb;refine gen_region (fun W=>Und w9 W/\W.heap[tb]?=some (.cells #[.slice A0 n0 c0,.map (some cm0),.int .i64 (pa:Int),.int .i64 (wa:Int),.int .i64 (tga:Int),.int .i64 (tota:Int)] 166 (0,0))) ⟨(by apply_rules[uUe,uUa,uUb,uUc,uUd]),by rw[<- htb9];exact heap_alloc_new w9 _⟩ (fun W3 h3=>?_)
 try rw[htb]
 obtain⟨hu3,ht3⟩:=h3;have HU3:=hid hu3;have HSA:=hid (HSA9.out.und hu3);have hs3:=(hu3.below.block sb (lt_of_heap HS9.out)).trans HS9.out;have HsbB:=hid (lt_of_heap hs3);have HtbB:=hid (lt_of_heap ht3);have s2:=zcH hs3 2;have s3:=zcH hs3 3;have s4:=zcH hs3 4;have s5:=zcH hs3 5;have t2:=zcH ht3 2;have t3:=zcH ht3 3;have t4:=zcH ht3 4;have t5:=zcH ht3 5;simp only[List.getElem?_toArray,List.getElem?_cons_zero,List.getElem?_cons_succ] at s2 s3 s4 s5 t2 t3 t4 t5;clear hu3 ht3 hs3 htb htb9 hsz hen';refine wp_region_facts (fun _ _=>True) (fun _ W=>Und W3 W) [fun v _=>v=.pointer (some ⟨sb,2,none⟩),fun v _=>v=.agg #[.int .i64 (pb:Int),.int .i64 (wb:Int),.int .i64 (tgb:Int)],fun v _=>v=.pointer (some ⟨tb,2,none⟩),fun v _=>v=.agg #[.int .i64 (pa:Int),.int .i64 (wa:Int),.int .i64 (tga:Int)],fun v _=>v=.map (some mb),fun v _=>v=.int .i64 0,fun v _=>v=.agg #[.int .i64 (cp:Int),.int .i64 (cw:Int),.int .i64 (ct:Int)],fun v _=>v=.int .i64 (bd:Int),fun v _=>v=.pointer (some ⟨sb,5,none⟩),fun v _=>v=.int .i64 (totb:Int),fun v _=>v=.pointer (some ⟨tb,5,none⟩),fun v _=>v=.int .i64 (tota:Int),fun v _=>v=.int .i64 (mx:Int),fun v _=>v=.int .i64 1,fun v _=>v=.int .i64 (al:Int),fun v _=>v=.bool cand] (fun _=>trivial) (fun _ _ _ _ _=>trivial) (by kernel_rfl) (by rfl) (by kernel_rfl) (by kernel_rfl) ?fr7 ?hfr ?hI ?hob ?hend
 case hfr=>
  intro ρ;simp only[putAll,Act.put,zsA,zsB,zsC,Nat.zero_add,Nat.reduceAdd];exact rfl
 case hI=>exact(by apply_rules[uUe,uUa,uUb,uUc,uUd])
 case hob=>
  refine ObsF.cons (fun ρ L W hR hI hL hD hO hF K hK=>?_) ?_
  ·skip
   clear hF hD hO;simp only[Act.put,zsA,zsB,zsC] at hK ⊢;go_simp;refine hK _ _ trivial hI (fun W2 h2=>?_);rfl
  refine ObsF.cons (fun ρ L W hR hI hL hD hO hF K hK=>?_) ?_
  ·skip
   have f0:=allF_get hF (j:=0) (by decide);have hI5:=hI;clear hF hD hO;simp only[Act.put,zsA,zsB,zsC] at hK ⊢;have e0:ρ 0=.pointer (some ⟨sb,2,none⟩):=f0;rw[e0] at hK ⊢;have ysb2:=(hI5.cell (p:=⟨sb,2,none⟩) HsbB.out).trans s2;have ysb3:=(hI5.cell (p:=⟨sb,3,none⟩) HsbB.out).trans s3;have ysb4:=(hI5.cell (p:=⟨sb,4,none⟩) HsbB.out).trans s4;haveI:LtW sb W:=LtW.of (Nat.lt_of_lt_of_le HsbB.out hI5.size);go_simp;refine hK _ _ trivial hI (fun W2 h2=>?_);rfl
  refine ObsF.cons (fun ρ L W hR hI hL hD hO hF K hK=>?_) ?_
  ·skip
   clear hF hD hO;simp only[Act.put,zsA,zsB,zsC] at hK ⊢;go_simp;refine hK _ _ trivial hI (fun W2 h2=>?_);rfl
  refine ObsF.cons (fun ρ L W hR hI hL hD hO hF K hK=>?_) ?_
  ·skip
   have f2:=allF_get hF (j:=2) (by decide);have hI5:=hI;clear hF hD hO;simp only[Act.put,zsA,zsB,zsC] at hK ⊢;have e2:ρ 2=.pointer (some ⟨tb,2,none⟩):=f2;rw[e2] at hK ⊢;have ytb2:=(hI5.cell (p:=⟨tb,2,none⟩) HtbB.out).trans t2;have ytb3:=(hI5.cell (p:=⟨tb,3,none⟩) HtbB.out).trans t3;have ytb4:=(hI5.cell (p:=⟨tb,4,none⟩) HtbB.out).trans t4;haveI:LtW tb W:=LtW.of (Nat.lt_of_lt_of_le HtbB.out hI5.size);go_simp;refine hK _ _ trivial hI (fun W2 h2=>?_);rfl
  refine ObsF.cons (fun ρ L W hR hI hL hD hO hF K hK=>?_) ?_
  ·skip
   clear hF hD hO;simp only[Act.put,zsA,zsB,zsC] at hK ⊢;go_simp;refine hK _ _ trivial hI (fun W2 h2=>?_);rfl
  refine ObsF.cons (fun ρ L W hR hI hL hD hO hF K hK=>?_) ?_
  ·skip
   clear hF hD hO;simp only[Act.put,zsA,zsB,zsC] at hK ⊢;go_simp;refine hK _ _ trivial hI (fun W2 h2=>?_);rfl
  refine ObsF.cons (fun ρ L W hR hI hL hD hO hF K hK=>?_) ?_
  ·skip
   have f4:=allF_get hF (j:=4) (by decide);have f5:=allF_get hF (j:=5) (by decide);have hI5:=hI;clear hF hD hO;simp only[Act.put,zsA,zsB,zsC] at hK ⊢;have e4:ρ 4=.map (some mb):=f4;have e5:ρ 5=.int .i64 0:=f5;rw[e4,e5] at hK ⊢;have hr:(Instr.lookup 181 (.map (some mb)) (.int .i64 0) false).run Tryz.prog W=.ok (.agg #[.int .i64 (cp:Int),.int .i64 (cw:Int),.int .i64 (ct:Int)]) W:=sums_read HSL.out (HSA.out.und hI5);go_simp;refine hK _ _ trivial hI (fun W2 h2=>?_);rfl
  refine ObsF.cons (fun ρ L W hR hI hL hD hO hF K hK=>?_) ?_
  ·skip
   have f1:=allF_get hF (j:=1) (by decide);have f3:=allF_get hF (j:=3) (by decide);have f6:=allF_get hF (j:=6) (by decide);have hI5:=hI;clear hF hD hO;simp only[Act.put,zsA,zsB,zsC] at hK ⊢;have e1:ρ 1=.agg #[.int .i64 (pb:Int),.int .i64 (wb:Int),.int .i64 (tgb:Int)]:=f1;have e3:ρ 3=.agg #[.int .i64 (pa:Int),.int .i64 (wa:Int),.int .i64 (tga:Int)]:=f3;have e6:ρ 6=.agg #[.int .i64 (cp:Int),.int .i64 (cw:Int),.int .i64 (ct:Int)]:=f6;rw[e1,e3,e6] at hK ⊢;refine step_callF3 (o:=⟨some 34,_,_,_,_,_⟩) rfl 87 #[.agg #[.int .i64 (pb:Int),.int .i64 (wb:Int),.int .i64 (tgb:Int)],.agg #[.int .i64 (pa:Int),.int .i64 (wa:Int),.int .i64 (tga:Int)],.agg #[.int .i64 (cp:Int),.int .i64 (cw:Int),.int .i64 (ct:Int)]] _ (HBD.out W) ?_ ?_
   ·go_simp
   rintro e W2 ⟨rfl,hu⟩;exact⟨_,rfl,hK _ _ trivial (hI5.trans hu) (fun W3 h3=>rfl)⟩
  refine ObsF.cons (fun ρ L W hR hI hL hD hO hF K hK=>?_) ?_
  ·skip
   clear hF hD hO;simp only[Act.put,zsA,zsB,zsC] at hK ⊢;go_simp;refine hK _ _ trivial hI (fun W2 h2=>?_);rfl
  refine ObsF.cons (fun ρ L W hR hI hL hD hO hF K hK=>?_) ?_
  ·skip
   have f8:=allF_get hF (j:=8) (by decide);have hI5:=hI;clear hF hD hO;simp only[Act.put,zsA,zsB,zsC] at hK ⊢;have e8:ρ 8=.pointer (some ⟨sb,5,none⟩):=f8;rw[e8] at hK ⊢;have ysb5:=(hI5.cell (p:=⟨sb,5,none⟩) HsbB.out).trans s5;haveI:LtW sb W:=LtW.of (Nat.lt_of_lt_of_le HsbB.out hI5.size);go_simp;refine hK _ _ trivial hI (fun W2 h2=>?_);rfl
  refine ObsF.cons (fun ρ L W hR hI hL hD hO hF K hK=>?_) ?_
  ·skip
   clear hF hD hO;simp only[Act.put,zsA,zsB,zsC] at hK ⊢;go_simp;refine hK _ _ trivial hI (fun W2 h2=>?_);rfl
  refine ObsF.cons (fun ρ L W hR hI hL hD hO hF K hK=>?_) ?_
  ·skip
   have f10:=allF_get hF (j:=10) (by decide);have hI5:=hI;clear hF hD hO;simp only[Act.put,zsA,zsB,zsC] at hK ⊢;have e10:ρ 10=.pointer (some ⟨tb,5,none⟩):=f10;rw[e10] at hK ⊢;have ytb5:=(hI5.cell (p:=⟨tb,5,none⟩) HtbB.out).trans t5;haveI:LtW tb W:=LtW.of (Nat.lt_of_lt_of_le HtbB.out hI5.size);go_simp;refine hK _ _ trivial hI (fun W2 h2=>?_);rfl
  refine ObsF.cons (fun ρ L W hR hI hL hD hO hF K hK=>?_) ?_
  ·skip
   have f9:=allF_get hF (j:=9) (by decide);have f11:=allF_get hF (j:=11) (by decide);clear hF hD hO;simp only[Act.put,zsA,zsB,zsC] at hK ⊢;have e9:ρ 9=.int .i64 (totb:Int):=f9;have e11:ρ 11=.int .i64 (tota:Int):=f11;rw[e9,e11] at hK ⊢;have hmx:=HMX.out;go_simp;refine hK _ _ trivial hI (fun W2 h2=>?_);rfl
  refine ObsF.cons (fun ρ L W hR hI hL hD hO hF K hK=>?_) ?_
  ·skip
   clear hF hD hO;simp only[Act.put,zsA,zsB,zsC] at hK ⊢;go_simp;refine hK _ _ trivial hI (fun W2 h2=>?_);rfl
  refine ObsF.cons (fun ρ L W hR hI hL hD hO hF K hK=>?_) ?_
  ·skip
   have f12:=allF_get hF (j:=12) (by decide);have f13:=allF_get hF (j:=13) (by decide);have hI5:=hI;clear hF hD hO;simp only[Act.put,zsA,zsB,zsC] at hK ⊢;have e12:ρ 12=.int .i64 (mx:Int):=f12;have e13:ρ 13=.int .i64 1:=f13;rw[e12,e13] at hK ⊢;refine step_callF3 (o:=⟨some 41,_,_,_,_,_⟩) rfl 88 #[.int .i64 (mx:Int),.int .i64 1] _ (HAL.out W) ?_ ?_
   ·go_simp
   rintro e W2 ⟨rfl,hu⟩;exact⟨_,rfl,hK _ _ trivial (hI5.trans hu) (fun W3 h3=>rfl)⟩
  refine ObsF.cons (fun ρ L W hR hI hL hD hO hF K hK=>?_) ?_
  ·skip
   have f7:=allF_get hF (j:=7) (by decide);have f14:=allF_get hF (j:=14) (by decide);clear hF hD hO;simp only[Act.put,zsA,zsB,zsC] at hK ⊢;have e7:ρ 7=.int .i64 (bd:Int):=f7;have e14:ρ 14=.int .i64 (al:Int):=f14;rw[e7,e14] at hK ⊢;have hcd:=HCD.out;go_simp;refine hK _ _ trivial hI (fun W2 h2=>?_);rfl
  exact ObsF.nil
 case hend=>
  intro ρ L W hR hI hL hF
  have e15:ρ 15=.bool cand:=by
   obtain⟨_,_,_,_,_,_,_,_,_,_,_,_,_,_,_,h,_⟩:=hF;exact h
  rw[e15];clear e15;have HI9:=hid hI;clear hI hR hL hF;have HUW:=hid ((HU9W.out.trans HU3.out).trans HI9.out);have HRGW:=hid ((HRG9.out.und HU3.out).und HI9.out);clear s2 s3 s4 s5 t2 t3 t4 t5 hrl;cases cand with
  | false=>
   go_wp2_with fail;rw[rounds_succ];go_wp2_with (at_next;refine Mg.wp_next0 (kv:=Mg.numV) rfl _ rfl r m0 rfl HRGW.out ?_);go_wp2_with (go_at_call 89;refine(osort0 _ _ _).mono ?_;rintro e w' ⟨rfl,rfl⟩);go_ret;exact⟨HUW.out,.inl ⟨rfl,rfl⟩⟩
  | true=>
   go_wp2_with (at_builtin;(with_reducible (refine wpList_append_own _ rfl _ _ 22 rfl w.heap.size 3 i9 (.int .i64 0) 1 8 Tryz.underlying22 hi9 hz0 hz1 hz2 rfl (by decide) (.slice none 0 0) 0 [] ?_ (World.ownsRow_nil _ _ _ _) ?_ 1 1 [.int .i64 0] ?_ ?_ ?_ ?_ ?_ ?_ ?_ ?_));all_goals (first|rfl|(unfold maxLen;omega)|omega|skip))
   ·intro j u hu
    match j,hu with
    | 0,hu=>simp at hu;subst hu;simp[Addr.add]
    | j+1,hu=>simp at hu
   ·intro u hu
    rw[List.mem_singleton.1 hu];rfl
   ·have:=HUW.out.size;simp;omega
   ·intro v' w4 hown hgrow _
    obtain⟨A',c',rfl,_⟩:=own_slice hown;obtain⟨g,rfl,_,_,hc⟩:=own_cell hown (by omega);have h0:=hc 0 _ rfl;have hg1:Und W w4:=(show Und W _ from(by apply_rules[uUe,uUa,uUb,uUc,uUd])).grown hgrow (fun g e=>by cases e);have HU4:=hid (HUW.out.trans hg1);have HRG4:=hid (HRGW.out.und hg1);have HH0:=hid h0;clear hown hgrow hc h0 hg1;go_wp2_with fail;rw[rounds_succ];go_wp2_with (at_next;refine Mg.wp_next0 (kv:=Mg.numV) rfl _ rfl r m0 rfl HRG4.out ?_);go_wp2_with (go_at_call 89;refine(osort1 _ _ _).mono ?_;rintro e w' ⟨rfl,rfl⟩);go_ret;exact⟨HU4.out,.inr ⟨rfl,g,c',rfl,HH0.out⟩⟩
end Go.Proofs.YtcfhfdphoidaeaaGreatDoor
