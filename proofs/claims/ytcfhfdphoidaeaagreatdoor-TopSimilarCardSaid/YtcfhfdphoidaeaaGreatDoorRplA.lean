/- The contracts of sync.Once's Do, not yet done and done already, one goroutine alone. -/
import Derived.Tactics
import Derived.Tactics2
import Derived.Defers
import Derived.Laws.Pointers
import Derived.Laws.LoneSync
import Derived.RegionTactic
import Derived.RegionCalls
import Derived.ChangeAlike
import Derived.Laws.MakeOwn
import Derived.Deep.WholeRow
import Derived.Lib.ConvBytes
import Derived.Test.YtcfhfdphoidaeaaGreatDoorShelf
import Derived.Test.YtcfhfdphoidaeaaGreatDoorFct
import Derived.Laws.CopyRow
import Derived.Laws.CopyOwn
import Derived.Laws.OwnMore
import Derived.BigQuiet
import Derived.Lib.Bytealg
set_option linter.unusedVariables false
set_option linter.unusedSimpArgs false
set_option maxHeartbeats 12800000
set_option maxRecDepth 20000
namespace Go.Proofs.YtcfhfdphoidaeaaGreatDoor
open Go.RowKit
section
theorem on_disable(w:World):(callFunc 299 #[]).run Tryz.prog w=.ok (.value (.tuple #[])) w:=run_call_mark0 Tryz.func299 (by kernel_rfl) (by kernel_rfl) (by kernel_rfl) .disable (by kernel_rfl) w
theorem on_enable(w:World):(callFunc 301 #[]).run Tryz.prog w=.ok (.value (.tuple #[])) w:=run_call_mark0 Tryz.func301 (by kernel_rfl) (by kernel_rfl) (by kernel_rfl) .enable (by kernel_rfl) w
theorem on_acquire(a:Addr)(w:World):(callFunc 302 #[.pointer (some a)]).run Tryz.prog w=.ok (.value (.tuple #[])) w:=run_call_marked Tryz.func302 (by kernel_rfl) (by kernel_rfl) (by kernel_rfl) .acquire (by kernel_rfl) a w
theorem on_release(a:Addr)(w:World):(callFunc 304 #[.pointer (some a)]).run Tryz.prog w=.ok (.value (.tuple #[])) w:=run_call_marked Tryz.func304 (by kernel_rfl) (by kernel_rfl) (by kernel_rfl) .releaseMerge (by kernel_rfl) a w
set_option maxRecDepth 100000 in
theorem store_deferred(a:Addr)(x:Value)(u:FrameMode)(w:World)(hc:w.cell? a=some x)(hz:w.frozen? a=false) :
  CallsD Tryz.prog 277 #[.pointer (some a),.bool true] u w fun e u' w'=>u'=u/\(e=.returned (.tuple #[])/\w'=w.drew.setCell a (.int .u32 1)):=by
 have hc':w.drew.cell? a=some x:=by go_simp
 have hz':w.drew.frozen? a=false:=by go_simp
 have hst:=run_call_store (P:=Tryz.prog) Tryz.func291 (by kernel_rfl) (by kernel_rfl) (by kernel_rfl) (by kernel_rfl) (k:=.u32) (y:=1) hc' hz';go_enter_d Tryz.func277,Tryz.ntmps277;go_wp2;go_region_calls
 all_goals (go_end0;exact⟨rfl,rfl⟩)
set_option maxRecDepth 100000 in
theorem unlock_deferred(a:Addr)(u:FrameMode)(w:World)(hc:w.cell? a=some (.int .i32 1))(hz:w.frozen? a=false) :
  CallsD Tryz.prog 276 #[.pointer (some a)] u w fun e u' w'=>u'=u/\(e=.returned (.tuple #[])/\w'=w.setCell a (.int .i32 0)):=by
 have hd:=on_disable;have he:=on_enable;have hr:=on_release;have hadd:=run_call_add (P:=Tryz.prog) Tryz.func305 (by kernel_rfl) (by kernel_rfl) (by kernel_rfl) .i32 (by kernel_rfl) (y:=-1) (s:=0) hc hz (by simp[go_sem];rfl);have hcv:=run_convert_to_unsafe (P:=Tryz.prog) (src:=411) (dst:=272) Tryz.underlying411 Tryz.underlying272 (by kernel_rfl) hc;go_enter_d Tryz.func276,Tryz.ntmps276;go_wp2;go_end0;go_wp2;go_end0;exact⟨rfl,rfl⟩
set_option maxRecDepth 100000 in
theorem lock_free(a:Addr)(w:World)(hc:w.cell? a=some (.int .i32 0))(hz:w.frozen? a=false) :
  Calls Tryz.prog 275 #[.pointer (some a)] w fun e w'=>e=.returned (.tuple #[])/\w'=w.setCell a (.int .i32 1):=by
 have hd:=on_disable;have he:=on_enable;have ha:=on_acquire;have hcas:=run_call_cas_hit (P:=Tryz.prog) Tryz.func300 (by kernel_rfl) (by kernel_rfl) (by kernel_rfl) .i32 (by kernel_rfl) (y:=1) hc hz;have hc':(w.setCell a (.int .i32 1)).cell? a=some (.int .i32 1):=World.cell?_setCell_same w a _ hc;have hcv:=run_convert_to_unsafe (P:=Tryz.prog) (src:=411) (dst:=272) Tryz.underlying411 Tryz.underlying272 (by kernel_rfl) hc';go_enter Tryz.func275,Tryz.ntmps275;go_wp2
 first|go_end0|(simp only[Exit.inBlock,Exit.then];refine bodyPost_ret (results_none rfl _ _ _) rfl ?_)|refine bodyPost_ret (results_none rfl _ _ _) rfl ?_
 go_wp2;go_end0;exact⟨rfl,rfl⟩
end
section
set_option maxRecDepth 100000 in
theorem slow_any(b:Nat)(w:World)(Post:World->Prop)(h0:w.cell? ⟨b,0,none⟩=some (.int .u32 0))(h1:w.cell? ⟨b,1,none⟩=some (.int .i32 0))(f0:w.frozen? ⟨b,0,none⟩=false)(f1:w.frozen? ⟨b,1,none⟩=false)
  (hF:Calls Tryz.prog 221 #[.pointer (some ⟨b,0,none⟩)] (w.setCell ⟨b,1,none⟩ (.int .i32 1)) fun e w2=>e=.returned (.tuple #[])/\Post w2)
  (hP:∀ w2,Post w2->w2.cell? ⟨b,0,none⟩=some (.int .u32 0)/\w2.cell? ⟨b,1,none⟩=some (.int .i32 1)/\w2.frozen? ⟨b,0,none⟩=false/\w2.frozen? ⟨b,1,none⟩=false) :
  Calls Tryz.prog 252 #[.pointer (some ⟨b,0,none⟩),.func (.func 221) #[.pointer (some ⟨b,0,none⟩)] #[]] w fun e w'=>e=.returned (.tuple #[]) /\
   ∃ w2,Post w2/\w'=(w2.drew.setCell ⟨b,0,none⟩ (.int .u32 1)).setCell ⟨b,1,none⟩ (.int .i32 0):=by
 have hl:=run_call_load (P:=Tryz.prog) Tryz.func274 (by kernel_rfl) (by kernel_rfl) (by kernel_rfl) .u32 (by kernel_rfl) (w:=w.setCell ⟨b,1,none⟩ (.int .i32 1)) (a:=⟨b,0,none⟩) (x:=0) ((World.cell?_setCell_other _ ⟨b,1,none⟩ ⟨b,0,none⟩ _ (by simp)).trans h0);have hnot:∀ (x:Bool) (w:World),(Op.unary .not (.bool x)).run Tryz.prog w=.ok (.bool (!x)) w:=fun _ _=>rfl
 have HF:=hid hF;clear hF;go_enter_defers Tryz.func252,Tryz.ntmps252;go_wp2_with (first|(go_at_call 275;refine(lock_free ⟨b,1,none⟩ _ (by go_simp) (by go_simp)).mono ?_;rintro e w' ⟨rfl,rfl⟩)|(go_at_call 251;go_in)|(go_at_call 221;refine HF.out.mono ?_;rintro e w2 ⟨rfl,hp⟩));obtain⟨p0,p1,q0,q1⟩:=hP w2 hp;have HPO:=hid hp;clear hp hl HF;go_wp2;refine leaves_cons (f:=277) (args:=#[.pointer (some ⟨b,0,none⟩),.bool true]) (by simp) (by simp[go_sem]) ?_;refine(store_deferred ⟨b,0,none⟩ (.int .u32 0) .returning _ p0 q0).mono ?_;rintro e u' w'' ⟨rfl,rfl,rfl⟩;refine leaves_cons (f:=276) (args:=#[.pointer (some ⟨b,1,none⟩)]) (by simp[settle]) (by simp[go_sem]) ?_;refine(unlock_deferred ⟨b,1,none⟩ _ _ ?_ (by simp[q1])).mono ?_
 ·refine(World.cell?_setCell_other _ ⟨b,0,none⟩ ⟨b,1,none⟩ _ (by simp)).trans ?_
  rw[World.cell?_drew];exact p1
 rintro e u' w'' ⟨rfl,rfl,rfl⟩;simp[Leaves,settle,results,Tryz.results252];exact⟨w2,HPO.out,rfl⟩
set_option maxRecDepth 100000 in
theorem do_first(b:Nat)(w:World)(Post:World->Prop)(h0:w.cell? ⟨b,0,none⟩=some (.int .u32 0))(h1:w.cell? ⟨b,1,none⟩=some (.int .i32 0))(f0:w.frozen? ⟨b,0,none⟩=false)(f1:w.frozen? ⟨b,1,none⟩=false)
  (hF:Calls Tryz.prog 221 #[.pointer (some ⟨b,0,none⟩)] (w.setCell ⟨b,1,none⟩ (.int .i32 1)) fun e w2=>e=.returned (.tuple #[])/\Post w2)
  (hP:∀ w2,Post w2->w2.cell? ⟨b,0,none⟩=some (.int .u32 0)/\w2.cell? ⟨b,1,none⟩=some (.int .i32 1)/\w2.frozen? ⟨b,0,none⟩=false/\w2.frozen? ⟨b,1,none⟩=false) :
  Calls Tryz.prog 220 #[.pointer (some ⟨b,0,none⟩),.func (.func 221) #[.pointer (some ⟨b,0,none⟩)] #[]] w fun e w'=>e=.returned (.tuple #[]) /\
   ∃ w2,Post w2/\w'=(w2.drew.setCell ⟨b,0,none⟩ (.int .u32 1)).setCell ⟨b,1,none⟩ (.int .i32 0):=by
 have hl:=run_call_load (P:=Tryz.prog) Tryz.func274 (by kernel_rfl) (by kernel_rfl) (by kernel_rfl) .u32 (by kernel_rfl) h0;have hnot:∀ (x:Bool) (w:World),(Op.unary .not (.bool x)).run Tryz.prog w=.ok (.bool (!x)) w:=fun _ _=>rfl
 have HS:=hid (slow_any b w Post h0 h1 f0 f1 hF hP);clear hF hP;go_enter Tryz.func220,Tryz.ntmps220;go_wp2_with (first|(go_at_call 252;refine HS.out.mono ?_;rintro e w' ⟨rfl,hw⟩)|(go_at_call 251;go_in));go_end0;exact⟨rfl,hw⟩
theorem do_done(b:Nat)(fv:Value)(w:World)(h0:w.cell? ⟨b,0,none⟩=some (.int .u32 1)) :
  Calls Tryz.prog 220 #[.pointer (some ⟨b,0,none⟩),fv] w fun e w'=>e=.returned (.tuple #[])/\w'=w:=by
 have hl:=run_call_load (P:=Tryz.prog) Tryz.func274 (by kernel_rfl) (by kernel_rfl) (by kernel_rfl) .u32 (by kernel_rfl) h0;have hnot:∀ (x:Bool) (w:World),(Op.unary .not (.bool x)).run Tryz.prog w=.ok (.bool (!x)) w:=fun _ _=>rfl
 go_enter Tryz.func220,Tryz.ntmps220;go_wp2;go_end0;exact⟨rfl,rfl⟩
end
section
theorem info_str:(Tryz.prog.info? 9).map (fun i=>(i.zero,i.size,i.bytes))=some (some (.string ⟨#[]⟩),1,16):=by kernel_rfl
def RepS(st:Int)(w:World)(B rb:Nat)(os:List ByteArray):Prop:=
 B<=rb/\∃ v,w.heap[rb]?=some (Obj.cells #[.int .u32 0,.int .i32 st,.int .u32 0,.nilIface,v] 326 (0,0))/\w.ownsRow B 9 1 v os.length (os.map Value.string)
abbrev RepF (w:World) (B rb:Nat) (os:List ByteArray):Prop:=RepS 0 w B rb os
theorem RepF.und{a c:World}{B rb:Nat}{os:List ByteArray}(h:RepF a B rb os)(u:Und a c):RepF c B rb os:=by
 obtain⟨h0,v,h1,h2⟩:=h;exact⟨h0,v,(u.below.block rb (lt_of_heap h1)).trans h1,own_und u h2⟩
theorem newrep_any(ab n:Nat)(os:List ByteArray)(w:World)(hn:os.length=n)(hev:n % 2=0)(h0:n<=1000)(hA:∀ j u,(os.map Value.string)[j]?=some u->w.cell? ⟨ab,j,none⟩=some u) :
  Calls Tryz.prog 175 #[.slice (some ⟨ab,0,none⟩) n n] w fun e w'=>∃ rb,e=.returned (.pointer (some ⟨rb,0,none⟩))/\RepF w' w.heap.size rb os/\Und w w':=by
 obtain⟨i0,hi,hz0,hz1,hz2⟩:=info_parts info_str
 have y1:(((n:Int).tmod 2)==1)=false:=by
  rw[Int.tmod_eq_emod_of_nonneg (by omega)];simp;omega
 have HA:=hid hA;clear hA;go_enter Tryz.func175,Tryz.ntmps175;go_wp2_with (at_builtin;refine wpList_append_own _ rfl _ _ 70 rfl w.heap.size 9 i0 (.string ⟨#[]⟩) 1 16 Tryz.underlying70 hi hz0 hz1 hz2 rfl (by decide) (.slice none 0 0) 0 [] rfl (World.ownsRow_nil _ _ _ _) ⟨ab,0,none⟩ n n (os.map Value.string) rfl (by simp[hn]) ?_ ?_ (by unfold maxLen;omega) (by omega) ?_ ?_)
 ·intro j u hj
  rw[show (⟨ab,0,none⟩:Addr).add j=⟨ab,j,none⟩ by unfold Addr.add;split <;> simp_all];exact HA.out j u hj
 ·intro u hu
  obtain⟨s,_,rfl⟩:=List.mem_map.1 hu;rfl
 ·exact Nat.le_refl _
 ·intro v' w1 hown hgr _
  have hu1:Und w w1:=(Und.refl w).grown hgr (fun g hg=>by cases hg);have HO:=hid hown;have HU:=hid hu1;have hsz:=hu1.size;clear hgr hown hu1;obtain⟨A',c',rfl,_⟩:=own_slice' HO.out;go_wp2;go_ret;refine⟨w1.heap.size,rfl,⟨hsz,_,heap_alloc_new w1 _,?_⟩,(HU.out).alloc _⟩;have:=HO.out
  subst hn;exact own_und ((Und.refl w1).alloc _) (by simpa using this)
end
section
@[go_sem] theorem nil_eq (W:World):(binOp .eql 137 (.slice none 0 0) (.slice none 0 0)).run Tryz.prog W=.ok (.bool true) W:=by kernel_rfl
@[go_sem] theorem nil_neq (W:World):(binOp .neq 137 (.slice none 0 0) (.slice none 0 0)).run Tryz.prog W=.ok (.bool false) W:=by kernel_rfl
@[go_sem] theorem some_neq (W:World) (a:Addr) (n c:Nat):(binOp .neq 137 (.slice (some a) n c) (.slice none 0 0)).run Tryz.prog W=.ok (.bool true) W:=by kernel_rfl
abbrev bsT:TypeId:=384
theorem z142(w:World):(zeroValue bsT).run Tryz.prog w=.ok (.agg ((Array.replicate 256 (.slice none 0 0)).push (.slice none 0 0))) w:=by kernel_rfl
theorem i142:(Tryz.prog.info? bsT).map (·.size)=some 257:=by kernel_rfl
theorem z_set(v:Value):((Array.replicate 256 (Value.slice none 0 0)).push (.slice none 0 0)).toList.set 256 v=((Array.replicate 256 (Value.slice none 0 0)).push v).toList:=by
 have:∀ a:Array Value,a.size=256->(a.push (.slice none 0 0)).toList.set 256 v=(a.push v).toList:=by
  intro a h;rw[Array.toList_push,Array.toList_push,List.set_append_right _ _ (by simp[h])];simp[h]
 exact this _ (by simp)
def lookB:List (UInt8 × ByteArray)->UInt8->Option ByteArray
 | [],_=>none
 | p :: r,c=>if p.1=c then some p.2 else lookB r c
theorem lookB_snoc(l:List (UInt8 × ByteArray))(p:UInt8 × ByteArray)(c:UInt8):lookB (l++[p]) c=match lookB l c with
  | some s=>some s
  | none=>if p.1=c then some p.2 else none:=by
 induction l with
 | nil=>simp[lookB]
 | cons q l ih=>
  rw[List.cons_append,lookB,lookB]
  split
  ·rfl
  ·exact ih
theorem lookB_none{l:List (UInt8 × ByteArray)}{c:UInt8}(h:c ∉ l.map (·.1)):lookB l c=none:=by
 induction l with
 | nil=>rfl
 | cons q l ih=>
  simp only[List.map_cons,List.mem_cons,not_or] at h;rw[lookB,if_neg (fun e=>h.1 e.symm)];exact ih h.2
def RowB(w:World)(B:Nat)(v:Value)(s:ByteArray):Prop:=
 ∃ g cap cb fr,v=.slice (some ⟨g,0,none⟩) s.size cap/\B<=g/\s.size<=cap/\w.heap[g]?=some (.cells cb 5 fr)/\∀ j,j<s.size->cb[j]?=some (.int .u8 ((s.data.toList.getD j 0).toNat:Int))
def bsK:List TypeId:=[9,bsT]
theorem RowB.tk{a c:World}{B:Nat}{v:Value}{s:ByteArray}(h:RowB a B v s)(k:TKept bsK a c):RowB c B v s:=by
 obtain⟨g,cap,cb,fr,h1,h2,h3,h4,h5⟩:=h;exact⟨g,cap,cb,fr,h1,h2,h3,(k.2 g cb _ fr h4 (by decide)).trans h4,h5⟩
def TbAt(w:World)(B bb:Nat)(done:List (UInt8 × ByteArray))(strs:List UInt8):Prop:=
 B<=bb/\∃ cs:Array Value,w.heap[bb]?=some (.cells cs bsT (0,0))/\cs.size=257/\(∀ c:UInt8,lookB done c=none->cs[c.toNat]?=some (.slice none 0 0)) /\
  (∀ (c:UInt8) s,lookB done c=some s->∃ v,cs[c.toNat]?=some v/\RowB w B v s)/\∃ v,cs[256]?=some v/\w.ownsRow B 9 1 v strs.length (strs.map fun a=>.string ⟨#[a]⟩)
theorem TbAt.und{a c:World}{B bb:Nat}{done:List (UInt8 × ByteArray)}{strs:List UInt8}(h:TbAt a B bb done strs)(u:Und a c):TbAt c B bb done strs:=by
 obtain⟨h0,cs,h1,h2,h3,h4,v,h5,h6⟩:=h;refine⟨h0,cs,(u.below.block bb (lt_of_heap h1)).trans h1,h2,h3,fun x s hx=>?_,v,h5,own_und u h6⟩;obtain⟨v',k1,k2⟩:=h4 x s hx;exact⟨v',k1,k2.tk (u.tk bsK)⟩
theorem byte_lt(c:UInt8):c.toNat<256:=c.toNat_lt
theorem TbAt.grow{w w4:World}{B bb:Nat}{done:List (UInt8 × ByteArray)}{strs:List UInt8}{v v':Value}{a:UInt8}(h:TbAt w B bb done strs)(hv:w.cell? ⟨bb,256,none⟩=some v)(hg:w.grownBy w4 v.ownBlock)
  (ho:w4.ownsRow B 9 1 v' (strs.length+1) (strs.map (fun a=>Value.string ⟨#[a]⟩)++[.string ⟨#[a]⟩])):TbAt (w4.setCell ⟨bb,256,none⟩ v') B bb done (strs++[a]):=by
 obtain⟨h0,cs,h1,h2,h3,h4,v0,h5,h6⟩:=h;obtain rfl:v0=v:=by rw[zcH h1 256,h5] at hv;simpa using hv
 have hb4:w4.heap[bb]?=some (.cells cs bsT (0,0)):=(hg.block bb (lt_of_heap h1) (fun e=>own_ne h6 h1 (by decide) e.symm)).trans h1;have htk:TKept bsK w (w4.setCell ⟨bb,256,none⟩ v'):=(tk_grown hg (own_type h6 _ (by simp[bsK]))).trans (tk_set (p:=⟨bb,256,none⟩) hb4 (by simp[bsK]));refine⟨h0,cs.setIfInBounds 256 v',heap_setCell_same w4 bb 256 _ _ v' hb4,by simp[h2],fun c hc=>?_,fun c s hc=>?_,v',by simp[h2],?_⟩
 ·rw[Array.getElem?_setIfInBounds_ne (by have:=byte_lt c;omega)];exact h3 c hc
 ·obtain⟨x,k1,k2⟩:=h4 c s hc
  exact⟨x,by rw[Array.getElem?_setIfInBounds_ne (by have:=byte_lt c;omega)];exact k1,k2.tk htk⟩
 ·have e:(strs++[a]).map (fun a=>Value.string ⟨#[a]⟩)=strs.map (fun a=>Value.string ⟨#[a]⟩)++[.string ⟨#[a]⟩]:=by simp
  rw[e,List.length_append,List.length_singleton];exact own_set ho (own_ne ho hb4 (by decide))
theorem TbAt.put{w:World}{B bb:Nat}{done:List (UInt8 × ByteArray)}{strs:List UInt8}{v:Value}{p:UInt8 × ByteArray}(h:TbAt w B bb done strs)(hn:lookB done p.1=none)(hr:RowB w B v p.2):TbAt (w.setCell ⟨bb,p.1.toNat,none⟩ v) B bb (done++[p]) strs:=by
 obtain⟨h0,cs,h1,h2,h3,h4,v0,h5,h6⟩:=h;have htk:TKept bsK w (w.setCell ⟨bb,p.1.toNat,none⟩ v):=tk_set (p:=⟨bb,p.1.toNat,none⟩) h1 (by simp[bsK]);have hlt:=byte_lt p.1;have hne:∀ c:UInt8,p.1 ≠ c->p.1.toNat ≠ c.toNat:=fun c h e=>h (UInt8.toNat_inj.1 e)
 refine⟨h0,cs.setIfInBounds p.1.toNat v,heap_setCell_same w bb p.1.toNat _ _ v h1,by simp[h2],fun c hc=>?_,fun c s hc=>?_,v0,?_,own_set h6 (own_ne h6 h1 (by decide))⟩
 ·rw[lookB_snoc] at hc
  cases hd:lookB done c with
  | some s=>rw[hd] at hc;cases hc
  | none=>
   rw[hd] at hc
   by_cases e:p.1=c
   ·rw[if_pos e] at hc;cases hc
   ·rw[Array.getElem?_setIfInBounds_ne (hne c e)];exact h3 c hd
 ·rw[lookB_snoc] at hc
  cases hd:lookB done c with
  | some s'=>
   rw[hd] at hc;simp only[Option.some.injEq] at hc;subst hc;have e:p.1 ≠ c:=fun e=>by subst e;rw[hn] at hd;cases hd
   obtain⟨x,k1,k2⟩:=h4 c s' hd;exact⟨x,by rw[Array.getElem?_setIfInBounds_ne (hne c e)];exact k1,k2.tk htk⟩
  | none=>
   rw[hd] at hc
   by_cases e:p.1=c
   ·rw[if_pos e] at hc
    simp only[Option.some.injEq] at hc;subst hc e;exact⟨v,by rw[Array.getElem?_setIfInBounds_self_of_lt (by omega)],hr.tk htk⟩
   ·rw[if_neg e] at hc;cases hc
 ·rw[Array.getElem?_setIfInBounds_ne (by omega)];exact h5
theorem TbAt.fresh(w1:World)(B:Nat)(hB:B<=w1.heap.size)(v:Value)(ho:w1.ownsRow B 9 1 v 0 []):TbAt (w1.alloc (.cells ((Array.replicate 256 (.slice none 0 0)).push v) bsT)) B w1.heap.size [] []:=by
 refine⟨hB,_,heap_alloc_new w1 _,by simp,fun c _=>?_,fun c s h=>(by simp[lookB] at h),v,?_,own_und ((Und.refl w1).alloc _) ho⟩
 ·have:=byte_lt c
  rw[Array.getElem?_push_lt (by rw[Array.size_replicate];exact this)];simp
 ·have:∀ a:Array Value,a.size=256->(a.push v)[256]?=some v:=by
   intro a h;rw[Array.getElem?_push,if_pos h.symm]
  exact this _ (by simp)
theorem row_bytes(w:World)(B:Nat)(s:ByteArray)(hB:B<=w.heap.size)(hs:s.size<=1000):RowB (Lib.bytesWorld w 5 s) B (.slice (some ⟨w.heap.size,0,none⟩) s.size (grownCap w s.size 0 5)) s:=by
 refine⟨w.heap.size,_,_,_,rfl,hB,grownCap_ge _ _ _ _,Lib.bytesWorld_at_new w _ s,fun j hj=>?_⟩;rw[<- zcH (Lib.bytesWorld_at_new w 5 s) j];exact Lib.bytesWorld_cell w _ s j hj
def osOf(tb:List (UInt8 × ByteArray)):List ByteArray:=tb.flatMap fun p=>[⟨#[p.1]⟩,p.2]
theorem os_len(tb:List (UInt8 × ByteArray)):(osOf tb).length=2*tb.length:=by
 induction tb with
 | nil=>rfl
 | cons p r ih=>simp[osOf] at ih ⊢;omega
theorem os_at(tb:List (UInt8 × ByteArray))(k:Nat)(h:k<tb.length):(osOf tb)[2*k]?=some ⟨#[tb[k].1]⟩/\(osOf tb)[2*k+1]?=some tb[k].2:=by
 induction tb generalizing k with
 | nil=>simp at h
 | cons p r ih=>
  match k,h with
  | 0,_=>exact⟨rfl,rfl⟩
  | k+1,h=>
   have:=ih k (by simpa using h)
   have e1:2*(k+1)=2*k+2:=by omega
   have e2:2*(k+1)+1=(2*k+1)+2:=by omega
   rw[e2,e1];exact this
end
section
def B1Rel(w:World)(m:Nat)(s4 s5:Value)(wr:World):Prop:=∃ k:Nat,s4=.bool (decide (k=0))/\s5=.int .i64 ((2*k:Nat):Int)/\k<=m/\w=wr
def B4Rel(w:World)(B bb:Nat)(tb:List (UInt8 × ByteArray))(s12:Value)(wr:World):Prop:=
 ∃ k:Nat,s12=.int .i64 (2*(k:Int)-2)/\k<=tb.length/\TbAt wr B bb (tb.drop k).reverse ((tb.drop k).reverse.map (·.1))/\Und w wr
set_option maxRecDepth 100000 in
theorem build_any(B rb:Nat)(tb:List (UInt8 × ByteArray))(w:World)(st:Int)(hR:RepS st w B rb (osOf tb))(h2:2<=tb.length)(h100:tb.length<=100)(hs:∀ p ∈ tb,2<=p.2.size/\p.2.size<=100)(hnd:(tb.map (·.1)).Nodup) :
  Calls Tryz.prog 253 #[.pointer (some ⟨rb,0,none⟩)] w fun e w'=>∃ bb,e=.returned (.iface 385 (.pointer (some ⟨bb,0,none⟩)))/\TbAt w' w.heap.size bb tb.reverse (tb.reverse.map (·.1))/\Und w w':=by
 obtain⟨_,v,hbk,hown⟩:=hR;obtain⟨A,c,rfl,_⟩:=own_slice hown;have hol:=os_len tb;obtain⟨m,hm⟩:∃ m,tb.length=m:=⟨_,rfl⟩;rw[hm] at hol h2 h100;obtain⟨g,rfl,_,hg,hc⟩:=own_cell hown (by omega)
 have hcell:∀ k (h:k<tb.length),w.cell? ⟨g,2*k,none⟩=some (.string ⟨#[tb[k].1]⟩)/\w.cell? ⟨g,2*k+1,none⟩=some (.string tb[k].2):=by
  intro k h;obtain⟨a1,a2⟩:=os_at tb k h;exact⟨hc _ _ (by rw[List.getElem?_map,a1];rfl),hc _ _ (by rw[List.getElem?_map,a2];rfl)⟩
 rw[hol] at hown hbk;have g4:w.cell? ⟨rb,4,none⟩=some (.slice (some ⟨g,0,none⟩) (2*m) c):=zcH hbk 4;haveI:LtW rb w:=LtW.of (lt_of_heap hbk);haveI:LtW g w:=LtW.of hg;obtain⟨i0,hi,hz0,hz1,hz2⟩:=info_parts info_str;obtain⟨w1,hmk,hro,hgm⟩:=run_make_own (P:=Tryz.prog) w w.heap.size 70 9 i0 (.string ⟨#[]⟩) 1 Tryz.underlying70 hi hz0 hz1 .i64 .i64 m (by rw[hz2];omega) (by unfold maxLen;omega) (Nat.le_refl _);have hu1:Und w w1:=(Und.refl w).grown hgm (fun g e=>by cases e);have hz:=fun w=>z142 w
 have hsc:=run_storeCells_new (P:=Tryz.prog) w1 bsT ((Array.replicate 256 (.slice none 0 0)).push (.slice none 0 0)) ((Array.replicate 256 (.slice none 0 0)).push (.slice (some ⟨w.heap.size,0,none⟩) 0 m)) (by rw[Array.size_push,Array.size_replicate];exact i142) (by simp) (by
  have:∀ (a:Array Value) (v:Value),a.all (·.oneCell')=true->v.oneCell'=true->(a.push v).all (·.oneCell')=true:=by intro a v h1 h2;simp[h1,h2]
  exact this _ _ (by rw[Array.all_eq_true];intro i hi;rw[Array.getElem_replicate];rfl) rfl)
 rw[<- z_set] at hsc;have HTF:=hid (TbAt.fresh w1 w.heap.size hu1.size (.slice (some ⟨w.heap.size,0,none⟩) 0 m) hro);obtain⟨Z',hZ'⟩:∃ Z':Array Value,Z'=(Array.replicate 256 (.slice none 0 0)).push (.slice (some ⟨w.heap.size,0,none⟩) 0 m):=⟨_,rfl⟩;obtain⟨Z,hZ⟩:∃ Z:Array Value,Z=(Array.replicate 256 (.slice none 0 0)).push (.slice none 0 0):=⟨_,rfl⟩;rw[<- hZ] at hz hsc;rw[<- hZ'] at hsc HTF;have hZs:Z.size=257:=by rw[hZ,Array.size_push,Array.size_replicate]
 clear hZ hZ' hbk hown hc hgm hro;have HC:=hid hcell;have HU1:=hid hu1;have HND:=hid hnd;have HS:=hid hs;have hsz1:=hu1.size;have yd:((2*m:Nat):Int) / 2=(m:Int):=by omega
 have y2:(((2*m:Nat):Int)==2)=false:=by simp;omega
 obtain⟨n,hn⟩:∃ n,n=2*m:=⟨_,rfl⟩;rw[<- hn] at g4 yd y2;have HN:=hid hn;clear hcell hu1 hnd hs hol hn;go_enter Tryz.func253,Tryz.ntmps253;go_wp2_with fail;go_loopw [4,5] (fun s4 s5 wr=>B1Rel w m s4 s5 wr) (fun _ s5 _=>n+1-(intOf s5).toNat)
 case atStart=>exact⟨0,rfl,rfl,by omega,rfl⟩
 case round=>
  obtain⟨k,rfl,rfl,hk,rfl⟩:=hrel;have hn:=HN.out
  by_cases hkm:k<m
  ·obtain⟨e0,e1⟩:=HC.out k (by omega)
   have hps:=(HS.out tb[k] (List.getElem_mem (by omega))).1;generalize tb[k]'(by omega)=p at e0 e1 hps;obtain⟨so,hso⟩:∃ so:ByteArray,so=⟨#[p.1]⟩:=⟨_,rfl⟩;rw[<- hso] at e0;have hs1:so.size=1:=by rw[hso];rfl
   have z1:((2*k:Nat):Int)<n:=by omega
   have z2:(((2*k:Nat):Int)+1)<n:=by omega
   have z3:(((2*k:Nat):Int)+1).toNat=2*k+1:=by omega
   have z4:((p.2.size:Int) != 1)=true:=by simp;omega
   have z5:((p.2.size:Int)==1)=false:=by simp;omega
   obtain⟨i2,hi2⟩:∃ i2,i2=2*k:=⟨_,rfl⟩;rw[<- hi2] at e0 e1 z1 z2 z3 ⊢;have HI2:=hid hi2;clear hso hi2 hn;go_wp2;exact⟨⟨k+1,by simp,congrArg (Value.int .i64) (by have:=HI2.out;omega),by omega,rfl⟩,by have:=HN.out;have:=HI2.out;simp[intOf];omega⟩
  ·obtain rfl:k=m:=by omega
   have z1:¬ ((2*k:Nat):Int)<n:=by omega
   have hk0:decide (k=0)=false:=decide_eq_false (by omega);rw[hk0];obtain⟨i2,hi2⟩:∃ i2,i2=2*k:=⟨_,rfl⟩;rw[<- hi2] at z1 ⊢;clear hi2 hn hk0;go_wp2_with fail;go_loopw [12] (fun s12 wr=>B4Rel w w.heap.size w1.heap.size tb s12 wr) (fun s12 _=>(intOf s12+2).toNat)
   case atStart=>exact⟨k,congrArg (Value.int .i64) (by have:=HN.out;omega),by omega,by rw[List.drop_of_length_le (by omega)];exact HTF.out,HU1.out.alloc _⟩
   case round=>
    clear HTF hz hsc hmk z1 yd y2;obtain⟨k2,rfl,hk2,hT,hu⟩:=hrel;have HT:=hid hT;have HU:=hid hu;have hszr:=hu.size;rcases Nat.eq_zero_or_pos k2 with h0|h0
    ·subst h0
     have hv12:2*((0:Nat):Int)-2=-2:=rfl;rw[hv12];clear hT hu hv12;go_wp2;go_ret;exact⟨_,rfl,by simpa using HT.out,HU.out⟩
    ·obtain⟨j,rfl⟩:∃ j,k2=j+1:=⟨k2-1,by omega⟩
     have hv12:2*((j+1:Nat):Int)-2=((2*j:Nat):Int):=by omega
     rw[hv12];obtain⟨e0,e1⟩:=HC.out j (by omega)
     replace e0:=(hu.cell (p:=⟨g,2*j,none⟩) hg).trans e0
     replace e1:=(hu.cell (p:=⟨g,2*j+1,none⟩) hg).trans e1
     haveI:LtW g wr:=LtW.of (Nat.lt_of_lt_of_le hg hszr);have hps:=(HS.out tb[j] (List.getElem_mem (by omega))).2;have hdr:tb.drop j=tb[j] :: tb.drop (j+1):=List.drop_eq_getElem_cons (by omega);have hnd2:((tb.drop j).map (·.1)).Nodup:=by rw[List.map_drop];exact HND.out.sublist (List.drop_sublist _ _)
     rw[hdr,List.map_cons,List.nodup_cons] at hnd2;have hnone:lookB (tb.drop (j+1)).reverse tb[j].1=none:=lookB_none (by rw[List.map_reverse,List.mem_reverse];exact hnd2.1);have hrev:(tb.drop j).reverse=(tb.drop (j+1)).reverse++[tb[j]]:=by rw[hdr,List.reverse_cons]
     have hlen:((tb.drop (j+1)).reverse.map (·.1)).length<=100:=by simp;omega
     have HREV:=hid hrev;generalize (tb.drop (j+1)).reverse=done at hT HT hnone hrev HREV hlen;generalize tb[j]'(by omega)=p at e0 e1 hps hnone hrev HREV;obtain⟨hB0,cs,hcs1,hcs2,hcs3,hcs4,v,hcs5,hcs6⟩:=hT;obtain⟨A',c',rfl,_⟩:=own_slice hcs6;have t0:wr.cell? ⟨w1.heap.size,p.1.toNat,none⟩=some (.slice none 0 0):=(zcH hcs1 _).trans (hcs3 p.1 hnone);have t1:wr.cell? ⟨w1.heap.size,256,none⟩=some (.slice A' (done.map (·.1)).length c'):=(zcH hcs1 256).trans hcs5;haveI:LtW w1.heap.size wr:=LtW.of (lt_of_heap hcs1);obtain⟨so,hso⟩:∃ so:ByteArray,so=⟨#[p.1]⟩:=⟨_,rfl⟩;rw[<- hso] at e0;have hs1:so.size=1:=by rw[hso];rfl
     have hs0:so[0]'(by omega)=p.1:=by subst hso;rfl
     have zl:(p.1.toNat:Int)<256:=by have:=byte_lt p.1;omega
     have zj1:((2*j:Nat):Int)<n:=by have:=HN.out;omega
     have zj2:(((2*j:Nat):Int)+1)<n:=by have:=HN.out;omega
     have zj3:(((2*j:Nat):Int)+1).toNat=2*j+1:=by omega
     obtain⟨i2,hi2⟩:∃ i2,i2=2*j:=⟨_,rfl⟩;rw[<- hi2] at e0 e1 zj1 zj2 zj3 ⊢;have HI2:=hid hi2;have hib:i2<=1000:=by omega
     have HO:=hid hcs6;have HB1:=hid hcs1;have HC5:=hid hcs5;have HC3:=hid hcs3;have HNO:=hid hnone;generalize hL:(done.map (·.1)).length=L at *;clear hu hv12 hdr hnd2 hrev hso hi2 hcs1 hcs2 hcs3 hcs4 hcs5 hcs6 hnone;go_wp2_with (at_builtin;refine wpList_append_own _ rfl _ _ 70 rfl w.heap.size 9 i0 (.string ⟨#[]⟩) 1 16 Tryz.underlying70 hi hz0 hz1 hz2 rfl (by decide) (.slice A' L c') L _ rfl (own_und (by apply_rules[uUe,uUa,uUb,uUc,uUd]) HO.out) _ 1 1 [.string ⟨#[p.1]⟩] rfl rfl ?_ ?_ (by unfold maxLen;omega) (by omega) ?_ ?_)
     ·refine side1c _ _ _ _ ?_
      simp
     ·intro u hu';simp at hu';subst hu';rfl
     ·simp <;> omega
     ·intro v' w4 ho4 hg4 _
      obtain⟨A'',c'',rfl,_⟩:=own_slice ho4;have hgr:=gb_trans (Und.gb (show Und wr _ from(by apply_rules[uUe,uUa,uUb,uUc,uUd])) (Value.slice A' L c').ownBlock) hg4 (fun g e=>Or.inl e);have hb4:w4.heap[w1.heap.size]?=some (Obj.cells cs bsT (0,0)):=(hgr.block w1.heap.size (lt_of_heap HB1.out) (fun e=>own_ne HO.out HB1.out (by decide) e.symm)).trans HB1.out;have c256:w4.cell? ⟨w1.heap.size,256,none⟩=some (.slice A' L c'):=(zcH hb4 256).trans HC5.out;have f256:w4.frozen? ⟨w1.heap.size,256,none⟩=false:=zfH hb4 256;haveI:LtW w1.heap.size w4:=LtW.of (lt_of_heap hb4);have hT5:=TbAt.grow HT.out t1 hgr (by rw[hL,List.map_map];exact ho4);have hu5:Und w (w4.setCell ⟨w1.heap.size,256,none⟩ (.slice A'' (L+1) c'')):=(HU.out.of_gb hgr (fun g hg=>owns_block HO.out g hg)).setCell (p:=⟨w1.heap.size,256,none⟩) hsz1 _;obtain⟨w5,hw5⟩:∃ w5,w4.setCell ⟨w1.heap.size,256,none⟩ (.slice A'' (L+1) c'')=w5:=⟨_,rfl⟩;rw[hw5] at hT5 hu5;have hcv:=Lib.run_convert_string_bytes w5 9 137 5 p.2 Tryz.underlying9 Tryz.underlying137 Tryz.underlying5;have hrow:=row_bytes w5 w.heap.size p.2 hu5.size (by omega);have hb6:Und w5 (Lib.bytesWorld w5 5 p.2):=Und.mk ⟨rfl,rfl,rfl,by rw[Lib.bytesWorld_size];omega,fun k hk=>Lib.bytesWorld_at_old w5 _ _ k hk⟩;obtain⟨w6,hw6⟩:∃ w6,Lib.bytesWorld w5 5 p.2=w6:=⟨_,rfl⟩;rw[hw6] at hcv hrow hb6;have hT6:=hT5.und hb6;have hput:=TbAt.put hT6 HNO.out hrow;obtain⟨_,cs6,h61,_,h63,_⟩:=hT6;have d0:w6.cell? ⟨w1.heap.size,p.1.toNat,none⟩=some (.slice none 0 0):=(zcH h61 _).trans (h63 p.1 HNO.out);have d1:w6.frozen? ⟨w1.heap.size,p.1.toNat,none⟩=false:=zfH h61 _;haveI:LtW w1.heap.size w6:=LtW.of (lt_of_heap h61);have hu7:=(hu5.trans hb6).setCell (p:=⟨w1.heap.size,p.1.toNat,none⟩) hsz1 (.slice (some ⟨w5.heap.size,0,none⟩) p.2.size (grownCap w5 p.2.size 0 5));have HE:=hid (And.intro hput hu7);clear hput hu7 hT5 hu5 hrow hb6 hw6 hgr hg4 ho4 hb4 h61 h63 t0 t1;go_wp2;refine⟨⟨j,congrArg (Value.int .i64) (by have:=HI2.out;omega),by omega,?_,HE.out.2⟩,by have:=HI2.out;simp[intOf];omega⟩;rw[HREV.out];have:=HE.out.1
      rw[List.map_append];exact this
end
section
def TbOk(tb:List (UInt8 × ByteArray)):Prop:=2<=tb.length/\tb.length<=100/\(∀ p ∈ tb,2<=p.2.size/\p.2.size<=100)/\(tb.map (·.1)).Nodup
def RepB(w:World)(B rb:Nat)(tb:List (UInt8 × ByteArray)):Prop:=
 B<=rb/\∃ bb,w.heap[rb]?=some (Obj.cells #[.int .u32 1,.int .i32 0,.int .u32 0,.iface 385 (.pointer (some ⟨bb,0,none⟩)),.slice none 0 0] 326 (0,0))/\TbAt w B bb tb.reverse (tb.reverse.map (·.1))
theorem RepB.und{a c:World}{B rb:Nat}{tb:List (UInt8 × ByteArray)}(h:RepB a B rb tb)(u:Und a c):RepB c B rb tb:=by
 obtain⟨h0,bb,h1,h2⟩:=h;exact⟨h0,bb,(u.below.block rb (lt_of_heap h1)).trans h1,h2.und u⟩
theorem TbAt.low{w:World}{B B' bb:Nat}{done:List (UInt8 × ByteArray)}{strs:List UInt8}(h:TbAt w B bb done strs)(hb:B'<=B):TbAt w B' bb done strs:=by
 obtain⟨h0,cs,h1,h2,h3,h4,v,h5,h6⟩:=h;refine⟨Nat.le_trans hb h0,cs,h1,h2,h3,fun x s hx=>?_,v,h5,own_low h6 hb⟩;obtain⟨v',k1,g,cap,cb,fr,e1,e2,e3⟩:=h4 x s hx;exact⟨v',k1,g,cap,cb,fr,e1,Nat.le_trans hb e2,e3⟩
theorem TbAt.set{w:World}{B bb:Nat}{done:List (UInt8 × ByteArray)}{strs:List UInt8}(h:TbAt w B bb done strs){q i:Nat}{u:Value}{cs:Array Value}{fr:Nat × Nat}(hq:w.heap[q]?=some (.cells cs 326 fr)):TbAt (w.setCell ⟨q,i,none⟩ u) B bb done strs:=by
 obtain⟨h0,cs',h1,h2,h3,h4,v,h5,h6⟩:=h;have hgb:=gb_set w ⟨q,i,none⟩ u
 have hne:bb ≠ q:=fun e=>by
  subst e;rw[h1] at hq;simp only[Option.some.injEq,Obj.cells.injEq] at hq;exact absurd hq.2.1 (by decide)
 refine⟨h0,cs',(hgb.block bb (lt_of_heap h1) (by simpa using hne)).trans h1,h2,h3,fun x s hx=>?_,v,h5,own_set h6 (own_ne h6 hq (by decide))⟩;obtain⟨v',k1,g,cap,cb,fr',e1,e2,e3,e4,e5⟩:=h4 x s hx
 have hng:g ≠ q:=fun e=>by
  subst e;rw[e4] at hq;simp only[Option.some.injEq,Obj.cells.injEq] at hq;exact absurd hq.2.1 (by decide)
 exact⟨v',k1,g,cap,cb,fr',e1,e2,e3,(hgb.block g (lt_of_heap e4) (by simpa using hng)).trans e4,e5⟩
theorem TbAt.drew{w:World}{B bb:Nat}{done:List (UInt8 × ByteArray)}{strs:List UInt8}(h:TbAt w B bb done strs):TbAt w.drew B bb done strs:=h.und ((Und.refl w).drew)
def BoEnd(w0:World)(B rb:Nat)(tb:List (UInt8 × ByteArray))(w:World):Prop:=
 ∃ bb,w.heap[rb]?=some (Obj.cells #[.int .u32 0,.int .i32 1,.int .u32 0,.iface 385 (.pointer (some ⟨bb,0,none⟩)),.slice none 0 0] 326 (0,0))/\TbAt w B bb tb.reverse (tb.reverse.map (·.1))/\Below B w0 w
theorem once_any(B rb:Nat)(tb:List (UInt8 × ByteArray))(w:World)(hR:RepF w B rb (osOf tb))(hk:TbOk tb)(hB:B<=w.heap.size) :
  Calls Tryz.prog 221 #[.pointer (some ⟨rb,0,none⟩)] (w.setCell ⟨rb,1,none⟩ (.int .i32 1)) fun e w'=>e=.returned (.tuple #[])/\BoEnd w B rb tb w':=by
 obtain⟨hBr,v,hbk,hown⟩:=hR;have hb1:(w.setCell ⟨rb,1,none⟩ (.int .i32 1)).heap[rb]?=some (Obj.cells #[.int .u32 0,.int .i32 1,.int .u32 0,.nilIface,v] 326 (0,0)):=heap_setCell_same w rb 1 _ _ _ hbk;have ho1:(w.setCell ⟨rb,1,none⟩ (.int .i32 1)).ownsRow B 9 1 v (osOf tb).length ((osOf tb).map Value.string):=own_set hown (own_ne hown hbk (by decide));have hbl1:Below B w (w.setCell ⟨rb,1,none⟩ (.int .i32 1)):=(Below.refl B w).setCell (p:=⟨rb,1,none⟩) hBr _;obtain⟨w1,hw1⟩:∃ w1,w.setCell ⟨rb,1,none⟩ (.int .i32 1)=w1:=⟨_,rfl⟩;rw[hw1] at hb1 ho1 hbl1 ⊢;obtain⟨k1,k2,k3,k4⟩:=hk;have HBD:=hid (build_any B rb tb w1 1 ⟨hBr,v,hb1,ho1⟩ k1 k2 k3 k4);have HB1:=hid hb1;have HBL:=hid hbl1;have hsz1:=hbl1.size;haveI:LtW rb w1:=LtW.of (lt_of_heap hb1);clear hb1 ho1 hbl1 hw1 hbk hown k3 k4;go_enter Tryz.func221,Tryz.ntmps221;go_wp2_with fail;refine HBD.out.mono ?_;rintro e w2 ⟨bb,rfl,hT,hu⟩;have hb2:=(hu.below.block rb (lt_of_heap HB1.out)).trans HB1.out;have c3:w2.cell? ⟨rb,3,none⟩=some .nilIface:=zcH hb2 3;have f3:w2.frozen? ⟨rb,3,none⟩=false:=zfH hb2 3;have c4:w2.cell? ⟨rb,4,none⟩=some v:=zcH hb2 4;have f4:w2.frozen? ⟨rb,4,none⟩=false:=zfH hb2 4;haveI:LtW rb w2:=LtW.of (lt_of_heap hb2);have hbl2:Below B w w2:=Below.trans HBL.out (hu.below.mono (by omega));have hb3:=heap_setCell_same w2 rb 3 _ _ (.iface 385 (.pointer (some ⟨bb,0,none⟩))) hb2;have hb4:=heap_setCell_same _ rb 4 _ _ (.slice none 0 0) hb3;have hT4:=((hT.low (by omega:B<=w1.heap.size)).set (i:=3) (u:=.iface 385 (.pointer (some ⟨bb,0,none⟩))) hb2).set (i:=4) (u:=.slice none 0 0) hb3;have HE:=hid (show BoEnd w B rb tb ((w2.setCell ⟨rb,3,none⟩ (.iface 385 (.pointer (some ⟨bb,0,none⟩)))).setCell ⟨rb,4,none⟩ (.slice none 0 0)) from⟨bb,hb4,hT4,(hbl2.setCell (p:=⟨rb,3,none⟩) hBr _).setCell (p:=⟨rb,4,none⟩) hBr _⟩);clear hT hu hb2 hbl2 hb3 hb4 hT4 HBD;go_wp2;go_end0;exact⟨rfl,HE.out⟩
theorem repdo_first(B rb:Nat)(tb:List (UInt8 × ByteArray))(w:World)(hR:RepF w B rb (osOf tb))(hk:TbOk tb)(hB:B<=w.heap.size) :
  Calls Tryz.prog 220 #[.pointer (some ⟨rb,0,none⟩),.func (.func 221) #[.pointer (some ⟨rb,0,none⟩)] #[]] w fun e w'=>e=.returned (.tuple #[])/\RepB w' B rb tb/\Below B w w':=by
 have hR0:=hR;obtain⟨hBr,v,hbk,hown⟩:=hR;refine(do_first rb w (BoEnd w B rb tb) (zcH hbk 0) (zcH hbk 1) (zfH hbk 0) (zfH hbk 1) (once_any B rb tb w hR0 hk hB) ?_).mono ?_
 ·rintro w2 ⟨bb,h,_,_⟩
  exact⟨zcH h 0,zcH h 1,zfH h 0,zfH h 1⟩
 ·rintro e w' ⟨rfl,w2,⟨bb,h,hT,hb⟩,rfl⟩
  have h1:w2.drew.heap[rb]?=_:=h;have h2:=heap_setCell_same w2.drew rb 0 _ _ (.int .u32 1) h1;have h3:=heap_setCell_same _ rb 1 _ _ (.int .i32 0) h2;refine⟨rfl,⟨hBr,bb,h3,(hT.drew.set h1).set h2⟩,(Below.setCell (p:=⟨rb,1,none⟩) (Below.setCell (p:=⟨rb,0,none⟩) hb.drew hBr _) hBr _)⟩
theorem repdo_done(B rb:Nat)(tb:List (UInt8 × ByteArray))(fv:Value)(w:World)(hR:RepB w B rb tb) :
  Calls Tryz.prog 220 #[.pointer (some ⟨rb,0,none⟩),fv] w fun e w'=>e=.returned (.tuple #[])/\w'=w:=by
 obtain⟨_,bb,h,_⟩:=hR;exact do_done rb fv w (zcH h 0)
end
section
def rpB(tb:List (UInt8 × ByteArray))(c:UInt8):List UInt8:=match lookB tb c with
 | some t=>t.data.toList
 | none=>[c]
def exB(tb:List (UInt8 × ByteArray))(c:UInt8):Nat:=(rpB tb c).length-1
theorem rp_some{tb:List (UInt8 × ByteArray)}{c:UInt8}{t:ByteArray}(h:lookB tb c=some t):rpB tb c=t.data.toList:=by unfold rpB;rw[h]
theorem rp_none{tb:List (UInt8 × ByteArray)}{c:UInt8}(h:lookB tb c=none):rpB tb c=[c]:=by unfold rpB;rw[h]
theorem ex_some{tb:List (UInt8 × ByteArray)}{c:UInt8}{t:ByteArray}(h:lookB tb c=some t):exB tb c=t.size-1:=by unfold exB;rw[rp_some h];simp
theorem ex_none{tb:List (UInt8 × ByteArray)}{c:UInt8}(h:lookB tb c=none):exB tb c=0:=by unfold exB;rw[rp_none h];rfl
theorem lookB_mem{tb:List (UInt8 × ByteArray)}{c:UInt8}{t:ByteArray}(h:lookB tb c=some t):(c,t) ∈ tb:=by
 induction tb with
 | nil=>cases h
 | cons p r ih=>
  rw[lookB] at h
  split at h
  ·rename_i e
   simp only[Option.some.injEq] at h;subst e h;exact List.mem_cons_self
  ·exact List.mem_cons_of_mem _ (ih h)
theorem lookB_isSome{tb:List (UInt8 × ByteArray)}{c:UInt8}(h:c ∈ tb.map (·.1)):∃ t,lookB tb c=some t:=by
 cases e:lookB tb c with
 | some t=>exact⟨t,rfl⟩
 | none=>
  exfalso
  induction tb with
  | nil=>simp at h
  | cons p r ih=>
   rw[lookB] at e
   split at e
   ·cases e
   ·rename_i hne
    simp only[List.map_cons,List.mem_cons] at h;rcases h with h|h
    ·exact hne h.symm
    ·exact ih h e
def TbSz(tb:List (UInt8 × ByteArray)):Prop:=∀ p ∈ tb,2<=p.2.size/\p.2.size<=100
theorem rp_len{tb:List (UInt8 × ByteArray)}(h:TbSz tb)(c:UInt8):(rpB tb c).length=exB tb c+1/\exB tb c<=99:=by
 cases e:lookB tb c with
 | some t=>
  have:=h _ (lookB_mem e)
  rw[rp_some e,ex_some e];simp at this ⊢;omega
 | none=>rw[rp_none e,ex_none e];simp
def sumE(tb:List (UInt8 × ByteArray))(l:List UInt8):Nat:=(l.map (exB tb)).sum
theorem sumE_take{tb:List (UInt8 × ByteArray)}{l:List UInt8}{k:Nat}(h:k<l.length):sumE tb (l.take (k+1))=sumE tb (l.take k)+exB tb l[k]:=by
 unfold sumE;rw[List.take_add_one,List.getElem?_eq_getElem h];simp only[List.map_append,List.sum_append,Option.toList_some,List.map_cons,List.map_nil,List.sum_cons,List.sum_nil,Nat.add_zero]
theorem flat_len{tb:List (UInt8 × ByteArray)}(h:TbSz tb)(l:List UInt8):(l.flatMap (rpB tb)).length=l.length+sumE tb l:=by
 induction l with
 | nil=>rfl
 | cons c l ih=>
  have:=(rp_len h c).1
  simp only[List.flatMap_cons,List.length_append,List.length_cons,sumE,List.map_cons,List.sum_cons] at ih ⊢;omega
theorem sumE_le{tb:List (UInt8 × ByteArray)}(h:TbSz tb)(l:List UInt8):sumE tb l<=99*l.length:=by
 induction l with
 | nil=>simp[sumE]
 | cons c l ih=>
  have:=(rp_len h c).2
  simp only[sumE,List.map_cons,List.sum_cons,List.length_cons] at ih ⊢;omega
theorem flat_same{tb:List (UInt8 × ByteArray)}{l:List UInt8}(h:∀ c ∈ l,lookB tb c=none):l.flatMap (rpB tb)=l:=by
 induction l with
 | nil=>rfl
 | cons c l ih=>rw[List.flatMap_cons,rp_none (h c (by simp)),ih (fun d hd=>h d (by simp[hd]))];rfl
def cntS(tb:List (UInt8 × ByteArray))(strs l:List UInt8):Nat:=(strs.map fun a=>l.count a*exB tb a).sum
theorem cntS_take{tb:List (UInt8 × ByteArray)}{strs l:List UInt8}{k:Nat}(h:k<strs.length):cntS tb (strs.take (k+1)) l=cntS tb (strs.take k) l+l.count strs[k]*exB tb strs[k]:=by
 unfold cntS;rw[List.take_add_one,List.getElem?_eq_getElem h];simp only[List.map_append,List.sum_append,Option.toList_some,List.map_cons,List.map_nil,List.sum_cons,List.sum_nil,Nat.add_zero]
theorem cntS_cons(tb:List (UInt8 × ByteArray))(strs l:List UInt8)(c:UInt8)(hn:strs.Nodup):cntS tb strs (c :: l)=cntS tb strs l+if c ∈ strs then exB tb c else 0:=by
 induction strs with
 | nil=>simp[cntS]
 | cons a r ih=>
  have hn':=List.nodup_cons.1 hn;have:=ih hn'.2
  simp only[cntS,List.map_cons,List.sum_cons] at this ⊢;rw[List.count_cons,this]
  by_cases e:c=a
  ·subst e
   rw[if_neg hn'.1,if_pos (by simp)];simp[Nat.add_mul];omega
  ·have e2:(c==a)=false:=by simpa using e
   rw[e2];simp only[Bool.false_eq_true,if_false,Nat.add_zero,List.mem_cons,e,false_or];omega
theorem cntS_all{tb:List (UInt8 × ByteArray)}{strs:List UInt8}(hn:strs.Nodup)(hs:∀ c,c ∉ strs->exB tb c=0)(l:List UInt8):cntS tb strs l=sumE tb l:=by
 induction l with
 | nil=>
  have:∀ s:List UInt8,(s.map fun _=>0).sum=0:=fun s=>by induction s with
   | nil=>rfl
   | cons a s ih=>simpa using ih
  simpa [cntS,sumE] using this strs
 | cons c l ih=>
  rw[cntS_cons _ _ _ _ hn,ih];simp only[sumE,List.map_cons,List.sum_cons]
  split
  ·omega
  ·rename_i h;rw[hs c h];omega
theorem cntS_le{tb:List (UInt8 × ByteArray)}(h:TbSz tb)(strs l:List UInt8):cntS tb strs l<=strs.length*(l.length*99):=by
 induction strs with
 | nil=>simp[cntS]
 | cons a r ih=>
  have h1:=(rp_len h a).2;have h2:l.count a<=l.length:=List.count_le_length;have h3:l.count a*exB tb a<=l.length*99:=Nat.mul_le_mul h2 h1;simp only[cntS,List.map_cons,List.sum_cons,List.length_cons] at ih ⊢;rw[Nat.add_mul];omega
end
section
def CnRel(w:World)(tb:List (UInt8 × ByteArray))(strs l:List UInt8)(s5 s6 s32:Value)(wr:World):Prop:=
 ∃ j:Nat,s32=.int .i64 j/\j<=strs.length/\s5=.int .i64 ((l.length+cntS tb (strs.take j) l:Nat):Int)/\s6=.bool ((strs.take j).any fun a=>decide (0<l.count a))/\Und w wr
def BtRel(w:World)(tb:List (UInt8 × ByteArray))(l:List UInt8)(s5 s6 s10:Value)(wr:World):Prop:=
 ∃ k:Nat,s10=.int .i64 k/\k<=l.length/\s5=.int .i64 ((l.length+sumE tb (l.take k):Nat):Int)/\s6=.bool ((l.take k).any fun c=>(lookB tb c).isSome)/\Und w wr
def WrRel(w:World)(gb N:Nat)(tb:List (UInt8 × ByteArray))(l:List UInt8)(s13 s14:Value)(wr:World):Prop:=
 ∃ (k:Nat) (cur:Array Value) (rest:List Value),s14=.int .i64 k/\k<=l.length/\s13=.int .i64 (((l.take k).flatMap (rpB tb)).length:Nat)/\wr.heap[gb]?=some (.cells cur 5 (0,0))/\cur.size=N/\cur.toList=Lib.byteCells ((l.take k).flatMap (rpB tb))++rest/\Und w wr
theorem any_take{α:Type}(l:List α)(p:α->Bool)(k:Nat)(h:k<l.length):(l.take (k+1)).any p=((l.take k).any p || p l[k]):=by
 rw[List.take_add_one,List.getElem?_eq_getElem h,List.any_append];simp
theorem flat_take{tb:List (UInt8 × ByteArray)}{l:List UInt8}{k:Nat}(h:k<l.length):(l.take (k+1)).flatMap (rpB tb)=(l.take k).flatMap (rpB tb)++rpB tb l[k]:=by
 rw[List.take_add_one,List.getElem?_eq_getElem h,List.flatMap_append];simp
theorem flat_le{tb:List (UInt8 × ByteArray)}(l:List UInt8)(k:Nat):((l.take k).flatMap (rpB tb)).length<=(l.flatMap (rpB tb)).length:=by
 conv=>rhs;rw[<- List.take_append_drop k l,List.flatMap_append,List.length_append]
 omega
theorem cells_app(a b:List UInt8):Lib.byteCells (a++b)=Lib.byteCells a++Lib.byteCells b:=by simp[Lib.byteCells]
theorem rcells_len(a:List UInt8):(Lib.byteCells a).length=a.length:=by simp[Lib.byteCells]
theorem make_zero(N:Nat)(hN:N<=16700000):∃ cs:Array Value,(∀ W:World,(Instr.makeSlice 137 (.int .i64 (N:Int)) (.int .i64 (N:Int))).run Tryz.prog W=.ok (.slice (some ⟨W.heap.size,0,none⟩) N N) (W.alloc (.cells cs 5)))/\cs.size=N:=by
 obtain⟨i,hi,hz0,hz1,hz2⟩:=info_parts info_byte;refine⟨madeCells (Value.cells (.int .u8 0)) (N*i.size),fun W=>?_,?_⟩
 ·have:=run_make (P:=Tryz.prog) W 137 5 i (.int .u8 0) Tryz.underlying137 hi hz0 .i64 .i64 (N:Int) (N:Int) (by omega) (by omega) (by rw[hz2];omega) (by omega)
  simpa using this
 ·rw[size_madeCells,hz1,Nat.mul_one]
theorem conv_cells(W:World)(g N:Nat)(cur:Array Value)(out:List UInt8)(hg:W.heap[g]?=some (.cells cur 5 (0,0)))(hc:cur.toList=Lib.byteCells out)(hN:out.length=N) :
  (convert 137 9 (.slice (some ⟨g,0,none⟩) N N)).run Tryz.prog W=.ok (.string ⟨out.toArray⟩) W:=by
 rw[run_convert_bytes_arg W 137 5 Tryz.underlying137 Tryz.underlying5 g 0 N N (out.map fun x=>(x.toNat:Int)) (by simpa using hN) (fun i hi=>by
  rw[Nat.zero_add,zcH hg i,<- Array.getElem?_toList,hc];have hil:i<out.length:=by omega
  simp[Lib.byteCells,List.getD_eq_getElem?_getD,hil]) _ Tryz.underlying9]
 simp[strOfNums,Function.comp_def]
theorem run_any(B bb:Nat)(tb:List (UInt8 × ByteArray))(s:ByteArray)(w:World)(h:TbAt w B bb tb (tb.map (·.1)))(hz:TbSz tb)(hl:tb.length<=100)(hnd:(tb.map (·.1)).Nodup)(hs:s.size<=160000) :
  Calls Tryz.prog 345 #[.pointer (some ⟨bb,0,none⟩),.string s] w fun e w'=>e=.returned (.string ⟨(s.data.toList.flatMap (rpB tb)).toArray⟩)/\Und w w':=by
 have hT:=h;obtain⟨_,cs,h1,h2,h3,h4,v,h5,h6⟩:=h;obtain⟨A,c,rfl,_⟩:=own_slice h6;have g256:w.cell? ⟨bb,256,none⟩=some (.slice A (tb.map (·.1)).length c):=(zcH h1 256).trans h5;haveI:LtW bb w:=LtW.of (lt_of_heap h1);have hml:(tb.map (·.1)).length=tb.length:=by simp
 have hlen:=St.len_list s;have HLEN:=hid hlen;have hfl:=flat_len hz s.data.toList;have hsl:=sumE_le hz s.data.toList;rw[hlen] at hfl hsl;obtain⟨N,hN⟩:∃ N,N=(s.data.toList.flatMap (rpB tb)).length:=⟨_,rfl⟩;have HN:=hid hN;rw[<- hN] at hfl;have hN2:N<=16000000:=by omega
 have HFL:=hid hfl;have HT:=hid hT;have HZ:=hid hz;have HROW:=hid h6;obtain⟨m,hm⟩:∃ m,tb.length=m:=⟨_,rfl⟩;rw[hml,hm] at g256;have HM:=hid hm;rw[hm] at hl;clear h1 h2 h3 h4 h5 h6 hT hlen hfl hN hml hm
 by_cases hbr:m*8<=s.size
 ·have y1:(m:Int)*8<=(s.size:Int):=by omega
  go_enter Tryz.func345,Tryz.ntmps345;go_wp2_with fail;go_loopw [5,6,32] (fun s5 s6 s32 wr=>CnRel w tb (tb.map (·.1)) s.data.toList s5 s6 s32 wr) (fun _ _ s32 _=>m+1-(intOf s32).toNat)
  case atStart=>exact⟨0,rfl,by omega,by simp[cntS,HLEN.out],rfl,Und.refl _⟩
  case round=>
   obtain⟨j,rfl,hj,hs5,rfl,hu⟩:=hrel;have HU:=hid hu;have hjl:(tb.map (·.1)).length=m:=by rw[List.length_map,HM.out]
   by_cases hjm:j<m
   ·obtain⟨g,rfl,_,hg,hcells⟩:=own_cell HROW.out (by rw[hjl];omega)
    have hcj:w.cell? ⟨g,j,none⟩=some (.string ⟨#[(tb.map (·.1))[j]'(by omega)]⟩):=hcells j _ (by rw[List.getElem?_map,List.getElem?_eq_getElem (by omega)];rfl);have cj:=(hu.cell (p:=⟨g,j,none⟩) hg).trans hcj;haveI:LtW g wr:=LtW.of (Nat.lt_of_lt_of_le hg hu.size);have hmem:(tb.map (·.1))[j]'(by omega) ∈ tb.map (·.1):=List.getElem_mem _;have hcs:=cntS_take (tb:=tb) (strs:=tb.map (·.1)) (l:=s.data.toList) (k:=j) (by omega);have hany:=any_take (tb.map (·.1)) (fun a=>decide (0<s.data.toList.count a)) j (by omega);generalize (tb.map (·.1))[j]'(by omega)=a at cj hmem hcs hany;obtain⟨t,ht⟩:=lookB_isSome hmem;have hle:=cntS_le HZ.out ((tb.map (·.1)).take j) s.data.toList;rw[List.length_take,HLEN.out] at hle;have hle2:min j (tb.map (·.1)).length*(s.size*99)<=100*(160000*99):=Nat.mul_le_mul (by omega) (by omega);have hcl:s.data.toList.count a<=s.size:=by rw[<- HLEN.out];exact List.count_le_length
    have hts:=(HZ.out _ (lookB_mem ht)).1;have hts2:=(HZ.out _ (lookB_mem ht)).2;simp only at hts hts2;rw[ex_some ht] at hcs;have htw:=HT.out.und hu;obtain⟨_,cs2,k1,_,_,k4,_⟩:=htw;obtain⟨v2,k5,k6⟩:=k4 a t ht;obtain⟨g2,cap2,cb2,fr2,rfl,_,_,_,_⟩:=k6;have ca:wr.cell? ⟨bb,a.toNat,none⟩=some (.slice (some ⟨g2,0,none⟩) t.size cap2):=(zcH k1 _).trans k5;haveI:LtW bb wr:=LtW.of (lt_of_heap k1);have zl:(a.toNat:Int)<256:=by have:=byte_lt a;omega
    have hco:=hid (fun W=>Tryz.strings_Count_one s a W);obtain⟨so,hso⟩:∃ so:ByteArray,so=⟨#[a]⟩:=⟨_,rfl⟩;rw[<- hso] at cj hco;have hs1:so.size=1:=by rw[hso];rfl
    have hs0:so[0]'(by omega)=a:=by subst hso;rfl
    have hcb:Lib.countByte s.data.toList a=s.data.toList.count a:=rfl;rw[hcb] at hco;obtain⟨q,hq⟩:∃ q,q=s.data.toList.count a:=⟨_,rfl⟩;rw[<- hq] at hco hcs hany hcl;obtain⟨P0,hP0⟩:∃ P0,P0=s.data.toList.length+cntS tb ((tb.map (·.1)).take j) s.data.toList:=⟨_,rfl⟩;rw[<- hP0] at hs5;subst hs5;have hP1:P0<=2000000000:=by rw[hP0,HLEN.out];omega
    have zj:(j:Int)<m:=by omega
    have hqt:q*(t.size-1)<=160000*99:=Nat.mul_le_mul (by omega) (by omega);have hQ:(q:Int)*((t.size:Int)-1)=((q*(t.size-1):Nat):Int):=by rw[Int.natCast_mul,Int.natCast_sub (by omega)];rfl
    have hPn:s.data.toList.length+cntS tb ((tb.map (·.1)).take (j+1)) s.data.toList=P0+q*(t.size-1):=by rw[hcs,hP0];omega
    have HPN:=hid hPn;have HANY:=hid hany;obtain⟨Q0,hQ0⟩:∃ Q0,Q0=q*(t.size-1):=⟨_,rfl⟩;rw[<- hQ0] at hQ HPN hqt;have HQ0:=hid hQ0;generalize hb0:((tb.map (·.1)).take j).any (fun a=>decide (0<s.data.toList.count a))=b0 at HANY;clear hcs hany hle hle2 hcj hcells hP0 hPn hq hso hmem k1 k4 k5 hQ0
    by_cases hq0:q=0
    ·have zq:((q:Int)==0)=true:=by simp;omega
     have zq2:((q:Int) != 0)=false:=by simp;omega
     have hq00:Q0=0:=by rw[HQ0.out,hq0];simp
     have HQZ:=hid (And.intro hq0 hq00);clear hq0 hq00;go_wp2_with fail;refine(hco.out _).mono ?_;rintro e w2 ⟨rfl,rfl⟩;go_wp2;refine⟨⟨j+1,congrArg (Value.int .i64) (by omega),by omega,?_,?_,HU.out⟩,by simp[intOf];omega⟩
     ·rw[HPN.out,HQZ.out.2];rfl
     ·rw[HANY.out,HQZ.out.1];simp
    ·have zq:((q:Int)==0)=false:=by simp;omega
     have zq2:((q:Int) != 0)=true:=by simp;omega
     have HQZ:=hid hq0;clear hq0;go_wp2_with fail;refine(hco.out _).mono ?_;rintro e w2 ⟨rfl,rfl⟩;go_wp2_with fail;go_quiet (fail);go_wp2;refine⟨⟨j+1,congrArg (Value.int .i64) (by omega),by omega,?_,?_,HU.out.trans ((Und.refl _).drewN _)⟩,by simp[intOf];omega⟩
     ·rw[HPN.out];exact congrArg (Value.int .i64) (by omega)
     ·rw[HANY.out];simp;have:=HQZ.out;omega
   ·obtain rfl:j=m:=by omega
    have htk:(tb.map (·.1)).take j=tb.map (·.1):=List.take_of_length_le (by omega);rw[htk] at hs5 ⊢;have hal:=cntS_all (tb:=tb) (strs:=tb.map (·.1)) hnd (fun c hc=>ex_none (lookB_none hc)) s.data.toList;rw[hal,HLEN.out,<- HFL.out] at hs5;subst hs5
    have hno:((tb.map (·.1)).any fun a=>decide (0<s.data.toList.count a))=false->s.data.toList.flatMap (rpB tb)=s.data.toList:=by
     intro hf;refine flat_same fun c hc=>lookB_none fun hm=>?_
     have:=List.any_eq_false.1 hf c hm
     simp only[decide_eq_true_eq] at this;exact this (List.count_pos_iff.2 hc)
    have HNO:=hid hno;generalize ((tb.map (·.1)).any fun a=>decide (0<s.data.toList.count a))=b0 at HNO ⊢;have zj:¬ (j:Int)<j:=by omega
    clear htk hal hno hjm;cases b0
    ·have HSM:=hid (HNO.out rfl)
     clear HNO;go_wp2;go_ret;refine⟨?_,HU.out⟩;rw[HSM.out,ba_eta];rfl
    ·clear HNO
     obtain⟨cz,hmk,hcz⟩:=make_zero N (by omega);have hmk2:=hmk wr;have hb0:=heap_alloc_new wr (.cells cz 5);have hu0:Und w (wr.alloc (.cells cz 5)):=HU.out.alloc _;obtain⟨wq,hwq⟩:∃ wq,wq=wr:=⟨_,rfl⟩;subst hwq;have HB0:=hid hb0;have HU0:=hid hu0;have hszw:=HU.out.size;clear hmk hb0 hu0;go_wp2_with fail;go_loopw [13,14] (fun s13 s14 wr=>WrRel w wq.heap.size N tb s.data.toList s13 s14 wr) (fun _ s14 _=>s.size+1-(intOf s14).toNat)
     case atStart=>exact⟨0,cz,cz.toList,rfl,by omega,rfl,HB0.out,hcz,rfl,HU0.out⟩
     case round=>
      clear HB0 HU0 hmk2;obtain⟨k,cur,rest,rfl,hk,rfl,hbk,hcu,hcl,hux⟩:=hrel;rw[HLEN.out] at hk;have HUX:=hid hux;haveI:LtW wq.heap.size wr:=LtW.of (lt_of_heap hbk)
      by_cases hkm:k<s.size
      ·have zk:(k:Int)<s.size:=by omega
       have hgk:s.data.toList[k]'(by rw[HLEN.out];exact hkm)=s[k]:=by simp;rfl
       have hft:=flat_take (tb:=tb) (l:=s.data.toList) (k:=k) (by rw[HLEN.out];exact hkm);rw[hgk] at hft;have hfle:=flat_le (tb:=tb) s.data.toList (k+1);rw[hft,List.length_append,<- HN.out] at hfle;have htw:=HT.out.und hux;obtain⟨_,cs2,k1,_,k3,k4,_⟩:=htw;haveI:LtW bb wr:=LtW.of (lt_of_heap k1);have zl:(s[k].toNat:Int)<256:=by have:=byte_lt s[k];omega
       have HFT:=hid hft;have hcl2:cur.toList.length=N:=by simp[hcu]
       obtain⟨p,hp⟩:∃ p,p=((s.data.toList.take k).flatMap (rpB tb)).length:=⟨_,rfl⟩;rw[<- hp] at hfle ⊢;have hrl:rest.length=N-p:=by rw[hcl,List.length_append,rcells_len,<- hp] at hcl2;omega
       have HP:=hid hp;cases hlk:lookB tb s[k] with
       | none=>
        have ca:wr.cell? ⟨bb,s[k].toNat,none⟩=some (.slice none 0 0):=(zcH k1 _).trans (k3 _ hlk);rw[rp_none hlk] at hfle HFT;simp only[List.length_singleton] at hfle;have zp:(p:Int)<N:=by omega
        obtain⟨r0,rest',hre⟩:∃ r0 rest',rest=r0 :: rest':=by
         cases rest with
         | nil=>simp at hrl;omega
         | cons a b=>exact⟨a,b,rfl⟩
        have cp:wr.cell? ⟨wq.heap.size,p,none⟩=some r0:=by
         rw[zcH hbk p,<- Array.getElem?_toList,hcl,List.getElem?_append_right (by rw[rcells_len,hp];exact Nat.le_refl _),rcells_len,<- hp,hre];simp
        have fp:wr.frozen? ⟨wq.heap.size,p,none⟩=false:=zfH hbk p;have hb2:=heap_setCell_same wr wq.heap.size p _ _ (.int .u8 (s[k].toNat:Int)) hbk
        have hl2:(cur.setIfInBounds p (.int .u8 (s[k].toNat:Int))).toList=Lib.byteCells ((s.data.toList.take (k+1)).flatMap (rpB tb))++rest':=by
         rw[Array.toList_setIfInBounds,hcl,HFT.out,cells_app,List.set_append_right _ _ (by rw[rcells_len,hp];exact Nat.le_refl _),rcells_len,<- hp,hre];simp[Lib.byteCells]
        have hu2:Und w (wr.setCell ⟨wq.heap.size,p,none⟩ (.int .u8 (s[k].toNat:Int))):=hux.setCell (p:=⟨wq.heap.size,p,none⟩) hszw _;have HE:=hid (And.intro hb2 (And.intro hl2 hu2));have HPF:=hid (show ((s.data.toList.take (k+1)).flatMap (rpB tb)).length=p+1 by rw[HFT.out,List.length_append,<- hp];rfl);clear hft hfle k1 k3 k4 hlk hgk hb2 hl2 hu2 hcl hbk hux hcl2 hp;go_wp2;exact⟨⟨k+1,_,rest',congrArg (Value.int .i64) (by omega),by rw[HLEN.out];omega,by rw[HPF.out];exact congrArg (Value.int .i64) (by omega),HE.out.1,by simp[hcu],HE.out.2.1,HE.out.2.2⟩,by simp[intOf];omega⟩
       | some t=>
        obtain⟨v2,k5,k6⟩:=k4 _ t hlk;obtain⟨g2,cap2,cb2,fr2,rfl,_,k8,k9,k10⟩:=k6;have ca:wr.cell? ⟨bb,s[k].toNat,none⟩=some (.slice (some ⟨g2,0,none⟩) t.size cap2):=(zcH k1 _).trans k5;rw[rp_some hlk] at hfle HFT;rw[St.len_list] at hfle;have hts1:=(HZ.out _ (lookB_mem hlk)).1;simp only at hts1;have zp:(p:Int)<=N:=by omega
        have zNp:¬ N=p:=by omega
        have hts2:=(HZ.out _ (lookB_mem hlk)).2;simp only at hts2
        have hcp0:=run_copy_row (P:=Tryz.prog) wr.drew 137 137 3 5 wq.heap.size p (N-p) (N-p) ⟨g2,0,none⟩ t.size cap2 cur 5 (Lib.byteCells t.data.toList) Tryz.underlying137 (by kernel_rfl) hbk (by rw[rcells_len,St.len_list];exact(Nat.min_eq_left (by omega)).symm) (by
         intro j v hj
         have hjl:j<t.size:=by
          have:=(List.getElem?_eq_some_iff.1 hj).1
          rw[rcells_len,St.len_list] at this;exact this
         rw[show (⟨g2,0,none⟩:Addr).add j=⟨g2,j,none⟩ by unfold Addr.add;split <;> simp_all];have hd:wr.drew.cell? ⟨g2,j,none⟩=wr.cell? ⟨g2,j,none⟩:=World.cell?_drew _ _;rw[hd,zcH k9 j,k10 j hjl,<- hj];have hjl2:j<t.data.toList.length:=by rw[St.len_list];exact hjl
         have hjl3:t.data[j]?=some (t.data[j]'(by simpa using hjl2)):=Array.getElem?_eq_getElem _
         simp[Lib.byteCells,List.getD_eq_getElem?_getD,hjl3]) (by rw[rcells_len,St.len_list];omega) (by intro v hv;obtain⟨x,_,rfl⟩:=List.mem_map.1 hv;rfl)
        rw[rcells_len,St.len_list] at hcp0;have hb2:=setRow_heap wr.drew wq.heap.size cur (cur.toList.take p++Lib.byteCells t.data.toList++cur.toList.drop (p+t.size)).toArray 5 (0,0) hbk
        have hl2:cur.toList.take p++Lib.byteCells t.data.toList++cur.toList.drop (p+t.size)=Lib.byteCells ((s.data.toList.take (k+1)).flatMap (rpB tb))++rest.drop t.size:=by
         rw[hcl,HFT.out,cells_app,List.take_append_of_le_length (by rw[rcells_len,<- hp];exact Nat.le_refl _),List.take_of_length_le (by rw[rcells_len,<- hp];exact Nat.le_refl _),List.drop_append,List.drop_of_length_le (by rw[rcells_len,<- hp];omega),rcells_len,<- hp];simp
        have hsz2:(cur.toList.take p++Lib.byteCells t.data.toList++cur.toList.drop (p+t.size)).toArray.size=N:=by
         simp[rcells_len,hcu];omega
        obtain⟨wc,hwc⟩:∃ wc,wr.drew.setRow wq.heap.size (cur.toList.take p++Lib.byteCells t.data.toList++cur.toList.drop (p+t.size)).toArray=wc:=⟨_,rfl⟩;have hu2:Und w wc:=by rw[<- hwc];exact Und.mk (below_setRow (hux.drew).below hszw _)
        rw[hwc] at hcp0 hb2;have hcp:(Builtin.copy_ #[137,137] 3 #[.slice (some ⟨wq.heap.size,p,none⟩) (N-p) (N-p),.slice (some ⟨g2,0,none⟩) t.size cap2]).run Tryz.prog wr.drew=.ok (.int .i64 (t.size:Int)) wc:=hcp0;have HE:=hid (And.intro hb2 (And.intro hl2 (And.intro hu2 hsz2)));have HPF:=hid (show ((s.data.toList.take (k+1)).flatMap (rpB tb)).length=p+t.size by rw[HFT.out,List.length_append,<- hp,St.len_list]);have zpn:(p:Int).toNat=p:=by omega
        clear hft k1 k3 k4 k5 hlk hgk hb2 hl2 hu2 hcl hbk hux hcl2 hp hsz2 hcp0 hwc k8 k9 k10;go_wp2_with fail;refine wp_region_facts (fun _ _=>True) (fun L W=>if L 10=true then W=wc else W=wr.drew) [fun v _=>v=.int .i64 (p:Int),fun v _=>v=.slice (some ⟨wq.heap.size,0,none⟩) N N,fun v _=>v=.int .i64 (p:Int),fun v _=>v=.slice (some ⟨wq.heap.size,p,none⟩) (N-p) (N-p),fun v _=>v=.pointer (some ⟨bb,0,none⟩),fun v _=>v=.int .u8 (s[k].toNat:Int),fun v _=>v=.pointer (some ⟨bb,0,none⟩),fun v _=>v=.pointer (some ⟨bb,0,none⟩),fun v _=>v=.pointer (some ⟨bb,s[k].toNat,none⟩),fun v _=>v=.slice (some ⟨g2,0,none⟩) t.size cap2,fun v _=>v=.int .i64 (t.size:Int),fun v _=>v=.int .i64 ((p:Int)+(t.size:Int)),fun v _=>v=.int .i64 ((p:Int)+(t.size:Int))] (fun _=>trivial) (fun _ _ _ _ _=>trivial) (by kernel_rfl) (by rfl) (by kernel_rfl) (by kernel_rfl) ?frA ?hfrA ?hIA ?hobA ?hendA
        case hfrA=>
         intro ρ;simp only[putAll,Act.put,zsA,zsB,zsC,Nat.zero_add,Nat.reduceAdd];exact rfl
        case hIA=>simp
        case hobA=>
         refine ObsF.cons (fun ρ L W hR hI hL hD hO hF K hK=>?_) ?_
         ·skip
          have eo:ρ 12=.int .i64 (p:Int):=hO 12 _ 13 rfl rfl (hD.not (p:=12) rfl (by decide) hL);clear hF hD hO hR;simp only[Act.put,zsA,zsB,zsC] at hK ⊢;rw[eo] at hK ⊢;go_simp;refine hK _ _ trivial (by simpa [updB] using hI) (fun _ _=>?_);rfl
         refine ObsF.cons (fun ρ L W hR hI hL hD hO hF K hK=>?_) ?_
         ·skip
          clear hF hD hO hR;simp only[Act.put,zsA,zsB,zsC] at hK ⊢;go_simp;refine hK _ _ trivial (by simpa [updB] using hI) (fun _ _=>?_);rfl
         refine ObsF.cons (fun ρ L W hR hI hL hD hO hF K hK=>?_) ?_
         ·skip
          have eo:ρ 12=.int .i64 (p:Int):=hO 12 _ 13 rfl rfl (hD.not (p:=12) rfl (by decide) hL);clear hF hD hO hR;simp only[Act.put,zsA,zsB,zsC] at hK ⊢;rw[eo] at hK ⊢;go_simp;refine hK _ _ trivial (by simpa [updB] using hI) (fun _ _=>?_);rfl
         refine ObsF.cons (fun ρ L W hR hI hL hD hO hF K hK=>?_) ?_
         ·skip
          have f1:=allF_get hF (j:=1) (by decide);have f2:=allF_get hF (j:=2) (by decide);clear hF hD hO hR;simp only[Act.put,zsA,zsB,zsC] at hK ⊢;have e1:ρ 1=.slice (some ⟨wq.heap.size,0,none⟩) N N:=f1;have e2:ρ 2=.int .i64 (p:Int):=f2;rw[e1,e2] at hK ⊢;go_simp;refine hK _ _ trivial (by simpa [updB] using hI) (fun _ _=>?_)
          first|rfl|rw[if_neg zNp]
         refine ObsF.cons (fun ρ L W hR hI hL hD hO hF K hK=>?_) ?_
         ·skip
          clear hF hD hO hR;simp only[Act.put,zsA,zsB,zsC] at hK ⊢;go_simp;refine hK _ _ trivial (by simpa [updB] using hI) (fun _ _=>?_);rfl
         refine ObsF.cons (fun ρ L W hR hI hL hD hO hF K hK=>?_) ?_
         ·skip
          clear hF hD hO hR;simp only[Act.put,zsA,zsB,zsC] at hK ⊢;go_simp;refine hK _ _ trivial (by simpa [updB] using hI) (fun _ _=>?_);rfl
         refine ObsF.cons (fun ρ L W hR hI hL hD hO hF K hK=>?_) ?_
         ·skip
          have f4:=allF_get hF (j:=4) (by decide);clear hF hD hO hR;simp only[Act.put,zsA,zsB,zsC] at hK ⊢;have e4:ρ 4=.pointer (some ⟨bb,0,none⟩):=f4;rw[e4] at hK ⊢;go_simp;refine hK _ _ trivial (by simpa [updB] using hI) (fun _ _=>?_);rfl
         refine ObsF.cons (fun ρ L W hR hI hL hD hO hF K hK=>?_) ?_
         ·skip
          have f6:=allF_get hF (j:=6) (by decide);clear hF hD hO hR;simp only[Act.put,zsA,zsB,zsC] at hK ⊢;have e6:ρ 6=.pointer (some ⟨bb,0,none⟩):=f6;rw[e6] at hK ⊢;go_simp;refine hK _ _ trivial (by simpa [updB] using hI) (fun _ _=>?_);rfl
         refine ObsF.cons (fun ρ L W hR hI hL hD hO hF K hK=>?_) ?_
         ·skip
          have f5:=allF_get hF (j:=5) (by decide);have f7:=allF_get hF (j:=7) (by decide);clear hF hD hO hR;simp only[Act.put,zsA,zsB,zsC] at hK ⊢;have e5:ρ 5=.int .u8 (s[k].toNat:Int):=f5;have e7:ρ 7=.pointer (some ⟨bb,0,none⟩):=f7;rw[e5,e7] at hK ⊢;go_simp;refine hK _ _ trivial (by simpa [updB] using hI) (fun _ _=>?_);rfl
         refine ObsF.cons (fun ρ L W hR hI hL hD hO hF K hK=>?_) ?_
         ·skip
          have f8:=allF_get hF (j:=8) (by decide);have hLc:L 10=false:=hD.not (p:=10) rfl (by decide) hL;rw[if_neg (by rw[hLc];decide)] at hI;subst hI;clear hF hD hO hR;simp only[Act.put,zsA,zsB,zsC] at hK ⊢;have e8:ρ 8=.pointer (some ⟨bb,s[k].toNat,none⟩):=f8;rw[e8] at hK ⊢;go_simp;refine hK _ _ trivial (by simp[updB,hLc]) (fun _ _=>?_);rfl
         refine ObsF.cons (fun ρ L W hR hI hL hD hO hF K hK=>?_) ?_
         ·skip
          have f3:=allF_get hF (j:=3) (by decide);have f9:=allF_get hF (j:=9) (by decide);rw[if_neg (by rw[hL];decide)] at hI;subst hI;clear hF hD hO hR;simp only[Act.put,zsA,zsB,zsC] at hK ⊢;have e3:ρ 3=.slice (some ⟨wq.heap.size,p,none⟩) (N-p) (N-p):=f3;have e9:ρ 9=.slice (some ⟨g2,0,none⟩) t.size cap2:=f9;rw[e3,e9] at hK ⊢;go_simp;refine hK _ _ trivial (by simp[updB]) (fun _ _=>?_);rfl
         refine ObsF.cons (fun ρ L W hR hI hL hD hO hF K hK=>?_) ?_
         ·skip
          have f0:=allF_get hF (j:=0) (by decide);have f10:=allF_get hF (j:=10) (by decide);clear hF hD hO hR;simp only[Act.put,zsA,zsB,zsC] at hK ⊢;have e0:ρ 0=.int .i64 (p:Int):=f0;have e10:ρ 10=.int .i64 (t.size:Int):=f10;rw[e0,e10] at hK ⊢;go_simp;refine hK _ _ trivial (by simpa [updB] using hI) (fun _ _=>?_)
          first|rfl|exact congrArg (Value.int .i64) (IntWalk.i64_in _ (by omega))
         refine ObsF.cons (fun ρ L W hR hI hL hD hO hF K hK=>?_) ?_
         ·skip
          have f11:=allF_get hF (j:=11) (by decide);clear hF hD hO hR;simp only[Act.put,zsA,zsB,zsC] at hK ⊢;have e11:ρ 11=.int .i64 ((p:Int)+(t.size:Int)):=f11;rw[e11] at hK ⊢;go_simp;refine hK _ _ trivial (by simpa [updB] using hI) (fun _ _=>?_);rfl
         exact ObsF.nil
        case hendA=>
         intro ρ L W hR hI hL hF;rw[if_pos (hL 10 (by decide))] at hI;subst hI;obtain⟨_,_,_,_,_,_,_,_,_,_,_,_,g12,_⟩:=hF;have g12:ρ 12=.int .i64 ((p:Int)+(t.size:Int)):=g12;rw[g12];clear g12 hL hR;go_wp2;exact⟨⟨k+1,_,rest.drop t.size,congrArg (Value.int .i64) (by omega),by rw[HLEN.out];omega,by rw[HPF.out];exact congrArg (Value.int .i64) (by omega),HE.out.1,HE.out.2.2.2,HE.out.2.1,HE.out.2.2.1⟩,by simp[intOf];omega⟩
      ·obtain rfl:k=s.size:=by omega
       have htk:s.data.toList.take s.size=s.data.toList:=List.take_of_length_le (by rw[HLEN.out];omega);rw[htk] at hcl ⊢;have hcl2:cur.toList.length=N:=by simp[hcu]
       have hr0:rest=[]:=by
        rw[hcl,List.length_append,rcells_len,<- HN.out] at hcl2;exact List.eq_nil_of_length_eq_zero (by omega)
       rw[hr0,List.append_nil] at hcl;have hcv:=conv_cells wr wq.heap.size N cur (s.data.toList.flatMap (rpB tb)) hbk hcl HN.out.symm;have zk:¬ (s.size:Int)<s.size:=by omega
       clear hcl hcl2 hr0 htk hbk hkm;go_wp2;go_ret;exact⟨rfl,HUX.out⟩
 ·have y1:¬ (m:Int)*8<=(s.size:Int):=by omega
  go_enter Tryz.func345,Tryz.ntmps345;go_wp2_with fail;go_loopw [5,6,10] (fun s5 s6 s10 wr=>BtRel w tb s.data.toList s5 s6 s10 wr) (fun _ _ s10 _=>s.size+1-(intOf s10).toNat)
  case atStart=>exact⟨0,rfl,by omega,by simp[sumE,HLEN.out],rfl,Und.refl _⟩
  case round=>
   obtain⟨j,rfl,hj,hs5,rfl,hu⟩:=hrel;have HU:=hid hu;rw[HLEN.out] at hj
   by_cases hjm:j<s.size
   ·have zj:(j:Int)<s.size:=by omega
    have hgj:s.data.toList[j]'(by rw[HLEN.out];exact hjm)=s[j]:=by simp;rfl
    have hcs:=sumE_take (tb:=tb) (l:=s.data.toList) (k:=j) (by rw[HLEN.out];exact hjm);have hany:=any_take s.data.toList (fun c=>(lookB tb c).isSome) j (by rw[HLEN.out];exact hjm);rw[hgj] at hcs hany;have hle:=sumE_le HZ.out (s.data.toList.take j);rw[List.length_take,HLEN.out] at hle;obtain⟨P0,hP0⟩:∃ P0,P0=s.data.toList.length+sumE tb (s.data.toList.take j):=⟨_,rfl⟩;rw[<- hP0] at hs5;subst hs5;have hP1:P0<=2000000000:=by rw[hP0,HLEN.out];omega
    have htw:=HT.out.und hu;obtain⟨_,cs2,k1,_,k3,k4,_⟩:=htw;haveI:LtW bb wr:=LtW.of (lt_of_heap k1);have zl:(s[j].toNat:Int)<256:=by have:=byte_lt s[j];omega
    have HANY:=hid hany;generalize hb0:(s.data.toList.take j).any (fun c=>(lookB tb c).isSome)=b0 at HANY;cases hlk:lookB tb s[j] with
    | none=>
     have ca:wr.cell? ⟨bb,s[j].toNat,none⟩=some (.slice none 0 0):=(zcH k1 _).trans (k3 _ hlk);rw[ex_none hlk] at hcs;have HPN:=hid (show s.data.toList.length+sumE tb (s.data.toList.take (j+1))=P0 by rw[hcs,hP0];omega);have HLK:=hid hlk;clear hcs hany hle k1 k3 k4 hP0 hlk hgj;go_wp2;exact⟨⟨j+1,congrArg (Value.int .i64) (by omega),by rw[HLEN.out];omega,by rw[HPN.out],by rw[HANY.out,HLK.out];simp,HU.out⟩,by simp[intOf];omega⟩
    | some t=>
     obtain⟨v2,k5,k6⟩:=k4 _ t hlk;obtain⟨g2,cap2,cb2,fr2,rfl,_,_,_,_⟩:=k6;have ca:wr.cell? ⟨bb,s[j].toNat,none⟩=some (.slice (some ⟨g2,0,none⟩) t.size cap2):=(zcH k1 _).trans k5;have hts:=(HZ.out _ (lookB_mem hlk)).1;have hts2:=(HZ.out _ (lookB_mem hlk)).2;simp only at hts hts2;rw[ex_some hlk] at hcs;have HPN:=hid (show s.data.toList.length+sumE tb (s.data.toList.take (j+1))=P0+(t.size-1) by rw[hcs,hP0];omega);have HLK:=hid hlk;clear hcs hany hle k1 k3 k4 k5 hP0 hlk hgj;go_wp2;exact⟨⟨j+1,congrArg (Value.int .i64) (by omega),by rw[HLEN.out];omega,by rw[HPN.out];exact congrArg (Value.int .i64) (by omega),by rw[HANY.out,HLK.out];simp,HU.out⟩,by simp[intOf];omega⟩
   ·obtain rfl:j=s.size:=by omega
    have htk:s.data.toList.take s.size=s.data.toList:=List.take_of_length_le (by rw[HLEN.out];omega);rw[htk] at hs5 ⊢;rw[HLEN.out,<- HFL.out] at hs5;subst hs5
    have hno:(s.data.toList.any fun c=>(lookB tb c).isSome)=false->s.data.toList.flatMap (rpB tb)=s.data.toList:=by
     intro hf;refine flat_same fun c hc=>?_
     have:=List.any_eq_false.1 hf c hc
     simpa using this
    have HNO:=hid hno;generalize (s.data.toList.any fun c=>(lookB tb c).isSome)=b0 at HNO ⊢;have zj:¬ (s.size:Int)<s.size:=by omega
    clear htk hno hjm;cases b0
    ·have HSM:=hid (HNO.out rfl)
     clear HNO;go_wp2;go_ret;refine⟨?_,HU.out⟩;rw[HSM.out,ba_eta];rfl
    ·clear HNO
     obtain⟨cz,hmk,hcz⟩:=make_zero N (by omega);have hmk2:=hmk wr;have hb0:=heap_alloc_new wr (.cells cz 5);have hu0:Und w (wr.alloc (.cells cz 5)):=HU.out.alloc _;obtain⟨wq,hwq⟩:∃ wq,wq=wr:=⟨_,rfl⟩;subst hwq;have HB0:=hid hb0;have HU0:=hid hu0;have hszw:=HU.out.size;clear hmk hb0 hu0;go_wp2_with fail;go_loopw [13,14] (fun s13 s14 wr=>WrRel w wq.heap.size N tb s.data.toList s13 s14 wr) (fun _ s14 _=>s.size+1-(intOf s14).toNat)
     case atStart=>exact⟨0,cz,cz.toList,rfl,by omega,rfl,HB0.out,hcz,rfl,HU0.out⟩
     case round=>
      clear HB0 HU0 hmk2;obtain⟨k,cur,rest,rfl,hk,rfl,hbk,hcu,hcl,hux⟩:=hrel;rw[HLEN.out] at hk;have HUX:=hid hux;haveI:LtW wq.heap.size wr:=LtW.of (lt_of_heap hbk)
      by_cases hkm:k<s.size
      ·have zk:(k:Int)<s.size:=by omega
       have hgk:s.data.toList[k]'(by rw[HLEN.out];exact hkm)=s[k]:=by simp;rfl
       have hft:=flat_take (tb:=tb) (l:=s.data.toList) (k:=k) (by rw[HLEN.out];exact hkm);rw[hgk] at hft;have hfle:=flat_le (tb:=tb) s.data.toList (k+1);rw[hft,List.length_append,<- HN.out] at hfle;have htw:=HT.out.und hux;obtain⟨_,cs2,k1,_,k3,k4,_⟩:=htw;haveI:LtW bb wr:=LtW.of (lt_of_heap k1);have zl:(s[k].toNat:Int)<256:=by have:=byte_lt s[k];omega
       have HFT:=hid hft;have hcl2:cur.toList.length=N:=by simp[hcu]
       obtain⟨p,hp⟩:∃ p,p=((s.data.toList.take k).flatMap (rpB tb)).length:=⟨_,rfl⟩;rw[<- hp] at hfle ⊢;have hrl:rest.length=N-p:=by rw[hcl,List.length_append,rcells_len,<- hp] at hcl2;omega
       have HP:=hid hp;cases hlk:lookB tb s[k] with
       | none=>
        have ca:wr.cell? ⟨bb,s[k].toNat,none⟩=some (.slice none 0 0):=(zcH k1 _).trans (k3 _ hlk);rw[rp_none hlk] at hfle HFT;simp only[List.length_singleton] at hfle;have zp:(p:Int)<N:=by omega
        obtain⟨r0,rest',hre⟩:∃ r0 rest',rest=r0 :: rest':=by
         cases rest with
         | nil=>simp at hrl;omega
         | cons a b=>exact⟨a,b,rfl⟩
        have cp:wr.cell? ⟨wq.heap.size,p,none⟩=some r0:=by
         rw[zcH hbk p,<- Array.getElem?_toList,hcl,List.getElem?_append_right (by rw[rcells_len,hp];exact Nat.le_refl _),rcells_len,<- hp,hre];simp
        have fp:wr.frozen? ⟨wq.heap.size,p,none⟩=false:=zfH hbk p;have hb2:=heap_setCell_same wr wq.heap.size p _ _ (.int .u8 (s[k].toNat:Int)) hbk
        have hl2:(cur.setIfInBounds p (.int .u8 (s[k].toNat:Int))).toList=Lib.byteCells ((s.data.toList.take (k+1)).flatMap (rpB tb))++rest':=by
         rw[Array.toList_setIfInBounds,hcl,HFT.out,cells_app,List.set_append_right _ _ (by rw[rcells_len,hp];exact Nat.le_refl _),rcells_len,<- hp,hre];simp[Lib.byteCells]
        have hu2:Und w (wr.setCell ⟨wq.heap.size,p,none⟩ (.int .u8 (s[k].toNat:Int))):=hux.setCell (p:=⟨wq.heap.size,p,none⟩) hszw _;have HE:=hid (And.intro hb2 (And.intro hl2 hu2));have HPF:=hid (show ((s.data.toList.take (k+1)).flatMap (rpB tb)).length=p+1 by rw[HFT.out,List.length_append,<- hp];rfl);clear hft hfle k1 k3 k4 hlk hgk hb2 hl2 hu2 hcl hbk hux hcl2 hp;go_wp2;exact⟨⟨k+1,_,rest',congrArg (Value.int .i64) (by omega),by rw[HLEN.out];omega,by rw[HPF.out];exact congrArg (Value.int .i64) (by omega),HE.out.1,by simp[hcu],HE.out.2.1,HE.out.2.2⟩,by simp[intOf];omega⟩
       | some t=>
        obtain⟨v2,k5,k6⟩:=k4 _ t hlk;obtain⟨g2,cap2,cb2,fr2,rfl,_,k8,k9,k10⟩:=k6;have ca:wr.cell? ⟨bb,s[k].toNat,none⟩=some (.slice (some ⟨g2,0,none⟩) t.size cap2):=(zcH k1 _).trans k5;rw[rp_some hlk] at hfle HFT;rw[St.len_list] at hfle;have hts1:=(HZ.out _ (lookB_mem hlk)).1;simp only at hts1;have zp:(p:Int)<=N:=by omega
        have zNp:¬ N=p:=by omega
        have hts2:=(HZ.out _ (lookB_mem hlk)).2;simp only at hts2
        have hcp0:=run_copy_row (P:=Tryz.prog) wr.drew 137 137 3 5 wq.heap.size p (N-p) (N-p) ⟨g2,0,none⟩ t.size cap2 cur 5 (Lib.byteCells t.data.toList) Tryz.underlying137 (by kernel_rfl) hbk (by rw[rcells_len,St.len_list];exact(Nat.min_eq_left (by omega)).symm) (by
         intro j v hj
         have hjl:j<t.size:=by
          have:=(List.getElem?_eq_some_iff.1 hj).1
          rw[rcells_len,St.len_list] at this;exact this
         rw[show (⟨g2,0,none⟩:Addr).add j=⟨g2,j,none⟩ by unfold Addr.add;split <;> simp_all];have hd:wr.drew.cell? ⟨g2,j,none⟩=wr.cell? ⟨g2,j,none⟩:=World.cell?_drew _ _;rw[hd,zcH k9 j,k10 j hjl,<- hj];have hjl2:j<t.data.toList.length:=by rw[St.len_list];exact hjl
         have hjl3:t.data[j]?=some (t.data[j]'(by simpa using hjl2)):=Array.getElem?_eq_getElem _
         simp[Lib.byteCells,List.getD_eq_getElem?_getD,hjl3]) (by rw[rcells_len,St.len_list];omega) (by intro v hv;obtain⟨x,_,rfl⟩:=List.mem_map.1 hv;rfl)
        rw[rcells_len,St.len_list] at hcp0;have hb2:=setRow_heap wr.drew wq.heap.size cur (cur.toList.take p++Lib.byteCells t.data.toList++cur.toList.drop (p+t.size)).toArray 5 (0,0) hbk
        have hl2:cur.toList.take p++Lib.byteCells t.data.toList++cur.toList.drop (p+t.size)=Lib.byteCells ((s.data.toList.take (k+1)).flatMap (rpB tb))++rest.drop t.size:=by
         rw[hcl,HFT.out,cells_app,List.take_append_of_le_length (by rw[rcells_len,<- hp];exact Nat.le_refl _),List.take_of_length_le (by rw[rcells_len,<- hp];exact Nat.le_refl _),List.drop_append,List.drop_of_length_le (by rw[rcells_len,<- hp];omega),rcells_len,<- hp];simp
        have hsz2:(cur.toList.take p++Lib.byteCells t.data.toList++cur.toList.drop (p+t.size)).toArray.size=N:=by
         simp[rcells_len,hcu];omega
        obtain⟨wc,hwc⟩:∃ wc,wr.drew.setRow wq.heap.size (cur.toList.take p++Lib.byteCells t.data.toList++cur.toList.drop (p+t.size)).toArray=wc:=⟨_,rfl⟩;have hu2:Und w wc:=by rw[<- hwc];exact Und.mk (below_setRow (hux.drew).below hszw _)
        rw[hwc] at hcp0 hb2;have hcp:(Builtin.copy_ #[137,137] 3 #[.slice (some ⟨wq.heap.size,p,none⟩) (N-p) (N-p),.slice (some ⟨g2,0,none⟩) t.size cap2]).run Tryz.prog wr.drew=.ok (.int .i64 (t.size:Int)) wc:=hcp0;have HE:=hid (And.intro hb2 (And.intro hl2 (And.intro hu2 hsz2)));have HPF:=hid (show ((s.data.toList.take (k+1)).flatMap (rpB tb)).length=p+t.size by rw[HFT.out,List.length_append,<- hp,St.len_list]);have zpn:(p:Int).toNat=p:=by omega
        clear hft k1 k3 k4 k5 hlk hgk hb2 hl2 hu2 hcl hbk hux hcl2 hp hsz2 hcp0 hwc k8 k9 k10;go_wp2_with fail;refine wp_region_facts (fun _ _=>True) (fun L W=>if L 10=true then W=wc else W=wr.drew) [fun v _=>v=.int .i64 (p:Int),fun v _=>v=.slice (some ⟨wq.heap.size,0,none⟩) N N,fun v _=>v=.int .i64 (p:Int),fun v _=>v=.slice (some ⟨wq.heap.size,p,none⟩) (N-p) (N-p),fun v _=>v=.pointer (some ⟨bb,0,none⟩),fun v _=>v=.int .u8 (s[k].toNat:Int),fun v _=>v=.pointer (some ⟨bb,0,none⟩),fun v _=>v=.pointer (some ⟨bb,0,none⟩),fun v _=>v=.pointer (some ⟨bb,s[k].toNat,none⟩),fun v _=>v=.slice (some ⟨g2,0,none⟩) t.size cap2,fun v _=>v=.int .i64 (t.size:Int),fun v _=>v=.int .i64 ((p:Int)+(t.size:Int)),fun v _=>v=.int .i64 ((p:Int)+(t.size:Int))] (fun _=>trivial) (fun _ _ _ _ _=>trivial) (by kernel_rfl) (by rfl) (by kernel_rfl) (by kernel_rfl) ?frB ?hfrB ?hIB ?hobB ?hendB
        case hfrB=>
         intro ρ;simp only[putAll,Act.put,zsA,zsB,zsC,Nat.zero_add,Nat.reduceAdd];exact rfl
        case hIB=>simp
        case hobB=>
         refine ObsF.cons (fun ρ L W hR hI hL hD hO hF K hK=>?_) ?_
         ·skip
          have eo:ρ 12=.int .i64 (p:Int):=hO 12 _ 13 rfl rfl (hD.not (p:=12) rfl (by decide) hL);clear hF hD hO hR;simp only[Act.put,zsA,zsB,zsC] at hK ⊢;rw[eo] at hK ⊢;go_simp;refine hK _ _ trivial (by simpa [updB] using hI) (fun _ _=>?_);rfl
         refine ObsF.cons (fun ρ L W hR hI hL hD hO hF K hK=>?_) ?_
         ·skip
          clear hF hD hO hR;simp only[Act.put,zsA,zsB,zsC] at hK ⊢;go_simp;refine hK _ _ trivial (by simpa [updB] using hI) (fun _ _=>?_);rfl
         refine ObsF.cons (fun ρ L W hR hI hL hD hO hF K hK=>?_) ?_
         ·skip
          have eo:ρ 12=.int .i64 (p:Int):=hO 12 _ 13 rfl rfl (hD.not (p:=12) rfl (by decide) hL);clear hF hD hO hR;simp only[Act.put,zsA,zsB,zsC] at hK ⊢;rw[eo] at hK ⊢;go_simp;refine hK _ _ trivial (by simpa [updB] using hI) (fun _ _=>?_);rfl
         refine ObsF.cons (fun ρ L W hR hI hL hD hO hF K hK=>?_) ?_
         ·skip
          have f1:=allF_get hF (j:=1) (by decide);have f2:=allF_get hF (j:=2) (by decide);clear hF hD hO hR;simp only[Act.put,zsA,zsB,zsC] at hK ⊢;have e1:ρ 1=.slice (some ⟨wq.heap.size,0,none⟩) N N:=f1;have e2:ρ 2=.int .i64 (p:Int):=f2;rw[e1,e2] at hK ⊢;go_simp;refine hK _ _ trivial (by simpa [updB] using hI) (fun _ _=>?_)
          first|rfl|rw[if_neg zNp]
         refine ObsF.cons (fun ρ L W hR hI hL hD hO hF K hK=>?_) ?_
         ·skip
          clear hF hD hO hR;simp only[Act.put,zsA,zsB,zsC] at hK ⊢;go_simp;refine hK _ _ trivial (by simpa [updB] using hI) (fun _ _=>?_);rfl
         refine ObsF.cons (fun ρ L W hR hI hL hD hO hF K hK=>?_) ?_
         ·skip
          clear hF hD hO hR;simp only[Act.put,zsA,zsB,zsC] at hK ⊢;go_simp;refine hK _ _ trivial (by simpa [updB] using hI) (fun _ _=>?_);rfl
         refine ObsF.cons (fun ρ L W hR hI hL hD hO hF K hK=>?_) ?_
         ·skip
          have f4:=allF_get hF (j:=4) (by decide);clear hF hD hO hR;simp only[Act.put,zsA,zsB,zsC] at hK ⊢;have e4:ρ 4=.pointer (some ⟨bb,0,none⟩):=f4;rw[e4] at hK ⊢;go_simp;refine hK _ _ trivial (by simpa [updB] using hI) (fun _ _=>?_);rfl
         refine ObsF.cons (fun ρ L W hR hI hL hD hO hF K hK=>?_) ?_
         ·skip
          have f6:=allF_get hF (j:=6) (by decide);clear hF hD hO hR;simp only[Act.put,zsA,zsB,zsC] at hK ⊢;have e6:ρ 6=.pointer (some ⟨bb,0,none⟩):=f6;rw[e6] at hK ⊢;go_simp;refine hK _ _ trivial (by simpa [updB] using hI) (fun _ _=>?_);rfl
         refine ObsF.cons (fun ρ L W hR hI hL hD hO hF K hK=>?_) ?_
         ·skip
          have f5:=allF_get hF (j:=5) (by decide);have f7:=allF_get hF (j:=7) (by decide);clear hF hD hO hR;simp only[Act.put,zsA,zsB,zsC] at hK ⊢;have e5:ρ 5=.int .u8 (s[k].toNat:Int):=f5;have e7:ρ 7=.pointer (some ⟨bb,0,none⟩):=f7;rw[e5,e7] at hK ⊢;go_simp;refine hK _ _ trivial (by simpa [updB] using hI) (fun _ _=>?_);rfl
         refine ObsF.cons (fun ρ L W hR hI hL hD hO hF K hK=>?_) ?_
         ·skip
          have f8:=allF_get hF (j:=8) (by decide);have hLc:L 10=false:=hD.not (p:=10) rfl (by decide) hL;rw[if_neg (by rw[hLc];decide)] at hI;subst hI;clear hF hD hO hR;simp only[Act.put,zsA,zsB,zsC] at hK ⊢;have e8:ρ 8=.pointer (some ⟨bb,s[k].toNat,none⟩):=f8;rw[e8] at hK ⊢;go_simp;refine hK _ _ trivial (by simp[updB,hLc]) (fun _ _=>?_);rfl
         refine ObsF.cons (fun ρ L W hR hI hL hD hO hF K hK=>?_) ?_
         ·skip
          have f3:=allF_get hF (j:=3) (by decide);have f9:=allF_get hF (j:=9) (by decide);rw[if_neg (by rw[hL];decide)] at hI;subst hI;clear hF hD hO hR;simp only[Act.put,zsA,zsB,zsC] at hK ⊢;have e3:ρ 3=.slice (some ⟨wq.heap.size,p,none⟩) (N-p) (N-p):=f3;have e9:ρ 9=.slice (some ⟨g2,0,none⟩) t.size cap2:=f9;rw[e3,e9] at hK ⊢;go_simp;refine hK _ _ trivial (by simp[updB]) (fun _ _=>?_);rfl
         refine ObsF.cons (fun ρ L W hR hI hL hD hO hF K hK=>?_) ?_
         ·skip
          have f0:=allF_get hF (j:=0) (by decide);have f10:=allF_get hF (j:=10) (by decide);clear hF hD hO hR;simp only[Act.put,zsA,zsB,zsC] at hK ⊢;have e0:ρ 0=.int .i64 (p:Int):=f0;have e10:ρ 10=.int .i64 (t.size:Int):=f10;rw[e0,e10] at hK ⊢;go_simp;refine hK _ _ trivial (by simpa [updB] using hI) (fun _ _=>?_)
          first|rfl|exact congrArg (Value.int .i64) (IntWalk.i64_in _ (by omega))
         refine ObsF.cons (fun ρ L W hR hI hL hD hO hF K hK=>?_) ?_
         ·skip
          have f11:=allF_get hF (j:=11) (by decide);clear hF hD hO hR;simp only[Act.put,zsA,zsB,zsC] at hK ⊢;have e11:ρ 11=.int .i64 ((p:Int)+(t.size:Int)):=f11;rw[e11] at hK ⊢;go_simp;refine hK _ _ trivial (by simpa [updB] using hI) (fun _ _=>?_);rfl
         exact ObsF.nil
        case hendB=>
         intro ρ L W hR hI hL hF;rw[if_pos (hL 10 (by decide))] at hI;subst hI;obtain⟨_,_,_,_,_,_,_,_,_,_,_,_,g12,_⟩:=hF;have g12:ρ 12=.int .i64 ((p:Int)+(t.size:Int)):=g12;rw[g12];clear g12 hL hR;go_wp2;exact⟨⟨k+1,_,rest.drop t.size,congrArg (Value.int .i64) (by omega),by rw[HLEN.out];omega,by rw[HPF.out];exact congrArg (Value.int .i64) (by omega),HE.out.1,HE.out.2.2.2,HE.out.2.1,HE.out.2.2.1⟩,by simp[intOf];omega⟩
      ·obtain rfl:k=s.size:=by omega
       have htk:s.data.toList.take s.size=s.data.toList:=List.take_of_length_le (by rw[HLEN.out];omega);rw[htk] at hcl ⊢;have hcl2:cur.toList.length=N:=by simp[hcu]
       have hr0:rest=[]:=by
        rw[hcl,List.length_append,rcells_len,<- HN.out] at hcl2;exact List.eq_nil_of_length_eq_zero (by omega)
       rw[hr0,List.append_nil] at hcl;have hcv:=conv_cells wr wq.heap.size N cur (s.data.toList.flatMap (rpB tb)) hbk hcl HN.out.symm;have zk:¬ (s.size:Int)<s.size:=by omega
       clear hcl hcl2 hr0 htk hbk hkm;go_wp2;go_ret;exact⟨rfl,HUX.out⟩
end
section
theorem TbOk.sz{tb:List (UInt8 × ByteArray)}(h:TbOk tb):TbSz tb.reverse:=fun p hp=>h.2.2.1 p (List.mem_reverse.1 hp)
theorem RepB.low{w:World}{B B' rb:Nat}{tb:List (UInt8 × ByteArray)}(h:RepB w B rb tb)(hb:B'<=B):RepB w B' rb tb:=by
 obtain⟨h0,bb,h1,h2⟩:=h;exact⟨Nat.le_trans hb h0,bb,h1,h2.low hb⟩
def RepAt(w:World)(B rb:Nat)(tb:List (UInt8 × ByteArray)):Prop:=RepF w B rb (osOf tb)∨RepB w B rb tb
theorem RepAt.und{a c:World}{B rb:Nat}{tb:List (UInt8 × ByteArray)}(h:RepAt a B rb tb)(u:Und a c):RepAt c B rb tb:=h.imp (fun h=>h.und u) (fun h=>h.und u)
theorem RepAt.lt{w:World}{B rb:Nat}{tb:List (UInt8 × ByteArray)}(h:RepAt w B rb tb):rb<w.heap.size:=by
 rcases h with h|h
 ·obtain⟨_,v,h,_⟩:=h
  exact lt_of_heap h
 ·obtain⟨_,v,h,_⟩:=h
  exact lt_of_heap h
theorem replace_any(B rb:Nat)(tb:List (UInt8 × ByteArray))(s:ByteArray)(w:World)(hR:RepAt w B rb tb)(hk:TbOk tb)(hB:B<=w.heap.size)(hs:s.size<=160000) :
  Calls Tryz.prog 176 #[.pointer (some ⟨rb,0,none⟩),.string s] w fun e w'=>e=.returned (.string ⟨(s.data.toList.flatMap (rpB tb.reverse)).toArray⟩)/\RepB w' B rb tb/\Below B w w':=by
 have hdo:Calls Tryz.prog 220 #[.pointer (some ⟨rb,0,none⟩),.func (.func 221) #[.pointer (some ⟨rb,0,none⟩)] #[]] w fun e w'=>e=.returned (.tuple #[])/\RepB w' B rb tb/\Below B w w':=by
  rcases hR with h|h
  ·exact repdo_first B rb tb w h hk hB
  ·refine(repdo_done B rb tb _ w h).mono ?_
   rintro e w' ⟨rfl,rfl⟩;exact⟨rfl,h,Below.refl _ _⟩
 have HDO:=hid hdo;have HK:=hid hk;haveI:LtW rb w:=LtW.of hR.lt;have hR1:=hid hR;clear hdo hk hR;go_enter Tryz.func176,Tryz.ntmps176;go_wp2_with fail;refine HDO.out.mono ?_;rintro e w2 ⟨rfl,hRB,hbl⟩;have HRB:=hid hRB;have HBL:=hid hbl;obtain⟨hBr,bb,h1,h2⟩:=hRB;have c1:w2.cell? ⟨rb,3,none⟩=some (.iface 385 (.pointer (some ⟨bb,0,none⟩))):=zcH h1 3;haveI:LtW rb w2:=LtW.of (lt_of_heap h1);have hnd:(tb.reverse.map (·.1)).Nodup:=by rw[List.map_reverse];exact(List.reverse_perm _).nodup_iff.2 HK.out.2.2.2
 have HRUN:=hid (run_any B bb tb.reverse s w2 h2 HK.out.sz (by rw[List.length_reverse];exact HK.out.2.1) hnd hs);clear hbl h1 h2 hnd HDO;go_wp2_with fail;refine HRUN.out.mono ?_;rintro e w3 ⟨rfl,hu⟩;have HU:=hid hu;clear hu;go_wp2;go_ret;exact⟨rfl,HRB.out.und HU.out,HBL.out.trans (HU.out.below.mono (Nat.le_trans hB HBL.out.size))⟩
end
end Go.Proofs.YtcfhfdphoidaeaaGreatDoor
