/- The contracts of sync.Once's Do, not yet done and done already, one goroutine alone. -/
import Derived.Tactics
import Derived.Tactics2
import Derived.Defers
import Derived.Laws.Pointers
import Derived.Laws.LoneSync
import Derived.RegionTactic
import Derived.RegionCalls
import Derived.ChangeAlike
import Derived.Laws.MakeOwn
import Derived.Deep.WholeRow
import Derived.Lib.ConvBytes
import Derived.Test.YthoemdibbldndaaGreatDoorShelf
import Derived.Test.YthoemdibbldndaaGreatDoorFct
import Derived.Laws.CopyRow
import Derived.Laws.CopyOwn
import Derived.Laws.OwnMore
import Derived.BigQuiet
import Derived.Lib.Bytealg
set_option linter.all false
set_option maxHeartbeats 0
set_option maxRecDepth 20000
open Go.Value renaming int->Yh,string->Yi,slice->Yj,bool->Yk,pointer->Yl,tuple->Ym
open Go.IntKind renaming i64->Yn
open Go.Obj renaming cells->Yo
open Go.Ending renaming returned->Yp
open Go renaming World->Ys
namespace Go.Proofs.YthoemdibbldndaaGreatDoor
open Go.RowKit
section
theorem xQ(w:Ys):(callFunc 217 #[]).run Tryz.prog w=.ok (.value (Ym #[])) w:=run_call_mark0 Tryz.func217 (by kernel_rfl) (by kernel_rfl) (by kernel_rfl) .disable (by kernel_rfl) w
theorem AK(w:Ys):(callFunc 219 #[]).run Tryz.prog w=.ok (.value (Ym #[])) w:=run_call_mark0 Tryz.func219 (by kernel_rfl) (by kernel_rfl) (by kernel_rfl) .enable (by kernel_rfl) w
theorem Hx(a:Addr)(w:Ys):(callFunc 220 #[Yl (some a)]).run Tryz.prog w=.ok (.value (Ym #[])) w:=run_call_marked Tryz.func220 (by kernel_rfl) (by kernel_rfl) (by kernel_rfl) .acquire (by kernel_rfl) a w
theorem Hy(a:Addr)(w:Ys):(callFunc 222 #[Yl (some a)]).run Tryz.prog w=.ok (.value (Ym #[])) w:=run_call_marked Tryz.func222 (by kernel_rfl) (by kernel_rfl) (by kernel_rfl) .releaseMerge (by kernel_rfl) a w
set_option maxRecDepth 100000 in
theorem yZ(a:Addr)(x:Value)(u:FrameMode)(w:Ys)(hc:w.cell? a=some x)(hz:w.frozen? a=false) :
  CallsD Tryz.prog 184 #[Yl (some a),Yk true] u w λe u' w'=>u'=u/\(e=Yp (Ym #[])/\w'=w.drew.setCell a (Yh .u32 1)):=by
 have hc':w.drew.cell? a=some x:=by go_simp
 have hz':w.drew.frozen? a=false:=by go_simp
 have hst:=run_call_store (P:=Tryz.prog) Tryz.func204 (by kernel_rfl) (by kernel_rfl) (by kernel_rfl) (by kernel_rfl) (k:=.u32) (y:=1) hc' hz';go_enter_d Tryz.func184,Tryz.ntmps184;go_wp2;go_region_calls
 all_goals (go_end0;exact⟨rfl,rfl⟩)
set_option maxRecDepth 100000 in
theorem yb(a:Addr)(u:FrameMode)(w:Ys)(hc:w.cell? a=some (Yh .i32 1))(hz:w.frozen? a=false) :
  CallsD Tryz.prog 183 #[Yl (some a)] u w λe u' w'=>u'=u/\(e=Yp (Ym #[])/\w'=w.setCell a (Yh .i32 0)):=by
 have hd:=xQ;have he:=AK;have hr:=Hy;have hadd:=run_call_add (P:=Tryz.prog) Tryz.func223 (by kernel_rfl) (by kernel_rfl) (by kernel_rfl) .i32 (by kernel_rfl) (y:=-1) (s:=0) hc hz (by simp[go_sem];rfl);have hcv:=run_convert_to_unsafe (P:=Tryz.prog) (src:=275) (dst:=186) Tryz.underlying275 Tryz.underlying186 (by kernel_rfl) hc;go_enter_d Tryz.func183,Tryz.ntmps183;go_wp2;go_end0;go_wp2;go_end0;exact⟨rfl,rfl⟩
set_option maxRecDepth 100000 in
theorem Kd(a:Addr)(w:Ys)(hc:w.cell? a=some (Yh .i32 0))(hz:w.frozen? a=false) :
  Calls Tryz.prog 182 #[Yl (some a)] w λe w'=>e=Yp (Ym #[])/\w'=w.setCell a (Yh .i32 1):=by
 have hd:=xQ;have he:=AK;have ha:=Hx;have Xf:=run_call_cas_hit (P:=Tryz.prog) Tryz.func218 (by kernel_rfl) (by kernel_rfl) (by kernel_rfl) .i32 (by kernel_rfl) (y:=1) hc hz;have hc':(w.setCell a (.int .i32 1)).cell? a=some (.int .i32 1):=World.cell?_setCell_same w a _ hc;have hcv:=run_convert_to_unsafe (P:=Tryz.prog) (src:=275) (dst:=186) Tryz.underlying275 Tryz.underlying186 (by kernel_rfl) hc';go_enter Tryz.func182,Tryz.ntmps182;go_wp2
 first|go_end0|(simp only[Exit.inBlock,Exit.then];refine bodyPost_ret (results_none rfl _ _ _) rfl ?_)|refine bodyPost_ret (results_none rfl _ _ _) rfl ?_
 go_wp2;go_end0;exact⟨rfl,rfl⟩
end
section
set_option maxRecDepth 100000 in
theorem MT(b:Nat)(w:Ys)(Post:Ys->Prop)(h0:w.cell? ⟨b,0,none⟩=some (Yh .u32 0))(h1:w.cell? ⟨b,1,none⟩=some (Yh .i32 0))(f0:w.frozen? ⟨b,0,none⟩=false)(f1:w.frozen? ⟨b,1,none⟩=false)
  (hF:Calls Tryz.prog 117 #[Yl (some ⟨b,0,none⟩)] (w.setCell ⟨b,1,none⟩ (Yh .i32 1)) λe w2=>e=Yp (Ym #[])/\Post w2)
  (hP:∀w2,Post w2->w2.cell? ⟨b,0,none⟩=some (Yh .u32 0)/\w2.cell? ⟨b,1,none⟩=some (Yh .i32 1)/\w2.frozen? ⟨b,0,none⟩=false/\w2.frozen? ⟨b,1,none⟩=false) :
  Calls Tryz.prog 153 #[Yl (some ⟨b,0,none⟩),.func (.func 117) #[Yl (some ⟨b,0,none⟩)] #[]] w λe w'=>e=Yp (Ym #[]) /\
   ∃w2,Post w2/\w'=(w2.drew.setCell ⟨b,0,none⟩ (Yh .u32 1)).setCell ⟨b,1,none⟩ (Yh .i32 0):=by
 have hl:=run_call_load (P:=Tryz.prog) Tryz.func181 (by kernel_rfl) (by kernel_rfl) (by kernel_rfl) .u32 (by kernel_rfl) (w:=w.setCell ⟨b,1,none⟩ (Yh .i32 1)) (a:=⟨b,0,none⟩) (x:=0) ((World.cell?_setCell_other _ ⟨b,1,none⟩ ⟨b,0,none⟩ _ (by simp)).trans h0);have Rk:∀(x:Bool) (w:Ys),(Op.unary .not (Yk x)).run Tryz.prog w=.ok (Yk (!x)) w:=λ_ _=>rfl
 have HF:=aa hF;clear hF;go_enter_defers Tryz.func153,Tryz.ntmps153;go_wp2_with (first|(go_at_call 182;refine(Kd ⟨b,1,none⟩ _ (by go_simp) (by go_simp)).mono ?_;rintro e w' ⟨rfl,rfl⟩)|(go_at_call 152;go_in)|(go_at_call 117;refine HF.out.mono ?_;rintro e w2 ⟨rfl,hp⟩));obtain⟨p0,p1,q0,q1⟩:=hP w2 hp;have VO:=aa hp;clear hp hl HF;go_wp2;refine leaves_cons (f:=184) (args:=#[Yl (some ⟨b,0,none⟩),Yk true]) (by simp) (by simp[go_sem]) ?_;refine(yZ ⟨b,0,none⟩ (Yh .u32 0) .returning _ p0 q0).mono ?_;rintro e u' w'' ⟨rfl,rfl,rfl⟩;refine leaves_cons (f:=183) (args:=#[Yl (some ⟨b,1,none⟩)]) (by simp[settle]) (by simp[go_sem]) ?_;refine(yb ⟨b,1,none⟩ _ _ ?_ (by simp[q1])).mono ?_
 ·refine(World.cell?_setCell_other _ ⟨b,0,none⟩ ⟨b,1,none⟩ _ (by simp)).trans ?_;rw[World.cell?_drew];exact p1
 rintro e u' w'' ⟨rfl,rfl,rfl⟩;simp[Leaves,settle,results,Tryz.results153];exact⟨w2,VO.out,rfl⟩
set_option maxRecDepth 100000 in
theorem Lu(b:Nat)(w:Ys)(Post:Ys->Prop)(h0:w.cell? ⟨b,0,none⟩=some (Yh .u32 0))(h1:w.cell? ⟨b,1,none⟩=some (Yh .i32 0))(f0:w.frozen? ⟨b,0,none⟩=false)(f1:w.frozen? ⟨b,1,none⟩=false)
  (hF:Calls Tryz.prog 117 #[Yl (some ⟨b,0,none⟩)] (w.setCell ⟨b,1,none⟩ (Yh .i32 1)) λe w2=>e=Yp (Ym #[])/\Post w2)
  (hP:∀w2,Post w2->w2.cell? ⟨b,0,none⟩=some (Yh .u32 0)/\w2.cell? ⟨b,1,none⟩=some (Yh .i32 1)/\w2.frozen? ⟨b,0,none⟩=false/\w2.frozen? ⟨b,1,none⟩=false) :
  Calls Tryz.prog 116 #[Yl (some ⟨b,0,none⟩),.func (.func 117) #[Yl (some ⟨b,0,none⟩)] #[]] w λe w'=>e=Yp (Ym #[]) /\
   ∃w2,Post w2/\w'=(w2.drew.setCell ⟨b,0,none⟩ (Yh .u32 1)).setCell ⟨b,1,none⟩ (Yh .i32 0):=by
 have hl:=run_call_load (P:=Tryz.prog) Tryz.func181 (by kernel_rfl) (by kernel_rfl) (by kernel_rfl) .u32 (by kernel_rfl) h0;have Rk:∀(x:Bool) (w:Ys),(Op.unary .not (Yk x)).run Tryz.prog w=.ok (Yk (!x)) w:=λ_ _=>rfl
 have HS:=aa (MT b w Post h0 h1 f0 f1 hF hP);clear hF hP;go_enter Tryz.func116,Tryz.ntmps116;go_wp2_with (first|(go_at_call 153;refine HS.out.mono ?_;rintro e w' ⟨rfl,hw⟩)|(go_at_call 152;go_in));go_end0;exact⟨rfl,hw⟩
theorem Oy(b:Nat)(fv:Value)(w:Ys)(h0:w.cell? ⟨b,0,none⟩=some (Yh .u32 1)) :
  Calls Tryz.prog 116 #[Yl (some ⟨b,0,none⟩),fv] w λe w'=>e=Yp (Ym #[])/\w'=w:=by
 have hl:=run_call_load (P:=Tryz.prog) Tryz.func181 (by kernel_rfl) (by kernel_rfl) (by kernel_rfl) .u32 (by kernel_rfl) h0;have Rk:∀(x:Bool) (w:Ys),(Op.unary .not (Yk x)).run Tryz.prog w=.ok (Yk (!x)) w:=λ_ _=>rfl
 go_enter Tryz.func116,Tryz.ntmps116;go_wp2;go_end0;exact⟨rfl,rfl⟩
end
section
theorem C7:(Tryz.prog.info? 9).map (λi=>(i.zero,i.size,i.bytes))=some (some (.string ⟨#[]⟩),1,16):=by kernel_rfl
def Qn(st:Int)(w:Ys)(B rb:Nat)(os:List ByteArray):Prop:=
 B<=rb/\∃v,w.1[rb]?=some (Yo #[Yh .u32 0,Yh .i32 st,Yh .u32 0,.nilIface,v] 158 (0,0))/\w.ownsRow B 9 1 v os.length (os.map Yi)
abbrev vj (w:Ys) (B rb:Nat) (os:List ByteArray):Prop:=Qn 0 w B rb os
theorem vj.ai{a c:Ys}{B rb:Nat}{os:List ByteArray}(h:vj a B rb os)(u:ac a c):vj c B rb os:=by
 obtain⟨h0,v,h1,h2⟩:=h;exact⟨h0,v,(u.below.block rb (ae h1)).trans h1,aF u h2⟩
theorem r6(ab n:Nat)(os:List ByteArray)(w:Ys)(hn:os.length=n)(hev:n % 2=0)(h0:n<=1000)(hA:∀j u,(os.map Yi)[j]?=some u->w.cell? ⟨ab,j,none⟩=some u) :
  Calls Tryz.prog 73 #[Yj (some ⟨ab,0,none⟩) n n] w λe w'=>∃rb,e=Yp (Yl (some ⟨rb,0,none⟩))/\vj w' w.1.size rb os/\ac w w':=by
 obtain⟨i0,hi,hz0,hz1,hz2⟩:=info_parts C7
 have y1:(((n:Int).tmod 2)==1)=false:=by
  rw[Int.tmod_eq_emod_of_nonneg (by omega)];simp;omega
 have HA:=aa hA;clear hA;go_enter Tryz.func73,Tryz.ntmps73;go_wp2_with (at_builtin;refine wpList_append_own _ rfl _ _ 135 rfl w.1.size 9 i0 (.string ⟨#[]⟩) 1 16 Tryz.underlying135 hi hz0 hz1 hz2 rfl (by decide) (.slice none 0 0) 0 [] rfl (World.ownsRow_nil _ _ _ _) ⟨ab,0,none⟩ n n (os.map Value.string) rfl (by simp[hn]) ?_ ?_ (by unfold maxLen;omega) (by omega) ?_ ?_)
 ·intro j u hj;rw[show(⟨ab,0,none⟩:Addr).add j=⟨ab,j,none⟩by unfold Addr.add;split<;>simp_all];exact HA.out j u hj
 ·intro u hu;obtain⟨s,_,rfl⟩:=List.mem_map.1 hu;rfl
 ·exact Nat.le_refl _
 intro v' w1 hown hgr _;have hu1:ac w w1:=(ac.refl w).grown hgr (λg hg=>by cases hg);have HO:=aa hown;have HU:=aa hu1;have hsz:=hu1.size;clear hgr hown hu1;obtain⟨A',c',rfl,_⟩:=aR HO.out;go_wp2;go_ret;refine⟨w1.1.size,rfl,⟨hsz,_,heap_alloc_new w1 _,?_⟩,(HU.out).alloc _⟩;have:=HO.out
 subst hn;exact aF ((ac.refl w1).alloc _) (by simpa using this)
end
section
@[go_sem] theorem nil_eq (W:Ys):(binOp .eql 22 (Yj none 0 0) (Yj none 0 0)).run Tryz.prog W=.ok (Yk true) W:=by kernel_rfl
@[go_sem] theorem nil_neq (W:Ys):(binOp .neq 22 (Yj none 0 0) (Yj none 0 0)).run Tryz.prog W=.ok (Yk false) W:=by kernel_rfl
@[go_sem] theorem some_neq (W:Ys) (a:Addr) (n c:Nat):(binOp .neq 22 (Yj (some a) n c) (Yj none 0 0)).run Tryz.prog W=.ok (Yk true) W:=by kernel_rfl
abbrev zI:TypeId:=240
theorem Vq(w:Ys):(zeroValue zI).run Tryz.prog w=.ok (.agg ((Array.replicate 256 (Yj none 0 0)).push (Yj none 0 0))) w:=by kernel_rfl
theorem i142:(Tryz.prog.info? zI).map (·.size)=some 257:=by kernel_rfl
theorem S6(v:Value):((Array.replicate 256 (Yj none 0 0)).push (Yj none 0 0)).toList.set 256 v=((Array.replicate 256 (Yj none 0 0)).push v).toList:=by
 have:∀a:Array Value,a.size=256->(a.push (Yj none 0 0)).toList.set 256 v=(a.push v).toList:=by
  intro a h;rw[Array.toList_push,Array.toList_push,List.set_append_right _ _ (by simp[h])];simp[h]
 exact this _ (by simp)
def cD:List (UInt8 × ByteArray)->UInt8->Option ByteArray
 | [],_=>none
 | p :: r,c=>if p.1=c then some p.2 else cD r c
theorem xH(l:List (UInt8 × ByteArray))(p:UInt8 × ByteArray)(c:UInt8):cD (l++[p]) c=match cD l c with
  | some s=>some s
  | none=>if p.1=c then some p.2 else none:=by
 induction l with
 | nil=>simp[cD]
 | cons q l ih=>
  rw[List.cons_append,cD,cD]
  split
  ·rfl
  exact ih
theorem rY{l:List (UInt8 × ByteArray)}{c:UInt8}(h:c ∉ l.map (·.1)):cD l c=none:=by
 induction l with
 | nil=>rfl
 | cons q l ih=>
  simp only[List.map_cons,List.mem_cons,not_or]at h;rw[cD,if_neg (λe=>h.1 e.symm)];exact ih h.2
def yo(w:Ys)(B:Nat)(v:Value)(s:ByteArray):Prop:=
 ∃g cap cb fr,v=Yj (some ⟨g,0,none⟩) s.size cap/\B<=g/\s.size<=cap/\w.1[g]?=some (Yo cb 5 fr)/\∀j,j<s.size->cb[j]?=some (Yh .u8 ((s.1.1.getD j 0).toNat:Int))
def Cm:List TypeId:=[9,zI]
theorem yo.tk{a c:Ys}{B:Nat}{v:Value}{s:ByteArray}(h:yo a B v s)(k:eJ Cm a c):yo c B v s:=by
 obtain⟨g,cap,cb,fr,h1,h2,h3,h4,h5⟩:=h;exact⟨g,cap,cb,fr,h1,h2,h3,(k.2 g cb _ fr h4 (by decide)).trans h4,h5⟩
def fC(w:Ys)(B bb:Nat)(done:List (UInt8 × ByteArray))(strs:List UInt8):Prop:=
 B<=bb/\∃cs:Array Value,w.1[bb]?=some (Yo cs zI (0,0))/\cs.size=257/\(∀c:UInt8,cD done c=none->cs[c.toNat]?=some (Yj none 0 0)) /\
  (∀(c:UInt8) s,cD done c=some s->∃v,cs[c.toNat]?=some v/\yo w B v s)/\∃v,cs[256]?=some v/\w.ownsRow B 9 1 v strs.length (strs.map λa=>Yi ⟨#[a]⟩)
theorem fC.ai{a c:Ys}{B bb:Nat}{done:List (UInt8 × ByteArray)}{strs:List UInt8}(h:fC a B bb done strs)(u:ac a c):fC c B bb done strs:=by
 obtain⟨h0,cs,h1,h2,h3,h4,v,h5,h6⟩:=h;refine⟨h0,cs,(u.below.block bb (ae h1)).trans h1,h2,h3,λx s hx=>?_,v,h5,aF u h6⟩;obtain⟨v',k1,k2⟩:=h4 x s hx;exact⟨v',k1,k2.tk (u.tk Cm)⟩
theorem kE(c:UInt8):c.toNat<256:=c.toNat_lt
theorem fC.grow{w w4:Ys}{B bb:Nat}{done:List (UInt8 × ByteArray)}{strs:List UInt8}{v v':Value}{a:UInt8}(h:fC w B bb done strs)(hv:w.cell? ⟨bb,256,none⟩=some v)(hg:w.grownBy w4 v.ownBlock)
  (ho:w4.ownsRow B 9 1 v' (strs.length+1) (strs.map (λa=>Yi ⟨#[a]⟩)++[Yi ⟨#[a]⟩])):fC (w4.setCell ⟨bb,256,none⟩ v') B bb done (strs++[a]):=by
 obtain⟨h0,cs,h1,h2,h3,h4,v0,h5,h6⟩:=h;obtain rfl:v0=v:=by rw[aj h1 256,h5]at hv;simpa using hv
 have hb4:w4.1[bb]?=some (Yo cs zI (0,0)):=(hg.block bb (ae h1) (λe=>aT h6 h1 (by decide) e.symm)).trans h1;have htk:eJ Cm w (w4.setCell ⟨bb,256,none⟩ v'):=(np hg (jt h6 _ (by simp[Cm]))).trans (jA (p:=⟨bb,256,none⟩) hb4 (by simp[Cm]));refine⟨h0,cs.setIfInBounds 256 v',heap_setCell_same w4 bb 256 _ _ v' hb4,by simp[h2],λc hc=>?_,λc s hc=>?_,v',by simp[h2],?_⟩
 ·rw[Array.getElem?_setIfInBounds_ne (by have:=kE c;omega)];exact h3 c hc
 ·obtain⟨x,k1,k2⟩:=h4 c s hc;exact⟨x,by rw[Array.getElem?_setIfInBounds_ne (by have:=kE c;omega)];exact k1,k2.tk htk⟩
 have e:(strs++[a]).map (λa=>Yi ⟨#[a]⟩)=strs.map (λa=>Yi ⟨#[a]⟩)++[Yi ⟨#[a]⟩]:=by simp
 rw[e,List.length_append,List.length_singleton];exact aD ho (aT ho hb4 (by decide))
theorem fC.put{w:Ys}{B bb:Nat}{done:List (UInt8 × ByteArray)}{strs:List UInt8}{v:Value}{p:UInt8 × ByteArray}(h:fC w B bb done strs)(hn:cD done p.1=none)(hr:yo w B v p.2):fC (w.setCell ⟨bb,p.1.toNat,none⟩ v) B bb (done++[p]) strs:=by
 obtain⟨h0,cs,h1,h2,h3,h4,v0,h5,h6⟩:=h;have htk:eJ Cm w (w.setCell ⟨bb,p.1.toNat,none⟩ v):=jA (p:=⟨bb,p.1.toNat,none⟩) h1 (by simp[Cm]);have hlt:=kE p.1;have hne:∀c:UInt8,p.1≠c->p.1.toNat≠c.toNat:=λc h e=>h (UInt8.toNat_inj.1 e)
 refine⟨h0,cs.setIfInBounds p.1.toNat v,heap_setCell_same w bb p.1.toNat _ _ v h1,by simp[h2],λc hc=>?_,λc s hc=>?_,v0,?_,aD h6 (aT h6 h1 (by decide))⟩
 ·rw[xH]at hc;cases hd:cD done c with
  | some s=>rw[hd]at hc;cases hc
  | none=>
   rw[hd]at hc
   by_cases e:p.1=c
   ·rw[if_pos e]at hc;cases hc
   rw[Array.getElem?_setIfInBounds_ne (hne c e)];exact h3 c hd
 ·rw[xH]at hc;cases hd:cD done c with
  | some s'=>
   rw[hd]at hc;simp only[Option.some.injEq]at hc;subst hc;have e:p.1≠c:=λe=>by subst e;rw[hn]at hd;cases hd
   obtain⟨x,k1,k2⟩:=h4 c s' hd;exact⟨x,by rw[Array.getElem?_setIfInBounds_ne (hne c e)];exact k1,k2.tk htk⟩
  | none=>
   rw[hd]at hc
   by_cases e:p.1=c
   ·rw[if_pos e]at hc;simp only[Option.some.injEq]at hc;subst hc e;exact⟨v,by rw[Array.getElem?_setIfInBounds_self_of_lt (by omega)],hr.tk htk⟩
   rw[if_neg e]at hc;cases hc
 rw[Array.getElem?_setIfInBounds_ne (by omega)];exact h5
theorem fC.fresh(w1:Ys)(B:Nat)(hB:B<=w1.1.size)(v:Value)(ho:w1.ownsRow B 9 1 v 0 []):fC (w1.alloc (Yo ((Array.replicate 256 (Yj none 0 0)).push v) zI)) B w1.1.size [] []:=by
 refine⟨hB,_,heap_alloc_new w1 _,by simp,λc _=>?_,λc s h=>(by simp[cD]at h),v,?_,aF ((ac.refl w1).alloc _) ho⟩
 ·have:=kE c
  rw[Array.getElem?_push_lt (by rw[Array.size_replicate];exact this)];simp
 have:∀a:Array Value,a.size=256->(a.push v)[256]?=some v:=by
  intro a h;rw[Array.getElem?_push,if_pos h.symm]
 exact this _ (by simp)
theorem Kv(w:Ys)(B:Nat)(s:ByteArray)(hB:B<=w.1.size)(hs:s.size<=1000):yo (Lib.bytesWorld w 5 s) B (Yj (some ⟨w.1.size,0,none⟩) s.size (grownCap w s.size 0 5)) s:=by
 refine⟨w.1.size,_,_,_,rfl,hB,grownCap_ge _ _ _ _,Lib.bytesWorld_at_new w _ s,λj hj=>?_⟩;rw[<-aj (Lib.bytesWorld_at_new w 5 s) j];exact Lib.bytesWorld_cell w _ s j hj
def dJ(tb:List (UInt8 × ByteArray)):List ByteArray:=tb.flatMap λp=>[⟨#[p.1]⟩,p.2]
theorem RF(tb:List (UInt8 × ByteArray)):(dJ tb).length=2*tb.length:=by
 induction tb with
 | nil=>rfl
 | cons p r ih=>simp[dJ]at ih |-;omega
theorem S4(tb:List (UInt8 × ByteArray))(k:Nat)(h:k<tb.length):(dJ tb)[2*k]?=some ⟨#[tb[k].1]⟩/\(dJ tb)[2*k+1]?=some tb[k].2:=by
 induction tb generalizing k with
 | nil=>simp at h
 | cons p r ih=>
  match k,h with
  | 0,_=>exact⟨rfl,rfl⟩
  | k+1,h=>
   have:=ih k (by simpa using h)
   have e1:2*(k+1)=2*k+2:=by omega
   have e2:2*(k+1)+1=(2*k+1)+2:=by omega
   rw[e2,e1];exact this
end
section
def Sc(w:Ys)(m:Nat)(s4 s5:Value)(wr:Ys):Prop:=∃k:Nat,s4=Yk (decide (k=0))/\s5=Yh Yn ((2*k:Nat):Int)/\k<=m/\w=wr
def Sd(w:Ys)(B bb:Nat)(tb:List (UInt8 × ByteArray))(s12:Value)(wr:Ys):Prop:=
 ∃k:Nat,s12=Yh Yn (2*(k:Int)-2)/\k<=tb.length/\fC wr B bb (tb.drop k).reverse ((tb.drop k).reverse.map (·.1))/\ac w wr
set_option maxRecDepth 100000 in
theorem I8(B rb:Nat)(tb:List (UInt8 × ByteArray))(w:Ys)(st:Int)(hR:Qn st w B rb (dJ tb))(h2:2<=tb.length)(UU:tb.length<=100)(hs:∀p∈tb,2<=p.2.size/\p.2.size<=100)(hnd:(tb.map (·.1)).Nodup) :
  Calls Tryz.prog 154 #[Yl (some ⟨rb,0,none⟩)] w λe w'=>∃bb,e=Yp (.iface 241 (Yl (some ⟨bb,0,none⟩)))/\fC w' w.1.size bb tb.reverse (tb.reverse.map (·.1))/\ac w w':=by
 obtain⟨_,v,hbk,hown⟩:=hR;obtain⟨A,c,rfl,_⟩:=aJ hown;have hol:=RF tb;obtain⟨m,hm⟩:∃m,tb.length=m:=⟨_,rfl⟩;rw[hm]at hol h2 UU;obtain⟨g,rfl,_,hg,hc⟩:=dU hown (by omega)
 have hcell:∀k (h:k<tb.length),w.cell? ⟨g,2*k,none⟩=some (Yi ⟨#[tb[k].1]⟩)/\w.cell? ⟨g,2*k+1,none⟩=some (Yi tb[k].2):=by
  intro k h;obtain⟨a1,a2⟩:=S4 tb k h;exact⟨hc _ _ (by rw[List.getElem?_map,a1];rfl),hc _ _ (by rw[List.getElem?_map,a2];rfl)⟩
 rw[hol]at hown hbk;have g4:w.cell? ⟨rb,4,none⟩=some (.slice (some ⟨g,0,none⟩) (2*m) c):=aj hbk 4;haveI:af rb w:=af.of (ae hbk);haveI:af g w:=af.of hg;obtain⟨i0,hi,hz0,hz1,hz2⟩:=info_parts C7;obtain⟨w1,hmk,hro,Am⟩:=run_make_own (P:=Tryz.prog) w w.1.size 135 9 i0 (.string ⟨#[]⟩) 1 Tryz.underlying135 hi hz0 hz1 .i64 .i64 m (by rw[hz2];omega) (by unfold maxLen;omega) (Nat.le_refl _);have hu1:ac w w1:=(ac.refl w).grown Am (λg e=>by cases e);have hz:=λw=>Vq w
 have hsc:=run_storeCells_new (P:=Tryz.prog) w1 zI ((Array.replicate 256 (Yj none 0 0)).push (Yj none 0 0)) ((Array.replicate 256 (Yj none 0 0)).push (Yj (some ⟨w.1.size,0,none⟩) 0 m)) (by rw[Array.size_push,Array.size_replicate];exact i142) (by simp) (by
  have:∀(a:Array Value) (v:Value),a.all (·.oneCell')=true->v.oneCell'=true->(a.push v).all (·.oneCell')=true:=by intro a v h1 h2;simp[h1,h2]
  exact this _ _ (by rw[Array.all_eq_true];intro i hi;rw[Array.getElem_replicate];rfl) rfl)
 rw[<-S6]at hsc;have E2:=aa (fC.fresh w1 w.1.size hu1.size (Yj (some ⟨w.1.size,0,none⟩) 0 m) hro);obtain⟨Z',hZ'⟩:∃Z':Array Value,Z'=(Array.replicate 256 (Yj none 0 0)).push (Yj (some ⟨w.1.size,0,none⟩) 0 m):=⟨_,rfl⟩;obtain⟨Z,hZ⟩:∃Z:Array Value,Z=(Array.replicate 256 (Yj none 0 0)).push (Yj none 0 0):=⟨_,rfl⟩;rw[<-hZ]at hz hsc;rw[<-hZ']at hsc E2;have XF:Z.size=257:=by rw[hZ,Array.size_push,Array.size_replicate]
 clear hZ hZ' hbk hown hc Am hro;have HC:=aa hcell;have iB:=aa hu1;have ET:=aa hnd;have HS:=aa hs;have hsz1:=hu1.size;have yd:((2*m:Nat):Int) / 2=(m:Int):=by omega
 have y2:(((2*m:Nat):Int)==2)=false:=by simp;omega
 obtain⟨n,hn⟩:∃n,n=2*m:=⟨_,rfl⟩;rw[<-hn]at g4 yd y2;have HN:=aa hn;clear hcell hu1 hnd hs hol hn;go_enter Tryz.func154,Tryz.ntmps154;go_wp2_with fail;go_loopw [4,5] (λs4 s5 wr=>Sc w m s4 s5 wr) (λ_ s5 _=>n+1-(intOf s5).toNat)
 case atStart=>exact⟨0,rfl,rfl,by omega,rfl⟩
 case round=>
  obtain⟨k,rfl,rfl,hk,rfl⟩:=hrel;have hn:=HN.out
  by_cases Ap:k<m
  ·obtain⟨e0,e1⟩:=HC.out k (by omega);have hps:=(HS.out tb[k] (List.getElem_mem (by omega))).1;generalize tb[k]'(by omega)=p at e0 e1 hps;obtain⟨so,ph⟩:∃so:ByteArray,so=⟨#[p.1]⟩:=⟨_,rfl⟩;rw[<-ph]at e0;have hs1:so.size=1:=by rw[ph];rfl
   have z1:((2*k:Nat):Int)<n:=by omega
   have z2:(((2*k:Nat):Int)+1)<n:=by omega
   have z3:(((2*k:Nat):Int)+1).toNat=2*k+1:=by omega
   have z4:((p.2.size:Int) != 1)=true:=by simp;omega
   have z5:((p.2.size:Int)==1)=false:=by simp;omega
   obtain⟨i2,hi2⟩:∃i2,i2=2*k:=⟨_,rfl⟩;rw[<-hi2]at e0 e1 z1 z2 z3 |-;have wE:=aa hi2;clear ph hi2 hn;go_wp2;exact⟨⟨k+1,by simp,congrArg (Yh Yn) (by have:=wE.out;omega),by omega,rfl⟩,by have:=HN.out;have:=wE.out;simp[intOf];omega⟩
  obtain rfl:k=m:=by omega
  have z1:¬((2*k:Nat):Int)<n:=by omega
  have gU:decide (k=0)=false:=decide_eq_false (by omega);rw[gU];obtain⟨i2,hi2⟩:∃i2,i2=2*k:=⟨_,rfl⟩;rw[<-hi2]at z1 |-;clear hi2 hn gU;go_wp2_with fail;go_loopw [12] (λs12 wr=>Sd w w.1.size w1.1.size tb s12 wr) (λs12 _=>(intOf s12+2).toNat)
  case atStart=>exact⟨k,congrArg (Yh Yn) (by have:=HN.out;omega),by omega,by rw[List.drop_of_length_le (by omega)];exact E2.out,iB.out.alloc _⟩
  case round=>
   clear E2 hz hsc hmk z1 yd y2;obtain⟨k2,rfl,hk2,hT,hu⟩:=hrel;have HT:=aa hT;have HU:=aa hu;have Hh:=hu.size;rcases Nat.eq_zero_or_pos k2 with h0|h0
   ·subst h0;have C4:2*((0:Nat):Int)-2=-2:=rfl;rw[C4];clear hT hu C4;go_wp2;go_ret;exact⟨_,rfl,by simpa using HT.out,HU.out⟩
   obtain⟨j,rfl⟩:∃j,k2=j+1:=⟨k2-1,by omega⟩;have C4:2*((j+1:Nat):Int)-2=((2*j:Nat):Int):=by omega
   rw[C4];obtain⟨e0,e1⟩:=HC.out j (by omega)
   replace e0:=(hu.cell (p:=⟨g,2*j,none⟩) hg).trans e0
   replace e1:=(hu.cell (p:=⟨g,2*j+1,none⟩) hg).trans e1
   haveI:af g wr:=af.of (Nat.lt_of_lt_of_le hg Hh);have hps:=(HS.out tb[j] (List.getElem_mem (by omega))).2;have hdr:tb.drop j=tb[j] :: tb.drop (j+1):=List.drop_eq_getElem_cons (by omega);have L3:((tb.drop j).map (·.1)).Nodup:=by rw[List.map_drop];exact ET.out.sublist (List.drop_sublist _ _)
   rw[hdr,List.map_cons,List.nodup_cons]at L3;have hnone:cD (tb.drop (j+1)).reverse tb[j].1=none:=rY (by rw[List.map_reverse,List.mem_reverse];exact L3.1);have hrev:(tb.drop j).reverse=(tb.drop (j+1)).reverse++[tb[j]]:=by rw[hdr,List.reverse_cons]
   have hlen:((tb.drop (j+1)).reverse.map (·.1)).length<=100:=by simp;omega
   have Li:=aa hrev;generalize(tb.drop (j+1)).reverse=done at hT HT hnone hrev Li hlen;generalize tb[j]'(by omega)=p at e0 e1 hps hnone hrev Li;obtain⟨nZ,cs,tH,G3,hcs3,hcs4,v,hcs5,hcs6⟩:=hT;obtain⟨A',c',rfl,_⟩:=aJ hcs6;have t0:wr.cell? ⟨w1.1.size,p.1.toNat,none⟩=some (Yj none 0 0):=(aj tH _).trans (hcs3 p.1 hnone);have t1:wr.cell? ⟨w1.1.size,256,none⟩=some (Yj A' (done.map (·.1)).length c'):=(aj tH 256).trans hcs5;haveI:af w1.1.size wr:=af.of (ae tH);obtain⟨so,ph⟩:∃so:ByteArray,so=⟨#[p.1]⟩:=⟨_,rfl⟩;rw[<-ph]at e0;have hs1:so.size=1:=by rw[ph];rfl
   have hs0:so[0]'(by omega)=p.1:=by subst ph;rfl
   have zl:(p.1.toNat:Int)<256:=by have:=kE p.1;omega
   have WX:((2*j:Nat):Int)<n:=by have:=HN.out;omega
   have WY:(((2*j:Nat):Int)+1)<n:=by have:=HN.out;omega
   have WZ:(((2*j:Nat):Int)+1).toNat=2*j+1:=by omega
   obtain⟨i2,hi2⟩:∃i2,i2=2*j:=⟨_,rfl⟩;rw[<-hi2]at e0 e1 WX WY WZ |-;have wE:=aa hi2;have hib:i2<=1000:=by omega
   have HO:=aa hcs6;have pC:=aa tH;have Vs:=aa hcs5;have Nk:=aa hcs3;have iz:=aa hnone;generalize hL:(done.map (·.1)).length=L at *;clear hu C4 hdr L3 hrev ph hi2 tH G3 hcs3 hcs4 hcs5 hcs6 hnone;go_wp2_with (at_builtin;refine wpList_append_own _ rfl _ _ 135 rfl w.1.size 9 i0 (.string ⟨#[]⟩) 1 16 Tryz.underlying135 hi hz0 hz1 hz2 rfl (by decide) (.slice A' L c') L _ rfl (aF uZ HO.out) _ 1 1 [.string ⟨#[p.1]⟩] rfl rfl ?_ ?_ (by unfold maxLen;omega) (by omega) ?_ ?_)
   ·refine ue _ _ _ _ ?_;simp
   ·intro u hu';simp at hu';subst hu';rfl
   ·simp<;>omega
   intro v' w4 jz hg4 _;obtain⟨S7,c'',rfl,_⟩:=aJ jz;have hgr:=aO (ac.gb (show ac wr _ from uZ) (Value.slice A' L c').ownBlock) hg4 (λg e=>Or.inl e);have hb4:w4.1[w1.1.size]?=some (Obj.cells cs zI (0,0)):=(hgr.block w1.1.size (ae pC.out) (λe=>aT HO.out pC.out (by decide) e.symm)).trans pC.out;have Xa:w4.cell? ⟨w1.1.size,256,none⟩=some (.slice A' L c'):=(aj hb4 256).trans Vs.out;have f256:w4.frozen? ⟨w1.1.size,256,none⟩=false:=bz hb4 256;haveI:af w1.1.size w4:=af.of (ae hb4);have QO:=fC.grow HT.out t1 hgr (by rw[hL,List.map_map];exact jz);have bg:ac w (w4.setCell ⟨w1.1.size,256,none⟩ (.slice S7 (L+1) c'')):=(HU.out.uG hgr (λg hg=>aB HO.out g hg)).setCell (p:=⟨w1.1.size,256,none⟩) hsz1 _;obtain⟨w5,hw5⟩:∃w5,w4.setCell ⟨w1.1.size,256,none⟩ (.slice S7 (L+1) c'')=w5:=⟨_,rfl⟩;rw[hw5]at QO bg;have hcv:=Lib.run_convert_string_bytes w5 9 22 5 p.2 Tryz.underlying9 Tryz.underlying22 Tryz.underlying5;have hrow:=Kv w5 w.1.size p.2 bg.size (by omega);have fT:ac w5 (Lib.bytesWorld w5 5 p.2):=ac.mk ⟨rfl,rfl,rfl,by rw[Lib.bytesWorld_size];omega,λk hk=>Lib.bytesWorld_at_old w5 _ _ k hk⟩;obtain⟨w6,hw6⟩:∃w6,Lib.bytesWorld w5 5 p.2=w6:=⟨_,rfl⟩;rw[hw6]at hcv hrow fT;have JG:=QO.ai fT;have hput:=fC.put JG iz.out hrow;obtain⟨_,cs6,h61,_,h63,_⟩:=JG;have d0:w6.cell? ⟨w1.1.size,p.1.toNat,none⟩=some (.slice none 0 0):=(aj h61 _).trans (h63 p.1 iz.out);have d1:w6.frozen? ⟨w1.1.size,p.1.toNat,none⟩=false:=bz h61 _;haveI:af w1.1.size w6:=af.of (ae h61);have bM:=(bg.trans fT).setCell (p:=⟨w1.1.size,p.1.toNat,none⟩) hsz1 (.slice (some ⟨w5.1.size,0,none⟩) p.2.size (grownCap w5 p.2.size 0 5));have HE:=aa (And.intro hput bM);clear hput bM QO bg hrow fT hw6 hgr hg4 jz hb4 h61 h63 t0 t1;go_wp2;refine⟨⟨j,congrArg (Value.int .i64) (by have:=wE.out;omega),by omega,?_,HE.out.2⟩,by have:=wE.out;simp[intOf];omega⟩;rw[Li.out];have:=HE.out.1
   rw[List.map_append];exact this
end
section
def th(tb:List (UInt8 × ByteArray)):Prop:=2<=tb.length/\tb.length<=100/\(∀p∈tb,2<=p.2.size/\p.2.size<=100)/\(tb.map (·.1)).Nodup
def td(w:Ys)(B rb:Nat)(tb:List (UInt8 × ByteArray)):Prop:=
 B<=rb/\∃bb,w.1[rb]?=some (Yo #[Yh .u32 1,Yh .i32 0,Yh .u32 0,.iface 241 (Yl (some ⟨bb,0,none⟩)),Yj none 0 0] 158 (0,0))/\fC w B bb tb.reverse (tb.reverse.map (·.1))
theorem td.ai{a c:Ys}{B rb:Nat}{tb:List (UInt8 × ByteArray)}(h:td a B rb tb)(u:ac a c):td c B rb tb:=by
 obtain⟨h0,bb,h1,h2⟩:=h;exact⟨h0,bb,(u.below.block rb (ae h1)).trans h1,h2.ai u⟩
theorem fC.low{w:Ys}{B B' bb:Nat}{done:List (UInt8 × ByteArray)}{strs:List UInt8}(h:fC w B bb done strs)(hb:B'<=B):fC w B' bb done strs:=by
 obtain⟨h0,cs,h1,h2,h3,h4,v,h5,h6⟩:=h;refine⟨Nat.le_trans hb h0,cs,h1,h2,h3,λx s hx=>?_,v,h5,cH h6 hb⟩;obtain⟨v',k1,g,cap,cb,fr,e1,e2,e3⟩:=h4 x s hx;exact⟨v',k1,g,cap,cb,fr,e1,Nat.le_trans hb e2,e3⟩
theorem fC.set{w:Ys}{B bb:Nat}{done:List (UInt8 × ByteArray)}{strs:List UInt8}(h:fC w B bb done strs){q i:Nat}{u:Value}{cs:Array Value}{fr:Nat × Nat}(hq:w.1[q]?=some (Yo cs 158 fr)):fC (w.setCell ⟨q,i,none⟩ u) B bb done strs:=by
 obtain⟨h0,cs',h1,h2,h3,h4,v,h5,h6⟩:=h;have hgb:=cJ w ⟨q,i,none⟩ u
 have hne:bb≠q:=λe=>by
  subst e;rw[h1]at hq;simp only[Option.some.injEq,Obj.cells.injEq]at hq;exact absurd hq.2.1 (by decide)
 refine⟨h0,cs',(hgb.block bb (ae h1) (by simpa using hne)).trans h1,h2,h3,λx s hx=>?_,v,h5,aD h6 (aT h6 hq (by decide))⟩;obtain⟨v',k1,g,cap,cb,fr',e1,e2,e3,e4,e5⟩:=h4 x s hx
 have JV:g≠q:=λe=>by
  subst e;rw[e4]at hq;simp only[Option.some.injEq,Obj.cells.injEq]at hq;exact absurd hq.2.1 (by decide)
 exact⟨v',k1,g,cap,cb,fr',e1,e2,e3,(hgb.block g (ae e4) (by simpa using JV)).trans e4,e5⟩
theorem fC.drew{w:Ys}{B bb:Nat}{done:List (UInt8 × ByteArray)}{strs:List UInt8}(h:fC w B bb done strs):fC w.drew B bb done strs:=h.ai ((ac.refl w).drew)
def Gc(w0:Ys)(B rb:Nat)(tb:List (UInt8 × ByteArray))(w:Ys):Prop:=
 ∃bb,w.1[rb]?=some (Yo #[Yh .u32 0,Yh .i32 1,Yh .u32 0,.iface 241 (Yl (some ⟨bb,0,none⟩)),Yj none 0 0] 158 (0,0))/\fC w B bb tb.reverse (tb.reverse.map (·.1))/\Below B w0 w
theorem Ms(B rb:Nat)(tb:List (UInt8 × ByteArray))(w:Ys)(hR:vj w B rb (dJ tb))(hk:th tb)(hB:B<=w.1.size) :
  Calls Tryz.prog 117 #[Yl (some ⟨rb,0,none⟩)] (w.setCell ⟨rb,1,none⟩ (Yh .i32 1)) λe w'=>e=Yp (Ym #[])/\Gc w B rb tb w':=by
 obtain⟨hBr,v,hbk,hown⟩:=hR;have hb1:(w.setCell ⟨rb,1,none⟩ (Yh .i32 1)).1[rb]?=some (Yo #[Yh .u32 0,Yh .i32 1,Yh .u32 0,.nilIface,v] 158 (0,0)):=heap_setCell_same w rb 1 _ _ _ hbk;have dZ:(w.setCell ⟨rb,1,none⟩ (Yh .i32 1)).ownsRow B 9 1 v (dJ tb).length ((dJ tb).map Yi):=aD hown (aT hown hbk (by decide));have GZ:Below B w (w.setCell ⟨rb,1,none⟩ (Yh .i32 1)):=(Below.refl B w).setCell (p:=⟨rb,1,none⟩) hBr _;obtain⟨w1,hw1⟩:∃w1,w.setCell ⟨rb,1,none⟩ (Yh .i32 1)=w1:=⟨_,rfl⟩;rw[hw1]at hb1 dZ GZ |-;obtain⟨k1,k2,k3,k4⟩:=hk;have S9:=aa (I8 B rb tb w1 1 ⟨hBr,v,hb1,dZ⟩ k1 k2 k3 k4);have pC:=aa hb1;have df:=aa GZ;have hsz1:=GZ.size;haveI:af rb w1:=af.of (ae hb1);clear hb1 dZ GZ hw1 hbk hown k3 k4;go_enter Tryz.func117,Tryz.ntmps117;go_wp2_with fail;refine S9.out.mono ?_;rintro e w2 ⟨bb,rfl,hT,hu⟩;have hb2:=(hu.below.block rb (ae pC.out)).trans pC.out;have c3:w2.cell? ⟨rb,3,none⟩=some .nilIface:=aj hb2 3;have f3:w2.frozen? ⟨rb,3,none⟩=false:=bz hb2 3;have c4:w2.cell? ⟨rb,4,none⟩=some v:=aj hb2 4;have f4:w2.frozen? ⟨rb,4,none⟩=false:=bz hb2 4;haveI:af rb w2:=af.of (ae hb2);have oX:Below B w w2:=Below.trans df.out (hu.below.mono (by omega));have hb3:=heap_setCell_same w2 rb 3 _ _ (.iface 241 (Yl (some ⟨bb,0,none⟩))) hb2;have hb4:=heap_setCell_same _ rb 4 _ _ (Yj none 0 0) hb3;have Ai:=((hT.low (by omega:B<=w1.1.size)).set (i:=3) (u:=.iface 241 (Yl (some ⟨bb,0,none⟩))) hb2).set (i:=4) (u:=Yj none 0 0) hb3;have HE:=aa (show Gc w B rb tb ((w2.setCell ⟨rb,3,none⟩ (.iface 241 (Yl (some ⟨bb,0,none⟩)))).setCell ⟨rb,4,none⟩ (Yj none 0 0))from⟨bb,hb4,Ai,(oX.setCell (p:=⟨rb,3,none⟩) hBr _).setCell (p:=⟨rb,4,none⟩) hBr _⟩);clear hT hu hb2 oX hb3 hb4 Ai S9;go_wp2;go_end0;exact⟨rfl,HE.out⟩
theorem EC(B rb:Nat)(tb:List (UInt8 × ByteArray))(w:Ys)(hR:vj w B rb (dJ tb))(hk:th tb)(hB:B<=w.1.size) :
  Calls Tryz.prog 116 #[Yl (some ⟨rb,0,none⟩),.func (.func 117) #[Yl (some ⟨rb,0,none⟩)] #[]] w λe w'=>e=Yp (Ym #[])/\td w' B rb tb/\Below B w w':=by
 have qU:=hR;obtain⟨hBr,v,hbk,hown⟩:=hR;refine(Lu rb w (Gc w B rb tb) (aj hbk 0) (aj hbk 1) (bz hbk 0) (bz hbk 1) (Ms B rb tb w qU hk hB) ?_).mono ?_
 ·rintro w2 ⟨bb,h,_,_⟩;exact⟨aj h 0,aj h 1,bz h 0,bz h 1⟩
 rintro e w' ⟨rfl,w2,⟨bb,h,hT,hb⟩,rfl⟩;have h1:w2.drew.1[rb]?=_:=h;have h2:=heap_setCell_same w2.drew rb 0 _ _ (Yh .u32 1) h1;have h3:=heap_setCell_same _ rb 1 _ _ (Yh .i32 0) h2;refine⟨rfl,⟨hBr,bb,h3,(hT.drew.set h1).set h2⟩,(Below.setCell (p:=⟨rb,1,none⟩) (Below.setCell (p:=⟨rb,0,none⟩) hb.drew hBr _) hBr _)⟩
theorem If(B rb:Nat)(tb:List (UInt8 × ByteArray))(fv:Value)(w:Ys)(hR:td w B rb tb) :
  Calls Tryz.prog 116 #[Yl (some ⟨rb,0,none⟩),fv] w λe w'=>e=Yp (Ym #[])/\w'=w:=by
 obtain⟨_,bb,h,_⟩:=hR;exact Oy rb fv w (aj h 0)
end
section
def fg(tb:List (UInt8 × ByteArray))(c:UInt8):List UInt8:=match cD tb c with
 | some t=>t.1.1
 | none=>[c]
def qS(tb:List (UInt8 × ByteArray))(c:UInt8):Nat:=(fg tb c).length-1
theorem uL{tb:List (UInt8 × ByteArray)}{c:UInt8}{t:ByteArray}(h:cD tb c=some t):fg tb c=t.1.1:=by unfold fg;rw[h]
theorem lP{tb:List (UInt8 × ByteArray)}{c:UInt8}(h:cD tb c=none):fg tb c=[c]:=by unfold fg;rw[h]
theorem yE{tb:List (UInt8 × ByteArray)}{c:UInt8}{t:ByteArray}(h:cD tb c=some t):qS tb c=t.size-1:=by unfold qS;rw[uL h];simp
theorem yD{tb:List (UInt8 × ByteArray)}{c:UInt8}(h:cD tb c=none):qS tb c=0:=by unfold qS;rw[lP h];rfl
theorem ic{tb:List (UInt8 × ByteArray)}{c:UInt8}{t:ByteArray}(h:cD tb c=some t):(c,t)∈tb:=by
 induction tb with
 | nil=>cases h
 | cons p r ih=>
  rw[cD]at h
  split at h
  ·rename_i e
   simp only[Option.some.injEq]at h;subst e h;exact List.mem_cons_self
  exact List.mem_cons_of_mem _ (ih h)
theorem Df{tb:List (UInt8 × ByteArray)}{c:UInt8}(h:c∈tb.map (·.1)):∃t,cD tb c=some t:=by
 cases e:cD tb c with
 | some t=>exact⟨t,rfl⟩
 | none=>
  exfalso
  induction tb with
  | nil=>simp at h
  | cons p r ih=>
   rw[cD]at e
   split at e
   ·cases e
   rename_i hne
   simp only[List.map_cons,List.mem_cons]at h;rcases h with h|h
   ·exact hne h.symm
   exact ih h e
def yq(tb:List (UInt8 × ByteArray)):Prop:=∀p∈tb,2<=p.2.size/\p.2.size<=100
theorem DP{tb:List (UInt8 × ByteArray)}(h:yq tb)(c:UInt8):(fg tb c).length=qS tb c+1/\qS tb c<=99:=by
 cases e:cD tb c with
 | some t=>
  have:=h _ (ic e)
  rw[uL e,yE e];simp at this |-;omega
 | none=>rw[lP e,yD e];simp
def kT(tb:List (UInt8 × ByteArray))(l:List UInt8):Nat:=(l.map (qS tb)).sum
theorem KT{tb:List (UInt8 × ByteArray)}{l:List UInt8}{k:Nat}(h:k<l.length):kT tb (l.take (k+1))=kT tb (l.take k)+qS tb l[k]:=by
 unfold kT;rw[List.take_add_one,List.getElem?_eq_getElem h];simp only[List.map_append,List.sum_append,Option.toList_some,List.map_cons,List.map_nil,List.sum_cons,List.sum_nil,Nat.add_zero]
theorem LD{tb:List (UInt8 × ByteArray)}(h:yq tb)(l:List UInt8):(l.flatMap (fg tb)).length=l.length+kT tb l:=by
 induction l with
 | nil=>rfl
 | cons c l ih=>
  have:=(DP h c).1
  simp only[List.flatMap_cons,List.length_append,List.length_cons,kT,List.map_cons,List.sum_cons]at ih |-;omega
theorem F6{tb:List (UInt8 × ByteArray)}(h:yq tb)(l:List UInt8):kT tb l<=99*l.length:=by
 induction l with
 | nil=>simp[kT]
 | cons c l ih=>
  have:=(DP h c).2
  simp only[kT,List.map_cons,List.sum_cons,List.length_cons]at ih |-;omega
theorem zZ{tb:List (UInt8 × ByteArray)}{l:List UInt8}(h:∀c∈l,cD tb c=none):l.flatMap (fg tb)=l:=by
 induction l with
 | nil=>rfl
 | cons c l ih=>rw[List.flatMap_cons,lP (h c (by simp)),ih (λd hd=>h d (by simp[hd]))];rfl
def kP(tb:List (UInt8 × ByteArray))(strs l:List UInt8):Nat:=(strs.map λa=>l.count a*qS tb a).sum
theorem Jb{tb:List (UInt8 × ByteArray)}{strs l:List UInt8}{k:Nat}(h:k<strs.length):kP tb (strs.take (k+1)) l=kP tb (strs.take k) l+l.count strs[k]*qS tb strs[k]:=by
 unfold kP;rw[List.take_add_one,List.getElem?_eq_getElem h];simp only[List.map_append,List.sum_append,Option.toList_some,List.map_cons,List.map_nil,List.sum_cons,List.sum_nil,Nat.add_zero]
theorem Ja(tb:List (UInt8 × ByteArray))(strs l:List UInt8)(c:UInt8)(hn:strs.Nodup):kP tb strs (c :: l)=kP tb strs l+if c∈strs then qS tb c else 0:=by
 induction strs with
 | nil=>simp[kP]
 | cons a r ih=>
  have hn':=List.nodup_cons.1 hn;have:=ih hn'.2
  simp only[kP,List.map_cons,List.sum_cons]at this |-;rw[List.count_cons,this]
  by_cases e:c=a
  ·subst e;rw[if_neg hn'.1,if_pos (by simp)];simp[Nat.add_mul];omega
  have e2:(c==a)=false:=by simpa using e
  rw[e2];simp only[Bool.false_eq_true,if_false,Nat.add_zero,List.mem_cons,e,false_or];omega
theorem Lr{tb:List (UInt8 × ByteArray)}{strs:List UInt8}(hn:strs.Nodup)(hs:∀c,c ∉ strs->qS tb c=0)(l:List UInt8):kP tb strs l=kT tb l:=by
 induction l with
 | nil=>
  have:∀s:List UInt8,(s.map λ_=>0).sum=0:=λs=>by induction s with
   | nil=>rfl
   | cons a s ih=>simpa using ih
  simpa[kP,kT]using this strs
 | cons c l ih=>
  rw[Ja _ _ _ _ hn,ih];simp only[kT,List.map_cons,List.sum_cons]
  split
  ·omega
  rename_i h;rw[hs c h];omega
theorem Ot{tb:List (UInt8 × ByteArray)}(h:yq tb)(strs l:List UInt8):kP tb strs l<=strs.length*(l.length*99):=by
 induction strs with
 | nil=>simp[kP]
 | cons a r ih=>
  have h1:=(DP h a).2;have h2:l.count a<=l.length:=List.count_le_length;have h3:l.count a*qS tb a<=l.length*99:=Nat.mul_le_mul h2 h1;simp only[kP,List.map_cons,List.sum_cons,List.length_cons]at ih |-;rw[Nat.add_mul];omega
end
section
def Sj(w:Ys)(tb:List (UInt8 × ByteArray))(strs l:List UInt8)(s5 s6 KE:Value)(wr:Ys):Prop:=
 ∃j:Nat,KE=Yh Yn j/\j<=strs.length/\s5=Yh Yn ((l.length+kP tb (strs.take j) l:Nat):Int)/\s6=Yk ((strs.take j).any λa=>decide (0<l.count a))/\ac w wr
def Sg(w:Ys)(tb:List (UInt8 × ByteArray))(l:List UInt8)(s5 s6 db:Value)(wr:Ys):Prop:=
 ∃k:Nat,db=Yh Yn k/\k<=l.length/\s5=Yh Yn ((l.length+kT tb (l.take k):Nat):Int)/\s6=Yk ((l.take k).any λc=>(cD tb c).isSome)/\ac w wr
def NK(w:Ys)(gb N:Nat)(tb:List (UInt8 × ByteArray))(l:List UInt8)(mA xZ:Value)(wr:Ys):Prop:=
 ∃(k:Nat) (cur:Array Value) (rest:List Value),xZ=Yh Yn k/\k<=l.length/\mA=Yh Yn (((l.take k).flatMap (fg tb)).length:Nat)/\wr.1[gb]?=some (Yo cur 5 (0,0))/\cur.size=N/\cur.toList=Lib.byteCells ((l.take k).flatMap (fg tb))++rest/\ac w wr
theorem Ck{α:Type}(l:List α)(p:α->Bool)(k:Nat)(h:k<l.length):(l.take (k+1)).any p=((l.take k).any p || p l[k]):=by
 rw[List.take_add_one,List.getElem?_eq_getElem h,List.any_append];simp
theorem Ab{tb:List (UInt8 × ByteArray)}{l:List UInt8}{k:Nat}(h:k<l.length):(l.take (k+1)).flatMap (fg tb)=(l.take k).flatMap (fg tb)++fg tb l[k]:=by
 rw[List.take_add_one,List.getElem?_eq_getElem h,List.flatMap_append];simp
theorem Fk{tb:List (UInt8 × ByteArray)}(l:List UInt8)(k:Nat):((l.take k).flatMap (fg tb)).length<=(l.flatMap (fg tb)).length:=by
 conv=>rhs;rw[<-List.take_append_drop k l,List.flatMap_append,List.length_append]
 omega
theorem pP(a b:List UInt8):Lib.byteCells (a++b)=Lib.byteCells a++Lib.byteCells b:=by simp[Lib.byteCells]
theorem bG(a:List UInt8):(Lib.byteCells a).length=a.length:=by simp[Lib.byteCells]
theorem AD(N:Nat)(hN:N<=16700000):∃cs:Array Value,(∀W:Ys,(Instr.makeSlice 22 (Yh Yn (N:Int)) (Yh Yn (N:Int))).run Tryz.prog W=.ok (Yj (some ⟨W.1.size,0,none⟩) N N) (W.alloc (Yo cs 5)))/\cs.size=N:=by
 obtain⟨i,hi,hz0,hz1,hz2⟩:=info_parts pY;refine⟨madeCells (Value.cells (Yh .u8 0)) (N*i.size),λW=>?_,?_⟩
 ·have:=run_make (P:=Tryz.prog) W 22 5 i (.int .u8 0) Tryz.underlying22 hi hz0 .i64 .i64 (N:Int) (N:Int) (by omega) (by omega) (by rw[hz2];omega) (by omega)
  simpa using this
 rw[size_madeCells,hz1,Nat.mul_one]
theorem wU(W:Ys)(g N:Nat)(cur:Array Value)(out:List UInt8)(hg:W.1[g]?=some (Yo cur 5 (0,0)))(hc:cur.toList=Lib.byteCells out)(hN:out.length=N) :
  (convert 22 9 (Yj (some ⟨g,0,none⟩) N N)).run Tryz.prog W=.ok (Yi ⟨out.toArray⟩) W:=by
 rw[run_convert_bytes_arg W 22 5 Tryz.underlying22 Tryz.underlying5 g 0 N N (out.map λx=>(x.toNat:Int)) (by simpa using hN) (λi hi=>by
  rw[Nat.zero_add,aj hg i,<-Array.getElem?_toList,hc];have hil:i<out.length:=by omega
  simp[Lib.byteCells,List.getD_eq_getElem?_getD,hil]) _ Tryz.underlying9]
 simp[strOfNums,Function.comp_def]
theorem Pm(B bb:Nat)(tb:List (UInt8 × ByteArray))(s:ByteArray)(w:Ys)(h:fC w B bb tb (tb.map (·.1)))(hz:yq tb)(hl:tb.length<=100)(hnd:(tb.map (·.1)).Nodup)(hs:s.size<=160000) :
  Calls Tryz.prog 269 #[Yl (some ⟨bb,0,none⟩),Yi s] w λe w'=>e=Yp (Yi ⟨(s.1.1.flatMap (fg tb)).toArray⟩)/\ac w w':=by
 have hT:=h;obtain⟨_,cs,h1,h2,h3,h4,v,h5,h6⟩:=h;obtain⟨A,c,rfl,_⟩:=aJ h6;have UT:w.cell? ⟨bb,256,none⟩=some (Yj A (tb.map (·.1)).length c):=(aj h1 256).trans h5;haveI:af bb w:=af.of (ae h1);have fu:(tb.map (·.1)).length=tb.length:=by simp
 have hlen:=St.aC s;have HLEN:=aa hlen;have hfl:=LD hz s.1.1;have hsl:=F6 hz s.1.1;rw[hlen]at hfl hsl;obtain⟨N,hN⟩:∃N,N=(s.1.1.flatMap (fg tb)).length:=⟨_,rfl⟩;have HN:=aa hN;rw[<-hN]at hfl;have XD:N<=16000000:=by omega
 have nY:=aa hfl;have HT:=aa hT;have HZ:=aa hz;have UL:=aa h6;obtain⟨m,hm⟩:∃m,tb.length=m:=⟨_,rfl⟩;rw[fu,hm]at UT;have HM:=aa hm;rw[hm]at hl;clear h1 h2 h3 h4 h5 h6 hT hlen hfl hN fu hm
 by_cases hbr:m*8<=s.size
 ·have y1:(m:Int)*8<=(s.size:Int):=by omega
  go_enter Tryz.func269,Tryz.ntmps269;go_wp2_with fail;go_loopw [5,6,32] (λs5 s6 KE wr=>Sj w tb (tb.map (·.1)) s.1.1 s5 s6 KE wr) (λ_ _ KE _=>m+1-(intOf KE).toNat)
  case atStart=>exact⟨0,rfl,by omega,by simp[kP,HLEN.out],rfl,ac.refl _⟩
  case round=>
   obtain⟨j,rfl,hj,hs5,rfl,hu⟩:=hrel;have HU:=aa hu;have hjl:(tb.map (·.1)).length=m:=by rw[List.length_map,HM.out]
   by_cases hjm:j<m
   ·obtain⟨g,rfl,_,hg,hcells⟩:=dU UL.out (by rw[hjl];omega);have JL:w.cell? ⟨g,j,none⟩=some (Yi ⟨#[(tb.map (·.1))[j]'(by omega)]⟩):=hcells j _ (by rw[List.getElem?_map,List.getElem?_eq_getElem (by omega)];rfl);have cj:=(hu.cell (p:=⟨g,j,none⟩) hg).trans JL;haveI:af g wr:=af.of (Nat.lt_of_lt_of_le hg hu.size);have hmem:(tb.map (·.1))[j]'(by omega)∈tb.map (·.1):=List.getElem_mem _;have hcs:=Jb (tb:=tb) (strs:=tb.map (·.1)) (l:=s.1.1) (k:=j) (by omega);have gD:=Ck (tb.map (·.1)) (λa=>decide (0<s.1.1.count a)) j (by omega);generalize(tb.map (·.1))[j]'(by omega)=a at cj hmem hcs gD;obtain⟨t,ht⟩:=Df hmem;have hle:=Ot HZ.out ((tb.map (·.1)).take j) s.1.1;rw[List.length_take,HLEN.out]at hle;have Re:min j (tb.map (·.1)).length*(s.size*99)<=100*(160000*99):=Nat.mul_le_mul (by omega) (by omega);have hcl:s.1.1.count a<=s.size:=by rw[<-HLEN.out];exact List.count_le_length
    have hts:=(HZ.out _ (ic ht)).1;have vA:=(HZ.out _ (ic ht)).2;simp only at hts vA;rw[yE ht]at hcs;have ff:=HT.out.ai hu;obtain⟨_,cs2,k1,_,_,k4,_⟩:=ff;obtain⟨v2,k5,k6⟩:=k4 a t ht;obtain⟨g2,cap2,cb2,fr2,rfl,_,_,_,_⟩:=k6;have ca:wr.cell? ⟨bb,a.toNat,none⟩=some (Yj (some ⟨g2,0,none⟩) t.size cap2):=(aj k1 _).trans k5;haveI:af bb wr:=af.of (ae k1);have zl:(a.toNat:Int)<256:=by have:=kE a;omega
    have JM:=aa (λW=>Tryz.strings_Count_one s a W);obtain⟨so,ph⟩:∃so:ByteArray,so=⟨#[a]⟩:=⟨_,rfl⟩;rw[<-ph]at cj JM;have hs1:so.size=1:=by rw[ph];rfl
    have hs0:so[0]'(by omega)=a:=by subst ph;rfl
    have hcb:Lib.countByte s.1.1 a=s.1.1.count a:=rfl;rw[hcb]at JM;obtain⟨q,hq⟩:∃q,q=s.1.1.count a:=⟨_,rfl⟩;rw[<-hq]at JM hcs gD hcl;obtain⟨P0,lJ⟩:∃P0,P0=s.1.1.length+kP tb ((tb.map (·.1)).take j) s.1.1:=⟨_,rfl⟩;rw[<-lJ]at hs5;subst hs5;have NT:P0<=2000000000:=by rw[lJ,HLEN.out];omega
    have zj:(j:Int)<m:=by omega
    have Wq:q*(t.size-1)<=160000*99:=Nat.mul_le_mul (by omega) (by omega);have hQ:(q:Int)*((t.size:Int)-1)=((q*(t.size-1):Nat):Int):=by rw[Int.natCast_mul,Int.natCast_sub (by omega)];rfl
    have TS:s.1.1.length+kP tb ((tb.map (·.1)).take (j+1)) s.1.1=P0+q*(t.size-1):=by rw[hcs,lJ];omega
    have B4:=aa TS;have ve:=aa gD;obtain⟨Q0,hQ0⟩:∃Q0,Q0=q*(t.size-1):=⟨_,rfl⟩;rw[<-hQ0]at hQ B4 Wq;have VQ:=aa hQ0;generalize hb0:((tb.map (·.1)).take j).any (λa=>decide (0<s.1.1.count a))=b0 at ve;clear hcs gD hle Re JL hcells lJ TS hq ph hmem k1 k4 k5 hQ0
    by_cases hq0:q=0
    ·have zq:((q:Int)==0)=true:=by simp;omega
     have W6:((q:Int) != 0)=false:=by simp;omega
     have Rq:Q0=0:=by rw[VQ.out,hq0];simp
     have Nw:=aa (And.intro hq0 Rq);clear hq0 Rq;go_wp2_with fail;refine(JM.out _).mono ?_;rintro e w2 ⟨rfl,rfl⟩;go_wp2;refine⟨⟨j+1,congrArg (Yh Yn) (by omega),by omega,?_,?_,HU.out⟩,by simp[intOf];omega⟩
     ·rw[B4.out,Nw.out.2];rfl
     rw[ve.out,Nw.out.1];simp
    have zq:((q:Int)==0)=false:=by simp;omega
    have W6:((q:Int) != 0)=true:=by simp;omega
    have Nw:=aa hq0;clear hq0;go_wp2_with fail;refine(JM.out _).mono ?_;rintro e w2 ⟨rfl,rfl⟩;go_wp2_with fail;go_quiet (fail);go_wp2;refine⟨⟨j+1,congrArg (Yh Yn) (by omega),by omega,?_,?_,HU.out.trans ((ac.refl _).drewN _)⟩,by simp[intOf];omega⟩
    ·rw[B4.out];exact congrArg (Yh Yn) (by omega)
    rw[ve.out];simp;have:=Nw.out;omega
   obtain rfl:j=m:=by omega
   have htk:(tb.map (·.1)).take j=tb.map (·.1):=List.take_of_length_le (by omega);rw[htk]at hs5 |-;have hal:=Lr (tb:=tb) (strs:=tb.map (·.1)) hnd (λc hc=>yD (rY hc)) s.1.1;rw[hal,HLEN.out,<-nY.out]at hs5;subst hs5
   have hno:((tb.map (·.1)).any λa=>decide (0<s.1.1.count a))=false->s.1.1.flatMap (fg tb)=s.1.1:=by
    intro hf;refine zZ λc hc=>rY λhm=>?_
    have:=List.any_eq_false.1 hf c hm
    simp only[decide_eq_true_eq]at this;exact this (List.count_pos_iff.2 hc)
   have iz:=aa hno;generalize((tb.map (·.1)).any λa=>decide (0<s.1.1.count a))=b0 at iz |-;have zj:¬(j:Int)<j:=by omega
   clear htk hal hno hjm;cases b0
   ·have E1:=aa (iz.out rfl);clear iz;go_wp2;go_ret;refine⟨?_,HU.out⟩;rw[E1.out,bn];rfl
   clear iz;obtain⟨cz,hmk,hcz⟩:=AD N (by omega);have L2:=hmk wr;have hb0:=heap_alloc_new wr (Yo cz 5);have hu0:ac w (wr.alloc (Yo cz 5)):=HU.out.alloc _;obtain⟨wq,hwq⟩:∃wq,wq=wr:=⟨_,rfl⟩;subst hwq;have mF:=aa hb0;have fY:=aa hu0;have yL:=HU.out.size;clear hmk hb0 hu0;go_wp2_with fail;go_loopw [13,14] (λmA xZ wr=>NK w wq.1.size N tb s.1.1 mA xZ wr) (λ_ xZ _=>s.size+1-(intOf xZ).toNat)
   case atStart=>exact⟨0,cz,cz.toList,rfl,by omega,rfl,mF.out,hcz,rfl,fY.out⟩
   case round=>
    clear mF fY L2;obtain⟨k,cur,rest,rfl,hk,rfl,hbk,hcu,hcl,hux⟩:=hrel;rw[HLEN.out]at hk;have E3:=aa hux;haveI:af wq.1.size wr:=af.of (ae hbk)
    by_cases Ap:k<s.size
    ·have zk:(k:Int)<s.size:=by omega
     have CU:s.1.1[k]'(by rw[HLEN.out];exact Ap)=s[k]:=by simp;rfl
     have hft:=Ab (tb:=tb) (l:=s.1.1) (k:=k) (by rw[HLEN.out];exact Ap);rw[CU]at hft;have ll:=Fk (tb:=tb) s.1.1 (k+1);rw[hft,List.length_append,<-HN.out]at ll;have ff:=HT.out.ai hux;obtain⟨_,cs2,k1,_,k3,k4,_⟩:=ff;haveI:af bb wr:=af.of (ae k1);have zl:(s[k].toNat:Int)<256:=by have:=kE s[k];omega
     have mG:=aa hft;have me:cur.toList.length=N:=by simp[hcu]
     obtain⟨p,hp⟩:∃p,p=((s.1.1.take k).flatMap (fg tb)).length:=⟨_,rfl⟩;rw[<-hp]at ll |-;have hrl:rest.length=N-p:=by rw[hcl,List.length_append,bG,<-hp]at me;omega
     have HP:=aa hp;cases hlk:cD tb s[k]with
     | none=>
      have ca:wr.cell? ⟨bb,s[k].toNat,none⟩=some (Yj none 0 0):=(aj k1 _).trans (k3 _ hlk);rw[lP hlk]at ll mG;simp only[List.length_singleton]at ll;have zp:(p:Int)<N:=by omega
      obtain⟨r0,rest',hre⟩:∃r0 rest',rest=r0 :: rest':=by
       cases rest with
       | nil=>simp at hrl;omega
       | cons a b=>exact⟨a,b,rfl⟩
      have cp:wr.cell? ⟨wq.1.size,p,none⟩=some r0:=by
       rw[aj hbk p,<-Array.getElem?_toList,hcl,List.getElem?_append_right (by rw[bG,hp];exact Nat.le_refl _),bG,<-hp,hre];simp
      have fp:wr.frozen? ⟨wq.1.size,p,none⟩=false:=bz hbk p;have hb2:=heap_setCell_same wr wq.1.size p _ _ (Yh .u8 (s[k].toNat:Int)) hbk
      have hl2:(cur.setIfInBounds p (Yh .u8 (s[k].toNat:Int))).toList=Lib.byteCells ((s.1.1.take (k+1)).flatMap (fg tb))++rest':=by
       rw[Array.toList_setIfInBounds,hcl,mG.out,pP,List.set_append_right _ _ (by rw[bG,hp];exact Nat.le_refl _),bG,<-hp,hre];simp[Lib.byteCells]
      have hu2:ac w (wr.setCell ⟨wq.1.size,p,none⟩ (Yh .u8 (s[k].toNat:Int))):=hux.setCell (p:=⟨wq.1.size,p,none⟩) yL _;have HE:=aa (And.intro hb2 (And.intro hl2 hu2));have B2:=aa (show((s.1.1.take (k+1)).flatMap (fg tb)).length=p+1 by rw[mG.out,List.length_append,<-hp];rfl);clear hft ll k1 k3 k4 hlk CU hb2 hl2 hu2 hcl hbk hux me hp;go_wp2;exact⟨⟨k+1,_,rest',congrArg (Yh Yn) (by omega),by rw[HLEN.out];omega,by rw[B2.out];exact congrArg (Yh Yn) (by omega),HE.out.1,by simp[hcu],HE.out.2.1,HE.out.2.2⟩,by simp[intOf];omega⟩
     | some t=>
      obtain⟨v2,k5,k6⟩:=k4 _ t hlk;obtain⟨g2,cap2,cb2,fr2,rfl,_,k8,k9,k10⟩:=k6;have ca:wr.cell? ⟨bb,s[k].toNat,none⟩=some (Yj (some ⟨g2,0,none⟩) t.size cap2):=(aj k1 _).trans k5;rw[uL hlk]at ll mG;rw[St.aC]at ll;have L7:=(HZ.out _ (ic hlk)).1;simp only at L7;have zp:(p:Int)<=N:=by omega
      have R8:¬N=p:=by omega
      have vA:=(HZ.out _ (ic hlk)).2;simp only at vA
      have rQ:=run_copy_row (P:=Tryz.prog) wr.drew 22 22 3 5 wq.1.size p (N-p) (N-p) ⟨g2,0,none⟩ t.size cap2 cur 5 (Lib.byteCells t.1.1) Tryz.underlying22 (by kernel_rfl) hbk (by rw[bG,St.aC];exact(Nat.min_eq_left (by omega)).symm) (by
       intro j v hj
       have hjl:j<t.size:=by
        have:=(List.getElem?_eq_some_iff.1 hj).1
        rw[bG,St.aC]at this;exact this
       rw[show(⟨g2,0,none⟩:Addr).add j=⟨g2,j,none⟩by unfold Addr.add;split<;>simp_all];have hd:wr.drew.cell? ⟨g2,j,none⟩=wr.cell? ⟨g2,j,none⟩:=World.cell?_drew _ _;rw[hd,aj k9 j,k10 j hjl,<-hj];have ir:j<t.1.1.length:=by rw[St.aC];exact hjl
       have LY:t.data[j]?=some (t.data[j]'(by simpa using ir)):=Array.getElem?_eq_getElem _
       simp[Lib.byteCells,List.getD_eq_getElem?_getD,LY]) (by rw[bG,St.aC];omega) (by intro v hv;obtain⟨x,_,rfl⟩:=List.mem_map.1 hv;rfl)
      rw[bG,St.aC]at rQ;have hb2:=setRow_heap wr.drew wq.1.size cur (cur.toList.take p++Lib.byteCells t.1.1++cur.toList.drop (p+t.size)).toArray 5 (0,0) hbk
      have hl2:cur.toList.take p++Lib.byteCells t.1.1++cur.toList.drop (p+t.size)=Lib.byteCells ((s.1.1.take (k+1)).flatMap (fg tb))++rest.drop t.size:=by
       rw[hcl,mG.out,pP,List.take_append_of_le_length (by rw[bG,<-hp];exact Nat.le_refl _),List.take_of_length_le (by rw[bG,<-hp];exact Nat.le_refl _),List.drop_append,List.drop_of_length_le (by rw[bG,<-hp];omega),bG,<-hp];simp
      have kS:(cur.toList.take p++Lib.byteCells t.1.1++cur.toList.drop (p+t.size)).toArray.size=N:=by
       simp[bG,hcu];omega
      obtain⟨wc,hwc⟩:∃wc,wr.drew.setRow wq.1.size (cur.toList.take p++Lib.byteCells t.1.1++cur.toList.drop (p+t.size)).toArray=wc:=⟨_,rfl⟩;have hu2:ac w wc:=by rw[<-hwc];exact ac.mk (below_setRow (hux.drew).below yL _)
      rw[hwc]at rQ hb2;have CR:(Builtin.copy_ #[22,22] 3 #[Yj (some ⟨wq.1.size,p,none⟩) (N-p) (N-p),Yj (some ⟨g2,0,none⟩) t.size cap2]).run Tryz.prog wr.drew=.ok (Yh Yn (t.size:Int)) wc:=rQ;have HE:=aa (And.intro hb2 (And.intro hl2 (And.intro hu2 kS)));have B2:=aa (show((s.1.1.take (k+1)).flatMap (fg tb)).length=p+t.size by rw[mG.out,List.length_append,<-hp,St.aC]);have W4:(p:Int).toNat=p:=by omega
      clear hft k1 k3 k4 k5 hlk CU hb2 hl2 hu2 hcl hbk hux me hp kS rQ hwc k8 k9 k10;go_wp2_with fail;refine bU (λ_ _=>True) (λL W=>if L 10=true then W=wc else W=wr.drew) [λv _=>v=Yh Yn (p:Int),λv _=>v=Yj (some ⟨wq.1.size,0,none⟩) N N,λv _=>v=Yh Yn (p:Int),λv _=>v=Yj (some ⟨wq.1.size,p,none⟩) (N-p) (N-p),λv _=>v=Yl (some ⟨bb,0,none⟩),λv _=>v=Yh .u8 (s[k].toNat:Int),λv _=>v=Yl (some ⟨bb,0,none⟩),λv _=>v=Yl (some ⟨bb,0,none⟩),λv _=>v=Yl (some ⟨bb,s[k].toNat,none⟩),λv _=>v=Yj (some ⟨g2,0,none⟩) t.size cap2,λv _=>v=Yh Yn (t.size:Int),λv _=>v=Yh Yn ((p:Int)+(t.size:Int)),λv _=>v=Yh Yn ((p:Int)+(t.size:Int))] (λ_=>trivial) (λ_ _ _ _ _=>trivial) (by kernel_rfl) (by rfl) (by kernel_rfl) (by kernel_rfl) ?frA ?hfrA ?hIA ?hobA ?hendA
      case hfrA=>
       intro ρ;simp only[bZ,Act.put,ax,aw,ay,Nat.zero_add,Nat.reduceAdd];exact rfl
      case hIA=>simp
      case hobA=>
       refine aq.cons (λρ L W hR hI hL hD hO hF K hK=>?_) ?_
       ·have eo:ρ 12=Yh Yn (p:Int):=hO 12 _ 13 rfl rfl (hD.not (p:=12) rfl (by decide) hL);clear hF hD hO hR;simp only[Act.put,ax,aw,ay]at hK |-;rw[eo]at hK |-;go_simp;refine hK _ _ trivial (by simpa[ar]using hI) (λ_ _=>?_);rfl
       refine aq.cons (λρ L W hR hI hL hD hO hF K hK=>?_) ?_
       ·clear hF hD hO hR;simp only[Act.put,ax,aw,ay]at hK |-;go_simp;refine hK _ _ trivial (by simpa[ar]using hI) (λ_ _=>?_);rfl
       refine aq.cons (λρ L W hR hI hL hD hO hF K hK=>?_) ?_
       ·have eo:ρ 12=Yh Yn (p:Int):=hO 12 _ 13 rfl rfl (hD.not (p:=12) rfl (by decide) hL);clear hF hD hO hR;simp only[Act.put,ax,aw,ay]at hK |-;rw[eo]at hK |-;go_simp;refine hK _ _ trivial (by simpa[ar]using hI) (λ_ _=>?_);rfl
       refine aq.cons (λρ L W hR hI hL hD hO hF K hK=>?_) ?_
       ·have f1:=ag hF (j:=1) (by decide);have f2:=ag hF (j:=2) (by decide);clear hF hD hO hR;simp only[Act.put,ax,aw,ay]at hK |-;have e1:ρ 1=Yj (some ⟨wq.1.size,0,none⟩) N N:=f1;have e2:ρ 2=Yh Yn (p:Int):=f2;rw[e1,e2]at hK |-;go_simp;refine hK _ _ trivial (by simpa[ar]using hI) (λ_ _=>?_)
        first|rfl|rw[if_neg R8]
       refine aq.cons (λρ L W hR hI hL hD hO hF K hK=>?_) ?_
       ·clear hF hD hO hR;simp only[Act.put,ax,aw,ay]at hK |-;go_simp;refine hK _ _ trivial (by simpa[ar]using hI) (λ_ _=>?_);rfl
       refine aq.cons (λρ L W hR hI hL hD hO hF K hK=>?_) ?_
       ·clear hF hD hO hR;simp only[Act.put,ax,aw,ay]at hK |-;go_simp;refine hK _ _ trivial (by simpa[ar]using hI) (λ_ _=>?_);rfl
       refine aq.cons (λρ L W hR hI hL hD hO hF K hK=>?_) ?_
       ·have f4:=ag hF (j:=4) (by decide);clear hF hD hO hR;simp only[Act.put,ax,aw,ay]at hK |-;have e4:ρ 4=Yl (some ⟨bb,0,none⟩):=f4;rw[e4]at hK |-;go_simp;refine hK _ _ trivial (by simpa[ar]using hI) (λ_ _=>?_);rfl
       refine aq.cons (λρ L W hR hI hL hD hO hF K hK=>?_) ?_
       ·have f6:=ag hF (j:=6) (by decide);clear hF hD hO hR;simp only[Act.put,ax,aw,ay]at hK |-;have e6:ρ 6=Yl (some ⟨bb,0,none⟩):=f6;rw[e6]at hK |-;go_simp;refine hK _ _ trivial (by simpa[ar]using hI) (λ_ _=>?_);rfl
       refine aq.cons (λρ L W hR hI hL hD hO hF K hK=>?_) ?_
       ·have f5:=ag hF (j:=5) (by decide);have f7:=ag hF (j:=7) (by decide);clear hF hD hO hR;simp only[Act.put,ax,aw,ay]at hK |-;have e5:ρ 5=Yh .u8 (s[k].toNat:Int):=f5;have e7:ρ 7=Yl (some ⟨bb,0,none⟩):=f7;rw[e5,e7]at hK |-;go_simp;refine hK _ _ trivial (by simpa[ar]using hI) (λ_ _=>?_);rfl
       refine aq.cons (λρ L W hR hI hL hD hO hF K hK=>?_) ?_
       ·have f8:=ag hF (j:=8) (by decide);have j9:L 10=false:=hD.not (p:=10) rfl (by decide) hL;rw[if_neg (by rw[j9];decide)]at hI;subst hI;clear hF hD hO hR;simp only[Act.put,ax,aw,ay]at hK |-;have e8:ρ 8=Yl (some ⟨bb,s[k].toNat,none⟩):=f8;rw[e8]at hK |-;go_simp;refine hK _ _ trivial (by simp[ar,j9]) (λ_ _=>?_);rfl
       refine aq.cons (λρ L W hR hI hL hD hO hF K hK=>?_) ?_
       ·have f3:=ag hF (j:=3) (by decide);have f9:=ag hF (j:=9) (by decide);rw[if_neg (by rw[hL];decide)]at hI;subst hI;clear hF hD hO hR;simp only[Act.put,ax,aw,ay]at hK |-;have e3:ρ 3=Yj (some ⟨wq.1.size,p,none⟩) (N-p) (N-p):=f3;have e9:ρ 9=Yj (some ⟨g2,0,none⟩) t.size cap2:=f9;rw[e3,e9]at hK |-;go_simp;refine hK _ _ trivial (by simp[ar]) (λ_ _=>?_);rfl
       refine aq.cons (λρ L W hR hI hL hD hO hF K hK=>?_) ?_
       ·have f0:=ag hF (j:=0) (by decide);have f10:=ag hF (j:=10) (by decide);clear hF hD hO hR;simp only[Act.put,ax,aw,ay]at hK |-;have e0:ρ 0=Yh Yn (p:Int):=f0;have e10:ρ 10=Yh Yn (t.size:Int):=f10;rw[e0,e10]at hK |-;go_simp;refine hK _ _ trivial (by simpa[ar]using hI) (λ_ _=>?_)
        first|rfl|exact congrArg (Yh Yn) (IntWalk.i64_in _ (by omega))
       refine aq.cons (λρ L W hR hI hL hD hO hF K hK=>?_) ?_
       ·have f11:=ag hF (j:=11) (by decide);clear hF hD hO hR;simp only[Act.put,ax,aw,ay]at hK |-;have e11:ρ 11=Yh Yn ((p:Int)+(t.size:Int)):=f11;rw[e11]at hK |-;go_simp;refine hK _ _ trivial (by simpa[ar]using hI) (λ_ _=>?_);rfl
       exact aq.nil
      case hendA=>
       intro ρ L W hR hI hL hF;rw[if_pos (hL 10 (by decide))]at hI;subst hI;obtain⟨_,_,_,_,_,_,_,_,_,_,_,_,g12,_⟩:=hF;have g12:ρ 12=Yh Yn ((p:Int)+(t.size:Int)):=g12;rw[g12];clear g12 hL hR;go_wp2;exact⟨⟨k+1,_,rest.drop t.size,congrArg (Yh Yn) (by omega),by rw[HLEN.out];omega,by rw[B2.out];exact congrArg (Yh Yn) (by omega),HE.out.1,HE.out.2.2.2,HE.out.2.1,HE.out.2.2.1⟩,by simp[intOf];omega⟩
    obtain rfl:k=s.size:=by omega
    have htk:s.1.1.take s.size=s.1.1:=List.take_of_length_le (by rw[HLEN.out];omega);rw[htk]at hcl |-;have me:cur.toList.length=N:=by simp[hcu]
    have sP:rest=[]:=by
     rw[hcl,List.length_append,bG,<-HN.out]at me;exact List.eq_nil_of_length_eq_zero (by omega)
    rw[sP,List.append_nil]at hcl;have hcv:=wU wr wq.1.size N cur (s.1.1.flatMap (fg tb)) hbk hcl HN.out.symm;have zk:¬(s.size:Int)<s.size:=by omega
    clear hcl me sP htk hbk Ap;go_wp2;go_ret;exact⟨rfl,E3.out⟩
 have y1:¬(m:Int)*8<=(s.size:Int):=by omega
 go_enter Tryz.func269,Tryz.ntmps269;go_wp2_with fail;go_loopw [5,6,10] (λs5 s6 db wr=>Sg w tb s.1.1 s5 s6 db wr) (λ_ _ db _=>s.size+1-(intOf db).toNat)
 case atStart=>exact⟨0,rfl,by omega,by simp[kT,HLEN.out],rfl,ac.refl _⟩
 case round=>
  obtain⟨j,rfl,hj,hs5,rfl,hu⟩:=hrel;have HU:=aa hu;rw[HLEN.out]at hj
  by_cases hjm:j<s.size
  ·have zj:(j:Int)<s.size:=by omega
   have Q9:s.1.1[j]'(by rw[HLEN.out];exact hjm)=s[j]:=by simp;rfl
   have hcs:=KT (tb:=tb) (l:=s.1.1) (k:=j) (by rw[HLEN.out];exact hjm);have gD:=Ck s.1.1 (λc=>(cD tb c).isSome) j (by rw[HLEN.out];exact hjm);rw[Q9]at hcs gD;have hle:=F6 HZ.out (s.1.1.take j);rw[List.length_take,HLEN.out]at hle;obtain⟨P0,lJ⟩:∃P0,P0=s.1.1.length+kT tb (s.1.1.take j):=⟨_,rfl⟩;rw[<-lJ]at hs5;subst hs5;have NT:P0<=2000000000:=by rw[lJ,HLEN.out];omega
   have ff:=HT.out.ai hu;obtain⟨_,cs2,k1,_,k3,k4,_⟩:=ff;haveI:af bb wr:=af.of (ae k1);have zl:(s[j].toNat:Int)<256:=by have:=kE s[j];omega
   have ve:=aa gD;generalize hb0:(s.1.1.take j).any (λc=>(cD tb c).isSome)=b0 at ve;cases hlk:cD tb s[j]with
   | none=>
    have ca:wr.cell? ⟨bb,s[j].toNat,none⟩=some (Yj none 0 0):=(aj k1 _).trans (k3 _ hlk);rw[yD hlk]at hcs;have B4:=aa (show s.1.1.length+kT tb (s.1.1.take (j+1))=P0 by rw[hcs,lJ];omega);have sX:=aa hlk;clear hcs gD hle k1 k3 k4 lJ hlk Q9;go_wp2;exact⟨⟨j+1,congrArg (Yh Yn) (by omega),by rw[HLEN.out];omega,by rw[B4.out],by rw[ve.out,sX.out];simp,HU.out⟩,by simp[intOf];omega⟩
   | some t=>
    obtain⟨v2,k5,k6⟩:=k4 _ t hlk;obtain⟨g2,cap2,cb2,fr2,rfl,_,_,_,_⟩:=k6;have ca:wr.cell? ⟨bb,s[j].toNat,none⟩=some (Yj (some ⟨g2,0,none⟩) t.size cap2):=(aj k1 _).trans k5;have hts:=(HZ.out _ (ic hlk)).1;have vA:=(HZ.out _ (ic hlk)).2;simp only at hts vA;rw[yE hlk]at hcs;have B4:=aa (show s.1.1.length+kT tb (s.1.1.take (j+1))=P0+(t.size-1)by rw[hcs,lJ];omega);have sX:=aa hlk;clear hcs gD hle k1 k3 k4 k5 lJ hlk Q9;go_wp2;exact⟨⟨j+1,congrArg (Yh Yn) (by omega),by rw[HLEN.out];omega,by rw[B4.out];exact congrArg (Yh Yn) (by omega),by rw[ve.out,sX.out];simp,HU.out⟩,by simp[intOf];omega⟩
  obtain rfl:j=s.size:=by omega
  have htk:s.1.1.take s.size=s.1.1:=List.take_of_length_le (by rw[HLEN.out];omega);rw[htk]at hs5 |-;rw[HLEN.out,<-nY.out]at hs5;subst hs5
  have hno:(s.1.1.any λc=>(cD tb c).isSome)=false->s.1.1.flatMap (fg tb)=s.1.1:=by
   intro hf;refine zZ λc hc=>?_
   have:=List.any_eq_false.1 hf c hc
   simpa using this
  have iz:=aa hno;generalize(s.1.1.any λc=>(cD tb c).isSome)=b0 at iz |-;have zj:¬(s.size:Int)<s.size:=by omega
  clear htk hno hjm;cases b0
  ·have E1:=aa (iz.out rfl);clear iz;go_wp2;go_ret;refine⟨?_,HU.out⟩;rw[E1.out,bn];rfl
  clear iz;obtain⟨cz,hmk,hcz⟩:=AD N (by omega);have L2:=hmk wr;have hb0:=heap_alloc_new wr (Yo cz 5);have hu0:ac w (wr.alloc (Yo cz 5)):=HU.out.alloc _;obtain⟨wq,hwq⟩:∃wq,wq=wr:=⟨_,rfl⟩;subst hwq;have mF:=aa hb0;have fY:=aa hu0;have yL:=HU.out.size;clear hmk hb0 hu0;go_wp2_with fail;go_loopw [13,14] (λmA xZ wr=>NK w wq.1.size N tb s.1.1 mA xZ wr) (λ_ xZ _=>s.size+1-(intOf xZ).toNat)
  case atStart=>exact⟨0,cz,cz.toList,rfl,by omega,rfl,mF.out,hcz,rfl,fY.out⟩
  case round=>
   clear mF fY L2;obtain⟨k,cur,rest,rfl,hk,rfl,hbk,hcu,hcl,hux⟩:=hrel;rw[HLEN.out]at hk;have E3:=aa hux;haveI:af wq.1.size wr:=af.of (ae hbk)
   by_cases Ap:k<s.size
   ·have zk:(k:Int)<s.size:=by omega
    have CU:s.1.1[k]'(by rw[HLEN.out];exact Ap)=s[k]:=by simp;rfl
    have hft:=Ab (tb:=tb) (l:=s.1.1) (k:=k) (by rw[HLEN.out];exact Ap);rw[CU]at hft;have ll:=Fk (tb:=tb) s.1.1 (k+1);rw[hft,List.length_append,<-HN.out]at ll;have ff:=HT.out.ai hux;obtain⟨_,cs2,k1,_,k3,k4,_⟩:=ff;haveI:af bb wr:=af.of (ae k1);have zl:(s[k].toNat:Int)<256:=by have:=kE s[k];omega
    have mG:=aa hft;have me:cur.toList.length=N:=by simp[hcu]
    obtain⟨p,hp⟩:∃p,p=((s.1.1.take k).flatMap (fg tb)).length:=⟨_,rfl⟩;rw[<-hp]at ll |-;have hrl:rest.length=N-p:=by rw[hcl,List.length_append,bG,<-hp]at me;omega
    have HP:=aa hp;cases hlk:cD tb s[k]with
    | none=>
     have ca:wr.cell? ⟨bb,s[k].toNat,none⟩=some (Yj none 0 0):=(aj k1 _).trans (k3 _ hlk);rw[lP hlk]at ll mG;simp only[List.length_singleton]at ll;have zp:(p:Int)<N:=by omega
     obtain⟨r0,rest',hre⟩:∃r0 rest',rest=r0 :: rest':=by
      cases rest with
      | nil=>simp at hrl;omega
      | cons a b=>exact⟨a,b,rfl⟩
     have cp:wr.cell? ⟨wq.1.size,p,none⟩=some r0:=by
      rw[aj hbk p,<-Array.getElem?_toList,hcl,List.getElem?_append_right (by rw[bG,hp];exact Nat.le_refl _),bG,<-hp,hre];simp
     have fp:wr.frozen? ⟨wq.1.size,p,none⟩=false:=bz hbk p;have hb2:=heap_setCell_same wr wq.1.size p _ _ (Yh .u8 (s[k].toNat:Int)) hbk
     have hl2:(cur.setIfInBounds p (Yh .u8 (s[k].toNat:Int))).toList=Lib.byteCells ((s.1.1.take (k+1)).flatMap (fg tb))++rest':=by
      rw[Array.toList_setIfInBounds,hcl,mG.out,pP,List.set_append_right _ _ (by rw[bG,hp];exact Nat.le_refl _),bG,<-hp,hre];simp[Lib.byteCells]
     have hu2:ac w (wr.setCell ⟨wq.1.size,p,none⟩ (Yh .u8 (s[k].toNat:Int))):=hux.setCell (p:=⟨wq.1.size,p,none⟩) yL _;have HE:=aa (And.intro hb2 (And.intro hl2 hu2));have B2:=aa (show((s.1.1.take (k+1)).flatMap (fg tb)).length=p+1 by rw[mG.out,List.length_append,<-hp];rfl);clear hft ll k1 k3 k4 hlk CU hb2 hl2 hu2 hcl hbk hux me hp;go_wp2;exact⟨⟨k+1,_,rest',congrArg (Yh Yn) (by omega),by rw[HLEN.out];omega,by rw[B2.out];exact congrArg (Yh Yn) (by omega),HE.out.1,by simp[hcu],HE.out.2.1,HE.out.2.2⟩,by simp[intOf];omega⟩
    | some t=>
     obtain⟨v2,k5,k6⟩:=k4 _ t hlk;obtain⟨g2,cap2,cb2,fr2,rfl,_,k8,k9,k10⟩:=k6;have ca:wr.cell? ⟨bb,s[k].toNat,none⟩=some (Yj (some ⟨g2,0,none⟩) t.size cap2):=(aj k1 _).trans k5;rw[uL hlk]at ll mG;rw[St.aC]at ll;have L7:=(HZ.out _ (ic hlk)).1;simp only at L7;have zp:(p:Int)<=N:=by omega
     have R8:¬N=p:=by omega
     have vA:=(HZ.out _ (ic hlk)).2;simp only at vA
     have rQ:=run_copy_row (P:=Tryz.prog) wr.drew 22 22 3 5 wq.1.size p (N-p) (N-p) ⟨g2,0,none⟩ t.size cap2 cur 5 (Lib.byteCells t.1.1) Tryz.underlying22 (by kernel_rfl) hbk (by rw[bG,St.aC];exact(Nat.min_eq_left (by omega)).symm) (by
      intro j v hj
      have hjl:j<t.size:=by
       have:=(List.getElem?_eq_some_iff.1 hj).1
       rw[bG,St.aC]at this;exact this
      rw[show(⟨g2,0,none⟩:Addr).add j=⟨g2,j,none⟩by unfold Addr.add;split<;>simp_all];have hd:wr.drew.cell? ⟨g2,j,none⟩=wr.cell? ⟨g2,j,none⟩:=World.cell?_drew _ _;rw[hd,aj k9 j,k10 j hjl,<-hj];have ir:j<t.1.1.length:=by rw[St.aC];exact hjl
      have LY:t.data[j]?=some (t.data[j]'(by simpa using ir)):=Array.getElem?_eq_getElem _
      simp[Lib.byteCells,List.getD_eq_getElem?_getD,LY]) (by rw[bG,St.aC];omega) (by intro v hv;obtain⟨x,_,rfl⟩:=List.mem_map.1 hv;rfl)
     rw[bG,St.aC]at rQ;have hb2:=setRow_heap wr.drew wq.1.size cur (cur.toList.take p++Lib.byteCells t.1.1++cur.toList.drop (p+t.size)).toArray 5 (0,0) hbk
     have hl2:cur.toList.take p++Lib.byteCells t.1.1++cur.toList.drop (p+t.size)=Lib.byteCells ((s.1.1.take (k+1)).flatMap (fg tb))++rest.drop t.size:=by
      rw[hcl,mG.out,pP,List.take_append_of_le_length (by rw[bG,<-hp];exact Nat.le_refl _),List.take_of_length_le (by rw[bG,<-hp];exact Nat.le_refl _),List.drop_append,List.drop_of_length_le (by rw[bG,<-hp];omega),bG,<-hp];simp
     have kS:(cur.toList.take p++Lib.byteCells t.1.1++cur.toList.drop (p+t.size)).toArray.size=N:=by
      simp[bG,hcu];omega
     obtain⟨wc,hwc⟩:∃wc,wr.drew.setRow wq.1.size (cur.toList.take p++Lib.byteCells t.1.1++cur.toList.drop (p+t.size)).toArray=wc:=⟨_,rfl⟩;have hu2:ac w wc:=by rw[<-hwc];exact ac.mk (below_setRow (hux.drew).below yL _)
     rw[hwc]at rQ hb2;have CR:(Builtin.copy_ #[22,22] 3 #[Yj (some ⟨wq.1.size,p,none⟩) (N-p) (N-p),Yj (some ⟨g2,0,none⟩) t.size cap2]).run Tryz.prog wr.drew=.ok (Yh Yn (t.size:Int)) wc:=rQ;have HE:=aa (And.intro hb2 (And.intro hl2 (And.intro hu2 kS)));have B2:=aa (show((s.1.1.take (k+1)).flatMap (fg tb)).length=p+t.size by rw[mG.out,List.length_append,<-hp,St.aC]);have W4:(p:Int).toNat=p:=by omega
     clear hft k1 k3 k4 k5 hlk CU hb2 hl2 hu2 hcl hbk hux me hp kS rQ hwc k8 k9 k10;go_wp2_with fail;refine bU (λ_ _=>True) (λL W=>if L 10=true then W=wc else W=wr.drew) [λv _=>v=Yh Yn (p:Int),λv _=>v=Yj (some ⟨wq.1.size,0,none⟩) N N,λv _=>v=Yh Yn (p:Int),λv _=>v=Yj (some ⟨wq.1.size,p,none⟩) (N-p) (N-p),λv _=>v=Yl (some ⟨bb,0,none⟩),λv _=>v=Yh .u8 (s[k].toNat:Int),λv _=>v=Yl (some ⟨bb,0,none⟩),λv _=>v=Yl (some ⟨bb,0,none⟩),λv _=>v=Yl (some ⟨bb,s[k].toNat,none⟩),λv _=>v=Yj (some ⟨g2,0,none⟩) t.size cap2,λv _=>v=Yh Yn (t.size:Int),λv _=>v=Yh Yn ((p:Int)+(t.size:Int)),λv _=>v=Yh Yn ((p:Int)+(t.size:Int))] (λ_=>trivial) (λ_ _ _ _ _=>trivial) (by kernel_rfl) (by rfl) (by kernel_rfl) (by kernel_rfl) ?frB ?hfrB ?hIB ?hobB ?hendB
     case hfrB=>
      intro ρ;simp only[bZ,Act.put,ax,aw,ay,Nat.zero_add,Nat.reduceAdd];exact rfl
     case hIB=>simp
     case hobB=>
      refine aq.cons (λρ L W hR hI hL hD hO hF K hK=>?_) ?_
      ·have eo:ρ 12=Yh Yn (p:Int):=hO 12 _ 13 rfl rfl (hD.not (p:=12) rfl (by decide) hL);clear hF hD hO hR;simp only[Act.put,ax,aw,ay]at hK |-;rw[eo]at hK |-;go_simp;refine hK _ _ trivial (by simpa[ar]using hI) (λ_ _=>?_);rfl
      refine aq.cons (λρ L W hR hI hL hD hO hF K hK=>?_) ?_
      ·clear hF hD hO hR;simp only[Act.put,ax,aw,ay]at hK |-;go_simp;refine hK _ _ trivial (by simpa[ar]using hI) (λ_ _=>?_);rfl
      refine aq.cons (λρ L W hR hI hL hD hO hF K hK=>?_) ?_
      ·have eo:ρ 12=Yh Yn (p:Int):=hO 12 _ 13 rfl rfl (hD.not (p:=12) rfl (by decide) hL);clear hF hD hO hR;simp only[Act.put,ax,aw,ay]at hK |-;rw[eo]at hK |-;go_simp;refine hK _ _ trivial (by simpa[ar]using hI) (λ_ _=>?_);rfl
      refine aq.cons (λρ L W hR hI hL hD hO hF K hK=>?_) ?_
      ·have f1:=ag hF (j:=1) (by decide);have f2:=ag hF (j:=2) (by decide);clear hF hD hO hR;simp only[Act.put,ax,aw,ay]at hK |-;have e1:ρ 1=Yj (some ⟨wq.1.size,0,none⟩) N N:=f1;have e2:ρ 2=Yh Yn (p:Int):=f2;rw[e1,e2]at hK |-;go_simp;refine hK _ _ trivial (by simpa[ar]using hI) (λ_ _=>?_)
       first|rfl|rw[if_neg R8]
      refine aq.cons (λρ L W hR hI hL hD hO hF K hK=>?_) ?_
      ·clear hF hD hO hR;simp only[Act.put,ax,aw,ay]at hK |-;go_simp;refine hK _ _ trivial (by simpa[ar]using hI) (λ_ _=>?_);rfl
      refine aq.cons (λρ L W hR hI hL hD hO hF K hK=>?_) ?_
      ·clear hF hD hO hR;simp only[Act.put,ax,aw,ay]at hK |-;go_simp;refine hK _ _ trivial (by simpa[ar]using hI) (λ_ _=>?_);rfl
      refine aq.cons (λρ L W hR hI hL hD hO hF K hK=>?_) ?_
      ·have f4:=ag hF (j:=4) (by decide);clear hF hD hO hR;simp only[Act.put,ax,aw,ay]at hK |-;have e4:ρ 4=Yl (some ⟨bb,0,none⟩):=f4;rw[e4]at hK |-;go_simp;refine hK _ _ trivial (by simpa[ar]using hI) (λ_ _=>?_);rfl
      refine aq.cons (λρ L W hR hI hL hD hO hF K hK=>?_) ?_
      ·have f6:=ag hF (j:=6) (by decide);clear hF hD hO hR;simp only[Act.put,ax,aw,ay]at hK |-;have e6:ρ 6=Yl (some ⟨bb,0,none⟩):=f6;rw[e6]at hK |-;go_simp;refine hK _ _ trivial (by simpa[ar]using hI) (λ_ _=>?_);rfl
      refine aq.cons (λρ L W hR hI hL hD hO hF K hK=>?_) ?_
      ·have f5:=ag hF (j:=5) (by decide);have f7:=ag hF (j:=7) (by decide);clear hF hD hO hR;simp only[Act.put,ax,aw,ay]at hK |-;have e5:ρ 5=Yh .u8 (s[k].toNat:Int):=f5;have e7:ρ 7=Yl (some ⟨bb,0,none⟩):=f7;rw[e5,e7]at hK |-;go_simp;refine hK _ _ trivial (by simpa[ar]using hI) (λ_ _=>?_);rfl
      refine aq.cons (λρ L W hR hI hL hD hO hF K hK=>?_) ?_
      ·have f8:=ag hF (j:=8) (by decide);have j9:L 10=false:=hD.not (p:=10) rfl (by decide) hL;rw[if_neg (by rw[j9];decide)]at hI;subst hI;clear hF hD hO hR;simp only[Act.put,ax,aw,ay]at hK |-;have e8:ρ 8=Yl (some ⟨bb,s[k].toNat,none⟩):=f8;rw[e8]at hK |-;go_simp;refine hK _ _ trivial (by simp[ar,j9]) (λ_ _=>?_);rfl
      refine aq.cons (λρ L W hR hI hL hD hO hF K hK=>?_) ?_
      ·have f3:=ag hF (j:=3) (by decide);have f9:=ag hF (j:=9) (by decide);rw[if_neg (by rw[hL];decide)]at hI;subst hI;clear hF hD hO hR;simp only[Act.put,ax,aw,ay]at hK |-;have e3:ρ 3=Yj (some ⟨wq.1.size,p,none⟩) (N-p) (N-p):=f3;have e9:ρ 9=Yj (some ⟨g2,0,none⟩) t.size cap2:=f9;rw[e3,e9]at hK |-;go_simp;refine hK _ _ trivial (by simp[ar]) (λ_ _=>?_);rfl
      refine aq.cons (λρ L W hR hI hL hD hO hF K hK=>?_) ?_
      ·have f0:=ag hF (j:=0) (by decide);have f10:=ag hF (j:=10) (by decide);clear hF hD hO hR;simp only[Act.put,ax,aw,ay]at hK |-;have e0:ρ 0=Yh Yn (p:Int):=f0;have e10:ρ 10=Yh Yn (t.size:Int):=f10;rw[e0,e10]at hK |-;go_simp;refine hK _ _ trivial (by simpa[ar]using hI) (λ_ _=>?_)
       first|rfl|exact congrArg (Yh Yn) (IntWalk.i64_in _ (by omega))
      refine aq.cons (λρ L W hR hI hL hD hO hF K hK=>?_) ?_
      ·have f11:=ag hF (j:=11) (by decide);clear hF hD hO hR;simp only[Act.put,ax,aw,ay]at hK |-;have e11:ρ 11=Yh Yn ((p:Int)+(t.size:Int)):=f11;rw[e11]at hK |-;go_simp;refine hK _ _ trivial (by simpa[ar]using hI) (λ_ _=>?_);rfl
      exact aq.nil
     case hendB=>
      intro ρ L W hR hI hL hF;rw[if_pos (hL 10 (by decide))]at hI;subst hI;obtain⟨_,_,_,_,_,_,_,_,_,_,_,_,g12,_⟩:=hF;have g12:ρ 12=Yh Yn ((p:Int)+(t.size:Int)):=g12;rw[g12];clear g12 hL hR;go_wp2;exact⟨⟨k+1,_,rest.drop t.size,congrArg (Yh Yn) (by omega),by rw[HLEN.out];omega,by rw[B2.out];exact congrArg (Yh Yn) (by omega),HE.out.1,HE.out.2.2.2,HE.out.2.1,HE.out.2.2.1⟩,by simp[intOf];omega⟩
   obtain rfl:k=s.size:=by omega
   have htk:s.1.1.take s.size=s.1.1:=List.take_of_length_le (by rw[HLEN.out];omega);rw[htk]at hcl |-;have me:cur.toList.length=N:=by simp[hcu]
   have sP:rest=[]:=by
    rw[hcl,List.length_append,bG,<-HN.out]at me;exact List.eq_nil_of_length_eq_zero (by omega)
   rw[sP,List.append_nil]at hcl;have hcv:=wU wr wq.1.size N cur (s.1.1.flatMap (fg tb)) hbk hcl HN.out.symm;have zk:¬(s.size:Int)<s.size:=by omega
   clear hcl me sP htk hbk Ap;go_wp2;go_ret;exact⟨rfl,E3.out⟩
end
section
theorem th.sz{tb:List (UInt8 × ByteArray)}(h:th tb):yq tb.reverse:=λp hp=>h.2.2.1 p (List.mem_reverse.1 hp)
def gO(w:Ys)(B rb:Nat)(tb:List (UInt8 × ByteArray)):Prop:=vj w B rb (dJ tb)\/td w B rb tb
theorem gO.ai{a c:Ys}{B rb:Nat}{tb:List (UInt8 × ByteArray)}(h:gO a B rb tb)(u:ac a c):gO c B rb tb:=h.imp (λh=>h.ai u) (λh=>h.ai u)
theorem gO.lt{w:Ys}{B rb:Nat}{tb:List (UInt8 × ByteArray)}(h:gO w B rb tb):rb<w.1.size:=by
 rcases h with h|h
 ·obtain⟨_,v,h,_⟩:=h;exact ae h
 obtain⟨_,v,h,_⟩:=h;exact ae h
theorem qG(B rb:Nat)(tb:List (UInt8 × ByteArray))(s:ByteArray)(w:Ys)(hR:gO w B rb tb)(hk:th tb)(hB:B<=w.1.size)(hs:s.size<=160000) :
  Calls Tryz.prog 74 #[Yl (some ⟨rb,0,none⟩),Yi s] w λe w'=>e=Yp (Yi ⟨(s.1.1.flatMap (fg tb.reverse)).toArray⟩)/\td w' B rb tb/\Below B w w':=by
 have TW:Calls Tryz.prog 116 #[Yl (some ⟨rb,0,none⟩),.func (.func 117) #[Yl (some ⟨rb,0,none⟩)] #[]] w λe w'=>e=Yp (Ym #[])/\td w' B rb tb/\Below B w w':=by
  rcases hR with h|h
  ·exact EC B rb tb w h hk hB
  refine(If B rb tb _ w h).mono ?_;rintro e w' ⟨rfl,rfl⟩;exact⟨rfl,h,Below.refl _ _⟩
 have Nn:=aa TW;have HK:=aa hk;haveI:af rb w:=af.of hR.lt;have Fl:=aa hR;clear TW hk hR;go_enter Tryz.func74,Tryz.ntmps74;go_wp2_with fail;refine Nn.out.mono ?_;rintro e w2 ⟨rfl,hRB,hbl⟩;have VR:=aa hRB;have df:=aa hbl;obtain⟨hBr,bb,h1,h2⟩:=hRB;have c1:w2.cell? ⟨rb,3,none⟩=some (.iface 241 (Yl (some ⟨bb,0,none⟩))):=aj h1 3;haveI:af rb w2:=af.of (ae h1);have hnd:(tb.reverse.map (·.1)).Nodup:=by rw[List.map_reverse];exact(List.reverse_perm _).nodup_iff.2 HK.out.2.2.2
 have UN:=aa (Pm B bb tb.reverse s w2 h2 HK.out.sz (by rw[List.length_reverse];exact HK.out.2.1) hnd hs);clear hbl h1 h2 hnd Nn;go_wp2_with fail;refine UN.out.mono ?_;rintro e w3 ⟨rfl,hu⟩;have HU:=aa hu;clear hu;go_wp2;go_ret;exact⟨rfl,VR.out.ai HU.out,df.out.trans (HU.out.below.mono (Nat.le_trans hB df.out.size))⟩
end
