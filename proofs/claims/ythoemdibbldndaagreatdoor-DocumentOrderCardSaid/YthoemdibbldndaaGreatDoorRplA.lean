/- The contracts of sync.Once's Do, not yet done and done already, one goroutine alone. -/
import Derived.Tactics
import Derived.Tactics2
import Derived.Defers
import Derived.Laws.Pointers
import Derived.Laws.LoneSync
import Derived.RegionTactic
import Derived.RegionCalls
import Derived.ChangeAlike
import Derived.Laws.MakeOwn
import Derived.Deep.WholeRow
import Derived.Lib.ConvBytes
import Derived.Test.YthoemdibbldndaaGreatDoorShelf
import Derived.Test.YthoemdibbldndaaGreatDoorFct
import Derived.Laws.CopyRow
import Derived.Laws.CopyOwn
import Derived.Laws.OwnMore
import Derived.BigQuiet
import Derived.Lib.Bytealg
set_option linter.all false
set_option maxHeartbeats 0
set_option maxRecDepth 20000
open Go.Value renaming int->Yp,string->Yq,slice->Yr,bool->Ys,pointer->Yt,tuple->Yu
open Go.IntKind renaming i64->Yv
open Go.Obj renaming cells->Yw
open Go.Ending renaming returned->Yx
open Go renaming World->YA
namespace Go.Proofs.YthoemdibbldndaaGreatDoor
open Go.RowKit
section
theorem yq(w:YA):(callFunc 217 #[]).run Tryz.prog w=.ok (.value (Yu #[])) w:=run_call_mark0 Tryz.func217 (by kernel_rfl) (by kernel_rfl) (by kernel_rfl) .disable (by kernel_rfl) w
theorem BA(w:YA):(callFunc 219 #[]).run Tryz.prog w=.ok (.value (Yu #[])) w:=run_call_mark0 Tryz.func219 (by kernel_rfl) (by kernel_rfl) (by kernel_rfl) .enable (by kernel_rfl) w
theorem IP(a:Addr)(w:YA):(callFunc 220 #[Yt (some a)]).run Tryz.prog w=.ok (.value (Yu #[])) w:=run_call_marked Tryz.func220 (by kernel_rfl) (by kernel_rfl) (by kernel_rfl) .acquire (by kernel_rfl) a w
theorem IQ(a:Addr)(w:YA):(callFunc 222 #[Yt (some a)]).run Tryz.prog w=.ok (.value (Yu #[])) w:=run_call_marked Tryz.func222 (by kernel_rfl) (by kernel_rfl) (by kernel_rfl) .releaseMerge (by kernel_rfl) a w
set_option maxRecDepth 100000 in
theorem zX(a:Addr)(x:Value)(u:FrameMode)(w:YA)(hc:w.cell? a=some x)(hz:w.frozen? a=false) :
  CallsD Tryz.prog 184 #[Yt (some a),Ys true] u w λe u' w'=>u'=u/\(e=Yx (Yu #[])/\w'=w.drew.setCell a (Yp .u32 1)):=by
 have hc':w.drew.cell? a=some x:=by go_simp
 have hz':w.drew.frozen? a=false:=by go_simp
 have hst:=run_call_store (P:=Tryz.prog) Tryz.func204 (by kernel_rfl) (by kernel_rfl) (by kernel_rfl) (by kernel_rfl) (k:=.u32) (y:=1) hc' hz';go_enter_d Tryz.func184,Tryz.ntmps184;go_wp2;go_region_calls
 all_goals (go_end0;exact⟨rfl,rfl⟩)
set_option maxRecDepth 100000 in
theorem yN(a:Addr)(u:FrameMode)(w:YA)(hc:w.cell? a=some (Yp .i32 1))(hz:w.frozen? a=false) :
  CallsD Tryz.prog 183 #[Yt (some a)] u w λe u' w'=>u'=u/\(e=Yx (Yu #[])/\w'=w.setCell a (Yp .i32 0)):=by
 have hd:=yq;have he:=BA;have hr:=IQ;have hadd:=run_call_add (P:=Tryz.prog) Tryz.func223 (by kernel_rfl) (by kernel_rfl) (by kernel_rfl) .i32 (by kernel_rfl) (y:=-1) (s:=0) hc hz (by simp[go_sem];rfl);have hcv:=run_convert_to_unsafe (P:=Tryz.prog) (src:=275) (dst:=186) Tryz.underlying275 Tryz.underlying186 (by kernel_rfl) hc;go_enter_d Tryz.func183,Tryz.ntmps183;go_wp2;go_end0;go_wp2;go_end0;exact⟨rfl,rfl⟩
set_option maxRecDepth 100000 in
theorem KX(a:Addr)(w:YA)(hc:w.cell? a=some (Yp .i32 0))(hz:w.frozen? a=false) :
  Calls Tryz.prog 182 #[Yt (some a)] w λe w'=>e=Yx (Yu #[])/\w'=w.setCell a (Yp .i32 1):=by
 have hd:=yq;have he:=BA;have ha:=IP;have Xk:=run_call_cas_hit (P:=Tryz.prog) Tryz.func218 (by kernel_rfl) (by kernel_rfl) (by kernel_rfl) .i32 (by kernel_rfl) (y:=1) hc hz;have hc':(w.setCell a (.int .i32 1)).cell? a=some (.int .i32 1):=World.cell?_setCell_same w a _ hc;have hcv:=run_convert_to_unsafe (P:=Tryz.prog) (src:=275) (dst:=186) Tryz.underlying275 Tryz.underlying186 (by kernel_rfl) hc';go_enter Tryz.func182,Tryz.ntmps182;go_wp2
 first|go_end0|(simp only[Exit.inBlock,Exit.then];refine bodyPost_ret (results_none rfl _ _ _) rfl ?_)|refine bodyPost_ret (results_none rfl _ _ _) rfl ?_
 go_wp2;go_end0;exact⟨rfl,rfl⟩
end
section
set_option maxRecDepth 100000 in
theorem NF(b:Nat)(w:YA)(Post:YA->Prop)(h0:w.cell? ⟨b,0,none⟩=some (Yp .u32 0))(h1:w.cell? ⟨b,1,none⟩=some (Yp .i32 0))(f0:w.frozen? ⟨b,0,none⟩=false)(f1:w.frozen? ⟨b,1,none⟩=false)
  (hF:Calls Tryz.prog 117 #[Yt (some ⟨b,0,none⟩)] (w.setCell ⟨b,1,none⟩ (Yp .i32 1)) λe w2=>e=Yx (Yu #[])/\Post w2)
  (hP:∀w2,Post w2->w2.cell? ⟨b,0,none⟩=some (Yp .u32 0)/\w2.cell? ⟨b,1,none⟩=some (Yp .i32 1)/\w2.frozen? ⟨b,0,none⟩=false/\w2.frozen? ⟨b,1,none⟩=false) :
  Calls Tryz.prog 153 #[Yt (some ⟨b,0,none⟩),.func (.func 117) #[Yt (some ⟨b,0,none⟩)] #[]] w λe w'=>e=Yx (Yu #[]) /\
   ∃w2,Post w2/\w'=(w2.drew.setCell ⟨b,0,none⟩ (Yp .u32 1)).setCell ⟨b,1,none⟩ (Yp .i32 0):=by
 have hl:=run_call_load (P:=Tryz.prog) Tryz.func181 (by kernel_rfl) (by kernel_rfl) (by kernel_rfl) .u32 (by kernel_rfl) (w:=w.setCell ⟨b,1,none⟩ (Yp .i32 1)) (a:=⟨b,0,none⟩) (x:=0) ((World.cell?_setCell_other _ ⟨b,1,none⟩ ⟨b,0,none⟩ _ (by simp)).trans h0);have RE:∀(x:Bool) (w:YA),(Op.unary .not (Ys x)).run Tryz.prog w=.ok (Ys (!x)) w:=λ_ _=>rfl
 have HF:=aa hF;clear hF;go_enter_defers Tryz.func153,Tryz.ntmps153;go_wp2_with (first|(go_at_call 182;refine(KX ⟨b,1,none⟩ _ (by go_simp) (by go_simp)).mono ?_;rintro e w' ⟨rfl,rfl⟩)|(go_at_call 152;go_in)|(go_at_call 117;refine HF.out.mono ?_;rintro e w2 ⟨rfl,hp⟩));obtain⟨p0,p1,q0,q1⟩:=hP w2 hp;have VW:=aa hp;clear hp hl HF;go_wp2;refine leaves_cons (f:=184) (args:=#[Yt (some ⟨b,0,none⟩),Ys true]) (by simp) (by simp[go_sem]) ?_;refine(zX ⟨b,0,none⟩ (Yp .u32 0) .returning _ p0 q0).mono ?_;rintro e u' w'' ⟨rfl,rfl,rfl⟩;refine leaves_cons (f:=183) (args:=#[Yt (some ⟨b,1,none⟩)]) (by simp[settle]) (by simp[go_sem]) ?_;refine(yN ⟨b,1,none⟩ _ _ ?_ (by simp[q1])).mono ?_
 ·refine(World.cell?_setCell_other _ ⟨b,0,none⟩ ⟨b,1,none⟩ _ (by simp)).trans ?_;rw[World.cell?_drew];exact p1
 rintro e u' w'' ⟨rfl,rfl,rfl⟩;simp[Leaves,settle,results,Tryz.results153];exact⟨w2,VW.out,rfl⟩
set_option maxRecDepth 100000 in
theorem Mj(b:Nat)(w:YA)(Post:YA->Prop)(h0:w.cell? ⟨b,0,none⟩=some (Yp .u32 0))(h1:w.cell? ⟨b,1,none⟩=some (Yp .i32 0))(f0:w.frozen? ⟨b,0,none⟩=false)(f1:w.frozen? ⟨b,1,none⟩=false)
  (hF:Calls Tryz.prog 117 #[Yt (some ⟨b,0,none⟩)] (w.setCell ⟨b,1,none⟩ (Yp .i32 1)) λe w2=>e=Yx (Yu #[])/\Post w2)
  (hP:∀w2,Post w2->w2.cell? ⟨b,0,none⟩=some (Yp .u32 0)/\w2.cell? ⟨b,1,none⟩=some (Yp .i32 1)/\w2.frozen? ⟨b,0,none⟩=false/\w2.frozen? ⟨b,1,none⟩=false) :
  Calls Tryz.prog 116 #[Yt (some ⟨b,0,none⟩),.func (.func 117) #[Yt (some ⟨b,0,none⟩)] #[]] w λe w'=>e=Yx (Yu #[]) /\
   ∃w2,Post w2/\w'=(w2.drew.setCell ⟨b,0,none⟩ (Yp .u32 1)).setCell ⟨b,1,none⟩ (Yp .i32 0):=by
 have hl:=run_call_load (P:=Tryz.prog) Tryz.func181 (by kernel_rfl) (by kernel_rfl) (by kernel_rfl) .u32 (by kernel_rfl) h0;have RE:∀(x:Bool) (w:YA),(Op.unary .not (Ys x)).run Tryz.prog w=.ok (Ys (!x)) w:=λ_ _=>rfl
 have HS:=aa (NF b w Post h0 h1 f0 f1 hF hP);clear hF hP;go_enter Tryz.func116,Tryz.ntmps116;go_wp2_with (first|(go_at_call 153;refine HS.out.mono ?_;rintro e w' ⟨rfl,hw⟩)|(go_at_call 152;go_in));go_end0;exact⟨rfl,hw⟩
theorem O6(b:Nat)(fv:Value)(w:YA)(h0:w.cell? ⟨b,0,none⟩=some (Yp .u32 1)) :
  Calls Tryz.prog 116 #[Yt (some ⟨b,0,none⟩),fv] w λe w'=>e=Yx (Yu #[])/\w'=w:=by
 have hl:=run_call_load (P:=Tryz.prog) Tryz.func181 (by kernel_rfl) (by kernel_rfl) (by kernel_rfl) .u32 (by kernel_rfl) h0;have RE:∀(x:Bool) (w:YA),(Op.unary .not (Ys x)).run Tryz.prog w=.ok (Ys (!x)) w:=λ_ _=>rfl
 go_enter Tryz.func116,Tryz.ntmps116;go_wp2;go_end0;exact⟨rfl,rfl⟩
end
section
theorem DU:(Tryz.prog.info? 9).map (λi=>(i.zero,i.size,i.bytes))=some (some (.string ⟨#[]⟩),1,16):=by kernel_rfl
def QK(st:Int)(w:YA)(B rb:Nat)(os:List ByteArray):Prop:=
 B<=rb/\∃v,w.1[rb]?=some (Yw #[Yp .u32 0,Yp .i32 st,Yp .u32 0,.nilIface,v] 158 (0,0))/\w.ownsRow B 9 1 v os.length (os.map Yq)
abbrev vS (w:YA) (B rb:Nat) (os:List ByteArray):Prop:=QK 0 w B rb os
theorem vS.ai{a c:YA}{B rb:Nat}{os:List ByteArray}(h:vS a B rb os)(u:ac a c):vS c B rb os:=by
 obtain⟨h0,v,h1,h2⟩:=h;exact⟨h0,v,(u.below.block rb (ae h1)).trans h1,aH u h2⟩
theorem sq(ab n:Nat)(os:List ByteArray)(w:YA)(hn:os.length=n)(hev:n % 2=0)(h0:n<=1000)(hA:∀j u,(os.map Yq)[j]?=some u->w.cell? ⟨ab,j,none⟩=some u) :
  Calls Tryz.prog 73 #[Yr (some ⟨ab,0,none⟩) n n] w λe w'=>∃rb,e=Yx (Yt (some ⟨rb,0,none⟩))/\vS w' w.1.size rb os/\ac w w':=by
 obtain⟨i0,hi,hz0,hz1,hz2⟩:=info_parts DU
 have y1:(((n:Int).tmod 2)==1)=false:=by
  rw[Int.tmod_eq_emod_of_nonneg (by omega)];simp;omega
 have HA:=aa hA;clear hA;go_enter Tryz.func73,Tryz.ntmps73;go_wp2_with (at_builtin;refine wpList_append_own _ rfl _ _ 135 rfl w.1.size 9 i0 (.string ⟨#[]⟩) 1 16 Tryz.underlying135 hi hz0 hz1 hz2 rfl (by decide) (.slice none 0 0) 0 [] rfl (World.ownsRow_nil _ _ _ _) ⟨ab,0,none⟩ n n (os.map Value.string) rfl (by simp[hn]) ?_ ?_ (by unfold maxLen;omega) (by omega) ?_ ?_)
 ·intro j u hj;rw[show(⟨ab,0,none⟩:Addr).add j=⟨ab,j,none⟩by unfold Addr.add;split<;>simp_all];exact HA.out j u hj
 ·intro u hu;obtain⟨s,_,rfl⟩:=List.mem_map.1 hu;rfl
 ·exact Nat.le_refl _
 intro v' w1 hown hgr _;have hu1:ac w w1:=(ac.refl w).grown hgr (λg hg=>by cases hg);have HO:=aa hown;have HU:=aa hu1;have hsz:=hu1.size;clear hgr hown hu1;obtain⟨A',c',rfl,_⟩:=aW HO.out;go_wp2;go_ret;refine⟨w1.1.size,rfl,⟨hsz,_,heap_alloc_new w1 _,?_⟩,(HU.out).alloc _⟩;have:=HO.out
 subst hn;exact aH ((ac.refl w1).alloc _) (by simpa using this)
end
section
@[go_sem] theorem nil_eq (W:YA):(binOp .eql 22 (Yr none 0 0) (Yr none 0 0)).run Tryz.prog W=.ok (Ys true) W:=by kernel_rfl
@[go_sem] theorem nil_neq (W:YA):(binOp .neq 22 (Yr none 0 0) (Yr none 0 0)).run Tryz.prog W=.ok (Ys false) W:=by kernel_rfl
@[go_sem] theorem some_neq (W:YA) (a:Addr) (n c:Nat):(binOp .neq 22 (Yr (some a) n c) (Yr none 0 0)).run Tryz.prog W=.ok (Ys true) W:=by kernel_rfl
abbrev AD:TypeId:=240
theorem Vz(w:YA):(zeroValue AD).run Tryz.prog w=.ok (.agg ((Array.replicate 256 (Yr none 0 0)).push (Yr none 0 0))) w:=by kernel_rfl
theorem i142:(Tryz.prog.info? AD).map (·.size)=some 257:=by kernel_rfl
theorem Tp(v:Value):((Array.replicate 256 (Yr none 0 0)).push (Yr none 0 0)).toList.set 256 v=((Array.replicate 256 (Yr none 0 0)).push v).toList:=by
 have:∀a:Array Value,a.size=256->(a.push (Yr none 0 0)).toList.set 256 v=(a.push v).toList:=by
  intro a h;rw[Array.toList_push,Array.toList_push,List.set_append_right _ _ (by simp[h])];simp[h]
 exact this _ (by simp)
def cE:List (UInt8 × ByteArray)->UInt8->Option ByteArray
 | [],_=>none
 | p :: r,c=>if p.1=c then some p.2 else cE r c
theorem yg(l:List (UInt8 × ByteArray))(p:UInt8 × ByteArray)(c:UInt8):cE (l++[p]) c=match cE l c with
  | some s=>some s
  | none=>if p.1=c then some p.2 else none:=by
 induction l with
 | nil=>simp[cE]
 | cons q l ih=>
  rw[List.cons_append,cE,cE]
  split
  ·rfl
  exact ih
theorem sj{l:List (UInt8 × ByteArray)}{c:UInt8}(h:c ∉ l.map (·.1)):cE l c=none:=by
 induction l with
 | nil=>rfl
 | cons q l ih=>
  simp only[List.map_cons,List.mem_cons,not_or]at h;rw[cE,if_neg (λe=>h.1 e.symm)];exact ih h.2
def yW(w:YA)(B:Nat)(v:Value)(s:ByteArray):Prop:=
 ∃g cap cb fr,v=Yr (some ⟨g,0,none⟩) s.size cap/\B<=g/\s.size<=cap/\w.1[g]?=some (Yw cb 5 fr)/\∀j,j<s.size->cb[j]?=some (Yp .u8 ((s.1.1.getD j 0).toNat:Int))
def C0:List TypeId:=[9,AD]
theorem yW.tk{a c:YA}{B:Nat}{v:Value}{s:ByteArray}(h:yW a B v s)(k:eO C0 a c):yW c B v s:=by
 obtain⟨g,cap,cb,fr,h1,h2,h3,h4,h5⟩:=h;exact⟨g,cap,cb,fr,h1,h2,h3,(k.2 g cb _ fr h4 (by decide)).trans h4,h5⟩
def fH(w:YA)(B bb:Nat)(done:List (UInt8 × ByteArray))(strs:List UInt8):Prop:=
 B<=bb/\∃cs:Array Value,w.1[bb]?=some (Yw cs AD (0,0))/\cs.size=257/\(∀c:UInt8,cE done c=none->cs[c.toNat]?=some (Yr none 0 0)) /\
  (∀(c:UInt8) s,cE done c=some s->∃v,cs[c.toNat]?=some v/\yW w B v s)/\∃v,cs[256]?=some v/\w.ownsRow B 9 1 v strs.length (strs.map λa=>Yq ⟨#[a]⟩)
theorem fH.ai{a c:YA}{B bb:Nat}{done:List (UInt8 × ByteArray)}{strs:List UInt8}(h:fH a B bb done strs)(u:ac a c):fH c B bb done strs:=by
 obtain⟨h0,cs,h1,h2,h3,h4,v,h5,h6⟩:=h;refine⟨h0,cs,(u.below.block bb (ae h1)).trans h1,h2,h3,λx s hx=>?_,v,h5,aH u h6⟩;obtain⟨v',k1,k2⟩:=h4 x s hx;exact⟨v',k1,k2.tk (u.tk C0)⟩
theorem kG(c:UInt8):c.toNat<256:=c.toNat_lt
theorem fH.grow{w w4:YA}{B bb:Nat}{done:List (UInt8 × ByteArray)}{strs:List UInt8}{v v':Value}{a:UInt8}(h:fH w B bb done strs)(hv:w.cell? ⟨bb,256,none⟩=some v)(hg:w.grownBy w4 v.ownBlock)
  (ho:w4.ownsRow B 9 1 v' (strs.length+1) (strs.map (λa=>Yq ⟨#[a]⟩)++[Yq ⟨#[a]⟩])):fH (w4.setCell ⟨bb,256,none⟩ v') B bb done (strs++[a]):=by
 obtain⟨h0,cs,h1,h2,h3,h4,v0,h5,h6⟩:=h;obtain rfl:v0=v:=by rw[aj h1 256,h5]at hv;simpa using hv
 have hb4:w4.1[bb]?=some (Yw cs AD (0,0)):=(hg.block bb (ae h1) (λe=>aS h6 h1 (by decide) e.symm)).trans h1;have htk:eO C0 w (w4.setCell ⟨bb,256,none⟩ v'):=(nr hg (jy h6 _ (by simp[C0]))).trans (jF (p:=⟨bb,256,none⟩) hb4 (by simp[C0]));refine⟨h0,cs.setIfInBounds 256 v',heap_setCell_same w4 bb 256 _ _ v' hb4,by simp[h2],λc hc=>?_,λc s hc=>?_,v',by simp[h2],?_⟩
 ·rw[Array.getElem?_setIfInBounds_ne (by have:=kG c;omega)];exact h3 c hc
 ·obtain⟨x,k1,k2⟩:=h4 c s hc;exact⟨x,by rw[Array.getElem?_setIfInBounds_ne (by have:=kG c;omega)];exact k1,k2.tk htk⟩
 have e:(strs++[a]).map (λa=>Yq ⟨#[a]⟩)=strs.map (λa=>Yq ⟨#[a]⟩)++[Yq ⟨#[a]⟩]:=by simp
 rw[e,List.length_append,List.length_singleton];exact aC ho (aS ho hb4 (by decide))
theorem fH.put{w:YA}{B bb:Nat}{done:List (UInt8 × ByteArray)}{strs:List UInt8}{v:Value}{p:UInt8 × ByteArray}(h:fH w B bb done strs)(hn:cE done p.1=none)(hr:yW w B v p.2):fH (w.setCell ⟨bb,p.1.toNat,none⟩ v) B bb (done++[p]) strs:=by
 obtain⟨h0,cs,h1,h2,h3,h4,v0,h5,h6⟩:=h;have htk:eO C0 w (w.setCell ⟨bb,p.1.toNat,none⟩ v):=jF (p:=⟨bb,p.1.toNat,none⟩) h1 (by simp[C0]);have hlt:=kG p.1;have hne:∀c:UInt8,p.1≠c->p.1.toNat≠c.toNat:=λc h e=>h (UInt8.toNat_inj.1 e)
 refine⟨h0,cs.setIfInBounds p.1.toNat v,heap_setCell_same w bb p.1.toNat _ _ v h1,by simp[h2],λc hc=>?_,λc s hc=>?_,v0,?_,aC h6 (aS h6 h1 (by decide))⟩
 ·rw[yg]at hc;cases hd:cE done c with
  | some s=>rw[hd]at hc;cases hc
  | none=>
   rw[hd]at hc
   by_cases e:p.1=c
   ·rw[if_pos e]at hc;cases hc
   rw[Array.getElem?_setIfInBounds_ne (hne c e)];exact h3 c hd
 ·rw[yg]at hc;cases hd:cE done c with
  | some s'=>
   rw[hd]at hc;simp only[Option.some.injEq]at hc;subst hc;have e:p.1≠c:=λe=>by subst e;rw[hn]at hd;cases hd
   obtain⟨x,k1,k2⟩:=h4 c s' hd;exact⟨x,by rw[Array.getElem?_setIfInBounds_ne (hne c e)];exact k1,k2.tk htk⟩
  | none=>
   rw[hd]at hc
   by_cases e:p.1=c
   ·rw[if_pos e]at hc;simp only[Option.some.injEq]at hc;subst hc e;exact⟨v,by rw[Array.getElem?_setIfInBounds_self_of_lt (by omega)],hr.tk htk⟩
   rw[if_neg e]at hc;cases hc
 rw[Array.getElem?_setIfInBounds_ne (by omega)];exact h5
theorem fH.fresh(w1:YA)(B:Nat)(hB:B<=w1.1.size)(v:Value)(ho:w1.ownsRow B 9 1 v 0 []):fH (w1.alloc (Yw ((Array.replicate 256 (Yr none 0 0)).push v) AD)) B w1.1.size [] []:=by
 refine⟨hB,_,heap_alloc_new w1 _,by simp,λc _=>?_,λc s h=>(by simp[cE]at h),v,?_,aH ((ac.refl w1).alloc _) ho⟩
 ·have:=kG c
  rw[Array.getElem?_push_lt (by rw[Array.size_replicate];exact this)];simp
 have:∀a:Array Value,a.size=256->(a.push v)[256]?=some v:=by
  intro a h;rw[Array.getElem?_push,if_pos h.symm]
 exact this _ (by simp)
theorem Lh(w:YA)(B:Nat)(s:ByteArray)(hB:B<=w.1.size)(hs:s.size<=1000):yW (Lib.bytesWorld w 5 s) B (Yr (some ⟨w.1.size,0,none⟩) s.size (grownCap w s.size 0 5)) s:=by
 refine⟨w.1.size,_,_,_,rfl,hB,grownCap_ge _ _ _ _,Lib.bytesWorld_at_new w _ s,λj hj=>?_⟩;rw[<-aj (Lib.bytesWorld_at_new w 5 s) j];exact Lib.bytesWorld_cell w _ s j hj
def dI(tb:List (UInt8 × ByteArray)):List ByteArray:=tb.flatMap λp=>[⟨#[p.1]⟩,p.2]
theorem R7(tb:List (UInt8 × ByteArray)):(dI tb).length=2*tb.length:=by
 induction tb with
 | nil=>rfl
 | cons p r ih=>simp[dI]at ih |-;omega
theorem Tn(tb:List (UInt8 × ByteArray))(k:Nat)(h:k<tb.length):(dI tb)[2*k]?=some ⟨#[tb[k].1]⟩/\(dI tb)[2*k+1]?=some tb[k].2:=by
 induction tb generalizing k with
 | nil=>simp at h
 | cons p r ih=>
  match k,h with
  | 0,_=>exact⟨rfl,rfl⟩
  | k+1,h=>
   have:=ih k (by simpa using h)
   have e1:2*(k+1)=2*k+2:=by omega
   have e2:2*(k+1)+1=(2*k+1)+2:=by omega
   rw[e2,e1];exact this
end
section
def Sy(w:YA)(m:Nat)(s4 s5:Value)(wr:YA):Prop:=∃k:Nat,s4=Ys (decide (k=0))/\s5=Yp Yv ((2*k:Nat):Int)/\k<=m/\w=wr
def Sz(w:YA)(B bb:Nat)(tb:List (UInt8 × ByteArray))(s12:Value)(wr:YA):Prop:=
 ∃k:Nat,s12=Yp Yv (2*(k:Int)-2)/\k<=tb.length/\fH wr B bb (tb.drop k).reverse ((tb.drop k).reverse.map (·.1))/\ac w wr
set_option maxRecDepth 100000 in
theorem JQ(B rb:Nat)(tb:List (UInt8 × ByteArray))(w:YA)(st:Int)(hR:QK st w B rb (dI tb))(h2:2<=tb.length)(U4:tb.length<=100)(hs:∀p∈tb,2<=p.2.size/\p.2.size<=100)(hnd:(tb.map (·.1)).Nodup) :
  Calls Tryz.prog 154 #[Yt (some ⟨rb,0,none⟩)] w λe w'=>∃bb,e=Yx (.iface 241 (Yt (some ⟨bb,0,none⟩)))/\fH w' w.1.size bb tb.reverse (tb.reverse.map (·.1))/\ac w w':=by
 obtain⟨_,v,hbk,hown⟩:=hR;obtain⟨A,c,rfl,_⟩:=aI hown;have hol:=R7 tb;obtain⟨m,hm⟩:∃m,tb.length=m:=⟨_,rfl⟩;rw[hm]at hol h2 U4;obtain⟨g,rfl,_,hg,hc⟩:=eE hown (by omega)
 have hcell:∀k (h:k<tb.length),w.cell? ⟨g,2*k,none⟩=some (Yq ⟨#[tb[k].1]⟩)/\w.cell? ⟨g,2*k+1,none⟩=some (Yq tb[k].2):=by
  intro k h;obtain⟨a1,a2⟩:=Tn tb k h;exact⟨hc _ _ (by rw[List.getElem?_map,a1];rfl),hc _ _ (by rw[List.getElem?_map,a2];rfl)⟩
 rw[hol]at hown hbk;have g4:w.cell? ⟨rb,4,none⟩=some (.slice (some ⟨g,0,none⟩) (2*m) c):=aj hbk 4;haveI:af rb w:=af.of (ae hbk);haveI:af g w:=af.of hg;obtain⟨i0,hi,hz0,hz1,hz2⟩:=info_parts DU;obtain⟨w1,hmk,hro,Bg⟩:=run_make_own (P:=Tryz.prog) w w.1.size 135 9 i0 (.string ⟨#[]⟩) 1 Tryz.underlying135 hi hz0 hz1 .i64 .i64 m (by rw[hz2];omega) (by unfold maxLen;omega) (Nat.le_refl _);have hu1:ac w w1:=(ac.refl w).grown Bg (λg e=>by cases e);have hz:=λw=>Vz w
 have hsc:=run_storeCells_new (P:=Tryz.prog) w1 AD ((Array.replicate 256 (Yr none 0 0)).push (Yr none 0 0)) ((Array.replicate 256 (Yr none 0 0)).push (Yr (some ⟨w.1.size,0,none⟩) 0 m)) (by rw[Array.size_push,Array.size_replicate];exact i142) (by simp) (by
  have:∀(a:Array Value) (v:Value),a.all (·.oneCell')=true->v.oneCell'=true->(a.push v).all (·.oneCell')=true:=by intro a v h1 h2;simp[h1,h2]
  exact this _ _ (by rw[Array.all_eq_true];intro i hi;rw[Array.getElem_replicate];rfl) rfl)
 rw[<-Tp]at hsc;have FP:=aa (fH.fresh w1 w.1.size hu1.size (Yr (some ⟨w.1.size,0,none⟩) 0 m) hro);obtain⟨Z',hZ'⟩:∃Z':Array Value,Z'=(Array.replicate 256 (Yr none 0 0)).push (Yr (some ⟨w.1.size,0,none⟩) 0 m):=⟨_,rfl⟩;obtain⟨Z,hZ⟩:∃Z:Array Value,Z=(Array.replicate 256 (Yr none 0 0)).push (Yr none 0 0):=⟨_,rfl⟩;rw[<-hZ]at hz hsc;rw[<-hZ']at hsc FP;have XN:Z.size=257:=by rw[hZ,Array.size_push,Array.size_replicate]
 clear hZ hZ' hbk hown hc Bg hro;have HC:=aa hcell;have iI:=aa hu1;have FK:=aa hnd;have HS:=aa hs;have hsz1:=hu1.size;have yd:((2*m:Nat):Int) / 2=(m:Int):=by omega
 have y2:(((2*m:Nat):Int)==2)=false:=by simp;omega
 obtain⟨n,hn⟩:∃n,n=2*m:=⟨_,rfl⟩;rw[<-hn]at g4 yd y2;have HN:=aa hn;clear hcell hu1 hnd hs hol hn;go_enter Tryz.func154,Tryz.ntmps154;go_wp2_with fail;go_loopw [4,5] (λs4 s5 wr=>Sy w m s4 s5 wr) (λ_ s5 _=>n+1-(intOf s5).toNat)
 case atStart=>exact⟨0,rfl,rfl,by omega,rfl⟩
 case round=>
  obtain⟨k,rfl,rfl,hk,rfl⟩:=hrel;have hn:=HN.out
  by_cases Bi:k<m
  ·obtain⟨e0,e1⟩:=HC.out k (by omega);have hps:=(HS.out tb[k] (List.getElem_mem (by omega))).1;generalize tb[k]'(by omega)=p at e0 e1 hps;obtain⟨so,pq⟩:∃so:ByteArray,so=⟨#[p.1]⟩:=⟨_,rfl⟩;rw[<-pq]at e0;have hs1:so.size=1:=by rw[pq];rfl
   have z1:((2*k:Nat):Int)<n:=by omega
   have z2:(((2*k:Nat):Int)+1)<n:=by omega
   have z3:(((2*k:Nat):Int)+1).toNat=2*k+1:=by omega
   have z4:((p.2.size:Int) != 1)=true:=by simp;omega
   have z5:((p.2.size:Int)==1)=false:=by simp;omega
   obtain⟨i2,hi2⟩:∃i2,i2=2*k:=⟨_,rfl⟩;rw[<-hi2]at e0 e1 z1 z2 z3 |-;have CE:=aa hi2;clear pq hi2 hn;go_wp2;exact⟨⟨k+1,by simp,congrArg (Yp Yv) (by have:=CE.out;omega),by omega,rfl⟩,by have:=HN.out;have:=CE.out;simp[intOf];omega⟩
  obtain rfl:k=m:=by omega
  have z1:¬((2*k:Nat):Int)<n:=by omega
  have ic:decide (k=0)=false:=decide_eq_false (by omega);rw[ic];obtain⟨i2,hi2⟩:∃i2,i2=2*k:=⟨_,rfl⟩;rw[<-hi2]at z1 |-;clear hi2 hn ic;go_wp2_with fail;go_loopw [12] (λs12 wr=>Sz w w.1.size w1.1.size tb s12 wr) (λs12 _=>(intOf s12+2).toNat)
  case atStart=>exact⟨k,congrArg (Yp Yv) (by have:=HN.out;omega),by omega,by rw[List.drop_of_length_le (by omega)];exact FP.out,iI.out.alloc _⟩
  case round=>
   clear FP hz hsc hmk z1 yd y2;obtain⟨k2,rfl,hk2,hT,hu⟩:=hrel;have HT:=aa hT;have HU:=aa hu;have DK:=hu.size;rcases Nat.eq_zero_or_pos k2 with h0|h0
   ·subst h0;have DR:2*((0:Nat):Int)-2=-2:=rfl;rw[DR];clear hT hu DR;go_wp2;go_ret;exact⟨_,rfl,by simpa using HT.out,HU.out⟩
   obtain⟨j,rfl⟩:∃j,k2=j+1:=⟨k2-1,by omega⟩;have DR:2*((j+1:Nat):Int)-2=((2*j:Nat):Int):=by omega
   rw[DR];obtain⟨e0,e1⟩:=HC.out j (by omega)
   replace e0:=(hu.cell (p:=⟨g,2*j,none⟩) hg).trans e0
   replace e1:=(hu.cell (p:=⟨g,2*j+1,none⟩) hg).trans e1
   haveI:af g wr:=af.of (Nat.lt_of_lt_of_le hg DK);have hps:=(HS.out tb[j] (List.getElem_mem (by omega))).2;have hdr:tb.drop j=tb[j] :: tb.drop (j+1):=List.drop_eq_getElem_cons (by omega);have MR:((tb.drop j).map (·.1)).Nodup:=by rw[List.map_drop];exact FK.out.sublist (List.drop_sublist _ _)
   rw[hdr,List.map_cons,List.nodup_cons]at MR;have hnone:cE (tb.drop (j+1)).reverse tb[j].1=none:=sj (by rw[List.map_reverse,List.mem_reverse];exact MR.1);have hrev:(tb.drop j).reverse=(tb.drop (j+1)).reverse++[tb[j]]:=by rw[hdr,List.reverse_cons]
   have hlen:((tb.drop (j+1)).reverse.map (·.1)).length<=100:=by simp;omega
   have L7:=aa hrev;generalize(tb.drop (j+1)).reverse=done at hT HT hnone hrev L7 hlen;generalize tb[j]'(by omega)=p at e0 e1 hps hnone hrev L7;obtain⟨n6,cs,pe,wi,hcs3,hcs4,v,hcs5,hcs6⟩:=hT;obtain⟨A',c',rfl,_⟩:=aI hcs6;have t0:wr.cell? ⟨w1.1.size,p.1.toNat,none⟩=some (Yr none 0 0):=(aj pe _).trans (hcs3 p.1 hnone);have t1:wr.cell? ⟨w1.1.size,256,none⟩=some (Yr A' (done.map (·.1)).length c'):=(aj pe 256).trans hcs5;haveI:af w1.1.size wr:=af.of (ae pe);obtain⟨so,pq⟩:∃so:ByteArray,so=⟨#[p.1]⟩:=⟨_,rfl⟩;rw[<-pq]at e0;have hs1:so.size=1:=by rw[pq];rfl
   have hs0:so[0]'(by omega)=p.1:=by subst pq;rfl
   have zl:(p.1.toNat:Int)<256:=by have:=kG p.1;omega
   have W7:((2*j:Nat):Int)<n:=by have:=HN.out;omega
   have Xa:(((2*j:Nat):Int)+1)<n:=by have:=HN.out;omega
   have Xb:(((2*j:Nat):Int)+1).toNat=2*j+1:=by omega
   obtain⟨i2,hi2⟩:∃i2,i2=2*j:=⟨_,rfl⟩;rw[<-hi2]at e0 e1 W7 Xa Xb |-;have CE:=aa hi2;have hib:i2<=1000:=by omega
   have HO:=aa hcs6;have pL:=aa pe;have VB:=aa hcs5;have N4:=aa hcs3;have kU:=aa hnone;generalize hL:(done.map (·.1)).length=L at *;clear hu DR hdr MR hrev pq hi2 pe wi hcs3 hcs4 hcs5 hcs6 hnone;go_wp2_with (at_builtin;refine wpList_append_own _ rfl _ _ 135 rfl w.1.size 9 i0 (.string ⟨#[]⟩) 1 16 Tryz.underlying135 hi hz0 hz1 hz2 rfl (by decide) (.slice A' L c') L _ rfl (aH uZ HO.out) _ 1 1 [.string ⟨#[p.1]⟩] rfl rfl ?_ ?_ (by unfold maxLen;omega) (by omega) ?_ ?_)
   ·refine uL _ _ _ _ ?_;simp
   ·intro u hu';simp at hu';subst hu';rfl
   ·simp<;>omega
   intro v' w4 kW hg4 _;obtain⟨Tq,c'',rfl,_⟩:=aI kW;have hgr:=aN (ac.gb (show ac wr _ from uZ) (Value.slice A' L c').ownBlock) hg4 (λg e=>Or.inl e);have hb4:w4.1[w1.1.size]?=some (Obj.cells cs AD (0,0)):=(hgr.block w1.1.size (ae pL.out) (λe=>aS HO.out pL.out (by decide) e.symm)).trans pL.out;have Xf:w4.cell? ⟨w1.1.size,256,none⟩=some (.slice A' L c'):=(aj hb4 256).trans VB.out;have f256:w4.frozen? ⟨w1.1.size,256,none⟩=false:=bu hb4 256;haveI:af w1.1.size w4:=af.of (ae hb4);have Rf:=fH.grow HT.out t1 hgr (by rw[hL,List.map_map];exact kW);have bt:ac w (w4.setCell ⟨w1.1.size,256,none⟩ (.slice Tq (L+1) c'')):=(HU.out.sr hgr (λg hg=>aD HO.out g hg)).setCell (p:=⟨w1.1.size,256,none⟩) hsz1 _;obtain⟨w5,hw5⟩:∃w5,w4.setCell ⟨w1.1.size,256,none⟩ (.slice Tq (L+1) c'')=w5:=⟨_,rfl⟩;rw[hw5]at Rf bt;have hcv:=Lib.run_convert_string_bytes w5 9 22 5 p.2 Tryz.underlying9 Tryz.underlying22 Tryz.underlying5;have hrow:=Lh w5 w.1.size p.2 bt.size (by omega);have fY:ac w5 (Lib.bytesWorld w5 5 p.2):=ac.mk ⟨rfl,rfl,rfl,by rw[Lib.bytesWorld_size];omega,λk hk=>Lib.bytesWorld_at_old w5 _ _ k hk⟩;obtain⟨w6,hw6⟩:∃w6,Lib.bytesWorld w5 5 p.2=w6:=⟨_,rfl⟩;rw[hw6]at hcv hrow fY;have Kp:=Rf.ai fY;have hput:=fH.put Kp kU.out hrow;obtain⟨_,cs6,h61,_,h63,_⟩:=Kp;have d0:w6.cell? ⟨w1.1.size,p.1.toNat,none⟩=some (.slice none 0 0):=(aj h61 _).trans (h63 p.1 kU.out);have d1:w6.frozen? ⟨w1.1.size,p.1.toNat,none⟩=false:=bu h61 _;haveI:af w1.1.size w6:=af.of (ae h61);have bR:=(bt.trans fY).setCell (p:=⟨w1.1.size,p.1.toNat,none⟩) hsz1 (.slice (some ⟨w5.1.size,0,none⟩) p.2.size (grownCap w5 p.2.size 0 5));have HE:=aa (And.intro hput bR);clear hput bR Rf bt hrow fY hw6 hgr hg4 kW hb4 h61 h63 t0 t1;go_wp2;refine⟨⟨j,congrArg (Value.int .i64) (by have:=CE.out;omega),by omega,?_,HE.out.2⟩,by have:=CE.out;simp[intOf];omega⟩;rw[L7.out];have:=HE.out.1
   rw[List.map_append];exact this
end
section
def tM(tb:List (UInt8 × ByteArray)):Prop:=2<=tb.length/\tb.length<=100/\(∀p∈tb,2<=p.2.size/\p.2.size<=100)/\(tb.map (·.1)).Nodup
def tJ(w:YA)(B rb:Nat)(tb:List (UInt8 × ByteArray)):Prop:=
 B<=rb/\∃bb,w.1[rb]?=some (Yw #[Yp .u32 1,Yp .i32 0,Yp .u32 0,.iface 241 (Yt (some ⟨bb,0,none⟩)),Yr none 0 0] 158 (0,0))/\fH w B bb tb.reverse (tb.reverse.map (·.1))
theorem tJ.ai{a c:YA}{B rb:Nat}{tb:List (UInt8 × ByteArray)}(h:tJ a B rb tb)(u:ac a c):tJ c B rb tb:=by
 obtain⟨h0,bb,h1,h2⟩:=h;exact⟨h0,bb,(u.below.block rb (ae h1)).trans h1,h2.ai u⟩
theorem fH.low{w:YA}{B B' bb:Nat}{done:List (UInt8 × ByteArray)}{strs:List UInt8}(h:fH w B bb done strs)(hb:B'<=B):fH w B' bb done strs:=by
 obtain⟨h0,cs,h1,h2,h3,h4,v,h5,h6⟩:=h;refine⟨Nat.le_trans hb h0,cs,h1,h2,h3,λx s hx=>?_,v,h5,cT h6 hb⟩;obtain⟨v',k1,g,cap,cb,fr,e1,e2,e3⟩:=h4 x s hx;exact⟨v',k1,g,cap,cb,fr,e1,Nat.le_trans hb e2,e3⟩
theorem fH.set{w:YA}{B bb:Nat}{done:List (UInt8 × ByteArray)}{strs:List UInt8}(h:fH w B bb done strs){q i:Nat}{u:Value}{cs:Array Value}{fr:Nat × Nat}(hq:w.1[q]?=some (Yw cs 158 fr)):fH (w.setCell ⟨q,i,none⟩ u) B bb done strs:=by
 obtain⟨h0,cs',h1,h2,h3,h4,v,h5,h6⟩:=h;have hgb:=cH w ⟨q,i,none⟩ u
 have hne:bb≠q:=λe=>by
  subst e;rw[h1]at hq;simp only[Option.some.injEq,Obj.cells.injEq]at hq;exact absurd hq.2.1 (by decide)
 refine⟨h0,cs',(hgb.block bb (ae h1) (by simpa using hne)).trans h1,h2,h3,λx s hx=>?_,v,h5,aC h6 (aS h6 hq (by decide))⟩;obtain⟨v',k1,g,cap,cb,fr',e1,e2,e3,e4,e5⟩:=h4 x s hx
 have KF:g≠q:=λe=>by
  subst e;rw[e4]at hq;simp only[Option.some.injEq,Obj.cells.injEq]at hq;exact absurd hq.2.1 (by decide)
 exact⟨v',k1,g,cap,cb,fr',e1,e2,e3,(hgb.block g (ae e4) (by simpa using KF)).trans e4,e5⟩
theorem fH.drew{w:YA}{B bb:Nat}{done:List (UInt8 × ByteArray)}{strs:List UInt8}(h:fH w B bb done strs):fH w.drew B bb done strs:=h.ai ((ac.refl w).drew)
def G0(w0:YA)(B rb:Nat)(tb:List (UInt8 × ByteArray))(w:YA):Prop:=
 ∃bb,w.1[rb]?=some (Yw #[Yp .u32 0,Yp .i32 1,Yp .u32 0,.iface 241 (Yt (some ⟨bb,0,none⟩)),Yr none 0 0] 158 (0,0))/\fH w B bb tb.reverse (tb.reverse.map (·.1))/\Below B w0 w
theorem Ng(B rb:Nat)(tb:List (UInt8 × ByteArray))(w:YA)(hR:vS w B rb (dI tb))(hk:tM tb)(hB:B<=w.1.size) :
  Calls Tryz.prog 117 #[Yt (some ⟨rb,0,none⟩)] (w.setCell ⟨rb,1,none⟩ (Yp .i32 1)) λe w'=>e=Yx (Yu #[])/\G0 w B rb tb w':=by
 obtain⟨hBr,v,hbk,hown⟩:=hR;have hb1:(w.setCell ⟨rb,1,none⟩ (Yp .i32 1)).1[rb]?=some (Yw #[Yp .u32 0,Yp .i32 1,Yp .u32 0,.nilIface,v] 158 (0,0)):=heap_setCell_same w rb 1 _ _ _ hbk;have ee:(w.setCell ⟨rb,1,none⟩ (Yp .i32 1)).ownsRow B 9 1 v (dI tb).length ((dI tb).map Yq):=aC hown (aS hown hbk (by decide));have Ih:Below B w (w.setCell ⟨rb,1,none⟩ (Yp .i32 1)):=(Below.refl B w).setCell (p:=⟨rb,1,none⟩) hBr _;obtain⟨w1,hw1⟩:∃w1,w.setCell ⟨rb,1,none⟩ (Yp .i32 1)=w1:=⟨_,rfl⟩;rw[hw1]at hb1 ee Ih |-;obtain⟨k1,k2,k3,k4⟩:=hk;have Tt:=aa (JQ B rb tb w1 1 ⟨hBr,v,hb1,ee⟩ k1 k2 k3 k4);have pL:=aa hb1;have dd:=aa Ih;have hsz1:=Ih.size;haveI:af rb w1:=af.of (ae hb1);clear hb1 ee Ih hw1 hbk hown k3 k4;go_enter Tryz.func117,Tryz.ntmps117;go_wp2_with fail;refine Tt.out.mono ?_;rintro e w2 ⟨bb,rfl,hT,hu⟩;have hb2:=(hu.below.block rb (ae pL.out)).trans pL.out;have c3:w2.cell? ⟨rb,3,none⟩=some .nilIface:=aj hb2 3;have f3:w2.frozen? ⟨rb,3,none⟩=false:=bu hb2 3;have c4:w2.cell? ⟨rb,4,none⟩=some v:=aj hb2 4;have f4:w2.frozen? ⟨rb,4,none⟩=false:=bu hb2 4;haveI:af rb w2:=af.of (ae hb2);have o7:Below B w w2:=Below.trans dd.out (hu.below.mono (by omega));have hb3:=heap_setCell_same w2 rb 3 _ _ (.iface 241 (Yt (some ⟨bb,0,none⟩))) hb2;have hb4:=heap_setCell_same _ rb 4 _ _ (Yr none 0 0) hb3;have Bd:=((hT.low (by omega:B<=w1.1.size)).set (i:=3) (u:=.iface 241 (Yt (some ⟨bb,0,none⟩))) hb2).set (i:=4) (u:=Yr none 0 0) hb3;have HE:=aa (show G0 w B rb tb ((w2.setCell ⟨rb,3,none⟩ (.iface 241 (Yt (some ⟨bb,0,none⟩)))).setCell ⟨rb,4,none⟩ (Yr none 0 0))from⟨bb,hb4,Bd,(o7.setCell (p:=⟨rb,3,none⟩) hBr _).setCell (p:=⟨rb,4,none⟩) hBr _⟩);clear hT hu hb2 o7 hb3 hb4 Bd Tt;go_wp2;go_end0;exact⟨rfl,HE.out⟩
theorem Fu(B rb:Nat)(tb:List (UInt8 × ByteArray))(w:YA)(hR:vS w B rb (dI tb))(hk:tM tb)(hB:B<=w.1.size) :
  Calls Tryz.prog 116 #[Yt (some ⟨rb,0,none⟩),.func (.func 117) #[Yt (some ⟨rb,0,none⟩)] #[]] w λe w'=>e=Yx (Yu #[])/\tJ w' B rb tb/\Below B w w':=by
 have rm:=hR;obtain⟨hBr,v,hbk,hown⟩:=hR;refine(Mj rb w (G0 w B rb tb) (aj hbk 0) (aj hbk 1) (bu hbk 0) (bu hbk 1) (Ng B rb tb w rm hk hB) ?_).mono ?_
 ·rintro w2 ⟨bb,h,_,_⟩;exact⟨aj h 0,aj h 1,bu h 0,bu h 1⟩
 rintro e w' ⟨rfl,w2,⟨bb,h,hT,hb⟩,rfl⟩;have h1:w2.drew.1[rb]?=_:=h;have h2:=heap_setCell_same w2.drew rb 0 _ _ (Yp .u32 1) h1;have h3:=heap_setCell_same _ rb 1 _ _ (Yp .i32 0) h2;refine⟨rfl,⟨hBr,bb,h3,(hT.drew.set h1).set h2⟩,(Below.setCell (p:=⟨rb,1,none⟩) (Below.setCell (p:=⟨rb,0,none⟩) hb.drew hBr _) hBr _)⟩
theorem I1(B rb:Nat)(tb:List (UInt8 × ByteArray))(fv:Value)(w:YA)(hR:tJ w B rb tb) :
  Calls Tryz.prog 116 #[Yt (some ⟨rb,0,none⟩),fv] w λe w'=>e=Yx (Yu #[])/\w'=w:=by
 obtain⟨_,bb,h,_⟩:=hR;exact O6 rb fv w (aj h 0)
end
section
def fj(tb:List (UInt8 × ByteArray))(c:UInt8):List UInt8:=match cE tb c with
 | some t=>t.1.1
 | none=>[c]
def rk(tb:List (UInt8 × ByteArray))(c:UInt8):Nat:=(fj tb c).length-1
theorem vi{tb:List (UInt8 × ByteArray)}{c:UInt8}{t:ByteArray}(h:cE tb c=some t):fj tb c=t.1.1:=by unfold fj;rw[h]
theorem lW{tb:List (UInt8 × ByteArray)}{c:UInt8}(h:cE tb c=none):fj tb c=[c]:=by unfold fj;rw[h]
theorem zx{tb:List (UInt8 × ByteArray)}{c:UInt8}{t:ByteArray}(h:cE tb c=some t):rk tb c=t.size-1:=by unfold rk;rw[vi h];simp
theorem zw{tb:List (UInt8 × ByteArray)}{c:UInt8}(h:cE tb c=none):rk tb c=0:=by unfold rk;rw[lW h];rfl
theorem ir{tb:List (UInt8 × ByteArray)}{c:UInt8}{t:ByteArray}(h:cE tb c=some t):(c,t)∈tb:=by
 induction tb with
 | nil=>cases h
 | cons p r ih=>
  rw[cE]at h
  split at h
  ·rename_i e
   simp only[Option.some.injEq]at h;subst e h;exact List.mem_cons_self
  exact List.mem_cons_of_mem _ (ih h)
theorem D5{tb:List (UInt8 × ByteArray)}{c:UInt8}(h:c∈tb.map (·.1)):∃t,cE tb c=some t:=by
 cases e:cE tb c with
 | some t=>exact⟨t,rfl⟩
 | none=>
  exfalso
  induction tb with
  | nil=>simp at h
  | cons p r ih=>
   rw[cE]at e
   split at e
   ·cases e
   rename_i hne
   simp only[List.map_cons,List.mem_cons]at h;rcases h with h|h
   ·exact hne h.symm
   exact ih h e
def yY(tb:List (UInt8 × ByteArray)):Prop:=∀p∈tb,2<=p.2.size/\p.2.size<=100
theorem EH{tb:List (UInt8 × ByteArray)}(h:yY tb)(c:UInt8):(fj tb c).length=rk tb c+1/\rk tb c<=99:=by
 cases e:cE tb c with
 | some t=>
  have:=h _ (ir e)
  rw[vi e,zx e];simp at this |-;omega
 | none=>rw[lW e,zw e];simp
def lc(tb:List (UInt8 × ByteArray))(l:List UInt8):Nat:=(l.map (rk tb)).sum
theorem LG{tb:List (UInt8 × ByteArray)}{l:List UInt8}{k:Nat}(h:k<l.length):lc tb (l.take (k+1))=lc tb (l.take k)+rk tb l[k]:=by
 unfold lc;rw[List.take_add_one,List.getElem?_eq_getElem h];simp only[List.map_append,List.sum_append,Option.toList_some,List.map_cons,List.map_nil,List.sum_cons,List.sum_nil,Nat.add_zero]
theorem Mu{tb:List (UInt8 × ByteArray)}(h:yY tb)(l:List UInt8):(l.flatMap (fj tb)).length=l.length+lc tb l:=by
 induction l with
 | nil=>rfl
 | cons c l ih=>
  have:=(EH h c).1
  simp only[List.flatMap_cons,List.length_append,List.length_cons,lc,List.map_cons,List.sum_cons]at ih |-;omega
theorem GR{tb:List (UInt8 × ByteArray)}(h:yY tb)(l:List UInt8):lc tb l<=99*l.length:=by
 induction l with
 | nil=>simp[lc]
 | cons c l ih=>
  have:=(EH h c).2
  simp only[lc,List.map_cons,List.sum_cons,List.length_cons]at ih |-;omega
theorem AV{tb:List (UInt8 × ByteArray)}{l:List UInt8}(h:∀c∈l,cE tb c=none):l.flatMap (fj tb)=l:=by
 induction l with
 | nil=>rfl
 | cons c l ih=>rw[List.flatMap_cons,lW (h c (by simp)),ih (λd hd=>h d (by simp[hd]))];rfl
def kY(tb:List (UInt8 × ByteArray))(strs l:List UInt8):Nat:=(strs.map λa=>l.count a*rk tb a).sum
theorem JT{tb:List (UInt8 × ByteArray)}{strs l:List UInt8}{k:Nat}(h:k<strs.length):kY tb (strs.take (k+1)) l=kY tb (strs.take k) l+l.count strs[k]*rk tb strs[k]:=by
 unfold kY;rw[List.take_add_one,List.getElem?_eq_getElem h];simp only[List.map_append,List.sum_append,Option.toList_some,List.map_cons,List.map_nil,List.sum_cons,List.sum_nil,Nat.add_zero]
theorem JS(tb:List (UInt8 × ByteArray))(strs l:List UInt8)(c:UInt8)(hn:strs.Nodup):kY tb strs (c :: l)=kY tb strs l+if c∈strs then rk tb c else 0:=by
 induction strs with
 | nil=>simp[kY]
 | cons a r ih=>
  have hn':=List.nodup_cons.1 hn;have:=ih hn'.2
  simp only[kY,List.map_cons,List.sum_cons]at this |-;rw[List.count_cons,this]
  by_cases e:c=a
  ·subst e;rw[if_neg hn'.1,if_pos (by simp)];simp[Nat.add_mul];omega
  have e2:(c==a)=false:=by simpa using e
  rw[e2];simp only[Bool.false_eq_true,if_false,Nat.add_zero,List.mem_cons,e,false_or];omega
theorem Mg{tb:List (UInt8 × ByteArray)}{strs:List UInt8}(hn:strs.Nodup)(hs:∀c,c ∉ strs->rk tb c=0)(l:List UInt8):kY tb strs l=lc tb l:=by
 induction l with
 | nil=>
  have:∀s:List UInt8,(s.map λ_=>0).sum=0:=λs=>by induction s with
   | nil=>rfl
   | cons a s ih=>simpa using ih
  simpa[kY,lc]using this strs
 | cons c l ih=>
  rw[JS _ _ _ _ hn,ih];simp only[lc,List.map_cons,List.sum_cons]
  split
  ·omega
  rename_i h;rw[hs c h];omega
theorem O1{tb:List (UInt8 × ByteArray)}(h:yY tb)(strs l:List UInt8):kY tb strs l<=strs.length*(l.length*99):=by
 induction strs with
 | nil=>simp[kY]
 | cons a r ih=>
  have h1:=(EH h a).2;have h2:l.count a<=l.length:=List.count_le_length;have h3:l.count a*rk tb a<=l.length*99:=Nat.mul_le_mul h2 h1;simp only[kY,List.map_cons,List.sum_cons,List.length_cons]at ih |-;rw[Nat.add_mul];omega
end
section
def SF(w:YA)(tb:List (UInt8 × ByteArray))(strs l:List UInt8)(s5 s6 Lp:Value)(wr:YA):Prop:=
 ∃j:Nat,Lp=Yp Yv j/\j<=strs.length/\s5=Yp Yv ((l.length+kY tb (strs.take j) l:Nat):Int)/\s6=Ys ((strs.take j).any λa=>decide (0<l.count a))/\ac w wr
def SD(w:YA)(tb:List (UInt8 × ByteArray))(l:List UInt8)(s5 s6 dy:Value)(wr:YA):Prop:=
 ∃k:Nat,dy=Yp Yv k/\k<=l.length/\s5=Yp Yv ((l.length+lc tb (l.take k):Nat):Int)/\s6=Ys ((l.take k).any λc=>(cE tb c).isSome)/\ac w wr
def Oq(w:YA)(gb N:Nat)(tb:List (UInt8 × ByteArray))(l:List UInt8)(nU rH:Value)(wr:YA):Prop:=
 ∃(k:Nat) (cur:Array Value) (rest:List Value),rH=Yp Yv k/\k<=l.length/\nU=Yp Yv (((l.take k).flatMap (fj tb)).length:Nat)/\wr.1[gb]?=some (Yw cur 5 (0,0))/\cur.size=N/\cur.toList=Lib.byteCells ((l.take k).flatMap (fj tb))++rest/\ac w wr
theorem CY{α:Type}(l:List α)(p:α->Bool)(k:Nat)(h:k<l.length):(l.take (k+1)).any p=((l.take k).any p || p l[k]):=by
 rw[List.take_add_one,List.getElem?_eq_getElem h,List.any_append];simp
theorem AX{tb:List (UInt8 × ByteArray)}{l:List UInt8}{k:Nat}(h:k<l.length):(l.take (k+1)).flatMap (fj tb)=(l.take k).flatMap (fj tb)++fj tb l[k]:=by
 rw[List.take_add_one,List.getElem?_eq_getElem h,List.flatMap_append];simp
theorem F9{tb:List (UInt8 × ByteArray)}(l:List UInt8)(k:Nat):((l.take k).flatMap (fj tb)).length<=(l.flatMap (fj tb)).length:=by
 conv=>rhs;rw[<-List.take_append_drop k l,List.flatMap_append,List.length_append]
 omega
theorem pW(a b:List UInt8):Lib.byteCells (a++b)=Lib.byteCells a++Lib.byteCells b:=by simp[Lib.byteCells]
theorem bJ(a:List UInt8):(Lib.byteCells a).length=a.length:=by simp[Lib.byteCells]
theorem Bs(N:Nat)(hN:N<=16700000):∃cs:Array Value,(∀W:YA,(Instr.makeSlice 22 (Yp Yv (N:Int)) (Yp Yv (N:Int))).run Tryz.prog W=.ok (Yr (some ⟨W.1.size,0,none⟩) N N) (W.alloc (Yw cs 5)))/\cs.size=N:=by
 obtain⟨i,hi,hz0,hz1,hz2⟩:=info_parts qg;refine⟨madeCells (Value.cells (Yp .u8 0)) (N*i.size),λW=>?_,?_⟩
 ·have:=run_make (P:=Tryz.prog) W 22 5 i (.int .u8 0) Tryz.underlying22 hi hz0 .i64 .i64 (N:Int) (N:Int) (by omega) (by omega) (by rw[hz2];omega) (by omega)
  simpa using this
 rw[size_madeCells,hz1,Nat.mul_one]
theorem xE(W:YA)(g N:Nat)(cur:Array Value)(out:List UInt8)(hg:W.1[g]?=some (Yw cur 5 (0,0)))(hc:cur.toList=Lib.byteCells out)(hN:out.length=N) :
  (convert 22 9 (Yr (some ⟨g,0,none⟩) N N)).run Tryz.prog W=.ok (Yq ⟨out.toArray⟩) W:=by
 rw[run_convert_bytes_arg W 22 5 Tryz.underlying22 Tryz.underlying5 g 0 N N (out.map λx=>(x.toNat:Int)) (by simpa using hN) (λi hi=>by
  rw[Nat.zero_add,aj hg i,<-Array.getElem?_toList,hc];have hil:i<out.length:=by omega
  simp[Lib.byteCells,List.getD_eq_getElem?_getD,hil]) _ Tryz.underlying9]
 simp[strOfNums,Function.comp_def]
theorem PY(B bb:Nat)(tb:List (UInt8 × ByteArray))(s:ByteArray)(w:YA)(h:fH w B bb tb (tb.map (·.1)))(hz:yY tb)(hl:tb.length<=100)(hnd:(tb.map (·.1)).Nodup)(hs:s.size<=160000) :
  Calls Tryz.prog 269 #[Yt (some ⟨bb,0,none⟩),Yq s] w λe w'=>e=Yx (Yq ⟨(s.1.1.flatMap (fj tb)).toArray⟩)/\ac w w':=by
 have hT:=h;obtain⟨_,cs,h1,h2,h3,h4,v,h5,h6⟩:=h;obtain⟨A,c,rfl,_⟩:=aI h6;have U3:w.cell? ⟨bb,256,none⟩=some (Yr A (tb.map (·.1)).length c):=(aj h1 256).trans h5;haveI:af bb w:=af.of (ae h1);have fC:(tb.map (·.1)).length=tb.length:=by simp
 have hlen:=St.aB s;have HLEN:=aa hlen;have hfl:=Mu hz s.1.1;have hsl:=GR hz s.1.1;rw[hlen]at hfl hsl;obtain⟨N,hN⟩:∃N,N=(s.1.1.flatMap (fj tb)).length:=⟨_,rfl⟩;have HN:=aa hN;rw[<-hN]at hfl;have XL:N<=16000000:=by omega
 have nZ:=aa hfl;have HT:=aa hT;have HZ:=aa hz;have UY:=aa h6;obtain⟨m,hm⟩:∃m,tb.length=m:=⟨_,rfl⟩;rw[fC,hm]at U3;have HM:=aa hm;rw[hm]at hl;clear h1 h2 h3 h4 h5 h6 hT hlen hfl hN fC hm
 by_cases hbr:m*8<=s.size
 ·have y1:(m:Int)*8<=(s.size:Int):=by omega
  go_enter Tryz.func269,Tryz.ntmps269;go_wp2_with fail;go_loopw [5,6,32] (λs5 s6 Lp wr=>SF w tb (tb.map (·.1)) s.1.1 s5 s6 Lp wr) (λ_ _ Lp _=>m+1-(intOf Lp).toNat)
  case atStart=>exact⟨0,rfl,by omega,by simp[kY,HLEN.out],rfl,ac.refl _⟩
  case round=>
   obtain⟨j,rfl,hj,hs5,rfl,hu⟩:=hrel;have HU:=aa hu;have hjl:(tb.map (·.1)).length=m:=by rw[List.length_map,HM.out]
   by_cases hjm:j<m
   ·obtain⟨g,rfl,_,hg,hcells⟩:=eE UY.out (by rw[hjl];omega);have Kv:w.cell? ⟨g,j,none⟩=some (Yq ⟨#[(tb.map (·.1))[j]'(by omega)]⟩):=hcells j _ (by rw[List.getElem?_map,List.getElem?_eq_getElem (by omega)];rfl);have cj:=(hu.cell (p:=⟨g,j,none⟩) hg).trans Kv;haveI:af g wr:=af.of (Nat.lt_of_lt_of_le hg hu.size);have hmem:(tb.map (·.1))[j]'(by omega)∈tb.map (·.1):=List.getElem_mem _;have hcs:=JT (tb:=tb) (strs:=tb.map (·.1)) (l:=s.1.1) (k:=j) (by omega);have gH:=CY (tb.map (·.1)) (λa=>decide (0<s.1.1.count a)) j (by omega);generalize(tb.map (·.1))[j]'(by omega)=a at cj hmem hcs gH;obtain⟨t,ht⟩:=D5 hmem;have hle:=O1 HZ.out ((tb.map (·.1)).take j) s.1.1;rw[List.length_take,HLEN.out]at hle;have Rz:min j (tb.map (·.1)).length*(s.size*99)<=100*(160000*99):=Nat.mul_le_mul (by omega) (by omega);have hcl:s.1.1.count a<=s.size:=by rw[<-HLEN.out];exact List.count_le_length
    have hts:=(HZ.out _ (ir ht)).1;have wk:=(HZ.out _ (ir ht)).2;simp only at hts wk;rw[zx ht]at hcs;have fi:=HT.out.ai hu;obtain⟨_,cs2,k1,_,_,k4,_⟩:=fi;obtain⟨v2,k5,k6⟩:=k4 a t ht;obtain⟨g2,cap2,cb2,fr2,rfl,_,_,_,_⟩:=k6;have ca:wr.cell? ⟨bb,a.toNat,none⟩=some (Yr (some ⟨g2,0,none⟩) t.size cap2):=(aj k1 _).trans k5;haveI:af bb wr:=af.of (ae k1);have zl:(a.toNat:Int)<256:=by have:=kG a;omega
    have Kw:=aa (λW=>Tryz.strings_Count_one s a W);obtain⟨so,pq⟩:∃so:ByteArray,so=⟨#[a]⟩:=⟨_,rfl⟩;rw[<-pq]at cj Kw;have hs1:so.size=1:=by rw[pq];rfl
    have hs0:so[0]'(by omega)=a:=by subst pq;rfl
    have hcb:Lib.countByte s.1.1 a=s.1.1.count a:=rfl;rw[hcb]at Kw;obtain⟨q,hq⟩:∃q,q=s.1.1.count a:=⟨_,rfl⟩;rw[<-hq]at Kw hcs gH hcl;obtain⟨P0,lS⟩:∃P0,P0=s.1.1.length+kY tb ((tb.map (·.1)).take j) s.1.1:=⟨_,rfl⟩;rw[<-lS]at hs5;subst hs5;have Dr:P0<=2000000000:=by rw[lS,HLEN.out];omega
    have zj:(j:Int)<m:=by omega
    have WA:q*(t.size-1)<=160000*99:=Nat.mul_le_mul (by omega) (by omega);have hQ:(q:Int)*((t.size:Int)-1)=((q*(t.size-1):Nat):Int):=by rw[Int.natCast_mul,Int.natCast_sub (by omega)];rfl
    have Ub:s.1.1.length+kY tb ((tb.map (·.1)).take (j+1)) s.1.1=P0+q*(t.size-1):=by rw[hcs,lS];omega
    have qW:=aa Ub;have vN:=aa gH;obtain⟨Q0,hQ0⟩:∃Q0,Q0=q*(t.size-1):=⟨_,rfl⟩;rw[<-hQ0]at hQ qW WA;have VY:=aa hQ0;generalize hb0:((tb.map (·.1)).take j).any (λa=>decide (0<s.1.1.count a))=b0 at vN;clear hcs gH hle Rz Kv hcells lS Ub hq pq hmem k1 k4 k5 hQ0
    by_cases hq0:q=0
    ·have zq:((q:Int)==0)=true:=by simp;omega
     have Xd:((q:Int) != 0)=false:=by simp;omega
     have RM:Q0=0:=by rw[VY.out,hq0];simp
     have Od:=aa (And.intro hq0 RM);clear hq0 RM;go_wp2_with fail;refine(Kw.out _).mono ?_;rintro e w2 ⟨rfl,rfl⟩;go_wp2;refine⟨⟨j+1,congrArg (Yp Yv) (by omega),by omega,?_,?_,HU.out⟩,by simp[intOf];omega⟩
     ·rw[qW.out,Od.out.2];rfl
     rw[vN.out,Od.out.1];simp
    have zq:((q:Int)==0)=false:=by simp;omega
    have Xd:((q:Int) != 0)=true:=by simp;omega
    have Od:=aa hq0;clear hq0;go_wp2_with fail;refine(Kw.out _).mono ?_;rintro e w2 ⟨rfl,rfl⟩;go_wp2_with fail;go_quiet (fail);go_wp2;refine⟨⟨j+1,congrArg (Yp Yv) (by omega),by omega,?_,?_,HU.out.trans ((ac.refl _).drewN _)⟩,by simp[intOf];omega⟩
    ·rw[qW.out];exact congrArg (Yp Yv) (by omega)
    rw[vN.out];simp;have:=Od.out;omega
   obtain rfl:j=m:=by omega
   have htk:(tb.map (·.1)).take j=tb.map (·.1):=List.take_of_length_le (by omega);rw[htk]at hs5 |-;have hal:=Mg (tb:=tb) (strs:=tb.map (·.1)) hnd (λc hc=>zw (sj hc)) s.1.1;rw[hal,HLEN.out,<-nZ.out]at hs5;subst hs5
   have hno:((tb.map (·.1)).any λa=>decide (0<s.1.1.count a))=false->s.1.1.flatMap (fj tb)=s.1.1:=by
    intro hf;refine AV λc hc=>sj λhm=>?_
    have:=List.any_eq_false.1 hf c hm
    simp only[decide_eq_true_eq]at this;exact this (List.count_pos_iff.2 hc)
   have kU:=aa hno;generalize((tb.map (·.1)).any λa=>decide (0<s.1.1.count a))=b0 at kU |-;have zj:¬(j:Int)<j:=by omega
   clear htk hal hno hjm;cases b0
   ·have FO:=aa (kU.out rfl);clear kU;go_wp2;go_ret;refine⟨?_,HU.out⟩;rw[FO.out,bo];rfl
   clear kU;obtain⟨cz,hmk,hcz⟩:=Bs N (by omega);have MQ:=hmk wr;have hb0:=heap_alloc_new wr (Yw cz 5);have hu0:ac w (wr.alloc (Yw cz 5)):=HU.out.alloc _;obtain⟨wq,hwq⟩:∃wq,wq=wr:=⟨_,rfl⟩;subst hwq;have mH:=aa hb0;have gj:=aa hu0;have zG:=HU.out.size;clear hmk hb0 hu0;go_wp2_with fail;go_loopw [13,14] (λnU rH wr=>Oq w wq.1.size N tb s.1.1 nU rH wr) (λ_ rH _=>s.size+1-(intOf rH).toNat)
   case atStart=>exact⟨0,cz,cz.toList,rfl,by omega,rfl,mH.out,hcz,rfl,gj.out⟩
   case round=>
    clear mH gj MQ;obtain⟨k,cur,rest,rfl,hk,rfl,hbk,hcu,hcl,hux⟩:=hrel;rw[HLEN.out]at hk;have FQ:=aa hux;haveI:af wq.1.size wr:=af.of (ae hbk)
    by_cases Bi:k<s.size
    ·have zk:(k:Int)<s.size:=by omega
     have DC:s.1.1[k]'(by rw[HLEN.out];exact Bi)=s[k]:=by simp;rfl
     have hft:=AX (tb:=tb) (l:=s.1.1) (k:=k) (by rw[HLEN.out];exact Bi);rw[DC]at hft;have ly:=F9 (tb:=tb) s.1.1 (k+1);rw[hft,List.length_append,<-HN.out]at ly;have fi:=HT.out.ai hux;obtain⟨_,cs2,k1,_,k3,k4,_⟩:=fi;haveI:af bb wr:=af.of (ae k1);have zl:(s[k].toNat:Int)<256:=by have:=kG s[k];omega
     have mI:=aa hft;have ml:cur.toList.length=N:=by simp[hcu]
     obtain⟨p,hp⟩:∃p,p=((s.1.1.take k).flatMap (fj tb)).length:=⟨_,rfl⟩;rw[<-hp]at ly |-;have hrl:rest.length=N-p:=by rw[hcl,List.length_append,bJ,<-hp]at ml;omega
     have HP:=aa hp;cases hlk:cE tb s[k]with
     | none=>
      have ca:wr.cell? ⟨bb,s[k].toNat,none⟩=some (Yr none 0 0):=(aj k1 _).trans (k3 _ hlk);rw[lW hlk]at ly mI;simp only[List.length_singleton]at ly;have zp:(p:Int)<N:=by omega
      obtain⟨r0,rest',hre⟩:∃r0 rest',rest=r0 :: rest':=by
       cases rest with
       | nil=>simp at hrl;omega
       | cons a b=>exact⟨a,b,rfl⟩
      have cp:wr.cell? ⟨wq.1.size,p,none⟩=some r0:=by
       rw[aj hbk p,<-Array.getElem?_toList,hcl,List.getElem?_append_right (by rw[bJ,hp];exact Nat.le_refl _),bJ,<-hp,hre];simp
      have fp:wr.frozen? ⟨wq.1.size,p,none⟩=false:=bu hbk p;have hb2:=heap_setCell_same wr wq.1.size p _ _ (Yp .u8 (s[k].toNat:Int)) hbk
      have hl2:(cur.setIfInBounds p (Yp .u8 (s[k].toNat:Int))).toList=Lib.byteCells ((s.1.1.take (k+1)).flatMap (fj tb))++rest':=by
       rw[Array.toList_setIfInBounds,hcl,mI.out,pW,List.set_append_right _ _ (by rw[bJ,hp];exact Nat.le_refl _),bJ,<-hp,hre];simp[Lib.byteCells]
      have hu2:ac w (wr.setCell ⟨wq.1.size,p,none⟩ (Yp .u8 (s[k].toNat:Int))):=hux.setCell (p:=⟨wq.1.size,p,none⟩) zG _;have HE:=aa (And.intro hb2 (And.intro hl2 hu2));have CI:=aa (show((s.1.1.take (k+1)).flatMap (fj tb)).length=p+1 by rw[mI.out,List.length_append,<-hp];rfl);clear hft ly k1 k3 k4 hlk DC hb2 hl2 hu2 hcl hbk hux ml hp;go_wp2;exact⟨⟨k+1,_,rest',congrArg (Yp Yv) (by omega),by rw[HLEN.out];omega,by rw[CI.out];exact congrArg (Yp Yv) (by omega),HE.out.1,by simp[hcu],HE.out.2.1,HE.out.2.2⟩,by simp[intOf];omega⟩
     | some t=>
      obtain⟨v2,k5,k6⟩:=k4 _ t hlk;obtain⟨g2,cap2,cb2,fr2,rfl,_,k8,k9,k10⟩:=k6;have ca:wr.cell? ⟨bb,s[k].toNat,none⟩=some (Yr (some ⟨g2,0,none⟩) t.size cap2):=(aj k1 _).trans k5;rw[vi hlk]at ly mI;rw[St.aB]at ly;have zH:=(HZ.out _ (ir hlk)).1;simp only at zH;have zp:(p:Int)<=N:=by omega
      have Su:¬N=p:=by omega
      have wk:=(HZ.out _ (ir hlk)).2;simp only at wk
      have r9:=run_copy_row (P:=Tryz.prog) wr.drew 22 22 3 5 wq.1.size p (N-p) (N-p) ⟨g2,0,none⟩ t.size cap2 cur 5 (Lib.byteCells t.1.1) Tryz.underlying22 (by kernel_rfl) hbk (by rw[bJ,St.aB];exact(Nat.min_eq_left (by omega)).symm) (by
       intro j v hj
       have hjl:j<t.size:=by
        have:=(List.getElem?_eq_some_iff.1 hj).1
        rw[bJ,St.aB]at this;exact this
       rw[show(⟨g2,0,none⟩:Addr).add j=⟨g2,j,none⟩by unfold Addr.add;split<;>simp_all];have hd:wr.drew.cell? ⟨g2,j,none⟩=wr.cell? ⟨g2,j,none⟩:=World.cell?_drew _ _;rw[hd,aj k9 j,k10 j hjl,<-hj];have iC:j<t.1.1.length:=by rw[St.aB];exact hjl
       have MO:t.data[j]?=some (t.data[j]'(by simpa using iC)):=Array.getElem?_eq_getElem _
       simp[Lib.byteCells,List.getD_eq_getElem?_getD,MO]) (by rw[bJ,St.aB];omega) (by intro v hv;obtain⟨x,_,rfl⟩:=List.mem_map.1 hv;rfl)
      rw[bJ,St.aB]at r9;have hb2:=setRow_heap wr.drew wq.1.size cur (cur.toList.take p++Lib.byteCells t.1.1++cur.toList.drop (p+t.size)).toArray 5 (0,0) hbk
      have hl2:cur.toList.take p++Lib.byteCells t.1.1++cur.toList.drop (p+t.size)=Lib.byteCells ((s.1.1.take (k+1)).flatMap (fj tb))++rest.drop t.size:=by
       rw[hcl,mI.out,pW,List.take_append_of_le_length (by rw[bJ,<-hp];exact Nat.le_refl _),List.take_of_length_le (by rw[bJ,<-hp];exact Nat.le_refl _),List.drop_append,List.drop_of_length_le (by rw[bJ,<-hp];omega),bJ,<-hp];simp
      have la:(cur.toList.take p++Lib.byteCells t.1.1++cur.toList.drop (p+t.size)).toArray.size=N:=by
       simp[bJ,hcu];omega
      obtain⟨wc,hwc⟩:∃wc,wr.drew.setRow wq.1.size (cur.toList.take p++Lib.byteCells t.1.1++cur.toList.drop (p+t.size)).toArray=wc:=⟨_,rfl⟩;have hu2:ac w wc:=by rw[<-hwc];exact ac.mk (below_setRow (hux.drew).below zG _)
      rw[hwc]at r9 hb2;have Dx:(Builtin.copy_ #[22,22] 3 #[Yr (some ⟨wq.1.size,p,none⟩) (N-p) (N-p),Yr (some ⟨g2,0,none⟩) t.size cap2]).run Tryz.prog wr.drew=.ok (Yp Yv (t.size:Int)) wc:=r9;have HE:=aa (And.intro hb2 (And.intro hl2 (And.intro hu2 la)));have CI:=aa (show((s.1.1.take (k+1)).flatMap (fj tb)).length=p+t.size by rw[mI.out,List.length_append,<-hp,St.aB]);have Xc:(p:Int).toNat=p:=by omega
      clear hft k1 k3 k4 k5 hlk DC hb2 hl2 hu2 hcl hbk hux ml hp la r9 hwc k8 k9 k10;go_wp2_with fail;refine bZ (λ_ _=>True) (λL W=>if L 10=true then W=wc else W=wr.drew) [λv _=>v=Yp Yv (p:Int),λv _=>v=Yr (some ⟨wq.1.size,0,none⟩) N N,λv _=>v=Yp Yv (p:Int),λv _=>v=Yr (some ⟨wq.1.size,p,none⟩) (N-p) (N-p),λv _=>v=Yt (some ⟨bb,0,none⟩),λv _=>v=Yp .u8 (s[k].toNat:Int),λv _=>v=Yt (some ⟨bb,0,none⟩),λv _=>v=Yt (some ⟨bb,0,none⟩),λv _=>v=Yt (some ⟨bb,s[k].toNat,none⟩),λv _=>v=Yr (some ⟨g2,0,none⟩) t.size cap2,λv _=>v=Yp Yv (t.size:Int),λv _=>v=Yp Yv ((p:Int)+(t.size:Int)),λv _=>v=Yp Yv ((p:Int)+(t.size:Int))] (λ_=>trivial) (λ_ _ _ _ _=>trivial) (by kernel_rfl) (by rfl) (by kernel_rfl) (by kernel_rfl) ?frA ?hfrA ?hIA ?hobA ?hendA
      case hfrA=>
       intro ρ;simp only[cf,Act.put,ax,aw,ay,Nat.zero_add,Nat.reduceAdd];exact rfl
      case hIA=>simp
      case hobA=>
       refine aq.cons (λρ L W hR hI hL hD hO hF K hK=>?_) ?_
       ·have eo:ρ 12=Yp Yv (p:Int):=hO 12 _ 13 rfl rfl (hD.not (p:=12) rfl (by decide) hL);clear hF hD hO hR;simp only[Act.put,ax,aw,ay]at hK |-;rw[eo]at hK |-;go_simp;refine hK _ _ trivial (by simpa[ar]using hI) (λ_ _=>?_);rfl
       refine aq.cons (λρ L W hR hI hL hD hO hF K hK=>?_) ?_
       ·clear hF hD hO hR;simp only[Act.put,ax,aw,ay]at hK |-;go_simp;refine hK _ _ trivial (by simpa[ar]using hI) (λ_ _=>?_);rfl
       refine aq.cons (λρ L W hR hI hL hD hO hF K hK=>?_) ?_
       ·have eo:ρ 12=Yp Yv (p:Int):=hO 12 _ 13 rfl rfl (hD.not (p:=12) rfl (by decide) hL);clear hF hD hO hR;simp only[Act.put,ax,aw,ay]at hK |-;rw[eo]at hK |-;go_simp;refine hK _ _ trivial (by simpa[ar]using hI) (λ_ _=>?_);rfl
       refine aq.cons (λρ L W hR hI hL hD hO hF K hK=>?_) ?_
       ·have f1:=ag hF (j:=1) (by decide);have f2:=ag hF (j:=2) (by decide);clear hF hD hO hR;simp only[Act.put,ax,aw,ay]at hK |-;have e1:ρ 1=Yr (some ⟨wq.1.size,0,none⟩) N N:=f1;have e2:ρ 2=Yp Yv (p:Int):=f2;rw[e1,e2]at hK |-;go_simp;refine hK _ _ trivial (by simpa[ar]using hI) (λ_ _=>?_)
        first|rfl|rw[if_neg Su]
       refine aq.cons (λρ L W hR hI hL hD hO hF K hK=>?_) ?_
       ·clear hF hD hO hR;simp only[Act.put,ax,aw,ay]at hK |-;go_simp;refine hK _ _ trivial (by simpa[ar]using hI) (λ_ _=>?_);rfl
       refine aq.cons (λρ L W hR hI hL hD hO hF K hK=>?_) ?_
       ·clear hF hD hO hR;simp only[Act.put,ax,aw,ay]at hK |-;go_simp;refine hK _ _ trivial (by simpa[ar]using hI) (λ_ _=>?_);rfl
       refine aq.cons (λρ L W hR hI hL hD hO hF K hK=>?_) ?_
       ·have f4:=ag hF (j:=4) (by decide);clear hF hD hO hR;simp only[Act.put,ax,aw,ay]at hK |-;have e4:ρ 4=Yt (some ⟨bb,0,none⟩):=f4;rw[e4]at hK |-;go_simp;refine hK _ _ trivial (by simpa[ar]using hI) (λ_ _=>?_);rfl
       refine aq.cons (λρ L W hR hI hL hD hO hF K hK=>?_) ?_
       ·have f6:=ag hF (j:=6) (by decide);clear hF hD hO hR;simp only[Act.put,ax,aw,ay]at hK |-;have e6:ρ 6=Yt (some ⟨bb,0,none⟩):=f6;rw[e6]at hK |-;go_simp;refine hK _ _ trivial (by simpa[ar]using hI) (λ_ _=>?_);rfl
       refine aq.cons (λρ L W hR hI hL hD hO hF K hK=>?_) ?_
       ·have f5:=ag hF (j:=5) (by decide);have f7:=ag hF (j:=7) (by decide);clear hF hD hO hR;simp only[Act.put,ax,aw,ay]at hK |-;have e5:ρ 5=Yp .u8 (s[k].toNat:Int):=f5;have e7:ρ 7=Yt (some ⟨bb,0,none⟩):=f7;rw[e5,e7]at hK |-;go_simp;refine hK _ _ trivial (by simpa[ar]using hI) (λ_ _=>?_);rfl
       refine aq.cons (λρ L W hR hI hL hD hO hF K hK=>?_) ?_
       ·have f8:=ag hF (j:=8) (by decide);have kf:L 10=false:=hD.not (p:=10) rfl (by decide) hL;rw[if_neg (by rw[kf];decide)]at hI;subst hI;clear hF hD hO hR;simp only[Act.put,ax,aw,ay]at hK |-;have e8:ρ 8=Yt (some ⟨bb,s[k].toNat,none⟩):=f8;rw[e8]at hK |-;go_simp;refine hK _ _ trivial (by simp[ar,kf]) (λ_ _=>?_);rfl
       refine aq.cons (λρ L W hR hI hL hD hO hF K hK=>?_) ?_
       ·have f3:=ag hF (j:=3) (by decide);have f9:=ag hF (j:=9) (by decide);rw[if_neg (by rw[hL];decide)]at hI;subst hI;clear hF hD hO hR;simp only[Act.put,ax,aw,ay]at hK |-;have e3:ρ 3=Yr (some ⟨wq.1.size,p,none⟩) (N-p) (N-p):=f3;have e9:ρ 9=Yr (some ⟨g2,0,none⟩) t.size cap2:=f9;rw[e3,e9]at hK |-;go_simp;refine hK _ _ trivial (by simp[ar]) (λ_ _=>?_);rfl
       refine aq.cons (λρ L W hR hI hL hD hO hF K hK=>?_) ?_
       ·have f0:=ag hF (j:=0) (by decide);have f10:=ag hF (j:=10) (by decide);clear hF hD hO hR;simp only[Act.put,ax,aw,ay]at hK |-;have e0:ρ 0=Yp Yv (p:Int):=f0;have e10:ρ 10=Yp Yv (t.size:Int):=f10;rw[e0,e10]at hK |-;go_simp;refine hK _ _ trivial (by simpa[ar]using hI) (λ_ _=>?_)
        first|rfl|exact congrArg (Yp Yv) (IntWalk.i64_in _ (by omega))
       refine aq.cons (λρ L W hR hI hL hD hO hF K hK=>?_) ?_
       ·have f11:=ag hF (j:=11) (by decide);clear hF hD hO hR;simp only[Act.put,ax,aw,ay]at hK |-;have e11:ρ 11=Yp Yv ((p:Int)+(t.size:Int)):=f11;rw[e11]at hK |-;go_simp;refine hK _ _ trivial (by simpa[ar]using hI) (λ_ _=>?_);rfl
       exact aq.nil
      case hendA=>
       intro ρ L W hR hI hL hF;rw[if_pos (hL 10 (by decide))]at hI;subst hI;obtain⟨_,_,_,_,_,_,_,_,_,_,_,_,g12,_⟩:=hF;have g12:ρ 12=Yp Yv ((p:Int)+(t.size:Int)):=g12;rw[g12];clear g12 hL hR;go_wp2;exact⟨⟨k+1,_,rest.drop t.size,congrArg (Yp Yv) (by omega),by rw[HLEN.out];omega,by rw[CI.out];exact congrArg (Yp Yv) (by omega),HE.out.1,HE.out.2.2.2,HE.out.2.1,HE.out.2.2.1⟩,by simp[intOf];omega⟩
    obtain rfl:k=s.size:=by omega
    have htk:s.1.1.take s.size=s.1.1:=List.take_of_length_le (by rw[HLEN.out];omega);rw[htk]at hcl |-;have ml:cur.toList.length=N:=by simp[hcu]
    have tn:rest=[]:=by
     rw[hcl,List.length_append,bJ,<-HN.out]at ml;exact List.eq_nil_of_length_eq_zero (by omega)
    rw[tn,List.append_nil]at hcl;have hcv:=xE wr wq.1.size N cur (s.1.1.flatMap (fj tb)) hbk hcl HN.out.symm;have zk:¬(s.size:Int)<s.size:=by omega
    clear hcl ml tn htk hbk Bi;go_wp2;go_ret;exact⟨rfl,FQ.out⟩
 have y1:¬(m:Int)*8<=(s.size:Int):=by omega
 go_enter Tryz.func269,Tryz.ntmps269;go_wp2_with fail;go_loopw [5,6,10] (λs5 s6 dy wr=>SD w tb s.1.1 s5 s6 dy wr) (λ_ _ dy _=>s.size+1-(intOf dy).toNat)
 case atStart=>exact⟨0,rfl,by omega,by simp[lc,HLEN.out],rfl,ac.refl _⟩
 case round=>
  obtain⟨j,rfl,hj,hs5,rfl,hu⟩:=hrel;have HU:=aa hu;rw[HLEN.out]at hj
  by_cases hjm:j<s.size
  ·have zj:(j:Int)<s.size:=by omega
   have Rv:s.1.1[j]'(by rw[HLEN.out];exact hjm)=s[j]:=by simp;rfl
   have hcs:=LG (tb:=tb) (l:=s.1.1) (k:=j) (by rw[HLEN.out];exact hjm);have gH:=CY s.1.1 (λc=>(cE tb c).isSome) j (by rw[HLEN.out];exact hjm);rw[Rv]at hcs gH;have hle:=GR HZ.out (s.1.1.take j);rw[List.length_take,HLEN.out]at hle;obtain⟨P0,lS⟩:∃P0,P0=s.1.1.length+lc tb (s.1.1.take j):=⟨_,rfl⟩;rw[<-lS]at hs5;subst hs5;have Dr:P0<=2000000000:=by rw[lS,HLEN.out];omega
   have fi:=HT.out.ai hu;obtain⟨_,cs2,k1,_,k3,k4,_⟩:=fi;haveI:af bb wr:=af.of (ae k1);have zl:(s[j].toNat:Int)<256:=by have:=kG s[j];omega
   have vN:=aa gH;generalize hb0:(s.1.1.take j).any (λc=>(cE tb c).isSome)=b0 at vN;cases hlk:cE tb s[j]with
   | none=>
    have ca:wr.cell? ⟨bb,s[j].toNat,none⟩=some (Yr none 0 0):=(aj k1 _).trans (k3 _ hlk);rw[zw hlk]at hcs;have qW:=aa (show s.1.1.length+lc tb (s.1.1.take (j+1))=P0 by rw[hcs,lS];omega);have tD:=aa hlk;clear hcs gH hle k1 k3 k4 lS hlk Rv;go_wp2;exact⟨⟨j+1,congrArg (Yp Yv) (by omega),by rw[HLEN.out];omega,by rw[qW.out],by rw[vN.out,tD.out];simp,HU.out⟩,by simp[intOf];omega⟩
   | some t=>
    obtain⟨v2,k5,k6⟩:=k4 _ t hlk;obtain⟨g2,cap2,cb2,fr2,rfl,_,_,_,_⟩:=k6;have ca:wr.cell? ⟨bb,s[j].toNat,none⟩=some (Yr (some ⟨g2,0,none⟩) t.size cap2):=(aj k1 _).trans k5;have hts:=(HZ.out _ (ir hlk)).1;have wk:=(HZ.out _ (ir hlk)).2;simp only at hts wk;rw[zx hlk]at hcs;have qW:=aa (show s.1.1.length+lc tb (s.1.1.take (j+1))=P0+(t.size-1)by rw[hcs,lS];omega);have tD:=aa hlk;clear hcs gH hle k1 k3 k4 k5 lS hlk Rv;go_wp2;exact⟨⟨j+1,congrArg (Yp Yv) (by omega),by rw[HLEN.out];omega,by rw[qW.out];exact congrArg (Yp Yv) (by omega),by rw[vN.out,tD.out];simp,HU.out⟩,by simp[intOf];omega⟩
  obtain rfl:j=s.size:=by omega
  have htk:s.1.1.take s.size=s.1.1:=List.take_of_length_le (by rw[HLEN.out];omega);rw[htk]at hs5 |-;rw[HLEN.out,<-nZ.out]at hs5;subst hs5
  have hno:(s.1.1.any λc=>(cE tb c).isSome)=false->s.1.1.flatMap (fj tb)=s.1.1:=by
   intro hf;refine AV λc hc=>?_
   have:=List.any_eq_false.1 hf c hc
   simpa using this
  have kU:=aa hno;generalize(s.1.1.any λc=>(cE tb c).isSome)=b0 at kU |-;have zj:¬(s.size:Int)<s.size:=by omega
  clear htk hno hjm;cases b0
  ·have FO:=aa (kU.out rfl);clear kU;go_wp2;go_ret;refine⟨?_,HU.out⟩;rw[FO.out,bo];rfl
  clear kU;obtain⟨cz,hmk,hcz⟩:=Bs N (by omega);have MQ:=hmk wr;have hb0:=heap_alloc_new wr (Yw cz 5);have hu0:ac w (wr.alloc (Yw cz 5)):=HU.out.alloc _;obtain⟨wq,hwq⟩:∃wq,wq=wr:=⟨_,rfl⟩;subst hwq;have mH:=aa hb0;have gj:=aa hu0;have zG:=HU.out.size;clear hmk hb0 hu0;go_wp2_with fail;go_loopw [13,14] (λnU rH wr=>Oq w wq.1.size N tb s.1.1 nU rH wr) (λ_ rH _=>s.size+1-(intOf rH).toNat)
  case atStart=>exact⟨0,cz,cz.toList,rfl,by omega,rfl,mH.out,hcz,rfl,gj.out⟩
  case round=>
   clear mH gj MQ;obtain⟨k,cur,rest,rfl,hk,rfl,hbk,hcu,hcl,hux⟩:=hrel;rw[HLEN.out]at hk;have FQ:=aa hux;haveI:af wq.1.size wr:=af.of (ae hbk)
   by_cases Bi:k<s.size
   ·have zk:(k:Int)<s.size:=by omega
    have DC:s.1.1[k]'(by rw[HLEN.out];exact Bi)=s[k]:=by simp;rfl
    have hft:=AX (tb:=tb) (l:=s.1.1) (k:=k) (by rw[HLEN.out];exact Bi);rw[DC]at hft;have ly:=F9 (tb:=tb) s.1.1 (k+1);rw[hft,List.length_append,<-HN.out]at ly;have fi:=HT.out.ai hux;obtain⟨_,cs2,k1,_,k3,k4,_⟩:=fi;haveI:af bb wr:=af.of (ae k1);have zl:(s[k].toNat:Int)<256:=by have:=kG s[k];omega
    have mI:=aa hft;have ml:cur.toList.length=N:=by simp[hcu]
    obtain⟨p,hp⟩:∃p,p=((s.1.1.take k).flatMap (fj tb)).length:=⟨_,rfl⟩;rw[<-hp]at ly |-;have hrl:rest.length=N-p:=by rw[hcl,List.length_append,bJ,<-hp]at ml;omega
    have HP:=aa hp;cases hlk:cE tb s[k]with
    | none=>
     have ca:wr.cell? ⟨bb,s[k].toNat,none⟩=some (Yr none 0 0):=(aj k1 _).trans (k3 _ hlk);rw[lW hlk]at ly mI;simp only[List.length_singleton]at ly;have zp:(p:Int)<N:=by omega
     obtain⟨r0,rest',hre⟩:∃r0 rest',rest=r0 :: rest':=by
      cases rest with
      | nil=>simp at hrl;omega
      | cons a b=>exact⟨a,b,rfl⟩
     have cp:wr.cell? ⟨wq.1.size,p,none⟩=some r0:=by
      rw[aj hbk p,<-Array.getElem?_toList,hcl,List.getElem?_append_right (by rw[bJ,hp];exact Nat.le_refl _),bJ,<-hp,hre];simp
     have fp:wr.frozen? ⟨wq.1.size,p,none⟩=false:=bu hbk p;have hb2:=heap_setCell_same wr wq.1.size p _ _ (Yp .u8 (s[k].toNat:Int)) hbk
     have hl2:(cur.setIfInBounds p (Yp .u8 (s[k].toNat:Int))).toList=Lib.byteCells ((s.1.1.take (k+1)).flatMap (fj tb))++rest':=by
      rw[Array.toList_setIfInBounds,hcl,mI.out,pW,List.set_append_right _ _ (by rw[bJ,hp];exact Nat.le_refl _),bJ,<-hp,hre];simp[Lib.byteCells]
     have hu2:ac w (wr.setCell ⟨wq.1.size,p,none⟩ (Yp .u8 (s[k].toNat:Int))):=hux.setCell (p:=⟨wq.1.size,p,none⟩) zG _;have HE:=aa (And.intro hb2 (And.intro hl2 hu2));have CI:=aa (show((s.1.1.take (k+1)).flatMap (fj tb)).length=p+1 by rw[mI.out,List.length_append,<-hp];rfl);clear hft ly k1 k3 k4 hlk DC hb2 hl2 hu2 hcl hbk hux ml hp;go_wp2;exact⟨⟨k+1,_,rest',congrArg (Yp Yv) (by omega),by rw[HLEN.out];omega,by rw[CI.out];exact congrArg (Yp Yv) (by omega),HE.out.1,by simp[hcu],HE.out.2.1,HE.out.2.2⟩,by simp[intOf];omega⟩
    | some t=>
     obtain⟨v2,k5,k6⟩:=k4 _ t hlk;obtain⟨g2,cap2,cb2,fr2,rfl,_,k8,k9,k10⟩:=k6;have ca:wr.cell? ⟨bb,s[k].toNat,none⟩=some (Yr (some ⟨g2,0,none⟩) t.size cap2):=(aj k1 _).trans k5;rw[vi hlk]at ly mI;rw[St.aB]at ly;have zH:=(HZ.out _ (ir hlk)).1;simp only at zH;have zp:(p:Int)<=N:=by omega
     have Su:¬N=p:=by omega
     have wk:=(HZ.out _ (ir hlk)).2;simp only at wk
     have r9:=run_copy_row (P:=Tryz.prog) wr.drew 22 22 3 5 wq.1.size p (N-p) (N-p) ⟨g2,0,none⟩ t.size cap2 cur 5 (Lib.byteCells t.1.1) Tryz.underlying22 (by kernel_rfl) hbk (by rw[bJ,St.aB];exact(Nat.min_eq_left (by omega)).symm) (by
      intro j v hj
      have hjl:j<t.size:=by
       have:=(List.getElem?_eq_some_iff.1 hj).1
       rw[bJ,St.aB]at this;exact this
      rw[show(⟨g2,0,none⟩:Addr).add j=⟨g2,j,none⟩by unfold Addr.add;split<;>simp_all];have hd:wr.drew.cell? ⟨g2,j,none⟩=wr.cell? ⟨g2,j,none⟩:=World.cell?_drew _ _;rw[hd,aj k9 j,k10 j hjl,<-hj];have iC:j<t.1.1.length:=by rw[St.aB];exact hjl
      have MO:t.data[j]?=some (t.data[j]'(by simpa using iC)):=Array.getElem?_eq_getElem _
      simp[Lib.byteCells,List.getD_eq_getElem?_getD,MO]) (by rw[bJ,St.aB];omega) (by intro v hv;obtain⟨x,_,rfl⟩:=List.mem_map.1 hv;rfl)
     rw[bJ,St.aB]at r9;have hb2:=setRow_heap wr.drew wq.1.size cur (cur.toList.take p++Lib.byteCells t.1.1++cur.toList.drop (p+t.size)).toArray 5 (0,0) hbk
     have hl2:cur.toList.take p++Lib.byteCells t.1.1++cur.toList.drop (p+t.size)=Lib.byteCells ((s.1.1.take (k+1)).flatMap (fj tb))++rest.drop t.size:=by
      rw[hcl,mI.out,pW,List.take_append_of_le_length (by rw[bJ,<-hp];exact Nat.le_refl _),List.take_of_length_le (by rw[bJ,<-hp];exact Nat.le_refl _),List.drop_append,List.drop_of_length_le (by rw[bJ,<-hp];omega),bJ,<-hp];simp
     have la:(cur.toList.take p++Lib.byteCells t.1.1++cur.toList.drop (p+t.size)).toArray.size=N:=by
      simp[bJ,hcu];omega
     obtain⟨wc,hwc⟩:∃wc,wr.drew.setRow wq.1.size (cur.toList.take p++Lib.byteCells t.1.1++cur.toList.drop (p+t.size)).toArray=wc:=⟨_,rfl⟩;have hu2:ac w wc:=by rw[<-hwc];exact ac.mk (below_setRow (hux.drew).below zG _)
     rw[hwc]at r9 hb2;have Dx:(Builtin.copy_ #[22,22] 3 #[Yr (some ⟨wq.1.size,p,none⟩) (N-p) (N-p),Yr (some ⟨g2,0,none⟩) t.size cap2]).run Tryz.prog wr.drew=.ok (Yp Yv (t.size:Int)) wc:=r9;have HE:=aa (And.intro hb2 (And.intro hl2 (And.intro hu2 la)));have CI:=aa (show((s.1.1.take (k+1)).flatMap (fj tb)).length=p+t.size by rw[mI.out,List.length_append,<-hp,St.aB]);have Xc:(p:Int).toNat=p:=by omega
     clear hft k1 k3 k4 k5 hlk DC hb2 hl2 hu2 hcl hbk hux ml hp la r9 hwc k8 k9 k10;go_wp2_with fail;refine bZ (λ_ _=>True) (λL W=>if L 10=true then W=wc else W=wr.drew) [λv _=>v=Yp Yv (p:Int),λv _=>v=Yr (some ⟨wq.1.size,0,none⟩) N N,λv _=>v=Yp Yv (p:Int),λv _=>v=Yr (some ⟨wq.1.size,p,none⟩) (N-p) (N-p),λv _=>v=Yt (some ⟨bb,0,none⟩),λv _=>v=Yp .u8 (s[k].toNat:Int),λv _=>v=Yt (some ⟨bb,0,none⟩),λv _=>v=Yt (some ⟨bb,0,none⟩),λv _=>v=Yt (some ⟨bb,s[k].toNat,none⟩),λv _=>v=Yr (some ⟨g2,0,none⟩) t.size cap2,λv _=>v=Yp Yv (t.size:Int),λv _=>v=Yp Yv ((p:Int)+(t.size:Int)),λv _=>v=Yp Yv ((p:Int)+(t.size:Int))] (λ_=>trivial) (λ_ _ _ _ _=>trivial) (by kernel_rfl) (by rfl) (by kernel_rfl) (by kernel_rfl) ?frB ?hfrB ?hIB ?hobB ?hendB
     case hfrB=>
      intro ρ;simp only[cf,Act.put,ax,aw,ay,Nat.zero_add,Nat.reduceAdd];exact rfl
     case hIB=>simp
     case hobB=>
      refine aq.cons (λρ L W hR hI hL hD hO hF K hK=>?_) ?_
      ·have eo:ρ 12=Yp Yv (p:Int):=hO 12 _ 13 rfl rfl (hD.not (p:=12) rfl (by decide) hL);clear hF hD hO hR;simp only[Act.put,ax,aw,ay]at hK |-;rw[eo]at hK |-;go_simp;refine hK _ _ trivial (by simpa[ar]using hI) (λ_ _=>?_);rfl
      refine aq.cons (λρ L W hR hI hL hD hO hF K hK=>?_) ?_
      ·clear hF hD hO hR;simp only[Act.put,ax,aw,ay]at hK |-;go_simp;refine hK _ _ trivial (by simpa[ar]using hI) (λ_ _=>?_);rfl
      refine aq.cons (λρ L W hR hI hL hD hO hF K hK=>?_) ?_
      ·have eo:ρ 12=Yp Yv (p:Int):=hO 12 _ 13 rfl rfl (hD.not (p:=12) rfl (by decide) hL);clear hF hD hO hR;simp only[Act.put,ax,aw,ay]at hK |-;rw[eo]at hK |-;go_simp;refine hK _ _ trivial (by simpa[ar]using hI) (λ_ _=>?_);rfl
      refine aq.cons (λρ L W hR hI hL hD hO hF K hK=>?_) ?_
      ·have f1:=ag hF (j:=1) (by decide);have f2:=ag hF (j:=2) (by decide);clear hF hD hO hR;simp only[Act.put,ax,aw,ay]at hK |-;have e1:ρ 1=Yr (some ⟨wq.1.size,0,none⟩) N N:=f1;have e2:ρ 2=Yp Yv (p:Int):=f2;rw[e1,e2]at hK |-;go_simp;refine hK _ _ trivial (by simpa[ar]using hI) (λ_ _=>?_)
       first|rfl|rw[if_neg Su]
      refine aq.cons (λρ L W hR hI hL hD hO hF K hK=>?_) ?_
      ·clear hF hD hO hR;simp only[Act.put,ax,aw,ay]at hK |-;go_simp;refine hK _ _ trivial (by simpa[ar]using hI) (λ_ _=>?_);rfl
      refine aq.cons (λρ L W hR hI hL hD hO hF K hK=>?_) ?_
      ·clear hF hD hO hR;simp only[Act.put,ax,aw,ay]at hK |-;go_simp;refine hK _ _ trivial (by simpa[ar]using hI) (λ_ _=>?_);rfl
      refine aq.cons (λρ L W hR hI hL hD hO hF K hK=>?_) ?_
      ·have f4:=ag hF (j:=4) (by decide);clear hF hD hO hR;simp only[Act.put,ax,aw,ay]at hK |-;have e4:ρ 4=Yt (some ⟨bb,0,none⟩):=f4;rw[e4]at hK |-;go_simp;refine hK _ _ trivial (by simpa[ar]using hI) (λ_ _=>?_);rfl
      refine aq.cons (λρ L W hR hI hL hD hO hF K hK=>?_) ?_
      ·have f6:=ag hF (j:=6) (by decide);clear hF hD hO hR;simp only[Act.put,ax,aw,ay]at hK |-;have e6:ρ 6=Yt (some ⟨bb,0,none⟩):=f6;rw[e6]at hK |-;go_simp;refine hK _ _ trivial (by simpa[ar]using hI) (λ_ _=>?_);rfl
      refine aq.cons (λρ L W hR hI hL hD hO hF K hK=>?_) ?_
      ·have f5:=ag hF (j:=5) (by decide);have f7:=ag hF (j:=7) (by decide);clear hF hD hO hR;simp only[Act.put,ax,aw,ay]at hK |-;have e5:ρ 5=Yp .u8 (s[k].toNat:Int):=f5;have e7:ρ 7=Yt (some ⟨bb,0,none⟩):=f7;rw[e5,e7]at hK |-;go_simp;refine hK _ _ trivial (by simpa[ar]using hI) (λ_ _=>?_);rfl
      refine aq.cons (λρ L W hR hI hL hD hO hF K hK=>?_) ?_
      ·have f8:=ag hF (j:=8) (by decide);have kf:L 10=false:=hD.not (p:=10) rfl (by decide) hL;rw[if_neg (by rw[kf];decide)]at hI;subst hI;clear hF hD hO hR;simp only[Act.put,ax,aw,ay]at hK |-;have e8:ρ 8=Yt (some ⟨bb,s[k].toNat,none⟩):=f8;rw[e8]at hK |-;go_simp;refine hK _ _ trivial (by simp[ar,kf]) (λ_ _=>?_);rfl
      refine aq.cons (λρ L W hR hI hL hD hO hF K hK=>?_) ?_
      ·have f3:=ag hF (j:=3) (by decide);have f9:=ag hF (j:=9) (by decide);rw[if_neg (by rw[hL];decide)]at hI;subst hI;clear hF hD hO hR;simp only[Act.put,ax,aw,ay]at hK |-;have e3:ρ 3=Yr (some ⟨wq.1.size,p,none⟩) (N-p) (N-p):=f3;have e9:ρ 9=Yr (some ⟨g2,0,none⟩) t.size cap2:=f9;rw[e3,e9]at hK |-;go_simp;refine hK _ _ trivial (by simp[ar]) (λ_ _=>?_);rfl
      refine aq.cons (λρ L W hR hI hL hD hO hF K hK=>?_) ?_
      ·have f0:=ag hF (j:=0) (by decide);have f10:=ag hF (j:=10) (by decide);clear hF hD hO hR;simp only[Act.put,ax,aw,ay]at hK |-;have e0:ρ 0=Yp Yv (p:Int):=f0;have e10:ρ 10=Yp Yv (t.size:Int):=f10;rw[e0,e10]at hK |-;go_simp;refine hK _ _ trivial (by simpa[ar]using hI) (λ_ _=>?_)
       first|rfl|exact congrArg (Yp Yv) (IntWalk.i64_in _ (by omega))
      refine aq.cons (λρ L W hR hI hL hD hO hF K hK=>?_) ?_
      ·have f11:=ag hF (j:=11) (by decide);clear hF hD hO hR;simp only[Act.put,ax,aw,ay]at hK |-;have e11:ρ 11=Yp Yv ((p:Int)+(t.size:Int)):=f11;rw[e11]at hK |-;go_simp;refine hK _ _ trivial (by simpa[ar]using hI) (λ_ _=>?_);rfl
      exact aq.nil
     case hendB=>
      intro ρ L W hR hI hL hF;rw[if_pos (hL 10 (by decide))]at hI;subst hI;obtain⟨_,_,_,_,_,_,_,_,_,_,_,_,g12,_⟩:=hF;have g12:ρ 12=Yp Yv ((p:Int)+(t.size:Int)):=g12;rw[g12];clear g12 hL hR;go_wp2;exact⟨⟨k+1,_,rest.drop t.size,congrArg (Yp Yv) (by omega),by rw[HLEN.out];omega,by rw[CI.out];exact congrArg (Yp Yv) (by omega),HE.out.1,HE.out.2.2.2,HE.out.2.1,HE.out.2.2.1⟩,by simp[intOf];omega⟩
   obtain rfl:k=s.size:=by omega
   have htk:s.1.1.take s.size=s.1.1:=List.take_of_length_le (by rw[HLEN.out];omega);rw[htk]at hcl |-;have ml:cur.toList.length=N:=by simp[hcu]
   have tn:rest=[]:=by
    rw[hcl,List.length_append,bJ,<-HN.out]at ml;exact List.eq_nil_of_length_eq_zero (by omega)
   rw[tn,List.append_nil]at hcl;have hcv:=xE wr wq.1.size N cur (s.1.1.flatMap (fj tb)) hbk hcl HN.out.symm;have zk:¬(s.size:Int)<s.size:=by omega
   clear hcl ml tn htk hbk Bi;go_wp2;go_ret;exact⟨rfl,FQ.out⟩
end
section
theorem tM.sz{tb:List (UInt8 × ByteArray)}(h:tM tb):yY tb.reverse:=λp hp=>h.2.2.1 p (List.mem_reverse.1 hp)
def gT(w:YA)(B rb:Nat)(tb:List (UInt8 × ByteArray)):Prop:=vS w B rb (dI tb)\/tJ w B rb tb
theorem gT.ai{a c:YA}{B rb:Nat}{tb:List (UInt8 × ByteArray)}(h:gT a B rb tb)(u:ac a c):gT c B rb tb:=h.imp (λh=>h.ai u) (λh=>h.ai u)
theorem gT.lt{w:YA}{B rb:Nat}{tb:List (UInt8 × ByteArray)}(h:gT w B rb tb):rb<w.1.size:=by
 rcases h with h|h
 ·obtain⟨_,v,h,_⟩:=h;exact ae h
 obtain⟨_,v,h,_⟩:=h;exact ae h
theorem qQ(B rb:Nat)(tb:List (UInt8 × ByteArray))(s:ByteArray)(w:YA)(hR:gT w B rb tb)(hk:tM tb)(hB:B<=w.1.size)(hs:s.size<=160000) :
  Calls Tryz.prog 74 #[Yt (some ⟨rb,0,none⟩),Yq s] w λe w'=>e=Yx (Yq ⟨(s.1.1.flatMap (fj tb.reverse)).toArray⟩)/\tJ w' B rb tb/\Below B w w':=by
 have Ue:Calls Tryz.prog 116 #[Yt (some ⟨rb,0,none⟩),.func (.func 117) #[Yt (some ⟨rb,0,none⟩)] #[]] w λe w'=>e=Yx (Yu #[])/\tJ w' B rb tb/\Below B w w':=by
  rcases hR with h|h
  ·exact Fu B rb tb w h hk hB
  refine(I1 B rb tb _ w h).mono ?_;rintro e w' ⟨rfl,rfl⟩;exact⟨rfl,h,Below.refl _ _⟩
 have vn:=aa Ue;have HK:=aa hk;haveI:af rb w:=af.of hR.lt;have Ga:=aa hR;clear Ue hk hR;go_enter Tryz.func74,Tryz.ntmps74;go_wp2_with fail;refine vn.out.mono ?_;rintro e w2 ⟨rfl,hRB,hbl⟩;have VZ:=aa hRB;have dd:=aa hbl;obtain⟨hBr,bb,h1,h2⟩:=hRB;have c1:w2.cell? ⟨rb,3,none⟩=some (.iface 241 (Yt (some ⟨bb,0,none⟩))):=aj h1 3;haveI:af rb w2:=af.of (ae h1);have hnd:(tb.reverse.map (·.1)).Nodup:=by rw[List.map_reverse];exact(List.reverse_perm _).nodup_iff.2 HK.out.2.2.2
 have UZ:=aa (PY B bb tb.reverse s w2 h2 HK.out.sz (by rw[List.length_reverse];exact HK.out.2.1) hnd hs);clear hbl h1 h2 hnd vn;go_wp2_with fail;refine UZ.out.mono ?_;rintro e w3 ⟨rfl,hu⟩;have HU:=aa hu;clear hu;go_wp2;go_ret;exact⟨rfl,VZ.out.ai HU.out,dd.out.trans (HU.out.below.mono (Nat.le_trans hB dd.out.size))⟩
end
