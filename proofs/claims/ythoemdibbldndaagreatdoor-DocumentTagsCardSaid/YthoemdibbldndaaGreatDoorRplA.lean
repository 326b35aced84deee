/- The contracts of sync.Once's Do, not yet done and done already, one goroutine alone. -/
import Derived.Tactics
import Derived.Tactics2
import Derived.Defers
import Derived.Laws.Pointers
import Derived.Laws.LoneSync
import Derived.RegionTactic
import Derived.RegionCalls
import Derived.ChangeAlike
import Derived.Laws.MakeOwn
import Derived.Deep.WholeRow
import Derived.Lib.ConvBytes
import Derived.Test.YthoemdibbldndaaGreatDoorShelf
import Derived.Test.YthoemdibbldndaaGreatDoorFct
import Derived.Laws.CopyRow
import Derived.Laws.CopyOwn
import Derived.Laws.OwnMore
import Derived.BigQuiet
import Derived.Lib.Bytealg
set_option linter.all false
set_option maxHeartbeats 0
set_option maxRecDepth 20000
open Go.Value renaming int->UM,string->UN,slice->UO,bool->UP,pointer->UQ,tuple->UR
open Go.IntKind renaming i64->US
open Go.Obj renaming cells->UT
open Go.Ending renaming returned->UU
open Go renaming World->UY
namespace Go.Proofs.YthoemdibbldndaaGreatDoor
open Go.RowKit
section
theorem vW(w:UY):(callFunc 217 #[]).run Tryz.prog w=.ok (.value (UR #[])) w:=run_call_mark0 Tryz.func217 (by kernel_rfl) (by kernel_rfl) (by kernel_rfl) .disable (by kernel_rfl) w
theorem yH(w:UY):(callFunc 219 #[]).run Tryz.prog w=.ok (.value (UR #[])) w:=run_call_mark0 Tryz.func219 (by kernel_rfl) (by kernel_rfl) (by kernel_rfl) .enable (by kernel_rfl) w
theorem Fy(a:Addr)(w:UY):(callFunc 220 #[UQ (some a)]).run Tryz.prog w=.ok (.value (UR #[])) w:=run_call_marked Tryz.func220 (by kernel_rfl) (by kernel_rfl) (by kernel_rfl) .acquire (by kernel_rfl) a w
theorem Fz(a:Addr)(w:UY):(callFunc 222 #[UQ (some a)]).run Tryz.prog w=.ok (.value (UR #[])) w:=run_call_marked Tryz.func222 (by kernel_rfl) (by kernel_rfl) (by kernel_rfl) .releaseMerge (by kernel_rfl) a w
set_option maxRecDepth 100000 in
theorem xn(a:Addr)(x:Value)(u:FrameMode)(w:UY)(hc:w.cell? a=some x)(hz:w.frozen? a=false) :
  CallsD Tryz.prog 184 #[UQ (some a),UP true] u w λe u' w'=>u'=u/\(e=UU (UR #[])/\w'=w.drew.setCell a (UM .u32 1)):=by
 have hc':w.drew.cell? a=some x:=by go_simp
 have hz':w.drew.frozen? a=false:=by go_simp
 have hst:=run_call_store (P:=Tryz.prog) Tryz.func204 (by kernel_rfl) (by kernel_rfl) (by kernel_rfl) (by kernel_rfl) (k:=.u32) (y:=1) hc' hz';go_enter_d Tryz.func184,Tryz.ntmps184;go_wp2;go_region_calls
 all_goals (go_end0;exact⟨rfl,rfl⟩)
set_option maxRecDepth 100000 in
theorem wA(a:Addr)(u:FrameMode)(w:UY)(hc:w.cell? a=some (UM .i32 1))(hz:w.frozen? a=false) :
  CallsD Tryz.prog 183 #[UQ (some a)] u w λe u' w'=>u'=u/\(e=UU (UR #[])/\w'=w.setCell a (UM .i32 0)):=by
 have hd:=vW;have he:=yH;have hr:=Fz;have hadd:=run_call_add (P:=Tryz.prog) Tryz.func223 (by kernel_rfl) (by kernel_rfl) (by kernel_rfl) .i32 (by kernel_rfl) (y:=-1) (s:=0) hc hz (by simp[go_sem];rfl);have hcv:=run_convert_to_unsafe (P:=Tryz.prog) (src:=275) (dst:=186) Tryz.underlying275 Tryz.underlying186 (by kernel_rfl) hc;go_enter_d Tryz.func183,Tryz.ntmps183;go_wp2;go_end0;go_wp2;go_end0;exact⟨rfl,rfl⟩
set_option maxRecDepth 100000 in
theorem Ic(a:Addr)(w:UY)(hc:w.cell? a=some (UM .i32 0))(hz:w.frozen? a=false) :
  Calls Tryz.prog 182 #[UQ (some a)] w λe w'=>e=UU (UR #[])/\w'=w.setCell a (UM .i32 1):=by
 have hd:=vW;have he:=yH;have ha:=Fy;have TU:=run_call_cas_hit (P:=Tryz.prog) Tryz.func218 (by kernel_rfl) (by kernel_rfl) (by kernel_rfl) .i32 (by kernel_rfl) (y:=1) hc hz;have hc':(w.setCell a (.int .i32 1)).cell? a=some (.int .i32 1):=World.cell?_setCell_same w a _ hc;have hcv:=run_convert_to_unsafe (P:=Tryz.prog) (src:=275) (dst:=186) Tryz.underlying275 Tryz.underlying186 (by kernel_rfl) hc';go_enter Tryz.func182,Tryz.ntmps182;go_wp2
 first|go_end0|(simp only[Exit.inBlock,Exit.then];refine bodyPost_ret (results_none rfl _ _ _) rfl ?_)|refine bodyPost_ret (results_none rfl _ _ _) rfl ?_
 go_wp2;go_end0;exact⟨rfl,rfl⟩
end
section
set_option maxRecDepth 100000 in
theorem KL(b:Nat)(w:UY)(Post:UY->Prop)(h0:w.cell? ⟨b,0,none⟩=some (UM .u32 0))(h1:w.cell? ⟨b,1,none⟩=some (UM .i32 0))(f0:w.frozen? ⟨b,0,none⟩=false)(f1:w.frozen? ⟨b,1,none⟩=false)
  (hF:Calls Tryz.prog 117 #[UQ (some ⟨b,0,none⟩)] (w.setCell ⟨b,1,none⟩ (UM .i32 1)) λe w2=>e=UU (UR #[])/\Post w2)
  (hP:∀w2,Post w2->w2.cell? ⟨b,0,none⟩=some (UM .u32 0)/\w2.cell? ⟨b,1,none⟩=some (UM .i32 1)/\w2.frozen? ⟨b,0,none⟩=false/\w2.frozen? ⟨b,1,none⟩=false) :
  Calls Tryz.prog 153 #[UQ (some ⟨b,0,none⟩),.func (.func 117) #[UQ (some ⟨b,0,none⟩)] #[]] w λe w'=>e=UU (UR #[]) /\
   ∃w2,Post w2/\w'=(w2.drew.setCell ⟨b,0,none⟩ (UM .u32 1)).setCell ⟨b,1,none⟩ (UM .i32 0):=by
 have hl:=run_call_load (P:=Tryz.prog) Tryz.func181 (by kernel_rfl) (by kernel_rfl) (by kernel_rfl) .u32 (by kernel_rfl) (w:=w.setCell ⟨b,1,none⟩ (UM .i32 1)) (a:=⟨b,0,none⟩) (x:=0) ((World.cell?_setCell_other _ ⟨b,1,none⟩ ⟨b,0,none⟩ _ (by simp)).trans h0);have Oo:∀(x:Bool) (w:UY),(Op.unary .not (UP x)).run Tryz.prog w=.ok (UP (!x)) w:=λ_ _=>rfl
 have HF:=aa hF;clear hF;go_enter_defers Tryz.func153,Tryz.ntmps153;go_wp2_with (first|(go_at_call 182;refine(Ic ⟨b,1,none⟩ _ (by go_simp) (by go_simp)).mono ?_;rintro e w' ⟨rfl,rfl⟩)|(go_at_call 152;go_in)|(go_at_call 117;refine HF.out.mono ?_;rintro e w2 ⟨rfl,hp⟩));obtain⟨p0,p1,q0,q1⟩:=hP w2 hp;have Sz:=aa hp;clear hp hl HF;go_wp2;refine leaves_cons (f:=184) (args:=#[UQ (some ⟨b,0,none⟩),UP true]) (by simp) (by simp[go_sem]) ?_;refine(xn ⟨b,0,none⟩ (UM .u32 0) .returning _ p0 q0).mono ?_;rintro e u' w'' ⟨rfl,rfl,rfl⟩;refine leaves_cons (f:=183) (args:=#[UQ (some ⟨b,1,none⟩)]) (by simp[settle]) (by simp[go_sem]) ?_;refine(wA ⟨b,1,none⟩ _ _ ?_ (by simp[q1])).mono ?_
 ·refine(World.cell?_setCell_other _ ⟨b,0,none⟩ ⟨b,1,none⟩ _ (by simp)).trans ?_;rw[World.cell?_drew];exact p1
 rintro e u' w'' ⟨rfl,rfl,rfl⟩;simp[Leaves,settle,results,Tryz.results153];exact⟨w2,Sz.out,rfl⟩
set_option maxRecDepth 100000 in
theorem Jy(b:Nat)(w:UY)(Post:UY->Prop)(h0:w.cell? ⟨b,0,none⟩=some (UM .u32 0))(h1:w.cell? ⟨b,1,none⟩=some (UM .i32 0))(f0:w.frozen? ⟨b,0,none⟩=false)(f1:w.frozen? ⟨b,1,none⟩=false)
  (hF:Calls Tryz.prog 117 #[UQ (some ⟨b,0,none⟩)] (w.setCell ⟨b,1,none⟩ (UM .i32 1)) λe w2=>e=UU (UR #[])/\Post w2)
  (hP:∀w2,Post w2->w2.cell? ⟨b,0,none⟩=some (UM .u32 0)/\w2.cell? ⟨b,1,none⟩=some (UM .i32 1)/\w2.frozen? ⟨b,0,none⟩=false/\w2.frozen? ⟨b,1,none⟩=false) :
  Calls Tryz.prog 116 #[UQ (some ⟨b,0,none⟩),.func (.func 117) #[UQ (some ⟨b,0,none⟩)] #[]] w λe w'=>e=UU (UR #[]) /\
   ∃w2,Post w2/\w'=(w2.drew.setCell ⟨b,0,none⟩ (UM .u32 1)).setCell ⟨b,1,none⟩ (UM .i32 0):=by
 have hl:=run_call_load (P:=Tryz.prog) Tryz.func181 (by kernel_rfl) (by kernel_rfl) (by kernel_rfl) .u32 (by kernel_rfl) h0;have Oo:∀(x:Bool) (w:UY),(Op.unary .not (UP x)).run Tryz.prog w=.ok (UP (!x)) w:=λ_ _=>rfl
 have HS:=aa (KL b w Post h0 h1 f0 f1 hF hP);clear hF hP;go_enter Tryz.func116,Tryz.ntmps116;go_wp2_with (first|(go_at_call 153;refine HS.out.mono ?_;rintro e w' ⟨rfl,hw⟩)|(go_at_call 152;go_in));go_end0;exact⟨rfl,hw⟩
theorem Mb(b:Nat)(fv:Value)(w:UY)(h0:w.cell? ⟨b,0,none⟩=some (UM .u32 1)) :
  Calls Tryz.prog 116 #[UQ (some ⟨b,0,none⟩),fv] w λe w'=>e=UU (UR #[])/\w'=w:=by
 have hl:=run_call_load (P:=Tryz.prog) Tryz.func181 (by kernel_rfl) (by kernel_rfl) (by kernel_rfl) .u32 (by kernel_rfl) h0;have Oo:∀(x:Bool) (w:UY),(Op.unary .not (UP x)).run Tryz.prog w=.ok (UP (!x)) w:=λ_ _=>rfl
 go_enter Tryz.func116,Tryz.ntmps116;go_wp2;go_end0;exact⟨rfl,rfl⟩
end
section
theorem Bk:(Tryz.prog.info? 9).map (λi=>(i.zero,i.size,i.bytes))=some (some (.string ⟨#[]⟩),1,16):=by kernel_rfl
def NA(st:Int)(w:UY)(B rb:Nat)(os:List ByteArray):Prop:=
 B<=rb/\∃v,w.1[rb]?=some (UT #[UM .u32 0,UM .i32 st,UM .u32 0,.nilIface,v] 158 (0,0))/\w.ownsRow B 9 1 v os.length (os.map UN)
abbrev uc (w:UY) (B rb:Nat) (os:List ByteArray):Prop:=NA 0 w B rb os
theorem uc.ai{a c:UY}{B rb:Nat}{os:List ByteArray}(h:uc a B rb os)(u:ac a c):uc c B rb os:=by
 obtain⟨h0,v,h1,h2⟩:=h;exact⟨h0,v,(u.below.block rb (ae h1)).trans h1,aE u h2⟩
theorem q7(ab n:Nat)(os:List ByteArray)(w:UY)(hn:os.length=n)(hev:n % 2=0)(h0:n<=1000)(hA:∀j u,(os.map UN)[j]?=some u->w.cell? ⟨ab,j,none⟩=some u) :
  Calls Tryz.prog 73 #[UO (some ⟨ab,0,none⟩) n n] w λe w'=>∃rb,e=UU (UQ (some ⟨rb,0,none⟩))/\uc w' w.1.size rb os/\ac w w':=by
 obtain⟨i0,hi,hz0,hz1,hz2⟩:=info_parts Bk
 have y1:(((n:Int).tmod 2)==1)=false:=by
  rw[Int.tmod_eq_emod_of_nonneg (by omega)];simp;omega
 have HA:=aa hA;clear hA;go_enter Tryz.func73,Tryz.ntmps73;go_wp2_with (at_builtin;refine wpList_append_own _ rfl _ _ 135 rfl w.1.size 9 i0 (.string ⟨#[]⟩) 1 16 Tryz.underlying135 hi hz0 hz1 hz2 rfl (by decide) (.slice none 0 0) 0 [] rfl (World.ownsRow_nil _ _ _ _) ⟨ab,0,none⟩ n n (os.map Value.string) rfl (by simp[hn]) ?_ ?_ (by unfold maxLen;omega) (by omega) ?_ ?_)
 ·intro j u hj;rw[show(⟨ab,0,none⟩:Addr).add j=⟨ab,j,none⟩by unfold Addr.add;split<;>simp_all];exact HA.out j u hj
 ·intro u hu;obtain⟨s,_,rfl⟩:=List.mem_map.1 hu;rfl
 ·exact Nat.le_refl _
 intro v' w1 hown hgr _;have hu1:ac w w1:=(ac.refl w).grown hgr (λg hg=>by cases hg);have HO:=aa hown;have HU:=aa hu1;have hsz:=hu1.size;clear hgr hown hu1;obtain⟨A',c',rfl,_⟩:=aT HO.out;go_wp2;go_ret;refine⟨w1.1.size,rfl,⟨hsz,_,heap_alloc_new w1 _,?_⟩,(HU.out).alloc _⟩;have:=HO.out
 subst hn;exact aE ((ac.refl w1).alloc _) (by simpa using this)
end
section
@[go_sem] theorem nil_eq (W:UY):(binOp .eql 22 (UO none 0 0) (UO none 0 0)).run Tryz.prog W=.ok (UP true) W:=by kernel_rfl
@[go_sem] theorem nil_neq (W:UY):(binOp .neq 22 (UO none 0 0) (UO none 0 0)).run Tryz.prog W=.ok (UP false) W:=by kernel_rfl
@[go_sem] theorem some_neq (W:UY) (a:Addr) (n c:Nat):(binOp .neq 22 (UO (some a) n c) (UO none 0 0)).run Tryz.prog W=.ok (UP true) W:=by kernel_rfl
abbrev xN:TypeId:=240
theorem Sb(w:UY):(zeroValue xN).run Tryz.prog w=.ok (.agg ((Array.replicate 256 (UO none 0 0)).push (UO none 0 0))) w:=by kernel_rfl
theorem i142:(Tryz.prog.info? xN).map (·.size)=some 257:=by kernel_rfl
theorem PY(v:Value):((Array.replicate 256 (UO none 0 0)).push (UO none 0 0)).toList.set 256 v=((Array.replicate 256 (UO none 0 0)).push v).toList:=by
 have:∀a:Array Value,a.size=256->(a.push (UO none 0 0)).toList.set 256 v=(a.push v).toList:=by
  intro a h;rw[Array.toList_push,Array.toList_push,List.set_append_right _ _ (by simp[h])];simp[h]
 exact this _ (by simp)
def cr:List (UInt8 × ByteArray)->UInt8->Option ByteArray
 | [],_=>none
 | p :: r,c=>if p.1=c then some p.2 else cr r c
theorem vN(l:List (UInt8 × ByteArray))(p:UInt8 × ByteArray)(c:UInt8):cr (l++[p]) c=match cr l c with
  | some s=>some s
  | none=>if p.1=c then some p.2 else none:=by
 induction l with
 | nil=>simp[cr]
 | cons q l ih=>
  rw[List.cons_append,cr,cr]
  split
  ·rfl
  exact ih
theorem qY{l:List (UInt8 × ByteArray)}{c:UInt8}(h:c ∉ l.map (·.1)):cr l c=none:=by
 induction l with
 | nil=>rfl
 | cons q l ih=>
  simp only[List.map_cons,List.mem_cons,not_or]at h;rw[cr,if_neg (λe=>h.1 e.symm)];exact ih h.2
def wI(w:UY)(B:Nat)(v:Value)(s:ByteArray):Prop:=
 ∃g cap cb fr,v=UO (some ⟨g,0,none⟩) s.size cap/\B<=g/\s.size<=cap/\w.1[g]?=some (UT cb 5 fr)/\∀j,j<s.size->cb[j]?=some (UM .u8 ((s.1.1.getD j 0).toNat:Int))
def As:List TypeId:=[9,xN]
theorem wI.tk{a c:UY}{B:Nat}{v:Value}{s:ByteArray}(h:wI a B v s)(k:eC As a c):wI c B v s:=by
 obtain⟨g,cap,cb,fr,h1,h2,h3,h4,h5⟩:=h;exact⟨g,cap,cb,fr,h1,h2,h3,(k.2 g cb _ fr h4 (by decide)).trans h4,h5⟩
def fs(w:UY)(B bb:Nat)(done:List (UInt8 × ByteArray))(strs:List UInt8):Prop:=
 B<=bb/\∃cs:Array Value,w.1[bb]?=some (UT cs xN (0,0))/\cs.size=257/\(∀c:UInt8,cr done c=none->cs[c.toNat]?=some (UO none 0 0)) /\
  (∀(c:UInt8) s,cr done c=some s->∃v,cs[c.toNat]?=some v/\wI w B v s)/\∃v,cs[256]?=some v/\w.ownsRow B 9 1 v strs.length (strs.map λa=>UN ⟨#[a]⟩)
theorem fs.ai{a c:UY}{B bb:Nat}{done:List (UInt8 × ByteArray)}{strs:List UInt8}(h:fs a B bb done strs)(u:ac a c):fs c B bb done strs:=by
 obtain⟨h0,cs,h1,h2,h3,h4,v,h5,h6⟩:=h;refine⟨h0,cs,(u.below.block bb (ae h1)).trans h1,h2,h3,λx s hx=>?_,v,h5,aE u h6⟩;obtain⟨v',k1,k2⟩:=h4 x s hx;exact⟨v',k1,k2.tk (u.tk As)⟩
theorem j5(c:UInt8):c.toNat<256:=c.toNat_lt
theorem fs.grow{w w4:UY}{B bb:Nat}{done:List (UInt8 × ByteArray)}{strs:List UInt8}{v v':Value}{a:UInt8}(h:fs w B bb done strs)(hv:w.cell? ⟨bb,256,none⟩=some v)(hg:w.grownBy w4 v.ownBlock)
  (ho:w4.ownsRow B 9 1 v' (strs.length+1) (strs.map (λa=>UN ⟨#[a]⟩)++[UN ⟨#[a]⟩])):fs (w4.setCell ⟨bb,256,none⟩ v') B bb done (strs++[a]):=by
 obtain⟨h0,cs,h1,h2,h3,h4,v0,h5,h6⟩:=h;obtain rfl:v0=v:=by rw[ak h1 256,h5]at hv;simpa using hv
 have hb4:w4.1[bb]?=some (UT cs xN (0,0)):=(hg.block bb (ae h1) (λe=>aU h6 h1 (by decide) e.symm)).trans h1;have htk:eC As w (w4.setCell ⟨bb,256,none⟩ v'):=(mz hg (jf h6 _ (by simp[As]))).trans (jl (p:=⟨bb,256,none⟩) hb4 (by simp[As]));refine⟨h0,cs.setIfInBounds 256 v',heap_setCell_same w4 bb 256 _ _ v' hb4,by simp[h2],λc hc=>?_,λc s hc=>?_,v',by simp[h2],?_⟩
 ·rw[Array.getElem?_setIfInBounds_ne (by have:=j5 c;omega)];exact h3 c hc
 ·obtain⟨x,k1,k2⟩:=h4 c s hc;exact⟨x,by rw[Array.getElem?_setIfInBounds_ne (by have:=j5 c;omega)];exact k1,k2.tk htk⟩
 have e:(strs++[a]).map (λa=>UN ⟨#[a]⟩)=strs.map (λa=>UN ⟨#[a]⟩)++[UN ⟨#[a]⟩]:=by simp
 rw[e,List.length_append,List.length_singleton];exact aA ho (aU ho hb4 (by decide))
theorem fs.put{w:UY}{B bb:Nat}{done:List (UInt8 × ByteArray)}{strs:List UInt8}{v:Value}{p:UInt8 × ByteArray}(h:fs w B bb done strs)(hn:cr done p.1=none)(hr:wI w B v p.2):fs (w.setCell ⟨bb,p.1.toNat,none⟩ v) B bb (done++[p]) strs:=by
 obtain⟨h0,cs,h1,h2,h3,h4,v0,h5,h6⟩:=h;have htk:eC As w (w.setCell ⟨bb,p.1.toNat,none⟩ v):=jl (p:=⟨bb,p.1.toNat,none⟩) h1 (by simp[As]);have hlt:=j5 p.1;have hne:∀c:UInt8,p.1≠c->p.1.toNat≠c.toNat:=λc h e=>h (UInt8.toNat_inj.1 e)
 refine⟨h0,cs.setIfInBounds p.1.toNat v,heap_setCell_same w bb p.1.toNat _ _ v h1,by simp[h2],λc hc=>?_,λc s hc=>?_,v0,?_,aA h6 (aU h6 h1 (by decide))⟩
 ·rw[vN]at hc;cases hd:cr done c with
  | some s=>rw[hd]at hc;cases hc
  | none=>
   rw[hd]at hc
   by_cases e:p.1=c
   ·rw[if_pos e]at hc;cases hc
   rw[Array.getElem?_setIfInBounds_ne (hne c e)];exact h3 c hd
 ·rw[vN]at hc;cases hd:cr done c with
  | some s'=>
   rw[hd]at hc;simp only[Option.some.injEq]at hc;subst hc;have e:p.1≠c:=λe=>by subst e;rw[hn]at hd;cases hd
   obtain⟨x,k1,k2⟩:=h4 c s' hd;exact⟨x,by rw[Array.getElem?_setIfInBounds_ne (hne c e)];exact k1,k2.tk htk⟩
  | none=>
   rw[hd]at hc
   by_cases e:p.1=c
   ·rw[if_pos e]at hc;simp only[Option.some.injEq]at hc;subst hc e;exact⟨v,by rw[Array.getElem?_setIfInBounds_self_of_lt (by omega)],hr.tk htk⟩
   rw[if_neg e]at hc;cases hc
 rw[Array.getElem?_setIfInBounds_ne (by omega)];exact h5
theorem fs.fresh(w1:UY)(B:Nat)(hB:B<=w1.1.size)(v:Value)(ho:w1.ownsRow B 9 1 v 0 []):fs (w1.alloc (UT ((Array.replicate 256 (UO none 0 0)).push v) xN)) B w1.1.size [] []:=by
 refine⟨hB,_,heap_alloc_new w1 _,by simp,λc _=>?_,λc s h=>(by simp[cr]at h),v,?_,aE ((ac.refl w1).alloc _) ho⟩
 ·have:=j5 c
  rw[Array.getElem?_push_lt (by rw[Array.size_replicate];exact this)];simp
 have:∀a:Array Value,a.size=256->(a.push v)[256]?=some v:=by
  intro a h;rw[Array.getElem?_push,if_pos h.symm]
 exact this _ (by simp)
theorem Iy(w:UY)(B:Nat)(s:ByteArray)(hB:B<=w.1.size)(hs:s.size<=1000):wI (Lib.bytesWorld w 5 s) B (UO (some ⟨w.1.size,0,none⟩) s.size (grownCap w s.size 0 5)) s:=by
 refine⟨w.1.size,_,_,_,rfl,hB,grownCap_ge _ _ _ _,Lib.bytesWorld_at_new w _ s,λj hj=>?_⟩;rw[<-ak (Lib.bytesWorld_at_new w 5 s) j];exact Lib.bytesWorld_cell w _ s j hj
def dA(tb:List (UInt8 × ByteArray)):List ByteArray:=tb.flatMap λp=>[⟨#[p.1]⟩,p.2]
theorem OJ(tb:List (UInt8 × ByteArray)):(dA tb).length=2*tb.length:=by
 induction tb with
 | nil=>rfl
 | cons p r ih=>simp[dA]at ih |-;omega
theorem PU(tb:List (UInt8 × ByteArray))(k:Nat)(h:k<tb.length):(dA tb)[2*k]?=some ⟨#[tb[k].1]⟩/\(dA tb)[2*k+1]?=some tb[k].2:=by
 induction tb generalizing k with
 | nil=>simp at h
 | cons p r ih=>
  match k,h with
  | 0,_=>exact⟨rfl,rfl⟩
  | k+1,h=>
   have:=ih k (by simpa using h)
   have e1:2*(k+1)=2*k+2:=by omega
   have e2:2*(k+1)+1=(2*k+1)+2:=by omega
   rw[e2,e1];exact this
end
section
def O7(w:UY)(m:Nat)(s4 s5:Value)(wr:UY):Prop:=∃k:Nat,s4=UP (decide (k=0))/\s5=UM US ((2*k:Nat):Int)/\k<=m/\w=wr
def O8(w:UY)(B bb:Nat)(tb:List (UInt8 × ByteArray))(s12:Value)(wr:UY):Prop:=
 ∃k:Nat,s12=UM US (2*(k:Int)-2)/\k<=tb.length/\fs wr B bb (tb.drop k).reverse ((tb.drop k).reverse.map (·.1))/\ac w wr
set_option maxRecDepth 100000 in
theorem Gy(B rb:Nat)(tb:List (UInt8 × ByteArray))(w:UY)(st:Int)(hR:NA st w B rb (dA tb))(h2:2<=tb.length)(RA:tb.length<=100)(hs:∀p∈tb,2<=p.2.size/\p.2.size<=100)(hnd:(tb.map (·.1)).Nodup) :
  Calls Tryz.prog 154 #[UQ (some ⟨rb,0,none⟩)] w λe w'=>∃bb,e=UU (.iface 241 (UQ (some ⟨bb,0,none⟩)))/\fs w' w.1.size bb tb.reverse (tb.reverse.map (·.1))/\ac w w':=by
 obtain⟨_,v,hbk,hown⟩:=hR;obtain⟨A,c,rfl,_⟩:=aL hown;have hol:=OJ tb;obtain⟨m,hm⟩:∃m,tb.length=m:=⟨_,rfl⟩;rw[hm]at hol h2 RA;obtain⟨g,rfl,_,hg,hc⟩:=fg hown (by omega)
 have hcell:∀k (h:k<tb.length),w.cell? ⟨g,2*k,none⟩=some (UN ⟨#[tb[k].1]⟩)/\w.cell? ⟨g,2*k+1,none⟩=some (UN tb[k].2):=by
  intro k h;obtain⟨a1,a2⟩:=PU tb k h;exact⟨hc _ _ (by rw[List.getElem?_map,a1];rfl),hc _ _ (by rw[List.getElem?_map,a2];rfl)⟩
 rw[hol]at hown hbk;have g4:w.cell? ⟨rb,4,none⟩=some (.slice (some ⟨g,0,none⟩) (2*m) c):=ak hbk 4;haveI:af rb w:=af.of (ae hbk);haveI:af g w:=af.of hg;obtain⟨i0,hi,hz0,hz1,hz2⟩:=info_parts Bk;obtain⟨w1,hmk,hro,ym⟩:=run_make_own (P:=Tryz.prog) w w.1.size 135 9 i0 (.string ⟨#[]⟩) 1 Tryz.underlying135 hi hz0 hz1 .i64 .i64 m (by rw[hz2];omega) (by unfold maxLen;omega) (Nat.le_refl _);have hu1:ac w w1:=(ac.refl w).grown ym (λg e=>by cases e);have hz:=λw=>Sb w
 have hsc:=run_storeCells_new (P:=Tryz.prog) w1 xN ((Array.replicate 256 (UO none 0 0)).push (UO none 0 0)) ((Array.replicate 256 (UO none 0 0)).push (UO (some ⟨w.1.size,0,none⟩) 0 m)) (by rw[Array.size_push,Array.size_replicate];exact i142) (by simp) (by
  have:∀(a:Array Value) (v:Value),a.all (·.oneCell')=true->v.oneCell'=true->(a.push v).all (·.oneCell')=true:=by intro a v h1 h2;simp[h1,h2]
  exact this _ _ (by rw[Array.all_eq_true];intro i hi;rw[Array.getElem_replicate];rfl) rfl)
 rw[<-PY]at hsc;have C6:=aa (fs.fresh w1 w.1.size hu1.size (UO (some ⟨w.1.size,0,none⟩) 0 m) hro);obtain⟨Z',hZ'⟩:∃Z':Array Value,Z'=(Array.replicate 256 (UO none 0 0)).push (UO (some ⟨w.1.size,0,none⟩) 0 m):=⟨_,rfl⟩;obtain⟨Z,hZ⟩:∃Z:Array Value,Z=(Array.replicate 256 (UO none 0 0)).push (UO none 0 0):=⟨_,rfl⟩;rw[<-hZ]at hz hsc;rw[<-hZ']at hsc C6;have Ul:Z.size=257:=by rw[hZ,Array.size_push,Array.size_replicate]
 clear hZ hZ' hbk hown hc ym hro;have HC:=aa hcell;have ij:=aa hu1;have C2:=aa hnd;have HS:=aa hs;have hsz1:=hu1.size;have yd:((2*m:Nat):Int) / 2=(m:Int):=by omega
 have y2:(((2*m:Nat):Int)==2)=false:=by simp;omega
 obtain⟨n,hn⟩:∃n,n=2*m:=⟨_,rfl⟩;rw[<-hn]at g4 yd y2;have HN:=aa hn;clear hcell hu1 hnd hs hol hn;go_enter Tryz.func154,Tryz.ntmps154;go_wp2_with fail;go_loopw [4,5] (λs4 s5 wr=>O7 w m s4 s5 wr) (λ_ s5 _=>n+1-(intOf s5).toNat)
 case atStart=>exact⟨0,rfl,rfl,by omega,rfl⟩
 case round=>
  obtain⟨k,rfl,rfl,hk,rfl⟩:=hrel;have hn:=HN.out
  by_cases yo:k<m
  ·obtain⟨e0,e1⟩:=HC.out k (by omega);have hps:=(HS.out tb[k] (List.getElem_mem (by omega))).1;generalize tb[k]'(by omega)=p at e0 e1 hps;obtain⟨so,ow⟩:∃so:ByteArray,so=⟨#[p.1]⟩:=⟨_,rfl⟩;rw[<-ow]at e0;have hs1:so.size=1:=by rw[ow];rfl
   have z1:((2*k:Nat):Int)<n:=by omega
   have z2:(((2*k:Nat):Int)+1)<n:=by omega
   have z3:(((2*k:Nat):Int)+1).toNat=2*k+1:=by omega
   have z4:((p.2.size:Int) != 1)=true:=by simp;omega
   have z5:((p.2.size:Int)==1)=false:=by simp;omega
   obtain⟨i2,hi2⟩:∃i2,i2=2*k:=⟨_,rfl⟩;rw[<-hi2]at e0 e1 z1 z2 z3 |-;have zX:=aa hi2;clear ow hi2 hn;go_wp2;exact⟨⟨k+1,by simp,congrArg (UM US) (by have:=zX.out;omega),by omega,rfl⟩,by have:=HN.out;have:=zX.out;simp[intOf];omega⟩
  obtain rfl:k=m:=by omega
  have z1:¬((2*k:Nat):Int)<n:=by omega
  have gL:decide (k=0)=false:=decide_eq_false (by omega);rw[gL];obtain⟨i2,hi2⟩:∃i2,i2=2*k:=⟨_,rfl⟩;rw[<-hi2]at z1 |-;clear hi2 hn gL;go_wp2_with fail;go_loopw [12] (λs12 wr=>O8 w w.1.size w1.1.size tb s12 wr) (λs12 _=>(intOf s12+2).toNat)
  case atStart=>exact⟨k,congrArg (UM US) (by have:=HN.out;omega),by omega,by rw[List.drop_of_length_le (by omega)];exact C6.out,ij.out.alloc _⟩
  case round=>
   clear C6 hz hsc hmk z1 yd y2;obtain⟨k2,rfl,hk2,hT,hu⟩:=hrel;have HT:=aa hT;have HU:=aa hu;have Ff:=hu.size;rcases Nat.eq_zero_or_pos k2 with h0|h0
   ·subst h0;have Bg:2*((0:Nat):Int)-2=-2:=rfl;rw[Bg];clear hT hu Bg;go_wp2;go_ret;exact⟨_,rfl,by simpa using HT.out,HU.out⟩
   obtain⟨j,rfl⟩:∃j,k2=j+1:=⟨k2-1,by omega⟩;have Bg:2*((j+1:Nat):Int)-2=((2*j:Nat):Int):=by omega
   rw[Bg];obtain⟨e0,e1⟩:=HC.out j (by omega)
   replace e0:=(hu.cell (p:=⟨g,2*j,none⟩) hg).trans e0
   replace e1:=(hu.cell (p:=⟨g,2*j+1,none⟩) hg).trans e1
   haveI:af g wr:=af.of (Nat.lt_of_lt_of_le hg Ff);have hps:=(HS.out tb[j] (List.getElem_mem (by omega))).2;have hdr:tb.drop j=tb[j] :: tb.drop (j+1):=List.drop_eq_getElem_cons (by omega);have J3:((tb.drop j).map (·.1)).Nodup:=by rw[List.map_drop];exact C2.out.sublist (List.drop_sublist _ _)
   rw[hdr,List.map_cons,List.nodup_cons]at J3;have hnone:cr (tb.drop (j+1)).reverse tb[j].1=none:=qY (by rw[List.map_reverse,List.mem_reverse];exact J3.1);have hrev:(tb.drop j).reverse=(tb.drop (j+1)).reverse++[tb[j]]:=by rw[hdr,List.reverse_cons]
   have hlen:((tb.drop (j+1)).reverse.map (·.1)).length<=100:=by simp;omega
   have Jj:=aa hrev;generalize(tb.drop (j+1)).reverse=done at hT HT hnone hrev Jj hlen;generalize tb[j]'(by omega)=p at e0 e1 hps hnone hrev Jj;obtain⟨nu,cs,ss,E0,hcs3,hcs4,v,hcs5,hcs6⟩:=hT;obtain⟨A',c',rfl,_⟩:=aL hcs6;have t0:wr.cell? ⟨w1.1.size,p.1.toNat,none⟩=some (UO none 0 0):=(ak ss _).trans (hcs3 p.1 hnone);have t1:wr.cell? ⟨w1.1.size,256,none⟩=some (UO A' (done.map (·.1)).length c'):=(ak ss 256).trans hcs5;haveI:af w1.1.size wr:=af.of (ae ss);obtain⟨so,ow⟩:∃so:ByteArray,so=⟨#[p.1]⟩:=⟨_,rfl⟩;rw[<-ow]at e0;have hs1:so.size=1:=by rw[ow];rfl
   have hs0:so[0]'(by omega)=p.1:=by subst ow;rfl
   have zl:(p.1.toNat:Int)<256:=by have:=j5 p.1;omega
   have TJ:((2*j:Nat):Int)<n:=by have:=HN.out;omega
   have TK:(((2*j:Nat):Int)+1)<n:=by have:=HN.out;omega
   have TL:(((2*j:Nat):Int)+1).toNat=2*j+1:=by omega
   obtain⟨i2,hi2⟩:∃i2,i2=2*j:=⟨_,rfl⟩;rw[<-hi2]at e0 e1 TJ TK TL |-;have zX:=aa hi2;have hib:i2<=1000:=by omega
   have HO:=aa hcs6;have oN:=aa ss;have Se:=aa hcs5;have K8:=aa hcs3;have kl:=aa hnone;generalize hL:(done.map (·.1)).length=L at *;clear hu Bg hdr J3 hrev ow hi2 ss E0 hcs3 hcs4 hcs5 hcs6 hnone;go_wp2_with (at_builtin;refine wpList_append_own _ rfl _ _ 135 rfl w.1.size 9 i0 (.string ⟨#[]⟩) 1 16 Tryz.underlying135 hi hz0 hz1 hz2 rfl (by decide) (.slice A' L c') L _ rfl (aE uZ HO.out) _ 1 1 [.string ⟨#[p.1]⟩] rfl rfl ?_ ?_ (by unfold maxLen;omega) (by omega) ?_ ?_)
   ·refine sU _ _ _ _ ?_;simp
   ·intro u hu';simp at hu';subst hu';rfl
   ·simp<;>omega
   intro v' w4 l5 hg4 _;obtain⟨PZ,c'',rfl,_⟩:=aL l5;have hgr:=aW (ac.gb (show ac wr _ from uZ) (Value.slice A' L c').ownBlock) hg4 (λg e=>Or.inl e);have hb4:w4.1[w1.1.size]?=some (Obj.cells cs xN (0,0)):=(hgr.block w1.1.size (ae oN.out) (λe=>aU HO.out oN.out (by decide) e.symm)).trans oN.out;have TQ:w4.cell? ⟨w1.1.size,256,none⟩=some (.slice A' L c'):=(ak hb4 256).trans Se.out;have f256:w4.frozen? ⟨w1.1.size,256,none⟩=false:=bk hb4 256;haveI:af w1.1.size w4:=af.of (ae hb4);have N1:=fs.grow HT.out t1 hgr (by rw[hL,List.map_map];exact l5);have bo:ac w (w4.setCell ⟨w1.1.size,256,none⟩ (.slice PZ (L+1) c'')):=(HU.out.vV hgr (λg hg=>aG HO.out g hg)).setCell (p:=⟨w1.1.size,256,none⟩) hsz1 _;obtain⟨w5,hw5⟩:∃w5,w4.setCell ⟨w1.1.size,256,none⟩ (.slice PZ (L+1) c'')=w5:=⟨_,rfl⟩;rw[hw5]at N1 bo;have hcv:=Lib.run_convert_string_bytes w5 9 22 5 p.2 Tryz.underlying9 Tryz.underlying22 Tryz.underlying5;have hrow:=Iy w5 w.1.size p.2 bo.size (by omega);have eh:ac w5 (Lib.bytesWorld w5 5 p.2):=ac.mk ⟨rfl,rfl,rfl,by rw[Lib.bytesWorld_size];omega,λk hk=>Lib.bytesWorld_at_old w5 _ _ k hk⟩;obtain⟨w6,hw6⟩:∃w6,Lib.bytesWorld w5 5 p.2=w6:=⟨_,rfl⟩;rw[hw6]at hcv hrow eh;have Hb:=N1.ai eh;have hput:=fs.put Hb kl.out hrow;obtain⟨_,cs6,h61,_,h63,_⟩:=Hb;have d0:w6.cell? ⟨w1.1.size,p.1.toNat,none⟩=some (.slice none 0 0):=(ak h61 _).trans (h63 p.1 kl.out);have d1:w6.frozen? ⟨w1.1.size,p.1.toNat,none⟩=false:=bk h61 _;haveI:af w1.1.size w6:=af.of (ae h61);have cf:=(bo.trans eh).setCell (p:=⟨w1.1.size,p.1.toNat,none⟩) hsz1 (.slice (some ⟨w5.1.size,0,none⟩) p.2.size (grownCap w5 p.2.size 0 5));have HE:=aa (And.intro hput cf);clear hput cf N1 bo hrow eh hw6 hgr hg4 l5 hb4 h61 h63 t0 t1;go_wp2;refine⟨⟨j,congrArg (Value.int .i64) (by have:=zX.out;omega),by omega,?_,HE.out.2⟩,by have:=zX.out;simp[intOf];omega⟩;rw[Jj.out];have:=HE.out.1
   rw[List.map_append];exact this
end
section
def r9(tb:List (UInt8 × ByteArray)):Prop:=2<=tb.length/\tb.length<=100/\(∀p∈tb,2<=p.2.size/\p.2.size<=100)/\(tb.map (·.1)).Nodup
def r6(w:UY)(B rb:Nat)(tb:List (UInt8 × ByteArray)):Prop:=
 B<=rb/\∃bb,w.1[rb]?=some (UT #[UM .u32 1,UM .i32 0,UM .u32 0,.iface 241 (UQ (some ⟨bb,0,none⟩)),UO none 0 0] 158 (0,0))/\fs w B bb tb.reverse (tb.reverse.map (·.1))
theorem r6.ai{a c:UY}{B rb:Nat}{tb:List (UInt8 × ByteArray)}(h:r6 a B rb tb)(u:ac a c):r6 c B rb tb:=by
 obtain⟨h0,bb,h1,h2⟩:=h;exact⟨h0,bb,(u.below.block rb (ae h1)).trans h1,h2.ai u⟩
theorem fs.low{w:UY}{B B' bb:Nat}{done:List (UInt8 × ByteArray)}{strs:List UInt8}(h:fs w B bb done strs)(hb:B'<=B):fs w B' bb done strs:=by
 obtain⟨h0,cs,h1,h2,h3,h4,v,h5,h6⟩:=h;refine⟨Nat.le_trans hb h0,cs,h1,h2,h3,λx s hx=>?_,v,h5,dy h6 hb⟩;obtain⟨v',k1,g,cap,cb,fr,e1,e2,e3⟩:=h4 x s hx;exact⟨v',k1,g,cap,cb,fr,e1,Nat.le_trans hb e2,e3⟩
theorem fs.set{w:UY}{B bb:Nat}{done:List (UInt8 × ByteArray)}{strs:List UInt8}(h:fs w B bb done strs){q i:Nat}{u:Value}{cs:Array Value}{fr:Nat × Nat}(hq:w.1[q]?=some (UT cs 158 fr)):fs (w.setCell ⟨q,i,none⟩ u) B bb done strs:=by
 obtain⟨h0,cs',h1,h2,h3,h4,v,h5,h6⟩:=h;have hgb:=cK w ⟨q,i,none⟩ u
 have hne:bb≠q:=λe=>by
  subst e;rw[h1]at hq;simp only[Option.some.injEq,Obj.cells.injEq]at hq;exact absurd hq.2.1 (by decide)
 refine⟨h0,cs',(hgb.block bb (ae h1) (by simpa using hne)).trans h1,h2,h3,λx s hx=>?_,v,h5,aA h6 (aU h6 hq (by decide))⟩;obtain⟨v',k1,g,cap,cb,fr',e1,e2,e3,e4,e5⟩:=h4 x s hx
 have Hs:g≠q:=λe=>by
  subst e;rw[e4]at hq;simp only[Option.some.injEq,Obj.cells.injEq]at hq;exact absurd hq.2.1 (by decide)
 exact⟨v',k1,g,cap,cb,fr',e1,e2,e3,(hgb.block g (ae e4) (by simpa using Hs)).trans e4,e5⟩
theorem fs.drew{w:UY}{B bb:Nat}{done:List (UInt8 × ByteArray)}{strs:List UInt8}(h:fs w B bb done strs):fs w.drew B bb done strs:=h.ai ((ac.refl w).drew)
def Ee(w0:UY)(B rb:Nat)(tb:List (UInt8 × ByteArray))(w:UY):Prop:=
 ∃bb,w.1[rb]?=some (UT #[UM .u32 0,UM .i32 1,UM .u32 0,.iface 241 (UQ (some ⟨bb,0,none⟩)),UO none 0 0] 158 (0,0))/\fs w B bb tb.reverse (tb.reverse.map (·.1))/\Below B w0 w
theorem Ko(B rb:Nat)(tb:List (UInt8 × ByteArray))(w:UY)(hR:uc w B rb (dA tb))(hk:r9 tb)(hB:B<=w.1.size) :
  Calls Tryz.prog 117 #[UQ (some ⟨rb,0,none⟩)] (w.setCell ⟨rb,1,none⟩ (UM .i32 1)) λe w'=>e=UU (UR #[])/\Ee w B rb tb w':=by
 obtain⟨hBr,v,hbk,hown⟩:=hR;have hb1:(w.setCell ⟨rb,1,none⟩ (UM .i32 1)).1[rb]?=some (UT #[UM .u32 0,UM .i32 1,UM .u32 0,.nilIface,v] 158 (0,0)):=heap_setCell_same w rb 1 _ _ _ hbk;have dX:(w.setCell ⟨rb,1,none⟩ (UM .i32 1)).ownsRow B 9 1 v (dA tb).length ((dA tb).map UN):=aA hown (aU hown hbk (by decide));have EY:Below B w (w.setCell ⟨rb,1,none⟩ (UM .i32 1)):=(Below.refl B w).setCell (p:=⟨rb,1,none⟩) hBr _;obtain⟨w1,hw1⟩:∃w1,w.setCell ⟨rb,1,none⟩ (UM .i32 1)=w1:=⟨_,rfl⟩;rw[hw1]at hb1 dX EY |-;obtain⟨k1,k2,k3,k4⟩:=hk;have P3:=aa (Gy B rb tb w1 1 ⟨hBr,v,hb1,dX⟩ k1 k2 k3 k4);have oN:=aa hb1;have cZ:=aa EY;have hsz1:=EY.size;haveI:af rb w1:=af.of (ae hb1);clear hb1 dX EY hw1 hbk hown k3 k4;go_enter Tryz.func117,Tryz.ntmps117;go_wp2_with fail;refine P3.out.mono ?_;rintro e w2 ⟨bb,rfl,hT,hu⟩;have hb2:=(hu.below.block rb (ae oN.out)).trans oN.out;have c3:w2.cell? ⟨rb,3,none⟩=some .nilIface:=ak hb2 3;have f3:w2.frozen? ⟨rb,3,none⟩=false:=bk hb2 3;have c4:w2.cell? ⟨rb,4,none⟩=some v:=ak hb2 4;have f4:w2.frozen? ⟨rb,4,none⟩=false:=bk hb2 4;haveI:af rb w2:=af.of (ae hb2);have og:Below B w w2:=Below.trans cZ.out (hu.below.mono (by omega));have hb3:=heap_setCell_same w2 rb 3 _ _ (.iface 241 (UQ (some ⟨bb,0,none⟩))) hb2;have hb4:=heap_setCell_same _ rb 4 _ _ (UO none 0 0) hb3;have yh:=((hT.low (by omega:B<=w1.1.size)).set (i:=3) (u:=.iface 241 (UQ (some ⟨bb,0,none⟩))) hb2).set (i:=4) (u:=UO none 0 0) hb3;have HE:=aa (show Ee w B rb tb ((w2.setCell ⟨rb,3,none⟩ (.iface 241 (UQ (some ⟨bb,0,none⟩)))).setCell ⟨rb,4,none⟩ (UO none 0 0))from⟨bb,hb4,yh,(og.setCell (p:=⟨rb,3,none⟩) hBr _).setCell (p:=⟨rb,4,none⟩) hBr _⟩);clear hT hu hb2 og hb3 hb4 yh P3;go_wp2;go_end0;exact⟨rfl,HE.out⟩
theorem CN(B rb:Nat)(tb:List (UInt8 × ByteArray))(w:UY)(hR:uc w B rb (dA tb))(hk:r9 tb)(hB:B<=w.1.size) :
  Calls Tryz.prog 116 #[UQ (some ⟨rb,0,none⟩),.func (.func 117) #[UQ (some ⟨rb,0,none⟩)] #[]] w λe w'=>e=UU (UR #[])/\r6 w' B rb tb/\Below B w w':=by
 have qf:=hR;obtain⟨hBr,v,hbk,hown⟩:=hR;refine(Jy rb w (Ee w B rb tb) (ak hbk 0) (ak hbk 1) (bk hbk 0) (bk hbk 1) (Ko B rb tb w qf hk hB) ?_).mono ?_
 ·rintro w2 ⟨bb,h,_,_⟩;exact⟨ak h 0,ak h 1,bk h 0,bk h 1⟩
 rintro e w' ⟨rfl,w2,⟨bb,h,hT,hb⟩,rfl⟩;have h1:w2.drew.1[rb]?=_:=h;have h2:=heap_setCell_same w2.drew rb 0 _ _ (UM .u32 1) h1;have h3:=heap_setCell_same _ rb 1 _ _ (UM .i32 0) h2;refine⟨rfl,⟨hBr,bb,h3,(hT.drew.set h1).set h2⟩,(Below.setCell (p:=⟨rb,1,none⟩) (Below.setCell (p:=⟨rb,0,none⟩) hb.drew hBr _) hBr _)⟩
theorem FH(B rb:Nat)(tb:List (UInt8 × ByteArray))(fv:Value)(w:UY)(hR:r6 w B rb tb) :
  Calls Tryz.prog 116 #[UQ (some ⟨rb,0,none⟩),fv] w λe w'=>e=UU (UR #[])/\w'=w:=by
 obtain⟨_,bb,h,_⟩:=hR;exact Mb rb fv w (ak h 0)
end
section
def eS(tb:List (UInt8 × ByteArray))(c:UInt8):List UInt8:=match cr tb c with
 | some t=>t.1.1
 | none=>[c]
def qd(tb:List (UInt8 × ByteArray))(c:UInt8):Nat:=(eS tb c).length-1
theorem tF{tb:List (UInt8 × ByteArray)}{c:UInt8}{t:ByteArray}(h:cr tb c=some t):eS tb c=t.1.1:=by unfold eS;rw[h]
theorem ln{tb:List (UInt8 × ByteArray)}{c:UInt8}(h:cr tb c=none):eS tb c=[c]:=by unfold eS;rw[h]
theorem wQ{tb:List (UInt8 × ByteArray)}{c:UInt8}{t:ByteArray}(h:cr tb c=some t):qd tb c=t.size-1:=by unfold qd;rw[tF h];simp
theorem wP{tb:List (UInt8 × ByteArray)}{c:UInt8}(h:cr tb c=none):qd tb c=0:=by unfold qd;rw[ln h];rfl
theorem gO{tb:List (UInt8 × ByteArray)}{c:UInt8}{t:ByteArray}(h:cr tb c=some t):(c,t)∈tb:=by
 induction tb with
 | nil=>cases h
 | cons p r ih=>
  rw[cr]at h
  split at h
  ·rename_i e
   simp only[Option.some.injEq]at h;subst e h;exact List.mem_cons_self
  exact List.mem_cons_of_mem _ (ih h)
theorem Bt{tb:List (UInt8 × ByteArray)}{c:UInt8}(h:c∈tb.map (·.1)):∃t,cr tb c=some t:=by
 cases e:cr tb c with
 | some t=>exact⟨t,rfl⟩
 | none=>
  exfalso
  induction tb with
  | nil=>simp at h
  | cons p r ih=>
   rw[cr]at e
   split at e
   ·cases e
   rename_i hne
   simp only[List.map_cons,List.mem_cons]at h;rcases h with h|h
   ·exact hne h.symm
   exact ih h e
def wK(tb:List (UInt8 × ByteArray)):Prop:=∀p∈tb,2<=p.2.size/\p.2.size<=100
theorem B4{tb:List (UInt8 × ByteArray)}(h:wK tb)(c:UInt8):(eS tb c).length=qd tb c+1/\qd tb c<=99:=by
 cases e:cr tb c with
 | some t=>
  have:=h _ (gO e)
  rw[tF e,wQ e];simp at this |-;omega
 | none=>rw[ln e,wP e];simp
def ks(tb:List (UInt8 × ByteArray))(l:List UInt8):Nat:=(l.map (qd tb)).sum
theorem IV{tb:List (UInt8 × ByteArray)}{l:List UInt8}{k:Nat}(h:k<l.length):ks tb (l.take (k+1))=ks tb (l.take k)+qd tb l[k]:=by
 unfold ks;rw[List.take_add_one,List.getElem?_eq_getElem h];simp only[List.map_append,List.sum_append,Option.toList_some,List.map_cons,List.map_nil,List.sum_cons,List.sum_nil,Nat.add_zero]
theorem JI{tb:List (UInt8 × ByteArray)}(h:wK tb)(l:List UInt8):(l.flatMap (eS tb)).length=l.length+ks tb l:=by
 induction l with
 | nil=>rfl
 | cons c l ih=>
  have:=(B4 h c).1
  simp only[List.flatMap_cons,List.length_append,List.length_cons,ks,List.map_cons,List.sum_cons]at ih |-;omega
theorem D7{tb:List (UInt8 × ByteArray)}(h:wK tb)(l:List UInt8):ks tb l<=99*l.length:=by
 induction l with
 | nil=>simp[ks]
 | cons c l ih=>
  have:=(B4 h c).2
  simp only[ks,List.map_cons,List.sum_cons,List.length_cons]at ih |-;omega
theorem x8{tb:List (UInt8 × ByteArray)}{l:List UInt8}(h:∀c∈l,cr tb c=none):l.flatMap (eS tb)=l:=by
 induction l with
 | nil=>rfl
 | cons c l ih=>rw[List.flatMap_cons,ln (h c (by simp)),ih (λd hd=>h d (by simp[hd]))];rfl
def kp(tb:List (UInt8 × ByteArray))(strs l:List UInt8):Nat:=(strs.map λa=>l.count a*qd tb a).sum
theorem GB{tb:List (UInt8 × ByteArray)}{strs l:List UInt8}{k:Nat}(h:k<strs.length):kp tb (strs.take (k+1)) l=kp tb (strs.take k) l+l.count strs[k]*qd tb strs[k]:=by
 unfold kp;rw[List.take_add_one,List.getElem?_eq_getElem h];simp only[List.map_append,List.sum_append,Option.toList_some,List.map_cons,List.map_nil,List.sum_cons,List.sum_nil,Nat.add_zero]
theorem GA(tb:List (UInt8 × ByteArray))(strs l:List UInt8)(c:UInt8)(hn:strs.Nodup):kp tb strs (c :: l)=kp tb strs l+if c∈strs then qd tb c else 0:=by
 induction strs with
 | nil=>simp[kp]
 | cons a r ih=>
  have hn':=List.nodup_cons.1 hn;have:=ih hn'.2
  simp only[kp,List.map_cons,List.sum_cons]at this |-;rw[List.count_cons,this]
  by_cases e:c=a
  ·subst e;rw[if_neg hn'.1,if_pos (by simp)];simp[Nat.add_mul];omega
  have e2:(c==a)=false:=by simpa using e
  rw[e2];simp only[Bool.false_eq_true,if_false,Nat.add_zero,List.mem_cons,e,false_or];omega
theorem Ju{tb:List (UInt8 × ByteArray)}{strs:List UInt8}(hn:strs.Nodup)(hs:∀c,c ∉ strs->qd tb c=0)(l:List UInt8):kp tb strs l=ks tb l:=by
 induction l with
 | nil=>
  have:∀s:List UInt8,(s.map λ_=>0).sum=0:=λs=>by induction s with
   | nil=>rfl
   | cons a s ih=>simpa using ih
  simpa[kp,ks]using this strs
 | cons c l ih=>
  rw[GA _ _ _ _ hn,ih];simp only[ks,List.map_cons,List.sum_cons]
  split
  ·omega
  rename_i h;rw[hs c h];omega
theorem L6{tb:List (UInt8 × ByteArray)}(h:wK tb)(strs l:List UInt8):kp tb strs l<=strs.length*(l.length*99):=by
 induction strs with
 | nil=>simp[kp]
 | cons a r ih=>
  have h1:=(B4 h a).2;have h2:l.count a<=l.length:=List.count_le_length;have h3:l.count a*qd tb a<=l.length*99:=Nat.mul_le_mul h2 h1;simp only[kp,List.map_cons,List.sum_cons,List.length_cons]at ih |-;rw[Nat.add_mul];omega
end
section
def Pd(w:UY)(tb:List (UInt8 × ByteArray))(strs l:List UInt8)(s5 s6 IF:Value)(wr:UY):Prop:=
 ∃j:Nat,IF=UM US j/\j<=strs.length/\s5=UM US ((l.length+kp tb (strs.take j) l:Nat):Int)/\s6=UP ((strs.take j).any λa=>decide (0<l.count a))/\ac w wr
def Pb(w:UY)(tb:List (UInt8 × ByteArray))(l:List UInt8)(s5 s6 dZ:Value)(wr:UY):Prop:=
 ∃k:Nat,dZ=UM US k/\k<=l.length/\s5=UM US ((l.length+ks tb (l.take k):Nat):Int)/\s6=UP ((l.take k).any λc=>(cr tb c).isSome)/\ac w wr
def Ls(w:UY)(gb N:Nat)(tb:List (UInt8 × ByteArray))(l:List UInt8)(qu wi:Value)(wr:UY):Prop:=
 ∃(k:Nat) (cur:Array Value) (rest:List Value),wi=UM US k/\k<=l.length/\qu=UM US (((l.take k).flatMap (eS tb)).length:Nat)/\wr.1[gb]?=some (UT cur 5 (0,0))/\cur.size=N/\cur.toList=Lib.byteCells ((l.take k).flatMap (eS tb))++rest/\ac w wr
theorem Ar{α:Type}(l:List α)(p:α->Bool)(k:Nat)(h:k<l.length):(l.take (k+1)).any p=((l.take k).any p || p l[k]):=by
 rw[List.take_add_one,List.getElem?_eq_getElem h,List.any_append];simp
theorem ya{tb:List (UInt8 × ByteArray)}{l:List UInt8}{k:Nat}(h:k<l.length):(l.take (k+1)).flatMap (eS tb)=(l.take k).flatMap (eS tb)++eS tb l[k]:=by
 rw[List.take_add_one,List.getElem?_eq_getElem h,List.flatMap_append];simp
theorem Dq{tb:List (UInt8 × ByteArray)}(l:List UInt8)(k:Nat):((l.take k).flatMap (eS tb)).length<=(l.flatMap (eS tb)).length:=by
 conv=>rhs;rw[<-List.take_append_drop k l,List.flatMap_append,List.length_append]
 omega
theorem oW(a b:List UInt8):Lib.byteCells (a++b)=Lib.byteCells a++Lib.byteCells b:=by simp[Lib.byteCells]
theorem bD(a:List UInt8):(Lib.byteCells a).length=a.length:=by simp[Lib.byteCells]
theorem yA(N:Nat)(hN:N<=16700000):∃cs:Array Value,(∀W:UY,(Instr.makeSlice 22 (UM US (N:Int)) (UM US (N:Int))).run Tryz.prog W=.ok (UO (some ⟨W.1.size,0,none⟩) N N) (W.alloc (UT cs 5)))/\cs.size=N:=by
 obtain⟨i,hi,hz0,hz1,hz2⟩:=info_parts pf;refine⟨madeCells (Value.cells (UM .u8 0)) (N*i.size),λW=>?_,?_⟩
 ·have:=run_make (P:=Tryz.prog) W 22 5 i (.int .u8 0) Tryz.underlying22 hi hz0 .i64 .i64 (N:Int) (N:Int) (by omega) (by omega) (by rw[hz2];omega) (by omega)
  simpa using this
 rw[size_madeCells,hz1,Nat.mul_one]
theorem vn(W:UY)(g N:Nat)(cur:Array Value)(out:List UInt8)(hg:W.1[g]?=some (UT cur 5 (0,0)))(hc:cur.toList=Lib.byteCells out)(hN:out.length=N) :
  (convert 22 9 (UO (some ⟨g,0,none⟩) N N)).run Tryz.prog W=.ok (UN ⟨out.toArray⟩) W:=by
 rw[run_convert_bytes_arg W 22 5 Tryz.underlying22 Tryz.underlying5 g 0 N N (out.map λx=>(x.toNat:Int)) (by simpa using hN) (λi hi=>by
  rw[Nat.zero_add,ak hg i,<-Array.getElem?_toList,hc];have hil:i<out.length:=by omega
  simp[Lib.byteCells,List.getD_eq_getElem?_getD,hil]) _ Tryz.underlying9]
 simp[strOfNums,Function.comp_def]
theorem MZ(B bb:Nat)(tb:List (UInt8 × ByteArray))(s:ByteArray)(w:UY)(h:fs w B bb tb (tb.map (·.1)))(hz:wK tb)(hl:tb.length<=100)(hnd:(tb.map (·.1)).Nodup)(hs:s.size<=160000) :
  Calls Tryz.prog 269 #[UQ (some ⟨bb,0,none⟩),UN s] w λe w'=>e=UU (UN ⟨(s.1.1.flatMap (eS tb)).toArray⟩)/\ac w w':=by
 have hT:=h;obtain⟨_,cs,h1,h2,h3,h4,v,h5,h6⟩:=h;obtain⟨A,c,rfl,_⟩:=aL h6;have Rz:w.cell? ⟨bb,256,none⟩=some (UO A (tb.map (·.1)).length c):=(ak h1 256).trans h5;haveI:af bb w:=af.of (ae h1);have fj:(tb.map (·.1)).length=tb.length:=by simp
 have hlen:=St.aC s;have HLEN:=aa hlen;have hfl:=JI hz s.1.1;have hsl:=D7 hz s.1.1;rw[hlen]at hfl hsl;obtain⟨N,hN⟩:∃N,N=(s.1.1.flatMap (eS tb)).length:=⟨_,rfl⟩;have HN:=aa hN;rw[<-hN]at hfl;have Uk:N<=16000000:=by omega
 have nl:=aa hfl;have HT:=aa hT;have HZ:=aa hz;have Ru:=aa h6;obtain⟨m,hm⟩:∃m,tb.length=m:=⟨_,rfl⟩;rw[fj,hm]at Rz;have HM:=aa hm;rw[hm]at hl;clear h1 h2 h3 h4 h5 h6 hT hlen hfl hN fj hm
 by_cases hbr:m*8<=s.size
 ·have y1:(m:Int)*8<=(s.size:Int):=by omega
  go_enter Tryz.func269,Tryz.ntmps269;go_wp2_with fail;go_loopw [5,6,32] (λs5 s6 IF wr=>Pd w tb (tb.map (·.1)) s.1.1 s5 s6 IF wr) (λ_ _ IF _=>m+1-(intOf IF).toNat)
  case atStart=>exact⟨0,rfl,by omega,by simp[kp,HLEN.out],rfl,ac.refl _⟩
  case round=>
   obtain⟨j,rfl,hj,hs5,rfl,hu⟩:=hrel;have HU:=aa hu;have hjl:(tb.map (·.1)).length=m:=by rw[List.length_map,HM.out]
   by_cases hjm:j<m
   ·obtain⟨g,rfl,_,hg,hcells⟩:=fg Ru.out (by rw[hjl];omega);have QL:w.cell? ⟨g,j,none⟩=some (UN ⟨#[(tb.map (·.1))[j]'(by omega)]⟩):=hcells j _ (by rw[List.getElem?_map,List.getElem?_eq_getElem (by omega)];rfl);have cj:=(hu.cell (p:=⟨g,j,none⟩) hg).trans QL;haveI:af g wr:=af.of (Nat.lt_of_lt_of_le hg hu.size);have hmem:(tb.map (·.1))[j]'(by omega)∈tb.map (·.1):=List.getElem_mem _;have hcs:=GB (tb:=tb) (strs:=tb.map (·.1)) (l:=s.1.1) (k:=j) (by omega);have gl:=Ar (tb.map (·.1)) (λa=>decide (0<s.1.1.count a)) j (by omega);generalize(tb.map (·.1))[j]'(by omega)=a at cj hmem hcs gl;obtain⟨t,ht⟩:=Bt hmem;have hle:=L6 HZ.out ((tb.map (·.1)).take j) s.1.1;rw[List.length_take,HLEN.out]at hle;have Ok:min j (tb.map (·.1)).length*(s.size*99)<=100*(160000*99):=Nat.mul_le_mul (by omega) (by omega);have hcl:s.1.1.count a<=s.size:=by rw[<-HLEN.out];exact List.count_le_length
    have hts:=(HZ.out _ (gO ht)).1;have ur:=(HZ.out _ (gO ht)).2;simp only at hts ur;rw[wQ ht]at hcs;have eR:=HT.out.ai hu;obtain⟨_,cs2,k1,_,_,k4,_⟩:=eR;obtain⟨v2,k5,k6⟩:=k4 a t ht;obtain⟨g2,cap2,cb2,fr2,rfl,_,_,_,_⟩:=k6;have ca:wr.cell? ⟨bb,a.toNat,none⟩=some (UO (some ⟨g2,0,none⟩) t.size cap2):=(ak k1 _).trans k5;haveI:af bb wr:=af.of (ae k1);have zl:(a.toNat:Int)<256:=by have:=j5 a;omega
    have Hi:=aa (λW=>Tryz.strings_Count_one s a W);obtain⟨so,ow⟩:∃so:ByteArray,so=⟨#[a]⟩:=⟨_,rfl⟩;rw[<-ow]at cj Hi;have hs1:so.size=1:=by rw[ow];rfl
    have hs0:so[0]'(by omega)=a:=by subst ow;rfl
    have hcb:Lib.countByte s.1.1 a=s.1.1.count a:=rfl;rw[hcb]at Hi;obtain⟨q,hq⟩:∃q,q=s.1.1.count a:=⟨_,rfl⟩;rw[<-hq]at Hi hcs gl hcl;obtain⟨P0,lh⟩:∃P0,P0=s.1.1.length+kp tb ((tb.map (·.1)).take j) s.1.1:=⟨_,rfl⟩;rw[<-lh]at hs5;subst hs5;have S5:P0<=2000000000:=by rw[lh,HLEN.out];omega
    have zj:(j:Int)<m:=by omega
    have Th:q*(t.size-1)<=160000*99:=Nat.mul_le_mul (by omega) (by omega);have hQ:(q:Int)*((t.size:Int)-1)=((q*(t.size-1):Nat):Int):=by rw[Int.natCast_mul,Int.natCast_sub (by omega)];rfl
    have QH:s.1.1.length+kp tb ((tb.map (·.1)).take (j+1)) s.1.1=P0+q*(t.size-1):=by rw[hcs,lh];omega
    have Ab:=aa QH;have tZ:=aa gl;obtain⟨Q0,hQ0⟩:∃Q0,Q0=q*(t.size-1):=⟨_,rfl⟩;rw[<-hQ0]at hQ Ab Th;have SC:=aa hQ0;generalize hb0:((tb.map (·.1)).take j).any (λa=>decide (0<s.1.1.count a))=b0 at tZ;clear hcs gl hle Ok QL hcells lh QH hq ow hmem k1 k4 k5 hQ0
    by_cases hq0:q=0
    ·have zq:((q:Int)==0)=true:=by simp;omega
     have TN:((q:Int) != 0)=false:=by simp;omega
     have Ox:Q0=0:=by rw[SC.out,hq0];simp
     have Lg:=aa (And.intro hq0 Ox);clear hq0 Ox;go_wp2_with fail;refine(Hi.out _).mono ?_;rintro e w2 ⟨rfl,rfl⟩;go_wp2;refine⟨⟨j+1,congrArg (UM US) (by omega),by omega,?_,?_,HU.out⟩,by simp[intOf];omega⟩
     ·rw[Ab.out,Lg.out.2];rfl
     rw[tZ.out,Lg.out.1];simp
    have zq:((q:Int)==0)=false:=by simp;omega
    have TN:((q:Int) != 0)=true:=by simp;omega
    have Lg:=aa hq0;clear hq0;go_wp2_with fail;refine(Hi.out _).mono ?_;rintro e w2 ⟨rfl,rfl⟩;go_wp2_with fail;go_quiet (fail);go_wp2;refine⟨⟨j+1,congrArg (UM US) (by omega),by omega,?_,?_,HU.out.trans ((ac.refl _).drewN _)⟩,by simp[intOf];omega⟩
    ·rw[Ab.out];exact congrArg (UM US) (by omega)
    rw[tZ.out];simp;have:=Lg.out;omega
   obtain rfl:j=m:=by omega
   have htk:(tb.map (·.1)).take j=tb.map (·.1):=List.take_of_length_le (by omega);rw[htk]at hs5 |-;have hal:=Ju (tb:=tb) (strs:=tb.map (·.1)) hnd (λc hc=>wP (qY hc)) s.1.1;rw[hal,HLEN.out,<-nl.out]at hs5;subst hs5
   have hno:((tb.map (·.1)).any λa=>decide (0<s.1.1.count a))=false->s.1.1.flatMap (eS tb)=s.1.1:=by
    intro hf;refine x8 λc hc=>qY λhm=>?_
    have:=List.any_eq_false.1 hf c hm
    simp only[decide_eq_true_eq]at this;exact this (List.count_pos_iff.2 hc)
   have kl:=aa hno;generalize((tb.map (·.1)).any λa=>decide (0<s.1.1.count a))=b0 at kl |-;have zj:¬(j:Int)<j:=by omega
   clear htk hal hno hjm;cases b0
   ·have C5:=aa (kl.out rfl);clear kl;go_wp2;go_ret;refine⟨?_,HU.out⟩;rw[C5.out,be];rfl
   clear kl;obtain⟨cz,hmk,hcz⟩:=yA N (by omega);have J2:=hmk wr;have hb0:=heap_alloc_new wr (UT cz 5);have hu0:ac w (wr.alloc (UT cz 5)):=HU.out.alloc _;obtain⟨wq,hwq⟩:∃wq,wq=wr:=⟨_,rfl⟩;subst hwq;have rD:=aa hb0;have fU:=aa hu0;have Bd:=HU.out.size;clear hmk hb0 hu0;go_wp2_with fail;go_loopw [13,14] (λqu wi wr=>Ls w wq.1.size N tb s.1.1 qu wi wr) (λ_ wi _=>s.size+1-(intOf wi).toNat)
   case atStart=>exact⟨0,cz,cz.toList,rfl,by omega,rfl,rD.out,hcz,rfl,fU.out⟩
   case round=>
    clear rD fU J2;obtain⟨k,cur,rest,rfl,hk,rfl,hbk,hcu,hcl,hux⟩:=hrel;rw[HLEN.out]at hk;have xL:=aa hux;haveI:af wq.1.size wr:=af.of (ae hbk)
    by_cases yo:k<s.size
    ·have zk:(k:Int)<s.size:=by omega
     have AV:s.1.1[k]'(by rw[HLEN.out];exact yo)=s[k]:=by simp;rfl
     have hft:=ya (tb:=tb) (l:=s.1.1) (k:=k) (by rw[HLEN.out];exact yo);rw[AV]at hft;have kM:=Dq (tb:=tb) s.1.1 (k+1);rw[hft,List.length_append,<-HN.out]at kM;have eR:=HT.out.ai hux;obtain⟨_,cs2,k1,_,k3,k4,_⟩:=eR;haveI:af bb wr:=af.of (ae k1);have zl:(s[k].toNat:Int)<256:=by have:=j5 s[k];omega
     have nn:=aa hft;have lI:cur.toList.length=N:=by simp[hcu]
     obtain⟨p,hp⟩:∃p,p=((s.1.1.take k).flatMap (eS tb)).length:=⟨_,rfl⟩;rw[<-hp]at kM |-;have hrl:rest.length=N-p:=by rw[hcl,List.length_append,bD,<-hp]at lI;omega
     have HP:=aa hp;cases hlk:cr tb s[k]with
     | none=>
      have ca:wr.cell? ⟨bb,s[k].toNat,none⟩=some (UO none 0 0):=(ak k1 _).trans (k3 _ hlk);rw[ln hlk]at kM nn;simp only[List.length_singleton]at kM;have zp:(p:Int)<N:=by omega
      obtain⟨r0,rest',hre⟩:∃r0 rest',rest=r0 :: rest':=by
       cases rest with
       | nil=>simp at hrl;omega
       | cons a b=>exact⟨a,b,rfl⟩
      have cp:wr.cell? ⟨wq.1.size,p,none⟩=some r0:=by
       rw[ak hbk p,<-Array.getElem?_toList,hcl,List.getElem?_append_right (by rw[bD,hp];exact Nat.le_refl _),bD,<-hp,hre];simp
      have fp:wr.frozen? ⟨wq.1.size,p,none⟩=false:=bk hbk p;have hb2:=heap_setCell_same wr wq.1.size p _ _ (UM .u8 (s[k].toNat:Int)) hbk
      have hl2:(cur.setIfInBounds p (UM .u8 (s[k].toNat:Int))).toList=Lib.byteCells ((s.1.1.take (k+1)).flatMap (eS tb))++rest':=by
       rw[Array.toList_setIfInBounds,hcl,nn.out,oW,List.set_append_right _ _ (by rw[bD,hp];exact Nat.le_refl _),bD,<-hp,hre];simp[Lib.byteCells]
      have hu2:ac w (wr.setCell ⟨wq.1.size,p,none⟩ (UM .u8 (s[k].toNat:Int))):=hux.setCell (p:=⟨wq.1.size,p,none⟩) Bd _;have HE:=aa (And.intro hb2 (And.intro hl2 hu2));have Aa:=aa (show((s.1.1.take (k+1)).flatMap (eS tb)).length=p+1 by rw[nn.out,List.length_append,<-hp];rfl);clear hft kM k1 k3 k4 hlk AV hb2 hl2 hu2 hcl hbk hux lI hp;go_wp2;exact⟨⟨k+1,_,rest',congrArg (UM US) (by omega),by rw[HLEN.out];omega,by rw[Aa.out];exact congrArg (UM US) (by omega),HE.out.1,by simp[hcu],HE.out.2.1,HE.out.2.2⟩,by simp[intOf];omega⟩
     | some t=>
      obtain⟨v2,k5,k6⟩:=k4 _ t hlk;obtain⟨g2,cap2,cb2,fr2,rfl,_,k8,k9,k10⟩:=k6;have ca:wr.cell? ⟨bb,s[k].toNat,none⟩=some (UO (some ⟨g2,0,none⟩) t.size cap2):=(ak k1 _).trans k5;rw[tF hlk]at kM nn;rw[St.aC]at kM;have J6:=(HZ.out _ (gO hlk)).1;simp only at J6;have zp:(p:Int)<=N:=by omega
      have O3:¬N=p:=by omega
      have ur:=(HZ.out _ (gO hlk)).2;simp only at ur
      have qR:=run_copy_row (P:=Tryz.prog) wr.drew 22 22 3 5 wq.1.size p (N-p) (N-p) ⟨g2,0,none⟩ t.size cap2 cur 5 (Lib.byteCells t.1.1) Tryz.underlying22 (by kernel_rfl) hbk (by rw[bD,St.aC];exact(Nat.min_eq_left (by omega)).symm) (by
       intro j v hj
       have hjl:j<t.size:=by
        have:=(List.getElem?_eq_some_iff.1 hj).1
        rw[bD,St.aC]at this;exact this
       rw[show(⟨g2,0,none⟩:Addr).add j=⟨g2,j,none⟩by unfold Addr.add;split<;>simp_all];have hd:wr.drew.cell? ⟨g2,j,none⟩=wr.cell? ⟨g2,j,none⟩:=World.cell?_drew _ _;rw[hd,ak k9 j,k10 j hjl,<-hj];have ia:j<t.1.1.length:=by rw[St.aC];exact hjl
       have J1:t.data[j]?=some (t.data[j]'(by simpa using ia)):=Array.getElem?_eq_getElem _
       simp[Lib.byteCells,List.getD_eq_getElem?_getD,J1]) (by rw[bD,St.aC];omega) (by intro v hv;obtain⟨x,_,rfl⟩:=List.mem_map.1 hv;rfl)
      rw[bD,St.aC]at qR;have hb2:=setRow_heap wr.drew wq.1.size cur (cur.toList.take p++Lib.byteCells t.1.1++cur.toList.drop (p+t.size)).toArray 5 (0,0) hbk
      have hl2:cur.toList.take p++Lib.byteCells t.1.1++cur.toList.drop (p+t.size)=Lib.byteCells ((s.1.1.take (k+1)).flatMap (eS tb))++rest.drop t.size:=by
       rw[hcl,nn.out,oW,List.take_append_of_le_length (by rw[bD,<-hp];exact Nat.le_refl _),List.take_of_length_le (by rw[bD,<-hp];exact Nat.le_refl _),List.drop_append,List.drop_of_length_le (by rw[bD,<-hp];omega),bD,<-hp];simp
      have kr:(cur.toList.take p++Lib.byteCells t.1.1++cur.toList.drop (p+t.size)).toArray.size=N:=by
       simp[bD,hcu];omega
      obtain⟨wc,hwc⟩:∃wc,wr.drew.setRow wq.1.size (cur.toList.take p++Lib.byteCells t.1.1++cur.toList.drop (p+t.size)).toArray=wc:=⟨_,rfl⟩;have hu2:ac w wc:=by rw[<-hwc];exact ac.mk (below_setRow (hux.drew).below Bd _)
      rw[hwc]at qR hb2;have AS:(Builtin.copy_ #[22,22] 3 #[UO (some ⟨wq.1.size,p,none⟩) (N-p) (N-p),UO (some ⟨g2,0,none⟩) t.size cap2]).run Tryz.prog wr.drew=.ok (UM US (t.size:Int)) wc:=qR;have HE:=aa (And.intro hb2 (And.intro hl2 (And.intro hu2 kr)));have Aa:=aa (show((s.1.1.take (k+1)).flatMap (eS tb)).length=p+t.size by rw[nn.out,List.length_append,<-hp,St.aC]);have TM:(p:Int).toNat=p:=by omega
      clear hft k1 k3 k4 k5 hlk AV hb2 hl2 hu2 hcl hbk hux lI hp kr qR hwc k8 k9 k10;go_wp2_with fail;refine bz (λ_ _=>True) (λL W=>if L 10=true then W=wc else W=wr.drew) [λv _=>v=UM US (p:Int),λv _=>v=UO (some ⟨wq.1.size,0,none⟩) N N,λv _=>v=UM US (p:Int),λv _=>v=UO (some ⟨wq.1.size,p,none⟩) (N-p) (N-p),λv _=>v=UQ (some ⟨bb,0,none⟩),λv _=>v=UM .u8 (s[k].toNat:Int),λv _=>v=UQ (some ⟨bb,0,none⟩),λv _=>v=UQ (some ⟨bb,0,none⟩),λv _=>v=UQ (some ⟨bb,s[k].toNat,none⟩),λv _=>v=UO (some ⟨g2,0,none⟩) t.size cap2,λv _=>v=UM US (t.size:Int),λv _=>v=UM US ((p:Int)+(t.size:Int)),λv _=>v=UM US ((p:Int)+(t.size:Int))] (λ_=>trivial) (λ_ _ _ _ _=>trivial) (by kernel_rfl) (by rfl) (by kernel_rfl) (by kernel_rfl) ?frA ?hfrA ?hIA ?hobA ?hendA
      case hfrA=>
       intro ρ;simp only[ch,Act.put,aq,al,ar,Nat.zero_add,Nat.reduceAdd];exact rfl
      case hIA=>simp
      case hobA=>
       refine aj.cons (λρ L W hR hI hL hD hO hF K hK=>?_) ?_
       ·have eo:ρ 12=UM US (p:Int):=hO 12 _ 13 rfl rfl (hD.not (p:=12) rfl (by decide) hL);clear hF hD hO hR;simp only[Act.put,aq,al,ar]at hK |-;rw[eo]at hK |-;go_simp;refine hK _ _ trivial (by simpa[au]using hI) (λ_ _=>?_);rfl
       refine aj.cons (λρ L W hR hI hL hD hO hF K hK=>?_) ?_
       ·clear hF hD hO hR;simp only[Act.put,aq,al,ar]at hK |-;go_simp;refine hK _ _ trivial (by simpa[au]using hI) (λ_ _=>?_);rfl
       refine aj.cons (λρ L W hR hI hL hD hO hF K hK=>?_) ?_
       ·have eo:ρ 12=UM US (p:Int):=hO 12 _ 13 rfl rfl (hD.not (p:=12) rfl (by decide) hL);clear hF hD hO hR;simp only[Act.put,aq,al,ar]at hK |-;rw[eo]at hK |-;go_simp;refine hK _ _ trivial (by simpa[au]using hI) (λ_ _=>?_);rfl
       refine aj.cons (λρ L W hR hI hL hD hO hF K hK=>?_) ?_
       ·have f1:=ag hF (j:=1) (by decide);have f2:=ag hF (j:=2) (by decide);clear hF hD hO hR;simp only[Act.put,aq,al,ar]at hK |-;have e1:ρ 1=UO (some ⟨wq.1.size,0,none⟩) N N:=f1;have e2:ρ 2=UM US (p:Int):=f2;rw[e1,e2]at hK |-;go_simp;refine hK _ _ trivial (by simpa[au]using hI) (λ_ _=>?_)
        first|rfl|rw[if_neg O3]
       refine aj.cons (λρ L W hR hI hL hD hO hF K hK=>?_) ?_
       ·clear hF hD hO hR;simp only[Act.put,aq,al,ar]at hK |-;go_simp;refine hK _ _ trivial (by simpa[au]using hI) (λ_ _=>?_);rfl
       refine aj.cons (λρ L W hR hI hL hD hO hF K hK=>?_) ?_
       ·clear hF hD hO hR;simp only[Act.put,aq,al,ar]at hK |-;go_simp;refine hK _ _ trivial (by simpa[au]using hI) (λ_ _=>?_);rfl
       refine aj.cons (λρ L W hR hI hL hD hO hF K hK=>?_) ?_
       ·have f4:=ag hF (j:=4) (by decide);clear hF hD hO hR;simp only[Act.put,aq,al,ar]at hK |-;have e4:ρ 4=UQ (some ⟨bb,0,none⟩):=f4;rw[e4]at hK |-;go_simp;refine hK _ _ trivial (by simpa[au]using hI) (λ_ _=>?_);rfl
       refine aj.cons (λρ L W hR hI hL hD hO hF K hK=>?_) ?_
       ·have f6:=ag hF (j:=6) (by decide);clear hF hD hO hR;simp only[Act.put,aq,al,ar]at hK |-;have e6:ρ 6=UQ (some ⟨bb,0,none⟩):=f6;rw[e6]at hK |-;go_simp;refine hK _ _ trivial (by simpa[au]using hI) (λ_ _=>?_);rfl
       refine aj.cons (λρ L W hR hI hL hD hO hF K hK=>?_) ?_
       ·have f5:=ag hF (j:=5) (by decide);have f7:=ag hF (j:=7) (by decide);clear hF hD hO hR;simp only[Act.put,aq,al,ar]at hK |-;have e5:ρ 5=UM .u8 (s[k].toNat:Int):=f5;have e7:ρ 7=UQ (some ⟨bb,0,none⟩):=f7;rw[e5,e7]at hK |-;go_simp;refine hK _ _ trivial (by simpa[au]using hI) (λ_ _=>?_);rfl
       refine aj.cons (λρ L W hR hI hL hD hO hF K hK=>?_) ?_
       ·have f8:=ag hF (j:=8) (by decide);have jJ:L 10=false:=hD.not (p:=10) rfl (by decide) hL;rw[if_neg (by rw[jJ];decide)]at hI;subst hI;clear hF hD hO hR;simp only[Act.put,aq,al,ar]at hK |-;have e8:ρ 8=UQ (some ⟨bb,s[k].toNat,none⟩):=f8;rw[e8]at hK |-;go_simp;refine hK _ _ trivial (by simp[au,jJ]) (λ_ _=>?_);rfl
       refine aj.cons (λρ L W hR hI hL hD hO hF K hK=>?_) ?_
       ·have f3:=ag hF (j:=3) (by decide);have f9:=ag hF (j:=9) (by decide);rw[if_neg (by rw[hL];decide)]at hI;subst hI;clear hF hD hO hR;simp only[Act.put,aq,al,ar]at hK |-;have e3:ρ 3=UO (some ⟨wq.1.size,p,none⟩) (N-p) (N-p):=f3;have e9:ρ 9=UO (some ⟨g2,0,none⟩) t.size cap2:=f9;rw[e3,e9]at hK |-;go_simp;refine hK _ _ trivial (by simp[au]) (λ_ _=>?_);rfl
       refine aj.cons (λρ L W hR hI hL hD hO hF K hK=>?_) ?_
       ·have f0:=ag hF (j:=0) (by decide);have f10:=ag hF (j:=10) (by decide);clear hF hD hO hR;simp only[Act.put,aq,al,ar]at hK |-;have e0:ρ 0=UM US (p:Int):=f0;have e10:ρ 10=UM US (t.size:Int):=f10;rw[e0,e10]at hK |-;go_simp;refine hK _ _ trivial (by simpa[au]using hI) (λ_ _=>?_)
        first|rfl|exact congrArg (UM US) (IntWalk.i64_in _ (by omega))
       refine aj.cons (λρ L W hR hI hL hD hO hF K hK=>?_) ?_
       ·have f11:=ag hF (j:=11) (by decide);clear hF hD hO hR;simp only[Act.put,aq,al,ar]at hK |-;have e11:ρ 11=UM US ((p:Int)+(t.size:Int)):=f11;rw[e11]at hK |-;go_simp;refine hK _ _ trivial (by simpa[au]using hI) (λ_ _=>?_);rfl
       exact aj.nil
      case hendA=>
       intro ρ L W hR hI hL hF;rw[if_pos (hL 10 (by decide))]at hI;subst hI;obtain⟨_,_,_,_,_,_,_,_,_,_,_,_,g12,_⟩:=hF;have g12:ρ 12=UM US ((p:Int)+(t.size:Int)):=g12;rw[g12];clear g12 hL hR;go_wp2;exact⟨⟨k+1,_,rest.drop t.size,congrArg (UM US) (by omega),by rw[HLEN.out];omega,by rw[Aa.out];exact congrArg (UM US) (by omega),HE.out.1,HE.out.2.2.2,HE.out.2.1,HE.out.2.2.1⟩,by simp[intOf];omega⟩
    obtain rfl:k=s.size:=by omega
    have htk:s.1.1.take s.size=s.1.1:=List.take_of_length_le (by rw[HLEN.out];omega);rw[htk]at hcl |-;have lI:cur.toList.length=N:=by simp[hcu]
    have vI:rest=[]:=by
     rw[hcl,List.length_append,bD,<-HN.out]at lI;exact List.eq_nil_of_length_eq_zero (by omega)
    rw[vI,List.append_nil]at hcl;have hcv:=vn wr wq.1.size N cur (s.1.1.flatMap (eS tb)) hbk hcl HN.out.symm;have zk:¬(s.size:Int)<s.size:=by omega
    clear hcl lI vI htk hbk yo;go_wp2;go_ret;exact⟨rfl,xL.out⟩
 have y1:¬(m:Int)*8<=(s.size:Int):=by omega
 go_enter Tryz.func269,Tryz.ntmps269;go_wp2_with fail;go_loopw [5,6,10] (λs5 s6 dZ wr=>Pb w tb s.1.1 s5 s6 dZ wr) (λ_ _ dZ _=>s.size+1-(intOf dZ).toNat)
 case atStart=>exact⟨0,rfl,by omega,by simp[ks,HLEN.out],rfl,ac.refl _⟩
 case round=>
  obtain⟨j,rfl,hj,hs5,rfl,hu⟩:=hrel;have HU:=aa hu;rw[HLEN.out]at hj
  by_cases hjm:j<s.size
  ·have zj:(j:Int)<s.size:=by omega
   have Of:s.1.1[j]'(by rw[HLEN.out];exact hjm)=s[j]:=by simp;rfl
   have hcs:=IV (tb:=tb) (l:=s.1.1) (k:=j) (by rw[HLEN.out];exact hjm);have gl:=Ar s.1.1 (λc=>(cr tb c).isSome) j (by rw[HLEN.out];exact hjm);rw[Of]at hcs gl;have hle:=D7 HZ.out (s.1.1.take j);rw[List.length_take,HLEN.out]at hle;obtain⟨P0,lh⟩:∃P0,P0=s.1.1.length+ks tb (s.1.1.take j):=⟨_,rfl⟩;rw[<-lh]at hs5;subst hs5;have S5:P0<=2000000000:=by rw[lh,HLEN.out];omega
   have eR:=HT.out.ai hu;obtain⟨_,cs2,k1,_,k3,k4,_⟩:=eR;haveI:af bb wr:=af.of (ae k1);have zl:(s[j].toNat:Int)<256:=by have:=j5 s[j];omega
   have tZ:=aa gl;generalize hb0:(s.1.1.take j).any (λc=>(cr tb c).isSome)=b0 at tZ;cases hlk:cr tb s[j]with
   | none=>
    have ca:wr.cell? ⟨bb,s[j].toNat,none⟩=some (UO none 0 0):=(ak k1 _).trans (k3 _ hlk);rw[wP hlk]at hcs;have Ab:=aa (show s.1.1.length+ks tb (s.1.1.take (j+1))=P0 by rw[hcs,lh];omega);have rW:=aa hlk;clear hcs gl hle k1 k3 k4 lh hlk Of;go_wp2;exact⟨⟨j+1,congrArg (UM US) (by omega),by rw[HLEN.out];omega,by rw[Ab.out],by rw[tZ.out,rW.out];simp,HU.out⟩,by simp[intOf];omega⟩
   | some t=>
    obtain⟨v2,k5,k6⟩:=k4 _ t hlk;obtain⟨g2,cap2,cb2,fr2,rfl,_,_,_,_⟩:=k6;have ca:wr.cell? ⟨bb,s[j].toNat,none⟩=some (UO (some ⟨g2,0,none⟩) t.size cap2):=(ak k1 _).trans k5;have hts:=(HZ.out _ (gO hlk)).1;have ur:=(HZ.out _ (gO hlk)).2;simp only at hts ur;rw[wQ hlk]at hcs;have Ab:=aa (show s.1.1.length+ks tb (s.1.1.take (j+1))=P0+(t.size-1)by rw[hcs,lh];omega);have rW:=aa hlk;clear hcs gl hle k1 k3 k4 k5 lh hlk Of;go_wp2;exact⟨⟨j+1,congrArg (UM US) (by omega),by rw[HLEN.out];omega,by rw[Ab.out];exact congrArg (UM US) (by omega),by rw[tZ.out,rW.out];simp,HU.out⟩,by simp[intOf];omega⟩
  obtain rfl:j=s.size:=by omega
  have htk:s.1.1.take s.size=s.1.1:=List.take_of_length_le (by rw[HLEN.out];omega);rw[htk]at hs5 |-;rw[HLEN.out,<-nl.out]at hs5;subst hs5
  have hno:(s.1.1.any λc=>(cr tb c).isSome)=false->s.1.1.flatMap (eS tb)=s.1.1:=by
   intro hf;refine x8 λc hc=>?_
   have:=List.any_eq_false.1 hf c hc
   simpa using this
  have kl:=aa hno;generalize(s.1.1.any λc=>(cr tb c).isSome)=b0 at kl |-;have zj:¬(s.size:Int)<s.size:=by omega
  clear htk hno hjm;cases b0
  ·have C5:=aa (kl.out rfl);clear kl;go_wp2;go_ret;refine⟨?_,HU.out⟩;rw[C5.out,be];rfl
  clear kl;obtain⟨cz,hmk,hcz⟩:=yA N (by omega);have J2:=hmk wr;have hb0:=heap_alloc_new wr (UT cz 5);have hu0:ac w (wr.alloc (UT cz 5)):=HU.out.alloc _;obtain⟨wq,hwq⟩:∃wq,wq=wr:=⟨_,rfl⟩;subst hwq;have rD:=aa hb0;have fU:=aa hu0;have Bd:=HU.out.size;clear hmk hb0 hu0;go_wp2_with fail;go_loopw [13,14] (λqu wi wr=>Ls w wq.1.size N tb s.1.1 qu wi wr) (λ_ wi _=>s.size+1-(intOf wi).toNat)
  case atStart=>exact⟨0,cz,cz.toList,rfl,by omega,rfl,rD.out,hcz,rfl,fU.out⟩
  case round=>
   clear rD fU J2;obtain⟨k,cur,rest,rfl,hk,rfl,hbk,hcu,hcl,hux⟩:=hrel;rw[HLEN.out]at hk;have xL:=aa hux;haveI:af wq.1.size wr:=af.of (ae hbk)
   by_cases yo:k<s.size
   ·have zk:(k:Int)<s.size:=by omega
    have AV:s.1.1[k]'(by rw[HLEN.out];exact yo)=s[k]:=by simp;rfl
    have hft:=ya (tb:=tb) (l:=s.1.1) (k:=k) (by rw[HLEN.out];exact yo);rw[AV]at hft;have kM:=Dq (tb:=tb) s.1.1 (k+1);rw[hft,List.length_append,<-HN.out]at kM;have eR:=HT.out.ai hux;obtain⟨_,cs2,k1,_,k3,k4,_⟩:=eR;haveI:af bb wr:=af.of (ae k1);have zl:(s[k].toNat:Int)<256:=by have:=j5 s[k];omega
    have nn:=aa hft;have lI:cur.toList.length=N:=by simp[hcu]
    obtain⟨p,hp⟩:∃p,p=((s.1.1.take k).flatMap (eS tb)).length:=⟨_,rfl⟩;rw[<-hp]at kM |-;have hrl:rest.length=N-p:=by rw[hcl,List.length_append,bD,<-hp]at lI;omega
    have HP:=aa hp;cases hlk:cr tb s[k]with
    | none=>
     have ca:wr.cell? ⟨bb,s[k].toNat,none⟩=some (UO none 0 0):=(ak k1 _).trans (k3 _ hlk);rw[ln hlk]at kM nn;simp only[List.length_singleton]at kM;have zp:(p:Int)<N:=by omega
     obtain⟨r0,rest',hre⟩:∃r0 rest',rest=r0 :: rest':=by
      cases rest with
      | nil=>simp at hrl;omega
      | cons a b=>exact⟨a,b,rfl⟩
     have cp:wr.cell? ⟨wq.1.size,p,none⟩=some r0:=by
      rw[ak hbk p,<-Array.getElem?_toList,hcl,List.getElem?_append_right (by rw[bD,hp];exact Nat.le_refl _),bD,<-hp,hre];simp
     have fp:wr.frozen? ⟨wq.1.size,p,none⟩=false:=bk hbk p;have hb2:=heap_setCell_same wr wq.1.size p _ _ (UM .u8 (s[k].toNat:Int)) hbk
     have hl2:(cur.setIfInBounds p (UM .u8 (s[k].toNat:Int))).toList=Lib.byteCells ((s.1.1.take (k+1)).flatMap (eS tb))++rest':=by
      rw[Array.toList_setIfInBounds,hcl,nn.out,oW,List.set_append_right _ _ (by rw[bD,hp];exact Nat.le_refl _),bD,<-hp,hre];simp[Lib.byteCells]
     have hu2:ac w (wr.setCell ⟨wq.1.size,p,none⟩ (UM .u8 (s[k].toNat:Int))):=hux.setCell (p:=⟨wq.1.size,p,none⟩) Bd _;have HE:=aa (And.intro hb2 (And.intro hl2 hu2));have Aa:=aa (show((s.1.1.take (k+1)).flatMap (eS tb)).length=p+1 by rw[nn.out,List.length_append,<-hp];rfl);clear hft kM k1 k3 k4 hlk AV hb2 hl2 hu2 hcl hbk hux lI hp;go_wp2;exact⟨⟨k+1,_,rest',congrArg (UM US) (by omega),by rw[HLEN.out];omega,by rw[Aa.out];exact congrArg (UM US) (by omega),HE.out.1,by simp[hcu],HE.out.2.1,HE.out.2.2⟩,by simp[intOf];omega⟩
    | some t=>
     obtain⟨v2,k5,k6⟩:=k4 _ t hlk;obtain⟨g2,cap2,cb2,fr2,rfl,_,k8,k9,k10⟩:=k6;have ca:wr.cell? ⟨bb,s[k].toNat,none⟩=some (UO (some ⟨g2,0,none⟩) t.size cap2):=(ak k1 _).trans k5;rw[tF hlk]at kM nn;rw[St.aC]at kM;have J6:=(HZ.out _ (gO hlk)).1;simp only at J6;have zp:(p:Int)<=N:=by omega
     have O3:¬N=p:=by omega
     have ur:=(HZ.out _ (gO hlk)).2;simp only at ur
     have qR:=run_copy_row (P:=Tryz.prog) wr.drew 22 22 3 5 wq.1.size p (N-p) (N-p) ⟨g2,0,none⟩ t.size cap2 cur 5 (Lib.byteCells t.1.1) Tryz.underlying22 (by kernel_rfl) hbk (by rw[bD,St.aC];exact(Nat.min_eq_left (by omega)).symm) (by
      intro j v hj
      have hjl:j<t.size:=by
       have:=(List.getElem?_eq_some_iff.1 hj).1
       rw[bD,St.aC]at this;exact this
      rw[show(⟨g2,0,none⟩:Addr).add j=⟨g2,j,none⟩by unfold Addr.add;split<;>simp_all];have hd:wr.drew.cell? ⟨g2,j,none⟩=wr.cell? ⟨g2,j,none⟩:=World.cell?_drew _ _;rw[hd,ak k9 j,k10 j hjl,<-hj];have ia:j<t.1.1.length:=by rw[St.aC];exact hjl
      have J1:t.data[j]?=some (t.data[j]'(by simpa using ia)):=Array.getElem?_eq_getElem _
      simp[Lib.byteCells,List.getD_eq_getElem?_getD,J1]) (by rw[bD,St.aC];omega) (by intro v hv;obtain⟨x,_,rfl⟩:=List.mem_map.1 hv;rfl)
     rw[bD,St.aC]at qR;have hb2:=setRow_heap wr.drew wq.1.size cur (cur.toList.take p++Lib.byteCells t.1.1++cur.toList.drop (p+t.size)).toArray 5 (0,0) hbk
     have hl2:cur.toList.take p++Lib.byteCells t.1.1++cur.toList.drop (p+t.size)=Lib.byteCells ((s.1.1.take (k+1)).flatMap (eS tb))++rest.drop t.size:=by
      rw[hcl,nn.out,oW,List.take_append_of_le_length (by rw[bD,<-hp];exact Nat.le_refl _),List.take_of_length_le (by rw[bD,<-hp];exact Nat.le_refl _),List.drop_append,List.drop_of_length_le (by rw[bD,<-hp];omega),bD,<-hp];simp
     have kr:(cur.toList.take p++Lib.byteCells t.1.1++cur.toList.drop (p+t.size)).toArray.size=N:=by
      simp[bD,hcu];omega
     obtain⟨wc,hwc⟩:∃wc,wr.drew.setRow wq.1.size (cur.toList.take p++Lib.byteCells t.1.1++cur.toList.drop (p+t.size)).toArray=wc:=⟨_,rfl⟩;have hu2:ac w wc:=by rw[<-hwc];exact ac.mk (below_setRow (hux.drew).below Bd _)
     rw[hwc]at qR hb2;have AS:(Builtin.copy_ #[22,22] 3 #[UO (some ⟨wq.1.size,p,none⟩) (N-p) (N-p),UO (some ⟨g2,0,none⟩) t.size cap2]).run Tryz.prog wr.drew=.ok (UM US (t.size:Int)) wc:=qR;have HE:=aa (And.intro hb2 (And.intro hl2 (And.intro hu2 kr)));have Aa:=aa (show((s.1.1.take (k+1)).flatMap (eS tb)).length=p+t.size by rw[nn.out,List.length_append,<-hp,St.aC]);have TM:(p:Int).toNat=p:=by omega
     clear hft k1 k3 k4 k5 hlk AV hb2 hl2 hu2 hcl hbk hux lI hp kr qR hwc k8 k9 k10;go_wp2_with fail;refine bz (λ_ _=>True) (λL W=>if L 10=true then W=wc else W=wr.drew) [λv _=>v=UM US (p:Int),λv _=>v=UO (some ⟨wq.1.size,0,none⟩) N N,λv _=>v=UM US (p:Int),λv _=>v=UO (some ⟨wq.1.size,p,none⟩) (N-p) (N-p),λv _=>v=UQ (some ⟨bb,0,none⟩),λv _=>v=UM .u8 (s[k].toNat:Int),λv _=>v=UQ (some ⟨bb,0,none⟩),λv _=>v=UQ (some ⟨bb,0,none⟩),λv _=>v=UQ (some ⟨bb,s[k].toNat,none⟩),λv _=>v=UO (some ⟨g2,0,none⟩) t.size cap2,λv _=>v=UM US (t.size:Int),λv _=>v=UM US ((p:Int)+(t.size:Int)),λv _=>v=UM US ((p:Int)+(t.size:Int))] (λ_=>trivial) (λ_ _ _ _ _=>trivial) (by kernel_rfl) (by rfl) (by kernel_rfl) (by kernel_rfl) ?frB ?hfrB ?hIB ?hobB ?hendB
     case hfrB=>
      intro ρ;simp only[ch,Act.put,aq,al,ar,Nat.zero_add,Nat.reduceAdd];exact rfl
     case hIB=>simp
     case hobB=>
      refine aj.cons (λρ L W hR hI hL hD hO hF K hK=>?_) ?_
      ·have eo:ρ 12=UM US (p:Int):=hO 12 _ 13 rfl rfl (hD.not (p:=12) rfl (by decide) hL);clear hF hD hO hR;simp only[Act.put,aq,al,ar]at hK |-;rw[eo]at hK |-;go_simp;refine hK _ _ trivial (by simpa[au]using hI) (λ_ _=>?_);rfl
      refine aj.cons (λρ L W hR hI hL hD hO hF K hK=>?_) ?_
      ·clear hF hD hO hR;simp only[Act.put,aq,al,ar]at hK |-;go_simp;refine hK _ _ trivial (by simpa[au]using hI) (λ_ _=>?_);rfl
      refine aj.cons (λρ L W hR hI hL hD hO hF K hK=>?_) ?_
      ·have eo:ρ 12=UM US (p:Int):=hO 12 _ 13 rfl rfl (hD.not (p:=12) rfl (by decide) hL);clear hF hD hO hR;simp only[Act.put,aq,al,ar]at hK |-;rw[eo]at hK |-;go_simp;refine hK _ _ trivial (by simpa[au]using hI) (λ_ _=>?_);rfl
      refine aj.cons (λρ L W hR hI hL hD hO hF K hK=>?_) ?_
      ·have f1:=ag hF (j:=1) (by decide);have f2:=ag hF (j:=2) (by decide);clear hF hD hO hR;simp only[Act.put,aq,al,ar]at hK |-;have e1:ρ 1=UO (some ⟨wq.1.size,0,none⟩) N N:=f1;have e2:ρ 2=UM US (p:Int):=f2;rw[e1,e2]at hK |-;go_simp;refine hK _ _ trivial (by simpa[au]using hI) (λ_ _=>?_)
       first|rfl|rw[if_neg O3]
      refine aj.cons (λρ L W hR hI hL hD hO hF K hK=>?_) ?_
      ·clear hF hD hO hR;simp only[Act.put,aq,al,ar]at hK |-;go_simp;refine hK _ _ trivial (by simpa[au]using hI) (λ_ _=>?_);rfl
      refine aj.cons (λρ L W hR hI hL hD hO hF K hK=>?_) ?_
      ·clear hF hD hO hR;simp only[Act.put,aq,al,ar]at hK |-;go_simp;refine hK _ _ trivial (by simpa[au]using hI) (λ_ _=>?_);rfl
      refine aj.cons (λρ L W hR hI hL hD hO hF K hK=>?_) ?_
      ·have f4:=ag hF (j:=4) (by decide);clear hF hD hO hR;simp only[Act.put,aq,al,ar]at hK |-;have e4:ρ 4=UQ (some ⟨bb,0,none⟩):=f4;rw[e4]at hK |-;go_simp;refine hK _ _ trivial (by simpa[au]using hI) (λ_ _=>?_);rfl
      refine aj.cons (λρ L W hR hI hL hD hO hF K hK=>?_) ?_
      ·have f6:=ag hF (j:=6) (by decide);clear hF hD hO hR;simp only[Act.put,aq,al,ar]at hK |-;have e6:ρ 6=UQ (some ⟨bb,0,none⟩):=f6;rw[e6]at hK |-;go_simp;refine hK _ _ trivial (by simpa[au]using hI) (λ_ _=>?_);rfl
      refine aj.cons (λρ L W hR hI hL hD hO hF K hK=>?_) ?_
      ·have f5:=ag hF (j:=5) (by decide);have f7:=ag hF (j:=7) (by decide);clear hF hD hO hR;simp only[Act.put,aq,al,ar]at hK |-;have e5:ρ 5=UM .u8 (s[k].toNat:Int):=f5;have e7:ρ 7=UQ (some ⟨bb,0,none⟩):=f7;rw[e5,e7]at hK |-;go_simp;refine hK _ _ trivial (by simpa[au]using hI) (λ_ _=>?_);rfl
      refine aj.cons (λρ L W hR hI hL hD hO hF K hK=>?_) ?_
      ·have f8:=ag hF (j:=8) (by decide);have jJ:L 10=false:=hD.not (p:=10) rfl (by decide) hL;rw[if_neg (by rw[jJ];decide)]at hI;subst hI;clear hF hD hO hR;simp only[Act.put,aq,al,ar]at hK |-;have e8:ρ 8=UQ (some ⟨bb,s[k].toNat,none⟩):=f8;rw[e8]at hK |-;go_simp;refine hK _ _ trivial (by simp[au,jJ]) (λ_ _=>?_);rfl
      refine aj.cons (λρ L W hR hI hL hD hO hF K hK=>?_) ?_
      ·have f3:=ag hF (j:=3) (by decide);have f9:=ag hF (j:=9) (by decide);rw[if_neg (by rw[hL];decide)]at hI;subst hI;clear hF hD hO hR;simp only[Act.put,aq,al,ar]at hK |-;have e3:ρ 3=UO (some ⟨wq.1.size,p,none⟩) (N-p) (N-p):=f3;have e9:ρ 9=UO (some ⟨g2,0,none⟩) t.size cap2:=f9;rw[e3,e9]at hK |-;go_simp;refine hK _ _ trivial (by simp[au]) (λ_ _=>?_);rfl
      refine aj.cons (λρ L W hR hI hL hD hO hF K hK=>?_) ?_
      ·have f0:=ag hF (j:=0) (by decide);have f10:=ag hF (j:=10) (by decide);clear hF hD hO hR;simp only[Act.put,aq,al,ar]at hK |-;have e0:ρ 0=UM US (p:Int):=f0;have e10:ρ 10=UM US (t.size:Int):=f10;rw[e0,e10]at hK |-;go_simp;refine hK _ _ trivial (by simpa[au]using hI) (λ_ _=>?_)
       first|rfl|exact congrArg (UM US) (IntWalk.i64_in _ (by omega))
      refine aj.cons (λρ L W hR hI hL hD hO hF K hK=>?_) ?_
      ·have f11:=ag hF (j:=11) (by decide);clear hF hD hO hR;simp only[Act.put,aq,al,ar]at hK |-;have e11:ρ 11=UM US ((p:Int)+(t.size:Int)):=f11;rw[e11]at hK |-;go_simp;refine hK _ _ trivial (by simpa[au]using hI) (λ_ _=>?_);rfl
      exact aj.nil
     case hendB=>
      intro ρ L W hR hI hL hF;rw[if_pos (hL 10 (by decide))]at hI;subst hI;obtain⟨_,_,_,_,_,_,_,_,_,_,_,_,g12,_⟩:=hF;have g12:ρ 12=UM US ((p:Int)+(t.size:Int)):=g12;rw[g12];clear g12 hL hR;go_wp2;exact⟨⟨k+1,_,rest.drop t.size,congrArg (UM US) (by omega),by rw[HLEN.out];omega,by rw[Aa.out];exact congrArg (UM US) (by omega),HE.out.1,HE.out.2.2.2,HE.out.2.1,HE.out.2.2.1⟩,by simp[intOf];omega⟩
   obtain rfl:k=s.size:=by omega
   have htk:s.1.1.take s.size=s.1.1:=List.take_of_length_le (by rw[HLEN.out];omega);rw[htk]at hcl |-;have lI:cur.toList.length=N:=by simp[hcu]
   have vI:rest=[]:=by
    rw[hcl,List.length_append,bD,<-HN.out]at lI;exact List.eq_nil_of_length_eq_zero (by omega)
   rw[vI,List.append_nil]at hcl;have hcv:=vn wr wq.1.size N cur (s.1.1.flatMap (eS tb)) hbk hcl HN.out.symm;have zk:¬(s.size:Int)<s.size:=by omega
   clear hcl lI vI htk hbk yo;go_wp2;go_ret;exact⟨rfl,xL.out⟩
end
section
theorem r9.sz{tb:List (UInt8 × ByteArray)}(h:r9 tb):wK tb.reverse:=λp hp=>h.2.2.1 p (List.mem_reverse.1 hp)
def gx(w:UY)(B rb:Nat)(tb:List (UInt8 × ByteArray)):Prop:=uc w B rb (dA tb)\/r6 w B rb tb
theorem gx.ai{a c:UY}{B rb:Nat}{tb:List (UInt8 × ByteArray)}(h:gx a B rb tb)(u:ac a c):gx c B rb tb:=h.imp (λh=>h.ai u) (λh=>h.ai u)
theorem gx.lt{w:UY}{B rb:Nat}{tb:List (UInt8 × ByteArray)}(h:gx w B rb tb):rb<w.1.size:=by
 rcases h with h|h
 ·obtain⟨_,v,h,_⟩:=h;exact ae h
 obtain⟨_,v,h,_⟩:=h;exact ae h
theorem pR(B rb:Nat)(tb:List (UInt8 × ByteArray))(s:ByteArray)(w:UY)(hR:gx w B rb tb)(hk:r9 tb)(hB:B<=w.1.size)(hs:s.size<=160000) :
  Calls Tryz.prog 74 #[UQ (some ⟨rb,0,none⟩),UN s] w λe w'=>e=UU (UN ⟨(s.1.1.flatMap (eS tb.reverse)).toArray⟩)/\r6 w' B rb tb/\Below B w w':=by
 have QM:Calls Tryz.prog 116 #[UQ (some ⟨rb,0,none⟩),.func (.func 117) #[UQ (some ⟨rb,0,none⟩)] #[]] w λe w'=>e=UU (UR #[])/\r6 w' B rb tb/\Below B w w':=by
  rcases hR with h|h
  ·exact CN B rb tb w h hk hB
  refine(FH B rb tb _ w h).mono ?_;rintro e w' ⟨rfl,rfl⟩;exact⟨rfl,h,Below.refl _ _⟩
 have P5:=aa QM;have HK:=aa hk;haveI:af rb w:=af.of hR.lt;have Dr:=aa hR;clear QM hk hR;go_enter Tryz.func74,Tryz.ntmps74;go_wp2_with fail;refine P5.out.mono ?_;rintro e w2 ⟨rfl,hRB,hbl⟩;have SD:=aa hRB;have cZ:=aa hbl;obtain⟨hBr,bb,h1,h2⟩:=hRB;have c1:w2.cell? ⟨rb,3,none⟩=some (.iface 241 (UQ (some ⟨bb,0,none⟩))):=ak h1 3;haveI:af rb w2:=af.of (ae h1);have hnd:(tb.reverse.map (·.1)).Nodup:=by rw[List.map_reverse];exact(List.reverse_perm _).nodup_iff.2 HK.out.2.2.2
 have Rv:=aa (MZ B bb tb.reverse s w2 h2 HK.out.sz (by rw[List.length_reverse];exact HK.out.2.1) hnd hs);clear hbl h1 h2 hnd P5;go_wp2_with fail;refine Rv.out.mono ?_;rintro e w3 ⟨rfl,hu⟩;have HU:=aa hu;clear hu;go_wp2;go_ret;exact⟨rfl,SD.out.ai HU.out,cZ.out.trans (HU.out.below.mono (Nat.le_trans hB cZ.out.size))⟩
end
