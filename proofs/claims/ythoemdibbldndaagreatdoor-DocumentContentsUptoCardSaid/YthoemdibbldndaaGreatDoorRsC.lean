/- The reference's element at the format of a resource: what it gives is St.resL. -/
import Derived.Test.YthoemdibbldndaaGreatDoorGH
import Derived.Test.YthoemdibbldndaaGreatDoorRsA
import Derived.BigQuiet
import Derived.Test.YthoemdibbldndaaGreatDoorRefUnit
set_option linter.unusedVariables false
set_option linter.unusedSimpArgs false
set_option maxHeartbeats 12800000
set_option maxRecDepth 20000
namespace Go.Proofs.YthoemdibbldndaaGreatDoor
open Go.RowKit
section
theorem res_ok:ElOk St.resL:=fun _ _ _ _ h=>St.res_len h
theorem ix6(W:World):(Instr.index 226 (.agg #[.string ⟨#[110,10]⟩,.string ⟨#[116,9]⟩,.string ⟨#[115,32]⟩,.string ⟨#[114,13]⟩,.string ⟨#[92,92]⟩,.string ⟨#[123,123]⟩]) (.int .i64 0)).run Tryz.prog W=.ok (.string ⟨#[110,10]⟩) W /\
  (Instr.index 226 (.agg #[.string ⟨#[110,10]⟩,.string ⟨#[116,9]⟩,.string ⟨#[115,32]⟩,.string ⟨#[114,13]⟩,.string ⟨#[92,92]⟩,.string ⟨#[123,123]⟩]) (.int .i64 1)).run Tryz.prog W=.ok (.string ⟨#[116,9]⟩) W /\
  (Instr.index 226 (.agg #[.string ⟨#[110,10]⟩,.string ⟨#[116,9]⟩,.string ⟨#[115,32]⟩,.string ⟨#[114,13]⟩,.string ⟨#[92,92]⟩,.string ⟨#[123,123]⟩]) (.int .i64 2)).run Tryz.prog W=.ok (.string ⟨#[115,32]⟩) W /\
  (Instr.index 226 (.agg #[.string ⟨#[110,10]⟩,.string ⟨#[116,9]⟩,.string ⟨#[115,32]⟩,.string ⟨#[114,13]⟩,.string ⟨#[92,92]⟩,.string ⟨#[123,123]⟩]) (.int .i64 3)).run Tryz.prog W=.ok (.string ⟨#[114,13]⟩) W /\
  (Instr.index 226 (.agg #[.string ⟨#[110,10]⟩,.string ⟨#[116,9]⟩,.string ⟨#[115,32]⟩,.string ⟨#[114,13]⟩,.string ⟨#[92,92]⟩,.string ⟨#[123,123]⟩]) (.int .i64 4)).run Tryz.prog W=.ok (.string ⟨#[92,92]⟩) W /\
  (Instr.index 226 (.agg #[.string ⟨#[110,10]⟩,.string ⟨#[116,9]⟩,.string ⟨#[115,32]⟩,.string ⟨#[114,13]⟩,.string ⟨#[92,92]⟩,.string ⟨#[123,123]⟩]) (.int .i64 5)).run Tryz.prog W=.ok (.string ⟨#[123,123]⟩) W:=by
 exact⟨by kernel_rfl,by kernel_rfl,by kernel_rfl,by kernel_rfl,by kernel_rfl,by kernel_rfl⟩
@[go_sem] theorem ba_lit0 (a b:UInt8) (h:0<(⟨#[a,b]⟩:ByteArray).size):(⟨#[a,b]⟩:ByteArray)[0]'h=a:=rfl
@[go_sem] theorem ba_lit1 (a b:UInt8) (h:1<(⟨#[a,b]⟩:ByteArray).size):(⟨#[a,b]⟩:ByteArray)[1]'h=b:=rfl
theorem drewN_alloc(w:World)(o:Obj)(n:Nat):(w.alloc o).drewN n=(w.drewN n).alloc o:=by
 induction n with
 | zero=>rfl
 | succ n ih=>show ((w.alloc o).drewN n).drew=_;rw[ih];rfl
theorem drewN_sz(w:World)(n:Nat):w.heap.size=(w.drewN n).heap.size:=by simp
namespace St
def escP:List (Nat × UInt8):=[(110,10),(116,9),(115,32),(114,13),(92,92),(123,123)]
def escF:List (Nat × UInt8)->UInt8->Option UInt8
 | [],_=>none
 | p :: r,d=>if d.toNat=p.1 then some p.2 else escF r d
theorem esc_eq(d:UInt8):escL d=escF escP d:=rfl
theorem escF_yes{p:Nat × UInt8}{r:List (Nat × UInt8)}{d:UInt8}(h:d.toNat=p.1):escF (p :: r) d=some p.2:=by rw[escF,if_pos h]
theorem escF_no{p:Nat × UInt8}{r:List (Nat × UInt8)}{d:UInt8}(h:d.toNat ≠ p.1):escF (p :: r) d=escF r d:=by rw[escF,if_neg h]
end St
def RkRel(w:World)(d:UInt8)(i:Value)(wr:World):Prop:=∃ k:Nat,i=.int .i64 k/\k<=6/\St.escL d=St.escF (St.escP.drop k) d/\∃ w0,w.heap.size=w0.heap.size/\Und w w0/\w0.alloc (.cells #[.int .i64 0,.string ⟨#[]⟩,.int .i64 0] 36)=wr
def RbRel(w:World)(s:ByteArray)(i:Value)(wr:World):Prop:=∃ k:Nat,i=.int .i64 k/\2<=k/\k<=s.size/\2+St.blkN (s.data.toList.drop 2)=k+St.blkN (s.data.toList.drop k)/\w=wr
theorem blk_no{c:UInt8}{r:List UInt8}(h:St.blkC c=false):St.blkN (c :: r)=0:=by unfold St.blkN;rw[List.takeWhile_cons_of_neg (by simp[h])];rfl
theorem blk_yes{c:UInt8}{r:List UInt8}(h:St.blkC c=true):St.blkN (c :: r)=1+St.blkN r:=by unfold St.blkN;rw[List.takeWhile_cons_of_pos h,List.length_cons];omega
theorem rres_any(s:ByteArray)(w:World)(hs:s.size<=4611686018427387904)(h0:1<=s.size) :
  Calls Tryz.prog 145 #[.string s] w fun e w'=>e=.returned (elV (St.resL s.data.toList))/\Und w w':=by
 have hcr:s.data.toList=s[0] :: s.data.toList.drop 1:=St.list_zero s (by omega);have z0:0<s.size:=by omega
 by_cases c10:s[0].toNat=10
 ·have hsl:=St.res_10 (r:=s.data.toList.drop 1) c10
  rw[<- hcr] at hsl;have HSL:=hid hsl;have e10:((s[0].toNat:Int)==10)=true:=by simp;omega
  clear hsl hcr c10;go_enter Tryz.func145,Tryz.ntmps145;go_wp2;refine bodyPost_ret (v:=elV none) (by simp[results,Tryz.results145,go_sem,elV]) rfl ⟨?_,(by apply_rules[uUe,uUa,uUb,uUc,uUd])⟩;rw[HSL.out];try rfl
 have e10:((s[0].toNat:Int)==10)=false:=by simp;omega
 by_cases c123:s[0].toNat=123
 ·have hsl:=St.res_123 (r:=s.data.toList.drop 1) c123
  rw[<- hcr] at hsl;have HSL:=hid hsl;have e123:((s[0].toNat:Int)==123)=true:=by simp;omega
  have hslot:=fun W=>slot_any s W hs h0
  obtain⟨k,x,m,hv⟩:=elV_form ((St.slotL s.data.toList).map fun x=>((5:Int),x.1,x.2));have HV:=hid hv;rw[hv] at hslot;have HS:=hid hslot;clear hsl hcr hslot hv c10 c123;go_enter Tryz.func145,Tryz.ntmps145;go_wp2_with (go_at_call 180;refine(HS.out _).mono ?_;rintro e w' ⟨rfl,X,rfl⟩);refine bodyPost_ret (v:=.tuple #[.agg #[.int .i64 k,.string x,.int .i64 0],.int .i64 m]) (by simp[results,Tryz.results145,go_sem]) rfl ⟨?_,(by apply_rules[uUe,uUa,uUb,uUc,uUd])⟩;rw[HSL.out,HV.out]
 have e123:((s[0].toNat:Int)==123)=false:=by simp;omega
 by_cases c92:s[0].toNat=92
 ·have e92:((s[0].toNat:Int)==92)=true:=by simp;omega
  by_cases z1:s.size=1
  ·have hnil:s.data.toList.drop 1=[]:=List.drop_of_length_le (by simp;omega)
   have hsl:=St.res_end c92;rw[hnil] at hcr;rw[<- hcr] at hsl;have HSL:=hid hsl;have y2:(s.size:Int)<2:=by omega
   clear hcr hnil hsl c10 c123 c92;go_enter Tryz.func145,Tryz.ntmps145;go_wp2;refine bodyPost_ret (v:=elV none) (by simp[results,Tryz.results145,go_sem,elV]) rfl ⟨?_,(by apply_rules[uUe,uUa,uUb,uUc,uUd])⟩;rw[HSL.out];try rfl
  have hs1:1<s.size:=by omega
  have hcr1:s.data.toList.drop 1=s[1] :: s.data.toList.drop 2:=St.drop_at s 1 hs1;have y1:(1:Int)<s.size:=by omega
  have y2:¬ (s.size:Int)<2:=by omega
  rw[hcr1] at hcr
  have hcont:s[1].toNat=10->St.resL s.data.toList=some (0,[],2+St.blkN (s.data.toList.drop 2)):=fun h=>by
   have:=St.res_cont (r:=s.data.toList.drop 2) c92 h
   rwa [<- hcr] at this
  have hesc:s[1].toNat ≠ 10->St.resL s.data.toList=(St.escL s[1]).map fun e=>(1,[e],2):=fun h=>by
   have:=St.res_esc (r:=s.data.toList.drop 2) c92 h
   rwa [<- hcr] at this
  have HCO:=hid hcont;have HES:=hid hesc;have htx:=hid (fun (c:UInt8) (m:Int) (hm:m=(c.toNat:Int)) W=>text_at c m hm W);clear hcr hcr1 hcont hesc c10 c123 c92;go_enter Tryz.func145,Tryz.ntmps145;go_wp2_with fail;go_loopw [25] (fun i wr=>RkRel w s[1] i wr) (fun i _=>7-(intOf i).toNat)
  case atStart=>exact⟨0,rfl,by omega,by rw[St.esc_eq];rfl,w,rfl,Und.refl _,rfl⟩
  case round=>
   obtain⟨k,rfl,hk,hesc,w0,hz,hu0,rfl⟩:=hrel;rw[hz];have HU0:=hid hu0;clear hu0;obtain⟨i0,i1,i2,i3,i4,i5⟩:=ix6 (w0.alloc (.cells #[.int .i64 0,.string ⟨#[]⟩,.int .i64 0] 36));rcases(show k=0∨k=1∨k=2∨k=3∨k=4∨k=5∨k=6 by omega) with rfl|rfl|rfl|rfl|rfl|rfl|rfl
   ·by_cases hq:s[1].toNat=110
    ·have e1:((s[1].toNat:Int)==110)=true:=by simp;omega
     have HR:=hid (show St.resL s.data.toList=some (1,[10],2) by rw[HES.out (by omega),hesc,show St.escF (St.escP.drop 0) s[1]=some 10 from St.escF_yes hq];rfl);clear hesc hq;go_wp2_with fail;go_quiet (fail);obtain⟨w1,hw1⟩:∃ w1,w0.drewN nq=w1:=⟨_,rfl⟩;have hz1:w0.heap.size=w1.heap.size:=by rw[<- hw1];exact drewN_sz _ _
     have HU1:Und w w1:=HU0.out.trans (by rw[<- hw1];exact(Und.refl w0).drewN _);rw[drewN_alloc,hw1,hz1];clear hw1 hz1;go_wp2_with (go_at_call 179;refine(htx.out 10 _ rfl _).mono ?_;rintro e w' ⟨rfl,X,rfl⟩);refine bodyPost_ret (v:=elV (some (1,[10],2))) (by simp[results,Tryz.results145,go_sem,elV,itv]) rfl ⟨?_,(by apply_rules[uUe,uUa,uUb,uUc,uUd])⟩;rw[HR.out]
    ·have e1:((s[1].toNat:Int)==110)=false:=by simp;omega
     have HR:=hid (hesc.trans (show St.escF (St.escP.drop 0) s[1]=St.escF (St.escP.drop 1) s[1] from St.escF_no hq));clear hesc hq;go_wp2_with fail;go_quiet (fail);obtain⟨w1,hw1⟩:∃ w1,w0.drewN nq=w1:=⟨_,rfl⟩;have hz1:w0.heap.size=w1.heap.size:=by rw[<- hw1];exact drewN_sz _ _
     have HU1:Und w w1:=HU0.out.trans (by rw[<- hw1];exact(Und.refl w0).drewN _);rw[drewN_alloc,hw1];clear hw1;go_wp2;exact⟨⟨1,rfl,by omega,HR.out,w1,hz.trans hz1,HU1,rfl⟩,by simp[intOf]⟩
   ·by_cases hq:s[1].toNat=116
    ·have e1:((s[1].toNat:Int)==116)=true:=by simp;omega
     have HR:=hid (show St.resL s.data.toList=some (1,[9],2) by rw[HES.out (by omega),hesc,show St.escF (St.escP.drop 1) s[1]=some 9 from St.escF_yes hq];rfl);clear hesc hq;go_wp2_with fail;go_quiet (fail);obtain⟨w1,hw1⟩:∃ w1,w0.drewN nq=w1:=⟨_,rfl⟩;have hz1:w0.heap.size=w1.heap.size:=by rw[<- hw1];exact drewN_sz _ _
     have HU1:Und w w1:=HU0.out.trans (by rw[<- hw1];exact(Und.refl w0).drewN _);rw[drewN_alloc,hw1,hz1];clear hw1 hz1;go_wp2_with (go_at_call 179;refine(htx.out 9 _ rfl _).mono ?_;rintro e w' ⟨rfl,X,rfl⟩);refine bodyPost_ret (v:=elV (some (1,[9],2))) (by simp[results,Tryz.results145,go_sem,elV,itv]) rfl ⟨?_,(by apply_rules[uUe,uUa,uUb,uUc,uUd])⟩;rw[HR.out]
    ·have e1:((s[1].toNat:Int)==116)=false:=by simp;omega
     have HR:=hid (hesc.trans (show St.escF (St.escP.drop 1) s[1]=St.escF (St.escP.drop 2) s[1] from St.escF_no hq));clear hesc hq;go_wp2_with fail;go_quiet (fail);obtain⟨w1,hw1⟩:∃ w1,w0.drewN nq=w1:=⟨_,rfl⟩;have hz1:w0.heap.size=w1.heap.size:=by rw[<- hw1];exact drewN_sz _ _
     have HU1:Und w w1:=HU0.out.trans (by rw[<- hw1];exact(Und.refl w0).drewN _);rw[drewN_alloc,hw1];clear hw1;go_wp2;exact⟨⟨2,rfl,by omega,HR.out,w1,hz.trans hz1,HU1,rfl⟩,by simp[intOf]⟩
   ·by_cases hq:s[1].toNat=115
    ·have e1:((s[1].toNat:Int)==115)=true:=by simp;omega
     have HR:=hid (show St.resL s.data.toList=some (1,[32],2) by rw[HES.out (by omega),hesc,show St.escF (St.escP.drop 2) s[1]=some 32 from St.escF_yes hq];rfl);clear hesc hq;go_wp2_with fail;go_quiet (fail);obtain⟨w1,hw1⟩:∃ w1,w0.drewN nq=w1:=⟨_,rfl⟩;have hz1:w0.heap.size=w1.heap.size:=by rw[<- hw1];exact drewN_sz _ _
     have HU1:Und w w1:=HU0.out.trans (by rw[<- hw1];exact(Und.refl w0).drewN _);rw[drewN_alloc,hw1,hz1];clear hw1 hz1;go_wp2_with (go_at_call 179;refine(htx.out 32 _ rfl _).mono ?_;rintro e w' ⟨rfl,X,rfl⟩);refine bodyPost_ret (v:=elV (some (1,[32],2))) (by simp[results,Tryz.results145,go_sem,elV,itv]) rfl ⟨?_,(by apply_rules[uUe,uUa,uUb,uUc,uUd])⟩;rw[HR.out]
    ·have e1:((s[1].toNat:Int)==115)=false:=by simp;omega
     have HR:=hid (hesc.trans (show St.escF (St.escP.drop 2) s[1]=St.escF (St.escP.drop 3) s[1] from St.escF_no hq));clear hesc hq;go_wp2_with fail;go_quiet (fail);obtain⟨w1,hw1⟩:∃ w1,w0.drewN nq=w1:=⟨_,rfl⟩;have hz1:w0.heap.size=w1.heap.size:=by rw[<- hw1];exact drewN_sz _ _
     have HU1:Und w w1:=HU0.out.trans (by rw[<- hw1];exact(Und.refl w0).drewN _);rw[drewN_alloc,hw1];clear hw1;go_wp2;exact⟨⟨3,rfl,by omega,HR.out,w1,hz.trans hz1,HU1,rfl⟩,by simp[intOf]⟩
   ·by_cases hq:s[1].toNat=114
    ·have e1:((s[1].toNat:Int)==114)=true:=by simp;omega
     have HR:=hid (show St.resL s.data.toList=some (1,[13],2) by rw[HES.out (by omega),hesc,show St.escF (St.escP.drop 3) s[1]=some 13 from St.escF_yes hq];rfl);clear hesc hq;go_wp2_with fail;go_quiet (fail);obtain⟨w1,hw1⟩:∃ w1,w0.drewN nq=w1:=⟨_,rfl⟩;have hz1:w0.heap.size=w1.heap.size:=by rw[<- hw1];exact drewN_sz _ _
     have HU1:Und w w1:=HU0.out.trans (by rw[<- hw1];exact(Und.refl w0).drewN _);rw[drewN_alloc,hw1,hz1];clear hw1 hz1;go_wp2_with (go_at_call 179;refine(htx.out 13 _ rfl _).mono ?_;rintro e w' ⟨rfl,X,rfl⟩);refine bodyPost_ret (v:=elV (some (1,[13],2))) (by simp[results,Tryz.results145,go_sem,elV,itv]) rfl ⟨?_,(by apply_rules[uUe,uUa,uUb,uUc,uUd])⟩;rw[HR.out]
    ·have e1:((s[1].toNat:Int)==114)=false:=by simp;omega
     have HR:=hid (hesc.trans (show St.escF (St.escP.drop 3) s[1]=St.escF (St.escP.drop 4) s[1] from St.escF_no hq));clear hesc hq;go_wp2_with fail;go_quiet (fail);obtain⟨w1,hw1⟩:∃ w1,w0.drewN nq=w1:=⟨_,rfl⟩;have hz1:w0.heap.size=w1.heap.size:=by rw[<- hw1];exact drewN_sz _ _
     have HU1:Und w w1:=HU0.out.trans (by rw[<- hw1];exact(Und.refl w0).drewN _);rw[drewN_alloc,hw1];clear hw1;go_wp2;exact⟨⟨4,rfl,by omega,HR.out,w1,hz.trans hz1,HU1,rfl⟩,by simp[intOf]⟩
   ·by_cases hq:s[1].toNat=92
    ·have e1:((s[1].toNat:Int)==92)=true:=by simp;omega
     have HR:=hid (show St.resL s.data.toList=some (1,[92],2) by rw[HES.out (by omega),hesc,show St.escF (St.escP.drop 4) s[1]=some 92 from St.escF_yes hq];rfl);clear hesc hq;go_wp2_with fail;go_quiet (fail);obtain⟨w1,hw1⟩:∃ w1,w0.drewN nq=w1:=⟨_,rfl⟩;have hz1:w0.heap.size=w1.heap.size:=by rw[<- hw1];exact drewN_sz _ _
     have HU1:Und w w1:=HU0.out.trans (by rw[<- hw1];exact(Und.refl w0).drewN _);rw[drewN_alloc,hw1,hz1];clear hw1 hz1;go_wp2_with (go_at_call 179;refine(htx.out 92 _ rfl _).mono ?_;rintro e w' ⟨rfl,X,rfl⟩);refine bodyPost_ret (v:=elV (some (1,[92],2))) (by simp[results,Tryz.results145,go_sem,elV,itv]) rfl ⟨?_,(by apply_rules[uUe,uUa,uUb,uUc,uUd])⟩;rw[HR.out]
    ·have e1:((s[1].toNat:Int)==92)=false:=by simp;omega
     have HR:=hid (hesc.trans (show St.escF (St.escP.drop 4) s[1]=St.escF (St.escP.drop 5) s[1] from St.escF_no hq));clear hesc hq;go_wp2_with fail;go_quiet (fail);obtain⟨w1,hw1⟩:∃ w1,w0.drewN nq=w1:=⟨_,rfl⟩;have hz1:w0.heap.size=w1.heap.size:=by rw[<- hw1];exact drewN_sz _ _
     have HU1:Und w w1:=HU0.out.trans (by rw[<- hw1];exact(Und.refl w0).drewN _);rw[drewN_alloc,hw1];clear hw1;go_wp2;exact⟨⟨5,rfl,by omega,HR.out,w1,hz.trans hz1,HU1,rfl⟩,by simp[intOf]⟩
   ·by_cases hq:s[1].toNat=123
    ·have e1:((s[1].toNat:Int)==123)=true:=by simp;omega
     have HR:=hid (show St.resL s.data.toList=some (1,[123],2) by rw[HES.out (by omega),hesc,show St.escF (St.escP.drop 5) s[1]=some 123 from St.escF_yes hq];rfl);clear hesc hq;go_wp2_with fail;go_quiet (fail);obtain⟨w1,hw1⟩:∃ w1,w0.drewN nq=w1:=⟨_,rfl⟩;have hz1:w0.heap.size=w1.heap.size:=by rw[<- hw1];exact drewN_sz _ _
     have HU1:Und w w1:=HU0.out.trans (by rw[<- hw1];exact(Und.refl w0).drewN _);rw[drewN_alloc,hw1,hz1];clear hw1 hz1;go_wp2_with (go_at_call 179;refine(htx.out 123 _ rfl _).mono ?_;rintro e w' ⟨rfl,X,rfl⟩);refine bodyPost_ret (v:=elV (some (1,[123],2))) (by simp[results,Tryz.results145,go_sem,elV,itv]) rfl ⟨?_,(by apply_rules[uUe,uUa,uUb,uUc,uUd])⟩;rw[HR.out]
    ·have e1:((s[1].toNat:Int)==123)=false:=by simp;omega
     have HR:=hid (hesc.trans (show St.escF (St.escP.drop 5) s[1]=St.escF (St.escP.drop 6) s[1] from St.escF_no hq));clear hesc hq;go_wp2_with fail;go_quiet (fail);obtain⟨w1,hw1⟩:∃ w1,w0.drewN nq=w1:=⟨_,rfl⟩;have hz1:w0.heap.size=w1.heap.size:=by rw[<- hw1];exact drewN_sz _ _
     have HU1:Und w w1:=HU0.out.trans (by rw[<- hw1];exact(Und.refl w0).drewN _);rw[drewN_alloc,hw1];clear hw1;go_wp2;exact⟨⟨6,rfl,by omega,HR.out,w1,hz.trans hz1,HU1,rfl⟩,by simp[intOf]⟩
   ·have hno:St.escL s[1]=none:=hesc
    by_cases d10:s[1].toNat=10
    ·have f10:((s[1].toNat:Int)==10)=true:=by simp;omega
     have g10:((s[1].toNat:Int) != 10)=false:=by simp;omega
     have HR:=hid (HCO.out d10);clear hesc hno d10;go_wp2_with fail;go_loopw [6] (fun i wr=>RbRel (w0.alloc (.cells #[.int .i64 0,.string ⟨#[]⟩,.int .i64 0] 36)) s i wr) (fun i _=>s.size+1-(intOf i).toNat)
     case atStart=>exact⟨2,rfl,by omega,by omega,rfl,rfl⟩
     case round=>
      obtain⟨k,rfl,hk1,hk2,hk3,rfl⟩:=hrel;have HK:=hid hk3;clear hk3
      by_cases hlt:k<s.size
      ·have z:(k:Int)<s.size:=by omega
       have hcons:=St.drop_at s k hlt
       by_cases b32:s[k].toNat=32
       ·have e32:((s[k].toNat:Int)==32)=true:=by simp;omega
        have HE:=hid (show 2+St.blkN (s.data.toList.drop 2)=k+1+St.blkN (s.data.toList.drop (k+1)) by rw[HK.out,hcons,blk_yes (decide_eq_true (Or.inl b32))];omega);clear hcons b32;go_wp2;exact⟨⟨k+1,congrArg (Value.int .i64) (by omega),by omega,by omega,HE.out,rfl⟩,by simp[intOf];omega⟩
       have e32:((s[k].toNat:Int)==32)=false:=by simp;omega
       by_cases b9:s[k].toNat=9
       ·have e9:((s[k].toNat:Int)==9)=true:=by simp;omega
        have HE:=hid (show 2+St.blkN (s.data.toList.drop 2)=k+1+St.blkN (s.data.toList.drop (k+1)) by rw[HK.out,hcons,blk_yes (decide_eq_true (Or.inr b9))];omega);clear hcons b32 b9;go_wp2;exact⟨⟨k+1,congrArg (Value.int .i64) (by omega),by omega,by omega,HE.out,rfl⟩,by simp[intOf];omega⟩
       have e9:((s[k].toNat:Int)==9)=false:=by simp;omega
       have HE:=hid (show 2+St.blkN (s.data.toList.drop 2)=k by rw[HK.out,hcons,blk_no (decide_eq_false (by omega))];omega);clear hcons b32 b9;go_wp2;refine bodyPost_ret (v:=elV (some (0,[],k))) (by simp[results,Tryz.results145,go_sem,elV,itv]) rfl ⟨?_,(by apply_rules[uUe,uUa,uUb,uUc,uUd])⟩;rw[HR.out,HE.out]
      ·obtain rfl:k=s.size:=by omega
       have HE:=hid (show 2+St.blkN (s.data.toList.drop 2)=s.size by rw[HK.out,List.drop_of_length_le (by simp)];rfl);clear hlt;go_wp2;refine bodyPost_ret (v:=elV (some (0,[],s.size))) (by simp[results,Tryz.results145,go_sem,elV,itv]) rfl ⟨?_,(by apply_rules[uUe,uUa,uUb,uUc,uUd])⟩;rw[HR.out,HE.out]
    ·have f10:((s[1].toNat:Int)==10)=false:=by simp;omega
     have g10:((s[1].toNat:Int) != 10)=true:=by simp;omega
     have HR:=hid (show St.resL s.data.toList=none by rw[HES.out d10,hno];rfl);clear hesc hno d10;go_wp2;refine bodyPost_ret (v:=elV none) (by simp[results,Tryz.results145,go_sem,elV]) rfl ⟨?_,(by apply_rules[uUe,uUa,uUb,uUc,uUd])⟩;rw[HR.out];try rfl
 ·have hsl:=St.res_else (r:=s.data.toList.drop 1) c10 c92 c123
  rw[<- hcr] at hsl;have HSL:=hid hsl;have e92:((s[0].toNat:Int)==92)=false:=by simp;omega
  have htx:=hid (fun W=>text_at s[0] (s[0].toNat:Int) rfl W);clear hsl hcr c10 c92 c123;go_enter Tryz.func145,Tryz.ntmps145;go_wp2_with (go_at_call 179;refine(htx.out _).mono ?_;rintro e w' ⟨rfl,X,rfl⟩);refine bodyPost_ret (v:=elV (some (1,[s[0]],1))) (by simp[results,Tryz.results145,go_sem,elV,itv]) rfl ⟨?_,(by apply_rules[uUe,uUa,uUb,uUc,uUd])⟩;rw[HSL.out];try rfl
theorem res_at:ElAt 2 St.resL:=by
 intro s w hs h0;obtain⟨k,x,m,hv⟩:=elV_form (St.resL s.data.toList);have hsh:=fun W=>rres_any s W hs h0
 rw[hv] at hsh;have HS:=hid hsh;have HV:=hid hv;clear hsh hv;go_enter Tryz.func104,Tryz.ntmps104;go_wp2_with (go_at_call 145;refine(HS.out _).mono ?_;rintro e w' ⟨rfl,X,rfl⟩);refine bodyPost_ret (v:=.tuple #[.agg #[.int .i64 k,.string x,.int .i64 0],.int .i64 m]) (by simp[results,Tryz.results104,go_sem]) rfl ⟨?_,(by apply_rules[uUe,uUa,uUb,uUc,uUd])⟩;rw[HV.out]
end
section
namespace St
theorem skip_blk{c:UInt8}{r:List UInt8}(h:blkC c=true):skipB (c :: r)=skipB r:=by unfold skipB;rw[List.dropWhile_cons_of_pos h]
theorem skip_non{c:UInt8}{r:List UInt8}(h:blkC c=false):skipB (c :: r)=decide (c.toNat=10∨c.toNat=35):=by unfold skipB;rw[List.dropWhile_cons_of_neg (by simp[h])]
end St
def OrRel(w:World)(d:ByteArray)(s6:Value)(wr:World):Prop:=
 ∃ (a fuel:Nat) (s:St.PS),s6=.int .i64 a/\a<=d.size+1/\d.size-a<fuel/\s.2<=a/\s.2<=d.size/\s.1.length<=2*a/\RV wr w.heap.size w.heap.size d s/\resT d=St.endR' d.data.toList (St.resS dE d.data.toList fuel a s)/\Und w wr
def BlRel(d:ByteArray)(a:Nat)(w:World)(s7:Value)(wr:World):Prop:=∃ k:Nat,s7=.int .i64 k/\a<=k/\k<=d.size/\St.skipB (d.data.toList.drop a)=St.skipB (d.data.toList.drop k)/\a+St.lineN (d.data.toList.drop a)=k+St.lineN (d.data.toList.drop k)/\w=wr
def KeRel(d:ByteArray)(a:Nat)(w:World)(s7:Value)(wr:World):Prop:=∃ k:Nat,s7=.int .i64 k/\a<=k/\k<=d.size/\k<=a+64/\St.keyN (d.data.toList.drop a)=(k-a)+St.keyN (d.data.toList.drop k)/\w=wr
theorem rsplitRes_any(d:ByteArray)(w:World)(hd:d.size<=65536):Calls Tryz.prog 102 #[.string d] w (SplitEnd (resT d) w):=by
 have hd63:d.size<=4611686018427387904:=by omega
 have hlen:=St.len_list d;have hR0:RV (w.alloc (.cells #[.string d,.slice none 0 0,.int .i64 0] 191)) w.heap.size w.heap.size d ([],0):=⟨Nat.le_refl _,.slice none 0 0,heap_alloc_new w _,World.ownsRow_nil _ _ _ _⟩
 have hS0:resT d=St.endR' d.data.toList (St.resS dE d.data.toList (d.size+1) 0 ([],0)):=by
  unfold resT;rw[St.splitR_ok (by omega),hlen]
 have HE0:=hid (And.intro hR0 hS0);have HLEN:=hid hlen;clear hR0 hS0 hlen;go_enter Tryz.func102,Tryz.ntmps102;go_wp2_with fail;go_loopw [6] (fun s6 wr=>OrRel w d s6 wr) (fun s6 _=>d.size+2-(intOf s6).toNat)
 case atStart=>exact⟨0,d.size+1,([],0),rfl,by omega,by omega,by simp,by simp,by simp,HE0.out.1,HE0.out.2,(by apply_rules[uUe,uUa,uUb,uUc,uUd])⟩
 case round=>
  obtain⟨a,fuel,s,rfl,ha,hfu,hs2,hs3,hs1,hP,hS,hu⟩:=hrel;have HP2:=hid hP;have HS:=hid hS;have HU2:=hid hu;have hsz:=hu.size;clear hS hu HE0
  by_cases hlt:a<d.size
  ·obtain⟨fuel,rfl⟩:∃ m,fuel=m+1:=⟨fuel-1,by omega⟩
   have HAL:=hid (show ¬ d.data.toList.length<=a by rw[HLEN.out];omega);have z:(a:Int)<d.size:=by omega
   clear hP;go_wp2_with fail;go_loopw [7] (fun s7 wx=>BlRel d a wr s7 wx) (fun s7 _=>d.size+1-(intOf s7).toNat)
   case atStart=>exact⟨a,rfl,by omega,by omega,rfl,rfl,rfl⟩
   case round=>
    obtain⟨k,rfl,hk1,hk2,hk3,hk4,rfl⟩:=hrel;have HK3:=hid hk3;have HK4:=hid hk4;clear hk3 hk4
    by_cases hkl:k<d.size
    ·have zk:(k:Int)<d.size:=by omega
     have zk2:¬ (d.size:Int)<=k:=by omega
     have hcons:=St.drop_at d k hkl
     by_cases b32:d[k].toNat=32
     ·have e32:((d[k].toNat:Int)==32)=true:=by simp;omega
      have HE:=hid (And.intro (show St.skipB (d.data.toList.drop a)=St.skipB (d.data.toList.drop (k+1)) by rw[HK3.out,hcons,St.skip_blk (decide_eq_true (Or.inl b32))]) (show a+St.lineN (d.data.toList.drop a)=k+1+St.lineN (d.data.toList.drop (k+1)) by rw[HK4.out,hcons,St.lineN_e (by omega)];omega));clear hcons b32;go_wp2;exact⟨⟨k+1,congrArg (Value.int .i64) (by omega),by omega,by omega,HE.out.1,HE.out.2,rfl⟩,by simp[intOf];omega⟩
     have e32:((d[k].toNat:Int)==32)=false:=by simp;omega
     by_cases b9:d[k].toNat=9
     ·have e9:((d[k].toNat:Int)==9)=true:=by simp;omega
      have HE:=hid (And.intro (show St.skipB (d.data.toList.drop a)=St.skipB (d.data.toList.drop (k+1)) by rw[HK3.out,hcons,St.skip_blk (decide_eq_true (Or.inr b9))]) (show a+St.lineN (d.data.toList.drop a)=k+1+St.lineN (d.data.toList.drop (k+1)) by rw[HK4.out,hcons,St.lineN_e (by omega)];omega));clear hcons b32 b9;go_wp2;exact⟨⟨k+1,congrArg (Value.int .i64) (by omega),by omega,by omega,HE.out.1,HE.out.2,rfl⟩,by simp[intOf];omega⟩
     have e9:((d[k].toNat:Int)==9)=false:=by simp;omega
     have hskv:St.skipB (d.data.toList.drop a)=decide (d[k].toNat=10∨d[k].toNat=35):=by rw[HK3.out,hcons,St.skip_non (decide_eq_false (by omega))]
     have HLN:=hid (fun W=>rline_any d k W hd63 (by omega))
     by_cases b10:d[k].toNat=10
     ·have e10:((d[k].toNat:Int)==10)=true:=by simp;omega
      have hst:=HS.out.trans (congrArg (St.endR' d.data.toList) (St.resS_skip (dE:=dE) (fuel:=fuel) (s:=s) HAL.out (by rw[hskv,decide_eq_true (Or.inl b10)])));rw[<- St.resS_min,HK4.out] at hst;have HST:=hid hst;have hll:k+St.lineN (d.data.toList.drop k)<=d.size:=by have:=St.lineN_le (d.data.toList.drop k);simp at this;omega
      generalize St.lineN (d.data.toList.drop k)=n at HST HLN hll;clear hcons b32 b9 b10 hskv hst;go_wp2_with (go_at_call 140;refine(HLN.out _).mono ?_;rintro e w' ⟨rfl,rfl⟩);exact⟨⟨k+n+1,fuel,s,congrArg (Value.int .i64) (by omega),by omega,by omega,by omega,by omega,by omega,HP2.out,HST.out,HU2.out⟩,by simp[intOf];omega⟩
     have e10:((d[k].toNat:Int)==10)=false:=by simp;omega
     by_cases b35:d[k].toNat=35
     ·have e35:((d[k].toNat:Int)==35)=true:=by simp;omega
      have hst:=HS.out.trans (congrArg (St.endR' d.data.toList) (St.resS_skip (dE:=dE) (fuel:=fuel) (s:=s) HAL.out (by rw[hskv,decide_eq_true (Or.inr b35)])));rw[<- St.resS_min,HK4.out] at hst;have HST:=hid hst;have hll:k+St.lineN (d.data.toList.drop k)<=d.size:=by have:=St.lineN_le (d.data.toList.drop k);simp at this;omega
      generalize St.lineN (d.data.toList.drop k)=n at HST HLN hll;clear hcons b32 b9 b10 b35 hskv hst;go_wp2_with (go_at_call 140;refine(HLN.out _).mono ?_;rintro e w' ⟨rfl,rfl⟩);exact⟨⟨k+n+1,fuel,s,congrArg (Value.int .i64) (by omega),by omega,by omega,by omega,by omega,by omega,HP2.out,HST.out,HU2.out⟩,by simp[intOf];omega⟩
     have e35:((d[k].toNat:Int)==35)=false:=by simp;omega
     have hsk:St.skipB (d.data.toList.drop a)=false:=by rw[hskv];exact decide_eq_false (by omega)
     have hbad:=fun h2=>St.resS_bad (dE:=dE) (fuel:=fuel) (s:=s) HAL.out hsk h2
     have hdup:=fun h2 h3=>St.resS_dup (dE:=dE) (fuel:=fuel) (s:=s) HAL.out hsk h2 h3
     have herr:=fun h2 h3 b t hb ht h4=>St.resS_err (dE:=dE) (fuel:=fuel) (s:=s) HAL.out hsk h2 h3 (b:=b) (t:=t) rfl hb ht h4
     have hunit:=fun h2 h3 b t hb ht h4=>St.resS_unit (dE:=dE) (fuel:=fuel) (s:=s) HAL.out hsk h2 h3 (b:=b) (t:=t) rfl hb ht h4
     have HBAD:=hid hbad;have HDUP:=hid hdup;have HERR:=hid herr;have HUNIT:=hid hunit;clear hcons b32 b9 b10 b35 hskv hsk hbad hdup herr hunit HLN HK3 HK4;go_wp2_with fail;go_loopw [7] (fun s7 wy=>KeRel d a wr s7 wy) (fun s7 _=>d.size+1-(intOf s7).toNat)
     case atStart=>exact⟨a,rfl,by omega,by omega,by omega,by simp,rfl⟩
     case round=>
      obtain⟨k,rfl,hk1,hk2,hk64,hk3,rfl⟩:=hrel;have HK:=hid hk3;clear hk3;obtain⟨_,v,hbk,hown⟩:=HP2.out;obtain⟨A,c,rfl,hAc,hc63'⟩:=own_slice hown;have hc63:c<=9223372036854775807:=by unfold maxLen at hc63';omega
      have g1:wr.cell? ⟨w.heap.size,1,none⟩=some (.slice A s.1.length c):=zcH hbk 1;haveI:LtW w.heap.size wr:=LtW.of (lt_of_heap hbk);have HPA:=hid (parts_own hown rfl);clear hbk hown
      by_cases hkl:k<d.size
      ·have zk:(k:Int)<d.size:=by omega
       have hcons:=St.drop_at d k hkl;have hkb:=fun W=>keyByte_any d[k] W
       by_cases k64:k=a+64
       ·have z64:¬ (k:Int)<(a:Int)+64:=by omega
        have q0:((k:Int)==(a:Int))=false:=by simp;omega
        have hka0:a<k:=by omega
        have HK64:=hid k64;clear k64;cases hkc:St.keyC d[k]
        ·have hkn:St.keyN (d.data.toList.drop a)=k-a:=by rw[HK.out,hcons,St.keyN_no hkc];omega
         clear hcons hkc hkb;have hk2:k<d.size:=hkl;have y1:¬ (d.size:Int)<=k:=by omega
         have y1':(k:Int)<d.size:=by omega
         have hcons:=St.drop_at d k hk2
         by_cases c61:d[k].toNat=61
         ·have e61:((d[k].toNat:Int)==61)=true:=by simp;omega
          have f61:((d[k].toNat:Int) != 61)=false:=by simp;omega
          have hgood:¬ (St.keyN (d.data.toList.drop a)=0∨64<St.keyN (d.data.toList.drop a)∨((d.data.toList.drop (a+St.keyN (d.data.toList.drop a))).head?.map UInt8.toNat) ≠ some 61):=by rw[hkn,show a+(k-a)=k by omega,hcons];simp;omega
          have hak:a+St.keyN (d.data.toList.drop a)=k:=by omega
          have hdup:=HDUP.out hgood;have herr:=HERR.out hgood;have hunit:=HUNIT.out hgood;rw[hak] at hdup herr hunit;obtain⟨ky,hkyE⟩:∃ ky,d.extract a k=ky:=⟨_,rfl⟩;have hkc:St.cutL d.data.toList a k=ky.data.toList:=by rw[<- hkyE,cut_list]
          rw[hkc] at hdup herr hunit;have y6:(a:Int)<=k:=by omega
          have y7:(k:Int)<=d.size:=by omega
          have HDU2:=hid hdup;have HER2:=hid herr;have HUN2:=hid hunit;clear hdup herr hunit hgood hkn hak hkc hcons c61;cases hin:St.hasK s.1 ky.data.toList with
          | true=>
           have hhk:=hid (fun (W:World) (h:PartsAt W A s.1)=>hasKey_any A s.1.length c s.1 ky W rfl hAc hc63 h);rw[hin] at hhk;have HR:=hid (HS.out.trans (congrArg (St.endR' d.data.toList) (HDU2.out hin)));clear hin
           go_wp2_with fail;refine(hhk.out _ HPA.out).mono ?_;rintro e w3 ⟨rfl,rfl⟩;go_wp2;go_ret3;exact SplitEnd.err HR.out HU2.out _ rfl
          | false=>
           have hhk:=hid (fun (W:World) (h:PartsAt W A s.1)=>hasKey_any A s.1.length c s.1 ky W rfl hAc hc63 h);rw[hin] at hhk;obtain⟨b,hb'⟩:∃ b,k+1=b:=⟨_,rfl⟩;have hen:=fun W=>rend2_any d b W hd63 (by omega)
           obtain⟨t,ht⟩:∃ t,b+St.endN (d.data.toList.drop b)=t:=⟨_,rfl⟩;have htl:t<=d.size:=by have:=St.endN_le (d.data.toList.drop b);simp at this;omega
           have hbt:b<=t:=by omega
           rw[ht] at hen;have h4e:=HER2.out hin b t hb' ht;have h4u:=HUN2.out hin b t hb' ht;obtain⟨x2,hx2⟩:∃ x2,d.extract b t=x2:=⟨_,rfl⟩;have hc2:St.cutL d.data.toList b t=x2.data.toList:=by rw[<- hx2,cut_list]
           rw[hc2,dE_of] at h4e h4u;have hx2s:x2.size<=d.size:=by rw[<- hx2];simp;omega
           have hdc:=fun W=>rdecode_any 2 St.resL res_at res_ok x2 W (by omega)
           have hwhere:=resD_at x2;have hrd:St.dec St.resL x2.size x2.data.toList 0 0 [] []=resD x2:=rfl;rw[hrd] at hdc;have hun:=fun W (hp:RV W w.heap.size w.heap.size d s) (hw:w.heap.size<=W.heap.size)=>runit_any W w.heap.size w.heap.size d ky s b t hp (by omega) hbt htl hd63 (by omega) hw
           have hbz:((b:Nat):Int)=(k:Int)+1:=by omega
           have HEN:=hid hen;have HH:=hid (And.intro h4e h4u);have HUN:=hid hun;have b1:(k:Int)+1<=(t:Int):=by omega
           have b2:(t:Int)<=d.size:=by omega
           have b3:((k:Int)+1).toNat=b:=by omega
           generalize resD x2=R at hdc HH hwhere;obtain⟨rf,rc,rw',re⟩:=R;simp only at HH hwhere;have HDC:=hid hdc;clear hin hen ht hc2 h4e h4u hdc hun hrd HDU2 HER2 HUN2;rw[hbz] at HEN HUN
           go_wp2_with fail;refine(hhk.out _ HPA.out).mono ?_;rintro e w4 ⟨rfl,rfl⟩;go_wp2_with fail;refine(HEN.out _).mono ?_;rintro e w5 ⟨rfl,rfl⟩;go_wp2_with fail;refine(HDC.out _).mono ?_;rintro e w6 ⟨v1,v2,rfl,_,_,hu6⟩;have HU6:=hid (HU2.out.trans hu6);have HP6:=hid (HP2.out.und hu6);have hsz6:=HU6.out.size;clear hu6 HDC
           by_cases hre:re=0
           ·subst hre
            go_wp2_with fail;refine(HUN.out _ HP6.out hsz6).mono ?_;rintro e w7 ⟨rfl,hp7,hbl7,_⟩;have HP7:=hid hp7;have HU7:=hid (Und.of_below (Below.trans HU6.out.below hbl7));have hst2:=HS.out.trans (congrArg (St.endR' d.data.toList) (HH.out.2 (by first|trivial|rfl)));rw[<- St.resS_min] at hst2;have HST:=hid hst2;clear hp7 hbl7 hst2 HUN HP6 HU6;go_wp2;exact⟨⟨t+1,fuel,_,congrArg (Value.int .i64) (by omega),by omega,by omega,by simp[St.unitS] <;> omega,by simp[St.unitS] <;> omega,by simp[St.unitS] <;> omega,HP7.out,HST.out,HU7.out⟩,by simp[intOf];omega⟩
           ·have hrb:(re==0)=false:=by simpa using hre
            have HR:=hid (HS.out.trans (congrArg (St.endR' d.data.toList) (HH.out.1 hre)));go_wp2;go_ret3;exact SplitEnd.err HR.out HU6.out _ (by omega)
         ·have e61:((d[k].toNat:Int)==61)=false:=by simp;omega
          have f61:((d[k].toNat:Int) != 61)=true:=by simp;omega
          have HR:=hid (HS.out.trans (congrArg (St.endR' d.data.toList) (HBAD.out (.inr (.inr (by rw[hkn,show a+(k-a)=k by omega,hcons];simp;omega))))));clear hcons c61 hkn
          go_wp2;go_ret3;exact SplitEnd.err HR.out HU2.out _ rfl
        ·have hkn:64<St.keyN (d.data.toList.drop a):=by rw[HK.out,hcons,St.keyN_yes hkc];have:=HK64.out;omega
         have HR:=hid (HS.out.trans (congrArg (St.endR' d.data.toList) (HBAD.out (.inr (.inl hkn)))))
         have hne:d[k].toNat ≠ 61:=by
          intro e;unfold St.keyC at hkc;have:=of_decide_eq_true hkc
          omega
         have y1:¬ (d.size:Int)<=k:=by omega
         have e61:((d[k].toNat:Int)==61)=false:=by simp;omega
         have f61:((d[k].toNat:Int) != 61)=true:=by simp;omega
         clear hcons hkc hkb hkn hne;go_wp2;go_ret3;exact SplitEnd.err HR.out HU2.out _ rfl
       ·have z64:(k:Int)<(a:Int)+64:=by omega
        have yw:¬ 9223372036854775807<a+64:=by omega
        cases hkc:St.keyC d[k]
        ·have hkn:St.keyN (d.data.toList.drop a)=k-a:=by rw[HK.out,hcons,St.keyN_no hkc];omega
         rw[hkc] at hkb;have HKB:=hid hkb;clear hcons hkc hkb
         by_cases hka:k=a
         ·subst hka
          have q0:((k:Int)==(k:Int))=true:=by simp
          have HR:=hid (HS.out.trans (congrArg (St.endR' d.data.toList) (HBAD.out (.inl (by omega)))));clear hkn;go_wp2_with (go_at_call 141;refine(HKB.out _).mono ?_;rintro e w' ⟨rfl,rfl⟩);go_ret3;exact SplitEnd.err HR.out HU2.out _ rfl
         have q0:((k:Int)==(a:Int))=false:=by simp;omega
         have hka0:a<k:=by omega
         have hk2:k<d.size:=hkl;have y1:¬ (d.size:Int)<=k:=by omega
         have y1':(k:Int)<d.size:=by omega
         have hcons:=St.drop_at d k hk2
         by_cases c61:d[k].toNat=61
         ·have e61:((d[k].toNat:Int)==61)=true:=by simp;omega
          have f61:((d[k].toNat:Int) != 61)=false:=by simp;omega
          have hgood:¬ (St.keyN (d.data.toList.drop a)=0∨64<St.keyN (d.data.toList.drop a)∨((d.data.toList.drop (a+St.keyN (d.data.toList.drop a))).head?.map UInt8.toNat) ≠ some 61):=by rw[hkn,show a+(k-a)=k by omega,hcons];simp;omega
          have hak:a+St.keyN (d.data.toList.drop a)=k:=by omega
          have hdup:=HDUP.out hgood;have herr:=HERR.out hgood;have hunit:=HUNIT.out hgood;rw[hak] at hdup herr hunit;obtain⟨ky,hkyE⟩:∃ ky,d.extract a k=ky:=⟨_,rfl⟩;have hkc:St.cutL d.data.toList a k=ky.data.toList:=by rw[<- hkyE,cut_list]
          rw[hkc] at hdup herr hunit;have y6:(a:Int)<=k:=by omega
          have y7:(k:Int)<=d.size:=by omega
          have HDU2:=hid hdup;have HER2:=hid herr;have HUN2:=hid hunit;clear hdup herr hunit hgood hkn hak hkc hcons c61;cases hin:St.hasK s.1 ky.data.toList with
          | true=>
           have hhk:=hid (fun (W:World) (h:PartsAt W A s.1)=>hasKey_any A s.1.length c s.1 ky W rfl hAc hc63 h);rw[hin] at hhk;have HR:=hid (HS.out.trans (congrArg (St.endR' d.data.toList) (HDU2.out hin)));clear hin;go_wp2_with fail;refine(HKB.out _).mono ?_;rintro e w' ⟨rfl,rfl⟩;go_wp2_with fail;refine(hhk.out _ HPA.out).mono ?_;rintro e w3 ⟨rfl,rfl⟩;go_wp2;go_ret3;exact SplitEnd.err HR.out HU2.out _ rfl
          | false=>
           have hhk:=hid (fun (W:World) (h:PartsAt W A s.1)=>hasKey_any A s.1.length c s.1 ky W rfl hAc hc63 h);rw[hin] at hhk;obtain⟨b,hb'⟩:∃ b,k+1=b:=⟨_,rfl⟩;have hen:=fun W=>rend2_any d b W hd63 (by omega)
           obtain⟨t,ht⟩:∃ t,b+St.endN (d.data.toList.drop b)=t:=⟨_,rfl⟩;have htl:t<=d.size:=by have:=St.endN_le (d.data.toList.drop b);simp at this;omega
           have hbt:b<=t:=by omega
           rw[ht] at hen;have h4e:=HER2.out hin b t hb' ht;have h4u:=HUN2.out hin b t hb' ht;obtain⟨x2,hx2⟩:∃ x2,d.extract b t=x2:=⟨_,rfl⟩;have hc2:St.cutL d.data.toList b t=x2.data.toList:=by rw[<- hx2,cut_list]
           rw[hc2,dE_of] at h4e h4u;have hx2s:x2.size<=d.size:=by rw[<- hx2];simp;omega
           have hdc:=fun W=>rdecode_any 2 St.resL res_at res_ok x2 W (by omega)
           have hwhere:=resD_at x2;have hrd:St.dec St.resL x2.size x2.data.toList 0 0 [] []=resD x2:=rfl;rw[hrd] at hdc;have hun:=fun W (hp:RV W w.heap.size w.heap.size d s) (hw:w.heap.size<=W.heap.size)=>runit_any W w.heap.size w.heap.size d ky s b t hp (by omega) hbt htl hd63 (by omega) hw
           have hbz:((b:Nat):Int)=(k:Int)+1:=by omega
           have HEN:=hid hen;have HH:=hid (And.intro h4e h4u);have HUN:=hid hun;have b1:(k:Int)+1<=(t:Int):=by omega
           have b2:(t:Int)<=d.size:=by omega
           have b3:((k:Int)+1).toNat=b:=by omega
           generalize resD x2=R at hdc HH hwhere;obtain⟨rf,rc,rw',re⟩:=R;simp only at HH hwhere;have HDC:=hid hdc;clear hin hen ht hc2 h4e h4u hdc hun hrd HDU2 HER2 HUN2;rw[hbz] at HEN HUN;go_wp2_with fail;refine(HKB.out _).mono ?_;rintro e w' ⟨rfl,rfl⟩;go_wp2_with fail;refine(hhk.out _ HPA.out).mono ?_;rintro e w4 ⟨rfl,rfl⟩;go_wp2_with fail;refine(HEN.out _).mono ?_;rintro e w5 ⟨rfl,rfl⟩;go_wp2_with fail;refine(HDC.out _).mono ?_;rintro e w6 ⟨v1,v2,rfl,_,_,hu6⟩;have HU6:=hid (HU2.out.trans hu6);have HP6:=hid (HP2.out.und hu6);have hsz6:=HU6.out.size;clear hu6 HDC
           by_cases hre:re=0
           ·subst hre
            go_wp2_with fail;refine(HUN.out _ HP6.out hsz6).mono ?_;rintro e w7 ⟨rfl,hp7,hbl7,_⟩;have HP7:=hid hp7;have HU7:=hid (Und.of_below (Below.trans HU6.out.below hbl7));have hst2:=HS.out.trans (congrArg (St.endR' d.data.toList) (HH.out.2 (by first|trivial|rfl)));rw[<- St.resS_min] at hst2;have HST:=hid hst2;clear hp7 hbl7 hst2 HUN HP6 HU6;go_wp2;exact⟨⟨t+1,fuel,_,congrArg (Value.int .i64) (by omega),by omega,by omega,by simp[St.unitS] <;> omega,by simp[St.unitS] <;> omega,by simp[St.unitS] <;> omega,HP7.out,HST.out,HU7.out⟩,by simp[intOf];omega⟩
           ·have hrb:(re==0)=false:=by simpa using hre
            have HR:=hid (HS.out.trans (congrArg (St.endR' d.data.toList) (HH.out.1 hre)));go_wp2;go_ret3;exact SplitEnd.err HR.out HU6.out _ (by omega)
         ·have e61:((d[k].toNat:Int)==61)=false:=by simp;omega
          have f61:((d[k].toNat:Int) != 61)=true:=by simp;omega
          have HR:=hid (HS.out.trans (congrArg (St.endR' d.data.toList) (HBAD.out (.inr (.inr (by rw[hkn,show a+(k-a)=k by omega,hcons];simp;omega))))));clear hcons c61 hkn;go_wp2_with fail;refine(HKB.out _).mono ?_;rintro e w' ⟨rfl,rfl⟩;go_wp2;go_ret3;exact SplitEnd.err HR.out HU2.out _ rfl
        ·have HE:=hid (show St.keyN (d.data.toList.drop a)=(k+1-a)+St.keyN (d.data.toList.drop (k+1)) by rw[HK.out,hcons,St.keyN_yes hkc];omega)
         rw[hkc] at hkb;have HKB:=hid hkb;clear hcons hkc hkb;go_wp2_with (go_at_call 141;refine(HKB.out _).mono ?_;rintro e w' ⟨rfl,rfl⟩);exact⟨⟨k+1,congrArg (Value.int .i64) (by omega),by omega,by omega,by omega,HE.out,rfl⟩,by simp[intOf];omega⟩
      ·have hke:k=d.size:=by omega
       have hkn:St.keyN (d.data.toList.drop a)=k-a:=by rw[HK.out,List.drop_of_length_le (by rw[HLEN.out];omega),St.keyN_nil];omega
       have zk:¬ (k:Int)<d.size:=by omega
       have q0:((k:Int)==(a:Int))=false:=by simp;omega
       have y1:(d.size:Int)<=k:=by omega
       have HR:=hid (HS.out.trans (congrArg (St.endR' d.data.toList) (HBAD.out (.inr (.inr (by rw[hkn,show a+(k-a)=k by omega,List.drop_of_length_le (by rw[HLEN.out];omega)];simp))))));clear hkn;go_wp2;go_ret3;exact SplitEnd.err HR.out HU2.out _ rfl
    ·have hke:k=d.size:=by omega
     have hnil:d.data.toList.drop k=[]:=List.drop_of_length_le (by rw[HLEN.out];omega);have zk:¬ (k:Int)<d.size:=by omega
     have zk2:(d.size:Int)<=k:=by omega
     have hst:=HS.out.trans (congrArg (St.endR' d.data.toList) (St.resS_skip (dE:=dE) (fuel:=fuel) (s:=s) HAL.out (by rw[HK3.out,hnil];rfl)));rw[<- St.resS_min,HK4.out] at hst;have HST:=hid hst;have HLN:=hid (fun W=>rline_any d k W hd63 (by omega));have hll:k+St.lineN (d.data.toList.drop k)<=d.size:=by rw[hnil];show k+0<=d.size;omega
     generalize St.lineN (d.data.toList.drop k)=n at HST HLN hll;clear hnil hst hke;go_wp2_with (go_at_call 140;refine(HLN.out _).mono ?_;rintro e w' ⟨rfl,rfl⟩);exact⟨⟨k+n+1,fuel,s,congrArg (Value.int .i64) (by omega),by omega,by omega,by omega,by omega,by omega,HP2.out,HST.out,HU2.out⟩,by simp[intOf];omega⟩
  ·have HL:=hid (rend_any wr w.heap.size w.heap.size d s hP hs3 hd63 (by omega) hsz)
   have HR:=hid (HS.out.trans (show St.endR' d.data.toList (St.resS dE d.data.toList fuel a s)=(St.endS d.data.toList s,0,0) by rw[St.resS_end (by rw[HLEN.out];omega)];rfl));have z:¬ (a:Int)<d.size:=by omega
   clear hP;go_wp2_with fail;refine HL.out.mono ?_;rintro e w3 ⟨A,c,rfl,hpa,hq1,hq2,hbl⟩;have HE:=hid (And.intro hpa (Und.of_below (Below.trans HU2.out.below hbl)));have hq1':=hid hq1;clear hpa hbl hq1 HL;go_wp2;go_ret3;unfold SplitEnd;rw[HR.out];exact⟨A,c,by simp[St.endS],HE.out.1,by simpa [St.endS] using hq1'.out,hq2,HE.out.2⟩
theorem rsplit_any(d:ByteArray)(w:World)(hd63:d.size<=4611686018427387904):Calls Tryz.prog 60 #[.int .i64 2,.string d] w (SplitEnd (resT d) w):=by
 by_cases hbig:65536<d.size
 ·have hR:resT d=([],0,3):=by unfold resT St.splitR;rw[if_pos (by rw[St.len_list];omega)]
  have HR:=hid hR;have hb:(65536:Int)<d.size:=by omega
  clear hR;go_enter Tryz.func60,Tryz.ntmps60;go_wp2;go_ret3;exact SplitEnd.err HR.out (Und.refl _) _ rfl
 ·have hb:¬ (65536:Int)<d.size:=by omega
  have HS:=hid (rsplitRes_any d w (by omega));go_enter Tryz.func60,Tryz.ntmps60;go_wp2_with fail;refine HS.out.mono ?_;rintro e w' ⟨A,c,rfl,hp,h1,h2,hu⟩;have HP:=hid hp;clear hp;go_wp2;go_ret3;exact⟨A,c,rfl,HP.out,h1,h2,hu⟩
end
end Go.Proofs.YthoemdibbldndaaGreatDoor
