/- The contract of segment.ends at one atom that takes one byte. -/
import Derived.Test.YtcfhfdphoidaeaaGreatDoorFnPt
set_option linter.unusedVariables false
set_option linter.unusedSimpArgs false
set_option linter.all false
namespace Go.Proofs.YtcfhfdphoidaeaaGreatDoor
open Go.RowKit
set_option maxRecDepth 20000
set_option maxHeartbeats 25600000
def RowV(w:World)(g m:Nat)(T:TypeId)(f:Nat->Value):Prop:=∃ cs:Array Value,w.heap[g]?=some (.cells cs T (0,0))/\cs.size=m/\∀ j,j<m->cs[j]?=some (f j)
section
variable {w w':World} {g m:Nat} {T:TypeId} {f f':Nat->Value}
theorem RowV.lt(h:RowV w g m T f):g<w.heap.size:=by obtain⟨_,h,_⟩:=h;exact lt_of_heap h
theorem RowV.und(h:RowV w g m T f)(u:Und w w'):RowV w' g m T f:=by
 obtain⟨cs,h1,h2⟩:=h;exact⟨cs,(u.below.block g (lt_of_heap h1)).trans h1,h2⟩
theorem RowV.cell(h:RowV w g m T f){j:Nat}(hj:j<m):w.cell? ⟨g,j,none⟩=some (f j):=by
 obtain⟨cs,h1,_,h3⟩:=h;rw[zcH h1 j];exact h3 j hj
theorem RowV.free(h:RowV w g m T f)(j:Nat):w.frozen? ⟨g,j,none⟩=false:=by
 obtain⟨cs,h1,_⟩:=h;exact zfH h1 j
theorem RowV.set(h:RowV w g m T f)(i:Nat)(v:Value)(hi:f' i=v)(ho:∀ j,j ≠ i->j<m->f' j=f j):RowV (w.setCell ⟨g,i,none⟩ v) g m T f':=by
 obtain⟨cs,h1,h2,h3⟩:=h;refine⟨_,heap_setCell_same w g i _ _ _ h1,by simp[h2],fun j hj=>?_⟩
 by_cases e:j=i
 ·subst e;rw[Array.getElem?_setIfInBounds_self_of_lt (by omega),hi]
 ·rw[Array.getElem?_setIfInBounds_ne (Ne.symm e),h3 j hj,ho j e hj]
theorem RowV.other(h:RowV w g m T f){b i:Nat}(v:Value)(hb:g ≠ b):RowV (w.setCell ⟨b,i,none⟩ v) g m T f:=by
 obtain⟨cs,h1,h2⟩:=h;exact⟨cs,(heap_set_other i hb v (lt_of_heap h1)).trans h1,h2⟩
theorem RowV.same(h:RowV w g m T f)(e:∀ j,j<m->f' j=f j):RowV w g m T f':=by
 obtain⟨cs,h1,h2,h3⟩:=h;exact⟨cs,h1,h2,fun j hj=>by rw[h3 j hj,e j hj]⟩
end
theorem info_bool:(Tryz.prog.info? 4).map (fun i=>(i.zero,i.size,i.bytes))=some (some (.bool false),1,1):=by kernel_rfl
theorem make_bools(m:Nat)(hm:m<=1000000):∃ cs:Array Value,(∀ W:World,(Instr.makeSlice 116 (.int .i64 ((m:Int)+1)) (.int .i64 ((m:Int)+1))).run Tryz.prog W=.ok (.slice (some ⟨W.heap.size,0,none⟩) (m+1) (m+1)) (W.alloc (.cells cs 4)))/\cs.size=m+1/\∀ j,j<m+1->cs[j]?=some (.bool false):=by
 obtain⟨i,hi,hz0,hz1,hz2⟩:=info_parts info_bool;refine⟨madeCells (Value.cells (.bool false)) ((m+1)*i.size),fun W=>?_,?_,fun j hj=>?_⟩
 ·have:=run_make (P:=Tryz.prog) W 116 4 i (.bool false) Tryz.underlying116 hi hz0 .i64 .i64 ((m:Int)+1) ((m:Int)+1) (by omega) (by omega) (by rw[hz2];omega) (by omega)
  have e:((m:Int)+1).toNat=m+1:=by omega
  rw[e] at this;exact this
 ·rw[size_madeCells,hz1,Nat.mul_one]
 ·rw[hz1,Nat.mul_one]
  have h:=toList_madeCells_one (.bool false) (m+1);rw[<- Array.getElem?_toList]
  show (madeCells #[.bool false] (m+1)).toList[j]?=_
  rw[h,List.getElem?_replicate,if_pos hj]
theorem setCells_at(T:TypeId):∀ (cs q p:List Value) (w:World),q.length=cs.length->(w.alloc (.cells (p++q).toArray T)).setCells w.heap.size p.length cs=w.alloc (.cells (p++cs).toArray T)
 | [],q,p,w,h=>by rw[List.length_eq_zero_iff.1 h];rfl
 | v :: cs,[],p,w,h=>by simp at h
 | v :: cs,x :: q,p,w,h=>by
  rw[World.setCells,World.setCell_alloc_at _ _ _ _ _ rfl];have e:(p++x :: q).toArray.setIfInBounds p.length v=((p++[v])++q).toArray:=by simp
  have:=setCells_at T cs q (p++[v]) w (by simpa using h)
  rw[e];simpa using this
theorem setCells_whole{T:TypeId}{w:World}{z:Array Value}{cs:List Value}(h:z.size=cs.length):(w.alloc (.cells z T)).setCells w.heap.size 0 cs=w.alloc (.cells cs.toArray T):=by
 have:=setCells_at T cs z.toList [] w (by simpa using h)
 simpa using this
def E1Rel(w:World)(n:Nat)(s17:Value)(wr:World):Prop:=
 ∃ k:Nat,k<=n+1/\s17=.int .i64 k/\RowV wr w.heap.size (n+1) 4 (fun j=>.bool (decide (j<k)))/\Und w wr
def endB(s:ByteArray)(f:UInt8->Bool)(j:Nat):Bool:=if h:0<j/\j-1<s.size then f s[j-1] else false
def E3Rel(cs:List Value)(f:UInt8->Bool)(w:World)(nb ab:Nat)(s:ByteArray)(s36:Value)(wr:World):Prop:=
 ∃ k:Nat,k<=s.size+1/\s36=.int .i64 k/\RowV wr nb (s.size+1) 4 (fun j=>.bool (if j<k then endB s f j else false))/\RowV wr w.heap.size (s.size+1) 4 (fun _=>.bool true) /\
  (∀ j v,cs[j]?=some v->wr.cell? ⟨ab,j,none⟩=some v)/\ab<wr.heap.size/\Und w wr
theorem endB_zero(s:ByteArray)(f:UInt8->Bool):endB s f 0=false:=by simp[endB]
theorem endB_succ(s:ByteArray)(f:UInt8->Bool)(j:Nat)(h:j<s.size):endB s f (j+1)=f s[j]:=by simp[endB,h]
theorem atom_alloc:∃ z:Array Value,z=zAtom/\∀ w:World,(Instr.alloc 122 true (.tuple #[])).run Tryz.prog w=.ok (.pointer (some ⟨w.heap.size,0,none⟩)) (w.alloc (.cells z 122)):=by
 obtain⟨i,hi,h1,h2,h3⟩:=info_parts info_atom2;refine⟨zAtom,rfl,fun w=>?_⟩
 have hz:(zeroValue 122).run Tryz.prog w=.ok (.agg zAtom) w:=by
  generalize zAtom=z at h1 ⊢;simp[zeroValue,typeInfo,hi,h1,Sem.run_bind]
 unfold Instr.alloc newVar newRow;simp only[Sem.run_bind,hz,Result.andThen_ok];rfl
theorem ends_any(cs:List Value)(hl:cs.length=34)(f:UInt8->Bool)(Pb kc:Nat)(s:ByteArray)(w:World)(hP:w.rangeAt Pb 0 cs)(h1:cs.all (·.oneCell')=true)(h32:cs[32]?=some (.int .i64 1))(h33:cs[33]?=some (.bool false))(hs:s.size<=100000)
  (hC:∀ x ∈ s.data.toList,∀ W,Calls Tryz.prog 171 #[.agg cs.toArray,.int .u8 (x.toNat:Int)] W fun e w'=>e=.returned (.bool (f x))/\Und W w') :
  Calls Tryz.prog 114 #[.slice (some ⟨Pb,0,none⟩) 1 kc,.string s] w fun e w'=>∃ b,e=.returned (.slice (some ⟨b,0,none⟩) (s.size+1) (s.size+1))/\w.heap.size<=b/\RowV w' b (s.size+1) 4 (fun j=>.bool (endB s f j))/\Und w w':=by
 obtain⟨cz,hmk,hcz,hzz⟩:=make_bools s.size (by omega);have HCZ:=hid hcz;have HZZ:=hid hzz;have HP:=hid hP;have HC:=hid hC;have H1:=hid h1;have H32:=hid h32;have H33:=hid h33;have HL:=hid hl;clear hcz hzz hP hC h1 h32 h33 hl;go_enter Tryz.func114,Tryz.ntmps114;go_wp2_with fail;go_loopw [17] (fun s17 wr=>E1Rel w s.size s17 wr) (fun s17 _=>s.size+2-(intOf s17).toNat)
 case atStart=>exact⟨0,by omega,rfl,⟨cz,heap_alloc_new w _,HCZ.out,fun j hj=>by rw[HZZ.out j hj];simp⟩,(Und.refl w).alloc _⟩
 case round=>
  obtain⟨k,hk,rfl,hrow,hu⟩:=hrel;have HU:=hid hu;have HR:=hid hrow
  by_cases hlt:k<s.size+1
  ·haveI:LtW w.heap.size wr:=LtW.of hrow.lt
   have z1:(k:Int)<(s.size:Int)+1:=by omega
   have x0:=hrow.cell hlt;have x1:=hrow.free k
   have HE:=hid (show E1Rel w s.size (.int .i64 ((k:Int)+1)) (wr.setCell ⟨w.heap.size,k,none⟩ (.bool true)) from
    ⟨k+1,by omega,congrArg (Value.int .i64) (by omega),hrow.set k (.bool true) (by simp) (fun j hj _=>by congr 1;simp only[decide_eq_decide];omega),RowAt.set_und hu (Nat.le_refl _) _ _⟩)
   clear hrow hu;go_wp2;exact⟨HE.out,by simp[intOf];omega⟩
  ·have hkn:k=s.size+1:=by omega
   subst hkn;clear hlt hrow hu;go_wp2_with fail;obtain⟨zA,hzA,HAL⟩:=atom_alloc;have HZA:=hid hzA;clear hzA;have HRT:=hid (HR.out.same (f':=fun _=>.bool true) fun j hj=>by simp[hj]);refine wp_loop_rounds 2 ?_;rw[rounds_succ];go_upto_region 9 with (fail);refine wp_region_list ?_;refine Great.wpList_readTo rfl _ rfl (.pointer (some ⟨Pb,0,none⟩)) (by go_simp) ?_;refine wpList_load_mid rfl 122 _ rfl Pb 0 rfl cs _ ?r1 Tryz.underlying122 rfl (by rw[info_atom,HL.out]) ?_
   case r1=>exact fun j v hv=>(HU.out.cell (p:=⟨Pb,0+j,none⟩) (zbL _ _ (HP.out j v hv))).trans (HP.out j v hv)
   refine Great.wpList_allocTo rfl _ rfl (.pointer (some ⟨wr.heap.size,0,none⟩)) (.cells zA 122) (by unfold execOp;simp only[Sem.run_bind,HAL wr,Result.andThen_ok,Sem.run_pure]) ?_;refine wpList_store_mid rfl 122 _ _ rfl wr.heap.size 0 cs.toArray rfl rfl ?t1 (by rw[info_atom];simp[HL.out]) (by simpa using H1.out) ?_
   case t1=>
    intro j hj;rw[Nat.zero_add,World.cell?_alloc_new,World.frozen?_alloc_new];have hj2:j<34:=by simpa [HL.out] using hj
    have:j<zA.size:=by rw[HZA.out];exact hj2
    exact⟨by simp[this],rfl⟩
   rw[setCells_whole (by rw[HZA.out,HL.out];rfl)]
   have xa:∀ j v,cs[j]?=some v->(wr.alloc (.cells cs.toArray 122)).cell? ⟨wr.heap.size,j,none⟩=some v:=fun j v hv=>by
    rw[World.cell?_alloc_new,List.getElem?_toArray];exact hv
   have HXA:=hid xa;have HU1:=hid (HU.out.alloc (.cells cs.toArray 122));have HRT1:=hid (HRT.out.und ((Und.refl wr).alloc (.cells cs.toArray 122)));have HSZ:=hid (show w.heap.size<wr.heap.size from HR.out.lt);have HSZ1:=hid (show wr.heap.size<(wr.alloc (.cells cs.toArray 122)).heap.size by simp);simp only[Act.put,zsA,zsB,zsC];clear xa HAL;obtain⟨ab,hab⟩:∃ ab,wr.heap.size=ab:=⟨_,rfl⟩;rw[hab] at HXA HSZ HSZ1 ⊢;generalize wr.alloc (.cells cs.toArray 122)=W1 at HXA HU1 HRT1 HSZ1 ⊢;clear hab HU HR HRT HP HZA;go_upto_region 11 with (fail);obtain⟨nb,hnb⟩:∃ nb,W1.heap.size=nb:=⟨_,rfl⟩;rw[hnb] at HSZ1 ⊢
   have hW2:E3Rel cs f w nb ab s (.int .i64 (0:Nat)) (W1.alloc (.cells cz 4)):=by
    refine⟨0,by omega,rfl,⟨cz,?_,HCZ.out,fun j hj=>by rw[HZZ.out j hj];simp⟩,HRT1.out.und ((Und.refl _).alloc _),fun j v hv=>?_,?_,HU1.out.alloc _⟩
    ·rw[<- hnb];exact heap_alloc_new _ _
    ·exact(((Und.refl W1).alloc (.cells cz 4)).cell (p:=⟨ab,j,none⟩) (zbL _ _ (HXA.out j v hv))).trans (HXA.out j v hv)
    ·have:=HSZ1.out;simp;omega
   have HW2:=hid hW2;clear hW2;generalize W1.alloc (.cells cz 4)=W2 at HW2 ⊢;clear HXA HU1 HRT1 hnb HCZ HZZ hmk W1;go_wp2_with fail;go_loopw [36] (fun s36 wr=>E3Rel cs f w nb ab s s36 wr) (fun s36 _=>s.size+2-(intOf s36).toNat)
   case atStart=>exact HW2.out
   case round=>
    clear HW2;obtain⟨k,hk,rfl,hr1,hr2,hxa,hab,hu⟩:=hrel;have HU:=hid hu;have HR1:=hid hr1;have HR2:=hid hr2;have HXA:=hid hxa;have HAB:=hid hab
    by_cases hlt:k<s.size+1
    ·haveI:LtW w.heap.size wr:=LtW.of hr2.lt
     haveI:LtW nb wr:=LtW.of hr1.lt;haveI:LtW ab wr:=LtW.of hab;have z1:(k:Int)<(s.size:Int)+1:=by omega
     have x0:=hr1.cell hlt;have x1:=hr1.free k;have y1:=hxa 32 _ H32.out;have hne:w.heap.size ≠ nb:=by have:=HSZ.out;have:=HSZ1.out;omega
     have hne2:ab ≠ nb:=by have:=HSZ1.out;omega
     have q1:RowV (wr.setCell ⟨nb,k,none⟩ (.bool false)) nb (s.size+1) 4 (fun j=>.bool (if j<k then endB s f j else false)):=hr1.set k (.bool false) (by simp) (fun _ _ _=>rfl);have q2:RowV (wr.setCell ⟨nb,k,none⟩ (.bool false)) w.heap.size (s.size+1) 4 (fun _=>.bool true):=hr2.other _ hne;have q3:∀ j v,cs[j]?=some v->(wr.setCell ⟨nb,k,none⟩ (.bool false)).cell? ⟨ab,j,none⟩=some v:=fun j v hv=>by rw[set_ne _ hne2];exact hxa j v hv
     have q4:Und w (wr.setCell ⟨nb,k,none⟩ (.bool false)):=RowAt.set_und hu (by have:=HSZ.out;have:=HSZ1.out;omega) _ _;have q5:ab<(wr.setCell ⟨nb,k,none⟩ (.bool false)).heap.size:=by simpa using hab
     have HQ1:=hid q1;have HQ2:=hid q2;have HQ3:=hid q3;have HQ4:=hid q4;have HQ5:=hid q5;clear hr1 hr2 hxa hab hu q1 q2 q3 q4 q5 HU HR1 HR2 HXA HAB hne hne2;go_upto_region 15 with (fail);have hsz3:(wr.setCell ⟨nb,k,none⟩ (.bool false)).heap.size=wr.heap.size:=by simp
     generalize wr.setCell ⟨nb,k,none⟩ (.bool false)=W3 at HQ1 HQ2 HQ3 HQ4 HQ5 hsz3 ⊢;clear x0 x1 y1;haveI:LtW w.heap.size W3:=LtW.of HQ2.out.lt;haveI:LtW nb W3:=LtW.of HQ1.out.lt;haveI:LtW ab W3:=LtW.of HQ5.out;rcases k with _|j
     ·have HE:=hid (fun X=>(show E3Rel cs f w nb ab s (.int .i64 (((0:Nat):Int)+1)) (under W3 X) from
       ⟨1,by omega,rfl,(HQ1.out.und ((Und.refl W3).under X)).same (fun i hi=>by
        by_cases e:i=0
        ·subst e;simp[endB_zero]
        ·rw[if_neg (by omega),if_neg (by omega)]),HQ2.out.und ((Und.refl W3).under X),fun j v hv=>(((Und.refl W3).under X).cell (p:=⟨ab,j,none⟩) HQ5.out).trans (HQ3.out j v hv),Nat.lt_of_lt_of_le HQ5.out (Und.size ((Und.refl W3).under X)),HQ4.out.under X⟩))
      first|refine wp_region_under2 (by kernel_rfl) (by kernel_rfl) ?_|refine wp_region_under (by kernel_rfl) (by kernel_rfl) ?_
      repeat (go_big_quiet_step (first|(fail)))
      refine wpQuiet_nil ?_;rintro _ ⟨X,rfl⟩;go_wp2;exact⟨HE.out X,by simp[intOf] <;> omega⟩
     ·have zj:((j+1:Nat):Int)-1=(j:Int):=by omega
      have zk:(0:Int)<((j+1:Nat):Int):=by omega
      have hj:j<s.size:=by omega
      have c0:=HQ2.out.cell (j:=j) (by omega)
      have hld:∀ X,(Instr.loadAt 122 (.pointer (some ⟨ab,0,none⟩))).run Tryz.prog (under W3 X)=.ok (.agg cs.toArray) (under W3 X):=fun X=>
       run_loadAt_mid _ ab 0 _ cs _ (fun j v hv=>by rw[Nat.zero_add];exact(((Und.refl W3).under X).cell (p:=⟨ab,j,none⟩) HQ5.out).trans (HQ3.out j v hv)) Tryz.underlying122 rfl (by rw[info_atom,HL.out])
      have hcn:=HC.out s[j] (Array.mem_toList_iff.2 (Array.getElem_mem (show j<s.data.size from hj)));have HLD:=hid hld;have hes:=endB_succ s f j hj;clear hld;cases hfx:f s[j] with
      | true=>
       rw[hfx] at hcn hes;have x0:=HQ1.out.cell (j:=j+1) hlt;have x1:=HQ1.out.free (j+1)
       have HE:=hid (fun X=>(show E3Rel cs f w nb ab s (.int .i64 ((j:Int)+1+1)) ((under W3 X).setCell ⟨nb,j+1,none⟩ (.bool true)) from
        ⟨j+2,by omega,congrArg (Value.int .i64) (by omega),(HQ1.out.und ((Und.refl W3).under X)).set (j+1) (.bool true) (by simp[hes]) (fun i hi _=>by
         by_cases e:i<j+1
         ·rw[if_pos (by omega),if_pos e]
         ·rw[if_neg (by omega),if_neg e]),(HQ2.out.und ((Und.refl W3).under X)).other _ (by have:=HSZ.out;have:=HSZ1.out;omega),fun i v hv=>by
          rw[set_ne _ (by have:=HSZ1.out;omega)];exact(((Und.refl W3).under X).cell (p:=⟨ab,i,none⟩) HQ5.out).trans (HQ3.out i v hv),by have h5:=Nat.lt_of_lt_of_le HQ5.out (Und.size ((Und.refl W3).under X));simpa using h5,RowAt.set_und (HQ4.out.under X) (by have:=HSZ.out;have:=HSZ1.out;omega) _ _⟩))
       clear hfx hes;refine wp_region_under (by kernel_rfl) (by kernel_rfl) ?_
       repeat (go_big_quiet_step ((go_at_call 171;exact Calls.under_of (hcn _))))
       go_big_quiet_want;refine⟨.agg cs.toArray,?_,?_⟩
       ·rintro W ⟨X,rfl⟩
        have h:=HLD.out X;unfold Oper.quietAt execOp
        show Oper.quietUpon _ _ _ _ (Sem.run _ (Instr.loadAt _ (.pointer (some ⟨ab,0,none⟩)) >>= _) _)
        rw[Sem.run_bind,h];exact⟨rfl,rfl⟩
       simp only[Act.put,zsA,zsB,zsC];go_big_quiet_on
       repeat (go_big_quiet_step ((go_at_call 171;exact Calls.under_of (hcn _))))
       refine wpQuiet_nil ?_;rintro _ ⟨X,rfl⟩;clear hcn;go_wp2;exact⟨by have h:=HE.out X;rw[setCell_under _ _ _ _ _ HQ1.out.lt] at h;exact h,by simp[intOf] <;> omega⟩
      | false=>
       rw[hfx] at hcn hes
       have HE:=hid (fun X=>(show E3Rel cs f w nb ab s (.int .i64 (((j+1:Nat):Int)+1)) (under W3 X) from
        ⟨j+2,by omega,congrArg (Value.int .i64) (by omega),(HQ1.out.und ((Und.refl W3).under X)).same (fun i hi=>by
         by_cases e:i=j+1
         ·subst e;simp[hes]
         ·by_cases e2:i<j+1
          ·rw[if_pos (by omega),if_pos e2]
          ·rw[if_neg (by omega),if_neg e2]),HQ2.out.und ((Und.refl W3).under X),fun i v hv=>(((Und.refl W3).under X).cell (p:=⟨ab,i,none⟩) HQ5.out).trans (HQ3.out i v hv),Nat.lt_of_lt_of_le HQ5.out (Und.size ((Und.refl W3).under X)),HQ4.out.under X⟩))
       clear hfx hes;refine wp_region_under (by kernel_rfl) (by kernel_rfl) ?_
       repeat (go_big_quiet_step ((go_at_call 171;exact Calls.under_of (hcn _))))
       go_big_quiet_want;refine⟨.agg cs.toArray,?_,?_⟩
       ·rintro W ⟨X,rfl⟩
        have h:=HLD.out X;unfold Oper.quietAt execOp
        show Oper.quietUpon _ _ _ _ (Sem.run _ (Instr.loadAt _ (.pointer (some ⟨ab,0,none⟩)) >>= _) _)
        rw[Sem.run_bind,h];exact⟨rfl,rfl⟩
       simp only[Act.put,zsA,zsB,zsC];go_big_quiet_on
       repeat (go_big_quiet_step ((go_at_call 171;exact Calls.under_of (hcn _))))
       refine wpQuiet_nil ?_;rintro _ ⟨X,rfl⟩;clear hcn;go_wp2;exact⟨HE.out X,by simp[intOf] <;> omega⟩
    ·have hkn:k=s.size+1:=by omega
     subst hkn;have HF:=hid (HR1.out.same (f':=fun j=>.bool (endB s f j)) fun j hj=>by rw[if_pos hj]);clear hr1 hr2 hxa hab hu HR1 HR2 HXA HAB;go_wp2_with fail;rw[rounds_succ];go_wp2;go_ret;exact⟨nb,rfl,by have:=HSZ.out;have:=HSZ1.out;omega,HF.out,HU.out⟩
end Go.Proofs.YtcfhfdphoidaeaaGreatDoor
set_option linter.all false
namespace Go.Proofs.YtcfhfdphoidaeaaGreatDoor
open Go.RowKit
set_option maxRecDepth 20000
set_option maxHeartbeats 25600000
theorem rev1_any(g c:Nat)(w:World):Calls Tryz.prog 173 #[.slice (some ⟨g,0,none⟩) 1 c] w fun e w'=>e=.returned (.tuple #[])/\w'=w:=by
 go_enter Tryz.func173,Tryz.ntmps173;go_wp2_with fail;refine wp_loop_rounds 1 ?_;rw[rounds_succ];go_wp2;go_end0;exact⟨rfl,rfl⟩
theorem aclone_any(cs:List Value)(hl:cs.length=34)(Pb kc:Nat)(w:World)(hP:w.rangeAt Pb 0 cs)(h1:cs.all (·.oneCell')=true) :
  Calls Tryz.prog 172 #[.slice (some ⟨Pb,0,none⟩) 1 kc] w fun e w'=>∃ v,e=.returned v/\w'.ownsRow w.heap.size 122 34 v 1 cs/\Und w w':=by
 obtain⟨i0,hi,hz0,hz1,hz2⟩:=info_parts info_atom2;have q:=fun (w:World) (a:Option Addr) (n c n' c':Nat)=>Lib.run_eql_slice_nil w 123 122 a n c n' c' Tryz.underlying123
 have hcells:∀ (w1:World),Und w w1->∀ j u,cs[j]?=some u->w1.cell? ((⟨Pb,0,none⟩:Addr).add j)=some u:=fun w1 hu j u hx=>by
  rw[Addr.add_mid];exact(hu.cell (p:=⟨Pb,0+j,none⟩) (zbL _ _ (hP j u hx))).trans (hP j u hx)
 have HC:=hid hcells;have HO:=hid (fun v hv=>(List.all_eq_true.1 h1) v hv:∀ v ∈ cs,v.oneCell'=true);have HL:=hid hl;clear hcells hP h1 hl;go_enter Tryz.func172,Tryz.ntmps172;go_wp2_with (at_builtin;refine wpList_append_own _ rfl _ _ 123 rfl w.heap.size 122 i0 (.agg zAtom) 34 48 Tryz.underlying123 hi hz0 hz1 hz2 rfl (by decide) _ _ _ rfl (World.ownsRow_made w #[] 0 (Nat.le_refl _) (Nat.zero_le _) rfl) ⟨Pb,0,none⟩ 1 kc cs rfl ?qc1 ?qc2 ?qc3 ?qc4 ?qc5 ?qc6 ?_)
 case qc1=>simpa using HL.out
 case qc2=>exact HC.out _ (by apply_rules[uUe,uUa,uUb,uUc,uUd])
 case qc3=>exact HO.out
 case qc4=>unfold maxLen;omega
 case qc5=>omega
 case qc6=>simp
 intro v' w1 hown hgrow hnil;have hu:Und w w1:=Und.mk (((Below.refl _ w).alloc (Nat.le_refl _) _).grown hgrow (by simp) (by intro k hk;simp[Value.ownBlock] at hk;omega));have HH:=hid (And.intro hown hu);clear hown hu hgrow hnil;go_wp2;go_ret;exact⟨v',rfl,by simpa using HH.out.1,HH.out.2⟩
theorem preverse_any(cs:List Value)(hl:cs.length=34)(Pb kc:Nat)(w:World)(hP:w.rangeAt Pb 0 cs)(h1:cs.all (·.oneCell')=true) :
  Calls Tryz.prog 115 #[.slice (some ⟨Pb,0,none⟩) 1 kc] w fun e w'=>∃ g c,e=.returned (.slice (some ⟨g,0,none⟩) 1 c)/\w'.rangeAt g 0 cs/\Und w w':=by
 have HK:=hid (fun W (u:Und w W)=>aclone_any cs hl Pb kc W (fun j v hv=>(u.cell (p:=⟨Pb,0+j,none⟩) (zbL _ _ (hP j v hv))).trans (hP j v hv)) h1);have HL:=hid hl;clear hP h1 hl;go_enter Tryz.func115,Tryz.ntmps115;go_wp2_with fail;refine(HK.out _ (by apply_rules[uUe,uUa,uUb,uUc,uUd])).mono ?_;rintro e w1 ⟨v,rfl,ho,hu⟩;obtain⟨A,c,rfl,_⟩:=own_slice ho;obtain⟨g,rfl,_,_,hc⟩:=own_cell ho (by omega);have HU:=hid hu;have HR:=hid (show w1.rangeAt g 0 cs from fun j v hv=>by rw[Nat.zero_add];exact hc j v hv);clear ho hu hc HK;go_wp2_with fail;refine(rev1_any g c _).mono ?_;rintro e w' ⟨rfl,rfl⟩;go_wp2;go_ret;exact⟨g,c,rfl,HR.out,HU.out⟩
end Go.Proofs.YtcfhfdphoidaeaaGreatDoor
set_option linter.all false
namespace Go.Proofs.YtcfhfdphoidaeaaGreatDoor
open Go.RowKit
set_option maxRecDepth 20000
set_option maxHeartbeats 25600000
theorem make_bytes(m:Nat)(hm:m<=1000000):∃ cs:Array Value,(∀ W:World,(Instr.makeSlice 137 (.int .i64 (m:Int)) (.int .i64 (m:Int))).run Tryz.prog W=.ok (.slice (some ⟨W.heap.size,0,none⟩) m m) (W.alloc (.cells cs 5)))/\cs.size=m/\∀ j,j<m->cs[j]?=some (.int .u8 0):=by
 obtain⟨i,hi,hz0,hz1,hz2⟩:=info_parts info_byte;refine⟨madeCells (Value.cells (.int .u8 0)) (m*i.size),fun W=>?_,?_,fun j hj=>?_⟩
 ·have:=run_make (P:=Tryz.prog) W 137 5 i (.int .u8 0) Tryz.underlying137 hi hz0 .i64 .i64 (m:Int) (m:Int) (by omega) (by omega) (by rw[hz2];omega) (by omega)
  have e:((m:Int)).toNat=m:=by omega
  rw[e] at this;exact this
 ·rw[size_madeCells,hz1,Nat.mul_one]
 ·rw[hz1,Nat.mul_one]
  have h:=toList_madeCells_one (.int .u8 0) m;rw[<- Array.getElem?_toList]
  show (madeCells #[.int .u8 0] m).toList[j]?=_
  rw[h,List.getElem?_replicate,if_pos hj]
def revV(s:ByteArray)(j:Nat):Value:=if h:s.size-1-j<s.size then .int .u8 (s[s.size-1-j].toNat:Int) else undef
def RdRel(w:World)(s:ByteArray)(s10:Value)(wr:World):Prop:=
 ∃ k:Nat,k<=s.size/\s10=.int .i64 k/\RowV wr w.heap.size s.size 5 (fun j=>if j<k then revV s j else .int .u8 0)/\Und w wr
theorem conv_rowV{w:World}{g n:Nat}{l:List UInt8}{f:Nat->Value}(h:RowV w g n 5 f)(hl:l.length=n)(hf:∀ j (hj:j<l.length),f j=.int .u8 (l[j].toNat:Int)) :
  (convert 137 9 (.slice (some ⟨g,0,none⟩) n n)).run Tryz.prog w=.ok (.string ⟨l.toArray⟩) w:=by
 rw[run_convert_bytes_arg w 137 5 Tryz.underlying137 Tryz.underlying5 g 0 n n (l.map fun x=>(x.toNat:Int)) (by simpa using hl) (fun i hi=>by
  rw[Nat.zero_add,h.cell (by omega),hf i (by omega)];have hil:i<l.length:=by omega
  simp[List.getD_eq_getElem?_getD,hil]) _ Tryz.underlying9]
 simp[strOfNums,Function.comp_def]
theorem reversed_any(s:ByteArray)(w:World)(h0:0<s.size)(hs:s.size<=100000) :
  Calls Tryz.prog 113 #[.string s] w fun e w'=>e=.returned (.string ⟨s.data.toList.reverse.toArray⟩)/\Und w w':=by
 obtain⟨cz,hmk,hcz,hzz⟩:=make_bytes s.size (by omega);have HCZ:=hid hcz;have HZZ:=hid hzz;clear hcz hzz;go_enter Tryz.func113,Tryz.ntmps113;go_wp2_with fail;go_loopw [10] (fun s10 wr=>RdRel w s s10 wr) (fun s10 _=>s.size+1-(intOf s10).toNat)
 case atStart=>exact⟨0,by omega,rfl,⟨cz,heap_alloc_new w _,HCZ.out,fun j hj=>by rw[HZZ.out j hj];simp⟩,(Und.refl w).alloc _⟩
 case round=>
  obtain⟨k,hk,rfl,hrow,hu⟩:=hrel;have HU:=hid hu;have HR:=hid hrow
  by_cases hlt:k<s.size
  ·haveI:LtW w.heap.size wr:=LtW.of hrow.lt
   have z1:(k:Int)<(s.size:Int):=by omega
   have z2:s.size-1-k<s.size:=by omega
   have z3:(s.size:Int)-1-(k:Int)=((s.size-1-k:Nat):Int):=by omega
   have x0:=hrow.cell hlt;have x1:=hrow.free k
   have HE:=hid (show RdRel w s (.int .i64 ((k:Int)+1)) (wr.setCell ⟨w.heap.size,k,none⟩ (.int .u8 (s[s.size-1-k].toNat:Int))) from
    ⟨k+1,by omega,congrArg (Value.int .i64) (by omega),hrow.set k _ (by simp[revV,z2]) (fun j hj _=>by
     by_cases e:j<k
     ·rw[if_pos (by omega),if_pos e]
     ·rw[if_neg (by omega),if_neg e]),RowAt.set_und hu (Nat.le_refl _) _ _⟩)
   clear hrow hu;go_wp2;exact⟨HE.out,by simp[intOf] <;> omega⟩
  ·have hkn:k=s.size:=by omega
   subst hkn
   have hcv:(convert 137 9 (.slice (some ⟨w.heap.size,0,none⟩) s.size s.size)).run Tryz.prog wr=.ok (.string ⟨s.data.toList.reverse.toArray⟩) wr:=conv_rowV hrow (by simp) (fun j hj=>by
    have hj2:j<s.size:=by simpa using hj
    have z2:s.size-1-j<s.size:=by omega
    rw[if_pos hj2,revV,dif_pos z2,List.getElem_reverse]
    rfl)
   clear hlt hrow hu;go_wp2;go_ret;exact⟨rfl,HU.out⟩
end Go.Proofs.YtcfhfdphoidaeaaGreatDoor
set_option linter.all false
namespace Go.Proofs.YtcfhfdphoidaeaaGreatDoor
open Go.RowKit
set_option maxRecDepth 20000
set_option maxHeartbeats 25600000
def revS(s:ByteArray):ByteArray:=⟨s.data.toList.reverse.toArray⟩
theorem revS_size(s:ByteArray):(revS s).size=s.size:=by show (s.data.toList.reverse.toArray).size=s.data.size;simp
def RuleAt(w:World)(R P Q:Nat):Prop:=w.cell? ⟨R,0,none⟩=some (.bool true)/\w.cell? ⟨R,1,none⟩=some (.slice (some ⟨P,0,none⟩) 1 1)/\w.cell? ⟨R,2,none⟩=some (.slice (some ⟨Q,0,none⟩) 1 1)/\w.rangeAt P 0 atE/\w.rangeAt Q 0 atB
theorem range_und{w w':World}{b o:Nat}{cs:List Value}(h:w.rangeAt b o cs)(u:Und w w'):w'.rangeAt b o cs:=fun j v hv=>(u.cell (p:=⟨b,o+j,none⟩) (zbL _ _ (h j v hv))).trans (h j v hv)
theorem RuleAt.und{w w':World}{R P Q:Nat}(h:RuleAt w R P Q)(u:Und w w'):RuleAt w' R P Q:=by
 obtain⟨h0,h1,h2,h3,h4⟩:=h;have hb:=lt_of_cell h0;exact⟨(u.cell (p:=⟨R,0,none⟩) hb).trans h0,(u.cell (p:=⟨R,1,none⟩) hb).trans h1,(u.cell (p:=⟨R,2,none⟩) hb).trans h2,range_und h3 u,range_und h4 u⟩
theorem atE_one:atE.all (·.oneCell')=true:=by decide
theorem atB_one:atB.all (·.oneCell')=true:=by decide
def EnF(B:Nat)(s:ByteArray)(f:UInt8->Bool)(v:Value)(W:World):Prop:=∃ b,v=.slice (some ⟨b,0,none⟩) (s.size+1) (s.size+1)/\B<=b/\RowV W b (s.size+1) 4 (fun j=>.bool (endB s f j))
theorem EnF.und{B:Nat}{s:ByteArray}{f:UInt8->Bool}{v:Value}{W W':World}(h:EnF B s f v W)(u:Und W W'):EnF B s f v W':=by
 obtain⟨b,h1,h2,h3⟩:=h;exact⟨b,h1,h2,h3.und u⟩
def RvF(v:Value)(W:World):Prop:=∃ g c,v=.slice (some ⟨g,0,none⟩) 1 c/\W.rangeAt g 0 atB
def Bk2Rel(w:World)(s:ByteArray)(fE fB:UInt8->Bool)(k0 b6 b7 b9 be bf:Nat)(s12:Value)(wr:World):Prop:=
 ∃ i:Nat,1<=i/\i<=s.size/\s12=.int .i64 i/\RowV wr b6 (s.size+1) 4 (fun j=>.bool (decide (k0<i/\j=k0)))/\RowV wr b7 (s.size+1) 4 (fun j=>.bool (decide (k0<i/\j=k0))) /\
  RowV wr be (s.size+1) 4 (fun j=>.bool (endB s fE j))/\RowV wr bf (s.size+1) 4 (fun j=>.bool (endB (revS s) fB j))/\wr.cell? ⟨b9,0,none⟩=some (.bool true)/\Und w wr
def Bk3Rel(w:World)(n k0 b7:Nat)(s13 s81:Value)(wr:World):Prop:=
 ∃ i:Nat,i<=n+1/\s81=.int .i64 i/\RowV wr b7 (n+1) 4 (fun j=>.bool (decide (j=k0)))/\((i<=k0/\s13=.slice none 0 0)∨(k0<i/\wr.ownsRow w.heap.size 3 1 s13 1 [.int .i64 (k0:Int)]))/\Und w wr
theorem breaks_any(R P Q k0:Nat)(s:ByteArray)(fE fB:UInt8->Bool)(w:World)(hR:RuleAt w R P Q)(h0:1<s.size)(hs:s.size<=1000)
  (hE:∀ x ∈ s.data.toList,∀ W,Calls Tryz.prog 171 #[.agg atE.toArray,.int .u8 (x.toNat:Int)] W fun e w'=>e=.returned (.bool (fE x))/\Und W w')
  (hB:∀ x ∈ s.data.toList,∀ W,Calls Tryz.prog 171 #[.agg atB.toArray,.int .u8 (x.toNat:Int)] W fun e w'=>e=.returned (.bool (fB x))/\Und W w')
  (hk0:1<=k0/\k0<s.size) (hk:∀ i,1<=i->i<s.size->(endB s fE i && endB (revS s) fB (s.size-i))=decide (i=k0)) :
  Calls Tryz.prog 52 #[.slice (some ⟨R,0,none⟩) 1 1,.string s] w fun e w'=>∃ v,e=.returned v/\w'.ownsRow w.heap.size 3 1 v 1 [.int .i64 (k0:Int)]/\Und w w':=by
 obtain⟨cz,hmk,hcz,hzz⟩:=make_bools s.size (by omega);obtain⟨in0,hn0,hn1,hn2,hn3⟩:=info_parts info_int;have HCZ:=hid hcz;have HZZ:=hid hzz;have HK:=hid hk;have HRV:=hid (fun W=>(show Calls Tryz.prog 113 #[.string s] W (fun e w'=>e=.returned (.string (revS s))/\Und W w') from reversed_any s W (by omega) (by omega)));have hsz:=revS_size s;have HEN:=hid (fun (W:World) (u:Und w W)=>ends_any atE rfl fE P 1 s W (range_und hR.2.2.2.1 u) atE_one rfl rfl (by omega) hE);have HPR:=hid (fun (W:World) (u:Und w W)=>preverse_any atB rfl Q 1 W (range_und hR.2.2.2.2 u) atB_one);have HEB:=hid (fun (g c:Nat) (W:World) (hg:W.rangeAt g 0 atB)=>ends_any atB rfl fB g c (revS s) W hg atB_one rfl rfl (by omega) (fun x hx=>hB x (by simpa [revS] using hx)));have HR:=hid hR;have HSZ:=hid hsz;clear hcz hzz hk hR hE hB hsz;go_enter Tryz.func52,Tryz.ntmps52;go_wp2_with fail;refine(HRV.out _).mono ?_;rintro e w1 ⟨rfl,hu1⟩;have HU1:=hid hu1;clear hu1;go_wp2_with fail;refine wp_loop_rounds 2 ?_;rw[rounds_succ];have r0:=(HR.out.und HU1.out).1;have r1:=(HR.out.und HU1.out).2.1;have r2:=(HR.out.und HU1.out).2.2.1;haveI:LtW R w1:=LtW.of (lt_of_cell r0);go_upto_region 9 with (fail);clear r0 r1 r2;obtain⟨b6,hb6⟩:∃ b,w1.heap.size=b:=⟨_,rfl⟩;have m1:=heap_alloc_new w1 (.cells cz 4 (0,0));have m2:=heap_alloc_new (w1.alloc (.cells cz 4 (0,0))) (.cells cz 4 (0,0));have m3:=heap_alloc_new ((w1.alloc (.cells cz 4 (0,0))).alloc (.cells cz 4 (0,0))) (.cells #[.bool true,.slice (some ⟨P,0,none⟩) 1 1,.slice (some ⟨Q,0,none⟩) 1 1] 125 (0,0));have u2:Und (w1.alloc (.cells cz 4 (0,0))) (((w1.alloc (.cells cz 4 (0,0))).alloc (.cells cz 4 (0,0))).alloc (.cells #[.bool true,.slice (some ⟨P,0,none⟩) 1 1,.slice (some ⟨Q,0,none⟩) 1 1] 125 (0,0))):=(by apply_rules[uUe,uUa,uUb,uUc,uUd]);have u3:Und ((w1.alloc (.cells cz 4 (0,0))).alloc (.cells cz 4 (0,0))) (((w1.alloc (.cells cz 4 (0,0))).alloc (.cells cz 4 (0,0))).alloc (.cells #[.bool true,.slice (some ⟨P,0,none⟩) 1 1,.slice (some ⟨Q,0,none⟩) 1 1] 125 (0,0))):=(by apply_rules[uUe,uUa,uUb,uUc,uUd]);have u4:Und w1 (((w1.alloc (.cells cz 4 (0,0))).alloc (.cells cz 4 (0,0))).alloc (.cells #[.bool true,.slice (some ⟨P,0,none⟩) 1 1,.slice (some ⟨Q,0,none⟩) 1 1] 125 (0,0))):=(by apply_rules[uUe,uUa,uUb,uUc,uUd]);have s9:(((w1.alloc (.cells cz 4 (0,0))).alloc (.cells cz 4 (0,0))).alloc (.cells #[.bool true,.slice (some ⟨P,0,none⟩) 1 1,.slice (some ⟨Q,0,none⟩) 1 1] 125 (0,0))).heap.size=b6+1+1+1:=by simp[hb6]
 have m1':=(u2.below.block _ (lt_of_heap m1)).trans m1;have m2':=(u3.below.block _ (lt_of_heap m2)).trans m2;clear u2 u3 m1 m2;generalize ((w1.alloc (.cells cz 4 (0,0))).alloc (.cells cz 4 (0,0))).alloc (.cells #[.bool true,.slice (some ⟨P,0,none⟩) 1 1,.slice (some ⟨Q,0,none⟩) 1 1] 125 (0,0))=W9 at m1' m2' m3 u4 s9 ⊢;simp only[World.size_alloc] at m2' m3;rw[hb6] at m1' m2' m3;simp only[hb6];have HLW:=hid (show w.heap.size<=b6 by have:=HU1.out.size;omega);have HU9:=hid (HU1.out.trans u4);have HR6:=hid (show RowV W9 b6 (s.size+1) 4 (fun j=>.bool (decide (k0<1/\j=k0))) from⟨cz,m1',HCZ.out,fun j hj=>by rw[HZZ.out j hj];simp;omega⟩);have HR7:=hid (show RowV W9 (b6+1) (s.size+1) 4 (fun j=>.bool (decide (k0<1/\j=k0))) from⟨cz,m2',HCZ.out,fun j hj=>by rw[HZZ.out j hj];simp;omega⟩);have HS9:=hid s9
 have HT:=hid (fun W (u:Und W9 W)=>(show W.cell? ⟨b6+1+1,0,none⟩=some (.bool true)/\W.cell? ⟨b6+1+1,1,none⟩=some (.slice (some ⟨P,0,none⟩) 1 1)/\W.cell? ⟨b6+1+1,2,none⟩=some (.slice (some ⟨Q,0,none⟩) 1 1) from
  have h:=(u.below.block _ (lt_of_heap m3)).trans m3
  ⟨zcH h 0,zcH h 1,zcH h 2⟩))
 clear m1' m2' m3 u4 s9 hmk;obtain⟨b9,hb9⟩:∃ b,b6+1+1=b:=⟨_,rfl⟩;rw[hb9] at HT;simp only[hb9];refine wp_region_facts (fun a b=>Und a b) (fun _ W=>Und W9 W) [fun v _=>v=.pointer (some ⟨b9,1,none⟩),fun v _=>v=.slice (some ⟨P,0,none⟩) 1 1,fun v _=>v=.string s,EnF W9.heap.size s fE,fun v _=>v=.pointer (some ⟨b9,2,none⟩),fun v _=>v=.slice (some ⟨Q,0,none⟩) 1 1,RvF,fun v _=>v=.string (revS s),EnF W9.heap.size (revS s) fB,EnF W9.heap.size s fE,EnF W9.heap.size (revS s) fB] (fun _=>Und.refl _) (fun _ _ _ h1 h2=>h1.trans h2) (by kernel_rfl) (by rfl) (by kernel_rfl) (by kernel_rfl) ?fr ?hfr ?hI ?hob ?hend
 case hfr=>
  intro ρ;simp only[putAll,Act.put,zsA,zsB,zsC,Nat.zero_add,Nat.reduceAdd];exact rfl
 case hI=>exact(by apply_rules[uUe,uUa,uUb,uUc,uUd])
 case hob=>
  refine ObsF.cons (fun ρ L W hR hI hL hD hO hF K hK=>?_) ?_
  ·skip
   clear hF hD hO;simp only[Act.put,zsA,zsB,zsC] at hK ⊢;go_simp;refine hK _ _ (Und.refl _) hI (fun W2 h2=>?_);rfl
  refine ObsF.cons (fun ρ L W hR hI hL hD hO hF K hK=>?_) ?_
  ·skip
   have f0:=allF_get hF (j:=0) (by decide);clear hF hD hO;simp only[Act.put,zsA,zsB,zsC] at hK ⊢;have e0:ρ 0=.pointer (some ⟨b9,1,none⟩):=f0;rw[e0] at hK ⊢;have ht:=HT.out W hI;haveI:LtW b9 W:=LtW.of (lt_of_cell ht.1);obtain⟨d0,d1,d2⟩:=ht;go_simp;refine hK _ _ (Und.refl _) hI (fun W2 h2=>?_);rfl
  refine ObsF.cons (fun ρ L W hR hI hL hD hO hF K hK=>?_) ?_
  ·skip
   clear hF hD hO;simp only[Act.put,zsA,zsB,zsC] at hK ⊢;go_simp;refine hK _ _ (Und.refl _) hI (fun W2 h2=>?_);rfl
  refine ObsF.cons (fun ρ L W hR hI hL hD hO hF K hK=>?_) ?_
  ·skip
   have f1:=allF_get hF (j:=1) (by decide);have f2:=allF_get hF (j:=2) (by decide);clear hF hD hO;simp only[Act.put,zsA,zsB,zsC] at hK ⊢;have e1:ρ 1=.slice (some ⟨P,0,none⟩) 1 1:=f1;have e2:ρ 2=.string s:=f2;rw[e1,e2] at hK ⊢;refine step_callF3 (o:=⟨some 38,_,_,_,_,_⟩) rfl 114 #[.slice (some ⟨P,0,none⟩) 1 1,.string s] _ (HEN.out W (HU9.out.trans hI)) ?_ ?_
   ·go_simp
   rintro e W2 ⟨b,rfl,hb,hrow,hu⟩;exact⟨_,rfl,hK _ _ hu (hI.trans hu) (fun W3 h3=>⟨b,rfl,Nat.le_trans hI.size hb,hrow.und h3⟩)⟩
  refine ObsF.cons (fun ρ L W hR hI hL hD hO hF K hK=>?_) ?_
  ·skip
   clear hF hD hO;simp only[Act.put,zsA,zsB,zsC] at hK ⊢;go_simp;refine hK _ _ (Und.refl _) hI (fun W2 h2=>?_);rfl
  refine ObsF.cons (fun ρ L W hR hI hL hD hO hF K hK=>?_) ?_
  ·skip
   have f4:=allF_get hF (j:=4) (by decide);clear hF hD hO;simp only[Act.put,zsA,zsB,zsC] at hK ⊢;have e4:ρ 4=.pointer (some ⟨b9,2,none⟩):=f4;rw[e4] at hK ⊢;have ht:=HT.out W hI;haveI:LtW b9 W:=LtW.of (lt_of_cell ht.1);obtain⟨d0,d1,d2⟩:=ht;go_simp;refine hK _ _ (Und.refl _) hI (fun W2 h2=>?_);rfl
  refine ObsF.cons (fun ρ L W hR hI hL hD hO hF K hK=>?_) ?_
  ·skip
   have f5:=allF_get hF (j:=5) (by decide);clear hF hD hO;simp only[Act.put,zsA,zsB,zsC] at hK ⊢;have e5:ρ 5=.slice (some ⟨Q,0,none⟩) 1 1:=f5;rw[e5] at hK ⊢;refine step_callF3 (o:=⟨some 41,_,_,_,_,_⟩) rfl 115 #[.slice (some ⟨Q,0,none⟩) 1 1] _ (HPR.out W (HU9.out.trans hI)) ?_ ?_
   ·go_simp
   rintro e W2 ⟨g,c,rfl,hrg,hu⟩;exact⟨_,rfl,hK _ _ hu (hI.trans hu) (fun W3 h3=>⟨g,c,rfl,range_und hrg h3⟩)⟩
  refine ObsF.cons (fun ρ L W hR hI hL hD hO hF K hK=>?_) ?_
  ·skip
   clear hF hD hO;simp only[Act.put,zsA,zsB,zsC] at hK ⊢;go_simp;refine hK _ _ (Und.refl _) hI (fun W2 h2=>?_);rfl
  refine ObsF.cons (fun ρ L W hR hI hL hD hO hF K hK=>?_) ?_
  ·skip
   have f6:=allF_get hF (j:=6) (by decide);have f7:=allF_get hF (j:=7) (by decide);clear hF hD hO;simp only[Act.put,zsA,zsB,zsC] at hK ⊢;obtain⟨g,c,e6,hg⟩:RvF (ρ 6) W:=f6;have e7:ρ 7=.string (revS s):=f7;rw[e6,e7] at hK ⊢;refine step_callF3 (o:=⟨some 43,_,_,_,_,_⟩) rfl 114 #[.slice (some ⟨g,0,none⟩) 1 c,.string (revS s)] _ (HEB.out g c W hg) ?_ ?_
   ·go_simp
   rintro e W2 ⟨b,rfl,hb,hrow,hu⟩;exact⟨_,rfl,hK _ _ hu (hI.trans hu) (fun W3 h3=>⟨b,rfl,Nat.le_trans hI.size hb,hrow.und h3⟩)⟩
  refine ObsF.cons (fun ρ L W hR hI hL hD hO hF K hK=>?_) ?_
  ·skip
   have f3:=allF_get hF (j:=3) (by decide);clear hF hD hO;simp only[Act.put,zsA,zsB,zsC] at hK ⊢;obtain⟨b,e3,hb,hrow⟩:EnF W9.heap.size s fE (ρ 3) W:=f3;rw[e3] at hK ⊢;go_simp;refine hK _ _ (Und.refl _) hI (fun W2 h2=>?_);exact⟨b,rfl,hb,hrow.und h2⟩
  refine ObsF.cons (fun ρ L W hR hI hL hD hO hF K hK=>?_) ?_
  ·skip
   have f8:=allF_get hF (j:=8) (by decide);clear hF hD hO;simp only[Act.put,zsA,zsB,zsC] at hK ⊢;obtain⟨b,e8,hb,hrow⟩:EnF W9.heap.size (revS s) fB (ρ 8) W:=f8;rw[e8] at hK ⊢;go_simp;refine hK _ _ (Und.refl _) hI (fun W2 h2=>?_);exact⟨b,rfl,hb,hrow.und h2⟩
  exact ObsF.nil
 case hend=>
  intro ρ L W hR hI hL hF;obtain⟨g0,g1,g2,g3,g4,g5,g6,g7,g8,⟨be,e9,hbe,hre⟩,⟨bf,e10,hbf,hrf⟩,_⟩:=hF;clear g0 g1 g2 g3 g4 g5 g6 g7 g8;rw[HSZ.out] at e10 hrf;rw[e9,e10];have u6:=hI;have h6:=HR6.out.und hI;have h7:=HR7.out.und hI;have t9:=(HT.out W hI).1
  have HL6:=hid (show b6<be/\b6+1<be/\b6<bf/\b6+1<bf/\b9<W.heap.size/\b6+1<b9 from by
   have:=HS9.out;have:=lt_of_cell t9;omega)
  have HB0:=hid (show Bk2Rel w s fE fB k0 b6 (b6+1) b9 be bf (.int .i64 (1:Nat)) W from⟨1,by omega,by omega,rfl,h6,h7,hre,hrf,t9,HU9.out.trans hI⟩);clear hR hI hL e9 e10 hbe hbf hre hrf u6 h6 h7 t9 HR6 HR7 HT HU9 HS9 HU1 HEN HPR HEB HRV HR hb9;go_wp2_with fail;go_loopw [12] (fun s12 wr=>Bk2Rel w s fE fB k0 b6 (b6+1) b9 be bf s12 wr) (fun s12 _=>s.size+1-(intOf s12).toNat)
  case atStart=>exact HB0.out
  case round=>
   clear HB0;obtain⟨i,hi1,hi2,rfl,h6,h7,hre,hrf,t9,hu⟩:=hrel;have HU:=hid hu;have H6:=hid h6;have H7:=hid h7;have HE:=hid hre;have HF:=hid hrf;have HT9:=hid t9
   by_cases hlt:i<s.size
   ·have hkk:=HK.out i hi1 hlt
    haveI:LtW b6 wr:=LtW.of h6.lt;haveI:LtW (b6+1) wr:=LtW.of h7.lt;haveI:LtW be wr:=LtW.of hre.lt;haveI:LtW bf wr:=LtW.of hrf.lt;haveI:LtW b9 wr:=LtW.of (lt_of_cell t9);have z1:(i:Int)<(s.size:Int):=by omega
    have z2:(i:Int)<(s.size:Int)+1:=by omega
    have z3:(s.size:Int)-(i:Int)=((s.size-i:Nat):Int):=by omega
    have z4:((s.size-i:Nat):Int)<(s.size:Int)+1:=by omega
    have c6:=h6.cell (j:=i) (by omega);rw[show decide (k0<i/\i=k0)=false from by simp;omega] at c6;have cE:=hre.cell (j:=i) (by omega);have cF:=hrf.cell (j:=s.size-i) (by omega)
    have HN:=hid (fun (hne:i ≠ k0)=>(show Bk2Rel w s fE fB k0 b6 (b6+1) b9 be bf (.int .i64 ((i:Int)+1)) wr from
     ⟨i+1,by omega,by omega,congrArg (Value.int .i64) (by omega),H6.out.same (fun j hj=>by congr 1;simp only[decide_eq_decide];omega),H7.out.same (fun j hj=>by congr 1;simp only[decide_eq_decide];omega),HE.out,HF.out,HT9.out,HU.out⟩))
    cases hE0:endB s fE i with
    | false=>
     rw[hE0] at hkk cE;have hne:i ≠ k0:=by simpa using hkk.symm
     have HM:=hid (HN.out hne);clear h6 h7 hre hrf hu hkk hE0 cF hne HN t9;go_wp2;exact⟨HM.out,by simp[intOf] <;> omega⟩
    | true=>
     cases hF0:endB (revS s) fB (s.size-i) with
     | false=>
      rw[hE0,hF0] at hkk;rw[hE0] at cE;rw[hF0] at cF;have hne:i ≠ k0:=by simpa using hkk.symm
      have HM:=hid (HN.out hne);clear h6 h7 hre hrf hu hkk hE0 hF0 hne HN t9;go_wp2;exact⟨HM.out,by simp[intOf] <;> omega⟩
     | true=>
      rw[hE0,hF0] at hkk;rw[hE0] at cE;rw[hF0] at cF;have hik:i=k0:=by simpa using hkk.symm
      subst hik;have x6:=h6.free i;have c7:=h7.cell (j:=i) (by omega);have x7:=h7.free i;have HL:=HL6.out;clear h6 h7 hre hrf hu hkk hE0 hF0 HN;go_upto_region 14 with (fail)
      have HM:=hid (show Bk2Rel w s fE fB i b6 (b6+1) b9 be bf (.int .i64 ((i:Int)+1)) ((wr.setCell ⟨b6,i,none⟩ (.bool true)).setCell ⟨b6+1,i,none⟩ (.bool true)).drew from
       have g6:=(H6.out.set (f':=fun j=>.bool (decide (i<i+1/\j=i))) i (.bool true) (by simp) (fun j hj _=>by simp[hj])).other (b:=b6+1) (i:=i) (.bool true) (by omega);have g7:=(H7.out.other (b:=b6) (i:=i) (.bool true) (by omega)).set (f':=fun j=>.bool (decide (i<i+1/\j=i))) i (.bool true) (by simp) (fun j hj _=>by simp[hj]);have ge:=(HE.out.other (b:=b6) (i:=i) (.bool true) (by omega)).other (b:=b6+1) (i:=i) (.bool true) (by omega);have gf:=(HF.out.other (b:=b6) (i:=i) (.bool true) (by omega)).other (b:=b6+1) (i:=i) (.bool true) (by omega);have gu:=RowAt.set_und (RowAt.set_und HU.out HLW.out i (.bool true)) (show w.heap.size<=b6+1 by have:=HLW.out;omega) i (.bool true);have gd:=(Und.refl ((wr.setCell ⟨b6,i,none⟩ (.bool true)).setCell ⟨b6+1,i,none⟩ (.bool true))).drew
       ⟨i+1,by omega,by omega,congrArg (Value.int .i64) (by omega),g6.und gd,g7.und gd,ge.und gd,gf.und gd,by
        simp only[World.cell?_drew]
        rw[set_ne _ (by omega),set_ne _ (by omega)];exact HT9.out,gu.trans gd⟩)
      go_region;clear HL x6 c7 x7 c6 cE cF;go_wp2;exact⟨HM.out,by simp[intOf] <;> omega⟩
   ·have hin:i=s.size:=by omega
    subst hin;have HR3:=hid (show Bk3Rel w s.size k0 (b6+1) (.slice none 0 0) (.int .i64 (0:Nat)) wr from⟨0,by omega,rfl,H7.out.same (fun j hj=>by congr 1;simp only[decide_eq_decide];omega),.inl ⟨by omega,rfl⟩,HU.out⟩);clear h6 h7 hre hrf t9 hu hlt H6 H7 HE HF HT9 HU HL6;go_wp2_with fail;rw[rounds_succ];go_wp2_with fail;go_loopw [13,81] (fun s13 s81 wr=>Bk3Rel w s.size k0 (b6+1) s13 s81 wr) (fun _ s81 _=>s.size+2-(intOf s81).toNat)
    case atStart=>exact HR3.out
    case round=>
     clear HR3;obtain⟨i,hi,rfl,h7,h13,hu⟩:=hrel;have HU:=hid hu;have H7:=hid h7
     by_cases hlt:i<s.size+1
     ·haveI:LtW (b6+1) wr:=LtW.of h7.lt
      have z1:(i:Int)<(s.size:Int)+1:=by omega
      have c7:=h7.cell (j:=i) hlt
      by_cases hik:i=k0
      ·subst hik
       have hnil:u13=.slice none 0 0:=by
        rcases h13 with ⟨_,h⟩|⟨h,_⟩
        ·exact h
        ·omega
       subst hnil;rw[show decide (i=i)=true by simp] at c7;clear h13 h7 hu;go_wp2_with (at_builtin;(with_reducible (refine wpList_append_own _ rfl _ _ 22 rfl w.heap.size 3 in0 (.int .i64 0) 1 8 Tryz.underlying22 hn0 hn1 hn2 hn3 rfl (by decide) (.slice none 0 0) 0 [] ?_ (World.ownsRow_nil _ _ _ _) ?_ 1 1 [.int .i64 (i:Int)] ?_ ?_ ?_ ?_ ?_ ?_ ?_ ?_));all_goals (first|rfl|(unfold maxLen;omega)|omega|skip))
       ·intro j u hx
        rw[Addr.add_mid,Nat.zero_add,zcH (heap_alloc_new wr (.cells #[.int .i64 (i:Int)] 3 (0,0))) j];simpa using hx
       ·intro u hu
        rw[List.mem_singleton.1 hu];rfl
       ·exact Nat.le_trans HU.out.size (by simp)
       intro v' w4 ho hg _;have hu4:Und wr w4:=(show Und wr _ from(by apply_rules[uUe,uUa,uUb,uUc,uUd])).grown hg (fun g e=>by cases e);have HM:=hid (show Bk3Rel w s.size i (b6+1) v' (.int .i64 ((i:Int)+1)) w4 from⟨i+1,by omega,congrArg (Value.int .i64) (by omega),H7.out.und hu4,.inr ⟨by omega,ho⟩,HU.out.trans hu4⟩);clear ho hg hu4 c7;go_wp2;exact⟨HM.out,by simp[intOf] <;> omega⟩
      ·rw[show decide (i=k0)=false by simp[hik]] at c7
       have HM:=hid (show Bk3Rel w s.size k0 (b6+1) u13 (.int .i64 ((i:Int)+1)) wr from⟨i+1,by omega,congrArg (Value.int .i64) (by omega),H7.out,by
        rcases h13 with ⟨h,h'⟩|⟨h,h'⟩
        ·exact .inl ⟨by omega,h'⟩
        ·exact .inr ⟨by omega,h'⟩,HU.out⟩)
       clear h13 h7 hu;go_wp2;exact⟨HM.out,by simp[intOf] <;> omega⟩
     ·have hin:i=s.size+1:=by omega
      subst hin
      have HO:=hid (show wr.ownsRow w.heap.size 3 1 u13 1 [.int .i64 (k0:Int)] from by
       rcases h13 with ⟨h,_⟩|⟨_,h⟩
       ·omega
       ·exact h)
      clear h13 h7 hu hlt;go_wp2;go_ret;exact⟨_,rfl,HO.out,HU.out⟩
end Go.Proofs.YtcfhfdphoidaeaaGreatDoor
