/- The contract of the reference's Decode: what it gives is St.decT of the format's element. -/
import Derived.Test.YthoemdibbldndaaGreatDoorGH
import Derived.Test.YthoemdibbldndaaGreatDoorGD
import Derived.Test.YthoemdibbldndaaGreatDoorRefCheck
set_option linter.unusedVariables false
set_option linter.unusedSimpArgs false
set_option maxHeartbeats 12800000
set_option maxRecDepth 20000
namespace Go.Proofs.YthoemdibbldndaaGreatDoor
open Go.RowKit
def ElOkT(E:List UInt8->St.El):Prop:=∀ l k t n,E l=some (k,t,n)->(k=0∨k=1∨k=2∨k=3∨k=4∨k=5)/\1<=n/\n<=l.length/\t.length<=n
def SmallOp(op:List St.It)(n:Nat):Prop:=∀ o ∈ op,o.2.1.length<=n
def DtRel(w:World)(E:List UInt8->St.El)(raw:ByteArray)(s8 s9 s10 s11 s12 s13:Value)(wr:World):Prop:=
 ∃ (a d c:Nat) (f op:List St.It) (cuts:List Nat) (fuel:Nat),s11=.int .i64 a/\s12=.int .i64 d/\s13=.int .i64 c/\a<=raw.size/\raw.size-a<=fuel /\
  wr.ownsRow w.heap.size 36 3 s8 f.length (cellsIt f)/\wr.ownsRow w.heap.size 36 3 s9 op.length (cellsIt op)/\wr.ownsRow w.heap.size 3 1 s10 cuts.length (cellsN cuts)/\St.Nm f/\tot f<=a/\f.length<=512/\cuts.length<=1024 /\
  op.length<=cuts.length/\c<=cuts.length/\SmallOp op raw.size /\
  St.decT E raw.size raw.data.toList 0 0 [] [] [] 0=St.decT E fuel (raw.data.toList.drop a) a d f cuts op c/\Und w wr
theorem rdecT_any(fmt:Int)(E:List UInt8->St.El)(hE:ElAt fmt E)(hok:ElOkT E)(raw:ByteArray)(w:World)(hr:raw.size<=4611686018427387904) :
  Calls Tryz.prog 63 #[.int .i64 fmt,.string raw] w (RDecEnd (St.decT E raw.size raw.data.toList 0 0 [] [] [] 0) w):=by
 obtain⟨i0,hi,hz0,hz1,hz2⟩:=info_parts info_int;obtain⟨j0,ji,jz0,jz1,jz2⟩:=info_parts info_item;go_enter Tryz.func63,Tryz.ntmps63;go_wp2;go_loopw [8,9,10,11,12,13] (fun s8 s9 s10 s11 s12 s13 wr=>DtRel w E raw s8 s9 s10 s11 s12 s13 wr) (fun _ _ _ s11 _ _ _=>raw.size+1-(intOf s11).toNat)
 case atStart=>exact⟨0,0,0,[],[],[],raw.size,rfl,rfl,rfl,by omega,by omega,World.ownsRow_nil _ _ _ _,World.ownsRow_nil _ _ _ _,World.ownsRow_nil _ _ _ _,St.nm_nil,by simp[tot],by simp,by simp,by simp,by simp,(fun o ho=>by cases ho),by simp,Und.refl _⟩
 case round=>
  obtain⟨a,d,c,f,op,cuts,fuel,rfl,rfl,rfl,ha,hfu,hO8,hO9,hO10,hN,ht,h1,h2,h3,h4,hS,hD,hu⟩:=hrel;have HD:=hid hD;have HU:=hid hu;have HO8:=hid hO8;have HO9:=hid hO9;have HO10:=hid hO10;have HS:=hid hS;have hsz:=hu.size;have HN:=hid hN;clear hN hS
  by_cases hlt:a<raw.size
  ·have h0:=drop_ne hlt
   obtain⟨fuel,rfl⟩:∃ m,fuel=m+1:=⟨fuel-1,by omega⟩;obtain⟨x,hx⟩:∃ x,raw.extract a raw.size=x:=⟨_,rfl⟩;have hxl:x.data.toList=raw.data.toList.drop a:=by rw[<- hx,Lib.extract_data,List.take_of_length_le (by simp)]
   have hxs:x.size=raw.size-a:=by rw[<- hx];simp
   have hel:=fun W=>hE x W (by omega) (by omega)
   rw[hxl] at hel;have HEL:=hid hel;have y1:(a:Int)<=(raw.size:Int):=by omega
   have y2:(a:Int)<(raw.size:Int):=by omega
   clear hel hD hu hE;cases hs:E (raw.data.toList.drop a) with
   | none=>
    have hd2:=hid (HD.out.trans (St.decT_none fuel a d _ cuts h0 hs));have HEL2:Hid (∀ W,Calls Tryz.prog 104 #[.int .i64 fmt,.string x] W fun e w'=>e=.returned (.tuple #[.agg #[.int .i64 0,.string ⟨#[]⟩,.int .i64 0],.int .i64 0])/\Und W w'):=hid (by have:=HEL.out;rw[hs] at this;exact this);clear hs h0 HD HEL hxl hO8 hO9 hO10;go_wp2_with (go_at_call 104;refine(HEL2.out _).mono ?_;rintro e w2 ⟨rfl,hu2⟩);have hu3:=HU.out.trans hu2;refine bodyPost_ret (v:=.tuple #[.slice none 0 0,.slice none 0 0,.int .i64 a,.int .i64 2]) (by simp[results,Tryz.results63,go_sem]) rfl ?_;unfold RDecEnd;rw[hd2.out];exact⟨_,_,rfl,World.ownsRow_nil _ _ _ _,World.ownsRow_nil _ _ _ _,(by apply_rules[uUe,uUa,uUb,uUc,uUd])⟩
   | some q=>
    obtain⟨k,t,n⟩:=q;obtain⟨hk,hn1,hn2,htn⟩:=hok _ _ _ _ hs;have hn3:a+n<=raw.size:=by simp at hn2;omega
    have d0:((n:Int)==0)=false:=by simp;omega
    have hdl:(raw.data.toList.drop a).drop n=raw.data.toList.drop (a+n):=by rw[List.drop_drop]
    have HEL2:Hid (∀ W,Calls Tryz.prog 104 #[.int .i64 fmt,.string x] W fun e w'=>e=.returned (.tuple #[.agg #[.int .i64 k,.string ⟨t.toArray⟩,.int .i64 0],.int .i64 n])/\Und W w'):=hid (by have:=HEL.out;rw[hs] at this;exact this);obtain⟨A8,c8,rfl,_,_,hA8⟩:=own_slice' hO8;obtain⟨A9,c9,rfl,_,_,hA9⟩:=own_slice' hO9;obtain⟨A10,c10,rfl,_,_,hA10⟩:=own_slice' hO10;obtain⟨tb,htb⟩:∃ tb:ByteArray,(⟨t.toArray⟩:ByteArray)=tb:=⟨_,rfl⟩;have htbl:tb.data.toList=t:=by rw[<- htb]
    rw[htb] at HEL2
    have hcat:∀ (i:Int) (W:World) (b:Nat),ItemsAt W A8 f->ItemsAt W (some ⟨b,0,none⟩) [(k,t,i)]->Calls Tryz.prog 44 #[.slice A8 f.length c8,.slice (some ⟨b,0,none⟩) 1 1] W fun e w'=>∃ v,e=.returned v/\w'.ownsRow W.heap.size 36 3 v (St.addI f (k,t,i)).length (cellsIt (St.addI f (k,t,i)))/\Und W w':=by
     intro i W b h h';have htx:tot (f++[(k,t,i)])<=a+n:=by rw[tot_snoc];simp only;omega
     have:=concat_any A8 f.length c8 f (some ⟨b,0,none⟩) 1 1 [(k,t,i)] W rfl rfl (fun e=>by have:=hA8 e;omega) (fun e=>by cases e) h h' (by omega) (by omega)
     rw[show St.normL (f++[(k,t,i)])=St.addI f (k,t,i) by rw[St.normL_snoc,HN.out]] at this;exact this
    have hadd:∀ i:Int,St.Nm (St.addI f (k,t,i))/\tot (St.addI f (k,t,i))<=a+n/\(St.addI f (k,t,i)).length<=f.length+1:=fun i=>⟨St.nm_add HN.out _,by have:=tot_add f (k,t,i);simp only at this;omega,(St.addI_len f (k,t,i)).1⟩
    have HCT:=hid hcat;have HAD:=hid hadd;clear hcat hadd hA8 hA9 hA10
    by_cases hk0:k=0
    ·subst hk0
     have hd2:=HD.out.trans (St.decT_skip fuel a d _ cuts h0 hs);rw[hdl] at hd2;have HD2:=hid hd2;clear hs h0 HD HEL hxl hO8 hO9 hO10 hd2 hdl hn2 htb htbl HCT HAD;go_wp2_with (go_at_call 104;refine(HEL2.out _).mono ?_;rintro e w2 ⟨rfl,hu2⟩);have hu3:=HU.out.trans hu2;exact⟨⟨a+n,d,c,f,op,cuts,fuel,congrArg (Value.int .i64) (by omega),rfl,rfl,hn3,by omega,own_und ((by apply_rules[uUe,uUa,uUb,uUc,uUd])) HO8.out,own_und ((by apply_rules[uUe,uUa,uUb,uUc,uUd])) HO9.out,own_und ((by apply_rules[uUe,uUa,uUb,uUc,uUd])) HO10.out,HN.out,by omega,h1,h2,h3,h4,HS.out,HD2.out,(by apply_rules[uUe,uUa,uUb,uUc,uUd])⟩,by simp[intOf];omega⟩
    have HTG:=hid (fun (h:St.stepT op c k t=none)=>HD.out.trans (St.decT_tag fuel a d f cuts h0 hs hk0 h));have HFU:=hid (fun (i:Int) (op':List St.It) (c':Nat) (h:St.stepT op c k t=some (i,op',c')) hf=>HD.out.trans (St.decT_full fuel a d f cuts h0 hs hk0 h hf))
    have HST:Hid (∀ (i:Int) (op':List St.It) (c':Nat),St.stepT op c k t=some (i,op',c')->¬ (512<(St.addI f (k,t,i)).length∨1024<=cuts.length)->St.decT E raw.size raw.data.toList 0 0 [] [] [] 0=St.decT E fuel (raw.data.toList.drop (a+n)) (a+n) (a+n) (St.addI f (k,t,i)) (cuts++[d]) op' c'):=hid (fun i op' c' h hf=>by
     have:=HD.out.trans (St.decT_step fuel a d f cuts h0 hs hk0 h hf)
     rwa [hdl] at this)
    clear hs h0 HD HEL hxl hO8 hO9 hO10 hdl hn2;have hk':k=1∨k=5∨k=2∨k=4∨k=3:=by omega
    clear hk;rcases hk' with rfl|rfl|rfl|rfl|rfl
    ·have hst:St.stepT op c 1 t=some (0,op,c):=rfl
     have HCAT:=hid (HCT.out 0);have hadd:=HAD.out 0;have HF2:=hid (HFU.out _ _ _ hst);have HS2:=hid (HST.out _ _ _ hst);generalize hg:St.addI f (1,t,0)=g at *;obtain⟨hgn,hgt,hgl⟩:=hadd;have HGN:=hid hgn;clear hg hgn hst HAD HCT HFU HST HTG
     by_cases hb5:512<g.length
     ·have HD2:=hid (HF2.out (.inl hb5))
      have z5:((512:Int)<(g.length:Int)):=by omega
      clear HF2 HS2;go_wp2_with fail;refine(HEL2.out _).mono ?_;rintro e w2 ⟨rfl,hu2⟩;have HU9:=hid (show Und wr (w2.alloc (.cells #[.int .i64 1,.string tb,.int .i64 0] 36)) from hu2.alloc _);have HBX9:=hid (heap_alloc_at w2 (.cells #[.int .i64 1,.string tb,.int .i64 0] 36) w2.heap.size rfl);clear hu2;go_wp2_with fail;have hs9:(w2.alloc (.cells #[.int .i64 1,.string tb,.int .i64 0] 36)).heap.size=w2.heap.size+1:=by simp
      generalize w2.alloc (.cells #[.int .i64 1,.string tb,.int .i64 0] 36)=W9 at *;have c0:W9.cell? ⟨w2.heap.size,0,none⟩=some (.int .i64 1):=zcH HBX9.out 0;have hlt9:=lt_of_heap HBX9.out;refine(HCAT.out _ _ ?_ ?_).mono ?_
      ·exact((items_own HO8.out rfl).und HU9.out).und ((Und.refl _).alloc _)
      ·rw[<- htbl];exact items_boxi _ _ _ _ _ (by rw[<- hs9];simp) (by rw[<- hs9];simp) (by rw[<- hs9,ba_eta];simp) (by rw[<- hs9];simp)
      clear hs9;rintro e w3 ⟨v3,rfl,ho3,hu3⟩;obtain⟨A3,c3,rfl,_,_,_⟩:=own_slice' ho3;have hu4:Und wr w3:=HU9.out.trans (Und.trans ((by apply_rules[uUe,uUa,uUb,uUc,uUd])) hu3);have hu5:=HU.out.trans hu4;clear ho3 hu3 hu4 c0;go_wp2;refine bodyPost_ret (v:=.tuple #[.slice none 0 0,.slice none 0 0,.int .i64 a,.int .i64 3]) (by simp[results,Tryz.results63,go_sem]) rfl ?_;unfold RDecEnd;rw[HD2.out];exact⟨_,_,rfl,World.ownsRow_nil _ _ _ _,World.ownsRow_nil _ _ _ _,hu5⟩
     have z5:¬ ((512:Int)<(g.length:Int)):=by omega
     by_cases hb6:1024<=cuts.length
     ·have HD2:=hid (HF2.out (.inr hb6))
      have z6:((1024:Int)<=(cuts.length:Int)):=by omega
      clear HF2 HS2;go_wp2_with fail;refine(HEL2.out _).mono ?_;rintro e w2 ⟨rfl,hu2⟩;have HU9:=hid (show Und wr (w2.alloc (.cells #[.int .i64 1,.string tb,.int .i64 0] 36)) from hu2.alloc _);have HBX9:=hid (heap_alloc_at w2 (.cells #[.int .i64 1,.string tb,.int .i64 0] 36) w2.heap.size rfl);clear hu2;go_wp2_with fail;have hs9:(w2.alloc (.cells #[.int .i64 1,.string tb,.int .i64 0] 36)).heap.size=w2.heap.size+1:=by simp
      generalize w2.alloc (.cells #[.int .i64 1,.string tb,.int .i64 0] 36)=W9 at *;have c0:W9.cell? ⟨w2.heap.size,0,none⟩=some (.int .i64 1):=zcH HBX9.out 0;have hlt9:=lt_of_heap HBX9.out;refine(HCAT.out _ _ ?_ ?_).mono ?_
      ·exact((items_own HO8.out rfl).und HU9.out).und ((Und.refl _).alloc _)
      ·rw[<- htbl];exact items_boxi _ _ _ _ _ (by rw[<- hs9];simp) (by rw[<- hs9];simp) (by rw[<- hs9,ba_eta];simp) (by rw[<- hs9];simp)
      clear hs9;rintro e w3 ⟨v3,rfl,ho3,hu3⟩;obtain⟨A3,c3,rfl,_,_,_⟩:=own_slice' ho3;have hu4:Und wr w3:=HU9.out.trans (Und.trans ((by apply_rules[uUe,uUa,uUb,uUc,uUd])) hu3);have hu5:=HU.out.trans hu4;clear ho3 hu3 hu4 c0;go_wp2;refine bodyPost_ret (v:=.tuple #[.slice none 0 0,.slice none 0 0,.int .i64 a,.int .i64 3]) (by simp[results,Tryz.results63,go_sem]) rfl ?_;unfold RDecEnd;rw[HD2.out];exact⟨_,_,rfl,World.ownsRow_nil _ _ _ _,World.ownsRow_nil _ _ _ _,hu5⟩
     have z6:¬ ((1024:Int)<=(cuts.length:Int)):=by omega
     have HD2:=hid (HS2.out (by omega));clear HF2 HS2;go_wp2_with fail;refine(HEL2.out _).mono ?_;rintro e w2 ⟨rfl,hu2⟩;have HU9:=hid (show Und wr (w2.alloc (.cells #[.int .i64 1,.string tb,.int .i64 0] 36)) from hu2.alloc _);have HBX9:=hid (heap_alloc_at w2 (.cells #[.int .i64 1,.string tb,.int .i64 0] 36) w2.heap.size rfl);clear hu2;go_wp2_with fail;have hs9:(w2.alloc (.cells #[.int .i64 1,.string tb,.int .i64 0] 36)).heap.size=w2.heap.size+1:=by simp
     generalize w2.alloc (.cells #[.int .i64 1,.string tb,.int .i64 0] 36)=W9 at *;have c0:W9.cell? ⟨w2.heap.size,0,none⟩=some (.int .i64 1):=zcH HBX9.out 0;have hlt9:=lt_of_heap HBX9.out;refine(HCAT.out _ _ ?_ ?_).mono ?_
     ·exact((items_own HO8.out rfl).und HU9.out).und ((Und.refl _).alloc _)
     ·rw[<- htbl];exact items_boxi _ _ _ _ _ (by rw[<- hs9];simp) (by rw[<- hs9];simp) (by rw[<- hs9,ba_eta];simp) (by rw[<- hs9];simp)
     clear hs9;rintro e w3 ⟨v3,rfl,ho3,hu3⟩;obtain⟨A3,c3,rfl,_,_,_⟩:=own_slice' ho3;have hu4:Und wr w3:=HU9.out.trans (Und.trans ((by apply_rules[uUe,uUa,uUb,uUc,uUd])) hu3);have hu5:=HU.out.trans hu4;have hs4:=hu4.size;have HU5:=hid (HU.out.trans hu4);have HO10':=hid (own_und hu4 HO10.out);have HO9':=hid (own_und hu4 HO9.out);have HO3:=hid (own_low (base':=w.heap.size) ho3 (by have:=HU9.out.size;simp;omega));have hdis:∀ x,(Value.slice A3 g.length c3).ownBlock=some x->wr.heap.size<=x:=fun x hx=>by have:=owns_block ho3 x hx;have:=HU9.out.size;simp at *;omega
     have hb3:=(hu3.below.block w2.heap.size (by simp;omega)).trans ((heap_alloc_lt _ _ _ hlt9).trans HBX9.out);have hc:w3.cell? ⟨w2.heap.size,0,none⟩=some (.int .i64 1):=zcH hb3 0;have hc1:w3.cell? ⟨w2.heap.size,1,none⟩=some (.string tb):=zcH hb3 1;have hc2:w3.cell? ⟨w2.heap.size,2,none⟩=some (.int .i64 0):=zcH hb3 2;haveI:LtW w2.heap.size w3:=LtW.of (lt_of_heap hb3);have HDIS:=hid hdis;clear ho3 hu3 hdis hb3 c0 HBX9;go_wp2_with (at_builtin;refine wpList_append_own _ rfl _ _ 42 rfl w.heap.size 3 i0 (.int .i64 0) 1 8 Tryz.underlying42 hi hz0 hz1 hz2 rfl (by decide) (.slice A10 cuts.length c10) cuts.length (cellsN cuts) rfl ?_ _ 1 1 [.int .i64 d] rfl rfl ?_ ?_ (by unfold maxLen;omega) (by omega) ?_ ?_)
     ·exact own_und ((by apply_rules[uUe,uUa,uUb,uUc,uUd])) HO10'.out
     ·exact side1b _ _ _
     ·intro u hu';simp at hu';subst hu';rfl
     ·have:=HU5.out.size;simp;omega
     ·intro v' w5 ho5 hg5 _
      rw[<- cellsN_snoc] at ho5;have HU6:=hid ((HU5.out.alloc _).grown hg5 (fun g hg=>owns_block HO10'.out g hg));have hA:∀ {W:World} {v:Value} {n:Nat} {xs:List Value},Und w3 W->W.grownBy w5 (Value.slice A10 cuts.length c10).ownBlock->w3.ownsRow w.heap.size 36 3 v n xs->w5.ownsRow w.heap.size 36 3 v n xs:=fun hW h5 hv=>(own_und hW hv).kept h5 (rows_ne (own_und hW hv) (own_und hW HO10'.out) (by decide))
      have HO3':=hid (hA ((by apply_rules[uUe,uUa,uUb,uUc,uUd])) hg5 HO3.out);have HO9'':=hid (hA ((by apply_rules[uUe,uUa,uUb,uUc,uUd])) hg5 HO9'.out);have HO5:=hid ho5;clear hg5 ho5 hA;go_wp2;exact⟨⟨a+n,a+n,c,g,op,cuts++[d],fuel,congrArg (Value.int .i64) (by omega),congrArg (Value.int .i64) (by omega),rfl,hn3,by omega,HO3'.out,by simpa using HO9''.out,by simpa using HO5.out,HGN.out,by omega,by omega,by simp;omega,by simp;omega,by simp;omega,HS.out,HD2.out,HU6.out⟩,by simp[intOf];omega⟩
    ·have hst:St.stepT op c 5 t=some (0,op,c):=rfl
     have HCAT:=hid (HCT.out 0);have hadd:=HAD.out 0;have HF2:=hid (HFU.out _ _ _ hst);have HS2:=hid (HST.out _ _ _ hst);generalize hg:St.addI f (5,t,0)=g at *;obtain⟨hgn,hgt,hgl⟩:=hadd;have HGN:=hid hgn;clear hg hgn hst HAD HCT HFU HST HTG
     by_cases hb5:512<g.length
     ·have HD2:=hid (HF2.out (.inl hb5))
      have z5:((512:Int)<(g.length:Int)):=by omega
      clear HF2 HS2;go_wp2_with fail;refine(HEL2.out _).mono ?_;rintro e w2 ⟨rfl,hu2⟩;have HU9:=hid (show Und wr (w2.alloc (.cells #[.int .i64 5,.string tb,.int .i64 0] 36)) from hu2.alloc _);have HBX9:=hid (heap_alloc_at w2 (.cells #[.int .i64 5,.string tb,.int .i64 0] 36) w2.heap.size rfl);clear hu2;go_wp2_with fail;have hs9:(w2.alloc (.cells #[.int .i64 5,.string tb,.int .i64 0] 36)).heap.size=w2.heap.size+1:=by simp
      generalize w2.alloc (.cells #[.int .i64 5,.string tb,.int .i64 0] 36)=W9 at *;have c0:W9.cell? ⟨w2.heap.size,0,none⟩=some (.int .i64 5):=zcH HBX9.out 0;have hlt9:=lt_of_heap HBX9.out;refine(HCAT.out _ _ ?_ ?_).mono ?_
      ·exact((items_own HO8.out rfl).und HU9.out).und ((Und.refl _).alloc _)
      ·rw[<- htbl];exact items_boxi _ _ _ _ _ (by rw[<- hs9];simp) (by rw[<- hs9];simp) (by rw[<- hs9,ba_eta];simp) (by rw[<- hs9];simp)
      clear hs9;rintro e w3 ⟨v3,rfl,ho3,hu3⟩;obtain⟨A3,c3,rfl,_,_,_⟩:=own_slice' ho3;have hu4:Und wr w3:=HU9.out.trans (Und.trans ((by apply_rules[uUe,uUa,uUb,uUc,uUd])) hu3);have hu5:=HU.out.trans hu4;clear ho3 hu3 hu4 c0;go_wp2;refine bodyPost_ret (v:=.tuple #[.slice none 0 0,.slice none 0 0,.int .i64 a,.int .i64 3]) (by simp[results,Tryz.results63,go_sem]) rfl ?_;unfold RDecEnd;rw[HD2.out];exact⟨_,_,rfl,World.ownsRow_nil _ _ _ _,World.ownsRow_nil _ _ _ _,hu5⟩
     have z5:¬ ((512:Int)<(g.length:Int)):=by omega
     by_cases hb6:1024<=cuts.length
     ·have HD2:=hid (HF2.out (.inr hb6))
      have z6:((1024:Int)<=(cuts.length:Int)):=by omega
      clear HF2 HS2;go_wp2_with fail;refine(HEL2.out _).mono ?_;rintro e w2 ⟨rfl,hu2⟩;have HU9:=hid (show Und wr (w2.alloc (.cells #[.int .i64 5,.string tb,.int .i64 0] 36)) from hu2.alloc _);have HBX9:=hid (heap_alloc_at w2 (.cells #[.int .i64 5,.string tb,.int .i64 0] 36) w2.heap.size rfl);clear hu2;go_wp2_with fail;have hs9:(w2.alloc (.cells #[.int .i64 5,.string tb,.int .i64 0] 36)).heap.size=w2.heap.size+1:=by simp
      generalize w2.alloc (.cells #[.int .i64 5,.string tb,.int .i64 0] 36)=W9 at *;have c0:W9.cell? ⟨w2.heap.size,0,none⟩=some (.int .i64 5):=zcH HBX9.out 0;have hlt9:=lt_of_heap HBX9.out;refine(HCAT.out _ _ ?_ ?_).mono ?_
      ·exact((items_own HO8.out rfl).und HU9.out).und ((Und.refl _).alloc _)
      ·rw[<- htbl];exact items_boxi _ _ _ _ _ (by rw[<- hs9];simp) (by rw[<- hs9];simp) (by rw[<- hs9,ba_eta];simp) (by rw[<- hs9];simp)
      clear hs9;rintro e w3 ⟨v3,rfl,ho3,hu3⟩;obtain⟨A3,c3,rfl,_,_,_⟩:=own_slice' ho3;have hu4:Und wr w3:=HU9.out.trans (Und.trans ((by apply_rules[uUe,uUa,uUb,uUc,uUd])) hu3);have hu5:=HU.out.trans hu4;clear ho3 hu3 hu4 c0;go_wp2;refine bodyPost_ret (v:=.tuple #[.slice none 0 0,.slice none 0 0,.int .i64 a,.int .i64 3]) (by simp[results,Tryz.results63,go_sem]) rfl ?_;unfold RDecEnd;rw[HD2.out];exact⟨_,_,rfl,World.ownsRow_nil _ _ _ _,World.ownsRow_nil _ _ _ _,hu5⟩
     have z6:¬ ((1024:Int)<=(cuts.length:Int)):=by omega
     have HD2:=hid (HS2.out (by omega));clear HF2 HS2;go_wp2_with fail;refine(HEL2.out _).mono ?_;rintro e w2 ⟨rfl,hu2⟩;have HU9:=hid (show Und wr (w2.alloc (.cells #[.int .i64 5,.string tb,.int .i64 0] 36)) from hu2.alloc _);have HBX9:=hid (heap_alloc_at w2 (.cells #[.int .i64 5,.string tb,.int .i64 0] 36) w2.heap.size rfl);clear hu2;go_wp2_with fail;have hs9:(w2.alloc (.cells #[.int .i64 5,.string tb,.int .i64 0] 36)).heap.size=w2.heap.size+1:=by simp
     generalize w2.alloc (.cells #[.int .i64 5,.string tb,.int .i64 0] 36)=W9 at *;have c0:W9.cell? ⟨w2.heap.size,0,none⟩=some (.int .i64 5):=zcH HBX9.out 0;have hlt9:=lt_of_heap HBX9.out;refine(HCAT.out _ _ ?_ ?_).mono ?_
     ·exact((items_own HO8.out rfl).und HU9.out).und ((Und.refl _).alloc _)
     ·rw[<- htbl];exact items_boxi _ _ _ _ _ (by rw[<- hs9];simp) (by rw[<- hs9];simp) (by rw[<- hs9,ba_eta];simp) (by rw[<- hs9];simp)
     clear hs9;rintro e w3 ⟨v3,rfl,ho3,hu3⟩;obtain⟨A3,c3,rfl,_,_,_⟩:=own_slice' ho3;have hu4:Und wr w3:=HU9.out.trans (Und.trans ((by apply_rules[uUe,uUa,uUb,uUc,uUd])) hu3);have hu5:=HU.out.trans hu4;have hs4:=hu4.size;have HU5:=hid (HU.out.trans hu4);have HO10':=hid (own_und hu4 HO10.out);have HO9':=hid (own_und hu4 HO9.out);have HO3:=hid (own_low (base':=w.heap.size) ho3 (by have:=HU9.out.size;simp;omega));have hdis:∀ x,(Value.slice A3 g.length c3).ownBlock=some x->wr.heap.size<=x:=fun x hx=>by have:=owns_block ho3 x hx;have:=HU9.out.size;simp at *;omega
     have hb3:=(hu3.below.block w2.heap.size (by simp;omega)).trans ((heap_alloc_lt _ _ _ hlt9).trans HBX9.out);have hc:w3.cell? ⟨w2.heap.size,0,none⟩=some (.int .i64 5):=zcH hb3 0;have hc1:w3.cell? ⟨w2.heap.size,1,none⟩=some (.string tb):=zcH hb3 1;have hc2:w3.cell? ⟨w2.heap.size,2,none⟩=some (.int .i64 0):=zcH hb3 2;haveI:LtW w2.heap.size w3:=LtW.of (lt_of_heap hb3);have HDIS:=hid hdis;clear ho3 hu3 hdis hb3 c0 HBX9;go_wp2_with (at_builtin;refine wpList_append_own _ rfl _ _ 42 rfl w.heap.size 3 i0 (.int .i64 0) 1 8 Tryz.underlying42 hi hz0 hz1 hz2 rfl (by decide) (.slice A10 cuts.length c10) cuts.length (cellsN cuts) rfl ?_ _ 1 1 [.int .i64 d] rfl rfl ?_ ?_ (by unfold maxLen;omega) (by omega) ?_ ?_)
     ·exact own_und ((by apply_rules[uUe,uUa,uUb,uUc,uUd])) HO10'.out
     ·exact side1b _ _ _
     ·intro u hu';simp at hu';subst hu';rfl
     ·have:=HU5.out.size;simp;omega
     ·intro v' w5 ho5 hg5 _
      rw[<- cellsN_snoc] at ho5;have HU6:=hid ((HU5.out.alloc _).grown hg5 (fun g hg=>owns_block HO10'.out g hg));have hA:∀ {W:World} {v:Value} {n:Nat} {xs:List Value},Und w3 W->W.grownBy w5 (Value.slice A10 cuts.length c10).ownBlock->w3.ownsRow w.heap.size 36 3 v n xs->w5.ownsRow w.heap.size 36 3 v n xs:=fun hW h5 hv=>(own_und hW hv).kept h5 (rows_ne (own_und hW hv) (own_und hW HO10'.out) (by decide))
      have HO3':=hid (hA ((by apply_rules[uUe,uUa,uUb,uUc,uUd])) hg5 HO3.out);have HO9'':=hid (hA ((by apply_rules[uUe,uUa,uUb,uUc,uUd])) hg5 HO9'.out);have HO5:=hid ho5;clear hg5 ho5 hA;go_wp2;exact⟨⟨a+n,a+n,c,g,op,cuts++[d],fuel,congrArg (Value.int .i64) (by omega),congrArg (Value.int .i64) (by omega),rfl,hn3,by omega,HO3'.out,by simpa using HO9''.out,by simpa using HO5.out,HGN.out,by omega,by omega,by simp;omega,by simp;omega,by simp;omega,HS.out,HD2.out,HU6.out⟩,by simp[intOf];omega⟩
    ·have hst:St.stepT op c 2 t=some (((c:Int)+1),op++[(2,t,(c:Int)+1)],c+1):=rfl
     have HCAT:=hid (HCT.out ((c:Int)+1));have hadd:=HAD.out ((c:Int)+1);have HF2:=hid (HFU.out _ _ _ hst);have HS2:=hid (HST.out _ _ _ hst);generalize hg:St.addI f (2,t,((c:Int)+1))=g at *;obtain⟨hgn,hgt,hgl⟩:=hadd;have HGN:=hid hgn;clear hg hgn hst HAD HCT HFU HST HTG
     by_cases hb5:512<g.length
     ·have HD2:=hid (HF2.out (.inl hb5))
      have z5:((512:Int)<(g.length:Int)):=by omega
      clear HF2 HS2;go_wp2_with fail;refine(HEL2.out _).mono ?_;rintro e w2 ⟨rfl,hu2⟩;have HU9:=hid (show Und wr (w2.alloc (.cells #[.int .i64 2,.string tb,.int .i64 ((c:Int)+1)] 36)) from hu2.alloc _);have HBX9:=hid (heap_alloc_at w2 (.cells #[.int .i64 2,.string tb,.int .i64 ((c:Int)+1)] 36) w2.heap.size rfl);clear hu2;go_wp2_with fail;have hs9:(w2.alloc (.cells #[.int .i64 2,.string tb,.int .i64 ((c:Int)+1)] 36)).heap.size=w2.heap.size+1:=by simp
      generalize w2.alloc (.cells #[.int .i64 2,.string tb,.int .i64 ((c:Int)+1)] 36)=W9 at *;have c0:W9.cell? ⟨w2.heap.size,0,none⟩=some (.int .i64 2):=zcH HBX9.out 0;have hlt9:=lt_of_heap HBX9.out;refine(HCAT.out _ _ ?_ ?_).mono ?_
      ·exact((items_own HO8.out rfl).und HU9.out).und ((Und.refl _).alloc _)
      ·rw[<- htbl];exact items_boxi _ _ _ _ _ (by rw[<- hs9];simp) (by rw[<- hs9];simp) (by rw[<- hs9,ba_eta];simp) (by rw[<- hs9];simp)
      clear hs9;rintro e w3 ⟨v3,rfl,ho3,hu3⟩;obtain⟨A3,c3,rfl,_,_,_⟩:=own_slice' ho3;have hu4:Und wr w3:=HU9.out.trans (Und.trans ((by apply_rules[uUe,uUa,uUb,uUc,uUd])) hu3);have hu5:=HU.out.trans hu4;clear ho3 hu3 hu4 c0;go_wp2;refine bodyPost_ret (v:=.tuple #[.slice none 0 0,.slice none 0 0,.int .i64 a,.int .i64 3]) (by simp[results,Tryz.results63,go_sem]) rfl ?_;unfold RDecEnd;rw[HD2.out];exact⟨_,_,rfl,World.ownsRow_nil _ _ _ _,World.ownsRow_nil _ _ _ _,hu5⟩
     have z5:¬ ((512:Int)<(g.length:Int)):=by omega
     by_cases hb6:1024<=cuts.length
     ·have HD2:=hid (HF2.out (.inr hb6))
      have z6:((1024:Int)<=(cuts.length:Int)):=by omega
      clear HF2 HS2;go_wp2_with fail;refine(HEL2.out _).mono ?_;rintro e w2 ⟨rfl,hu2⟩;have HU9:=hid (show Und wr (w2.alloc (.cells #[.int .i64 2,.string tb,.int .i64 ((c:Int)+1)] 36)) from hu2.alloc _);have HBX9:=hid (heap_alloc_at w2 (.cells #[.int .i64 2,.string tb,.int .i64 ((c:Int)+1)] 36) w2.heap.size rfl);clear hu2;go_wp2_with fail;have hs9:(w2.alloc (.cells #[.int .i64 2,.string tb,.int .i64 ((c:Int)+1)] 36)).heap.size=w2.heap.size+1:=by simp
      generalize w2.alloc (.cells #[.int .i64 2,.string tb,.int .i64 ((c:Int)+1)] 36)=W9 at *;have c0:W9.cell? ⟨w2.heap.size,0,none⟩=some (.int .i64 2):=zcH HBX9.out 0;have hlt9:=lt_of_heap HBX9.out;refine(HCAT.out _ _ ?_ ?_).mono ?_
      ·exact((items_own HO8.out rfl).und HU9.out).und ((Und.refl _).alloc _)
      ·rw[<- htbl];exact items_boxi _ _ _ _ _ (by rw[<- hs9];simp) (by rw[<- hs9];simp) (by rw[<- hs9,ba_eta];simp) (by rw[<- hs9];simp)
      clear hs9;rintro e w3 ⟨v3,rfl,ho3,hu3⟩;obtain⟨A3,c3,rfl,_,_,_⟩:=own_slice' ho3;have hu4:Und wr w3:=HU9.out.trans (Und.trans ((by apply_rules[uUe,uUa,uUb,uUc,uUd])) hu3);have hu5:=HU.out.trans hu4;clear ho3 hu3 hu4 c0;go_wp2;refine bodyPost_ret (v:=.tuple #[.slice none 0 0,.slice none 0 0,.int .i64 a,.int .i64 3]) (by simp[results,Tryz.results63,go_sem]) rfl ?_;unfold RDecEnd;rw[HD2.out];exact⟨_,_,rfl,World.ownsRow_nil _ _ _ _,World.ownsRow_nil _ _ _ _,hu5⟩
     have z6:¬ ((1024:Int)<=(cuts.length:Int)):=by omega
     have HD2:=hid (HS2.out (by omega));clear HF2 HS2;go_wp2_with fail;refine(HEL2.out _).mono ?_;rintro e w2 ⟨rfl,hu2⟩;have HU9:=hid (show Und wr (w2.alloc (.cells #[.int .i64 2,.string tb,.int .i64 ((c:Int)+1)] 36)) from hu2.alloc _);have HBX9:=hid (heap_alloc_at w2 (.cells #[.int .i64 2,.string tb,.int .i64 ((c:Int)+1)] 36) w2.heap.size rfl);clear hu2;go_wp2_with fail;have hs9:(w2.alloc (.cells #[.int .i64 2,.string tb,.int .i64 ((c:Int)+1)] 36)).heap.size=w2.heap.size+1:=by simp
     generalize w2.alloc (.cells #[.int .i64 2,.string tb,.int .i64 ((c:Int)+1)] 36)=W9 at *;have c0:W9.cell? ⟨w2.heap.size,0,none⟩=some (.int .i64 2):=zcH HBX9.out 0;have hlt9:=lt_of_heap HBX9.out;refine(HCAT.out _ _ ?_ ?_).mono ?_
     ·exact((items_own HO8.out rfl).und HU9.out).und ((Und.refl _).alloc _)
     ·rw[<- htbl];exact items_boxi _ _ _ _ _ (by rw[<- hs9];simp) (by rw[<- hs9];simp) (by rw[<- hs9,ba_eta];simp) (by rw[<- hs9];simp)
     clear hs9;rintro e w3 ⟨v3,rfl,ho3,hu3⟩;obtain⟨A3,c3,rfl,_,_,_⟩:=own_slice' ho3;have hu4:Und wr w3:=HU9.out.trans (Und.trans ((by apply_rules[uUe,uUa,uUb,uUc,uUd])) hu3);have hu5:=HU.out.trans hu4;have hs4:=hu4.size;have HU5:=hid (HU.out.trans hu4);have HO10':=hid (own_und hu4 HO10.out);have HO9':=hid (own_und hu4 HO9.out);have HO3:=hid (own_low (base':=w.heap.size) ho3 (by have:=HU9.out.size;simp;omega));have hdis:∀ x,(Value.slice A3 g.length c3).ownBlock=some x->wr.heap.size<=x:=fun x hx=>by have:=owns_block ho3 x hx;have:=HU9.out.size;simp at *;omega
     have hb3:=(hu3.below.block w2.heap.size (by simp;omega)).trans ((heap_alloc_lt _ _ _ hlt9).trans HBX9.out);have hc:w3.cell? ⟨w2.heap.size,0,none⟩=some (.int .i64 2):=zcH hb3 0;have hc1:w3.cell? ⟨w2.heap.size,1,none⟩=some (.string tb):=zcH hb3 1;have hc2:w3.cell? ⟨w2.heap.size,2,none⟩=some (.int .i64 ((c:Int)+1)):=zcH hb3 2;haveI:LtW w2.heap.size w3:=LtW.of (lt_of_heap hb3);have HDIS:=hid hdis;clear ho3 hu3 hdis hb3 c0 HBX9;go_wp2_with (at_builtin;refine wpList_append_own2 rfl _ _ 37 rfl w.heap.size 36 j0 (.agg #[.int .i64 0,.string ⟨#[]⟩,.int .i64 0]) 3 32 Tryz.underlying37 ji jz0 jz1 jz2 rfl (by decide) (.slice A9 op.length c9) op.length (cellsIt op) rfl ?_ _ 1 1 [.int .i64 2,.string tb,.int .i64 ((c:Int)+1)] rfl rfl ?_ (item_one _ _ _) (by unfold maxLen;omega) (by omega) ?_ ?_)
     ·exact HO9'.out.alloc _
     ·exact side3b _ _ _ _ _ _ rfl
     ·have:=HU5.out.size;simp;omega
     intro v9 w4 ho9 hg9 hfr9;have hua:Und w3 (w3.alloc (.cells #[.int .i64 2,.string tb,.int .i64 ((c:Int)+1)] 36)):=(by apply_rules[uUe,uUa,uUb,uUc,uUd])
     have HO9n:=hid (show w4.ownsRow w.heap.size 36 3 v9 (op++[(2,t,(c:Int)+1)]).length (cellsIt (op++[(2,t,(c:Int)+1)])) by
      rw[cellsIt_snoc,List.length_append,List.length_singleton,<- htbl];simp only[ba_eta];exact ho9)
     have hne:(Value.slice A3 g.length c3).ownBlock=none∨(Value.slice A3 g.length c3).ownBlock ≠ (Value.slice A9 op.length c9).ownBlock:=by
      cases hb:(Value.slice A3 g.length c3).ownBlock with
      | none=>exact .inl rfl
      | some x=>
       refine .inr fun e=>?_
       have:=HDIS.out x hb
       have:=(HO9.out.lt x e.symm).2
       omega
     have HO3n:=hid ((own_und hua HO3.out).kept hg9 hne);have HO10n:=hid ((own_und hua HO10'.out).kept hg9 (rows_ne (own_und hua HO10'.out) (own_und hua HO9'.out) (by decide)));have HU5n:=hid ((HU5.out.alloc _).grown hg9 (fun g hg=>owns_block HO9'.out g hg));obtain⟨A9',c9',rfl,_⟩:=own_slice ho9;clear hg9 ho9 hfr9 hne hua hc hc1 hc2 HU5 HO3 HO10' HO9' HDIS;go_wp2_with (at_builtin;refine wpList_append_own _ rfl _ _ 42 rfl w.heap.size 3 i0 (.int .i64 0) 1 8 Tryz.underlying42 hi hz0 hz1 hz2 rfl (by decide) (.slice A10 cuts.length c10) cuts.length (cellsN cuts) rfl ?_ _ 1 1 [.int .i64 d] rfl rfl ?_ ?_ (by unfold maxLen;omega) (by omega) ?_ ?_)
     ·exact own_und ((by apply_rules[uUe,uUa,uUb,uUc,uUd])) HO10n.out
     ·exact side1b _ _ _
     ·intro u hu';simp at hu';subst hu';rfl
     ·have:=HU5n.out.size;simp;omega
     ·intro v' w5 ho5 hg5 _
      rw[<- cellsN_snoc] at ho5;have HU6:=hid ((HU5n.out.alloc _).grown hg5 (fun g hg=>owns_block HO10n.out g hg));have hA:∀ {W:World} {v:Value} {n:Nat} {xs:List Value},Und w4 W->W.grownBy w5 (Value.slice A10 cuts.length c10).ownBlock->w4.ownsRow w.heap.size 36 3 v n xs->w5.ownsRow w.heap.size 36 3 v n xs:=fun hW h5 hv=>(own_und hW hv).kept h5 (rows_ne (own_und hW hv) (own_und hW HO10n.out) (by decide))
      have HO3':=hid (hA ((by apply_rules[uUe,uUa,uUb,uUc,uUd])) hg5 HO3n.out);have HO9'':=hid (hA ((by apply_rules[uUe,uUa,uUb,uUc,uUd])) hg5 HO9n.out);have HO5:=hid ho5;clear hg5 ho5 hA;go_wp2;exact⟨⟨a+n,a+n,c+1,g,op++[(2,t,(c:Int)+1)],cuts++[d],fuel,congrArg (Value.int .i64) (by omega),congrArg (Value.int .i64) (by omega),congrArg (Value.int .i64) (by omega),hn3,by omega,HO3'.out,by simpa using HO9''.out,by simpa using HO5.out,HGN.out,by omega,by omega,by simp;omega,by simp;omega,by simp;omega,(fun o ho=>by rcases List.mem_append.1 ho with ho|ho;exact HS.out o ho;simp at ho;subst ho;show t.length<=_;omega),HD2.out,HU6.out⟩,by simp[intOf];omega⟩
    ·have hst:St.stepT op c 4 t=some (((c:Int)+1),op,c+1):=rfl
     have HCAT:=hid (HCT.out ((c:Int)+1));have hadd:=HAD.out ((c:Int)+1);have HF2:=hid (HFU.out _ _ _ hst);have HS2:=hid (HST.out _ _ _ hst);generalize hg:St.addI f (4,t,((c:Int)+1))=g at *;obtain⟨hgn,hgt,hgl⟩:=hadd;have HGN:=hid hgn;clear hg hgn hst HAD HCT HFU HST HTG
     by_cases hb5:512<g.length
     ·have HD2:=hid (HF2.out (.inl hb5))
      have z5:((512:Int)<(g.length:Int)):=by omega
      clear HF2 HS2;go_wp2_with fail;refine(HEL2.out _).mono ?_;rintro e w2 ⟨rfl,hu2⟩;have HU9:=hid (show Und wr (w2.alloc (.cells #[.int .i64 4,.string tb,.int .i64 ((c:Int)+1)] 36)) from hu2.alloc _);have HBX9:=hid (heap_alloc_at w2 (.cells #[.int .i64 4,.string tb,.int .i64 ((c:Int)+1)] 36) w2.heap.size rfl);clear hu2;go_wp2_with fail;have hs9:(w2.alloc (.cells #[.int .i64 4,.string tb,.int .i64 ((c:Int)+1)] 36)).heap.size=w2.heap.size+1:=by simp
      generalize w2.alloc (.cells #[.int .i64 4,.string tb,.int .i64 ((c:Int)+1)] 36)=W9 at *;have c0:W9.cell? ⟨w2.heap.size,0,none⟩=some (.int .i64 4):=zcH HBX9.out 0;have hlt9:=lt_of_heap HBX9.out;refine(HCAT.out _ _ ?_ ?_).mono ?_
      ·exact((items_own HO8.out rfl).und HU9.out).und ((Und.refl _).alloc _)
      ·rw[<- htbl];exact items_boxi _ _ _ _ _ (by rw[<- hs9];simp) (by rw[<- hs9];simp) (by rw[<- hs9,ba_eta];simp) (by rw[<- hs9];simp)
      clear hs9;rintro e w3 ⟨v3,rfl,ho3,hu3⟩;obtain⟨A3,c3,rfl,_,_,_⟩:=own_slice' ho3;have hu4:Und wr w3:=HU9.out.trans (Und.trans ((by apply_rules[uUe,uUa,uUb,uUc,uUd])) hu3);have hu5:=HU.out.trans hu4;clear ho3 hu3 hu4 c0;go_wp2;refine bodyPost_ret (v:=.tuple #[.slice none 0 0,.slice none 0 0,.int .i64 a,.int .i64 3]) (by simp[results,Tryz.results63,go_sem]) rfl ?_;unfold RDecEnd;rw[HD2.out];exact⟨_,_,rfl,World.ownsRow_nil _ _ _ _,World.ownsRow_nil _ _ _ _,hu5⟩
     have z5:¬ ((512:Int)<(g.length:Int)):=by omega
     by_cases hb6:1024<=cuts.length
     ·have HD2:=hid (HF2.out (.inr hb6))
      have z6:((1024:Int)<=(cuts.length:Int)):=by omega
      clear HF2 HS2;go_wp2_with fail;refine(HEL2.out _).mono ?_;rintro e w2 ⟨rfl,hu2⟩;have HU9:=hid (show Und wr (w2.alloc (.cells #[.int .i64 4,.string tb,.int .i64 ((c:Int)+1)] 36)) from hu2.alloc _);have HBX9:=hid (heap_alloc_at w2 (.cells #[.int .i64 4,.string tb,.int .i64 ((c:Int)+1)] 36) w2.heap.size rfl);clear hu2;go_wp2_with fail;have hs9:(w2.alloc (.cells #[.int .i64 4,.string tb,.int .i64 ((c:Int)+1)] 36)).heap.size=w2.heap.size+1:=by simp
      generalize w2.alloc (.cells #[.int .i64 4,.string tb,.int .i64 ((c:Int)+1)] 36)=W9 at *;have c0:W9.cell? ⟨w2.heap.size,0,none⟩=some (.int .i64 4):=zcH HBX9.out 0;have hlt9:=lt_of_heap HBX9.out;refine(HCAT.out _ _ ?_ ?_).mono ?_
      ·exact((items_own HO8.out rfl).und HU9.out).und ((Und.refl _).alloc _)
      ·rw[<- htbl];exact items_boxi _ _ _ _ _ (by rw[<- hs9];simp) (by rw[<- hs9];simp) (by rw[<- hs9,ba_eta];simp) (by rw[<- hs9];simp)
      clear hs9;rintro e w3 ⟨v3,rfl,ho3,hu3⟩;obtain⟨A3,c3,rfl,_,_,_⟩:=own_slice' ho3;have hu4:Und wr w3:=HU9.out.trans (Und.trans ((by apply_rules[uUe,uUa,uUb,uUc,uUd])) hu3);have hu5:=HU.out.trans hu4;clear ho3 hu3 hu4 c0;go_wp2;refine bodyPost_ret (v:=.tuple #[.slice none 0 0,.slice none 0 0,.int .i64 a,.int .i64 3]) (by simp[results,Tryz.results63,go_sem]) rfl ?_;unfold RDecEnd;rw[HD2.out];exact⟨_,_,rfl,World.ownsRow_nil _ _ _ _,World.ownsRow_nil _ _ _ _,hu5⟩
     have z6:¬ ((1024:Int)<=(cuts.length:Int)):=by omega
     have HD2:=hid (HS2.out (by omega));clear HF2 HS2;go_wp2_with fail;refine(HEL2.out _).mono ?_;rintro e w2 ⟨rfl,hu2⟩;have HU9:=hid (show Und wr (w2.alloc (.cells #[.int .i64 4,.string tb,.int .i64 ((c:Int)+1)] 36)) from hu2.alloc _);have HBX9:=hid (heap_alloc_at w2 (.cells #[.int .i64 4,.string tb,.int .i64 ((c:Int)+1)] 36) w2.heap.size rfl);clear hu2;go_wp2_with fail;have hs9:(w2.alloc (.cells #[.int .i64 4,.string tb,.int .i64 ((c:Int)+1)] 36)).heap.size=w2.heap.size+1:=by simp
     generalize w2.alloc (.cells #[.int .i64 4,.string tb,.int .i64 ((c:Int)+1)] 36)=W9 at *;have c0:W9.cell? ⟨w2.heap.size,0,none⟩=some (.int .i64 4):=zcH HBX9.out 0;have hlt9:=lt_of_heap HBX9.out;refine(HCAT.out _ _ ?_ ?_).mono ?_
     ·exact((items_own HO8.out rfl).und HU9.out).und ((Und.refl _).alloc _)
     ·rw[<- htbl];exact items_boxi _ _ _ _ _ (by rw[<- hs9];simp) (by rw[<- hs9];simp) (by rw[<- hs9,ba_eta];simp) (by rw[<- hs9];simp)
     clear hs9;rintro e w3 ⟨v3,rfl,ho3,hu3⟩;obtain⟨A3,c3,rfl,_,_,_⟩:=own_slice' ho3;have hu4:Und wr w3:=HU9.out.trans (Und.trans ((by apply_rules[uUe,uUa,uUb,uUc,uUd])) hu3);have hu5:=HU.out.trans hu4;have hs4:=hu4.size;have HU5:=hid (HU.out.trans hu4);have HO10':=hid (own_und hu4 HO10.out);have HO9':=hid (own_und hu4 HO9.out);have HO3:=hid (own_low (base':=w.heap.size) ho3 (by have:=HU9.out.size;simp;omega));have hdis:∀ x,(Value.slice A3 g.length c3).ownBlock=some x->wr.heap.size<=x:=fun x hx=>by have:=owns_block ho3 x hx;have:=HU9.out.size;simp at *;omega
     have hb3:=(hu3.below.block w2.heap.size (by simp;omega)).trans ((heap_alloc_lt _ _ _ hlt9).trans HBX9.out);have hc:w3.cell? ⟨w2.heap.size,0,none⟩=some (.int .i64 4):=zcH hb3 0;have hc1:w3.cell? ⟨w2.heap.size,1,none⟩=some (.string tb):=zcH hb3 1;have hc2:w3.cell? ⟨w2.heap.size,2,none⟩=some (.int .i64 ((c:Int)+1)):=zcH hb3 2;haveI:LtW w2.heap.size w3:=LtW.of (lt_of_heap hb3);have HDIS:=hid hdis;clear ho3 hu3 hdis hb3 c0 HBX9;go_wp2_with (at_builtin;refine wpList_append_own _ rfl _ _ 42 rfl w.heap.size 3 i0 (.int .i64 0) 1 8 Tryz.underlying42 hi hz0 hz1 hz2 rfl (by decide) (.slice A10 cuts.length c10) cuts.length (cellsN cuts) rfl ?_ _ 1 1 [.int .i64 d] rfl rfl ?_ ?_ (by unfold maxLen;omega) (by omega) ?_ ?_)
     ·exact own_und ((by apply_rules[uUe,uUa,uUb,uUc,uUd])) HO10'.out
     ·exact side1b _ _ _
     ·intro u hu';simp at hu';subst hu';rfl
     ·have:=HU5.out.size;simp;omega
     ·intro v' w5 ho5 hg5 _
      rw[<- cellsN_snoc] at ho5;have HU6:=hid ((HU5.out.alloc _).grown hg5 (fun g hg=>owns_block HO10'.out g hg));have hA:∀ {W:World} {v:Value} {n:Nat} {xs:List Value},Und w3 W->W.grownBy w5 (Value.slice A10 cuts.length c10).ownBlock->w3.ownsRow w.heap.size 36 3 v n xs->w5.ownsRow w.heap.size 36 3 v n xs:=fun hW h5 hv=>(own_und hW hv).kept h5 (rows_ne (own_und hW hv) (own_und hW HO10'.out) (by decide))
      have HO3':=hid (hA ((by apply_rules[uUe,uUa,uUb,uUc,uUd])) hg5 HO3.out);have HO9'':=hid (hA ((by apply_rules[uUe,uUa,uUb,uUc,uUd])) hg5 HO9'.out);have HO5:=hid ho5;clear hg5 ho5 hA;go_wp2;exact⟨⟨a+n,a+n,c+1,g,op,cuts++[d],fuel,congrArg (Value.int .i64) (by omega),congrArg (Value.int .i64) (by omega),congrArg (Value.int .i64) (by omega),hn3,by omega,HO3'.out,by simpa using HO9''.out,by simpa using HO5.out,HGN.out,by omega,by omega,by simp;omega,by simp;omega,by simp;omega,HS.out,HD2.out,HU6.out⟩,by simp[intOf];omega⟩
    ·rcases St.snoc_cases op with rfl|⟨o1,o,rfl⟩
     ·have HD2:=hid (HTG.out rfl)
      simp only[List.length_nil];clear HTG HFU HST HCT HAD;go_wp2_with fail;refine(HEL2.out _).mono ?_;rintro e w2 ⟨rfl,hu2⟩;have hu2':=hid hu2;clear hu2;go_wp2_with fail
      first|refine wp_region_under2 (by kernel_rfl) (by kernel_rfl) ?_|refine wp_region_under (by kernel_rfl) (by kernel_rfl) ?_
      repeat (go_big_quiet_step (first|(fail)))
      refine wpQuiet_nil ?_;rintro _ ⟨X,rfl⟩;have hu3:Und w (under (w2.alloc (.cells #[.int .i64 3,.string tb,.int .i64 0] 36)) X):=HU.out.trans (hu2'.out.trans (by apply_rules[uUe,uUa,uUb,uUc,uUd]));clear hu2';go_wp2;refine bodyPost_ret (v:=.tuple #[.slice none 0 0,.slice none 0 0,.int .i64 a,.int .i64 7]) (by simp[results,Tryz.results63,go_sem]) rfl ?_;unfold RDecEnd;rw[HD2.out];exact⟨_,_,rfl,World.ownsRow_nil _ _ _ _,World.ownsRow_nil _ _ _ _,hu3⟩
     obtain⟨m,hm⟩:∃ m,o1.length=m:=⟨_,rfl⟩;have hol:(o1++[o]).length=m+1:=by simp[hm]
     have ho3:=HO9.out;rw[hol] at ho3;obtain⟨gb,rfl,hgB,hgl',hgc⟩:=own_cell ho3 (by omega);have hom:(o1++[o])[m]?=some o:=by rw[<- hm];simp
     have hcs:=cellsIt_at (o1++[o]) m (by rw[hol];omega);have hgm:(o1++[o])[m]'(by rw[hol];omega)=o:=Option.some.inj ((List.getElem?_eq_getElem (by rw[hol];omega)).symm.trans hom);rw[hgm] at hcs;have i1:=hgc _ _ hcs.2.1;have i2:=hgc _ _ hcs.2.2;have hot:o.2.1.length<=4611686018427387904:=by have:=HS.out o (by simp);omega
     obtain⟨ok,ot,oi⟩:=o;simp only at i1 i2 hot;haveI:LtW gb wr:=LtW.of hgl';have z0:¬ ((m:Int)<0):=by omega
     have z3:(m:Int)<((m+1:Nat):Int):=by omega
     have hm1:m<=2000:=by rw[hol] at h3;omega
     obtain⟨hc9a,hc9b⟩:m+1<=c9/\c9<=maxLen:=by
      obtain⟨_,_,e,ha,hb⟩:=own_slice ho3;simp only[Value.slice.injEq] at e;obtain⟨_,_,rfl⟩:=e;exact⟨ha,hb⟩
     have HOL:=hid hol;have HNM:=hid (fun W=>rname_u ot W (by omega));have HM:=hid hm
     have HO9s:=hid (show wr.ownsRow w.heap.size 36 3 (.slice (some ⟨gb,0,none⟩) o1.length c9) o1.length (cellsIt o1) by
      have hsh:=own_shorter ho3 m (by omega);have hot2:(cellsIt (o1++[(ok,ot,oi)])).take (m*3)=cellsIt o1:=by rw[cellsIt_snoc,List.take_left' (by rw[cells_len,hm])]
      rw[hot2] at hsh
      rw[hm];exact hsh)
     rw[hol] at h3;simp only[hol];clear hcs hgc hom hgm hol ho3 hm;obtain⟨sb,hsb⟩:∃ sb:ByteArray,(⟨ot.toArray⟩:ByteArray)=sb:=⟨_,rfl⟩;obtain⟨nb,hnb⟩:∃ nb:ByteArray,(⟨(St.nameOf ot).toArray⟩:ByteArray)=nb:=⟨_,rfl⟩;rw[hsb,hnb] at HNM;rw[hsb] at i1;have hnl:nb.data.toList=St.nameOf ot:=by rw[<- hnb]
     clear hsb hnb;obtain⟨bq,hq⟩:∃ bq,(nb.toList != tb.toList)=bq:=⟨_,rfl⟩
     have hst0:St.stepT (o1++[(ok,ot,oi)]) c 3 t=if bq then none else some (oi,o1,c):=by
      unfold St.stepT;simp only[if_true,List.getLast?_append,List.getLast?_singleton,Option.some_or,List.dropLast_concat];cases bq
      ·rw[bne_eq_false_iff_eq,Lib.toList_data,Lib.toList_data,hnl,htbl] at hq
       rw[if_pos hq];rfl
      ·rw[bne_iff_ne,Lib.toList_data,Lib.toList_data,hnl,htbl] at hq
       rw[if_neg hq];rfl
     clear hnl;cases bq;rotate_left 1
     ·have HD2:=hid (HTG.out hst0)
      clear hst0 HTG HFU HST HCT HAD;have hqe:(nb.toList==tb.toList)=false:=by simpa using hq
      have hqf:(!(nb.toList==tb.toList))=true:=hq;go_wp2_with fail;refine(HEL2.out _).mono ?_;rintro e w2 ⟨rfl,hu2⟩;have hw2s:wr.heap.size<=w2.heap.size:=hu2.size;have l1:w2.cell? ⟨gb,m*3+1,none⟩=some (.string sb):=(hu2.cell (p:=⟨gb,m*3+1,none⟩) hgl').trans i1;haveI:LtW gb w2:=LtW.of (Nat.lt_of_lt_of_le hgl' hu2.size);have hu2':=hid hu2;clear hu2;go_wp2_with fail;have z0':(decide ((m:Int)<0))=false:=decide_eq_false (by omega)
      first|refine wp_region_under2 (by kernel_rfl) (by kernel_rfl) ?_|refine wp_region_under (by kernel_rfl) (by kernel_rfl) ?_
      repeat (go_big_quiet_step (first|(go_at_call 105;exact Calls.under_of (HNM.out _))))
      refine wpQuiet_nil ?_;rintro _ ⟨X,rfl⟩;clear z0';have hI:Und (w2.alloc (.cells #[.int .i64 3,.string tb,.int .i64 0] 36)) (under (w2.alloc (.cells #[.int .i64 3,.string tb,.int .i64 0] 36)) X):=⟨X,rfl⟩;generalize under (w2.alloc (.cells #[.int .i64 3,.string tb,.int .i64 0] 36)) X=W at *;have HUW:=hid ((hu2'.out.alloc _).trans hI);have HUX:=hid (HU.out.trans HUW.out);have HBXW:=hid ((hI.below.block w2.heap.size (by simp)).trans (heap_alloc_at w2 (.cells #[.int .i64 3,.string tb,.int .i64 0] 36) w2.heap.size rfl));clear hI;go_wp2;refine bodyPost_ret (v:=.tuple #[.slice none 0 0,.slice none 0 0,.int .i64 a,.int .i64 7]) (by simp[results,Tryz.results63,go_sem]) rfl ?_;unfold RDecEnd;rw[HD2.out];exact⟨_,_,rfl,World.ownsRow_nil _ _ _ _,World.ownsRow_nil _ _ _ _,HUX.out⟩
     have hst:St.stepT (o1++[(ok,ot,oi)]) c 3 t=some (oi,o1,c):=hst0;have hqe:(nb.toList==tb.toList)=true:=by simpa using hq
     have hqf:(!(nb.toList==tb.toList))=false:=hq;clear hst0;have HCAT:=hid (HCT.out oi);have hadd:=HAD.out oi;have HF2:=hid (HFU.out _ _ _ hst);have HS2:=hid (HST.out _ _ _ hst);generalize hg:St.addI f (3,t,oi)=g at *;obtain⟨hgn,hgt,hgl⟩:=hadd;have HGN:=hid hgn;clear hg hgn hst HAD HCT HFU HST HTG
     by_cases hb5:512<g.length
     ·have HD2:=hid (HF2.out (.inl hb5))
      have z5:((512:Int)<(g.length:Int)):=by omega
      clear HF2 HS2;go_wp2_with fail;refine(HEL2.out _).mono ?_;rintro e w2 ⟨rfl,hu2⟩;have hw2s:wr.heap.size<=w2.heap.size:=hu2.size;have l1:w2.cell? ⟨gb,m*3+1,none⟩=some (.string sb):=(hu2.cell (p:=⟨gb,m*3+1,none⟩) hgl').trans i1;haveI:LtW gb w2:=LtW.of (Nat.lt_of_lt_of_le hgl' hu2.size);have hu2':=hid hu2;clear hu2;go_wp2_with fail;have z0':(decide ((m:Int)<0))=false:=decide_eq_false (by omega)
      first|refine wp_region_under2 (by kernel_rfl) (by kernel_rfl) ?_|refine wp_region_under (by kernel_rfl) (by kernel_rfl) ?_
      repeat (go_big_quiet_step (first|(go_at_call 105;exact Calls.under_of (HNM.out _))))
      refine wpQuiet_nil ?_;rintro _ ⟨X,rfl⟩;clear z0';have hI:Und (w2.alloc (.cells #[.int .i64 3,.string tb,.int .i64 0] 36)) (under (w2.alloc (.cells #[.int .i64 3,.string tb,.int .i64 0] 36)) X):=⟨X,rfl⟩;generalize under (w2.alloc (.cells #[.int .i64 3,.string tb,.int .i64 0] 36)) X=W at *;have HUW:=hid ((hu2'.out.alloc _).trans hI);have HUX:=hid (HU.out.trans HUW.out);have HBXW:=hid ((hI.below.block w2.heap.size (by simp)).trans (heap_alloc_at w2 (.cells #[.int .i64 3,.string tb,.int .i64 0] 36) w2.heap.size rfl));clear hI;have q2:W.cell? ⟨gb,m*3+2,none⟩=some (.int .i64 oi):=(HUW.out.cell (p:=⟨gb,m*3+2,none⟩) hgl').trans i2;have x0:W.cell? ⟨w2.heap.size,0,none⟩=some (.int .i64 3):=zcH HBXW.out 0;have x1:W.cell? ⟨w2.heap.size,1,none⟩=some (.string tb):=zcH HBXW.out 1;have x2:W.cell? ⟨w2.heap.size,2,none⟩=some (.int .i64 0):=zcH HBXW.out 2;have xf2:W.frozen? ⟨w2.heap.size,2,none⟩=false:=zfH HBXW.out 2;haveI:LtW w2.heap.size W:=LtW.of (lt_of_heap HBXW.out);haveI:LtW gb W:=LtW.of (Nat.lt_of_lt_of_le hgl' HUW.out.size);have HU9:=hid (HUW.out.setCell (p:=⟨w2.heap.size,2,none⟩) hw2s (.int .i64 oi));have HBX9:=hid (heap_setCell_same _ _ 2 _ _ (.int .i64 oi) HBXW.out);go_wp2_with fail;have hs9:(W.setCell ⟨w2.heap.size,2,none⟩ (.int .i64 oi)).heap.size=W.heap.size:=by simp
      generalize W.setCell ⟨w2.heap.size,2,none⟩ (.int .i64 oi)=W9 at *;have c0:W9.cell? ⟨w2.heap.size,0,none⟩=some (.int .i64 3):=zcH HBX9.out 0;have hlt9:=lt_of_heap HBX9.out;refine(HCAT.out _ _ ?_ ?_).mono ?_
      ·exact((items_own HO8.out rfl).und HU9.out).und ((Und.refl _).alloc _)
      ·rw[<- htbl];exact items_boxi _ _ _ _ _ (by rw[<- hs9];simp) (by rw[<- hs9];simp) (by rw[<- hs9,ba_eta];simp) (by rw[<- hs9];simp)
      clear hs9;rintro e w3 ⟨v3,rfl,ho3,hu3⟩;obtain⟨A3,c3,rfl,_,_,_⟩:=own_slice' ho3;have hu4:Und wr w3:=HU9.out.trans (Und.trans ((by apply_rules[uUe,uUa,uUb,uUc,uUd])) hu3);have hu5:=HU.out.trans hu4;clear ho3 hu3 hu4 c0;go_wp2;refine bodyPost_ret (v:=.tuple #[.slice none 0 0,.slice none 0 0,.int .i64 a,.int .i64 3]) (by simp[results,Tryz.results63,go_sem]) rfl ?_;unfold RDecEnd;rw[HD2.out];exact⟨_,_,rfl,World.ownsRow_nil _ _ _ _,World.ownsRow_nil _ _ _ _,hu5⟩
     have z5:¬ ((512:Int)<(g.length:Int)):=by omega
     by_cases hb6:1024<=cuts.length
     ·have HD2:=hid (HF2.out (.inr hb6))
      have z6:((1024:Int)<=(cuts.length:Int)):=by omega
      clear HF2 HS2;go_wp2_with fail;refine(HEL2.out _).mono ?_;rintro e w2 ⟨rfl,hu2⟩;have hw2s:wr.heap.size<=w2.heap.size:=hu2.size;have l1:w2.cell? ⟨gb,m*3+1,none⟩=some (.string sb):=(hu2.cell (p:=⟨gb,m*3+1,none⟩) hgl').trans i1;haveI:LtW gb w2:=LtW.of (Nat.lt_of_lt_of_le hgl' hu2.size);have hu2':=hid hu2;clear hu2;go_wp2_with fail;have z0':(decide ((m:Int)<0))=false:=decide_eq_false (by omega)
      first|refine wp_region_under2 (by kernel_rfl) (by kernel_rfl) ?_|refine wp_region_under (by kernel_rfl) (by kernel_rfl) ?_
      repeat (go_big_quiet_step (first|(go_at_call 105;exact Calls.under_of (HNM.out _))))
      refine wpQuiet_nil ?_;rintro _ ⟨X,rfl⟩;clear z0';have hI:Und (w2.alloc (.cells #[.int .i64 3,.string tb,.int .i64 0] 36)) (under (w2.alloc (.cells #[.int .i64 3,.string tb,.int .i64 0] 36)) X):=⟨X,rfl⟩;generalize under (w2.alloc (.cells #[.int .i64 3,.string tb,.int .i64 0] 36)) X=W at *;have HUW:=hid ((hu2'.out.alloc _).trans hI);have HUX:=hid (HU.out.trans HUW.out);have HBXW:=hid ((hI.below.block w2.heap.size (by simp)).trans (heap_alloc_at w2 (.cells #[.int .i64 3,.string tb,.int .i64 0] 36) w2.heap.size rfl));clear hI;have q2:W.cell? ⟨gb,m*3+2,none⟩=some (.int .i64 oi):=(HUW.out.cell (p:=⟨gb,m*3+2,none⟩) hgl').trans i2;have x0:W.cell? ⟨w2.heap.size,0,none⟩=some (.int .i64 3):=zcH HBXW.out 0;have x1:W.cell? ⟨w2.heap.size,1,none⟩=some (.string tb):=zcH HBXW.out 1;have x2:W.cell? ⟨w2.heap.size,2,none⟩=some (.int .i64 0):=zcH HBXW.out 2;have xf2:W.frozen? ⟨w2.heap.size,2,none⟩=false:=zfH HBXW.out 2;haveI:LtW w2.heap.size W:=LtW.of (lt_of_heap HBXW.out);haveI:LtW gb W:=LtW.of (Nat.lt_of_lt_of_le hgl' HUW.out.size);have HU9:=hid (HUW.out.setCell (p:=⟨w2.heap.size,2,none⟩) hw2s (.int .i64 oi));have HBX9:=hid (heap_setCell_same _ _ 2 _ _ (.int .i64 oi) HBXW.out);go_wp2_with fail;have hs9:(W.setCell ⟨w2.heap.size,2,none⟩ (.int .i64 oi)).heap.size=W.heap.size:=by simp
      generalize W.setCell ⟨w2.heap.size,2,none⟩ (.int .i64 oi)=W9 at *;have c0:W9.cell? ⟨w2.heap.size,0,none⟩=some (.int .i64 3):=zcH HBX9.out 0;have hlt9:=lt_of_heap HBX9.out;refine(HCAT.out _ _ ?_ ?_).mono ?_
      ·exact((items_own HO8.out rfl).und HU9.out).und ((Und.refl _).alloc _)
      ·rw[<- htbl];exact items_boxi _ _ _ _ _ (by rw[<- hs9];simp) (by rw[<- hs9];simp) (by rw[<- hs9,ba_eta];simp) (by rw[<- hs9];simp)
      clear hs9;rintro e w3 ⟨v3,rfl,ho3,hu3⟩;obtain⟨A3,c3,rfl,_,_,_⟩:=own_slice' ho3;have hu4:Und wr w3:=HU9.out.trans (Und.trans ((by apply_rules[uUe,uUa,uUb,uUc,uUd])) hu3);have hu5:=HU.out.trans hu4;clear ho3 hu3 hu4 c0;go_wp2;refine bodyPost_ret (v:=.tuple #[.slice none 0 0,.slice none 0 0,.int .i64 a,.int .i64 3]) (by simp[results,Tryz.results63,go_sem]) rfl ?_;unfold RDecEnd;rw[HD2.out];exact⟨_,_,rfl,World.ownsRow_nil _ _ _ _,World.ownsRow_nil _ _ _ _,hu5⟩
     have z6:¬ ((1024:Int)<=(cuts.length:Int)):=by omega
     have HD2:=hid (HS2.out (by omega));clear HF2 HS2;go_wp2_with fail;refine(HEL2.out _).mono ?_;rintro e w2 ⟨rfl,hu2⟩;have hw2s:wr.heap.size<=w2.heap.size:=hu2.size;have l1:w2.cell? ⟨gb,m*3+1,none⟩=some (.string sb):=(hu2.cell (p:=⟨gb,m*3+1,none⟩) hgl').trans i1;haveI:LtW gb w2:=LtW.of (Nat.lt_of_lt_of_le hgl' hu2.size);have hu2':=hid hu2;clear hu2;go_wp2_with fail;have z0':(decide ((m:Int)<0))=false:=decide_eq_false (by omega)
     first|refine wp_region_under2 (by kernel_rfl) (by kernel_rfl) ?_|refine wp_region_under (by kernel_rfl) (by kernel_rfl) ?_
     repeat (go_big_quiet_step (first|(go_at_call 105;exact Calls.under_of (HNM.out _))))
     refine wpQuiet_nil ?_;rintro _ ⟨X,rfl⟩;clear z0';have hI:Und (w2.alloc (.cells #[.int .i64 3,.string tb,.int .i64 0] 36)) (under (w2.alloc (.cells #[.int .i64 3,.string tb,.int .i64 0] 36)) X):=⟨X,rfl⟩;generalize under (w2.alloc (.cells #[.int .i64 3,.string tb,.int .i64 0] 36)) X=W at *;have HUW:=hid ((hu2'.out.alloc _).trans hI);have HUX:=hid (HU.out.trans HUW.out);have HBXW:=hid ((hI.below.block w2.heap.size (by simp)).trans (heap_alloc_at w2 (.cells #[.int .i64 3,.string tb,.int .i64 0] 36) w2.heap.size rfl));clear hI;have q2:W.cell? ⟨gb,m*3+2,none⟩=some (.int .i64 oi):=(HUW.out.cell (p:=⟨gb,m*3+2,none⟩) hgl').trans i2;have x0:W.cell? ⟨w2.heap.size,0,none⟩=some (.int .i64 3):=zcH HBXW.out 0;have x1:W.cell? ⟨w2.heap.size,1,none⟩=some (.string tb):=zcH HBXW.out 1;have x2:W.cell? ⟨w2.heap.size,2,none⟩=some (.int .i64 0):=zcH HBXW.out 2;have xf2:W.frozen? ⟨w2.heap.size,2,none⟩=false:=zfH HBXW.out 2;haveI:LtW w2.heap.size W:=LtW.of (lt_of_heap HBXW.out);haveI:LtW gb W:=LtW.of (Nat.lt_of_lt_of_le hgl' HUW.out.size);have HU9:=hid (HUW.out.setCell (p:=⟨w2.heap.size,2,none⟩) hw2s (.int .i64 oi));have HBX9:=hid (heap_setCell_same _ _ 2 _ _ (.int .i64 oi) HBXW.out);go_wp2_with fail;have hs9:(W.setCell ⟨w2.heap.size,2,none⟩ (.int .i64 oi)).heap.size=W.heap.size:=by simp
     generalize W.setCell ⟨w2.heap.size,2,none⟩ (.int .i64 oi)=W9 at *;have c0:W9.cell? ⟨w2.heap.size,0,none⟩=some (.int .i64 3):=zcH HBX9.out 0;have hlt9:=lt_of_heap HBX9.out;refine(HCAT.out _ _ ?_ ?_).mono ?_
     ·exact((items_own HO8.out rfl).und HU9.out).und ((Und.refl _).alloc _)
     ·rw[<- htbl];exact items_boxi _ _ _ _ _ (by rw[<- hs9];simp) (by rw[<- hs9];simp) (by rw[<- hs9,ba_eta];simp) (by rw[<- hs9];simp)
     clear hs9;rintro e w3 ⟨v3,rfl,ho3,hu3⟩;obtain⟨A3,c3,rfl,_,_,_⟩:=own_slice' ho3;have hu4:Und wr w3:=HU9.out.trans (Und.trans ((by apply_rules[uUe,uUa,uUb,uUc,uUd])) hu3);have hu5:=HU.out.trans hu4;have hs4:=hu4.size;have HU5:=hid (HU.out.trans hu4);have HO10':=hid (own_und hu4 HO10.out);have HO9':=hid (own_und hu4 HO9s.out);have HO3:=hid (own_low (base':=w.heap.size) ho3 (by have:=HU9.out.size;simp;omega));have hdis:∀ x,(Value.slice A3 g.length c3).ownBlock=some x->wr.heap.size<=x:=fun x hx=>by have:=owns_block ho3 x hx;have:=HU9.out.size;simp at *;omega
     have hb3:=(hu3.below.block w2.heap.size (by simp;omega)).trans ((heap_alloc_lt _ _ _ hlt9).trans HBX9.out);have hc:w3.cell? ⟨w2.heap.size,0,none⟩=some (.int .i64 3):=zcH hb3 0;have hc1:w3.cell? ⟨w2.heap.size,1,none⟩=some (.string tb):=zcH hb3 1;have hc2:w3.cell? ⟨w2.heap.size,2,none⟩=some (.int .i64 oi):=zcH hb3 2;haveI:LtW w2.heap.size w3:=LtW.of (lt_of_heap hb3);have HDIS:=hid hdis;clear ho3 hu3 hdis hb3 c0 HBX9;go_wp2_with (at_builtin;refine wpList_append_own _ rfl _ _ 42 rfl w.heap.size 3 i0 (.int .i64 0) 1 8 Tryz.underlying42 hi hz0 hz1 hz2 rfl (by decide) (.slice A10 cuts.length c10) cuts.length (cellsN cuts) rfl ?_ _ 1 1 [.int .i64 d] rfl rfl ?_ ?_ (by unfold maxLen;omega) (by omega) ?_ ?_)
     ·exact own_und ((by apply_rules[uUe,uUa,uUb,uUc,uUd])) HO10'.out
     ·exact side1b _ _ _
     ·intro u hu';simp at hu';subst hu';rfl
     ·have:=HU5.out.size;simp;omega
     ·intro v' w5 ho5 hg5 _
      rw[<- cellsN_snoc] at ho5;have HU6:=hid ((HU5.out.alloc _).grown hg5 (fun g hg=>owns_block HO10'.out g hg));have hA:∀ {W:World} {v:Value} {n:Nat} {xs:List Value},Und w3 W->W.grownBy w5 (Value.slice A10 cuts.length c10).ownBlock->w3.ownsRow w.heap.size 36 3 v n xs->w5.ownsRow w.heap.size 36 3 v n xs:=fun hW h5 hv=>(own_und hW hv).kept h5 (rows_ne (own_und hW hv) (own_und hW HO10'.out) (by decide))
      have HO3':=hid (hA ((by apply_rules[uUe,uUa,uUb,uUc,uUd])) hg5 HO3.out);have HO9'':=hid (hA ((by apply_rules[uUe,uUa,uUb,uUc,uUd])) hg5 HO9'.out);have HO5:=hid ho5;clear hg5 ho5 hA;go_wp2;have hm':=HM.out;subst hm';exact⟨⟨a+n,a+n,c,g,o1,cuts++[d],fuel,congrArg (Value.int .i64) (by omega),congrArg (Value.int .i64) (by omega),rfl,hn3,by omega,HO3'.out,by simpa using HO9''.out,by simpa using HO5.out,HGN.out,by omega,by omega,by simp;omega,by simp;omega,by simp;omega,(fun o ho=>HS.out o (by simp[ho])),HD2.out,HU6.out⟩,by simp[intOf];omega⟩
  ·have haz:a=raw.size:=by omega
   subst haz;have hnil:raw.data.toList.drop raw.size=[]:=List.drop_of_length_le (by simp);have hd2:=HD.out;rw[hnil,St.decT_nil] at hd2;unfold St.endT at hd2;have HD2:=hid hd2;obtain⟨A9,c9,rfl,_,_,hA9⟩:=own_slice' hO9;obtain⟨A10,c10,rfl,_,_,hA10⟩:=own_slice' hO10;have hsz2:=HU.out.size;clear hlt hD HD hu hnil hd2 hO8 hO9 hO10
   by_cases hop:op=[]
   rotate_left 1
   ·have z1:(0:Int)<(op.length:Int):=by have:=List.length_pos_iff.2 hop;omega
    have HD3:=hid (show St.decT E raw.size raw.data.toList 0 0 [] [] [] 0=([],[],raw.size,7) by rw[HD2.out,if_neg hop]);clear hop;go_wp2;refine bodyPost_ret (v:=.tuple #[.slice none 0 0,.slice none 0 0,.int .i64 raw.size,.int .i64 7]) (by simp[results,Tryz.results63,go_sem]) rfl ?_;unfold RDecEnd;rw[HD3.out];exact⟨_,_,rfl,World.ownsRow_nil _ _ _ _,World.ownsRow_nil _ _ _ _,HU.out⟩
   subst hop;have HD3:=hid (show St.decT E raw.size raw.data.toList 0 0 [] [] [] 0=(f,cuts++[d],0,0) by rw[HD2.out,if_pos rfl]);simp only[List.length_nil];go_wp2_with (at_builtin;refine wpList_append_own _ rfl _ _ 42 rfl w.heap.size 3 i0 (.int .i64 0) 1 8 Tryz.underlying42 hi hz0 hz1 hz2 rfl (by decide) (.slice A10 cuts.length c10) cuts.length (cellsN cuts) rfl ?_ _ 1 1 [.int .i64 d] rfl rfl ?_ ?_ (by unfold maxLen;omega) (by omega) ?_ ?_)
   any_goals (first|exact own_und ((by apply_rules[uUe,uUa,uUb,uUc,uUd])) HO10.out|exact side1b _ _ _|(intro u hu';simp at hu';subst hu';rfl)|rfl|omega|(simp;omega))
   intro v' w5 ho5 hg5 _;rw[<- cellsN_snoc] at ho5;have HU6:=hid ((HU.out.alloc _).grown hg5 (fun g hg=>owns_block HO10.out g hg));have hA:∀ {W:World} {v:Value},Und wr W->W.grownBy w5 (Value.slice A10 cuts.length c10).ownBlock->wr.ownsRow w.heap.size 36 3 v f.length (cellsIt f)->w5.ownsRow w.heap.size 36 3 v f.length (cellsIt f):=fun hW h5 hv=>(own_und hW hv).kept h5 (rows_ne (own_und hW hv) (own_und hW HO10.out) (by decide))
   have HO3':=hid (hA ((by apply_rules[uUe,uUa,uUb,uUc,uUd])) hg5 HO8.out);have HO5:=hid ho5;clear hg5 ho5 hA;go_wp2;refine bodyPost_ret (v:=.tuple #[_,v',.int .i64 0,.int .i64 0]) (by simp[results,Tryz.results63,go_sem];rfl) rfl ?_;unfold RDecEnd;rw[HD3.out];exact⟨_,_,rfl,HO3'.out,by simpa using HO5.out,HU6.out⟩
end Go.Proofs.YthoemdibbldndaaGreatDoor
