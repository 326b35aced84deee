/- The contract of the maker Fragment without tags: joined items of texts and placeholders. -/
import Derived.Test.YtcfhfdphoidaeaaGreatDoorGF
import Derived.LoopN
import Derived.Test.YtcfhfdphoidaeaaGreatDoorRdsA
import Derived.Test.YtcfhfdphoidaeaaGreatDoorBoxI
import Derived.BigQuiet
import Derived.IntWalk
import Derived.Deep.RegionHeld3
import Derived.OrdersHeld
set_option linter.unusedVariables false
set_option linter.unusedSimpArgs false
set_option maxHeartbeats 12800000
set_option maxRecDepth 20000
namespace Go.Proofs.YtcfhfdphoidaeaaGreatDoor
open Go.RowKit
section
end
section
theorem rg_norm2{P:Program}{md:Region.Mode}{ops:Array Oper}{Q:Exit->Act->World->Prop}{fuel:Nat}{l l':Array Bool}{a:Act}{w:World}(h:l=l')(hw:wpAny P md ops Q fuel l' a w):wpAny P md ops Q fuel l a w:=by subst h;exact hw
theorem step_append_items{ops:Array Oper}{o:Oper}{a:Act}{w:World}{K:Act->World->Prop}{Q:Exit->Act->World->Prop}{E:Prop}(hgd:o.guard=none)(s x:Operand)
  (ho:o.op=.call { callee:=.builtin .append,args:=#[s,x],argTypes:=#[24,24] })
  (base:Nat) (v:Value) (n:Nat) (O:List St.It) (hs:a.eval s=v) (hown:w.ownsRow base 66 3 v n (cellsIt O))
  (ad:Addr) (m c:Nat) (f:List St.It) (hx:a.eval x=.slice (some ad) m c) (hI:ItemsAt w (some ad) f) (hm:f.length=m) (h63:n+m<=200000) (hbase:base<=w.heap.size)
  (h:∀ v' w',w'.ownsRow base 66 3 v' (n+m) (cellsIt (O++f))->w.grownBy w' v.ownBlock->K (a.put o.dst v') w'):if Region.wanted o (yielded ops a.tmps)=true then Oper.wp Tryz.prog o a w K Q else E:=by
 obtain⟨i0,hi,hz0,hz1,hz2⟩:=info_parts info_item;refine step_append_own hgd s x 24 ho base 66 i0 (.agg #[.int .i64 0,.string ⟨#[]⟩,.int .i64 0]) 3 32 Tryz.underlying24 hi hz0 hz1 hz2 rfl (by decide) v n _ hs hown ad m c (cellsIt f) hx (by rw[cells_len,hm]) hI.cells (cellsIt_one f) (by unfold maxLen;omega) (by omega) hbase ?_;intro v' w' ho' hg _;exact h v' w' (by rw[cellsIt_append];exact ho') hg
theorem items_drop{w:World}{b off:Nat}{f:List St.It}(h:ItemsAt w (some ⟨b,off,none⟩) f)(q:Nat):ItemsAt w (some ⟨b,off+q*3,none⟩) (f.drop q):=by
 intro h0;simp at h0;obtain⟨b',off',e,hb,hc⟩:=h (by omega);obtain⟨rfl,rfl⟩:b=b'/\off=off':=by simp at e;exact e
 refine⟨b,off+q*3,rfl,hb,fun j hj=>?_⟩;simp at hj;have:=hc (q+j) (by omega)
 simp only[List.getElem_drop];rw[show off+q*3+j*3=off+(q+j)*3 by omega];exact this
theorem step_callF2{P:Program}{ops:Array Oper}{o:Oper}{a:Act}{w:World}{K:Act->World->Prop}{Q:Exit->Act->World->Prop}{E:Prop}
  (hg:o.guard=none) (f:FuncId) (args:Array Value) (Po:Ending->World->Prop) (hc:Calls P f args w Po)
  (hrun:(execOp a.eval o).run P w=.ok (.enter f args) w) (hK:∀ e w',Po e w'->∃ v,e=.returned v/\K (a.put o.dst v) w') :
  if Region.wanted o (yielded ops a.tmps)=true then Oper.wp P o a w K Q else E:=by
 have hw:Region.wanted o (yielded ops a.tmps)=true:=by simp[Region.wanted,hg]
 rw[if_pos hw];unfold Oper.wp;rw[hrun];refine hc.mono ?_;intro e w' hp;obtain⟨v,rfl,hk⟩:=hK e w' hp;exact hk
theorem dis_of{W':World}{H e e' n n' b:Nat}{v9 v10:Value}{xs xs':List Value}{w2:World}(h9:W'.ownsRow H e 3 v9 n xs)(h10:w2.ownsRow b e' 3 v10 n' xs')(hH:w2.heap.size<=H):v9.ownBlock=none∨v9.ownBlock ≠ v10.ownBlock:=by
 cases h:v9.ownBlock with
 | none=>exact .inl rfl
 | some x=>
  refine .inr fun e=>?_
  have h1:=owns_block h9 x h;have h2:=(h10.lt x e.symm).2;omega
def FtRel(w:World)(B g P n:Nat)(ns:Bool)(s9 s10 s11 s12:Value)(wr:World):Prop:=∃ (i k c:Nat) (f op:List St.It),s12=.int .i64 i/\s11=.int .i64 c/\k+i<=n/\wr.ownsRow w.heap.size 66 3 s9 f.length (cellsIt f)/\wr.ownsRow w.heap.size 66 3 s10 op.length (cellsIt op)/\(s9.ownBlock=none∨s9.ownBlock ≠ s10.ownBlock)/\St.GenT ns f op c/\f.length<=k/\op.length<=k/\c<=k/\tot f<=18*k/\GenP wr B g (P+1+9*k)/\w.grownBy wr (some g)
def FragTEnd(w:World)(B g P n:Nat)(ns:Bool)(e:Ending)(w':World):Prop:=∃ (v:Value) (f op:List St.It) (c:Nat),e=.returned v/\w'.ownsRow w.heap.size 66 3 v f.length (cellsIt f)/\St.GenT ns f op c/\f.length<=n/\tot f<=18*n/\GenP w' B g (P+1+9*n)/\w.grownBy w' (some g)
end
section
theorem rgH_norm2{P:Program}{md:Region.Mode}{ops:Array Oper}{Q:Exit->Act->World->Prop}{S:World->Prop}{fuel:Nat}{l l':Array Bool}{a:Act}{w:World}(h:l=l')(hw:wpAnyH P md ops Q S fuel l' a w):wpAnyH P md ops Q S fuel l a w:=by subst h;exact hw
theorem step_append_items2{ops:Array Oper}{o:Oper}{a:Act}{w:World}{K:Act->World->Prop}{Q:Exit->Act->World->Prop}{E:Prop}(hgd:o.guard=none)(s x:Operand)
  (ho:o.op=.call { callee:=.builtin .append,args:=#[s,x],argTypes:=#[24,24] })
  (base:Nat) (v:Value) (n:Nat) (O:List St.It) (hs:a.eval s=v) (hown:w.ownsRow base 66 3 v n (cellsIt O))
  (ad:Addr) (m c:Nat) (f:List St.It) (hx:a.eval x=.slice (some ad) m c) (hI:ItemsAt w (some ad) f) (hm:f.length=m) (h63:n+m<=200000) (hbase:base<=w.heap.size)
  (h:∀ v' w',w'.ownsRow base 66 3 v' (n+m) (cellsIt (O++f))->w.grownBy w' v.ownBlock->Fresh w v v'->K (a.put o.dst v') w'):if Region.wanted o (yielded ops a.tmps)=true then Oper.wp Tryz.prog o a w K Q else E:=by
 obtain⟨i0,hi,hz0,hz1,hz2⟩:=info_parts info_item;refine step_append_own2 hgd s x 24 ho base 66 i0 (.agg #[.int .i64 0,.string ⟨#[]⟩,.int .i64 0]) 3 32 Tryz.underlying24 hi hz0 hz1 hz2 rfl (by decide) v n _ hs hown ad m c (cellsIt f) hx (by rw[cells_len,hm]) hI.cells (cellsIt_one f) (by unfold maxLen;omega) (by omega) hbase ?_;intro v' w' ho' hg hf;exact h v' w' (by rw[cellsIt_append];exact ho') hg hf
theorem genT_pop{f op:List St.It}{c q:Nat}(h:St.GenT true f (op.take (q+1)) c)(hq:q<op.length):St.GenT true (f++[(3,St.nameOf op[q].2.1,op[q].2.2)]) (op.take q) c:=by
 have hl:(op.take (q+1)).length=q+1:=by simp;omega
 have:=St.GenT.closed (ns:=true) q (by omega) (fun _=>hl.symm) h
 rw[St.addI_tag (show (3:Int) ≠ 1 by decide)] at this;have e1:(op.take (q+1))[q]'(by omega)=op[q]:=by simp
 have e2:(op.take (q+1)).take q++(op.take (q+1)).drop (q+1)=op.take q:=by
  rw[List.drop_of_length_le (by omega),List.append_nil,List.take_take];congr 1;omega
 rw[e1,e2] at this;exact this
def FnRel(w:World)(B g P n:Nat)(op:List St.It)(v10:Value)(c:Nat)(s9 s15:Value)(wr:World):Prop:=∃ (j:Nat) (z:Int) (f:List St.It),s15=.int .i64 z/\z=(j:Int)-1/\j<=op.length/\wr.ownsRow w.heap.size 66 3 s9 f.length (cellsIt f)/\wr.ownsRow w.heap.size 66 3 v10 op.length (cellsIt op)/\(s9.ownBlock=none∨s9.ownBlock ≠ v10.ownBlock)/\St.GenT true f (op.take j) c/\f.length+j<=2*n/\tot f+5*j<=23*n/\GenP wr B g (P+1+9*n)/\w.grownBy wr (some g)
def FragNEnd(w:World)(B g P n:Nat)(e:Ending)(w':World):Prop:=∃ (v:Value) (f:List St.It) (c:Nat),e=.returned v/\w'.ownsRow w.heap.size 66 3 v f.length (cellsIt f)/\St.GenT true f [] c/\f.length<=2*n/\tot f<=23*n/\c<=n/\GenP w' B g (P+1+9*n)/\w.grownBy w' (some g)
def FragEndW(w:World)(B g P n:Nat)(ns:Bool)(e:Ending)(w':World):Prop:=cond ns (FragNEnd w B g P n e w') (FragTEnd w B g P n false e w')
theorem fragw_gen(ns:Bool)(B g P n:Nat)(w:World)(hG:GenP w B g P)(hP:P<=100000)(hn:n<=100) :
  Calls Tryz.prog 5 #[.pointer (some ⟨g,0,none⟩),.int .i64 n,.bool true,.bool ns] w (FragEndW w B g P n ns):=by
 have HG:=hid hG;obtain⟨hgB,hB⟩:=hG.lt;obtain⟨i0,hi,hz0,hz1,hz2⟩:=info_parts info_item;clear hG;go_enter Tryz.func5,Tryz.ntmps5;go_wp2_with fail;refine(next_gen B g P ((n:Int)+1) _ HG.out (by omega) (by omega) (by omega)).mono ?_;rintro e w2 ⟨r,rfl,hr,hG2,hk⟩;have HG2:=hid hG2;have HK2:=hid hk;clear hG2 hk HG;go_wp2_with fail;go_loopw [9,10,11,12] (fun s9 s10 s11 s12 wr=>FtRel w B g P n ns s9 s10 s11 s12 wr) (fun _ _ _ s12 _=>(intOf s12).toNat)
 case atStart=>exact⟨r,0,0,[],[],rfl,rfl,by omega,World.ownsRow_nil _ _ _ _,World.ownsRow_nil _ _ _ _,.inl rfl,.nil,by simp,by simp,by omega,by simp[tot],HG2.out,HK2.out⟩
 case round=>
  clear HG2 HK2 hr;obtain⟨i,k,c,f,op,rfl,rfl,hki,hown,hownp,hdis,hgen,hfl,hol,hck,hft,hG,hk⟩:=hrel;have HG:=hid hG;have HK:=hid hk;have HO:=hid hown;have HP:=hid hownp;have HD:=hid hdis;have HGN:=hid hgen;clear hG hk hown hownp hdis hgen
  by_cases hi9:0<i
  ·have z:(0:Int)<(i:Int):=by omega
   obtain⟨wo,rfl⟩:∃ wo:World,wo=wr:=⟨_,rfl⟩;go_wp2_with fail;refine(line_gen B g _ 3 _ HG.out (by omega) (by omega)).mono ?_;rintro e w3 ⟨t,rfl,hts,hG3,hk3⟩;have HG3:=hid hG3;have HK3:=hid (gb_trans HK.out hk3 (fun _ e=>.inl e));have HO3:=hid (own_gb HO.out hk3 (by omega));have HP3:=hid (own_gb HP.out hk3 (by omega));clear hG3 hk3 HG HK HO HP;have hsz3:=HK3.out.size;obtain⟨A9,c9,rfl,_,_,hA9⟩:=own_slice' HO3.out;obtain⟨A10,c10,rfl,h10c,h10m,hA10⟩:=own_slice' HP3.out;have hlt3:∀ x,(Value.slice A9 f.length c9).ownBlock=some x->x<w3.heap.size:=fun x hx=>(HO3.out.lt x hx).2
   have hlt3p:∀ x,(Value.slice A10 op.length c10).ownBlock=some x->x<w3.heap.size:=fun x hx=>(HP3.out.lt x hx).2
   have hcat:∀ (W:World) (b:Nat) (x:St.It),ItemsAt W A9 f->ItemsAt W (some ⟨b,0,none⟩) [x]->tot (f++[x])<=4611686018427387904->Calls Tryz.prog 22 #[.slice A9 f.length c9,.slice (some ⟨b,0,none⟩) 1 1] W fun e w'=>∃ v,e=.returned v/\w'.ownsRow W.heap.size 66 3 v (St.addI f x).length (cellsIt (St.addI f x))/\Und W w':=by
    intro W b x h h' ht;have:=concat_any A9 f.length c9 f (some ⟨b,0,none⟩) 1 1 [x] W rfl rfl (fun e=>by have:=hA9 e;omega) (fun e=>by cases e) h h' (by omega) ht
    rw[St.normL_snoc,HGN.out.nm] at this;exact this
   have HCAT:=hid hcat;clear hcat
   have fin:∀ (x:St.It) (v7 v10:Value) (w6 w7:World) (op':List St.It) (c':Nat) (s11:Value),s11=.int .i64 (c':Nat)->St.GenT ns (St.addI f x) op' c'->x.2.1.length<=18->op'.length<=op.length+1->c'<=c+1->w7.ownsRow w6.heap.size 66 3 v7 (St.addI f x).length (cellsIt (St.addI f x))->w6.ownsRow w.heap.size 66 3 v10 op'.length (cellsIt op')->Und w6 w7->w.heap.size<=w6.heap.size->GenP w7 B g (P+1+9*(k+1))->w.grownBy w7 (some g)->FtRel w B g P n ns v7 v10 s11 (.int .i64 ((i:Int)-1)) w7:=by
    intro x v7 v10 w6 w7 op' c' s11 hs11 hg hx ho' hc' ho7 ho10 hu7 hwz hG hk;have h1:=(St.addI_len f x).1;have h2:=tot_add f x;exact⟨i-1,k+1,c',St.addI f x,op',congrArg (Value.int .i64) (by omega),hs11,by omega,own_low ho7 hwz,own_und hu7 ho10,dis_of ho7 ho10 (Nat.le_refl _),hg,by omega,by omega,by omega,by omega,hG,hk⟩
   have FIN:=hid fin;clear fin;have hgs:g<w3.heap.size:=by omega
   go_wp2_with fail;refine(next_gen B g _ 8 _ (HG3.out.und ((Und.refl _).alloc _)) (by omega) (by omega) (by omega)).mono ?_;rintro e w4 ⟨r,rfl,hr,hG4,hk4⟩;have HG4:=hid hG4;have HK4:=hid (gb_trans (gb_und HK3.out ((Und.refl _).alloc (.cells #[.int .i64 1,.string t,.int .i64 0] 66))) hk4 (fun _ e=>.inl e));have HO4:=hid (own_gb (HO3.out.alloc (.cells #[.int .i64 1,.string t,.int .i64 0] 66)) hk4 (by omega));have HP4:=hid (own_gb (HP3.out.alloc (.cells #[.int .i64 1,.string t,.int .i64 0] 66)) hk4 (by omega));have hb4:w4.heap[w3.heap.size]?=some (Obj.cells #[.int .i64 1,.string t,.int .i64 0] 66 (0,0)):=(hk4.block w3.heap.size (by simp) (by simp;omega)).trans (heap_alloc_new w3 _);have hsz4:w3.heap.size<w4.heap.size:=lt_of_heap hb4;have d0:w4.cell? ⟨w3.heap.size,0,none⟩=some (.int .i64 1):=zcH hb4 0;have d1:w4.cell? ⟨w3.heap.size,1,none⟩=some (.string t):=zcH hb4 1;have d2:w4.cell? ⟨w3.heap.size,2,none⟩=some (.int .i64 0):=zcH hb4 2;haveI:LtW w3.heap.size w4:=LtW.of hsz4;have hr8:r<8:=by omega
   clear hG4 hk4 HG3 HK3 HO3 HP3 hr;rcases(show (r=0∨r=1)∨r=2∨(r=3∨r=4)∨(r=5∨r=6)∨r=7 by omega) with h|h|h|h|h
   ·rcases h with h|h
    all_goals
     subst h;clear hr8 d0 d1 d2;go_wp2_with fail;refine(next_gen B g _ 3 _ (HG4.out.und ((Und.refl _).alloc (.cells #[.string ⟨#[110]⟩,.string ⟨#[110,97,109,101]⟩,.string ⟨#[120,49]⟩] 9))) (by omega) (by omega) (by omega)).mono ?_;rintro e w5 ⟨q,rfl,hq,hG5,hk5⟩
     obtain⟨u,hu,hus,hun⟩:∃ u:ByteArray,(#[.string ⟨#[110]⟩,.string ⟨#[110,97,109,101]⟩,.string ⟨#[120,49]⟩]:Array Value)[q]?=some (.string u)/\u.size<=5/\St.isNameL u.data.toList=true:=by
      rcases(show q=0∨q=1∨q=2 by omega) with h|h|h <;> subst h <;> exact⟨_,rfl,by decide,by decide⟩
     have hcell:=lit_cell w4 w5 _ _ B g hk5 hgB (by omega) q _ hu;have HG5:=hid hG5;have HK5:=hid (gb_trans (gb_und HK4.out ((Und.refl _).alloc (.cells #[.string ⟨#[110]⟩,.string ⟨#[110,97,109,101]⟩,.string ⟨#[120,49]⟩] 9))) hk5 (fun _ e=>.inl e));have HO5:=hid (own_gb (HO4.out.alloc (.cells #[.string ⟨#[110]⟩,.string ⟨#[110,97,109,101]⟩,.string ⟨#[120,49]⟩] 9)) hk5 (by omega));have HP5:=hid (own_gb (HP4.out.alloc (.cells #[.string ⟨#[110]⟩,.string ⟨#[110,97,109,101]⟩,.string ⟨#[120,49]⟩] 9)) hk5 (by omega));have hb5:w5.heap[w3.heap.size]?=some (Obj.cells #[.int .i64 1,.string t,.int .i64 0] 66 (0,0)):=(hk5.block w3.heap.size (by simp;omega) (by simp;omega)).trans ((((Und.refl w4).alloc _).below.block w3.heap.size hsz4).trans hb4);haveI:LtW w4.heap.size w5:=LtW.of (zbL _ _ hcell);have hq3:q<3:=by omega
     have f0:w5.frozen? ⟨w3.heap.size,0,none⟩=false:=zfH hb5 0;have f1:w5.frozen? ⟨w3.heap.size,1,none⟩=false:=zfH hb5 1;have f2:w5.frozen? ⟨w3.heap.size,2,none⟩=false:=zfH hb5 2;have g0:w5.cell? ⟨w3.heap.size,0,none⟩=some (.int .i64 1):=zcH hb5 0;have g1:w5.cell? ⟨w3.heap.size,1,none⟩=some (.string t):=zcH hb5 1;have g2:w5.cell? ⟨w3.heap.size,2,none⟩=some (.int .i64 0):=zcH hb5 2;haveI:LtW w3.heap.size w5:=LtW.of (lt_of_heap hb5);have hob:(Value.slice A9 f.length c9).ownBlock ≠ some w3.heap.size:=fun e=>by have:=hlt3 _ e;omega
     have hobp:(Value.slice A10 op.length c10).ownBlock ≠ some w3.heap.size:=fun e=>by have:=hlt3p _ e;omega
     have hkey:∀ W,W=((w5.setCell ⟨w3.heap.size,0,none⟩ (.int .i64 5)).setCell ⟨w3.heap.size,1,none⟩ (.string u)).setCell ⟨w3.heap.size,2,none⟩ (.int .i64 0)->W.ownsRow w.heap.size 66 3 (.slice A9 f.length c9) f.length (cellsIt f)/\W.ownsRow w.heap.size 66 3 (.slice A10 op.length c10) op.length (cellsIt op)/\GenP W B g (P+1+9*(k+1))/\w.grownBy W (some g)/\W.heap.size=w5.heap.size/\W.heap[w3.heap.size]?=some (Obj.cells #[.int .i64 5,.string u,.int .i64 0] 66 (0,0)):=by
      intro W hW;subst hW;have hBb:∀ x,some w3.heap.size=some x->B<=x:=fun x e=>by cases e;omega
      refine⟨own_set (own_set (own_set HO5.out hob) hob) hob,own_set (own_set (own_set HP5.out hobp) hobp) hobp,?_,gb_setCell (gb_setCell (gb_setCell HK5.out _ _ (.inr (by show w.heap.size<=w3.heap.size;omega))) _ _ (.inr (by show w.heap.size<=w3.heap.size;omega))) _ _ (.inr (by show w.heap.size<=w3.heap.size;omega)),by simp,heap_setCell_same _ w3.heap.size 2 _ _ _ (heap_setCell_same _ w3.heap.size 1 _ _ _ (heap_setCell_same w5 w3.heap.size 0 _ _ _ hb5))⟩;exact(((HG5.out.gb (gb_set w5 ⟨w3.heap.size,0,none⟩ _) hBb).gb (gb_set _ ⟨w3.heap.size,1,none⟩ _) hBb).gb (gb_set _ ⟨w3.heap.size,2,none⟩ _) hBb).le (by omega)
     have HKEY:=hid (hkey _ rfl);have hne5:=HKEY.out.2.2.1.lt.2;clear hG5 hk5 HG4 HK4 HO4 HP4 hkey hu hq;go_wp2_with fail;refine(HCAT.out _ _ (5,u.data.toList,0) ?_ ?_ ?_).mono ?_
     ·exact(items_own HKEY.out.1 rfl).und ((Und.refl _).alloc _)
     ·rw[<- ba_eta u];exact items_box _ _ _ _ (by simp) (by rw[World.cell?_alloc_at _ _ _ _ (by simp)];rfl) (by rw[World.cell?_alloc_at _ _ _ _ (by simp)];rfl) (by rw[World.cell?_alloc_at _ _ _ _ (by simp)];rfl)
     ·rw[tot_snoc];simp;omega
     rintro e w7 ⟨v7,rfl,ho7,hu7⟩;have hrel:=FIN.out (5,u.data.toList,0) v7 _ _ w7 op c _ rfl (HGN.out.slot _ hun) (by simp;omega) (by omega) (by omega) ho7 (HKEY.out.2.1.alloc _) hu7 (by have:=HKEY.out.2.2.2.1.size;simp at this ⊢;omega) ((HKEY.out.2.2.1.und ((Und.refl _).alloc _)).und hu7) (gb_und HKEY.out.2.2.2.1 (((Und.refl _).alloc _).trans hu7));have HREL:=hid hrel;clear hrel ho7 hu7 hcell;go_wp2;exact⟨HREL.out,by simp[intOf];omega⟩
   ·subst h
    clear hr8 d0 d1 d2;go_wp2_with fail;refine(next_gen B g _ 2 _ (HG4.out.und ((Und.refl _).alloc (.cells #[.string ⟨#[98,114]⟩,.string ⟨#[105,109,103,32,97]⟩] 9))) (by omega) (by omega) (by omega)).mono ?_;rintro e w5 ⟨q,rfl,hq,hG5,hk5⟩
    obtain⟨u,hu,hus,hun⟩:∃ u:ByteArray,(#[.string ⟨#[98,114]⟩,.string ⟨#[105,109,103,32,97]⟩]:Array Value)[q]?=some (.string u)/\u.size<=5/\u.data.toList ∈ St.tg4:=by
     rcases(show q=0∨q=1 by omega) with h|h <;> subst h <;> exact⟨_,rfl,by decide,by decide⟩
    have hcell:=lit_cell w4 w5 _ _ B g hk5 hgB (by omega) q _ hu;have HG5:=hid hG5;have HK5:=hid (gb_trans (gb_und HK4.out ((Und.refl _).alloc (.cells #[.string ⟨#[98,114]⟩,.string ⟨#[105,109,103,32,97]⟩] 9))) hk5 (fun _ e=>.inl e));have HO5:=hid (own_gb (HO4.out.alloc (.cells #[.string ⟨#[98,114]⟩,.string ⟨#[105,109,103,32,97]⟩] 9)) hk5 (by omega));have HP5:=hid (own_gb (HP4.out.alloc (.cells #[.string ⟨#[98,114]⟩,.string ⟨#[105,109,103,32,97]⟩] 9)) hk5 (by omega));have hb5:w5.heap[w3.heap.size]?=some (Obj.cells #[.int .i64 1,.string t,.int .i64 0] 66 (0,0)):=(hk5.block w3.heap.size (by simp;omega) (by simp;omega)).trans ((((Und.refl w4).alloc _).below.block w3.heap.size hsz4).trans hb4);haveI:LtW w4.heap.size w5:=LtW.of (zbL _ _ hcell);have hq3:q<2:=by omega
    have f0:w5.frozen? ⟨w3.heap.size,0,none⟩=false:=zfH hb5 0;have f1:w5.frozen? ⟨w3.heap.size,1,none⟩=false:=zfH hb5 1;have f2:w5.frozen? ⟨w3.heap.size,2,none⟩=false:=zfH hb5 2;have g0:w5.cell? ⟨w3.heap.size,0,none⟩=some (.int .i64 1):=zcH hb5 0;have g1:w5.cell? ⟨w3.heap.size,1,none⟩=some (.string t):=zcH hb5 1;have g2:w5.cell? ⟨w3.heap.size,2,none⟩=some (.int .i64 0):=zcH hb5 2;haveI:LtW w3.heap.size w5:=LtW.of (lt_of_heap hb5);have hob:(Value.slice A9 f.length c9).ownBlock ≠ some w3.heap.size:=fun e=>by have:=hlt3 _ e;omega
    have hobp:(Value.slice A10 op.length c10).ownBlock ≠ some w3.heap.size:=fun e=>by have:=hlt3p _ e;omega
    have hkey:∀ W,W=((w5.setCell ⟨w3.heap.size,0,none⟩ (.int .i64 4)).setCell ⟨w3.heap.size,1,none⟩ (.string u)).setCell ⟨w3.heap.size,2,none⟩ (.int .i64 ((c:Int)+1))->W.ownsRow w.heap.size 66 3 (.slice A9 f.length c9) f.length (cellsIt f)/\W.ownsRow w.heap.size 66 3 (.slice A10 op.length c10) op.length (cellsIt op)/\GenP W B g (P+1+9*(k+1))/\w.grownBy W (some g)/\W.heap.size=w5.heap.size/\W.heap[w3.heap.size]?=some (Obj.cells #[.int .i64 4,.string u,.int .i64 ((c:Int)+1)] 66 (0,0)):=by
     intro W hW;subst hW;have hBb:∀ x,some w3.heap.size=some x->B<=x:=fun x e=>by cases e;omega
     refine⟨own_set (own_set (own_set HO5.out hob) hob) hob,own_set (own_set (own_set HP5.out hobp) hobp) hobp,?_,gb_setCell (gb_setCell (gb_setCell HK5.out _ _ (.inr (by show w.heap.size<=w3.heap.size;omega))) _ _ (.inr (by show w.heap.size<=w3.heap.size;omega))) _ _ (.inr (by show w.heap.size<=w3.heap.size;omega)),by simp,heap_setCell_same _ w3.heap.size 2 _ _ _ (heap_setCell_same _ w3.heap.size 1 _ _ _ (heap_setCell_same w5 w3.heap.size 0 _ _ _ hb5))⟩;exact(((HG5.out.gb (gb_set w5 ⟨w3.heap.size,0,none⟩ _) hBb).gb (gb_set _ ⟨w3.heap.size,1,none⟩ _) hBb).gb (gb_set _ ⟨w3.heap.size,2,none⟩ _) hBb).le (by omega)
    have HKEY:=hid (hkey _ rfl);have hne5:=HKEY.out.2.2.1.lt.2;clear hG5 hk5 HG4 HK4 HO4 HP4 hkey hu hq;go_wp2_with fail;refine(HCAT.out _ _ (4,u.data.toList,(c:Int)+1) ?_ ?_ ?_).mono ?_
    ·exact(items_own HKEY.out.1 rfl).und ((Und.refl _).alloc _)
    ·rw[<- ba_eta u];exact items_boxi _ _ _ _ _ (by simp) (by rw[World.cell?_alloc_at _ _ _ _ (by simp)];rfl) (by rw[World.cell?_alloc_at _ _ _ _ (by simp)];rfl) (by rw[World.cell?_alloc_at _ _ _ _ (by simp)];rfl)
    ·rw[tot_snoc];simp;omega
    rintro e w7 ⟨v7,rfl,ho7,hu7⟩;have hrel:=FIN.out (4,u.data.toList,(c:Int)+1) v7 _ _ w7 op (c+1) (.int .i64 ((c:Int)+1)) rfl (HGN.out.empty _ hun) (by simp;omega) (by omega) (by omega) ho7 (HKEY.out.2.1.alloc _) hu7 (by have:=HKEY.out.2.2.2.1.size;simp at this ⊢;omega) ((HKEY.out.2.2.1.und ((Und.refl _).alloc _)).und hu7) (gb_und HKEY.out.2.2.2.1 (((Und.refl _).alloc _).trans hu7));have HREL:=hid hrel;clear hrel ho7 hu7 hcell;go_wp2;exact⟨HREL.out,by simp[intOf];omega⟩
   ·rcases h with h|h
    all_goals
     subst h;clear hr8 d0 d1 d2;go_wp2_with fail;refine(next_gen B g _ 3 _ (HG4.out.und ((Und.refl _).alloc (.cells #[.string ⟨#[98]⟩,.string ⟨#[105]⟩,.string ⟨#[97,32,104,61,49]⟩] 9))) (by omega) (by omega) (by omega)).mono ?_;rintro e w5 ⟨q,rfl,hq,hG5,hk5⟩
     obtain⟨u,hu,hus,hun⟩:∃ u:ByteArray,(#[.string ⟨#[98]⟩,.string ⟨#[105]⟩,.string ⟨#[97,32,104,61,49]⟩]:Array Value)[q]?=some (.string u)/\u.size<=5/\u.data.toList ∈ St.tg2:=by
      rcases(show q=0∨q=1∨q=2 by omega) with h|h|h <;> subst h <;> exact⟨_,rfl,by decide,by decide⟩
     have hcell:=lit_cell w4 w5 _ _ B g hk5 hgB (by omega) q _ hu;have HG5:=hid hG5;have HK5:=hid (gb_trans (gb_und HK4.out ((Und.refl _).alloc (.cells #[.string ⟨#[98]⟩,.string ⟨#[105]⟩,.string ⟨#[97,32,104,61,49]⟩] 9))) hk5 (fun _ e=>.inl e));have HO5:=hid (own_gb (HO4.out.alloc (.cells #[.string ⟨#[98]⟩,.string ⟨#[105]⟩,.string ⟨#[97,32,104,61,49]⟩] 9)) hk5 (by omega));have HP5:=hid (own_gb (HP4.out.alloc (.cells #[.string ⟨#[98]⟩,.string ⟨#[105]⟩,.string ⟨#[97,32,104,61,49]⟩] 9)) hk5 (by omega));have hb5:w5.heap[w3.heap.size]?=some (Obj.cells #[.int .i64 1,.string t,.int .i64 0] 66 (0,0)):=(hk5.block w3.heap.size (by simp;omega) (by simp;omega)).trans ((((Und.refl w4).alloc _).below.block w3.heap.size hsz4).trans hb4);haveI:LtW w4.heap.size w5:=LtW.of (zbL _ _ hcell);have hq3:q<3:=by omega
     have f0:w5.frozen? ⟨w3.heap.size,0,none⟩=false:=zfH hb5 0;have f1:w5.frozen? ⟨w3.heap.size,1,none⟩=false:=zfH hb5 1;have f2:w5.frozen? ⟨w3.heap.size,2,none⟩=false:=zfH hb5 2;have g0:w5.cell? ⟨w3.heap.size,0,none⟩=some (.int .i64 1):=zcH hb5 0;have g1:w5.cell? ⟨w3.heap.size,1,none⟩=some (.string t):=zcH hb5 1;have g2:w5.cell? ⟨w3.heap.size,2,none⟩=some (.int .i64 0):=zcH hb5 2;haveI:LtW w3.heap.size w5:=LtW.of (lt_of_heap hb5);have hob:(Value.slice A9 f.length c9).ownBlock ≠ some w3.heap.size:=fun e=>by have:=hlt3 _ e;omega
     have hobp:(Value.slice A10 op.length c10).ownBlock ≠ some w3.heap.size:=fun e=>by have:=hlt3p _ e;omega
     have hkey:∀ W,W=((w5.setCell ⟨w3.heap.size,0,none⟩ (.int .i64 2)).setCell ⟨w3.heap.size,1,none⟩ (.string u)).setCell ⟨w3.heap.size,2,none⟩ (.int .i64 ((c:Int)+1))->W.ownsRow w.heap.size 66 3 (.slice A9 f.length c9) f.length (cellsIt f)/\W.ownsRow w.heap.size 66 3 (.slice A10 op.length c10) op.length (cellsIt op)/\GenP W B g (P+1+9*(k+1))/\w.grownBy W (some g)/\W.heap.size=w5.heap.size/\W.heap[w3.heap.size]?=some (Obj.cells #[.int .i64 2,.string u,.int .i64 ((c:Int)+1)] 66 (0,0)):=by
      intro W hW;subst hW;have hBb:∀ x,some w3.heap.size=some x->B<=x:=fun x e=>by cases e;omega
      refine⟨own_set (own_set (own_set HO5.out hob) hob) hob,own_set (own_set (own_set HP5.out hobp) hobp) hobp,?_,gb_setCell (gb_setCell (gb_setCell HK5.out _ _ (.inr (by show w.heap.size<=w3.heap.size;omega))) _ _ (.inr (by show w.heap.size<=w3.heap.size;omega))) _ _ (.inr (by show w.heap.size<=w3.heap.size;omega)),by simp,heap_setCell_same _ w3.heap.size 2 _ _ _ (heap_setCell_same _ w3.heap.size 1 _ _ _ (heap_setCell_same w5 w3.heap.size 0 _ _ _ hb5))⟩;exact(((HG5.out.gb (gb_set w5 ⟨w3.heap.size,0,none⟩ _) hBb).gb (gb_set _ ⟨w3.heap.size,1,none⟩ _) hBb).gb (gb_set _ ⟨w3.heap.size,2,none⟩ _) hBb).le (by omega)
     have HKEY:=hid (hkey _ rfl);have hne5:=HKEY.out.2.2.1.lt.2;clear hG5 hk5 HG4 HK4 HO4 HP4 hkey hu hq;go_wp2_with (at_builtin;refine wpList_append_own _ rfl _ _ 24 rfl w.heap.size 66 i0 (.agg #[.int .i64 0,.string ⟨#[]⟩,.int .i64 0]) 3 32 Tryz.underlying24 hi hz0 hz1 hz2 rfl (by decide) (.slice A10 op.length c10) op.length _ rfl (HKEY.out.2.1.alloc _) _ 1 1 [.int .i64 2,.string u,.int .i64 ((c:Int)+1)] rfl rfl ?_ (item_one _ _ _) (by unfold maxLen;omega) (by omega) ?_ ?_)
     ·exact side3b _ _ _ _ _ _ (by simp)
     ·have:=HKEY.out.2.2.2.1.size;simp at this ⊢;omega
     intro v' w6 hown' hgrow _;have hwk:=HKEY.out.2.2.2.1.size;have hwk2:=HKEY.out.2.2.2.2.1;have hsz5:=lt_of_heap hb5;have hrow:∀ x,(Value.slice A10 op.length c10).ownBlock=some x->w.heap.size<=x:=fun x hx=>owns_block HKEY.out.2.1 x hx
     have ho9:=(HKEY.out.1.alloc (.cells #[.int .i64 2,.string u,.int .i64 ((c:Int)+1)] 66)).kept hgrow HD.out;have hb6:w6.heap[w3.heap.size]?=some (Obj.cells #[.int .i64 2,.string u,.int .i64 ((c:Int)+1)] 66 (0,0)):=(hgrow.block w3.heap.size (by simp;omega) (fun e=>hobp e.symm)).trans ((((Und.refl _).alloc _).below.block w3.heap.size (by simp;omega)).trans HKEY.out.2.2.2.2.2)
     have ho10:w6.ownsRow w.heap.size 66 3 v' (op++[((2:Int),u.data.toList,(c:Int)+1)]).length (cellsIt (op++[((2:Int),u.data.toList,(c:Int)+1)])):=by
      rw[cellsIt_snoc];simp only[ba_eta,List.length_append,List.length_cons,List.length_nil];exact hown'
     have hg6:GenP w6 B g (P+1+9*(k+1)):=(HKEY.out.2.2.1.und ((Und.refl _).alloc _)).gb hgrow (fun x e=>Nat.le_trans hB (hrow x e));have hk6:w.grownBy w6 (some g):=gb_trans (gb_und HKEY.out.2.2.2.1 ((Und.refl _).alloc _)) hgrow (fun x e=>.inr (hrow x e));have c0:w6.cell? ⟨w3.heap.size,0,none⟩=some (.int .i64 2):=zcH hb6 0;have c1:w6.cell? ⟨w3.heap.size,1,none⟩=some (.string u):=zcH hb6 1;have c2:w6.cell? ⟨w3.heap.size,2,none⟩=some (.int .i64 ((c:Int)+1)):=zcH hb6 2;haveI:LtW w3.heap.size w6:=LtW.of (lt_of_heap hb6);obtain⟨Av,cv,rfl,_,_,_⟩:=own_slice' ho10;have HO9:=hid ho9;have HO10:=hid ho10;have HG6:=hid hg6;have HK6:=hid hk6;have hzz:=hk6.size;clear hown' hgrow ho9 ho10 hg6 hk6 hb6 hrow HKEY f0 f1 f2 g0 g1 g2 hcell;go_wp2_with fail;refine(HCAT.out _ _ (2,u.data.toList,(c:Int)+1) ?_ ?_ ?_).mono ?_
     ·exact(items_own HO9.out rfl).und ((Und.refl _).alloc _)
     ·rw[<- ba_eta u];exact items_boxi _ _ _ _ _ (by simp) (by rw[World.cell?_alloc_at _ _ _ _ (by simp)];rfl) (by rw[World.cell?_alloc_at _ _ _ _ (by simp)];rfl) (by rw[World.cell?_alloc_at _ _ _ _ (by simp)];rfl)
     ·rw[tot_snoc];simp;omega
     rintro e w7 ⟨v7,rfl,ho7,hu7⟩;have hrel:=FIN.out (2,u.data.toList,(c:Int)+1) v7 _ _ w7 (op++[((2:Int),u.data.toList,(c:Int)+1)]) (c+1) (.int .i64 ((c:Int)+1)) rfl (HGN.out.opened _ hun) (by simp;omega) (by simp) (by omega) ho7 (HO10.out.alloc _) hu7 (by simp;omega) ((HG6.out.und ((Und.refl _).alloc _)).und hu7) (gb_und HK6.out (((Und.refl _).alloc _).trans hu7));have HREL:=hid hrel;clear hrel ho7 hu7;go_wp2;exact⟨by have h:=HREL.out;simp only[List.length_append,List.length_cons,List.length_nil,Nat.zero_add] at h;exact h,by simp[intOf];omega⟩
   ·rcases h with h|h
    all_goals
     subst h;clear hr8
     by_cases hop:op.length=0
     ·have y1:¬ (0:Int)<=(op.length:Int)-1:=by omega
      have hop2:op.length<=0:=by omega
      clear hop;cases ns
      ·have hb5:=hb4
       clear d0 d1 d2 hb4;have f0:w4.frozen? ⟨w3.heap.size,0,none⟩=false:=zfH hb5 0;have f1:w4.frozen? ⟨w3.heap.size,1,none⟩=false:=zfH hb5 1;have f2:w4.frozen? ⟨w3.heap.size,2,none⟩=false:=zfH hb5 2;have g0:w4.cell? ⟨w3.heap.size,0,none⟩=some (.int .i64 1):=zcH hb5 0;have g1:w4.cell? ⟨w3.heap.size,1,none⟩=some (.string t):=zcH hb5 1;have g2:w4.cell? ⟨w3.heap.size,2,none⟩=some (.int .i64 0):=zcH hb5 2;haveI:LtW w3.heap.size w4:=LtW.of (lt_of_heap hb5);have hob:(Value.slice A9 f.length c9).ownBlock ≠ some w3.heap.size:=fun e=>by have:=hlt3 _ e;omega
       have hobp:(Value.slice A10 op.length c10).ownBlock ≠ some w3.heap.size:=fun e=>by have:=hlt3p _ e;omega
       have hkey:∀ W,W=((w4.setCell ⟨w3.heap.size,0,none⟩ (.int .i64 3)).setCell ⟨w3.heap.size,1,none⟩ (.string ⟨#[98]⟩)).setCell ⟨w3.heap.size,2,none⟩ (.int .i64 ((c:Int)+1))->W.ownsRow w.heap.size 66 3 (.slice A9 f.length c9) f.length (cellsIt f)/\W.ownsRow w.heap.size 66 3 (.slice A10 op.length c10) op.length (cellsIt op)/\GenP W B g (P+1+9*(k+1))/\w.grownBy W (some g)/\W.heap.size=w4.heap.size/\W.heap[w3.heap.size]?=some (Obj.cells #[.int .i64 3,.string ⟨#[98]⟩,.int .i64 ((c:Int)+1)] 66 (0,0)):=by
        intro W hW;subst hW;have hBb:∀ x,some w3.heap.size=some x->B<=x:=fun x e=>by cases e;omega
        refine⟨own_set (own_set (own_set HO4.out hob) hob) hob,own_set (own_set (own_set HP4.out hobp) hobp) hobp,?_,gb_setCell (gb_setCell (gb_setCell HK4.out _ _ (.inr (by show w.heap.size<=w3.heap.size;omega))) _ _ (.inr (by show w.heap.size<=w3.heap.size;omega))) _ _ (.inr (by show w.heap.size<=w3.heap.size;omega)),by simp,heap_setCell_same _ w3.heap.size 2 _ _ _ (heap_setCell_same _ w3.heap.size 1 _ _ _ (heap_setCell_same w4 w3.heap.size 0 _ _ _ hb5))⟩;exact(((HG4.out.gb (gb_set w4 ⟨w3.heap.size,0,none⟩ _) hBb).gb (gb_set _ ⟨w3.heap.size,1,none⟩ _) hBb).gb (gb_set _ ⟨w3.heap.size,2,none⟩ _) hBb).le (by omega)
       have HKEY:=hid (hkey _ rfl);have hne5:=HKEY.out.2.2.1.lt.2;clear hkey;go_wp2_with fail;refine(HCAT.out _ _ (3,[98],(c:Int)+1) ?_ ?_ ?_).mono ?_
       ·exact(items_own HKEY.out.1 rfl).und ((Und.refl _).alloc _)
       ·exact items_boxi _ _ _ _ _ (by simp) (by rw[World.cell?_alloc_at _ _ _ _ (by simp)];rfl) (by rw[World.cell?_alloc_at _ _ _ _ (by simp)];rfl) (by rw[World.cell?_alloc_at _ _ _ _ (by simp)];rfl)
       ·rw[tot_snoc];simp;omega
       rintro e w7 ⟨v7,rfl,ho7,hu7⟩;have hrel:=FIN.out (3,[98],(c:Int)+1) v7 _ _ w7 op (c+1) (.int .i64 ((c:Int)+1)) rfl (HGN.out.stray rfl) (by simp) (by omega) (by omega) ho7 (HKEY.out.2.1.alloc _) hu7 (by have:=HKEY.out.2.2.2.1.size;simp at this ⊢;omega) ((HKEY.out.2.2.1.und ((Und.refl _).alloc _)).und hu7) (gb_und HKEY.out.2.2.2.1 (((Und.refl _).alloc _).trans hu7));have HREL:=hid hrel;clear hrel ho7 hu7;go_wp2;exact⟨HREL.out,by simp[intOf];omega⟩
      ·clear hb4
       go_wp2_with fail;refine(HCAT.out _ _ (1,t.data.toList,0) ?_ ?_ ?_).mono ?_
       ·exact(items_own HO4.out rfl).und ((Und.refl _).alloc _)
       ·rw[<- ba_eta t];exact items_box _ _ _ _ (by simp) (by simp) (by simp) (by simp)
       ·rw[tot_snoc];simp;omega
       rintro e w7 ⟨v7,rfl,ho7,hu7⟩;have hrel:=FIN.out (1,t.data.toList,0) v7 _ _ w7 op c _ rfl (HGN.out.text _) (by simp;omega) (by omega) (by omega) ho7 (HP4.out.alloc _) hu7 (by have:=HK4.out.size;simp at this ⊢;omega) (((HG4.out.und ((Und.refl _).alloc _)).und hu7).le (by omega)) (gb_und HK4.out (((Und.refl _).alloc _).trans hu7));have HREL:=hid hrel;clear hrel ho7 hu7 d0 d1 d2;go_wp2;exact⟨HREL.out,by simp[intOf];omega⟩
     ·have y1:(0:Int)<=(op.length:Int)-1:=by omega
      cases ns
      case' false=>
       clear d0 d1 d2;go_wp2_with fail;refine(next_gen B g _ _ _ HG4.out (by omega) ?_ ?_).mono ?_
       ·omega
       ·omega
       rintro e w5 ⟨q,rfl,hq,hG5,hk5⟩;have hq2:q<op.length:=by omega
       have HG5:=hid hG5;have HK5:=hid (gb_trans HK4.out hk5 (fun _ e=>.inl e));have HO5:=hid (own_gb HO4.out hk5 (by omega));have HP5:=hid (own_gb HP4.out hk5 (by omega));have hb5:w5.heap[w3.heap.size]?=some (Obj.cells #[.int .i64 1,.string t,.int .i64 0] 66 (0,0)):=(hk5.block w3.heap.size (by omega) (by simp;omega)).trans hb4
      case' true=>
       obtain⟨q,hq⟩:∃ q,op.length=q+1:=⟨op.length-1,by omega⟩;have e14:(op.length:Int)-1=(q:Int):=by omega
       rw[e14] at y1;have hq2:q<op.length:=by omega
       obtain⟨w5,rfl⟩:∃ w5:World,w5=w4:=⟨_,rfl⟩;have HG5:=HG4;have HK5:=HK4;have HO5:=HO4;have HP5:=HP4;have hb5:=hb4;clear hq d0 d1 d2
      all_goals
       obtain⟨b10,off10,e10,hb10,hc10⟩:=(items_own HP5.out rfl) (by omega);subst e10;obtain⟨p0,p1,p2⟩:=hc10 q hq2;have hsm:=(HGN.out.small op[q] (List.getElem_mem hq2)).1;have hgen:=St.GenT.closed q hq2 (fun e=>by cases e <;> omega) HGN.out;generalize op[q]=y at p0 p1 p2 hsm hgen;obtain⟨yk,yt,yi⟩:=y;simp only at p0 p1 p2 hsm hgen;have HGEN:=hid hgen;clear hc10 hgen;have hnl:=St.name_le' yt;go_wp2_with fail;refine wp_region_facts (fun a b=>a.grownBy b (some w3.heap.size)) (fun L W=>if L 12=true then ∃ W0,Und w5 W0/\W=((W0.setCell ⟨w3.heap.size,0,none⟩ (.int .i64 3)).setCell ⟨w3.heap.size,1,none⟩ (.string ⟨(St.nameOf yt).toArray⟩)).setCell ⟨w3.heap.size,2,none⟩ (.int .i64 yi) else Und w5 W) [fun v _=>v=.slice (some ⟨b10,off10,none⟩) op.length c10,fun v _=>v=.int .i64 q,fun v _=>v=.pointer (some ⟨b10,off10+q*3,none⟩),fun v _=>v=.pointer (some ⟨b10,off10+q*3+1,none⟩),fun v _=>v=.string ⟨yt.toArray⟩,fun v _=>v=.string ⟨(St.nameOf yt).toArray⟩,fun v _=>v=.slice (some ⟨b10,off10,none⟩) op.length c10,fun v _=>v=.int .i64 q,fun v _=>v=.pointer (some ⟨b10,off10+q*3,none⟩),fun v _=>v=.pointer (some ⟨b10,off10+q*3+2,none⟩),fun v _=>v=.int .i64 yi,fun v _=>v=.agg #[.int .i64 3,.string ⟨(St.nameOf yt).toArray⟩,.int .i64 yi],noFact] (fun a=>gb_refl a _) (fun a b c h k=>gb_trans h k (fun _ e=>.inl e)) (by kernel_rfl) (by rfl) (by kernel_rfl) (by kernel_rfl) ?_ ?_ ?_ ?_ ?_;rotate_left 1
       ·skip
        intro ρ;simp only[putAll,Act.put,zsA,zsB,zsC,Nat.zero_add,Nat.reduceAdd];exact rfl
       ·exact(by apply_rules[uUe,uUa,uUb,uUc,uUd])
       ·skip
        refine ObsF.cons (fun ρ L W hR hI hL hD hO hF K hK=>?_) ?_
        ·skip
         clear hF hD hO;simp only[Act.put,zsA,zsB,zsC] at hK ⊢;go_simp;refine hK _ _ (gb_refl _ _) (by simpa [updB] using hI) (fun W2 h2=>?_);rfl
        refine ObsF.cons (fun ρ L W hR hI hL hD hO hF K hK=>?_) ?_
        ·skip
         clear hF hD hO;simp only[Act.put,zsA,zsB,zsC] at hK ⊢;go_simp;refine hK _ _ (gb_refl _ _) (by simpa [updB] using hI) (fun W2 h2=>?_);rfl
        refine ObsF.cons (fun ρ L W hR hI hL hD hO hF K hK=>?_) ?_
        ·skip
         have f0:=allF_get hF (j:=0) (by decide);have f1:=allF_get hF (j:=1) (by decide);clear hF hD hO;simp only[Act.put,zsA,zsB,zsC] at hK ⊢;have e0:ρ 0=.slice (some ⟨b10,off10,none⟩) op.length c10:=f0;have e1:ρ 1=.int .i64 q:=f1;rw[e0,e1] at hK ⊢;have z1:(q:Int)<(op.length:Int):=by omega
         go_simp;refine hK _ _ (gb_refl _ _) (by simpa [updB] using hI) (fun W2 h2=>?_);rfl
        refine ObsF.cons (fun ρ L W hR hI hL hD hO hF K hK=>?_) ?_
        ·skip
         have f2:=allF_get hF (j:=2) (by decide);clear hF hD hO;simp only[Act.put,zsA,zsB,zsC] at hK ⊢;have e2:ρ 2=.pointer (some ⟨b10,off10+q*3,none⟩):=f2;rw[e2] at hK ⊢;go_simp;refine hK _ _ (gb_refl _ _) (by simpa [updB] using hI) (fun W2 h2=>?_);rfl
        refine ObsF.cons (fun ρ L W hR hI hL hD hO hF K hK=>?_) ?_
        ·skip
         have f3:=allF_get hF (j:=3) (by decide);have h12:L 12=false:=hD.not (p:=12) rfl (by decide) hL;have hI5:Und w5 W:=by simpa [h12] using hI
         clear hF hD hO;simp only[Act.put,zsA,zsB,zsC] at hK ⊢;have e3:ρ 3=.pointer (some ⟨b10,off10+q*3+1,none⟩):=f3;rw[e3] at hK ⊢;have hc:=(hI5.cell (p:=⟨b10,off10+q*3+1,none⟩) hb10).trans p1;haveI:LtW b10 W:=LtW.of (Nat.lt_of_lt_of_le hb10 hI5.size);go_simp;refine hK _ _ (gb_refl _ _) (by simpa [updB] using hI) (fun W2 h2=>?_);rfl
        refine ObsF.cons (fun ρ L W hR hI hL hD hO hF K hK=>?_) ?_
        ·skip
         have f4:=allF_get hF (j:=4) (by decide);have h12:L 12=false:=hD.not (p:=12) rfl (by decide) hL;have hI5:Und w5 W:=by simpa [h12] using hI
         clear hF hD hO;simp only[Act.put,zsA,zsB,zsC] at hK ⊢;have e4:ρ 4=.string ⟨yt.toArray⟩:=f4;rw[e4] at hK ⊢;refine step_callF2 (o:=⟨some 86,_,_,_,_,_⟩) rfl 21 #[.string ⟨yt.toArray⟩] _ (rname_u yt W (by omega)) ?_ ?_
         ·go_simp
         rintro e W2 ⟨rfl,hu⟩;exact⟨_,rfl,hK _ _ (hu.gb _) (by simpa [updB,h12] using hI5.trans hu) (fun W3 h3=>rfl)⟩
        refine ObsF.cons (fun ρ L W hR hI hL hD hO hF K hK=>?_) ?_
        ·skip
         clear hF hD hO;simp only[Act.put,zsA,zsB,zsC] at hK ⊢;go_simp;refine hK _ _ (gb_refl _ _) (by simpa [updB] using hI) (fun W2 h2=>?_);rfl
        refine ObsF.cons (fun ρ L W hR hI hL hD hO hF K hK=>?_) ?_
        ·skip
         clear hF hD hO;simp only[Act.put,zsA,zsB,zsC] at hK ⊢;go_simp;refine hK _ _ (gb_refl _ _) (by simpa [updB] using hI) (fun W2 h2=>?_);rfl
        refine ObsF.cons (fun ρ L W hR hI hL hD hO hF K hK=>?_) ?_
        ·skip
         have f6:=allF_get hF (j:=6) (by decide);have f7:=allF_get hF (j:=7) (by decide);clear hF hD hO;simp only[Act.put,zsA,zsB,zsC] at hK ⊢;have e6:ρ 6=.slice (some ⟨b10,off10,none⟩) op.length c10:=f6;have e7:ρ 7=.int .i64 q:=f7;rw[e6,e7] at hK ⊢;have z1:(q:Int)<(op.length:Int):=by omega
         go_simp;refine hK _ _ (gb_refl _ _) (by simpa [updB] using hI) (fun W2 h2=>?_);rfl
        refine ObsF.cons (fun ρ L W hR hI hL hD hO hF K hK=>?_) ?_
        ·skip
         have f8:=allF_get hF (j:=8) (by decide);clear hF hD hO;simp only[Act.put,zsA,zsB,zsC] at hK ⊢;have e8:ρ 8=.pointer (some ⟨b10,off10+q*3,none⟩):=f8;rw[e8] at hK ⊢;go_simp;refine hK _ _ (gb_refl _ _) (by simpa [updB] using hI) (fun W2 h2=>?_);rfl
        refine ObsF.cons (fun ρ L W hR hI hL hD hO hF K hK=>?_) ?_
        ·skip
         have f9:=allF_get hF (j:=9) (by decide);have h12:L 12=false:=hD.not (p:=12) rfl (by decide) hL;have hI5:Und w5 W:=by simpa [h12] using hI
         clear hF hD hO;simp only[Act.put,zsA,zsB,zsC] at hK ⊢;have e9:ρ 9=.pointer (some ⟨b10,off10+q*3+2,none⟩):=f9;rw[e9] at hK ⊢;have hc:=(hI5.cell (p:=⟨b10,off10+q*3+2,none⟩) hb10).trans p2;haveI:LtW b10 W:=LtW.of (Nat.lt_of_lt_of_le hb10 hI5.size);go_simp;refine hK _ _ (gb_refl _ _) (by simpa [updB] using hI) (fun W2 h2=>?_);rfl
        refine ObsF.cons (fun ρ L W hR hI hL hD hO hF K hK=>?_) ?_
        ·skip
         have f5:=allF_get hF (j:=5) (by decide);have f10:=allF_get hF (j:=10) (by decide);clear hF hD hO;simp only[Act.put,zsA,zsB,zsC] at hK ⊢;have e5:ρ 5=.string ⟨(St.nameOf yt).toArray⟩:=f5;have e10:ρ 10=.int .i64 yi:=f10;rw[e5,e10] at hK ⊢;go_simp;refine hK _ _ (gb_refl _ _) (by simpa [updB] using hI) (fun W2 h2=>?_);rfl
        refine ObsF.cons (fun ρ L W hR hI hL hD hO hF K hK=>?_) ?_
        ·skip
         have f11:=allF_get hF (j:=11) (by decide);have hI5:Und w5 W:=by simpa [hL] using hI
         clear hF hD hO;simp only[Act.put,zsA,zsB,zsC] at hK ⊢;have e11:ρ 11=.agg #[.int .i64 3,.string ⟨(St.nameOf yt).toArray⟩,.int .i64 yi]:=f11;rw[e11] at hK ⊢;have hbW:=(hI5.below.block w3.heap.size (lt_of_heap hb5)).trans hb5;have f0:W.frozen? ⟨w3.heap.size,0,none⟩=false:=zfH hbW 0;have f1:W.frozen? ⟨w3.heap.size,1,none⟩=false:=zfH hbW 1;have f2:W.frozen? ⟨w3.heap.size,2,none⟩=false:=zfH hbW 2;have g0:W.cell? ⟨w3.heap.size,0,none⟩=some (.int .i64 1):=zcH hbW 0;have g1:W.cell? ⟨w3.heap.size,1,none⟩=some (.string t):=zcH hbW 1;have g2:W.cell? ⟨w3.heap.size,2,none⟩=some (.int .i64 0):=zcH hbW 2;haveI:LtW w3.heap.size W:=LtW.of (lt_of_heap hbW);go_simp;refine hK undef _ (gb_setCell (gb_setCell (gb_set _ ⟨w3.heap.size,0,none⟩ _) ⟨w3.heap.size,1,none⟩ _ (.inl rfl)) ⟨w3.heap.size,2,none⟩ _ (.inl rfl)) (by simp only[updB,if_true];exact⟨W,hI5,rfl⟩) (fun _ _=>trivial)
        exact ObsF.nil
       ·skip
        intro ρ L W hR hI hL hF;have h12:L 12=true:=hL 12 (by decide);rw[if_pos h12] at hI;obtain⟨w6,hu6,hW⟩:=hI;have HO6:=hid (own_und hu6 HO5.out);have HP6:=hid (own_und hu6 HP5.out);have HG6:=hid (HG5.out.und hu6);have HK6:=hid (gb_und HK5.out hu6);have hb5:=(hu6.below.block w3.heap.size (lt_of_heap hb5)).trans hb5;have hsz5:=lt_of_heap hb5;clear hR hL hF h12;have f0:w6.frozen? ⟨w3.heap.size,0,none⟩=false:=zfH hb5 0;have f1:w6.frozen? ⟨w3.heap.size,1,none⟩=false:=zfH hb5 1;have f2:w6.frozen? ⟨w3.heap.size,2,none⟩=false:=zfH hb5 2;have g0:w6.cell? ⟨w3.heap.size,0,none⟩=some (.int .i64 1):=zcH hb5 0;have g1:w6.cell? ⟨w3.heap.size,1,none⟩=some (.string t):=zcH hb5 1;have g2:w6.cell? ⟨w3.heap.size,2,none⟩=some (.int .i64 0):=zcH hb5 2;haveI:LtW w3.heap.size w6:=LtW.of (lt_of_heap hb5);have hob:(Value.slice A9 f.length c9).ownBlock ≠ some w3.heap.size:=fun e=>by have:=hlt3 _ e;omega
        have hobp:(Value.slice (some ⟨b10,off10,none⟩) op.length c10).ownBlock ≠ some w3.heap.size:=fun e=>by have:=hlt3p _ e;omega
        have hkey:∀ W,W=((w6.setCell ⟨w3.heap.size,0,none⟩ (.int .i64 3)).setCell ⟨w3.heap.size,1,none⟩ (.string ⟨(St.nameOf yt).toArray⟩)).setCell ⟨w3.heap.size,2,none⟩ (.int .i64 yi)->W.ownsRow w.heap.size 66 3 (.slice A9 f.length c9) f.length (cellsIt f)/\W.ownsRow w.heap.size 66 3 (.slice (some ⟨b10,off10,none⟩) op.length c10) op.length (cellsIt op)/\GenP W B g (P+1+9*(k+1))/\w.grownBy W (some g)/\W.heap.size=w6.heap.size/\W.heap[w3.heap.size]?=some (Obj.cells #[.int .i64 3,.string ⟨(St.nameOf yt).toArray⟩,.int .i64 yi] 66 (0,0)):=by
         intro W hW;subst hW;have hBb:∀ x,some w3.heap.size=some x->B<=x:=fun x e=>by cases e;omega
         refine⟨own_set (own_set (own_set HO6.out hob) hob) hob,own_set (own_set (own_set HP6.out hobp) hobp) hobp,?_,gb_setCell (gb_setCell (gb_setCell HK6.out _ _ (.inr (by show w.heap.size<=w3.heap.size;omega))) _ _ (.inr (by show w.heap.size<=w3.heap.size;omega))) _ _ (.inr (by show w.heap.size<=w3.heap.size;omega)),by simp,heap_setCell_same _ w3.heap.size 2 _ _ _ (heap_setCell_same _ w3.heap.size 1 _ _ _ (heap_setCell_same w6 w3.heap.size 0 _ _ _ hb5))⟩;exact(((HG6.out.gb (gb_set w6 ⟨w3.heap.size,0,none⟩ _) hBb).gb (gb_set _ ⟨w3.heap.size,1,none⟩ _) hBb).gb (gb_set _ ⟨w3.heap.size,2,none⟩ _) hBb).le (by omega)
        have HKEY:=hid (hkey W hW);have hne5:=HKEY.out.2.2.1.lt.2;have hkz:=HKEY.out.2.2.2.2.1;have hkw:=HKEY.out.2.2.2.1.size;have hit:=items_own HKEY.out.2.1 rfl;have HIT1:=hid (items_take hit q);have hgen2:=HGEN.out;obtain⟨q1,hq1⟩:∃ q1,q1=q+1:=⟨_,rfl⟩;rw[<- hq1] at hgen2;have HGEN2:=hid hgen2;clear hgen2
        obtain⟨ox,hox,hit2⟩:∃ ox,(if c10=q1 then (some ⟨b10,off10,none⟩:Option Addr) else some ⟨b10,off10+q1*3,none⟩)=some ⟨b10,ox,none⟩/\ItemsAt W (some ⟨b10,ox,none⟩) (op.drop q1):=by
         by_cases hcq:c10=q1
         ·exact⟨off10,if_pos hcq,fun h0=>by simp at h0;omega⟩
         ·exact⟨off10+q1*3,if_neg hcq,items_drop hit q1⟩
        have HIT2:=hid hit2;clear hit2;have hw:IntKind.i64.wrap (q1:Int)=(q1:Int):=IntWalk.i64_in _ (by omega);have hw1:(q:Int)+1=(q1:Int):=by omega
        have hw2:(0:Int)<=(q1:Int):=by omega
        have hw3:(q1:Int)<=(op.length:Int):=by omega
        have hw4:q1<=op.length:=by omega
        have hqa:q+1<=q1:=by omega
        have hqb:q1<=q+1:=by omega
        clear hq1;have hbW:=HKEY.out.2.2.2.2.2;have hl1:(q:Int)<=(op.length:Int):=by omega
        have hl4:(q:Int)<=(c10:Int):=by omega
        have hl5:(op.length:Int)<=(c10:Int):=by omega
        haveI:LtW b10 W:=LtW.of (by have:=hu6.size;omega);clear hkey hW hb5 f0 f1 f2 g0 g1 g2 p0 p1 p2 hit hu6;go_wp2_with fail;refine wp_region_any (by kernel_rfl) ?_
        try (change wpAny _ _ _ _ _ _ _ (World.drew _))
        refine rg_norm2 (l':=#[bF,bF,bF,bF,bF,bF,bF,bF,bF,bF]) (by kernel_rfl) ?_;refine wpAny_take (i:=0) (v:=?_) rfl (by kernel_rfl) (by kernel_rfl) (by kernel_rfl) (fun _ _ _ h=>h) (Or.inl ⟨by rfl,?_⟩) ?_;rotate_left 1
        ·(intro W9;go_simp;try with_reducible rfl)
        try go_simp
        refine rg_norm2 (l':=#[bT,bF,bF,bF,bF,bF,bF,bF,bF,bF]) (by kernel_rfl) ?_;refine wpAny_take (i:=1) (v:=?_) rfl (by kernel_rfl) (by kernel_rfl) (by kernel_rfl) (fun _ _ _ h=>h) (Or.inl ⟨by rfl,?_⟩) ?_;rotate_left 1
        ·(intro W9;go_simp;try with_reducible rfl)
        try go_simp
        refine rg_norm2 (l':=#[bT,bT,bF,bF,bF,bF,bF,bF,bF,bF]) (by kernel_rfl) ?_;refine wpAny_take (i:=2) (v:=?_) rfl (by kernel_rfl) (by kernel_rfl) (by kernel_rfl) (fun _ _ _ h=>h) (Or.inl ⟨by rfl,?_⟩) ?_;rotate_left 1
        ·(intro W9;go_simp;try with_reducible rfl)
        try go_simp
        refine rg_norm2 (l':=#[bT,bT,bT,bF,bF,bF,bF,bF,bF,bF]) (by kernel_rfl) ?_;refine wpAny_take (i:=4) (v:=?_) rfl (by kernel_rfl) (by kernel_rfl) (by kernel_rfl) (fun _ _ _ h=>h) (Or.inl ⟨by rfl,?_⟩) ?_;rotate_left 1
        ·(intro W9;go_simp;try with_reducible rfl)
        try go_simp
        refine rg_norm2 (l':=#[bT,bT,bT,bF,bT,bF,bF,bF,bF,bF]) (by kernel_rfl) ?_;refine wpAny_take (i:=5) (v:=?_) rfl (by kernel_rfl) (by kernel_rfl) (by kernel_rfl) (fun _ _ _ h=>h) (Or.inl ⟨by rfl,?_⟩) ?_;rotate_left 1
        ·(intro W9;go_simp;try with_reducible rfl)
        try go_simp
        refine rg_norm2 (l':=#[bT,bT,bT,bF,bT,bT,bF,bF,bF,bF]) (by kernel_rfl) ?_;refine wpAny_take (i:=6) (v:=?_) rfl (by kernel_rfl) (by kernel_rfl) (by kernel_rfl) (fun _ _ _ h=>h) (Or.inl ⟨by rfl,?_⟩) ?_;rotate_left 1
        ·(intro W9;go_simp;try with_reducible rfl)
        try go_simp
        refine rg_norm2 (l':=#[bT,bT,bT,bF,bT,bT,bT,bF,bF,bF]) (by kernel_rfl) ?_;refine wpAny_take (i:=7) (v:=?_) rfl (by kernel_rfl) (by kernel_rfl) (by kernel_rfl) (fun _ _ _ h=>h) (Or.inl ⟨by rfl,?_⟩) ?_;rotate_left 1
        ·(intro W9;go_simp;try with_reducible rfl)
        try go_simp
        refine rg_norm2 (l':=#[bT,bT,bT,bF,bT,bT,bT,bT,bF,bF]) (by kernel_rfl) ?_;refine wpAny_ready (rs:=[3]) (by kernel_rfl) (by simp) ?_;refine AllReady.cons (o:=⟨some 96,_,_,_,_,_⟩) rfl (fun K hK=>?_) AllReady.nil;refine step_append_items (o:=⟨some 96,_,_,_,_,_⟩) rfl _ _ rfl W.heap.size (.slice none 0 0) 0 [] rfl (World.ownsRow_nil _ _ _ _) ⟨b10,off10,none⟩ q c10 (op.take q) rfl (HIT1.out.und (Und.refl W).drew) (by simp;omega) (by omega) (by exact Nat.le_refl _) ?_;intro v96 w8 ho8 hg8;have hu8:Und W w8:=((Und.refl W).drew).grown hg8 (fun g e=>by cases e);have HO8:=hid (show w8.ownsRow W.heap.size 66 3 v96 q (cellsIt (op.take q)) by simpa using ho8);have HU8:=hid hu8;clear ho8 hg8 hu8
        try go_simp
        refine hK _ _ ?_;clear hK K;refine rg_norm2 (l':=#[bT,bT,bT,bT,bT,bT,bT,bT,bF,bF]) (by kernel_rfl) ?_;refine wpAny_ready (rs:=[8]) (by kernel_rfl) (by simp) ?_;refine AllReady.cons (o:=⟨some 101,_,_,_,_,_⟩) rfl (fun K hK=>?_) AllReady.nil;refine step_append_items (o:=⟨some 101,_,_,_,_,_⟩) rfl _ _ rfl W.heap.size v96 q (op.take q) rfl HO8.out ⟨b10,ox,none⟩ (op.length-q1) (c10-q1) (op.drop q1) ?_ (HIT2.out.und HU8.out) (by simp) (by omega) HU8.out.size ?_
        ·first|rfl|(go_simp;try rfl)
        intro v101 w9 ho9 hg9;have hu9:Und W w9:=HU8.out.grown hg9 (fun x e=>owns_block HO8.out x e);have HO9:=hid ho9;have HU9:=hid hu9;clear ho9 hg9 hu9
        try go_simp
        refine hK _ _ ?_;clear hK K;refine rg_norm2 (l':=#[bT,bT,bT,bT,bT,bT,bT,bT,bT,bF]) (by kernel_rfl) ?_;refine wpAny_take (i:=9) (v:=?_) rfl (by kernel_rfl) (by kernel_rfl) (by kernel_rfl) (fun _ _ _ h=>h) (Or.inl ⟨by rfl,?_⟩) ?_;rotate_left 1
        ·(intro W9;go_simp;try with_reducible rfl)
        try go_simp
        refine rg_norm2 (l':=#[bT,bT,bT,bT,bT,bT,bT,bT,bT,bT]) (by kernel_rfl) ?_;refine wpAny_done (by kernel_rfl) ?_ _;have hop2:(op.take q++op.drop q1).length=op.length-1:=by simp;omega
        have hop3:q+(op.length-q1)=op.length-1:=by omega
        have ho10:w9.ownsRow W.heap.size 66 3 v101 (op.take q++op.drop q1).length (cellsIt (op.take q++op.drop q1)):=by
         have:=HO9.out
         rw[hop3] at this;rw[hop2];exact this
        obtain⟨Av,cv,rfl,_,_,_⟩:=own_slice' ho10;have hb9:=(HU9.out.below.block w3.heap.size (lt_of_heap hbW)).trans hbW;have c0:w9.cell? ⟨w3.heap.size,0,none⟩=some (.int .i64 3):=zcH hb9 0;have c1:w9.cell? ⟨w3.heap.size,1,none⟩=some (.string ⟨(St.nameOf yt).toArray⟩):=zcH hb9 1;have c2:w9.cell? ⟨w3.heap.size,2,none⟩=some (.int .i64 yi):=zcH hb9 2;haveI:LtW w3.heap.size w9:=LtW.of (lt_of_heap hb9);have h9s:=HU9.out.size;have HO10:=hid ho10;clear ho10 hb9 HO9;go_wp2_with fail;refine(HCAT.out _ _ (3,St.nameOf yt,yi) ?_ ?_ ?_).mono ?_
        ·exact((items_own HKEY.out.1 rfl).und HU9.out).und ((Und.refl _).alloc _)
        ·exact items_boxi _ _ _ _ _ (by simp) (by rw[World.cell?_alloc_at _ _ _ _ (by simp)];rfl) (by rw[World.cell?_alloc_at _ _ _ _ (by simp)];rfl) (by rw[World.cell?_alloc_at _ _ _ _ (by simp)];rfl)
        ·rw[tot_snoc];simp;omega
        rintro e w7 ⟨v7,rfl,ho7,hu7⟩;have hrel:=FIN.out (3,St.nameOf yt,yi) v7 _ _ w7 (op.take q++op.drop q1) c _ rfl HGEN2.out (by show (St.nameOf yt).length<=18;omega) (by omega) (by omega) ho7 ((own_low HO10.out (by omega)).alloc _) hu7 (by simp;omega) (((HKEY.out.2.2.1.und HU9.out).und ((Und.refl _).alloc _)).und hu7) (gb_und (gb_und HKEY.out.2.2.2.1 HU9.out) (((Und.refl _).alloc _).trans hu7));have HREL:=hid hrel;clear hrel ho7 hu7;go_wp2;exact⟨by have h:=HREL.out;rw[hop2] at h;exact h,by simp[intOf];omega⟩
   ·subst h
    clear hr8 hb4;go_wp2_with fail;refine(HCAT.out _ _ (1,t.data.toList,0) ?_ ?_ ?_).mono ?_
    ·exact(items_own HO4.out rfl).und ((Und.refl _).alloc _)
    ·rw[<- ba_eta t];exact items_box _ _ _ _ (by simp) (by simp) (by simp) (by simp)
    ·rw[tot_snoc];simp;omega
    rintro e w7 ⟨v7,rfl,ho7,hu7⟩;have hrel:=FIN.out (1,t.data.toList,0) v7 _ _ w7 op c _ rfl (HGN.out.text _) (by simp;omega) (by omega) (by omega) ho7 (HP4.out.alloc _) hu7 (by have:=HK4.out.size;simp at this ⊢;omega) (((HG4.out.und ((Und.refl _).alloc _)).und hu7).le (by omega)) (gb_und HK4.out (((Und.refl _).alloc _).trans hu7));have HREL:=hid hrel;clear hrel ho7 hu7 d0 d1 d2;go_wp2;exact⟨HREL.out,by simp[intOf];omega⟩
  ·have z:¬ (0:Int)<(i:Int):=by omega
   have z0:i=0:=by omega
   subst z0;cases ns
   ·obtain⟨A9,c9,rfl,_,_,_⟩:=own_slice' HO.out
    obtain⟨A10,c10,rfl,_,_,_⟩:=own_slice' HP.out
    by_cases hop:op.length=0
    ·have y1:¬ (0:Int)<=(op.length:Int)-1:=by omega
     have hop2:op.length<=0:=by omega
     clear hop;go_wp2_with fail;refine wp_loop_rounds 1 ?_;rw[rounds_succ];go_wp2;go_ret;exact⟨_,f,op,c,rfl,HO.out,HGN.out,by omega,by omega,HG.out.le (by omega),HK.out⟩
    ·have y1:(0:Int)<=(op.length:Int)-1:=by omega
     go_wp2_with fail;refine wp_loop_rounds 1 ?_;rw[rounds_succ];go_wp2;go_ret;exact⟨_,f,op,c,rfl,HO.out,HGN.out,by omega,by omega,HG.out.le (by omega),HK.out⟩
   ·obtain⟨A10,c10,rfl,h10c,h10m,_⟩:=own_slice' HP.out
    have hst:=HGN.out;rw[<- List.take_length (l:=op)] at hst;have HST:=hid hst;clear hst;go_wp2_with fail;go_loopw [9,15] (fun s9 s15 wr=>FnRel w B g P n op (.slice A10 op.length c10) c s9 s15 wr) (fun _ s15 _=>(intOf s15+1).toNat)
    case atStart=>exact⟨op.length,_,f,rfl,rfl,Nat.le_refl _,HO.out,HP.out,HD.out,HST.out,by omega,by omega,HG.out.le (by omega),HK.out⟩
    case round=>
     clear HO HP HD HG HK HST HGN;obtain⟨j,zz,f,rfl,hzz,hj,hown,hownp,hdis,hgen,hfl2,hft2,hG,hk⟩:=hrel;have HG:=hid hG;have HK:=hid hk;have HO:=hid hown;have HP:=hid hownp;have HGN:=hid hgen;obtain⟨A9,c9,rfl,_,_,_⟩:=own_slice' HO.out
     by_cases hj0:j=0
     ·subst hj0
      obtain rfl:zz=-1:=by omega
      have HGN2:=hid (show St.GenT true f [] c from hgen);clear hG hk hown hownp hdis hgen hzz HGN;go_wp2;go_ret;exact⟨_,f,c,rfl,HO.out,HGN2.out,by omega,by omega,by omega,HG.out,HK.out⟩
     ·obtain⟨q,rfl⟩:∃ q,j=q+1:=⟨j-1,by omega⟩
      obtain rfl:zz=(q:Int):=by omega
      have hq2:q<op.length:=by omega
      obtain⟨b10,rfl,hb10B,hb10,hc10⟩:=own_cell hownp (by omega);have hca:=cellsIt_at op q hq2;have p1:=hc10 _ _ hca.2.1;have p2:=hc10 _ _ hca.2.2;have hsm:=(hgen.small op[q] (List.mem_take_iff_getElem.2 ⟨q,by omega,rfl⟩)).1;have HGN2:=hid (genT_pop hgen hq2)
      have hdis9:(Value.slice A9 f.length c9).ownBlock ≠ some b10:=by
       rcases hdis with h|h
       ·rw[h];exact fun e=>by cases e
       ·exact h
      generalize op[q]=y at p1 p2 hsm HGN2;obtain⟨yk,yt,yi⟩:=y;simp only at p1 p2 hsm HGN2;have hnl:=St.name_le' yt;have hy0:(0:Int)<=(q:Int):=by omega
      have hy1:(q:Int)<(op.length:Int):=by omega
      haveI:LtW b10 wr:=LtW.of hb10;have e0:=p1;have e1:=p2;clear hG hk hown hownp hdis hgen hzz hca hc10 HGN hj0;go_wp2_with fail;refine wp_region_any (by kernel_rfl) ?_
      try (change wpAny _ _ _ _ _ _ _ (World.drew _))
      refine rg_norm2 (l':=#[bF,bF,bF,bF,bF,bF,bF,bF,bF,bF,bF,bF,bF,bF,bF,bF]) (by kernel_rfl) ?_;refine wpAny_take (i:=0) (oi:=⟨some 125,_,_,_,_,_⟩) (v:=?_) rfl (by kernel_rfl) (by kernel_rfl) (by kernel_rfl) (fun _ _ _ h=>h) (Or.inl ⟨by rfl,?_⟩) ?_;rotate_left 1
      ·(intro W9;go_simp;try with_reducible rfl)
      conv=>arg 7;simp only[Act.put,zsA,zsB,zsC]
      refine rg_norm2 (l':=#[bT,bF,bF,bF,bF,bF,bF,bF,bF,bF,bF,bF,bF,bF,bF,bF]) (by kernel_rfl) ?_;refine wpAny_take (i:=1) (oi:=⟨some 126,_,_,_,_,_⟩) (v:=?_) rfl (by kernel_rfl) (by kernel_rfl) (by kernel_rfl) (fun _ _ _ h=>h) (Or.inl ⟨by rfl,?_⟩) ?_;rotate_left 1
      ·(intro W9;go_simp;try with_reducible rfl)
      conv=>arg 7;simp only[Act.put,zsA,zsB,zsC]
      refine rg_norm2 (l':=#[bT,bT,bF,bF,bF,bF,bF,bF,bF,bF,bF,bF,bF,bF,bF,bF]) (by kernel_rfl) ?_;refine wpAny_take (i:=2) (oi:=⟨some 127,_,_,_,_,_⟩) (v:=?_) rfl (by kernel_rfl) (by kernel_rfl) (by kernel_rfl) (fun _ _ _ h=>h) (Or.inl ⟨by rfl,?_⟩) ?_;rotate_left 1
      ·(intro W9;go_simp;try with_reducible rfl)
      conv=>arg 7;simp only[Act.put,zsA,zsB,zsC]
      refine rg_norm2 (l':=#[bT,bT,bT,bF,bF,bF,bF,bF,bF,bF,bF,bF,bF,bF,bF,bF]) (by kernel_rfl) ?_;refine wpAny_take (i:=3) (oi:=⟨some 128,_,_,_,_,_⟩) (v:=?_) rfl (by kernel_rfl) (by kernel_rfl) (by kernel_rfl) (fun _ _ _ h=>h) (Or.inl ⟨by rfl,?_⟩) ?_;rotate_left 1
      ·(intro W9;go_simp;try with_reducible rfl)
      conv=>arg 7;simp only[Act.put,zsA,zsB,zsC]
      refine rg_norm2 (l':=#[bT,bT,bT,bT,bF,bF,bF,bF,bF,bF,bF,bF,bF,bF,bF,bF]) (by kernel_rfl) ?_;refine wpAny_take (i:=4) (oi:=⟨some 129,_,_,_,_,_⟩) (v:=?_) rfl (by kernel_rfl) (by kernel_rfl) (by kernel_rfl) (fun _ _ _ h=>h) (Or.inl ⟨by rfl,?_⟩) ?_;rotate_left 1
      ·(intro W9;go_simp;try with_reducible rfl)
      conv=>arg 7;simp only[Act.put,zsA,zsB,zsC]
      refine rg_norm2 (l':=#[bT,bT,bT,bT,bT,bF,bF,bF,bF,bF,bF,bF,bF,bF,bF,bF]) (by kernel_rfl) ?_;refine wpAny_take (i:=7) (oi:=⟨some 132,_,_,_,_,_⟩) (v:=?_) rfl (by kernel_rfl) (by kernel_rfl) (by kernel_rfl) (fun _ _ _ h=>h) (Or.inl ⟨by rfl,?_⟩) ?_;rotate_left 1
      ·(intro W9;go_simp;try with_reducible rfl)
      conv=>arg 7;simp only[Act.put,zsA,zsB,zsC]
      refine rg_norm2 (l':=#[bT,bT,bT,bT,bT,bF,bF,bT,bF,bF,bF,bF,bF,bF,bF,bF]) (by kernel_rfl) ?_;refine wpAny_take (i:=8) (oi:=⟨some 133,_,_,_,_,_⟩) (v:=?_) rfl (by kernel_rfl) (by kernel_rfl) (by kernel_rfl) (fun _ _ _ h=>h) (Or.inl ⟨by rfl,?_⟩) ?_;rotate_left 1
      ·(intro W9;go_simp;try with_reducible rfl)
      conv=>arg 7;simp only[Act.put,zsA,zsB,zsC]
      refine rg_norm2 (l':=#[bT,bT,bT,bT,bT,bF,bF,bT,bT,bF,bF,bF,bF,bF,bF,bF]) (by kernel_rfl) ?_;refine wpAny_take (i:=9) (oi:=⟨some 134,_,_,_,_,_⟩) (v:=?_) rfl (by kernel_rfl) (by kernel_rfl) (by kernel_rfl) (fun _ _ _ h=>h) (Or.inl ⟨by rfl,?_⟩) ?_;rotate_left 1
      ·(intro W9;go_simp;try with_reducible rfl)
      conv=>arg 7;simp only[Act.put,zsA,zsB,zsC]
      refine rg_norm2 (l':=#[bT,bT,bT,bT,bT,bF,bF,bT,bT,bT,bF,bF,bF,bF,bF,bF]) (by kernel_rfl) ?_;refine wpAny_take (i:=10) (oi:=⟨some 135,_,_,_,_,_⟩) (v:=?_) rfl (by kernel_rfl) (by kernel_rfl) (by kernel_rfl) (fun _ _ _ h=>h) (Or.inl ⟨by rfl,?_⟩) ?_;rotate_left 1
      ·(intro W9;go_simp;try with_reducible rfl)
      conv=>arg 7;simp only[Act.put,zsA,zsB,zsC]
      refine rg_norm2 (l':=#[bT,bT,bT,bT,bT,bF,bF,bT,bT,bT,bT,bF,bF,bF,bF,bF]) (by kernel_rfl) ?_;refine wpAny_of_held (S:=fun W=>W.cell? ⟨b10,q*3+1,none⟩=some (.string ⟨yt.toArray⟩)/\W.cell? ⟨b10,q*3+2,none⟩=some (.int .i64 yi)) _ _ _ _ ?_;refine wpAnyH_take (i:=5) (oi:=⟨some 130,_,_,_,_,_⟩) (v:=?_) rfl (by kernel_rfl) (by kernel_rfl) (by kernel_rfl) (fun _ _ _ h=>h) (Or.inl ⟨by rfl,?_⟩) ?_ ?_;rotate_left 1
      ·(intro W9 hS9;have hS7:W9.cell? ⟨b10,q*3+1,none⟩=some (.string ⟨yt.toArray⟩):=hS9.1;have hS8:W9.cell? ⟨b10,q*3+2,none⟩=some (.int .i64 yi):=hS9.2;clear hS9;go_simp;try with_reducible rfl)
      ·first|assumption|exact⟨e0,e1⟩|(refine⟨?_,?_⟩ <;> (go_simp;done))
      conv=>arg 8;simp only[Act.put,zsA,zsB,zsC]
      refine rgH_norm2 (l':=#[bT,bT,bT,bT,bT,bT,bF,bT,bT,bT,bT,bF,bF,bF,bF,bF]) (by kernel_rfl) ?_;refine wpAnyH_take (i:=11) (oi:=⟨some 136,_,_,_,_,_⟩) (v:=?_) rfl (by kernel_rfl) (by kernel_rfl) (by kernel_rfl) (fun _ _ _ h=>h) (Or.inl ⟨by rfl,?_⟩) ?_ ?_;rotate_left 1
      ·(intro W9 hS9;have hS7:W9.cell? ⟨b10,q*3+1,none⟩=some (.string ⟨yt.toArray⟩):=hS9.1;have hS8:W9.cell? ⟨b10,q*3+2,none⟩=some (.int .i64 yi):=hS9.2;clear hS9;go_simp;try with_reducible rfl)
      ·first|assumption|exact⟨e0,e1⟩|(refine⟨?_,?_⟩ <;> (go_simp;done))
      conv=>arg 8;simp only[Act.put,zsA,zsB,zsC]
      refine rgH_norm2 (l':=#[bT,bT,bT,bT,bT,bT,bF,bT,bT,bT,bT,bT,bF,bF,bF,bF]) (by kernel_rfl) ?_;refine wpAnyH_ready (rs:=[6]) (by kernel_rfl) (by simp) ?_;refine AllReadyH.cons (o:=⟨some 131,_,_,_,_,_⟩) rfl (fun K hK=>?_) AllReadyH.nil;refine step_callF2 (o:=⟨some 131,_,_,_,_,_⟩) rfl 21 #[.string ⟨yt.toArray⟩] _ (rname_u yt _ (by omega)) ?_ ?_
      ·go_simp
      rintro e W2 ⟨rfl,hu⟩;refine⟨_,rfl,?_⟩;have hu2:Und wr W2:=(Und.refl wr).drew.trans hu;have e0:=(hu2.cell (p:=⟨b10,q*3+1,none⟩) hb10).trans p1;have e1:=(hu2.cell (p:=⟨b10,q*3+2,none⟩) hb10).trans p2;haveI:LtW b10 W2:=LtW.of (Nat.lt_of_lt_of_le hb10 hu2.size);have HU2:=hid hu2;clear hu hu2;refine hK _ _ ⟨?_,?_⟩
      ·clear hK K;first|assumption|exact⟨e0,e1⟩|(refine⟨?_,?_⟩ <;> (go_simp;done))
      clear hK K
      conv=>arg 8;simp only[Act.put,zsA,zsB,zsC]
      refine rgH_norm2 (l':=#[bT,bT,bT,bT,bT,bT,bT,bT,bT,bT,bT,bT,bF,bF,bF,bF]) (by kernel_rfl) ?_;refine wpAnyH_take (i:=12) (oi:=⟨some 137,_,_,_,_,_⟩) (v:=?_) rfl (by kernel_rfl) (by kernel_rfl) (by kernel_rfl) (fun _ _ _ h=>h) (Or.inl ⟨by rfl,?_⟩) ?_ ?_;rotate_left 1
      ·(intro W9 hS9;have hS7:W9.cell? ⟨b10,q*3+1,none⟩=some (.string ⟨yt.toArray⟩):=hS9.1;have hS8:W9.cell? ⟨b10,q*3+2,none⟩=some (.int .i64 yi):=hS9.2;clear hS9;go_simp;try with_reducible rfl)
      ·first|assumption|exact⟨e0,e1⟩|(refine⟨?_,?_⟩ <;> (go_simp;done))
      conv=>arg 8;simp only[Act.put,zsA,zsB,zsC]
      refine rgH_norm2 (l':=#[bT,bT,bT,bT,bT,bT,bT,bT,bT,bT,bT,bT,bT,bF,bF,bF]) (by kernel_rfl) ?_;refine wpAnyH_ready (rs:=[13]) (by kernel_rfl) (by simp) ?_;refine AllReadyH.cons (o:=⟨some 138,_,_,_,_,_⟩) rfl (fun K hK=>?_) AllReadyH.nil;go_simp;have e0:(W2.alloc (.cells #[.int .i64 3,.string ⟨(St.nameOf yt).toArray⟩,.int .i64 yi] 66)).cell? ⟨b10,q*3+1,none⟩=some (.string ⟨yt.toArray⟩):=((HU2.out.alloc _).cell (p:=⟨b10,q*3+1,none⟩) hb10).trans p1;have e1:(W2.alloc (.cells #[.int .i64 3,.string ⟨(St.nameOf yt).toArray⟩,.int .i64 yi] 66)).cell? ⟨b10,q*3+2,none⟩=some (.int .i64 yi):=((HU2.out.alloc _).cell (p:=⟨b10,q*3+2,none⟩) hb10).trans p2;refine hK _ _ ⟨?_,?_⟩
      ·clear hK K;first|assumption|exact⟨e0,e1⟩|(refine⟨?_,?_⟩ <;> (go_simp;done))
      clear hK K
      conv=>arg 8;simp only[Act.put,zsA,zsB,zsC]
      refine rgH_norm2 (l':=#[bT,bT,bT,bT,bT,bT,bT,bT,bT,bT,bT,bT,bT,bT,bF,bF]) (by kernel_rfl) ?_;refine wpAnyH_ready (rs:=[14]) (by kernel_rfl) (by simp) ?_;refine AllReadyH.cons (o:=⟨some 139,_,_,_,_,_⟩) rfl (fun K hK=>?_) AllReadyH.nil;refine step_append_items2 (o:=⟨some 139,_,_,_,_,_⟩) rfl _ _ rfl w.heap.size (.slice A9 f.length c9) f.length f rfl (own_und (HU2.out.alloc _) HO.out) ⟨W2.heap.size,0,none⟩ 1 1 [(3,St.nameOf yt,yi)] rfl (items_boxi _ _ _ _ _ (by simp) (by simp) (by simp) (by simp)) rfl (by omega) (by have:=HK.out.size;have:=HU2.out.size;simp;omega) ?_;intro v' w6 ho6 hg6 hfr;have e0:=(gb_cell hg6 (p:=⟨b10,q*3+1,none⟩) (by have:=HU2.out.size;simp;omega) (fun e=>hdis9 e.symm)).trans (((HU2.out.alloc _).cell (p:=⟨b10,q*3+1,none⟩) hb10).trans p1);have e1:=(gb_cell hg6 (p:=⟨b10,q*3+2,none⟩) (by have:=HU2.out.size;simp;omega) (fun e=>hdis9 e.symm)).trans (((HU2.out.alloc _).cell (p:=⟨b10,q*3+2,none⟩) hb10).trans p2);have hrow:∀ x,(Value.slice A9 f.length c9).ownBlock=some x->w.heap.size<=x:=fun x hx=>owns_block HO.out x hx
      have HO6:=hid ho6;have HP6:=hid ((own_und (HU2.out.alloc _) HP.out).kept hg6 (.inr (fun e=>hdis9 e.symm)));have HG6:=hid ((HG.out.und (HU2.out.alloc _)).gb hg6 (fun x e=>Nat.le_trans hB (hrow x e)));have HK6:=hid (gb_trans (gb_und HK.out (HU2.out.alloc _)) hg6 (fun x e=>.inr (hrow x e)))
      have hdis6:v'.ownBlock=none∨v'.ownBlock ≠ some b10:=by
       rcases hfr with h|h
       ·rw[h];exact .inr hdis9
       ·cases hv:v'.ownBlock with
        | none=>exact .inl rfl
        | some x=>exact .inr (fun e=>by have u1:=h x hv;have u2:=HU2.out.size;simp at u1 e;omega)
      clear ho6 hg6 hfr hrow HO HP HG HK;refine hK _ _ ⟨?_,?_⟩
      ·clear hK K;first|assumption|exact⟨e0,e1⟩|(refine⟨?_,?_⟩ <;> (go_simp;done))
      clear hK K
      conv=>arg 8;simp only[Act.put,zsA,zsB,zsC]
      refine rgH_norm2 (l':=#[bT,bT,bT,bT,bT,bT,bT,bT,bT,bT,bT,bT,bT,bT,bT,bF]) (by kernel_rfl) ?_;refine wpAnyH_take (i:=15) (oi:=⟨some 9,_,_,_,_,_⟩) (v:=?_) rfl (by kernel_rfl) (by kernel_rfl) (by kernel_rfl) (fun _ _ _ h=>h) (Or.inl ⟨by rfl,?_⟩) ?_ ?_;rotate_left 1
      ·(intro W9 hS9;have hS7:W9.cell? ⟨b10,q*3+1,none⟩=some (.string ⟨yt.toArray⟩):=hS9.1;have hS8:W9.cell? ⟨b10,q*3+2,none⟩=some (.int .i64 yi):=hS9.2;clear hS9;go_simp;try with_reducible rfl)
      ·first|assumption|exact⟨e0,e1⟩|(refine⟨?_,?_⟩ <;> (go_simp;done))
      conv=>arg 8;simp only[Act.put,zsA,zsB,zsC]
      refine rgH_norm2 (l':=#[bT,bT,bT,bT,bT,bT,bT,bT,bT,bT,bT,bT,bT,bT,bT,bT]) (by kernel_rfl) ?_;refine wpAnyH_done (by kernel_rfl) ?_ _;go_wp2;exact⟨⟨q,_,f++[(3,St.nameOf yt,yi)],rfl,rfl,by omega,by simpa using HO6.out,HP6.out,hdis6,HGN2.out,by simp;omega,by rw[tot_snoc];show tot f+(St.nameOf yt).length+5*q<=_;omega,HG6.out,HK6.out⟩,by first|(simp[intOf];done)|(simp[intOf];omega)⟩
theorem fragn_gen(B g P n:Nat)(w:World)(hG:GenP w B g P)(hP:P<=100000)(hn:n<=100) :
  Calls Tryz.prog 5 #[.pointer (some ⟨g,0,none⟩),.int .i64 n,.bool true,.bool true] w (FragNEnd w B g P n):=fragw_gen true B g P n w hG hP hn
end
end Go.Proofs.YtcfhfdphoidaeaaGreatDoor
