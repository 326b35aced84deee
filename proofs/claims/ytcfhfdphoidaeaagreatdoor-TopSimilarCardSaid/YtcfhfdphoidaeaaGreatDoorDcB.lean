/- The contracts of document's known, ascending and replaced, and of slices.Clone at parts. -/
import Derived.Test.YtcfhfdphoidaeaaGreatDoorDcA
import Derived.Test.YtcfhfdphoidaeaaGreatDoorSBuild
set_option linter.unusedVariables false
set_option linter.unusedSimpArgs false
set_option maxHeartbeats 12800000
set_option maxRecDepth 20000
namespace Go.Proofs.YtcfhfdphoidaeaaGreatDoor
open Go.RowKit
section
theorem dknown_any(fmt:Int)(w:World)(h:fmt=1∨fmt=2∨fmt=3):Calls Tryz.prog 49 #[.int .i64 fmt] w fun e w'=>e=.returned (.bool true)/\w=w':=by
 rcases h with rfl|rfl|rfl
 all_goals
  go_enter Tryz.func49,Tryz.ntmps49;go_wp2;go_ret;exact⟨rfl,rfl⟩
def RangesAt(w:World)(A:Option Addr)(rs:List (Int × Int)):Prop:=
 rs.length > 0->∃ b off,A=some ⟨b,off,none⟩/\b<w.heap.size/\∀ j (h:j<rs.length),w.cell? ⟨b,off+j*2,none⟩=some (.int .i64 rs[j].1)/\w.cell? ⟨b,off+j*2+1,none⟩=some (.int .i64 rs[j].2)
theorem RangesAt.und{w w':World}{A:Option Addr}{rs:List (Int × Int)}(h:RangesAt w A rs)(u:Und w w'):RangesAt w' A rs:=by
 intro h0;obtain⟨b,off,rfl,hb,hc⟩:=h h0;exact⟨b,off,rfl,Nat.lt_of_lt_of_le hb u.size,fun j hj=>⟨(u.cell hb).trans (hc j hj).1,(u.cell hb).trans (hc j hj).2⟩⟩
def TargsAt(w:World)(B:Option Addr)(ts:List (List St.It)):Prop:=
 ts.length > 0->∃ b off,B=some ⟨b,off,none⟩/\b<w.heap.size/\∀ j (h:j<ts.length),∃ A c,w.cell? ⟨b,off+j,none⟩=some (.slice A ts[j].length c)/\ItemsAt w A ts[j]/\ts[j].length<=c/\c<=9223372036854775807/\(A=none->c=0)
theorem TargsAt.und{w w':World}{B:Option Addr}{ts:List (List St.It)}(h:TargsAt w B ts)(u:Und w w'):TargsAt w' B ts:=by
 intro h0;obtain⟨b,off,rfl,hb,hc⟩:=h h0;refine⟨b,off,rfl,Nat.lt_of_lt_of_le hb u.size,fun j hj=>?_⟩;obtain⟨A,c,g0,g1,g2,g3,g4⟩:=hc j hj;exact⟨A,c,(u.cell hb).trans g0,g1.und u,g2,g3,g4⟩
theorem asc_drop(n:Nat)(at':Int)(rs:List (Int × Int))(k:Nat)(h:k<rs.length):St.ascL n at' (rs.drop k)=if rs[k].1<at'∨rs[k].2<rs[k].1∨(n:Int)<rs[k].2 then false else St.ascL n rs[k].2 (rs.drop (k+1)):=by
 rw[List.drop_eq_getElem_cons h,St.ascL]
def AsRel(w:World)(rs:List (Int × Int))(n:Nat)(s5 s10:Value)(wr:World):Prop:=
 ∃ (k:Nat) (a:Int),k<=rs.length/\s10=.int .i64 k/\s5=.int .i64 a/\St.ascL n 0 rs=St.ascL n a (rs.drop k)/\Und w wr
theorem dasc_any(A:Option Addr)(n c L:Nat)(rs:List (Int × Int))(w:World)(hn:rs.length=n)(h:RangesAt w A rs)(hl:n<=1000000000) :
  Calls Tryz.prog 60 #[.slice A n c,.int .i64 (L:Int)] w fun e w'=>e=.returned (.bool (St.ascL L 0 rs))/\Und w w':=by
 have H:=hid h;have HN:=hid hn;clear h hn;go_enter Tryz.func60,Tryz.ntmps60;go_wp2;go_loopw [5,10] (fun s5 s10 wr=>AsRel w rs L s5 s10 wr) (fun _ s10 _=>n+1-(intOf s10).toNat)
 case atStart=>exact⟨0,0,by omega,rfl,rfl,by simp,Und.refl _⟩
 case round=>
  obtain⟨k,a,hk,rfl,rfl,has,hu⟩:=hrel;have HU:=hid hu;have HAS:=hid has;have hN:=HN.out;clear hu has
  by_cases hlt:k<n
  ·have hlt2:k<rs.length:=by omega
   obtain⟨b,off,rfl,hb,hc⟩:=(H.out.und HU.out) (by omega);obtain⟨c0,c1⟩:=hc k hlt2;have hd:=asc_drop L a rs k hlt2;generalize rs[k]=r at c0 c1 hd;obtain⟨p,q⟩:=r;simp only at c0 c1 hd;haveI:LtW b wr:=LtW.of hb;have HD:=hid hd;clear hc hlt2 hd
   by_cases h1:p<a
   ·have hf:=hid (show St.ascL L 0 rs=false by rw[HAS.out,HD.out,if_pos (.inl h1)])
    go_wp2;go_ret;exact⟨ret_bool hf.out.symm,HU.out.trans (by apply_rules[uUe,uUa,uUb,uUc,uUd])⟩
   ·by_cases h2:q<p
    ·have hf:=hid (show St.ascL L 0 rs=false by rw[HAS.out,HD.out,if_pos (.inr (.inl h2))])
     go_wp2;go_ret;exact⟨ret_bool hf.out.symm,HU.out.trans (by apply_rules[uUe,uUa,uUb,uUc,uUd])⟩
    ·by_cases h3:(L:Int)<q
     ·have hf:=hid (show St.ascL L 0 rs=false by rw[HAS.out,HD.out,if_pos (.inr (.inr h3))])
      go_wp2;go_ret;exact⟨ret_bool hf.out.symm,HU.out.trans (by apply_rules[uUe,uUa,uUb,uUc,uUd])⟩
     ·have hf:=hid (show St.ascL L 0 rs=St.ascL L q (rs.drop (k+1)) by rw[HAS.out,HD.out,if_neg (by rintro (e|e|e);exact h1 e;exact h2 e;exact h3 e)])
      go_wp2;exact⟨⟨k+1,q,by omega,congrArg (Value.int .i64) (by omega),rfl,hf.out,HU.out.trans (by apply_rules[uUe,uUa,uUb,uUc,uUd])⟩,by simp[intOf];omega⟩
  ·have hkn:k=n:=by omega
   subst hkn;have hf:=hid (show St.ascL L 0 rs=true by rw[HAS.out,List.drop_of_length_le (by omega)];rfl);clear hlt;go_wp2;go_ret;exact⟨ret_bool hf.out.symm,HU.out⟩
end
section
theorem step_callX{P:Program}{ops:Array Oper}{o:Oper}{a:Act}{w:World}{K:Act->World->Prop}{Q:Exit->Act->World->Prop}{E:Prop}
  (hg:o.guard=none) (f:FuncId) (args:Array Value) (Post:Ending->World->Prop) (hc:Calls P f args w Post)
  (hrun:(execOp a.eval o).run P w=.ok (.enter f args) w) (hK:∀ e w',Post e w'->∃ v,e=.returned v/\K (a.put o.dst v) w') :
  if Region.wanted o (yielded ops a.tmps)=true then Oper.wp P o a w K Q else E:=by
 have hw:Region.wanted o (yielded ops a.tmps)=true:=by simp[Region.wanted,hg]
 rw[if_pos hw];unfold Oper.wp;rw[hrun];refine hc.mono ?_;intro e w' h;obtain⟨v,rfl,hk⟩:=hK e w' h;exact hk
theorem tot_ap(a b:List St.It):tot (a++b)=tot a+tot b:=by unfold tot;rw[List.map_append,List.sum_append]
theorem tot_nm(f:List St.It):tot (St.normL f)<=tot f:=by
 have key:∀ (n:Nat) (f:List St.It),f.length=n->tot (St.normL f)<=tot f:=by
  intro n
  induction n with
  | zero=>intro f h;rw[List.eq_nil_of_length_eq_zero h];simp[St.normL]
  | succ n ih=>
   intro f h;rcases St.snoc_cases f with rfl|⟨a,b,rfl⟩
   ·simp at h
   ·rw[St.normL_snoc,tot_snoc]
    have h1:=tot_add (St.normL a) b;have h2:=ih a (by simpa using h);omega
 exact key _ f rfl
theorem tot_sl(a b:Nat):∀ (f:List St.It) (m:Nat),tot (St.sliceL a b m f)<=tot f
 | [],m=>by simp[St.sliceL]
 | x :: f,m=>by
  rw[St.sliceL,tot_ap];have h:=tot_sl a b f (m+St.widthI x);have e:tot (x :: f)=x.2.1.length+tot f:=by simp[tot]
  have h1:tot (if x.1=1 then (if max a m-m<min b (m+x.2.1.length)-m then [((1:Int),(x.2.1.take (min b (m+x.2.1.length)-m)).drop (max a m-m),x.2.2)] else []) else (if a<=m/\m<b then [x] else []))<=x.2.1.length:=by
   repeat' split
   all_goals simp[tot]
   all_goals omega
  omega
theorem rep_drop(f:List St.It)(a:Nat)(O:List St.It)(rs:List (Int × Int))(ts:List (List St.It))(k:Nat)(h:k<rs.length)(h':k<ts.length) :
  St.replF f a O (rs.drop k) (ts.drop k)=St.replF f rs[k].2.toNat (St.normL (St.normL (O++St.sliceL a rs[k].1.toNat 0 f)++ts[k])) (rs.drop (k+1)) (ts.drop (k+1)):=by
 rw[List.drop_eq_getElem_cons h,List.drop_eq_getElem_cons h',St.replF]
def DrRel(w:World)(f:List St.It)(rs:List (Int × Int))(ts:List (List St.It))(s7 s8 s17:Value)(wr:World):Prop:=
 ∃ (k a:Nat) (O:List St.It) (A c:_),k<=rs.length/\s17=.int .i64 k/\s8=.int .i64 a/\s7=.slice A O.length c/\ItemsAt wr A O/\(A=none->O.length=0/\c=0)/\a<=St.lenL f/\O.length<=1700*k/\tot O<=200000000*k /\
  St.ascL (St.lenL f) a (rs.drop k)=true/\St.replF f 0 [] rs ts=St.replF f a O (rs.drop k) (ts.drop k)/\Und w wr
theorem drepl_any(A B C:Option Addr)(n c m d e0:Nat)(f:List St.It)(rs:List (Int × Int))(ts:List (List St.It))(w:World)(hn:f.length=n)(hm:rs.length=m)(hm':ts.length=m)(h:ItemsAt w A f)(hB:RangesAt w B rs)(hC:TargsAt w C ts)
  (hl:n<=512) (ht:tot f<=100000000) (hml:m<=20) (hts:∀ t ∈ ts,t.length<=1100/\tot t<=100000000) (hasc:St.ascL (St.lenL f) 0 rs=true) :
  Calls Tryz.prog 65 #[.slice A n c,.slice B m d,.slice C m e0] w fun e w'=>∃ v,e=.returned v/\w'.ownsRow w.heap.size 66 3 v (St.replL f rs ts).length (cellsIt (St.replL f rs ts))/\(St.replL f rs ts).length<=60000/\tot (St.replL f rs ts)<=100000000000/\Und w w':=by
 have H:=hid h;have HN:=hid hn;have HM:=hid hm;have HM':=hid hm';have HB:=hid hB;have HC:=hid hC;have HTS:=hid hts;have HT:=hid ht;have hLb:=lenL_tot f;have hle:=hid (fun (W:World) (hW:Und w W)=>ilength_any A n c f W hn (h.und hW) (by omega) (by omega));have hsl:=hid (fun (W:World) (hW:Und w W) (a b:Nat) (hab:a<=b) (hbl:b<=St.lenL f)=>islice_any A n c f a b W hn (h.und hW) (by omega) (by omega) hab hbl);have HASC:=hid hasc;clear h hn hm hm' hB hC hts ht hasc;obtain⟨L,hL⟩:∃ L,L=St.lenL f:=⟨_,rfl⟩;go_enter Tryz.func65,Tryz.ntmps65;go_wp2_with fail;go_loopw [7,8,17] (fun s7 s8 s17 wr=>DrRel w f rs ts s7 s8 s17 wr) (fun _ _ s17 _=>m+1-(intOf s17).toNat)
 case atStart=>exact⟨0,0,[],none,0,by omega,rfl,rfl,rfl,fun h=>absurd h (by simp),fun _=>⟨rfl,rfl⟩,by omega,by simp,by simp[tot],by simpa using HASC.out,by simp,Und.refl _⟩
 case round=>
  obtain⟨k,a,O,A7,c7,hk,rfl,rfl,rfl,hI,hA7,hal,hOl,hOt,has,hrp,hu⟩:=hrel;have HU:=hid hu;have HI:=hid hI;have HA7:=hid hA7;have HRP:=hid hrp;have hN:=HN.out;have hM:=HM.out;have hM':=HM'.out;have hT:=HT.out;clear hu hI hA7 hrp
  by_cases hlt:k<m
  ·have hlt2:k<rs.length:=by omega
   have hlt3:k<ts.length:=by omega
   obtain⟨b,off,rfl,hb,hc⟩:=(HB.out.und HU.out) (by omega);obtain⟨c0,c1⟩:=hc k hlt2;obtain⟨b2,off2,rfl,hb2,hc2⟩:=(HC.out.und HU.out) (by omega);obtain⟨At,ct,g0,gI,gn,gc,gA⟩:=hc2 k hlt3;rw[asc_drop _ _ rs k hlt2] at has;have hrd:=rep_drop f a O rs ts k hlt2 hlt3;have htb:=HTS.out ts[k] (List.getElem_mem hlt3);generalize rs[k]=r at c0 c1 has hrd;generalize ts[k]=t at g0 gI gn hrd htb;obtain⟨p,q⟩:=r;simp only at c0 c1 has hrd
   split at has
   ·cases has
   rename_i hcond
   obtain⟨p',rfl⟩:∃ p':Nat,p=p':=⟨p.toNat,by omega⟩;obtain⟨q',rfl⟩:∃ q':Nat,q=q':=⟨q.toNat,by omega⟩;have hap:a<=p':=by omega
   have hpq:p'<=q':=by omega
   have hqL:q'<=St.lenL f:=by omega
   have hpL:p'<=St.lenL f:=by omega
   simp only[Int.toNat_natCast] at hrd;have hPl:=sl_len a p' f 0;have hPt:=tot_sl a p' f 0;have HSL:=hid (fun W hW=>hsl.out W hW a p' hap hpL);generalize St.sliceL a p' 0 f=P at hrd hPl hPt HSL;have hn1:=St.normL_len (O++P);have ht1:=tot_nm (O++P);rw[tot_ap] at ht1;have hcat1:=fun (AP:Option Addr) (cP:Nat) (W:World) (hW:Und wr W) (hAP:AP=none->P.length=0/\cP=0) (hP:ItemsAt W AP P)=>icat_any A7 AP O.length c7 P.length cP O P W rfl rfl HA7.out hAP (HI.out.und hW) hP (by omega) (by rw[tot_ap];omega)
   obtain⟨Q1,hQ1⟩:∃ Q1,Q1=St.normL (O++P):=⟨_,rfl⟩;rw[<- hQ1] at hrd hn1 ht1 hcat1;rw[List.length_append] at hn1;have hn2:=St.normL_len (Q1++t);have ht2:=tot_nm (Q1++t);rw[tot_ap] at ht2;rw[List.length_append] at hn2;have hcat2:=fun (AQ:Option Addr) (cQ:Nat) (W:World) (hW:Und wr W) (hAQ:AQ=none->Q1.length=0/\cQ=0) (hQ:ItemsAt W AQ Q1)=>icat_any AQ At Q1.length cQ t.length ct Q1 t W rfl rfl hAQ (fun e=>by have:=gA e;omega) hQ (gI.und hW) (by omega) (by rw[tot_ap];omega)
   have hfin:∀ (A8:Option Addr) (c8:Nat) (W:World),ItemsAt W A8 (St.normL (Q1++t))->(A8=none->(St.normL (Q1++t)).length=0/\c8=0)->Und w W->DrRel w f rs ts (.slice A8 (St.normL (Q1++t)).length c8) (.int .i64 (q':Int)) (.int .i64 ((k:Int)+1)) W:=fun A8 c8 W h1 h2 h3=>
    ⟨k+1,q',_,A8,c8,by omega,congrArg (Value.int .i64) (by omega),rfl,rfl,h1,h2,hqL,by omega,by omega,has,by rw[HRP.out,hrd],h3⟩
   have HFIN:=hid hfin;have HC1:=hid hcat1;have HC2:=hid hcat2;haveI:LtW b wr:=LtW.of hb;haveI:LtW b2 wr:=LtW.of hb2;have z1:(k:Int)<(m:Int):=by omega
   clear hc hc2 hcond hrd hcat1 hcat2 hfin has gI hn1 ht1 hn2 ht2 hPl hPt htb hlt2 hlt3;generalize St.normL (Q1++t)=Q2 at *;go_wp2_with fail;refine(HSL.out _ (HU.out.trans (by apply_rules[uUe,uUa,uUb,uUc,uUd]))).mono ?_;rintro e w3 ⟨vP,rfl,hoP,hu3⟩;have hu3':Und wr w3:=Und.trans ((by apply_rules[uUe,uUa,uUb,uUc,uUd])) hu3;have d0:w3.cell? ⟨wr.heap.size,0,none⟩=some (.int .i64 (p':Int)):=(hu3.cell (p:=⟨wr.heap.size,0,none⟩) (by simp)).trans (by simp);have d1:w3.cell? ⟨wr.heap.size,1,none⟩=some (.int .i64 (q':Int)):=(hu3.cell (p:=⟨wr.heap.size,1,none⟩) (by simp)).trans (by simp);have g3:=(hu3'.cell (p:=⟨b2,off2+k,none⟩) hb2).trans g0;obtain⟨AP,cP,rfl,_,_,hAP⟩:=own_slice' hoP;have hPI:=items_own hoP rfl;haveI:LtW wr.heap.size w3:=LtW.of (zbL _ _ d0);haveI:LtW b2 w3:=LtW.of (zbL _ _ g3);have HU3:=hid hu3';have HP:=hid hPI
   have hAP':AP=none->P.length=0/\cP=0:=fun e=>by
    have:=hAP e
    refine⟨?_,this⟩;subst e;rcases hoP.2 with ⟨e1,e2⟩|⟨g,cap,cur,e1,_⟩
    ·simpa using e2
    ·cases e1
   generalize wr.heap.size=bx at *;clear hu3 hu3' hoP hPI c0 c1 g0 hAP;go_wp2_with fail
   go_region_law (first
    | (refine step_callX rfl 125 #[.slice A7 O.length c7,.slice AP P.length cP] _ (HC1.out AP cP _ (HU3.out.trans (by apply_rules[uUe,uUa,uUb,uUc,uUd])) hAP' (HP.out.und (by apply_rules[uUe,uUa,uUb,uUc,uUd]))) ?_ ?_;(· go_simp;done);rintro e w5 ⟨v5,rfl,ho5,hu5⟩;obtain⟨A5,c5,rfl,_,_,hA5⟩:=own_slice' ho5;refine⟨_,rfl,?_⟩;have g5:=(hu5.cell (p:=⟨b2,off2+k,none⟩) (LtW.lt inferInstance)).trans g3;have d5:=(hu5.cell (p:=⟨bx,1,none⟩) (LtW.lt inferInstance)).trans d1;haveI:LtW b2 w5:=LtW.of (zbL _ _ g5);haveI:LtW bx w5:=LtW.of (zbL _ _ d5))
    | (refine step_callX rfl 125 #[.slice A5 Q1.length c5,.slice At t.length ct] _ (HC2.out A5 c5 _ (HU3.out.trans (Und.trans (Und.trans (by apply_rules[uUe,uUa,uUb,uUc,uUd]) hu5) (by apply_rules[uUe,uUa,uUb,uUc,uUd]))) (fun e=>⟨by subst e;rcases ho5.2 with ⟨e1,e2⟩|⟨g,cap,cur,e1,_⟩ <;> simp_all,hA5 e⟩) ((items_own ho5 rfl).und (by apply_rules[uUe,uUa,uUb,uUc,uUd]))) ?_ ?_;(· go_simp;done);rintro e w6 ⟨v6,rfl,ho6,hu6⟩;obtain⟨A6,c6,rfl,_,_,hA6⟩:=own_slice' ho6;refine⟨_,rfl,?_⟩;have d6:=(hu6.cell (p:=⟨bx,1,none⟩) (LtW.lt inferInstance)).trans d5;haveI:LtW bx w6:=LtW.of (zbL _ _ d6)))
   all_goals
    have hA6':A6=none->Q2.length=0/\c6=0:=fun e=>⟨by subst e;rcases ho6.2 with ⟨e1,e2⟩|⟨g,cap,cur,e1,_⟩ <;> simp_all,hA6 e⟩
    have HE:=hid (HFIN.out A6 c6 w6 (items_own ho6 rfl) hA6' (HU.out.trans (HU3.out.trans (Und.trans (Und.trans (by apply_rules[uUe,uUa,uUb,uUc,uUd]) hu5) (Und.trans (by apply_rules[uUe,uUa,uUb,uUc,uUd]) hu6)))));clear ho5 ho6 hu5 hu6;go_wp2;exact⟨HE.out,by simp[intOf];omega⟩
  ·have hkn:k=m:=by omega
   subst hkn
   have hrl:St.replL f rs ts=St.normL (O++St.sliceL a (St.lenL f) 0 f):=by
    unfold St.replL;rw[HRP.out,List.drop_of_length_le (by omega),List.drop_of_length_le (by omega)];rfl
   have hPl:=sl_len a (St.lenL f) f 0;have hPt:=tot_sl a (St.lenL f) f 0;have HSL:=hid (fun W hW=>hsl.out W hW a (St.lenL f) hal (Nat.le_refl _));generalize St.sliceL a (St.lenL f) 0 f=P at hrl hPl hPt HSL;have hn1:=St.normL_len (O++P);have ht1:=tot_nm (O++P);rw[tot_ap] at ht1;rw[List.length_append] at hn1;have hcat1:=fun (AP:Option Addr) (cP:Nat) (W:World) (hW:Und wr W) (hAP:AP=none->P.length=0/\cP=0) (hP:ItemsAt W AP P)=>icat_any A7 AP O.length c7 P.length cP O P W rfl rfl HA7.out hAP (HI.out.und hW) hP (by omega) (by rw[tot_ap];omega)
   rw[<- hrl] at hn1 ht1 hcat1;have HC1:=hid hcat1;have HL:=hid (hle.out _ HU.out);clear hlt hcat1 hrl has;go_wp2_with fail;refine HL.out.mono ?_;rintro e w2 ⟨rfl,hu2⟩;have HU2:=hid hu2;clear hu2;go_wp2_with fail;refine(HSL.out _ (HU.out.trans HU2.out)).mono ?_;rintro e w3 ⟨vP,rfl,hoP,hu3⟩;obtain⟨AP,cP,rfl,_,_,hAP⟩:=own_slice' hoP;have HP:=hid (items_own hoP rfl);have HU3:=hid (HU2.out.trans hu3);have hAP':AP=none->P.length=0/\cP=0:=fun e=>⟨by subst e;rcases hoP.2 with ⟨e1,e2⟩|⟨g,cap,cur,e1,_⟩ <;> simp_all,hAP e⟩
   clear hu3 hoP hAP;go_wp2_with fail;refine(HC1.out AP cP _ HU3.out hAP' HP.out).mono ?_;rintro e w4 ⟨v4,rfl,ho4,hu4⟩;have HE:=hid (And.intro (own_low ho4 (by have:=(HU.out.trans HU3.out).size;omega)) (HU.out.trans (HU3.out.trans hu4)));clear ho4 hu4;go_wp2;go_ret;exact⟨_,rfl,HE.out.1,by omega,by omega,HE.out.2⟩
end
section
def SNil(b:Nat)(w:World):Prop:=∃ p,(p=.pointer none∨p=.pointer (some ⟨b,0,none⟩))/\w.heap[b]?=some (.cells #[p,.slice none 0 0] 139 (0,0))
theorem SNil.und{b:Nat}{a c:World}(h:SNil b a)(u:Und a c):SNil b c:=by
 obtain⟨p,h1,h2⟩:=h;exact⟨p,h1,(u.below.block b (lt_of_heap h2)).trans h2⟩
theorem SNil.sb{B b:Nat}{w:World}(h:SNil b w)(hB:B<=b):SB B b [] w:=by
 obtain⟨p,h1,h2⟩:=h;rcases h1 with rfl|rfl
 ·exact .inl ⟨hB,_,h2,World.ownsRow_nil _ _ _ _,by simp[Value.ownBlock]⟩
 ·exact .inr ⟨hB,_,h2,World.ownsRow_nil _ _ _ _,by simp[Value.ownBlock]⟩
theorem copyCheck_nil(B b:Nat)(w:World)(h:SNil b w)(hB:B<=b) :
  Calls Tryz.prog 126 #[.pointer (some ⟨b,0,none⟩)] w fun e w'=>e=.returned (.tuple #[])/\w'.heap[b]?=some (.cells #[.pointer (some ⟨b,0,none⟩),.slice none 0 0] 139 (0,0))/\Below B w w':=by
 obtain⟨p,h1,h2⟩:=h;rcases h1 with rfl|rfl
 ·refine(copyCheck_fresh b w (zcH h2 0) (by simp[World.shape?,h2]) (zfH h2 0)).mono ?_
  rintro e w' ⟨rfl,rfl⟩;exact⟨rfl,heap_setCell_same w b 0 _ _ _ h2,(Below.refl B w).setCell (p:=⟨b,0,none⟩) hB _⟩
 ·refine(copyCheck_used b w (zcH h2 0)).mono ?_
  rintro e w' ⟨rfl,rfl⟩;exact⟨rfl,h2,Below.refl B _⟩
theorem writeString_none(B b:Nat)(s:ByteArray)(w:World)(h:SNil b w)(hs:s.size=0)(hB:B<=b)(hBw:B<=w.heap.size) :
  Calls Tryz.prog 67 #[.pointer (some ⟨b,0,none⟩),.string s] w fun e w'=>e=.returned (.tuple #[.int .i64 s.size,.nilIface])/\SNil b w'/\Below B w w':=by
 obtain⟨i0,hi,hz0,hz1,hz2⟩:=info_parts sb_byte;go_enter Tryz.func67,Tryz.ntmps67;go_wp2_with (go_at_call 126;refine(copyCheck_nil B b _ h hB).mono ?_);rintro e w1 ⟨rfl,hbk,hb1⟩;have c0:w1.cell? ⟨b,0,none⟩=some (.pointer (some ⟨b,0,none⟩)):=by rw[zcH hbk];rfl
 have c1:w1.cell? ⟨b,1,none⟩=some (.slice none 0 0):=by rw[zcH hbk];rfl
 go_wp2_with (at_builtin;refine Lib.wpList_append_own_string _ rfl _ _ 137 9 rfl B 5 i0 Tryz.underlying137 Tryz.underlying9 hi hz0 hz1 hz2 _ _ _ rfl (World.ownsRow_nil _ _ _ _) s rfl ?c3 ?c4 ?c5 ?_)
 case c3=>unfold maxLen;omega
 case c4=>omega
 case c5=>have:=hb1.size;omega
 intro v' w2 hown' hgrow hnil;obtain rfl:v'=.slice none 0 0:=by first|exact hnil|exact hnil.2 ⟨rfl,hs⟩
 have hb2:w2.heap[b]?=some (.cells #[.pointer (some ⟨b,0,none⟩),.slice none 0 0] 139 (0,0)):=by
  rw[hgrow.block b (lt_of_heap hbk) (fun e=>by simp[Value.ownBlock] at e)];exact hbk
 have d0:w2.cell? ⟨b,0,none⟩=some (.pointer (some ⟨b,0,none⟩)):=by rw[zcH hb2];rfl
 have d1:w2.cell? ⟨b,1,none⟩=some (.slice none 0 0):=by rw[zcH hb2];rfl
 have f1:w2.frozen? ⟨b,1,none⟩=false:=zfH hb2 1
 have hfin:=hid (show SNil b (w2.setCell ⟨b,1,none⟩ (.slice none 0 0))/\Below B w (w2.setCell ⟨b,1,none⟩ (.slice none 0 0)) from
  ⟨⟨_,.inr rfl,heap_setCell_same w2 b 1 _ _ _ hb2⟩,(hb1.grown hgrow (by have:=hb1.size;omega) (fun k hk=>by simp[Value.ownBlock] at hk)).setCell (p:=⟨b,1,none⟩) hB _⟩)
 clear hown' hgrow hnil;go_wp2;go_ret2;exact⟨by first|rfl|(rw[hs];rfl),hfin.out.1,hfin.out.2⟩
def SbAt(B b:Nat)(l:List UInt8)(w:World):Prop:=(l=[]/\SNil b w/\B<=b)∨(l ≠ []/\SB B b l w)
theorem SbAt.und{B b:Nat}{l:List UInt8}{a c:World}(h:SbAt B b l a)(u:Und a c):SbAt B b l c:=by
 rcases h with ⟨h1,h2,h3⟩|⟨h1,h2⟩
 ·exact .inl ⟨h1,h2.und u,h3⟩
 ·exact .inr ⟨h1,h2.und u⟩
theorem sbWrite_any(B b:Nat)(l t:List UInt8)(w:World)(h:SbAt B b l w)(hlen:l.length+t.length<=140737488355328)(hBw:B<=w.heap.size) :
  Calls Tryz.prog 67 #[.pointer (some ⟨b,0,none⟩),.string ⟨t.toArray⟩] w fun e w'=>e=.returned (.tuple #[.int .i64 (t.length:Int),.nilIface])/\SbAt B b (l++t) w'/\Below B w w':=by
 have hz:(⟨t.toArray⟩:ByteArray).size=t.length:=by show t.toArray.size=_;simp
 have key:SB B b l w->l++t ≠ []->Calls Tryz.prog 67 #[.pointer (some ⟨b,0,none⟩),.string ⟨t.toArray⟩] w fun e w'=>e=.returned (.tuple #[.int .i64 (t.length:Int),.nilIface])/\SbAt B b (l++t) w'/\Below B w w':=fun h1 h2=>by
  refine(writeString_any B b l ⟨t.toArray⟩ w h1 (by rw[hz];exact hlen) hBw).mono ?_;rintro e w' ⟨rfl,h3,h4,_⟩;exact⟨by rw[hz],.inr ⟨h2,by simpa using h3⟩,h4⟩
 rcases h with ⟨rfl,h2,h3⟩|⟨h1,h2⟩
 ·by_cases ht:t=[]
  ·subst ht
   refine(writeString_none B b ⟨#[]⟩ w h2 rfl h3 hBw).mono ?_;rintro e w' ⟨rfl,h4,h5⟩;exact⟨rfl,.inl ⟨rfl,h4,h3⟩,h5⟩
  ·exact key (h2.sb h3) (by simpa using ht)
 ·exact key h2 (by simp[h1])
theorem sbText_any(B b:Nat)(l:List UInt8)(w:World)(h:SbAt B b l w) :
  Calls Tryz.prog 68 #[.pointer (some ⟨b,0,none⟩)] w fun e w'=>e=.returned (.string ⟨l.toArray⟩)/\Below B w w':=by
 rcases h with ⟨rfl,⟨p,_,h2⟩,_⟩|⟨h1,h2⟩
 ·exact sbString_nil B b p w h2
 ·exact sbString_any B b l w h2 h1
def DbRel(w:World)(b:Nat)(ps:List St.Pt)(n:Nat)(s9:Value)(wr:World):Prop:=
 ∃ k:Nat,k<=n/\s9=.int .i64 k/\SbAt w.heap.size b (St.rawP (ps.take k)) wr/\Und w wr
theorem raw_take(ps:List St.Pt)(k:Nat)(h:k<ps.length):St.rawP (ps.take (k+1))=St.rawP (ps.take k)++ps[k].2.2:=by
 unfold St.rawP;rw[List.take_add_one,List.getElem?_eq_getElem h,List.flatMap_append];simp
theorem raw_take_le(ps:List St.Pt)(k:Nat):(St.rawP (ps.take k)).length<=(St.rawP ps).length:=by
 have e:St.rawP ps=St.rawP (ps.take k)++St.rawP (ps.drop k):=by
  conv=>lhs;rw[<- List.take_append_drop k ps]
  unfold St.rawP;rw[List.flatMap_append]
 rw[e,List.length_append];omega
theorem dbytes_any(fmt:Int)(A:Option Addr)(n c:Nat)(ps:List St.Pt)(w:World)(hn:ps.length=n)(h:PartsAt w A ps)(hl:n<=9223372036854775807)(hr:(St.rawP ps).length<=1000000000) :
  Calls Tryz.prog 18 #[.agg #[.int .i64 fmt,.slice A n c]] w fun e w'=>e=.returned (.string ⟨(St.rawP ps).toArray⟩)/\Und w w':=by
 have H:=hid h;have HN:=hid hn;have HR:=hid hr;clear h hn hr;go_enter Tryz.func18,Tryz.ntmps18;go_wp2_with fail;go_loopw [9] (fun s9 wr=>DbRel w (w.heap.size+1) ps n s9 wr) (fun s9 _=>n+1-(intOf s9).toNat)
 case atStart=>
  refine⟨0,by omega,rfl,.inl ⟨rfl,⟨.pointer none,.inl rfl,?_⟩,by omega⟩,(by apply_rules[uUe,uUa,uUb,uUc,uUd])⟩;have:=heap_alloc_new (w.alloc (.cells #[.int .i64 fmt,.slice A n c] 52)) (.cells #[.pointer none,.slice none 0 0] 139)
  simpa using this
 case round=>
  obtain⟨k,hk,rfl,hsb,hu⟩:=hrel;have HU:=hid hu;have HSB:=hid hsb;have hN:=HN.out;have hR:=HR.out;have hsz:=hu.size;clear hu hsb
  by_cases hlt:k<n
  ·have hlt2:k<ps.length:=by omega
   obtain⟨b,off,rfl,hb,hc⟩:=(H.out.und HU.out) (by omega);obtain⟨c0,c1,c2⟩:=hc k hlt2;have hrt:=raw_take ps k hlt2;have h1:=raw_take_le ps (k+1);generalize ps[k]=x at c0 c1 c2 hrt;obtain⟨xu,xk,xr⟩:=x;simp only at c0 c1 c2 hrt;rw[hrt,List.length_append] at h1;have hwr:=hid (fun (W:World) (hW:Und wr W)=>sbWrite_any w.heap.size (w.heap.size+1) (St.rawP (ps.take k)) xr W (HSB.out.und hW) (by omega) (by have:=hW.size;omega));rw[<- hrt] at hwr;haveI:LtW b wr:=LtW.of hb;clear hc hlt2 hrt;go_wp2_with fail;refine(hwr.out _ (by apply_rules[uUe,uUa,uUb,uUc,uUd])).mono ?_;rintro e w3 ⟨rfl,h3,h4⟩;have HE:=hid (show DbRel w (w.heap.size+1) ps n (.int .i64 ((k:Int)+1)) w3 from⟨k+1,by omega,congrArg (Value.int .i64) (by omega),h3,Und.mk (((HU.out.trans (by apply_rules[uUe,uUa,uUb,uUc,uUd])).below).trans h4)⟩);clear h3 h4;go_wp2;exact⟨HE.out,by simp[intOf];omega⟩
  ·have hkn:k=n:=by omega
   subst hkn;have hft:ps.take k=ps:=List.take_of_length_le (by omega);rw[hft] at HSB;have hst:=hid (sbText_any w.heap.size (w.heap.size+1) (St.rawP ps) wr HSB.out);clear hlt hft;go_wp2_with fail;refine hst.out.mono ?_;rintro e w3 ⟨rfl,h4⟩;have HE:=hid (Und.mk (HU.out.below.trans h4));clear h4;go_wp2;go_ret;exact⟨rfl,HE.out⟩
end
section
structure SpAt (w0:World) (fmt:Int) (S:List UInt8->List St.Pt × Nat × Int):Prop where
 kn:fmt=1∨fmt=2∨fmt=3
 spl:∀ (d:ByteArray) (w:World),Und w0 w->d.size<=1000000000->Calls Tryz.prog 50 #[.int .i64 fmt,.string d] w fun e w'=>∃ A c,e=.returned (.tuple #[.slice A (S d.data.toList).1.length c,.int .i64 ((S d.data.toList).2.1:Int),.int .i64 (S d.data.toList).2.2])/\PartsAt w' A (S d.data.toList).1/\(S d.data.toList).1.length<=c/\c<=9223372036854775807/\Und w w'
theorem SpAt.und{a c:World}{fmt:Int}{S:List UInt8->List St.Pt × Nat × Int}(h:SpAt a fmt S)(u:Und a c):SpAt c fmt S:=⟨h.kn,fun d w hw=>h.spl d w (u.trans hw)⟩
structure FmAt (w0:World) (fmt:Int) (D:List UInt8->St.Res) (S:List UInt8->List St.Pt × Nat × Int):Prop where
 kn:fmt=1∨fmt=2∨fmt=3
 spl:∀ (d:ByteArray) (w:World),Und w0 w->d.size<=1000000000->Calls Tryz.prog 50 #[.int .i64 fmt,.string d] w fun e w'=>∃ A c,e=.returned (.tuple #[.slice A (S d.data.toList).1.length c,.int .i64 ((S d.data.toList).2.1:Int),.int .i64 (S d.data.toList).2.2])/\PartsAt w' A (S d.data.toList).1/\(S d.data.toList).1.length<=c/\c<=9223372036854775807/\Und w w'
 dec:∀ (d:ByteArray) (w:World),Und w0 w->d.size<=1000000000->Calls Tryz.prog 51 #[.int .i64 fmt,.string d] w fun e w'=>∃ A c,e=.returned (.tuple #[.slice A (D d.data.toList).1.length c,.int .i64 (D d.data.toList).2.2.2])/\ItemsAt w' A (D d.data.toList).1/\(D d.data.toList).1.length<=c/\c<=9223372036854775807/\Und w w'
 cut:∀ (d:ByteArray) (w:World),Und w0 w->d.size<=1000000000->Calls Tryz.prog 61 #[.int .i64 fmt,.string d] w fun e w'=>∃ A c,e=.returned (.tuple #[.slice A (D d.data.toList).2.1.length c,.int .i64 (D d.data.toList).2.2.2])/\NatsAt w' A (D d.data.toList).2.1/\(D d.data.toList).2.1.length<=c/\c<=9223372036854775807/\Und w w'
 enc:∀ (A:Option Addr) (n c:Nat) (f:List St.It) (w:World),Und w0 w->f.length=n->n<=c->c<=9223372036854775807->ItemsAt w A f->n<=1000000000->tot f<=1000000000000->Calls Tryz.prog 62 #[.int .i64 fmt,.slice A n c] w fun e w'=>e=.returned (.tuple #[.string ⟨(St.encS fmt f).1.toArray⟩,.int .i64 (St.encS fmt f).2])/\Und w w'
 ok:∀ d,(D d).2.2.2=0->St.DecOk d.length (D d)
theorem FmAt.sp{a:World}{fmt:Int}{D:List UInt8->St.Res}{S:List UInt8->List St.Pt × Nat × Int}(h:FmAt a fmt D S):SpAt a fmt S:=⟨h.kn,h.spl⟩
theorem FmAt.und{a c:World}{fmt:Int}{D:List UInt8->St.Res}{S:List UInt8->List St.Pt × Nat × Int}(h:FmAt a fmt D S)(u:Und a c):FmAt c fmt D S:=
 ⟨h.kn,fun d w hw=>h.spl d w (u.trans hw),fun d w hw=>h.dec d w (u.trans hw),fun d w hw=>h.cut d w (u.trans hw),fun A n c f w hw=>h.enc A n c f w (u.trans hw),h.ok⟩
theorem parts_set{W:World}{A:Option Addr}{ps:List St.Pt}{g:Nat}{i:Int}{a:Option Addr}{n c:Nat}(h:PartsAt W A ps)(hg:W.heap[g]?=some (.cells #[.int .i64 i,.slice a n c] 52 (0,0)))(u v:Value) :
  PartsAt ((W.setCell ⟨g,0,none⟩ u).setCell ⟨g,1,none⟩ v) A ps:=by
 intro h0;obtain⟨b,off,rfl,hb,hc⟩:=h h0
 have hne:b ≠ g:=by
  intro e;subst e;have h1:=(hc 0 h0).1;rw[zcH hg] at h1
  match hm:off+0*3,h1 with
  | 0,h1=>simp at h1
  | 1,h1=>simp at h1
  | k+2,h1=>simp at h1
 have hbl:∀ off',((W.setCell ⟨g,0,none⟩ u).setCell ⟨g,1,none⟩ v).cell? ⟨b,off',none⟩=W.cell? ⟨b,off',none⟩:=fun off'=>
  World.cell?_of_block (a:=⟨b,off',none⟩) ((Below.heap_setCell _ ⟨g,1,none⟩ v b hne).trans (Below.heap_setCell W ⟨g,0,none⟩ u b hne))
 refine⟨b,off,rfl,by simpa using hb,fun j hj=>?_⟩;rw[hbl,hbl,hbl];exact hc j hj
section
variable {fmt:Int} {D:List UInt8->St.Res} {S:List UInt8->List St.Pt × Nat × Int}
def ParseEnd(fmt:Int)(R:List St.Pt × Nat × Int)(w:World)(e:Ending)(w':World):Prop:=
 Und w w'/\((R.2.2=0/\∃ A c,e=.returned (.tuple #[.agg #[.int .i64 fmt,.slice A R.1.length c],.int .i64 0,.int .i64 0])/\PartsAt w' A R.1/\R.1.length<=c/\c<=9223372036854775807) ∨
  (R.2.2 ≠ 0/\e=.returned (.tuple #[.agg #[.int .i64 0,.slice none 0 0],.int .i64 (R.2.1:Int),.int .i64 R.2.2])))
theorem dparse_sp(d:ByteArray)(w:World)(hF:SpAt w fmt S)(hd:d.size<=1000000000):Calls Tryz.prog 13 #[.int .i64 fmt,.string d] w (ParseEnd fmt (S d.data.toList) w):=by
 have HK:=hid (fun W=>dknown_any fmt W hF.kn);have HS:=hid (fun W (hW:Und w W)=>hF.spl d W hW hd);generalize S d.data.toList=R at HS ⊢;obtain⟨ps,pl,er⟩:=R;clear hF;go_enter Tryz.func13,Tryz.ntmps13;go_wp2_with fail;refine(HK.out _).mono ?_;rintro e w2 ⟨rfl,rfl⟩;go_wp2_with fail;refine(HS.out _ (by apply_rules[uUe,uUa,uUb,uUc,uUd])).mono ?_;rintro e w3 ⟨A,c,rfl,hP,h1,h2,hu⟩;have hu':Und w w3:=Und.trans ((by apply_rules[uUe,uUa,uUb,uUc,uUd])) hu;have hb3:=(hu.below.block w.heap.size (by simp)).trans (heap_alloc_new w (.cells #[.int .i64 0,.slice none 0 0] 52));have d0:w3.cell? ⟨w.heap.size,0,none⟩=some (.int .i64 0):=zcH hb3 0;have d1:w3.cell? ⟨w.heap.size,1,none⟩=some (.slice none 0 0):=zcH hb3 1;have f0:w3.frozen? ⟨w.heap.size,0,none⟩=false:=zfH hb3 0;have f1:w3.frozen? ⟨w.heap.size,1,none⟩=false:=zfH hb3 1;haveI:LtW w.heap.size w3:=LtW.of (lt_of_heap hb3);have hset:∀ u v,Und w ((w3.setCell ⟨w.heap.size,0,none⟩ u).setCell ⟨w.heap.size,1,none⟩ v):=fun u v=>Und.mk ((hu'.below.setCell (p:=⟨w.heap.size,0,none⟩) (Nat.le_refl _) u).setCell (p:=⟨w.heap.size,1,none⟩) (Nat.le_refl _) v)
 have HSET:=hid hset;have HPS:=hid (fun u v=>parts_set hP hb3 u v);simp only at h1 ⊢;clear hu hu' hb3 hset hP
 by_cases he:er=0
 ·subst he
  go_wp2;refine bodyPost_ret (v:=.tuple #[.agg #[.int .i64 fmt,.slice A ps.length c],.int .i64 0,.int .i64 0]) ?_ rfl ?_
  ·simp[results,Tryz.results13,go_sem,d0,d1]
  ·exact⟨HSET.out _ _,.inl ⟨rfl,A,c,rfl,HPS.out _ _,h1,h2⟩⟩
 ·have z1:(er==0)=false:=by simpa using he
  have z2:(er != 0)=true:=by simpa using he
  have HE:=hid he;clear he;go_wp2;refine bodyPost_ret (v:=.tuple #[.agg #[.int .i64 0,.slice none 0 0],.int .i64 pl,.int .i64 er]) ?_ rfl ?_
  ·simp[results,Tryz.results13,go_sem,d0,d1]
  ·exact⟨HSET.out _ _,.inr ⟨HE.out,rfl⟩⟩
theorem dparse_any(d:ByteArray)(w:World)(hF:FmAt w fmt D S)(hd:d.size<=1000000000):Calls Tryz.prog 13 #[.int .i64 fmt,.string d] w (ParseEnd fmt (S d.data.toList) w):=dparse_sp d w hF.sp hd
end
end
section
variable {fmt:Int} {D:List UInt8->St.Res} {S:List UInt8->List St.Pt × Nat × Int}
theorem raw_at(ps:List St.Pt)(k:Nat)(h:k<ps.length):ps[k].2.2.length<=(St.rawP ps).length:=by
 have h1:=raw_take_le ps (k+1);rw[raw_take ps k h,List.length_append] at h1;omega
def ContEnd(R:St.Res)(w:World)(e:Ending)(w':World):Prop:=
 ∃ A c,e=.returned (.tuple #[.slice A R.1.length c,.int .i64 R.2.2.2])/\ItemsAt w' A R.1/\R.1.length<=c/\c<=9223372036854775807/\Und w w'
theorem ContEnd.miss{R:St.Res}{w w':World}(h:R=([],[],0,6))(u:Und w w'):ContEnd R w (.returned (.tuple #[.slice none 0 0,.int .i64 6])) w':=by
 subst h;exact⟨none,0,rfl,fun h=>absurd h (by simp),by simp,by omega,u⟩
theorem cont_miss{ps:List St.Pt}{k:Int}(h:St.ptAt ps k=(false,[],[])):St.contD D ps k=([],[],0,6):=by unfold St.contD;rw[h];rfl
theorem dcont_sp(A:Option Addr)(n c:Nat)(ps:List St.Pt)(k:Int)(w:World)(hk:fmt=1∨fmt=2∨fmt=3)(hD:∀ (d:ByteArray) (W:World),Und w W->d.size<=1000000000->Calls Tryz.prog 51 #[.int .i64 fmt,.string d] W (ContEnd (D d.data.toList) W))(hn:ps.length=n)(h:PartsAt w A ps)(hl:n<=9223372036854775807)(hr:(St.rawP ps).length<=1000000000) :
  Calls Tryz.prog 14 #[.agg #[.int .i64 fmt,.slice A n c],.int .i64 k] w (ContEnd (St.contD D ps k) w):=by
 have HK:=hid (fun W=>dknown_any fmt W hk);have HD:=hid hD;have H:=hid h;have HN:=hid hn;have HR:=hid hr;clear hk hD h hn hr
 by_cases k0:k<0
 ·have hm:=hid (show St.contD D ps k=([],[],0,6) from cont_miss (by unfold St.ptAt;rw[if_neg (by omega)]))
  go_enter Tryz.func14,Tryz.ntmps14;go_wp2_with fail;refine(HK.out _).mono ?_;rintro e w2 ⟨rfl,rfl⟩;go_wp2;go_ret2;exact ContEnd.miss hm.out (by apply_rules[uUe,uUa,uUb,uUc,uUd])
 ·obtain⟨j,rfl⟩:∃ j:Nat,k=j:=⟨k.toNat,by omega⟩
  by_cases kn:j<n
  ·have hj:j<ps.length:=by rw[HN.out];exact kn
   obtain⟨b,off,rfl,hb,hc⟩:=H.out (by omega);obtain⟨c0,c1,c2⟩:=hc j hj;have hpt:St.ptAt ps (j:Int)=ps[j]:=by unfold St.ptAt;rw[if_pos (by omega),Int.toNat_natCast,List.getElem?_eq_getElem hj];rfl
   have hrl:=raw_at ps j hj;have hcd:St.contD D ps (j:Int)=if ps[j].1=true then D ps[j].2.2 else ([],[],0,6):=by unfold St.contD;rw[hpt]
   generalize ps[j]=x at c0 c1 c2 hrl hcd;obtain⟨xu,xk,xr⟩:=x;simp only at c0 c1 c2 hrl hcd;haveI:LtW b w:=LtW.of hb;have hR:=HR.out;have z1:¬ (n:Int)<=(j:Int):=by omega
   have z2:(j:Int)<(n:Int):=by omega
   have z3:¬ (j:Int)<0:=by omega
   have HCD:=hid hcd;clear hc hj hpt k0 hcd;cases xu
   ·have hm:=hid (show St.contD D ps (j:Int)=([],[],0,6) by rw[HCD.out];rfl)
    go_enter Tryz.func14,Tryz.ntmps14;go_wp2_with fail;refine(HK.out _).mono ?_;rintro e w2 ⟨rfl,rfl⟩;go_wp2;go_ret2;exact ContEnd.miss hm.out (by apply_rules[uUe,uUa,uUb,uUc,uUd])
   ·have hm:=hid (show St.contD D ps (j:Int)=D xr by rw[HCD.out];rfl)
    have hdc:=hid (fun W hW=>HD.out ⟨xr.toArray⟩ W hW (by show xr.toArray.size<=_;simp;omega));go_enter Tryz.func14,Tryz.ntmps14;go_wp2_with fail;refine(HK.out _).mono ?_;rintro e w2 ⟨rfl,rfl⟩;go_wp2_with fail;go_region_law (refine step_callX rfl 51 #[.int .i64 fmt,.string ⟨xr.toArray⟩] _ (hdc.out _ (by apply_rules[uUe,uUa,uUb,uUc,uUd])) ?_ ?_;(· go_simp;done);rintro e w3 ⟨A3,c3,rfl,hI,h1,h2,hu⟩;refine⟨_,rfl,?_⟩)
    all_goals
     have HE:=hid (show ContEnd (D xr) w (.returned (.tuple #[.slice A3 (D xr).1.length c3,.int .i64 (D xr).2.2.2])) w3 from⟨A3,c3,rfl,hI,h1,h2,Und.trans ((by apply_rules[uUe,uUa,uUb,uUc,uUd])) hu⟩);clear hI h1 h2 hu;go_wp2;go_ret2;rw[hm.out];exact HE.out
  ·have hm:=hid (show St.contD D ps (j:Int)=([],[],0,6) from cont_miss (by
    unfold St.ptAt
    rw[if_pos (by omega),Int.toNat_natCast,List.getElem?_eq_none (by rw[HN.out];omega)];rfl))
   have z1:(n:Int)<=(j:Int):=by omega
   have z3:¬ (j:Int)<0:=by omega
   go_enter Tryz.func14,Tryz.ntmps14;go_wp2_with fail;refine(HK.out _).mono ?_;rintro e w2 ⟨rfl,rfl⟩;go_wp2;go_ret2;exact ContEnd.miss hm.out (by apply_rules[uUe,uUa,uUb,uUc,uUd])
theorem dcont_any(A:Option Addr)(n c:Nat)(ps:List St.Pt)(k:Int)(w:World)(hF:FmAt w fmt D S)(hn:ps.length=n)(h:PartsAt w A ps)(hl:n<=9223372036854775807)(hr:(St.rawP ps).length<=1000000000) :
  Calls Tryz.prog 14 #[.agg #[.int .i64 fmt,.slice A n c],.int .i64 k] w (ContEnd (St.contD D ps k) w):=
 dcont_sp A n c ps k w hF.kn (fun d W hW hd=>hF.dec d W hW hd) hn h hl hr
end
section
theorem parts_set'{V W:World}{A:Option Addr}{ps:List St.Pt}{i:Int}{a:Option Addr}{n c:Nat}(h:PartsAt W A ps)(u':Und (V.alloc (.cells #[.int .i64 i,.slice a n c] 52)) W)(u v:Value) :
  PartsAt ((W.setCell ⟨V.heap.size,0,none⟩ u).setCell ⟨V.heap.size,1,none⟩ v) A ps:=
 parts_set h ((u'.below.block V.heap.size (by simp)).trans (heap_alloc_new V (.cells #[.int .i64 i,.slice a n c] 52))) u v
variable {fmt:Int} {D:List UInt8->St.Res} {S:List UInt8->List St.Pt × Nat × Int}
theorem dvalid_sp(A:Option Addr)(n c:Nat)(ps:List St.Pt)(w:World)(hF:SpAt w fmt S)(hn:ps.length=n)(hnc:n<=c)(hc63:c<=9223372036854775807)(h:PartsAt w A ps)(hl:n<=9223372036854775807)(hr:(St.rawP ps).length<=1000000000) :
  Calls Tryz.prog 59 #[.agg #[.int .i64 fmt,.slice A n c]] w fun e w'=>e=.returned (.int .i64 (St.validD S ps))/\Und w w':=by
 have HK:=hid (fun W=>dknown_any fmt W hF.kn);have HB:=hid (fun W (hW:Und w W)=>dbytes_any fmt A n c ps W hn (h.und hW) hl hr);have HP:=hid (fun W (hW:Und w W)=>dparse_sp ⟨(St.rawP ps).toArray⟩ W (hF.und hW) (by show (St.rawP ps).toArray.size<=_;simpa using hr));have H:=hid h;have HN:=hid hn;have hv:St.validD S ps=if (S (St.rawP ps)).2.2=0/\(S (St.rawP ps)).1=ps then 0 else 11:=rfl
 have hraw:(⟨(St.rawP ps).toArray⟩:ByteArray).data.toList=St.rawP ps:=by simp
 rw[hraw] at HP;generalize (⟨(St.rawP ps).toArray⟩:ByteArray)=rw' at HB HP;generalize S (St.rawP ps)=R at hv HP;obtain⟨qs,pl,er⟩:=R;simp only at hv;have HV:=hid hv;clear hF h hn hr hv hraw
 by_cases he:er=0
 ·subst he
  have hpe:Hid (∀ (W:World),Und w W->Calls Tryz.prog 13 #[.int .i64 fmt,.string rw'] W fun e w'=>∃ A' c',e=.returned (.tuple #[.agg #[.int .i64 fmt,.slice A' qs.length c'],.int .i64 0,.int .i64 0])/\PartsAt w' A' qs/\qs.length<=c'/\c'<=9223372036854775807/\Und W w'):=hid fun W hW=>(HP.out W hW).mono fun e w' ⟨hu,h⟩=>by
   rcases h with ⟨_,A',c',h1,h2,h3,h4⟩|⟨h0,_⟩
   ·exact⟨A',c',h1,h2,h3,h4,hu⟩
   ·exact absurd rfl h0
  clear HP;go_enter Tryz.func59,Tryz.ntmps59;go_wp2_with fail;refine(HK.out _).mono ?_;rintro e w2 ⟨rfl,rfl⟩;go_wp2_with fail
  go_region_law (first
   | (refine step_callX rfl 18 #[.agg #[.int .i64 fmt,.slice A n c]] _ (HB.out _ (by apply_rules[uUe,uUa,uUb,uUc,uUd])) ?_ ?_;(· go_simp;done);rintro e w5 ⟨rfl,X5,rfl⟩;refine⟨_,rfl,?_⟩)
   | (refine step_callX rfl 13 #[.int .i64 fmt,.string rw'] _ (hpe.out _ (by apply_rules[uUe,uUa,uUb,uUc,uUd])) ?_ ?_;(· go_simp;done);rintro e w6 ⟨A6,c6,rfl,hP6,h61,h62,X6,rfl⟩;refine⟨_,rfl,?_⟩))
  all_goals
   go_wp2_with fail;have hcall:=fun W (hW:Und w W) (hP:PartsAt W A6 qs)=>sequal_parts A6 A qs.length n c6 c qs ps W rfl HN.out h61 hnc h62 hc63 hP (H.out.und hW)
   refine(hcall _ (by apply_rules[uUe,uUa,uUb,uUc,uUd]) ?_).mono ?_
   ·try rw[under_under] at hP6
    first
     | (refine hP6.und ?_;(repeat (first|exact Und.refl _|assumption|refine Und.under ?_ _|refine Und.alloc ?_ _|refine Und.drew ?_|refine Und.drewN ?_ _));done)
     | (have q:=parts_set' (V:=(under (w.alloc (Obj.cells #[Value.int IntKind.i64 fmt,Value.slice A n c] 52)).drew X5)) (i:=0) (a:=none) (n:=0) (c:=0) hP6 (by apply_rules[uUe,uUa,uUb,uUc,uUd]) (.int .i64 fmt) (.slice A6 qs.length c6);simpa [go_sem] using q)
     | (have q:=parts_set' (V:=w.alloc (Obj.cells #[Value.int IntKind.i64 fmt,Value.slice A n c] 52)) (i:=0) (a:=none) (n:=0) (c:=0) hP6 (by apply_rules[uUe,uUa,uUb,uUc,uUd]) (.int .i64 fmt) (.slice A6 qs.length c6);simpa [go_sem] using q)
   ·rintro e w7 ⟨rfl,X7,rfl⟩
    obtain⟨b,hb⟩:∃ b,b=decide (qs=ps):=⟨_,rfl⟩;have HBB:=hid hb;rw[<- hb];clear hb hP6;cases b
    ·go_wp2
     go_ret;rw[HV.out,if_neg (fun hh=>of_decide_eq_false HBB.out.symm hh.2)];exact⟨rfl,(by apply_rules[uUe,uUa,uUb,uUc,uUd])⟩
    ·go_wp2
     go_ret;rw[HV.out,if_pos ⟨trivial,of_decide_eq_true HBB.out.symm⟩];exact⟨rfl,(by apply_rules[uUe,uUa,uUb,uUc,uUd])⟩
 ·have z1:(er==0)=false:=by simpa using he
  have z2:(er != 0)=true:=by simpa using he
  have HE:=hid he
  have hpe:Hid (∀ (W:World),Und w W->Calls Tryz.prog 13 #[.int .i64 fmt,.string rw'] W fun e w'=>e=.returned (.tuple #[.agg #[.int .i64 0,.slice none 0 0],.int .i64 (pl:Int),.int .i64 er])/\Und W w'):=hid fun W hW=>(HP.out W hW).mono fun e w' ⟨hu,h⟩=>by
   rcases h with ⟨h0,_⟩|⟨_,h1⟩
   ·exact absurd h0 he
   ·exact⟨h1,hu⟩
  clear HP he;go_enter Tryz.func59,Tryz.ntmps59;go_wp2_with fail;refine(HK.out _).mono ?_;rintro e w2 ⟨rfl,rfl⟩;go_wp2_with fail
  go_region_law (first
   | (refine step_callX rfl 18 #[.agg #[.int .i64 fmt,.slice A n c]] _ (HB.out _ (by apply_rules[uUe,uUa,uUb,uUc,uUd])) ?_ ?_;(· go_simp;done);rintro e w5 ⟨rfl,X5,rfl⟩;refine⟨_,rfl,?_⟩)
   | (refine step_callX rfl 13 #[.int .i64 fmt,.string rw'] _ (hpe.out _ (by apply_rules[uUe,uUa,uUb,uUc,uUd])) ?_ ?_;(· go_simp;done);rintro e w6 ⟨rfl,X6,rfl⟩;refine⟨_,rfl,?_⟩))
  all_goals
   go_wp2;go_ret;rw[HV.out,if_neg (fun hh=>HE.out hh.1)];exact⟨rfl,(by apply_rules[uUe,uUa,uUb,uUc,uUd])⟩
theorem dvalid_any(A:Option Addr)(n c:Nat)(ps:List St.Pt)(w:World)(hF:FmAt w fmt D S)(hn:ps.length=n)(hnc:n<=c)(hc63:c<=9223372036854775807)(h:PartsAt w A ps)(hl:n<=9223372036854775807)(hr:(St.rawP ps).length<=1000000000) :
  Calls Tryz.prog 59 #[.agg #[.int .i64 fmt,.slice A n c]] w fun e w'=>e=.returned (.int .i64 (St.validD S ps))/\Und w w':=dvalid_sp A n c ps w hF.sp hn hnc hc63 h hl hr
end
section
theorem cellsP_get(f:List St.Pt)(j:Nat)(u:Value)(h:(cellsP f)[j]?=some u):∃ k,∃ hk:k<f.length,(j=k*3/\u=.bool f[k].1)∨(j=k*3+1/\u=.string ⟨f[k].2.1.toArray⟩)∨(j=k*3+2/\u=.string ⟨f[k].2.2.toArray⟩):=by
 have hlen:∀ g:List St.Pt,(cellsP g).length=g.length*3:=by
  intro g
  induction g with
  | nil=>rfl
  | cons x g ih=>simp only[cellsP,List.flatMap_cons,List.length_append,List.length_cons,List.length_nil] at ih ⊢;omega
 have hj:j<(cellsP f).length:=(List.getElem?_eq_some_iff.1 h).1;rw[hlen] at hj;have hk:j / 3<f.length:=by omega
 obtain⟨a,b,c⟩:=cellsP_at f (j / 3) hk;refine⟨j / 3,hk,?_⟩;rcases(show j=j / 3*3∨j=j / 3*3+1∨j=j / 3*3+2 by omega) with e|e|e
 ·rw[<- e,h] at a;exact .inl ⟨e,Option.some.inj a⟩
 ·rw[<- e,h] at b;exact .inr (.inl ⟨e,Option.some.inj b⟩)
 ·rw[<- e,h] at c;exact .inr (.inr ⟨e,Option.some.inj c⟩)
theorem cellsP_length(g:List St.Pt):(cellsP g).length=g.length*3:=by
 induction g with
 | nil=>rfl
 | cons x g ih=>simp only[cellsP,List.flatMap_cons,List.length_append,List.length_cons,List.length_nil] at ih ⊢;omega
theorem sclone_any(b off n c:Nat)(ps:List St.Pt)(w:World)(hn:ps.length=n)(hb:b<w.heap.size)(h:∀ j (h:j<ps.length),w.cell? ⟨b,off+j*3,none⟩=some (.bool ps[j].1)/\w.cell? ⟨b,off+j*3+1,none⟩=some (.string ⟨ps[j].2.1.toArray⟩)/\w.cell? ⟨b,off+j*3+2,none⟩=some (.string ⟨ps[j].2.2.toArray⟩))(hl:n<=1000000000) :
  Calls Tryz.prog 66 #[.slice (some ⟨b,off,none⟩) n c] w fun e w'=>∃ v,e=.returned v/\w'.ownsRow w.heap.size 110 3 v n (cellsP ps)/\Und w w':=by
 obtain⟨i0,hi,hz0,hz1,hz2⟩:=info_parts info_part;have q:=fun (w:World) (a:Option Addr) (n c n' c':Nat)=>Lib.run_eql_slice_nil w 50 110 a n c n' c' Tryz.underlying50
 have hcells:∀ (w1:World),Und w w1->∀ j u,(cellsP ps)[j]?=some u->w1.cell? ((⟨b,off,none⟩:Addr).add j)=some u:=fun w1 hu j u hj=>by
  rw[Addr.add_lit];obtain⟨k,hk,h1⟩:=cellsP_get ps j u hj;obtain⟨c0,c1,c2⟩:=h k hk;rcases h1 with ⟨rfl,rfl⟩|⟨rfl,rfl⟩|⟨rfl,rfl⟩
  ·exact(hu.cell hb).trans c0
  ·exact(hu.cell hb).trans c1
  ·exact(hu.cell hb).trans c2
 have hone:∀ u ∈ cellsP ps,u.oneCell'=true:=fun u hu=>by
  unfold cellsP at hu;obtain⟨x,_,hx⟩:=List.mem_flatMap.1 hu;simp only[List.mem_cons,List.not_mem_nil,or_false] at hx;rcases hx with rfl|rfl|rfl <;> rfl
 have HC:=hid hcells;have HO:=hid hone;have hlen:=hid (show (cellsP ps).length=n*3 by rw[cellsP_length,hn]);clear hcells hone h;go_enter Tryz.func66,Tryz.ntmps66;go_wp2_with (at_builtin;refine wpList_append_own _ rfl _ _ 50 rfl w.heap.size 110 i0 (.agg #[.bool false,.string ⟨#[]⟩,.string ⟨#[]⟩]) 3 40 Tryz.underlying50 hi hz0 hz1 hz2 rfl (by decide) _ _ _ rfl (World.ownsRow_made w #[] 0 (Nat.le_refl _) (Nat.zero_le _) rfl) ⟨b,off,none⟩ n c (cellsP ps) rfl ?qc1 ?qc2 ?qc3 ?qc4 ?qc5 ?qc6 ?_)
 case qc1=>exact hlen.out
 case qc2=>exact HC.out _ (by apply_rules[uUe,uUa,uUb,uUc,uUd])
 case qc3=>exact HO.out
 case qc4=>unfold maxLen;omega
 case qc5=>omega
 case qc6=>simp
 intro v' w1 hown hgrow hnil;have hu:Und w w1:=Und.mk (((Below.refl _ w).alloc (Nat.le_refl _) _).grown hgrow (by simp) (by intro k hk;simp[Value.ownBlock] at hk;omega));have HH:=hid (And.intro hown hu);clear hown hu hgrow hnil;go_wp2;go_ret;exact⟨v',rfl,by simpa using HH.out.1,HH.out.2⟩
end
end Go.Proofs.YtcfhfdphoidaeaaGreatDoor
