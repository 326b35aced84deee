/- The classes of a list of tokens and its pairs of words in numbers: what a survey holds. -/
import Derived.Test.YtcfhfdphoidaeaaGreatDoorTkC
set_option linter.unusedVariables false
set_option linter.unusedSimpArgs false
set_option maxHeartbeats 12800000
set_option maxRecDepth 20000
namespace Go.Proofs.YtcfhfdphoidaeaaGreatDoor
open Go.RowKit
section
theorem gen_region{P:Program}{id:Nat}{l:Array Oper}{b:Bool}{Q:Exit->Act->World->Prop}{a:Act}{w:World}(F:World->Prop)(h:F w)(k:∀ W,F W->(Code.region id l b).wp P Q a W):(Code.region id l b).wp P Q a w:=k w h
namespace St
theorem tkey_len(t:Tk):(tkeyL t).length=t.2.1.length:=by
 unfold tkeyL lowL
 split <;> simp
theorem cls_take(l:List It)(k:Nat)(h:k<l.length):clsL (l.take (k+1))=clsL (l.take k)++(clsT l[k]).toList:=by
 unfold clsL;rw[List.take_add_one,List.getElem?_eq_getElem h,List.filterMap_append];congr 1
theorem cls_len(l:List It):(clsL l).length<=l.length:=List.length_filterMap_le ..
theorem nontag_snoc(A:List Cl)(c:Cl):nontagW (A++[c])=nontagW A+(if tagT c.1 then 0 else weightK c.1):=by
 unfold nontagW;rw[List.filter_append,List.map_append,List.sum_append];congr 1;cases h:tagT c.1 <;> simp[h]
theorem tagN_snoc(A:List Cl)(c:Cl):tagN (A++[c])=tagN A+(if tagT c.1 then 1 else 0):=by
 unfold tagN;rw[List.filter_append,List.length_append];congr 1;cases h:tagT c.1 <;> simp[h]
theorem weight4(k:Int):weightK k<=4:=by unfold weightK;(repeat' split) <;> omega
theorem nontag_le(A:List Cl):nontagW A<=4*A.length:=by
 induction A with
 | nil=>simp[nontagW]
 | cons c A ih=>
  rw[nontagW_cons,List.length_cons];have:=weight4 c.1
  split <;> omega
theorem tagN_le(A:List Cl):tagN A<=A.length:=List.length_filter_le ..
theorem cls_text{t:Tk}{c:Cl}(h:clsT t=some c):c.2.length=t.2.1.length:=by
 unfold clsT at h
 split at h
 ·cases h;exact tkey_len t
 ·split at h
  ·cases h;rfl
  ·cases h
theorem cls_small{t:Tk}{c:Cl}(h:clsT t=some c):0<=c.1/\c.1<=100:=by
 have e:=cls_kind h;unfold clsT at h
 split at h
 ·rename_i h1
  simp[subK] at h1;rw[e];omega
 ·split at h
  ·rename_i h1 h2
   simp[tagT] at h2;rw[e];omega
  ·cases h
theorem cls_good(l:List It)(ht:tot l<=1000000000):∀ c ∈ clsL l,Mg.tokGood c:=by
 intro c hc;obtain⟨t,htm,h⟩:=List.mem_filterMap.1 hc;have h3:=tot_mem htm;have h4:=cls_small h;have h5:=cls_text h;exact⟨h4.1,h4.2,by omega⟩
theorem cls_sub(l:List It)(k:Nat):∀ c ∈ clsL (l.take k),c ∈ clsL l:=fun c hc=>by
 obtain⟨t,htm,h⟩:=List.mem_filterMap.1 hc;exact List.mem_filterMap.2 ⟨t,List.mem_of_mem_take htm,h⟩
theorem cls_val{k:Int}{t:List UInt8}{i:Int}{c:Cl}(h:clsT (k,t,i)=some c):clsV (k,t,i)=Mg.tokV c:=by
 unfold clsT at h;unfold clsV
 split at h
 ·cases h;rename_i h1;rw[if_pos h1];rfl
 ·rename_i h1
  rw[if_neg h1]
  split at h
  ·cases h;rfl
  ·cases h
theorem sum_add{C:Type}(f g:C->Nat):∀ K:List C,(K.map fun c=>f c+g c).sum=(K.map f).sum+(K.map g).sum
 | []=>rfl
 | c :: K=>by
  have:=sum_add f g K
  simp only[List.map_cons,List.sum_cons] at *;omega
theorem sum_zero{C:Type}:∀ K:List C,(K.map fun _=>0).sum=0
 | []=>rfl
 | _ :: K=>by simp only[List.map_cons,List.sum_cons,sum_zero K]
theorem sum_hit{C:Type}[DecidableEq C](a:C):∀ K:List C,K.Nodup->(K.map fun c=>if c=a then 1 else 0).sum=if a ∈ K then 1 else 0
 | [],_=>rfl
 | c :: K,h=>by
  obtain⟨h1,h2⟩:=List.nodup_cons.1 h;have ih:=sum_hit a K h2;rw[List.map_cons,List.sum_cons,ih]
  by_cases e:c=a
  ·subst e
   rw[if_pos rfl,if_neg h1,if_pos (List.mem_cons_self ..)]
  ·rw[if_neg e]
   by_cases hm:a ∈ K
   ·rw[if_pos hm,if_pos (List.mem_cons_of_mem _ hm)]
   ·rw[if_neg hm,if_neg (by simp only[List.mem_cons,not_or];exact⟨fun x=>e x.symm,hm⟩)]
theorem sum_counts{C:Type}[DecidableEq C][b:BEq C][LawfulBEq C](K:List C)(hn:K.Nodup):∀ l:List C,(∀ c ∈ l,c ∈ K)->(K.map fun c=>@List.count C b c l).sum=l.length
 | [],_=>by simp only[List.count_nil];exact sum_zero K
 | a :: l,h=>by
  have ih:=sum_counts K hn l fun c hc=>h c (List.mem_cons_of_mem _ hc)
  have h1:=sum_hit a K hn;rw[if_pos (h a (List.mem_cons_self ..))] at h1;have h2:=sum_add (fun c=>@List.count C b c l) (fun c=>if c=a then 1 else 0) K;rw[ih,h1] at h2;rw[List.length_cons,<- h2];congr 1;refine List.map_congr_left fun c _=>?_
  rw[List.count_cons];congr 1
  by_cases e:a=c
  ·rw[if_pos (by simp[e]),if_pos e.symm]
  ·rw[if_neg (by simp[e]),if_neg fun x=>e x.symm]
theorem once_sum{C:Type}[DecidableEq C][b:BEq C][LawfulBEq C](l:List C):((onceL l).map fun c=>@List.count C b c l).sum=l.length:=
 sum_counts (onceL l) (once_both l).1 l fun c hc=>(once_both l).2 c |>.2 hc
end St
def sumG(G:List Gr):Nat:=(G.map fun g=>g.2).sum
theorem sumG_take(G:List Gr)(k:Nat)(h:k<G.length):sumG (G.take (k+1))=sumG (G.take k)+G[k].2:=by
 unfold sumG;rw[List.take_add_one,List.getElem?_eq_getElem h,List.map_append,List.sum_append];simp
theorem sumG_le(G:List Gr)(k:Nat):sumG (G.take k)<=sumG G:=by
 have e:sumG G=sumG (G.take k)+sumG (G.drop k):=by
  conv=>lhs;rw[<- List.take_append_drop k G]
  unfold sumG;rw[List.map_append,List.sum_append]
 omega
theorem sumG_perm{G:List Gr}{ws:List St.Wd}(h:G.Perm ((St.onceL (St.prsF [] ws)).map fun p=>(p,(St.prsF [] ws).count p))):sumG G=ws.length+1:=by
 have h1:=(h.map fun g=>g.2).sum_nat;unfold sumG;rw[h1,List.map_map];have h2:=St.once_sum (St.prsF [] ws);rw[St.prs_len] at h2;rw[<- h2];rfl
theorem lenG_perm{G:List Gr}{ws:List St.Wd}(h:G.Perm ((St.onceL (St.prsF [] ws)).map fun p=>(p,(St.prsF [] ws).count p))):G.length<=ws.length+1:=by
 rw[h.length_eq,List.length_map,<- St.prs_len [] ws];exact St.once_len _
def svC(A:Option Addr)(n c cm p wt tg tot:Nat):Array Value:=#[.slice A n c,.map (some cm),.int .i64 (p:Int),.int .i64 (wt:Int),.int .i64 (tg:Int),.int .i64 (tot:Int)]
def SvAt(w:World)(b0:Nat)(l:List St.It)(v:Value):Prop:=
 ∃ (A:Option Addr) (c:Nat) (G:List Gr) (cm:Nat),v=.agg (svC A G.length c cm ((St.wordN l).length+1) (St.nontagW (St.clsL l)) (St.tagN (St.clsL l)) (St.totalT l))/\GramsAt w A G/\G.Perm ((St.onceL (St.prsF [] (St.wordN l))).map fun p=>(p,(St.prsF [] (St.wordN l)).count p)) /\
  b0<=cm/\Mg.At Mg.tokV w cm (Mg.cl (St.onceL (St.clsL l)) (fun c=>(((St.clsL l).count c:Nat):Int)))
theorem SvAt.und{w w':World}{b0:Nat}{l:List St.It}{v:Value}(h:SvAt w b0 l v)(u:Und w w'):SvAt w' b0 l v:=by
 obtain⟨A,c,G,cm,h1,h2,h3,h4,h5⟩:=h;exact⟨A,c,G,cm,h1,h2.und u,h3,h4,h5.und u⟩
end
section
theorem lt_of_cell{w:World}{b o:Nat}{v:Value}(h:w.cell? ⟨b,o,none⟩=some v):b<w.heap.size:=by
 unfold World.cell? at h;rcases Nat.lt_or_ge b w.heap.size with h1|h1
 ·exact h1
 ·simp only[] at h
  rw[Array.getElem?_eq_none h1] at h;cases h
theorem GramsAt.off{w w':World}{r:Nat}{A:Option Addr}{G:List Gr}(h:GramsAt w A G)(u:w.grownBy w' (some r))(hr:∀ (o:Nat) (v:ByteArray),w.cell? ⟨r,o,none⟩ ≠ some (.string v)):GramsAt w' A G:=by
 intro h0;obtain⟨b,off,rfl,hb,hc⟩:=h h0
 have hne:some b ≠ some r:=fun e=>by
  cases e;exact hr _ _ (hc 0 h0).1
 refine⟨b,off,rfl,Nat.lt_of_lt_of_le hb u.size,fun j hj=>?_⟩;obtain⟨c0,c1,c2⟩:=hc j hj;exact⟨(gb_cell u (p:=⟨b,_,none⟩) hb hne).trans c0,(gb_cell u (p:=⟨b,_,none⟩) hb hne).trans c1,(gb_cell u (p:=⟨b,_,none⟩) hb hne).trans c2⟩
theorem cells6{w:World}{b:Nat}{A:Option Addr}{n c cm p wt tg tot:Nat}{T:TypeId}(h:w.heap[b]?=some (.cells (svC A n c cm p wt tg tot) T (0,0))) :
  w.cell? ⟨b,0,none⟩=some (.slice A n c)/\w.cell? ⟨b,1,none⟩=some (.map (some cm))/\w.cell? ⟨b,2,none⟩=some (.int .i64 (p:Int))/\w.cell? ⟨b,3,none⟩=some (.int .i64 (wt:Int))/\w.cell? ⟨b,4,none⟩=some (.int .i64 (tg:Int))/\w.cell? ⟨b,5,none⟩=some (.int .i64 (tot:Int)):=
 ⟨by simpa [svC] using zcH h 0,by simpa [svC] using zcH h 1,by simpa [svC] using zcH h 2,by simpa [svC] using zcH h 3,by simpa [svC] using zcH h 4,by simpa [svC] using zcH h 5⟩
theorem free6{w:World}{b:Nat}{cs:Array Value}{T:TypeId}(h:w.heap[b]?=some (.cells cs T (0,0))) :
  w.frozen? ⟨b,0,none⟩=false/\w.frozen? ⟨b,1,none⟩=false/\w.frozen? ⟨b,2,none⟩=false/\w.frozen? ⟨b,3,none⟩=false/\w.frozen? ⟨b,4,none⟩=false/\w.frozen? ⟨b,5,none⟩=false:=
 ⟨zfH h 0,zfH h 1,zfH h 2,zfH h 3,zfH h 4,zfH h 5⟩
def Sv1(w6:World)(G:List Gr)(A6:Option Addr)(c6 sb cm tot:Nat)(s20:Value)(wr:World):Prop:=
 ∃ i:Nat,i<=G.length/\s20=.int .i64 i/\wr.heap[sb]?=some (.cells (svC A6 G.length c6 cm (sumG (G.take i)) 0 0 tot) 166 (0,0))/\Mg.At Mg.tokV wr cm ([]:List (St.Cl × Value))/\Und w6 wr
def Sv2(w6:World)(l:List St.It)(n:Nat)(A6:Option Addr)(c6 gn sb cm ws tot:Nat)(s35:Value)(wr:World):Prop:=
 ∃ ii:Nat,ii<=n/\s35=.int .i64 ii/\wr.heap[sb]?=some (.cells (svC A6 gn c6 cm (ws+1) (St.nontagW (St.clsL (l.take ii))) (St.tagN (St.clsL (l.take ii))) tot) 166 (0,0))/\Mg.At Mg.tokV wr cm (Mg.cl (St.onceL (St.clsL (l.take ii))) (fun c=>(((St.clsL (l.take ii)).count c:Nat):Int)))/\Und w6 wr
theorem survey_any(A:Option Addr)(n c:Nat)(l:List St.It)(w:World)(hn:l.length=n)(h:ItemsAt w A l)(hl:n<=1000000)(ht:tot l<=1000000000) :
  Calls Tryz.prog 85 #[.slice A n c] w fun e w'=>∃ v,e=.returned v/\SvAt w' w.heap.size l v/\Und w w':=by
 have H:=hid h;have HN:=hid hn;have HTOT:=hid ht;have hmk:=@run_makeMap Tryz.prog;have hTT:=total_le l;obtain⟨tot,htot⟩:∃ t,St.totalT l=t:=⟨_,rfl⟩;rw[htot,hn] at hTT;have HT0:=hid htot;clear h ht hn htot;go_enter Tryz.func85,Tryz.ntmps85;go_wp2_with fail;refine(words_any A n c l _ HN.out (H.out.und (by apply_rules[uUe,uUa,uUb,uUc,uUd])) hl HTOT.out).mono ?_;rintro e w5 ⟨v5,rfl,hown5,hu5⟩;obtain⟨A5,c5,rfl,_⟩:=own_slice hown5;have HW5:=hid (wds_own hown5 rfl);have hwl:(St.wordN l).length<=n:=by have:=wordN_len l;rw[HN.out] at this;exact this
 have hwt:∀ x ∈ St.wordN l,x.length<=1000000000:=fun x hx=>by
  unfold St.wordN at hx;obtain⟨t,htm,rfl⟩:=List.mem_map.1 hx;have h1:=St.tkey_len t;have h2:=St.tot_mem (List.mem_filter.1 htm).1;have:=HTOT.out;omega
 have HR5:=hid (show w5.heap[w.heap.size]?=some (.cells #[.slice none 0 0,.map none,.int .i64 0,.int .i64 0,.int .i64 0,.int .i64 0] 166 (0,0)) from(hu5.below.block _ (by simp)).trans (heap_alloc_new w _));have HU5:=hid (((Und.refl w).alloc (.cells #[.slice none 0 0,.map none,.int .i64 0,.int .i64 0,.int .i64 0,.int .i64 0] 166)).trans hu5);clear hown5 hu5;have HGR:=hid (grams_any A5 _ c5 (St.wordN l) w5 rfl HW5.out (by omega) hwt);clear HW5 hwt;obtain⟨ws,hws⟩:∃ k,(St.wordN l).length=k:=⟨_,rfl⟩;rw[hws] at HGR hwl ⊢;have HWS:=hid hws;clear hws;go_wp2_with fail;refine HGR.out.mono ?_;rintro e w6 ⟨A6,n6,c6,G,rfl,rfl,hga,hpm,hu6⟩;have HGA:=hid hga;have HPM:=hid hpm;have HSG0:=hid (show sumG G=ws+1 from by rw[sumG_perm hpm,HWS.out]);have hgl:G.length<=n+1:=by have:=lenG_perm hpm;rw[HWS.out] at this;omega
 have HR6:=hid ((hu6.below.block _ (lt_of_heap HR5.out)).trans HR5.out);have HU6:=hid (HU5.out.trans hu6);clear hga hpm hu6 HGR HR5 HU5;go_wp2_with fail;refine(total_any A n c l _ HN.out (H.out.und (HU6.out.trans (by apply_rules[uUe,uUa,uUb,uUc,uUd]))) (by omega)).mono ?_;rintro e w7 ⟨rfl,hu7⟩;rw[HT0.out];obtain⟨cm,hcm⟩:∃ k,w6.heap.size=k:=⟨_,rfl⟩;have HCM:=hid (show w6.heap.size<=cm from by omega);have HAT7:=hid (show Mg.At Mg.tokV w7 cm ([]:List (St.Cl × Value)) from by subst hcm;exact(Mg.made_at (kv:=Mg.tokV) w6).und hu7);have HU7:=hid (((Und.refl w6).alloc (.map #[] 0)).trans hu7);have hsz7:cm<w7.heap.size:=HAT7.out.lt;rw[hcm];clear hu7
 first|clear hcm|skip
 obtain⟨sb,hsb⟩:∃ k,w7.heap.size=k:=⟨_,rfl⟩;go_wp2
 try rw[hsb]
 have HAT8:=hid (HAT7.out.und ((Und.refl w7).alloc (.cells (svC A6 G.length c6 cm 0 0 0 tot) 166)));have HU8:=hid (HU7.out.alloc (.cells (svC A6 G.length c6 cm 0 0 0 tot) 166));have HS8:=hid (show (w7.alloc (.cells (svC A6 G.length c6 cm 0 0 0 tot) 166)).heap[sb]?=some (.cells (svC A6 G.length c6 cm 0 0 0 tot) 166 (0,0)) from by subst hsb;exact heap_alloc_new w7 _);have HSG:=hid (show w6.heap.size<=sb from by have:=HU7.out.size;omega);have HsbM:=hid (show sb ≠ cm from by omega);go_loopw [20] (fun s20 wr=>Sv1 w6 G A6 c6 sb cm tot s20 wr) (fun s20 _=>G.length+1-(intOf s20).toNat)
 case atStart=>exact⟨0,by omega,rfl,HS8.out,HAT8.out,HU8.out⟩
 case round=>
  obtain⟨i,hi,rfl,hsw,hat,hu⟩:=hrel;have HU:=hid hu;have HAT:=hid hat;have HSW:=hid hsw;clear HS8 HAT8 HU8 hat;obtain⟨sm,hsm⟩:∃ k,sumG (G.take i)=k:=⟨_,rfl⟩;have hsl:=sumG_le G i;have e0:wr.cell? ⟨sb,0,none⟩=some (.slice A6 G.length c6):=by have:=zcH hsw 0;simpa [svC] using this
  have e2:wr.cell? ⟨sb,2,none⟩=some (.int .i64 (sm:Int)):=by have:=zcH hsw 2;rw[<- hsm];simpa [svC] using this
  have z2:wr.frozen? ⟨sb,2,none⟩=false:=zfH hsw 2;haveI:LtW sb wr:=LtW.of (lt_of_heap hsw);rw[HSG0.out,hsm] at hsl
  by_cases hlt:i<G.length
  ·have hstp:=sumG_take G i hlt
   have hsl2:=sumG_le G (i+1);rw[HSG0.out] at hsl2;obtain⟨ab,aoff,rfl,hb,hc⟩:=(HGA.out.und hu) (by omega);obtain⟨c0,c1,c2⟩:=hc i hlt;haveI:LtW ab wr:=LtW.of hb;obtain⟨g,hg⟩:∃ g,G[i]=g:=⟨_,rfl⟩;rw[hg] at c0 c1 c2 hstp;obtain⟨⟨g1,g2⟩,q⟩:=g;simp only at c0 c1 c2 hstp;rw[hsm] at hstp;have HSS:=hid hstp;have yw:=wr_i64 (x:=(sm:Int)+q) (by omega) (by omega)
   have HE:=hid (fun W (hW:Und (wr.setCell ⟨sb,2,none⟩ (.int .i64 ((sm:Int)+q))) W)=>(show Sv1 w6 G (some ⟨ab,aoff,none⟩) c6 sb cm tot (.int .i64 ((i:Int)+1)) W from
    ⟨i+1,by omega,congrArg (Value.int .i64) (by omega),by
     have h3:=heap_setCell_same wr sb 2 _ _ (.int .i64 ((sm:Int)+q)) HSW.out;rw[hW.below.block sb (lt_of_heap h3),h3,HSS.out]
     simp[svC],(HAT.out.gb (gb_set _ _ _) (by simpa using fun e=>HsbM.out e.symm)).und hW,(RowAt.set_und HU.out HSG.out _ _).trans hW⟩))
   clear hc hu hsw hg hstp hsl hsl2 hsm;go_wp2;exact⟨HE.out _ (by apply_rules[uUe,uUa,uUb,uUc,uUd]),by simp[intOf];omega⟩
  ·have hin:G.length=i:=by omega
   have hft:G.take i=G:=List.take_of_length_le (by omega);rw[hft,HSG0.out] at hsm;have HSW2:=hid (show wr.heap[sb]?=some (.cells (svC A6 G.length c6 cm (ws+1) 0 0 tot) 166 (0,0)) from by rw[HSW.out,hft,HSG0.out]);clear hu hsw hsl e0 e2 z2 HSW hft hsm;have hinv:¬ ((i:Int)<G.length):=by omega
   clear hin;go_wp2;go_loopw [35] (fun s35 wr=>Sv2 w6 l n A6 c6 G.length sb cm ws tot s35 wr) (fun s35 _=>n+1-(intOf s35).toNat)
   case atStart=>exact⟨0,by omega,rfl,by rw[HSW2.out];simp[St.clsL,St.nontagW,St.tagN],by simpa [St.clsL,Mg.cl,St.onceL] using HAT.out,HU.out⟩
   case round=>
    clear HSW2 HAT HU hinv hlt hi;obtain⟨ii,hi2,rfl,hsw,hat,hu⟩:=hrel;have HU:=hid hu;have HAT0:=hid hat;have HSW:=hid hsw;clear hat
    by_cases hlt:ii<n
    ·have hlt2:ii<l.length:=by rw[HN.out];exact hlt
     obtain⟨ab,aoff,rfl,hb,hc⟩:=(H.out.und (HU6.out.trans hu)) (by omega);obtain⟨c0,c1,c2⟩:=hc ii hlt2;haveI:LtW ab wr:=LtW.of hb;have hstp:=St.cls_take l ii hlt2;have htx:=St.tot_mem (List.getElem_mem hlt2);have hcl1:=St.cls_len (l.take ii);rw[List.length_take,HN.out] at hcl1;have hwb:=St.nontag_le (St.clsL (l.take ii));have htb:=St.tagN_le (St.clsL (l.take ii));obtain⟨x,hx⟩:∃ x,l[ii]=x:=⟨_,rfl⟩;rw[hx] at c0 c1 c2 hstp htx;have hHT:=HTOT.out;obtain⟨kd,tx,id⟩:=x;simp only at c0 c1 c2 htx;have hC:=fun W=>class_any kd tx id W (by omega)
     obtain⟨wt,hwt⟩:∃ k,St.nontagW (St.clsL (l.take ii))=k:=⟨_,rfl⟩;obtain⟨tg,htg⟩:∃ k,St.tagN (St.clsL (l.take ii))=k:=⟨_,rfl⟩;rw[hwt] at hwb;rw[htg] at htb;have HSB0:=hid (show wr.heap[sb]?=some (.cells (svC A6 G.length c6 cm (ws+1) wt tg tot) 166 (0,0)) from by rw[HSW.out,hwt,htg]);cases hcl:St.clsT (kd,tx,id) with
     | none=>
      rw[hcl] at hC hstp;simp only[Option.toList_none,List.append_nil] at hstp;have hC2:∃ k2 t2,∀ W,Calls Tryz.prog 137 #[.agg #[.int .i64 kd,.string ⟨tx.toArray⟩,.int .i64 id]] W fun e w'=>e=.returned (.tuple #[.agg #[.int .i64 k2,.string t2,.int .i64 0],.bool false])/\Und W w':=⟨_,_,hC⟩
      obtain⟨k2,t2,hC3⟩:=hC2;have HC:=hid hC3
      have HE:=hid (fun W (hW:Und wr W)=>(show Sv2 w6 l n A6 c6 G.length sb cm ws tot (.int .i64 ((ii:Int)+1)) W from
       ⟨ii+1,by omega,congrArg (Value.int .i64) (by omega),by rw[hstp];exact(hW.below.block sb (lt_of_heap HSW.out)).trans HSW.out,by rw[hstp];exact HAT0.out.und hW,HU.out.trans hW⟩))
      clear hc hu hsw hx hstp hcl hC hC3 htx hcl1 hwb htb hHT hwt htg HSB0;go_wp2_with ((go_at_call 137;refine(HC.out _).mono ?_;rintro e w' ⟨rfl,X,rfl⟩));exact⟨HE.out _ (by apply_rules[uUe,uUa,uUb,uUc,uUd]),by simp[intOf];omega⟩
     | some cc=>
      rw[hcl] at hC hstp;have hcv:=St.cls_val hcl;have hck:=St.cls_kind hcl;have hct:=St.cls_text hcl;simp only at hck hct;obtain⟨kd2,kt⟩:=cc;simp only at hck hct;obtain rfl:kd=kd2:=hck.symm;rw[hcv] at hC;simp only[Option.toList_some] at hstp;have hC2:∀ W,Calls Tryz.prog 137 #[.agg #[.int .i64 kd,.string ⟨tx.toArray⟩,.int .i64 id]] W fun e w'=>e=.returned (.tuple #[.agg #[.int .i64 kd,.string ⟨kt.toArray⟩,.int .i64 0],.bool true])/\Und W w':=hC
      have HC:=hid hC2;have HST:=hid hstp;have HWT:=hid hwt;have HTG:=hid htg;have hT:=fun W=>xtag_any kd ⟨kt.toArray⟩ 0 W
      have hWG:=fun W=>weight_any kd ⟨kt.toArray⟩ 0 W
      clear hc hu hsw hx hstp hC hC2 hwt htg hcv;go_wp2_with (go_at_call 137;refine(HC.out _).mono ?_;rintro e w9 ⟨rfl,hu9⟩);generalize htb9:w9.heap.size=tb;refine gen_region (fun W=>Und w9 W/\W.cell? ⟨tb,0,none⟩=some (.int .i64 kd)/\W.cell? ⟨tb,1,none⟩=some (.string ⟨kt.toArray⟩)/\W.cell? ⟨tb,2,none⟩=some (.int .i64 0)) ⟨(by apply_rules[uUe,uUa,uUb,uUc,uUd]),by subst htb9;simp,by subst htb9;simp,by subst htb9;simp⟩ (fun W3 h3=>?_);obtain⟨hu3,d0,d1,d2⟩:=h3;have hux:=((Und.refl wr).alloc _).trans (hu9.trans hu3);have HtbB:=hid (lt_of_cell d0);have HtbM:=hid (show tb ≠ cm from by have h1:=HAT0.out.lt;have h2:=hu9.size;simp at h2;omega);have HSB:=hid ((hux.below.block sb (lt_of_heap HSB0.out)).trans HSB0.out);have HsbB:=hid (lt_of_heap HSB.out);have s1:W3.cell? ⟨sb,1,none⟩=some (.map (some cm)):=by have:=zcH HSB.out 1;simpa [svC] using this
      have HAT:=hid (HAT0.out.und hux);have HU3:=hid (HU.out.trans hux);obtain⟨nn,hnn⟩:∃ nn:Int,(fun c=>(((St.clsL (l.take ii)).count c:Nat):Int)) (kd,kt)=nn:=⟨_,rfl⟩
      have hnl:0<=nn/\nn<=1000000:=by
       have h1:(St.clsL (l.take ii)).count (kd,kt)<=(St.clsL (l.take ii)).length:=List.count_le_length;rw[<- hnn];constructor <;> (simp only[];omega)
      have hgd:=St.cls_good l HTOT.out;have HGK:=hid (show Mg.tokGood (kd,kt) from hgd _ (St.cls_sub l (ii+1) _ (by rw[HST.out];simp)));have HKG:=hid (show ∀ c ∈ St.onceL (St.clsL (l.take ii)),Mg.tokGood c from fun c hm=>hgd _ (St.cls_sub l ii _ ((St.once_both _).2 c |>.1 hm)));have HKN:=hid (St.once_both (St.clsL (l.take ii))).1
      have H0:=hid (show (kd,kt) ∉ St.onceL (St.clsL (l.take ii))->(fun c=>(((St.clsL (l.take ii)).count c:Nat):Int)) (kd,kt)=0 from fun hm=>by
       have h1:(kd,kt) ∉ St.clsL (l.take ii):=fun h=>hm ((St.once_both _).2 _ |>.2 h)
       simp only[List.count_eq_zero_of_not_mem h1];rfl)
      have HFV:=hid hnn
      have HFN:=hid (show (fun c=>(((St.clsL (l.take (ii+1))).count c:Nat):Int)) (kd,kt)=nn+1 from by
       have h:=hnn;dsimp only at h ⊢;rw[HST.out,List.count_append,List.count_singleton_self]
       omega)
      have HNE:=hid (show nn+1 ≠ (fun c=>(((St.clsL (l.take ii)).count c:Nat):Int)) (kd,kt) from by
       have h:=hnn;dsimp only at h ⊢
       omega)
      have HFO:=hid (show ∀ c,c ≠ (kd,kt)->(fun c=>(((St.clsL (l.take (ii+1))).count c:Nat):Int)) c=(fun c=>(((St.clsL (l.take ii)).count c:Nat):Int)) c from fun c hc=>by
       dsimp only
       rw[HST.out,List.count_append,show List.count c [(kd,kt)]=0 from List.count_eq_zero_of_not_mem (by simpa using hc),Nat.add_zero])
      clear hux hu9 hu3 hnn hgd htb9;refine wp_region_facts (Mg.CntR Mg.tokV cm (Mg.ens (kd,kt) (.int .i64 0) (Mg.cl (St.onceL (St.clsL (l.take ii))) ((fun c=>(((St.clsL (l.take ii)).count c:Nat):Int))))) (Mg.cl (Mg.addK (St.onceL (St.clsL (l.take ii))) (kd,kt)) ((fun c=>(((St.clsL (l.take (ii+1))).count c:Nat):Int))))) (Mg.Cnt Mg.tokV W3 cm (Mg.ens (kd,kt) (.int .i64 0) (Mg.cl (St.onceL (St.clsL (l.take ii))) ((fun c=>(((St.clsL (l.take ii)).count c:Nat):Int))))) (Mg.cl (Mg.addK (St.onceL (St.clsL (l.take ii))) (kd,kt)) ((fun c=>(((St.clsL (l.take (ii+1))).count c:Nat):Int)))) 5 7) [fun v _=>v=.pointer (some ⟨sb,1,none⟩),fun v _=>v=.map (some cm),fun v _=>v=.agg #[.int .i64 kd,.string ⟨kt.toArray⟩,.int .i64 0],fun v _=>v=.int .i64 nn,fun v _=>v=.int .i64 (nn+1),fun v W=>(∃ (j:Nat) (u x:Value),v=.tuple #[x,.int .i64 j]/\(Mg.ens (kd,kt) (.int .i64 0) (Mg.cl (St.onceL (St.clsL (l.take ii))) ((fun c=>(((St.clsL (l.take ii)).count c:Nat):Int)))))[j]?=some ((kd,kt),u))/\(Mg.At Mg.tokV W cm (Mg.ens (kd,kt) (.int .i64 0) (Mg.cl (St.onceL (St.clsL (l.take ii))) ((fun c=>(((St.clsL (l.take ii)).count c:Nat):Int)))))∨Mg.At Mg.tokV W cm (Mg.cl (Mg.addK (St.onceL (St.clsL (l.take ii))) (kd,kt)) ((fun c=>(((St.clsL (l.take (ii+1))).count c:Nat):Int))))),fun v W=>(∃ (j:Nat) (u:Value),v=.int .i64 j/\(Mg.ens (kd,kt) (.int .i64 0) (Mg.cl (St.onceL (St.clsL (l.take ii))) ((fun c=>(((St.clsL (l.take ii)).count c:Nat):Int)))))[j]?=some ((kd,kt),u))/\(Mg.At Mg.tokV W cm (Mg.ens (kd,kt) (.int .i64 0) (Mg.cl (St.onceL (St.clsL (l.take ii))) ((fun c=>(((St.clsL (l.take ii)).count c:Nat):Int)))))∨Mg.At Mg.tokV W cm (Mg.cl (Mg.addK (St.onceL (St.clsL (l.take ii))) (kd,kt)) ((fun c=>(((St.clsL (l.take (ii+1))).count c:Nat):Int))))),noFact] Mg.CntR.refl Mg.CntR.trans (by kernel_rfl) (by rfl) (by kernel_rfl) (by kernel_rfl) ?frc ?hfr ?hI ?hob ?hend
      case hfr=>
       intro ρ;simp only[putAll,Act.put,zsA,zsB,zsC,Nat.zero_add,Nat.reduceAdd];exact rfl
      case hI=>
       unfold Mg.Cnt;simp only[Bool.false_eq_true,if_false];exact(by apply_rules[uUe,uUa,uUb,uUc,uUd])
      case hob=>
       refine ObsF.cons (fun ρ L W hR hI hL hD hO hF K hK=>?_) ?_
       ·skip
        clear hF hD hO;simp only[Act.put,zsA,zsB,zsC] at hK ⊢;go_simp;refine hK _ _ (Mg.CntR.refl _) (hI.keep (by decide) (by decide)) (fun W2 h2=>?_);rfl
       refine ObsF.cons (fun ρ L W hR hI hL hD hO hF K hK=>?_) ?_
       ·skip
        have f0:=allF_get hF (j:=0) (by decide);clear hF hD hO;simp only[Act.put,zsA,zsB,zsC] at hK ⊢;have e0:ρ 0=.pointer (some ⟨sb,1,none⟩):=f0;rw[e0] at hK ⊢;have dsb1:=(hI.cell (b:=sb) (o:=1) HsbB.out HsbM.out).trans s1;haveI:LtW sb W:=LtW.of (Nat.lt_of_lt_of_le HsbB.out hI.size);go_simp;refine hK _ _ (Mg.CntR.refl _) (hI.keep (by decide) (by decide)) (fun W2 h2=>?_);rfl
       refine ObsF.cons (fun ρ L W hR hI hL hD hO hF K hK=>?_) ?_
       ·skip
        clear hF hD hO;simp only[Act.put,zsA,zsB,zsC] at hK ⊢;have dtb0:=(hI.cell (b:=tb) (o:=0) HtbB.out HtbM.out).trans d0;have dtb1:=(hI.cell (b:=tb) (o:=1) HtbB.out HtbM.out).trans d1;have dtb2:=(hI.cell (b:=tb) (o:=2) HtbB.out HtbM.out).trans d2;haveI:LtW tb W:=LtW.of (Nat.lt_of_lt_of_le HtbB.out hI.size);go_simp;refine hK _ _ (Mg.CntR.refl _) (hI.keep (by decide) (by decide)) (fun W2 h2=>?_);rfl
       refine ObsF.cons (fun ρ L W hR hI hL hD hO hF K hK=>?_) ?_
       ·skip
        have f1:=allF_get hF (j:=1) (by decide);have f2:=allF_get hF (j:=2) (by decide);have hp0:L 4=false:=hD.not (p:=4) rfl (by decide) hL;have hp1:L 7=false:=hD.not (p:=7) rfl (by decide) hp0;clear hF hD hO;simp only[Act.put,zsA,zsB,zsC] at hK ⊢;have e1:ρ 1=.map (some cm):=f1;have e2:ρ 2=.agg #[.int .i64 kd,.string ⟨kt.toArray⟩,.int .i64 0]:=f2;rw[e1,e2] at hK ⊢;have hr:(Instr.lookup 162 (.map (some cm)) (.agg #[.int .i64 kd,.string ⟨kt.toArray⟩,.int .i64 0]) false).run Tryz.prog W=.ok (.int .i64 (nn)) W:=hI.read Mg.tok_KV Tryz.underlying162 hp1 HAT.out HKG.out HKN.out HGK.out H0.out HFV.out;go_simp;refine hK _ _ (Mg.CntR.refl _) (hI.keep (by decide) (by decide)) (fun W2 h2=>?_);rfl
       refine ObsF.cons (fun ρ L W hR hI hL hD hO hF K hK=>?_) ?_
       ·skip
        have f3:=allF_get hF (j:=3) (by decide);clear hF hD hO;simp only[Act.put,zsA,zsB,zsC] at hK ⊢;have e3:ρ 3=.int .i64 nn:=f3;rw[e3] at hK ⊢;have yw:=wr_i64 (x:=nn+1) (by omega) (by omega);go_simp;refine hK _ _ (Mg.CntR.refl _) (hI.keep (by decide) (by decide)) (fun W2 h2=>?_);rfl
       refine ObsF.cons (fun ρ L W hR hI hL hD hO hF K hK=>?_) ?_
       ·skip
        have f1:=allF_get hF (j:=1) (by decide);have f2:=allF_get hF (j:=2) (by decide);have hp0:L 6=false:=hD.not (p:=6) rfl (by decide) hL;have hp1:L 7=false:=hD.not (p:=7) rfl (by decide) hp0;clear hF hD hO;simp only[Act.put,zsA,zsB,zsC] at hK ⊢;have e1:ρ 1=.map (some cm):=f1;have e2:ρ 2=.agg #[.int .i64 kd,.string ⟨kt.toArray⟩,.int .i64 0]:=f2;rw[e1,e2] at hK ⊢;obtain⟨j,u,x,hj,hr,hat,hI2⟩:=hI.opens Mg.tok_KV Tryz.underlying162 hL hp1 (by decide) HAT.out HKG.out HKN.out HGK.out
        replace hr:(Instr.mapEntry 162 (.map (some cm)) (.agg #[.int .i64 kd,.string ⟨kt.toArray⟩,.int .i64 0])).run Tryz.prog W=_:=hr
        go_simp;refine hK _ _ (fun _=>.inl hat) hI2 (fun W2 h2=>⟨⟨j,u,x,rfl,hj⟩,h2 (.inl hat)⟩)
       refine ObsF.cons (fun ρ L W hR hI hL hD hO hF K hK=>?_) ?_
       ·skip
        have f5:=allF_get hF (j:=5) (by decide);clear hF hD hO;simp only[Act.put,zsA,zsB,zsC] at hK ⊢;obtain⟨⟨j5,u5,x5,e5,hj5⟩,hat⟩:=f5;rw[e5] at hK ⊢;go_simp;refine hK _ _ (Mg.CntR.refl _) (hI.keep (by decide) (by decide)) (fun W2 h2=>⟨⟨j5,u5,rfl,hj5⟩,h2 hat⟩)
       refine ObsF.cons (fun ρ L W hR hI hL hD hO hF K hK=>?_) ?_
       ·skip
        have f1:=allF_get hF (j:=1) (by decide);have f6:=allF_get hF (j:=6) (by decide);have f4:=allF_get hF (j:=4) (by decide);clear hF hD hO;simp only[Act.put,zsA,zsB,zsC] at hK ⊢;have e1:ρ 1=.map (some cm):=f1;obtain⟨⟨j6,u6,e6,hj6⟩,hat⟩:=f6;have e4:ρ 4=.int .i64 (nn+1):=f4;rw[e1,e6,e4] at hK ⊢;obtain⟨W9,hr,hI2,hat2⟩:=hI.stores Mg.tok_KV Tryz.underlying162 hL HAT.out HKG.out HKN.out HGK.out HFN.out HNE.out HFO.out hj6 hat
        replace hr:(Instr.entryStore 162 (.map (some cm)) (.int .i64 j6) (.int .i64 (nn+1))).run Tryz.prog W=_:=hr
        go_simp;refine hK undef _ (fun _=>.inr hat2) hI2 (fun _ _=>trivial)
       exact ObsF.nil
      case hend=>
       intro ρ L W hR hI hL hF;have hLS:L 7=true:=hL 7 (by decide);unfold Mg.Cnt at hI;rw[if_pos hLS] at hI;obtain⟨W0,hu0,rfl⟩:=hI;clear hLS hR hL hF;have hp:=Mg.put_at (HAT.out.und hu0) (Mg.cl (Mg.addK (St.onceL (St.clsL (l.take ii))) (kd,kt)) (fun c=>(((St.clsL (l.take (ii+1))).count c:Nat):Int)));have hs4:(Mg.put Mg.tokV W0 cm (Mg.cl (Mg.addK (St.onceL (St.clsL (l.take ii))) (kd,kt)) (fun c=>(((St.clsL (l.take (ii+1))).count c:Nat):Int)))).heap[sb]?=some (.cells (svC A6 G.length c6 cm (ws+1) wt tg tot) 166 (0,0)):=(Mg.put_ne _ _ HsbM.out).trans ((hu0.below.block sb HsbB.out).trans HSB.out);have ht4:∀ o,(Mg.put Mg.tokV W0 cm (Mg.cl (Mg.addK (St.onceL (St.clsL (l.take ii))) (kd,kt)) (fun c=>(((St.clsL (l.take (ii+1))).count c:Nat):Int)))).cell? ⟨tb,o,none⟩=W3.cell? ⟨tb,o,none⟩:=fun o=>(Mg.cell_put _ _ HtbM.out).trans (hu0.cell (p:=⟨tb,o,none⟩) HtbB.out)
       have hU4:Und w6 (Mg.put Mg.tokV W0 cm (Mg.cl (Mg.addK (St.onceL (St.clsL (l.take ii))) (kd,kt)) (fun c=>(((St.clsL (l.take (ii+1))).count c:Nat):Int)))):=Mg.put_und _ (HU3.out.trans hu0) HCM.out;rw[Mg.addK_once,<- HST.out] at hp hs4 ht4 hU4 ⊢;generalize Mg.put Mg.tokV W0 cm (Mg.cl (St.onceL (St.clsL (l.take (ii+1)))) (fun c=>(((St.clsL (l.take (ii+1))).count c:Nat):Int)))=W4 at hp hs4 ht4 hU4 ⊢;have HAT4:=hid hp;have HSB4:=hid hs4;have d0:=(ht4 0).trans d0;have d1:=(ht4 1).trans d1;have d2:=(ht4 2).trans d2;have HU4:=hid hU4;have htb4:tb<W4.heap.size:=lt_of_cell d0;haveI:LtW tb W4:=LtW.of htb4;clear hp hs4 ht4 hU4 hu0 s1;cases htag:St.tagT kd with
       | true=>
        rw[htag] at hT;have HT:=hid hT;have HNT:=hid (show St.nontagW (St.clsL (l.take (ii+1)))=wt from by rw[HST.out,St.nontag_snoc,if_pos htag,Nat.add_zero];exact HWT.out);have HTN:=hid (show St.tagN (St.clsL (l.take (ii+1)))=tg+1 from by rw[HST.out,St.tagN_snoc,if_pos htag,HTG.out])
        have HE3:=hid (fun W (hW:Und (W4.setCell ⟨sb,4,none⟩ (.int .i64 ((tg:Int)+1))) W)=>(show Sv2 w6 l n A6 c6 G.length sb cm ws tot (.int .i64 ((ii:Int)+1)) W from
         ⟨ii+1,by omega,congrArg (Value.int .i64) (by omega),by
          have h3:=heap_setCell_same W4 sb 4 _ _ (.int .i64 ((tg:Int)+1)) HSB4.out;rw[hW.below.block sb (lt_of_heap h3),h3,HNT.out,HTN.out]
          simp[svC],(HAT4.out.gb (gb_set _ _ _) (by simpa using fun e=>HsbM.out e.symm)).und hW,(RowAt.set_und HU4.out HSG.out _ _).trans hW⟩))
        have hs:=HSB4.out;have e4:W4.cell? ⟨sb,4,none⟩=some (.int .i64 (tg:Int)):=by have:=zcH hs 4;simpa [svC] using this
        have z4:W4.frozen? ⟨sb,4,none⟩=false:=zfH hs 4;haveI:LtW sb W4:=LtW.of (lt_of_heap hs);have yw:=wr_i64 (x:=(tg:Int)+1) (by omega) (by omega);clear hs htag hT;go_wp2_with ((go_at_call 138;refine(HT.out _).mono ?_;rintro e w' ⟨rfl,X,rfl⟩));exact⟨HE3.out _ (by apply_rules[uUe,uUa,uUb,uUc,uUd]),by simp[intOf];omega⟩
       | false=>
        rw[htag] at hT;have HT:=hid hT;obtain⟨q,hq⟩:∃ q,St.weightK kd=q:=⟨_,rfl⟩;have hq4:=St.weight4 kd;rw[hq] at hq4 hWG;have HWG:=hid hWG;have HNT:=hid (show St.nontagW (St.clsL (l.take (ii+1)))=wt+q from by rw[HST.out,St.nontag_snoc,if_neg (by simp[htag]),HWT.out,<- hq]);have HTN:=hid (show St.tagN (St.clsL (l.take (ii+1)))=tg from by rw[HST.out,St.tagN_snoc,if_neg (by simp[htag]),HTG.out,Nat.add_zero]);clear htag hT hWG hq;go_wp2_with (go_at_call 138;refine(HT.out _).mono ?_;rintro e w5 ⟨rfl,hu5⟩;try go_frame);refine gen_region (fun W5=>Und W4 W5) (by assumption) (fun W5 h5=>?_);have HSB5:=hid ((h5.below.block sb (lt_of_heap HSB4.out)).trans HSB4.out)
        have hts:some tb ≠ some sb:=fun e=>by
         have e1:tb=sb:=Option.some.inj e;subst e1;have h9:=zcH HSB4.out 0;rw[d0] at h9;simp[svC] at h9
        have HTC:=hid (fun W (hW:W5.grownBy W (some sb))=>(show W.cell? ⟨tb,0,none⟩=some (.int .i64 kd)/\W.cell? ⟨tb,1,none⟩=some (.string ⟨kt.toArray⟩)/\W.cell? ⟨tb,2,none⟩=some (.int .i64 0) from
         have hlt5:=Nat.lt_of_lt_of_le htb4 h5.size
         ⟨((gb_cell hW (p:=⟨tb,0,none⟩) hlt5 hts).trans (h5.cell (p:=⟨tb,0,none⟩) htb4)).trans d0,((gb_cell hW (p:=⟨tb,1,none⟩) hlt5 hts).trans (h5.cell (p:=⟨tb,1,none⟩) htb4)).trans d1,((gb_cell hW (p:=⟨tb,2,none⟩) hlt5 hts).trans (h5.cell (p:=⟨tb,2,none⟩) htb4)).trans d2⟩))
        have HTB2:=hid (Nat.lt_of_lt_of_le htb4 h5.size);have hge:W5.heap.size ≥ sb+1:=lt_of_heap HSB5.out
        have HE3:=hid (fun W (hW:W5.grownBy W (some sb)) (hs:W.heap[sb]?=some (.cells (#[.slice A6 G.length c6,.map (some cm),.int .i64 ((ws+1:Nat):Int),.int .i64 ((wt:Int)+q),.int .i64 (tg:Int),.int .i64 (tot:Int)]) 166 (0,0)))=>(show Sv2 w6 l n A6 c6 G.length sb cm ws tot (.int .i64 ((ii:Int)+1)) W from
         ⟨ii+1,by omega,congrArg (Value.int .i64) (by omega),by rw[hs,HNT.out,HTN.out];simp[svC],(HAT4.out.und h5).gb hW (by simpa using fun e=>HsbM.out e.symm),(HU4.out.trans h5).grown hW (fun g e=>by have:=HSG.out;cases e;exact this)⟩))
        clear d0 d1 d2 h5;refine wp_region_facts (fun _ _=>True) (fun L W=>W5.grownBy W (some (sb))/\W.heap[sb]?=some (.cells (if L 8=true then #[.slice A6 G.length c6,.map (some cm),.int .i64 ((ws+1:Nat):Int),.int .i64 ((wt:Int)+q),.int .i64 (tg:Int),.int .i64 (tot:Int)] else #[.slice A6 G.length c6,.map (some cm),.int .i64 ((ws+1:Nat):Int),.int .i64 (wt:Int),.int .i64 (tg:Int),.int .i64 (tot:Int)]) 166 (0,0))) [fun v _=>v=.pointer (some ⟨sb,2,none⟩),fun v _=>v=.pointer (some ⟨sb,3,none⟩),fun v _=>v=.int .i64 (wt:Int),fun v _=>v=.agg #[.int .i64 kd,.string ⟨kt.toArray⟩,.int .i64 0],fun v _=>v=.int .i64 (q:Int),fun v _=>v=.int .i64 ((wt:Int)+q),fun v _=>v=.pointer (some ⟨sb,2,none⟩),fun v _=>v=.pointer (some ⟨sb,3,none⟩),noFact] (fun _=>trivial) (fun _ _ _ _ _=>trivial) (by kernel_rfl) (by rfl) (by kernel_rfl) (by kernel_rfl) ?frw ?hfr ?hI ?hob ?hend
        case hfr=>
         intro ρ;simp only[putAll,Act.put,zsA,zsB,zsC,Nat.zero_add,Nat.reduceAdd];exact rfl
        case hI=>exact⟨((by apply_rules[uUe,uUa,uUb,uUc,uUd]):Und W5 W5.drew).gb _,by
          rw[if_neg (by simp)]
          exact HSB5.out⟩
        case hob=>
         refine ObsF.cons (fun ρ L W hR hI hL hD hO hF K hK=>?_) ?_
         ·skip
          clear hF hD hO;simp only[Act.put,zsA,zsB,zsC] at hK ⊢;go_simp;refine hK _ _ trivial ⟨hI.1,by simpa [updB] using hI.2⟩ (fun W2 h2=>?_);rfl
         refine ObsF.cons (fun ρ L W hR hI hL hD hO hF K hK=>?_) ?_
         ·skip
          have f0:=allF_get hF (j:=0) (by decide);clear hF hD hO;simp only[Act.put,zsA,zsB,zsC] at hK ⊢;have e0:ρ 0=.pointer (some ⟨sb,2,none⟩):=f0;rw[e0] at hK ⊢;go_simp;refine hK _ _ trivial ⟨hI.1,by simpa [updB] using hI.2⟩ (fun W2 h2=>?_);rfl
         refine ObsF.cons (fun ρ L W hR hI hL hD hO hF K hK=>?_) ?_
         ·skip
          have f1:=allF_get hF (j:=1) (by decide);have hp0:L 5=false:=hD.not (p:=5) rfl (by decide) hL;have hp1:L 8=false:=hD.not (p:=8) rfl (by decide) hp0;have hb:W.heap[sb]?=some (.cells #[.slice A6 G.length c6,.map (some cm),.int .i64 ((ws+1:Nat):Int),.int .i64 (wt:Int),.int .i64 (tg:Int),.int .i64 (tot:Int)] 166 (0,0)):=by simpa [hp1] using hI.2
          haveI:LtW (sb) W:=LtW.of (lt_of_heap hb);clear hF hD hO;simp only[Act.put,zsA,zsB,zsC] at hK ⊢;have e1:ρ 1=.pointer (some ⟨sb,3,none⟩):=f1;rw[e1] at hK ⊢;have d3:=zcH hb 3;simp only[List.getElem?_toArray,List.getElem?_cons_zero,List.getElem?_cons_succ] at d3;go_simp;refine hK _ _ trivial ⟨hI.1,by simpa [updB] using hI.2⟩ (fun W2 h2=>?_);rfl
         refine ObsF.cons (fun ρ L W hR hI hL hD hO hF K hK=>?_) ?_
         ·skip
          clear hF hD hO;simp only[Act.put,zsA,zsB,zsC] at hK ⊢;obtain⟨d0,d1,d2⟩:=HTC.out W hI.1;haveI:LtW tb W:=LtW.of (Nat.lt_of_lt_of_le HTB2.out hI.1.size);go_simp;refine hK _ _ trivial ⟨hI.1,by simpa [updB] using hI.2⟩ (fun W2 h2=>?_);rfl
         refine ObsF.cons (fun ρ L W hR hI hL hD hO hF K hK=>?_) ?_
         ·skip
          have f3:=allF_get hF (j:=3) (by decide);clear hF hD hO;simp only[Act.put,zsA,zsB,zsC] at hK ⊢;have e3:ρ 3=.agg #[.int .i64 kd,.string ⟨kt.toArray⟩,.int .i64 0]:=f3;rw[e3] at hK ⊢;refine step_callF3 (o:=⟨some 65,_,_,_,_,_⟩) rfl 139 #[.agg #[.int .i64 kd,.string ⟨kt.toArray⟩,.int .i64 0]] _ (HWG.out W) ?_ ?_
          ·go_simp
          rintro e W2 ⟨rfl,hu⟩
          exact⟨_,rfl,hK _ _ trivial ⟨gb_und hI.1 hu,by
           have h3:=(hu.below.block (sb) (lt_of_heap hI.2)).trans hI.2
           simpa [updB] using h3⟩ (fun W3 h3=>rfl)⟩
         refine ObsF.cons (fun ρ L W hR hI hL hD hO hF K hK=>?_) ?_
         ·skip
          have f2:=allF_get hF (j:=2) (by decide);have f4:=allF_get hF (j:=4) (by decide);clear hF hD hO;simp only[Act.put,zsA,zsB,zsC] at hK ⊢;have e2:ρ 2=.int .i64 (wt:Int):=f2;have e4:ρ 4=.int .i64 (q:Int):=f4;rw[e2,e4] at hK ⊢;have yw:=wr_i64 (x:=(wt:Int)+q) (by omega) (by omega);go_simp;refine hK _ _ trivial ⟨hI.1,by simpa [updB] using hI.2⟩ (fun W2 h2=>?_);rfl
         refine ObsF.cons (fun ρ L W hR hI hL hD hO hF K hK=>?_) ?_
         ·skip
          clear hF hD hO;simp only[Act.put,zsA,zsB,zsC] at hK ⊢;go_simp;refine hK _ _ trivial ⟨hI.1,by simpa [updB] using hI.2⟩ (fun W2 h2=>?_);rfl
         refine ObsF.cons (fun ρ L W hR hI hL hD hO hF K hK=>?_) ?_
         ·skip
          have f6:=allF_get hF (j:=6) (by decide);clear hF hD hO;simp only[Act.put,zsA,zsB,zsC] at hK ⊢;have e6:ρ 6=.pointer (some ⟨sb,2,none⟩):=f6;rw[e6] at hK ⊢;go_simp;refine hK _ _ trivial ⟨hI.1,by simpa [updB] using hI.2⟩ (fun W2 h2=>?_);rfl
         refine ObsF.cons (fun ρ L W hR hI hL hD hO hF K hK=>?_) ?_
         ·skip
          have f7:=allF_get hF (j:=7) (by decide);have f5:=allF_get hF (j:=5) (by decide);have hb:W.heap[sb]?=some (.cells #[.slice A6 G.length c6,.map (some cm),.int .i64 ((ws+1:Nat):Int),.int .i64 (wt:Int),.int .i64 (tg:Int),.int .i64 (tot:Int)] 166 (0,0)):=by simpa [hL] using hI.2
          haveI:LtW (sb) W:=LtW.of (lt_of_heap hb);clear hF hD hO;simp only[Act.put,zsA,zsB,zsC] at hK ⊢;have e7:ρ 7=.pointer (some ⟨sb,3,none⟩):=f7;have e5:ρ 5=.int .i64 ((wt:Int)+q):=f5;rw[e7,e5] at hK ⊢;have fz3:W.frozen? ⟨sb,3,none⟩=false:=zfH hb 3;have gz3:=zcH hb 3;simp only[List.getElem?_toArray,List.getElem?_cons_zero,List.getElem?_cons_succ] at gz3;go_simp
          refine hK undef _ trivial ⟨(gb_setCell hI.1 ⟨sb,3,none⟩ (.int .i64 ((wt:Int)+q)) (.inl rfl)),by
           have h3:=(heap_setCell_same _ (sb) 3 _ _ (.int .i64 ((wt:Int)+q)) hb);rw[if_pos (by simp[updB])]
           exact h3⟩ (fun _ _=>trivial)
         exact ObsF.nil
        case hend=>
         intro ρ L W hR hI hL hF;have hLS:L 8=true:=hL 8 (by decide);have hu0:=hI.1;have hb:W.heap[sb]?=some (.cells #[.slice A6 G.length c6,.map (some cm),.int .i64 ((ws+1:Nat):Int),.int .i64 ((wt:Int)+q),.int .i64 (tg:Int),.int .i64 (tot:Int)] 166 (0,0)):=by simpa [hLS] using hI.2
         clear hR hL hF hI hLS;have HE4:=hid (HE3.out _ hu0 hb);clear hb hu0;go_wp2;exact⟨HE4.out,by simp[intOf];omega⟩
    ·have hjn:n=ii:=by omega
     subst hjn;have hft:l.take n=l:=List.take_of_length_le (by rw[HN.out];exact Nat.le_refl _);rw[hft] at HSW HAT0;have hs:=HSW.out;have h2:=((HU.out.below.block _ (lt_of_heap HR6.out)).trans HR6.out);have hgw:=HGA.out.und HU.out;obtain⟨e0,e1,e2,e3,e4,e5⟩:=cells6 hs;obtain⟨g0,g1,g2,g3,g4,g5⟩:=free6 h2;have r0:=zcH h2 0;have r1:=zcH h2 1;have r2:=zcH h2 2;have r3:=zcH h2 3;have r4:=zcH h2 4;have r5:=zcH h2 5;simp only[List.getElem?_toArray,List.getElem?_cons_zero,List.getElem?_cons_succ] at r0 r1 r2 r3 r4 r5;haveI:LtW sb wr:=LtW.of (lt_of_heap hs);haveI:LtW w.heap.size wr:=LtW.of (lt_of_heap h2);have hrc:w.heap.size<cm:=by have:=lt_of_heap HR6.out;have:=HCM.out;omega
     have HF:=hid (fun W (hW:wr.grownBy W (some w.heap.size))=>(show SvAt W w.heap.size l (.agg (svC A6 G.length c6 cm (ws+1) (St.nontagW (St.clsL l)) (St.tagN (St.clsL l)) tot))/\Und w W from
      ⟨⟨A6,c6,G,cm,by rw[HWS.out,HT0.out],hgw.off hW (fun o v h=>by
       have h9:=zcH h2 o;rw[h] at h9
       rcases o with _|_|_|_|_|_|o <;> simp at h9),HPM.out,by omega,HAT0.out.gb hW (by simpa using fun e=>by omega)⟩,
       (HU6.out.trans HU.out).grown hW (fun g e=>by cases e;exact Nat.le_refl _)⟩))
     have H2:=hid h2;clear hs h2 hgw hsw hu hft;go_wp2;have hb9:=heap_setCell_same _ _ 5 _ _ (.int .i64 (tot:Int)) (heap_setCell_same _ _ 4 _ _ (.int .i64 (St.tagN (St.clsL l):Int)) (heap_setCell_same _ _ 3 _ _ (.int .i64 (St.nontagW (St.clsL l):Int)) (heap_setCell_same _ _ 2 _ _ (.int .i64 ((ws:Int)+1)) (heap_setCell_same _ _ 1 _ _ (.map (some cm)) (heap_setCell_same _ _ 0 _ _ (.slice A6 G.length c6) H2.out)))));have hf9:=HF.out _ (gb_setCell (gb_setCell (gb_setCell (gb_setCell (gb_setCell (gb_setCell (gb_refl _ _) ⟨w.heap.size,0,none⟩ (.slice A6 G.length c6) (.inl rfl)) ⟨w.heap.size,1,none⟩ (.map (some cm)) (.inl rfl)) ⟨w.heap.size,2,none⟩ (.int .i64 ((ws:Int)+1)) (.inl rfl)) ⟨w.heap.size,3,none⟩ (.int .i64 (St.nontagW (St.clsL l):Int)) (.inl rfl)) ⟨w.heap.size,4,none⟩ (.int .i64 (St.tagN (St.clsL l):Int)) (.inl rfl)) ⟨w.heap.size,5,none⟩ (.int .i64 (tot:Int)) (.inl rfl));clear r0 r1 r2 r3 r4 r5 e0 e1 e2 e3 e4 e5 g0 g1 g2 g3 g4 g5;generalize ((((((wr.setCell ⟨w.heap.size,0,none⟩ (.slice A6 G.length c6)).setCell ⟨w.heap.size,1,none⟩ (.map (some cm))).setCell ⟨w.heap.size,2,none⟩ (.int .i64 ((ws:Int)+1))).setCell ⟨w.heap.size,3,none⟩ (.int .i64 (St.nontagW (St.clsL l):Int))).setCell ⟨w.heap.size,4,none⟩ (.int .i64 (St.tagN (St.clsL l):Int))).setCell ⟨w.heap.size,5,none⟩ (.int .i64 (tot:Int)))=W9 at hb9 hf9 ⊢;have r0:=zcH hb9 0;have r1:=zcH hb9 1;have r2:=zcH hb9 2;have r3:=zcH hb9 3;have r4:=zcH hb9 4;have r5:=zcH hb9 5;simp only[zsA,zsB,zsC,List.getElem?_toArray,List.getElem?_cons_zero,List.getElem?_cons_succ] at r0 r1 r2 r3 r4 r5;clear hb9 HF H2;refine bodyPost_ret (v:=.agg (svC A6 G.length c6 cm (ws+1) (St.nontagW (St.clsL l)) (St.tagN (St.clsL l)) tot)) ?_ rfl ⟨_,rfl,hf9⟩;simp[results,Tryz.results85,go_sem,svC,r0,r1,r2,r3,r4,r5]
end
end Go.Proofs.YtcfhfdphoidaeaaGreatDoor
