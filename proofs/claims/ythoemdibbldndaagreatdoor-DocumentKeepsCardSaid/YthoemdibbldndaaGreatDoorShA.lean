/- The contract of sheet's element: what it gives is St.sheetL, behind the builder's limits. -/
import Derived.Test.YthoemdibbldndaaGreatDoorGC
import Derived.Test.YthoemdibbldndaaGreatDoorShelf
set_option linter.all false
set_option maxHeartbeats 0
set_option maxRecDepth 20000
open Go.Value renaming int->Yh,string->Yi,slice->Yj,bool->Yk,pointer->Yl,tuple->Ym
open Go.IntKind renaming i64->Yn
open Go.Ending renaming returned->Yp
open Go renaming World->Ys
namespace Go.Proofs.YthoemdibbldndaaGreatDoor.Sh
open Go.RowKit Go.Proofs.YthoemdibbldndaaGreatDoor.St
section
abbrev b8 (w:Ys) (B b:Nat) (ah:List St.It) (tx:List UInt8) (cuts:List Nat):Prop:=_root_.Go.Proofs.YthoemdibbldndaaGreatDoor.b8 127 [] w B b ah tx cuts
instance:vi 127:=⟨by decide⟩
theorem GX(s t:ByteArray)(w:Ys)(hs:s.size<=9223372036854775807)(ht:t.size<=9223372036854775807):Calls Tryz.prog 192 #[Yi s,Yi t] w λe w'=>e=Yp (Yk (preB t s))/\w=w':=by
 by_cases h:t.size<=s.size
 ·have z:(t.size:Int)<=(s.size:Int):=by omega
  go_enter Tryz.func192,Tryz.ntmps192;go_wp2;go_ret;refine⟨az ?_,rfl⟩;unfold preB;rw[Lib.toList_data,Lib.toList_data,Lib.extract_data,<-St.nf];simp
 have z:¬(t.size:Int)<=(s.size:Int):=by omega
 have H:=aa h;clear h;go_enter Tryz.func192,Tryz.ntmps192;go_wp2;go_ret;have hz:preB t s=false:=St.vR _ _ (by have:=H.out;simp;omega);exact⟨az hz.symm,rfl⟩
theorem sK(s t:ByteArray)(w:Ys)(hs:s.size<=9223372036854775807)(ht:t.size<=9223372036854775807):Calls Tryz.prog 165 #[Yi s,Yi t] w λe w'=>e=Yp (Yk (preB t s))/\w=w':=by
 have H:=aa (GX s t w hs ht);go_enter Tryz.func165,Tryz.ntmps165;go_wp2_with fail;refine H.out.mono ?_;rintro e w' ⟨rfl,rfl⟩;go_wp2;go_ret;exact⟨rfl,rfl⟩
def uq(w:Ys)(B b:Nat)(ah:List St.It)(tx:List UInt8)(cuts:List Nat)(l:List UInt8)(a:Nat)(e:Ending)(w':Ys):Prop:=
 Below B w w'/\match St.cm l with
  | none=>e=Yp (Ym #[Yh Yn a,Yh Yn 2])
  | some (k,t,n)=>if 512<(St.aL (ah++St.ch tx) (k,t,0)).length\/1024<=cuts.length then e=Yp (Ym #[Yh Yn a,Yh Yn 3])else
    e=Yp (Ym #[Yh Yn ((a+n:Nat):Int),Yh Yn 0])/\∃fD jB,b8 w' B b fD jB (cuts++[a])/\St.fG fD/\fD++St.ch jB=St.aL (ah++St.ch tx) (k,t,0)/\jB.length<=cuts.length+1
theorem Cy{w:Ys}{B b:Nat}{ah:List St.It}{tx:List UInt8}{cuts:List Nat}{l:List UInt8}{a:Nat}{w':Ys}(h:St.cm l=none)(hb:Below B w w'):uq w B b ah tx cuts l a (Yp (Ym #[Yh Yn a,Yh Yn 2])) w':=by
 refine⟨hb,?_⟩;rw[h]
theorem yA{w:Ys}{B b:Nat}{ah:List St.It}{tx:List UInt8}{cuts:List Nat}{l:List UInt8}{a n:Nat}{c:UInt8}{w':Ys}(h:St.cm l=some (1,[c],n))(hN:St.fG ah)(hf:St.aU ah.length tx.length cuts.length true=true)(hb:Below B w w') :
  uq w B b ah tx cuts l a (Yp (Ym #[Yh Yn a,Yh Yn 3])) w':=by
 refine⟨hb,?_⟩;rw[h];simp only;rw[if_pos ((St.lH hN c cuts.length).2 hf)];trivial
theorem yz{w:Ys}{B b:Nat}{ah:List St.It}{tx:List UInt8}{cuts:List Nat}{l:List UInt8}{a n:Nat}{c:UInt8}{w':Ys}(h:St.cm l=some (1,[c],n))(hN:St.fG ah)(hf:St.aU ah.length tx.length cuts.length true=false)(hb:Below B w w')
  (hB:b8 w' B b ah (tx++[c]) (cuts++[a])) (ht:tx.length<=cuts.length) (m:Int) (hm:m=((a+n:Nat):Int)):uq w B b ah tx cuts l a (Yp (Ym #[Yh Yn m,Yh Yn 0])) w':=by
 refine⟨hb,?_⟩;rw[h];simp only;rw[if_neg (λh2=>by rw[(St.lH hN c cuts.length).1 h2]at hf;cases hf),hm];exact⟨rfl,ah,tx++[c],hB,hN,(St.rD hN c).symm,by simp;omega⟩
theorem Lv{w:Ys}{B b:Nat}{ah:List St.It}{tx:List UInt8}{cuts:List Nat}{l:List UInt8}{a n:Nat}{t:List UInt8}{w':Ys}(h:St.cm l=some (5,t,n))(hf:St.aU ah.length tx.length cuts.length false=true)(hb:Below B w w') :
  uq w B b ah tx cuts l a (Yp (Ym #[Yh Yn a,Yh Yn 3])) w':=by
 refine⟨hb,?_⟩;rw[h];simp only;rw[if_pos ((St.j8 5 t cuts.length (by decide)).2 hf)];trivial
theorem Oz{w:Ys}{B b:Nat}{ah:List St.It}{tx:List UInt8}{cuts:List Nat}{l:List UInt8}{a n:Nat}{t:List UInt8}{w':Ys}(h:St.cm l=some (5,t,n))(hf:St.aU ah.length tx.length cuts.length false=false)(hb:Below B w w')
  (hB:b8 w' B b (ah++St.ch tx++[(5,t,0)]) [] (cuts++[a])) (m:Int) (hm:m=((a+n:Nat):Int)):uq w B b ah tx cuts l a (Yp (Ym #[Yh Yn m,Yh Yn 0])) w':=by
 refine⟨hb,?_⟩;rw[h];simp only;rw[if_neg (λh2=>by rw[(St.j8 5 t cuts.length (by decide)).1 h2]at hf;cases hf),hm];exact⟨rfl,_,[],hB,St.mv _ 5 t 0 (by decide),by rw[St.rE 5 t (by decide)];simp[St.ch],by simp⟩
end
section
theorem kV(w:Ys)(B b:Nat)(ah:List St.It)(tx:List UInt8)(cuts:List Nat)(raw:ByteArray)(a:Nat)(h:b8 w B b ah tx cuts)(hN:St.fG ah)(h1:ah.length<=512)(h2:cuts.length<=1024)(h3:tx.length<=cuts.length)(hBw:B<=w.1.size)
  (ha:a<raw.size) (hr:raw.size<=4611686018427387904) :
  Calls Tryz.prog 173 #[Yl (some ⟨b,0,none⟩),Yi raw,Yh Yn a] w (uq w B b ah tx cuts (raw.1.1.drop a) a):=by
 obtain⟨s,hE⟩:∃s,raw.extract a raw.size=s:=⟨_,rfl⟩;have hsz:s.size=raw.size-a:=by rw[<-hE];simp
 have hs0:0<s.size:=by omega
 have hl:s.1.1=raw.1.1.drop a:=by rw[<-hE];simp;exact List.take_of_length_le (by simp)
 rw[<-hl];have hcr:s.1.1=s[0] :: s.1.1.drop 1:=St.fB s hs0;have hp1:=λW=>sK s ⟨#[34,34]⟩ W (by omega) (by show 2<=_;omega)
 have hp2:=λW=>sK s ⟨#[123,123]⟩ W (by omega) (by show 2<=_;omega)
 have e1:preB ⟨#[34,34]⟩ s=([34,34]:List UInt8).isPrefixOf (s[0] :: s.1.1.drop 1):=by unfold preB;rw[<-hcr]
 have e2:preB ⟨#[123,123]⟩ s=([123,123]:List UInt8).isPrefixOf (s[0] :: s.1.1.drop 1):=by unfold preB;rw[<-hcr]
 have hby:=aa (oN w B b ah tx cuts s[0] a h (by omega) (by omega) (by omega) hBw);have ha1:(a:Int)<=raw.size:=by omega
 have ha2:¬raw.size<a:=by omega
 have hN':=aa hN
 by_cases gS:s[0].toNat=34
 ·have hsl:=St.sr (r:=s.1.1.drop 1) gS;have hq2:preB ⟨#[123,123]⟩ s=false:=by rw[e2];exact St.uI (by intro e;rw[e]at gS;simp at gS)
  have Qq:((s[0].toNat:Int)==34)=true:=by simp;omega
  rw[<-e1,<-hcr]at hsl;cases hq1:preB ⟨#[34,34]⟩ s
  ·rw[hq1]at hsl;have bm:=aa hsl;rw[hq1]at hp1;rw[hq2]at hp2;have oG:=aa hp1;have gR:=aa hp2;clear hsl hp1 hp2 e1 e2 hq1 hq2 hcr hl h hN;go_enter Tryz.func173,Tryz.ntmps173;go_wp2_with fail;refine(oG.out _).mono ?_;rintro e w' ⟨rfl,rfl⟩;go_wp2_with fail;refine(gR.out _).mono ?_;rintro e w' ⟨rfl,rfl⟩;go_wp2;go_ret2;exact Cy bm.out (Below.refl _ _)
  rw[hq1]at hsl;have bm:=aa hsl;rw[hq1]at hp1;have oG:=aa hp1;clear hsl hp1 hp2 e1 e2 hq1 hq2 hcr hl h hN;go_enter Tryz.func173,Tryz.ntmps173;go_wp2_with fail;refine(oG.out _).mono ?_;rintro e w' ⟨rfl,rfl⟩;go_wp2_with fail;have vx:=hby.out;rw[gS,show((34:Nat):Int)=34 from rfl]at vx;refine vx.mono ?_;rintro e w' ⟨rfl,eM,hbl⟩;have iv:=aa eM;have df:=aa hbl;clear eM hbl vx;cases hfu:St.aU ah.length tx.length cuts.length true
  ·have cy:=aa hfu;clear hfu;go_wp2;go_ret2;exact yz bm.out hN'.out cy.out df.out (iv.out cy.out) h3 _ (by omega)
  have cy:=aa hfu;clear hfu;go_wp2;go_ret2;exact yA bm.out hN'.out cy.out df.out
 by_cases dj:s[0].toNat=123
 ·have hsl:=St.qh (r:=s.1.1.drop 1) dj;have hq1:preB ⟨#[34,34]⟩ s=false:=by rw[e1];exact St.uI (by intro e;rw[e]at dj;simp at dj)
  rw[<-e2,<-hcr]at hsl;cases hq2:preB ⟨#[123,123]⟩ s
  ·rw[hq2]at hsl;simp only[Bool.false_eq_true,if_false]at hsl;rw[hq1]at hp1;rw[hq2]at hp2;have oG:=aa hp1;have gR:=aa hp2;have bP:=λW=>Tryz.strings_IndexByte s 125 W
   have l5:(125:Int).toNat.toUInt8=125:=rfl;rw[l5,hcr]at bP;rcases St.ru (r:=s.1.1.drop 1) dj with⟨hi,hs⟩|⟨n,hi,hn,ff,hs⟩
   ·rw[hi]at bP;rw[<-hcr]at hs;rw[hs]at hsl;have bm:=aa hsl;have ep:=aa bP;clear hsl hp1 hp2 e1 e2 hq1 hq2 hcr hl h hN bP hi hs l5;go_enter Tryz.func173,Tryz.ntmps173;go_wp2_with fail;refine(oG.out _).mono ?_;rintro e w' ⟨rfl,rfl⟩;go_wp2_with fail;refine(gR.out _).mono ?_;rintro e w' ⟨rfl,rfl⟩;go_wp2_with fail;refine(ep.out _).mono ?_;rintro e w' ⟨rfl,rfl⟩;go_wp2;go_ret2;exact Cy bm.out (Below.refl _ _)
   rw[hi]at bP;have hns:n+1<s.size:=by rw[<-hcr]at hn;simpa using hn
   obtain⟨x,hX⟩:∃x,s.extract 1 (n+1)=x:=⟨_,rfl⟩;have hxl:x.1.1=(s.1.1.drop 1).take n:=by rw[<-hX];simp
   have hxs:x.size<=s.size:=by rw[<-hX];simp;omega
   have be:=λW=>kG x W (by omega)
   rw[<-hcr,<-hxl]at hs;have z1:(1:Int)<=(n:Int)+1:=by omega
   have z2:(n:Int)+1<=s.size:=by omega
   have z3:¬(n:Int)+1<0:=by omega
   cases hnb:St.aE x.1.1
   ·rw[hnb]at hs be;simp only[Bool.false_eq_true,if_false]at hs;rw[hs]at hsl;have bm:=aa hsl;have ep:=aa bP;have bt:=aa be;clear hsl hp1 hp2 e1 e2 hq1 hq2 hcr hl h hN bP hi hs l5 hn ff be hnb hxl;go_enter Tryz.func173,Tryz.ntmps173;go_wp2_with fail;refine(oG.out _).mono ?_;rintro e w' ⟨rfl,rfl⟩;go_wp2_with fail;refine(gR.out _).mono ?_;rintro e w' ⟨rfl,rfl⟩;go_wp2_with fail;refine(ep.out _).mono ?_;rintro e w' ⟨rfl,rfl⟩;go_wp2_with fail;refine(bt.out _).mono ?_;rintro e w' ⟨rfl,rfl⟩;go_wp2;go_ret2;exact Cy bm.out (Below.refl _ _)
   rw[hnb]at hs be;simp only[if_true]at hs;rw[hs]at hsl;simp only[Option.map_some]at hsl;have bm:=aa hsl;have ep:=aa bP;have bt:=aa be;have hit:=aa (lp w B b ah tx cuts 5 0 x a h (by omega) (by omega) (by omega) hBw);clear hsl hp1 hp2 e1 e2 hq1 hq2 hcr hl h hN bP hi hs l5 hn ff be hnb hxl;go_enter Tryz.func173,Tryz.ntmps173;go_wp2_with fail;refine(oG.out _).mono ?_;rintro e w' ⟨rfl,rfl⟩;go_wp2_with fail;refine(gR.out _).mono ?_;rintro e w' ⟨rfl,rfl⟩;go_wp2_with fail;refine(ep.out _).mono ?_;rintro e w' ⟨rfl,rfl⟩;go_wp2_with fail;refine(bt.out _).mono ?_;rintro e w' ⟨rfl,rfl⟩;go_wp2_with fail;refine hit.out.mono ?_;rintro e w' ⟨rfl,eM,hbl⟩;have iv:=aa eM;have df:=aa hbl;clear eM hbl;cases hfu:St.aU ah.length tx.length cuts.length false
   ·have cy:=aa hfu;clear hfu;go_wp2;go_ret2;exact Oz bm.out cy.out df.out (iv.out cy.out) _ (by omega)
   have cy:=aa hfu;clear hfu;go_wp2;go_ret2;exact Lv bm.out cy.out df.out
  rw[hq2]at hsl;have bm:=aa hsl;rw[hq1]at hp1;rw[hq2]at hp2;have oG:=aa hp1;have gR:=aa hp2;clear hsl hp1 hp2 e1 e2 hq1 hq2 hcr hl h hN;go_enter Tryz.func173,Tryz.ntmps173;go_wp2_with fail;refine(oG.out _).mono ?_;rintro e w' ⟨rfl,rfl⟩;go_wp2_with fail;refine(gR.out _).mono ?_;rintro e w' ⟨rfl,rfl⟩;go_wp2_with fail;have vx:=hby.out;rw[dj,show((123:Nat):Int)=123 from rfl]at vx;refine vx.mono ?_;rintro e w' ⟨rfl,eM,hbl⟩;have iv:=aa eM;have df:=aa hbl;clear eM hbl vx;cases hfu:St.aU ah.length tx.length cuts.length true
  ·have cy:=aa hfu;clear hfu;go_wp2;go_ret2;exact yz bm.out hN'.out cy.out df.out (iv.out cy.out) h3 _ (by omega)
  have cy:=aa hfu;clear hfu;go_wp2;go_ret2;exact yA bm.out hN'.out cy.out df.out
 have hsl:=St.oj (r:=s.1.1.drop 1) gS dj;have hq1:preB ⟨#[34,34]⟩ s=false:=by rw[e1];exact St.uI (by intro e;rw[e]at gS;simp at gS)
 have hq2:preB ⟨#[123,123]⟩ s=false:=by rw[e2];exact St.uI (by intro e;rw[e]at dj;simp at dj)
 have d34:((s[0].toNat:Int)==34)=false:=by simp;omega
 have d123:((s[0].toNat:Int)==123)=false:=by simp;omega
 rw[<-hcr]at hsl;have bm:=aa hsl;rw[hq1]at hp1;rw[hq2]at hp2;have oG:=aa hp1;have gR:=aa hp2;clear hsl hp1 hp2 e1 e2 hq1 hq2 hcr hl h hN gS dj;go_enter Tryz.func173,Tryz.ntmps173;go_wp2_with fail;refine(oG.out _).mono ?_;rintro e w' ⟨rfl,rfl⟩;go_wp2_with fail;refine(gR.out _).mono ?_;rintro e w' ⟨rfl,rfl⟩;go_wp2_with fail;refine hby.out.mono ?_;rintro e w' ⟨rfl,eM,hbl⟩;have iv:=aa eM;have df:=aa hbl;clear eM hbl;cases hfu:St.aU ah.length tx.length cuts.length true
 ·have cy:=aa hfu;clear hfu;go_wp2;go_ret2;exact yz bm.out hN'.out cy.out df.out (iv.out cy.out) h3 _ (by omega)
 have cy:=aa hfu;clear hfu;go_wp2;go_ret2;exact yA bm.out hN'.out cy.out df.out
end
section
def gx(raw:ByteArray):List St.It × List Nat × Nat × Int:=St.dec St.cm raw.size raw.1.1 0 0 [] []
def qN(raw:ByteArray)(w:Ys)(e:Ending)(w':Ys):Prop:=
 ac w w'/\((∃ah tx cuts,e=Yp (Ym #[Yl (some ⟨w.1.size,0,none⟩),Yh Yn 0,Yh Yn 0])/\b8 w' w.1.size w.1.size ah tx cuts/\ah.length<=512/\cuts.length<=1024/\tx.length<=cuts.length/\gx raw=(ah++St.ch tx,cuts++[raw.size],0,0))\/
  ∃(a:Nat) (er:Int),er≠0/\e=Yp (Ym #[Yl none,Yh Yn a,Yh Yn er])/\gx raw=([],[],a,er))
def Gq(w:Ys)(raw:ByteArray)(s6:Value)(wr:Ys):Prop:=
 ∃(a:Nat) (ah:List St.It) (tx:List UInt8) (cuts:List Nat) (fuel:Nat),s6=Yh Yn a/\a<=raw.size/\raw.size-a<=fuel/\b8 wr w.1.size w.1.size ah tx cuts/\St.fG ah/\ah.length<=512/\cuts.length<=1024/\tx.length<=cuts.length /\
  gx raw=St.dec St.cm fuel (raw.1.1.drop a) a a (ah++St.ch tx) cuts/\ac w wr
theorem b8.fresh(w:Ys):b8 (w.alloc (.cells #[Yj none 0 0,Yj none 0 0,Yj none 0 0] 127)) w.1.size w.1.size [] [] []:=
 ⟨_,_,_,Nat.le_refl _,heap_alloc_new w _,World.ownsRow_nil _ _ _ _,World.ownsRow_nil _ _ _ _,World.ownsRow_nil _ _ _ _⟩
theorem ks(raw:ByteArray)(w:Ys)(hr:raw.size<=4611686018427387904):Calls Tryz.prog 127 #[Yi raw] w (qN raw w):=by
 have nZ:=aa (b8.fresh w);go_enter Tryz.func127,Tryz.ntmps127;go_wp2;go_loopw [6] (λs6 wr=>Gq w raw s6 wr) (λs6 _=>raw.size+1-(intOf s6).toNat)
 case atStart=>exact⟨0,[],[],[],raw.size,rfl,by omega,by omega,nZ.out,St.qc,by simp,by simp,by simp,by simp[gx,St.ch],uZ⟩
 case round=>
  obtain⟨a,ah,tx,cuts,fuel,rfl,ha,hfu,hB,hN,h1,h2,h3,hD,hu⟩:=hrel;clear nZ
  by_cases hlt:a<raw.size
  ·have hel:=kV wr w.1.size w.1.size ah tx cuts raw a hB hN h1 h2 h3 hu.size hlt hr;have jN:=aa hel;have HD:=aa hD;have HU:=aa hu
   have h0:raw.1.1.drop a≠[]:=by
    intro e;have:=congrArg List.length e
    simp at this;omega
   obtain⟨fuel,rfl⟩:∃m,fuel=m+1:=⟨fuel-1,by omega⟩;clear hel hB hN hD hu;go_wp2_with fail;refine jN.out.mono ?_;rintro e w2 ⟨hbl,hm⟩;have hu2:ac w w2:=ac.cn (Below.trans HU.out.below hbl);have aX:=aa hu2;clear hbl hu2;cases hs:St.cm (raw.1.1.drop a)with
   | none=>
    rw[hs]at hm;subst hm;have hd2:=HD.out.trans (St.oT fuel a a _ cuts h0 hs);have dt:=aa hd2;clear hd2 hs h0;go_wp2;go_ret3;exact⟨aX.out,.inr ⟨a,2,by decide,rfl,dt.out⟩⟩
   | some x=>
    obtain⟨k,t,n⟩:=x;rw[hs]at hm;simp only at hm;obtain⟨hk,gu,fe⟩:=St.ud hs;have gU:k≠0:=by omega
    split at hm
    ·rename_i hf
     subst hm;have hd2:=HD.out.trans (St.oS fuel a a _ cuts h0 hs gU hf);have dt:=aa hd2;clear hd2 hs h0 hf;go_wp2;go_ret3;exact⟨aX.out,.inr ⟨a,3,by decide,rfl,dt.out⟩⟩
    rename_i hf
    obtain⟨rfl,fD,jB,hB',hN',hadd,ht'⟩:=hm;have hd2:=HD.out.trans (St.oU fuel a a _ cuts h0 hs gU hf);rw[<-hadd]at hd2 hf;have jf:(raw.1.1.drop a).drop n=raw.1.1.drop (a+n):=by rw[List.drop_drop]
    rw[jf]at hd2;have pa:a+n<=raw.size:=by simp at fe;omega
    have Fu:fD.length<=512:=by have:=(not_or.1 hf).1;simp at this;omega
    have T1:cuts.length+1<=1024:=by have:=(not_or.1 hf).2;omega
    have HE:=aa (And.intro hd2 (And.intro hB' hN'));clear hd2 hB' hN' hadd hf hs h0 jf jN HD HU;go_wp2;exact⟨⟨a+n,fD,jB,cuts++[a],fuel,congrArg (Yh Yn) (by omega),pa,by omega,HE.out.2.1,HE.out.2.2,Fu,by simp;omega,by simp;omega,HE.out.1,aX.out⟩,by simp[intOf];omega⟩
  have xo:a=raw.size:=by omega
  subst xo;have hnil:raw.1.1.drop raw.size=[]:=List.drop_of_length_le (by simp);rw[hnil,St.qR]at hD;have HE:=aa (And.intro hu (And.intro hB hD));clear hlt hB hN hD hu hnil;go_wp2;go_ret3;exact⟨HE.out.1,.inl ⟨ah,tx,cuts,rfl,HE.out.2.1,h1,h2,h3,HE.out.2.2⟩⟩
def jX(R:List St.It × List Nat × Nat × Int)(w:Ys)(e:Ending)(w':Ys):Prop:=
 ∃(A:Option Addr) (c:Nat),e=Yp (Ym #[Yj A R.1.length c,Yh Yn (R.2.2.1:Int),Yh Yn R.2.2.2])/\aH w' A R.1/\R.1.length<=c/\c<=9223372036854775807/\ac w w'
def eV(R:List St.It × List Nat × Nat × Int)(w:Ys)(e:Ending)(w':Ys):Prop:=
 ∃(A:Option Addr) (c:Nat),e=Yp (Ym #[Yj A R.2.1.length c,Yh Yn R.2.2.2])/\iJ w' A R.2.1/\R.2.1.length<=c/\c<=9223372036854775807/\ac w w'
theorem zuw(raw:ByteArray)(w:Ys)(hr:raw.size<=4611686018427387904):Calls Tryz.prog 92 #[Yi raw] w (jX (gx raw) w):=by
 have HR:=aa (ks raw w hr);go_enter Tryz.func92,Tryz.ntmps92;go_wp2_with fail;refine HR.out.mono ?_;rintro e w2 ⟨hu,⟨ah,tx,cuts,rfl,hB,h1,h2,h3,hD⟩|⟨a,er,her,rfl,hD⟩⟩
 ·have HI:=aa (pZ w2 w.1.size w.1.size ah tx cuts hB (by omega) (by omega) hu.size);have HU:=aa hu;have HD:=aa hD;clear hu hB hD HR;go_wp2_with fail;refine HI.out.mono ?_;rintro e w3 ⟨A,c,rfl,hI,hc1,hc2,hbl⟩;have HE:=aa (And.intro hI (ac.cn (Below.trans HU.out.below hbl)));have o0:=aa hc1;clear hI hbl hc1;go_wp2;go_ret3;unfold jX;rw[HD.out];exact⟨A,c,by simp only[List.length_append];rfl,HE.out.1,o0.out,hc2,HE.out.2⟩
 have hb:(er==0)=false:=by simpa using her
 have HU:=aa hu;have HD:=aa hD;clear hu hD HR;go_wp2;go_ret3;unfold jX;rw[HD.out];exact⟨none,0,rfl,λh=>absurd h (by simp),by simp,by omega,HU.out⟩
theorem KI(raw:ByteArray)(w:Ys)(hr:raw.size<=4611686018427387904):Calls Tryz.prog 88 #[Yi raw] w (eV (gx raw) w):=by
 have HR:=aa (ks raw w hr);go_enter Tryz.func88,Tryz.ntmps88;go_wp2_with fail;refine HR.out.mono ?_;rintro e w2 ⟨hu,⟨ah,tx,cuts,rfl,hB,h1,h2,h3,hD⟩|⟨a,er,her,rfl,hD⟩⟩
 ·have HI:=aa (pO w2 w.1.size w.1.size ah tx cuts raw.size hB (by omega) hu.size);have HU:=aa hu;have HD:=aa hD;clear hu hB hD HR;go_wp2_with fail;refine HI.out.mono ?_;rintro e w3 ⟨A,c,rfl,hI,hc1,hc2,hbl⟩;have HE:=aa (And.intro hI (ac.cn (Below.trans HU.out.below hbl)));have o0:=aa hc1;clear hI hbl hc1;go_wp2;go_ret2;unfold eV;rw[HD.out];exact⟨A,c,by simp,HE.out.1,by simpa using o0.out,hc2,HE.out.2⟩
 have hb:(er==0)=false:=by simpa using her
 have HU:=aa hu;have HD:=aa hD;clear hu hD HR;go_wp2;go_ret2;unfold eV;rw[HD.out];exact⟨none,0,rfl,λh=>absurd h (by simp),by simp,by omega,HU.out⟩
end
section
namespace St
theorem py{c:UInt8}{r:List UInt8}(h:c.toNat≠34):bB (c :: r)=(bB r).map (·+1):=by
 rw[bB.eq_def];simp only;rw[if_neg h]
theorem sd{c d:UInt8}{r:List UInt8}(h:c.toNat=34)(h2:d.toNat=34):bB (c :: d :: r)=(bB r).map (·+2):=by
 rw[bB,if_pos h];show(if d.toNat=34 then _ else _)=_;rw[if_pos h2]
theorem sa{c d:UInt8}{r:List UInt8}(h:c.toNat=34)(h2:d.toNat≠34):bB (c :: d :: r)=some 1:=by
 rw[bB,if_pos h];show(if d.toNat=34 then _ else _)=_;rw[if_neg h2]
theorem qF{c:UInt8}(h:c.toNat=34):bB [c]=some 1:=by
 rw[bB,if_pos h]
theorem Ok(c:UInt8):Lib.indexByte [34,44,10] c<0 ↔ ft c=true:=by
 by_cases h1:c=34
 ·subst h1;decide
 by_cases h2:c=44
 ·subst h2;decide
 by_cases h3:c=10
 ·subst h3;decide
 have b1:((34:UInt8)==c)=false:=by simpa using λe=>h1 e.symm
 have b2:((44:UInt8)==c)=false:=by simpa using λe=>h2 e.symm
 have b3:((10:UInt8)==c)=false:=by simpa using λe=>h3 e.symm
 have hi:Lib.indexByte [34,44,10] c=-1:=by simp[Lib.indexByte,b1,b2,b3]
 have hb:ft c=true:=by
  unfold ft;rw[decide_eq_true_iff];exact⟨λe=>h1 (UInt8.toNat_inj.1 e),λe=>h2 (UInt8.toNat_inj.1 e),λe=>h3 (UInt8.toNat_inj.1 e)⟩
 rw[hi,hb];decide
theorem zX:cX []=some (0,false):=rfl
theorem yF{c:UInt8}{r:List UInt8}(h:c.toNat=34):cX (c :: r)=(match bB r with
   | none=>none
   | some n=>if ef (r.drop n)then some (n+1,true)else none):=by
 rw[cX,if_pos h];cases bB r<;>rfl
theorem uD{l:List UInt8}(h:∀c r,l=c :: r->c.toNat≠34):cX l=if ef (l.drop (l.takeWhile ft).length)then some ((l.takeWhile ft).length,false)else none:=by
 cases l with
 | nil=>rfl
 | cons c r=>rw[cX,if_neg (h c r rfl)]
end St
theorem GM{d:List UInt8}{a j:Nat}(h:St.cX (d.drop a)=(match St.bB (d.drop (a+1))with
   | none=>none
   | some n=>if St.ef ((d.drop (a+1)).drop n)then some (n+1,true)else none)) (hq:St.bB (d.drop (a+1))=some (j-a)) (hj:a+1<=j):St.cX (d.drop a)=if St.ef (d.drop (j+1))=true then some (j+1-a,true)else none:=by
 rw[h,hq];simp only[List.drop_drop];rw[show a+1+(j-a)=j+1 by omega,show j-a+1=j+1-a by omega]
def vc(l:List UInt8)(a:Nat)(w:Ys)(e:Ending)(w':Ys):Prop:=
 ac w w'/\match St.cX l with
  | none=>∃x y,e=Yp (Ym #[Yh Yn x,Yk y,Yk false])
  | some (k,q)=>e=Yp (Ym #[Yh Yn ((a+k:Nat):Int),Yk q,Yk true])
theorem eZ{l:List UInt8}{a k:Nat}{w w':Ys}{q b bb:Bool}{m:Int}(h:St.cX l=if bb=true then some (k,q)else none)(hb:bb=b)(hm:m=((a+k:Nat):Int))(hu:ac w w') :
  vc l a w (Yp (Ym #[Yh Yn m,Yk q,Yk b])) w':=by
 refine⟨hu,?_⟩;subst hb hm;rw[h];cases bb
 ·exact⟨_,_,rfl⟩
 rfl
def Qm(w:Ys)(d:ByteArray)(b:Nat)(s4:Value)(wr:Ys):Prop:=∃j:Nat,s4=Yh Yn j/\b<=j/\j<=d.size/\St.bB (d.1.1.drop b)=(St.bB (d.1.1.drop j)).map (·+(j-b))/\ac w wr
def K8(w:Ys)(d:ByteArray)(a:Nat)(s4:Value)(wr:Ys):Prop:=∃j:Nat,s4=Yh Yn j/\a<=j/\j<=d.size/\((d.1.1.drop a).takeWhile St.ft).length=(j-a)+((d.1.1.drop j).takeWhile St.ft).length/\ac w wr
theorem zW(d:ByteArray)(a:Nat)(w:Ys)(ha:a<=d.size)(hd:d.size<=4611686018427387904):Calls Tryz.prog 169 #[Yi d,Yh Yn a] w (vc (d.1.1.drop a) a w):=by
 by_cases hlt:a<d.size
 ·have av:=St.drop_at d a hlt
  by_cases gS:d[a].toNat=34
  ·have hF:=St.yF (r:=d.1.1.drop (a+1)) gS;rw[<-av]at hF;have HF:=aa hF;have z1:(a:Int)<d.size:=by omega
   clear hF av;go_enter Tryz.func169,Tryz.ntmps169;go_wp2;go_loopw [4] (λs4 wr=>Qm w d (a+1) s4 wr) (λs4 _=>d.size+1-(intOf s4).toNat)
   case atStart=>exact⟨a+1,congrArg (Yh Yn) (by omega),by omega,by omega,by cases St.bB (d.1.1.drop (a+1))<;>simp,ac.refl _⟩
   case round=>
    obtain⟨j,rfl,qX,mi,hq,hu⟩:=hrel;have HQ:=aa hq;have HU:=aa hu;clear hq hu
    by_cases hjl:j<d.size
    ·have gF:=St.drop_at d j hjl
     by_cases n8:d[j].toNat=34
     ·by_cases ir:j+1<d.size
      ·have o7:=St.drop_at d (j+1) ir
       by_cases AM:d[j+1].toNat=34
       ·have hs:=St.sd (r:=d.1.1.drop (j+1+1)) n8 AM;rw[<-o7,<-gF]at hs;have HS:=aa hs;have z2:(j:Int)<d.size:=by omega
        have z3:(j:Int)+1<d.size:=by omega
        clear hs gF o7 HF;go_wp2;refine⟨⟨j+2,congrArg (Yh Yn) (by omega),by omega,by omega,?_,HU.out⟩,by simp[intOf];omega⟩;rw[HQ.out,HS.out];cases St.bB (d.1.1.drop (j+1+1))with
        | none=>rfl
        | some n=>simp;omega
       have hs:=St.sa (r:=d.1.1.drop (j+1+1)) n8 AM;rw[<-o7,<-gF]at hs;have HS:=aa hs;have z2:(j:Int)<d.size:=by omega
       have z3:(j:Int)+1<d.size:=by omega
       have RH:((d[j+1].toNat:Int)==34)=false:=by simp;omega
       have hq2:St.bB (d.1.1.drop (a+1))=some (j-a):=by rw[HQ.out,HS.out];simp;omega
       have hf2:=aa (GM HF.out hq2 qX);have fb:St.ef (d.1.1.drop (j+1))=decide (d[j+1].toNat=44\/d[j+1].toNat=10):=by rw[o7];rfl
       have z4:(((j:Int)+1==(d.size:Int))=false):=by simp;omega
       clear hs gF o7 hlt gS HF HQ HS hq2;have HF:=hf2;clear hf2
       by_cases q8:d[j+1].toNat=44
       ·have xI:((d[j+1].toNat:Int)==44)=true:=by simp;omega
        have fa:=aa (show St.ef (d.1.1.drop (j+1))=true by rw[fb];simp[q8]);clear fb;go_wp2_with fail;go_region
        all_goals
         go_wp2;go_ret3;exact eZ HF.out fa.out (by omega) HU.out.drew
       have xI:((d[j+1].toNat:Int)==44)=false:=by simp;omega
       by_cases k10:d[j+1].toNat=10
       ·have m10:((d[j+1].toNat:Int)==10)=true:=by simp;omega
        have fa:=aa (show St.ef (d.1.1.drop (j+1))=true by rw[fb];simp[k10]);clear fb;go_wp2_with fail;go_region
        all_goals
         go_wp2;go_ret3;exact eZ HF.out fa.out (by omega) HU.out.drew
       have m10:((d[j+1].toNat:Int)==10)=false:=by simp;omega
       have fa:=aa (show St.ef (d.1.1.drop (j+1))=false by rw[fb];simp[q8,k10]);clear fb;go_wp2_with fail;go_region
       all_goals
        go_wp2;go_ret3;exact eZ HF.out fa.out (by omega) HU.out.drew
      have qY:j+1=d.size:=by omega
      have hnil:=St.fN d (j+1) (by omega);have hs:=St.qF n8;rw[hnil]at gF;rw[<-gF]at hs;have hq2:St.bB (d.1.1.drop (a+1))=some (j-a):=by rw[HQ.out,hs];simp;omega
      have hf2:=aa (GM HF.out hq2 qX);have fa:=aa (show St.ef (d.1.1.drop (j+1))=true by rw[hnil];rfl);have z2:(j:Int)<d.size:=by omega
      have z3:¬(j:Int)+1<d.size:=by omega
      have z4:(((j:Int)+1==(d.size:Int))=true):=by simp;omega
      clear hs gF hnil hlt gS HF HQ hq2 qY ir;have HF:=hf2;clear hf2;go_wp2_with fail;go_region
      all_goals
       go_wp2;go_ret3;exact eZ HF.out fa.out (by omega) HU.out.drew
     have hs:=St.py (r:=d.1.1.drop (j+1)) n8;rw[<-gF]at hs;have HS:=aa hs;have z2:(j:Int)<d.size:=by omega
     have RJ:((d[j].toNat:Int)==34)=false:=by simp;omega
     clear hs gF HF;go_wp2;refine⟨⟨j+1,congrArg (Yh Yn) (by omega),by omega,by omega,?_,HU.out⟩,by simp[intOf];omega⟩;rw[HQ.out,HS.out];cases St.bB (d.1.1.drop (j+1))with
     | none=>rfl
     | some n=>simp;omega
    have qY:j=d.size:=by omega
    subst qY;have hnil:d.1.1.drop d.size=[]:=List.drop_of_length_le (by simp);have hq2:St.bB (d.1.1.drop (a+1))=none:=by rw[HQ.out,hnil];rfl
    have P5:=aa hq2;clear hjl hq2 hnil;go_wp2;go_ret3;refine⟨HU.out,?_⟩;rw[HF.out,P5.out];exact⟨_,_,rfl⟩
  have Qq:((d[a].toNat:Int)==34)=false:=by simp;omega
  have wB:=aa (St.uD (l:=d.1.1.drop a) (λc r e=>by rw[av]at e;simp only[List.cons.injEq]at e;rw[<-e.1];exact gS));have z1:(a:Int)<d.size:=by omega
  clear av gS;go_enter Tryz.func169,Tryz.ntmps169;go_wp2;go_loopw [4] (λs4 wr=>K8 w d a s4 wr) (λs4 _=>d.size+1-(intOf s4).toNat)
  case atStart=>exact⟨a,rfl,by omega,by omega,by simp,ac.refl _⟩
  case round=>
   obtain⟨j,rfl,qX,mi,hq,hu⟩:=hrel;have HQ:=aa hq;have HU:=aa hu;clear hq hu
   by_cases hjl:j<d.size
   ·have gF:=St.drop_at d j hjl;have bP:=λW=>Tryz.strings_IndexByte ⟨#[34,44,10]⟩ (d[j].toNat:Int) W
    have hbk:((d[j].toNat:Int).toNat.toUInt8)=d[j]:=by simp
    have tO:=St.Ok d[j];rw[hbk,show(⟨#[34,44,10]⟩:ByteArray).1.1=[34,44,10]from rfl]at bP;generalize Lib.indexByte [34,44,10] d[j]=v at bP tO;have ep:=aa bP;have z2:(j:Int)<d.size:=by omega
    cases hbc:St.ft d[j]
    ·have hv:¬v<0:=λh=>by rw[tO.1 h]at hbc;cases hbc
     have ff:(d.1.1.drop j).takeWhile St.ft=[]:=by rw[gF,List.takeWhile_cons_of_neg (by simp[hbc])]
     have hlen:((d.1.1.drop a).takeWhile St.ft).length=j-a:=by rw[HQ.out,ff];simp
     have hf2:=wB.out;rw[hlen,List.drop_drop,show a+(j-a)=j by omega]at hf2;have HF:=aa hf2;have fb:St.ef (d.1.1.drop j)=decide (d[j].toNat=44\/d[j].toNat=10):=by rw[gF];rfl
     have z4:(((j:Int)==(d.size:Int))=false):=by simp;omega
     clear hf2 hlen ff gF bP hbk tO hbc;go_wp2_with fail;refine(ep.out _).mono ?_;rintro e w' ⟨rfl,rfl⟩
     by_cases q8:d[j].toNat=44
     ·have xI:((d[j].toNat:Int)==44)=true:=by simp;omega
      have fa:=aa (show St.ef (d.1.1.drop (j))=true by rw[fb];simp[q8]);clear fb;go_wp2_with fail;go_region
      all_goals
       go_wp2;go_ret3;exact eZ HF.out fa.out (by omega) HU.out.drew
     have xI:((d[j].toNat:Int)==44)=false:=by simp;omega
     by_cases k10:d[j].toNat=10
     ·have m10:((d[j].toNat:Int)==10)=true:=by simp;omega
      have fa:=aa (show St.ef (d.1.1.drop (j))=true by rw[fb];simp[k10]);clear fb;go_wp2_with fail;go_region
      all_goals
       go_wp2;go_ret3;exact eZ HF.out fa.out (by omega) HU.out.drew
     have m10:((d[j].toNat:Int)==10)=false:=by simp;omega
     have fa:=aa (show St.ef (d.1.1.drop (j))=false by rw[fb];simp[q8,k10]);clear fb;go_wp2_with fail;go_region
     all_goals
      go_wp2;go_ret3;exact eZ HF.out fa.out (by omega) HU.out.drew
    have hv:v<0:=tO.2 hbc;have ff:((d.1.1.drop j).takeWhile St.ft).length=((d.1.1.drop (j+1)).takeWhile St.ft).length+1:=by rw[gF,List.takeWhile_cons_of_pos hbc];simp
    have I0:=aa ff;clear ff gF bP hbk tO hbc;go_wp2_with fail;refine(ep.out _).mono ?_;rintro e w' ⟨rfl,rfl⟩;go_wp2;refine⟨⟨j+1,congrArg (Yh Yn) (by omega),by omega,by omega,?_,HU.out⟩,by simp[intOf];omega⟩;rw[HQ.out,I0.out];omega
   have qY:j=d.size:=by omega
   have hnil:=St.fN d j (by omega);have hlen:((d.1.1.drop a).takeWhile St.ft).length=j-a:=by rw[HQ.out,hnil];simp
   have hf2:=wB.out;rw[hlen,List.drop_drop,show a+(j-a)=j by omega]at hf2;have HF:=aa hf2;have fa:=aa (show St.ef (d.1.1.drop j)=true by rw[hnil];rfl);have z2:¬(j:Int)<d.size:=by omega
   have z4:(((j:Int)==(d.size:Int))=true):=by simp;omega
   clear hf2 hlen hnil qY hjl HQ;go_wp2_with fail;go_region
   all_goals
    go_wp2;go_ret3;exact eZ HF.out fa.out (by omega) HU.out.drew
 have N2:=St.fN d a (by omega);have wB:=aa (St.uD (l:=d.1.1.drop a) (λc r e=>by rw[N2]at e;cases e));have z1:¬(a:Int)<d.size:=by omega
 clear N2;go_enter Tryz.func169,Tryz.ntmps169;go_wp2;go_loopw [4] (λs4 wr=>K8 w d a s4 wr) (λs4 _=>d.size+1-(intOf s4).toNat)
 case atStart=>exact⟨a,rfl,by omega,by omega,by simp,ac.refl _⟩
 case round=>
  obtain⟨j,rfl,qX,mi,hq,hu⟩:=hrel;have HQ:=aa hq;have HU:=aa hu;clear hq hu
  by_cases hjl:j<d.size
  ·exact absurd hjl (by omega)
  have qY:j=d.size:=by omega
  have hnil:=St.fN d j (by omega);have hlen:((d.1.1.drop a).takeWhile St.ft).length=j-a:=by rw[HQ.out,hnil];simp
  have hf2:=wB.out;rw[hlen,List.drop_drop,show a+(j-a)=j by omega]at hf2;have HF:=aa hf2;have fa:=aa (show St.ef (d.1.1.drop j)=true by rw[hnil];rfl);have z2:¬(j:Int)<d.size:=by omega
  have z4:(((j:Int)==(d.size:Int))=true):=by simp;omega
  clear hf2 hlen hnil qY hjl HQ;go_wp2_with fail;go_region
  all_goals
   go_wp2;go_ret3;exact eZ HF.out fa.out (by omega) HU.out.drew
end
section
def TV(w:Ys)(tb pb:Nat)(d:ByteArray)(r bc au texts:Nat):Prop:=
 w.1[tb]?=some (Obj.cells #[Yi d,Yl (some ⟨pb,0,none⟩),Yh Yn r,Yh Yn bc,Yh Yn au,Yh Yn texts] 174 (0,0))
theorem TV.ai{a c:Ys}{tb pb:Nat}{d:ByteArray}{r bc au texts:Nat}(h:TV a tb pb d r bc au texts)(u:ac a c):TV c tb pb d r bc au texts:=(u.below.block tb (ae h)).trans h
theorem TV.tk{a c:Ys}{tb pb:Nat}{d:ByteArray}{r bc au texts:Nat}(h:TV a tb pb d r bc au texts)(u:eJ nR a c):TV c tb pb d r bc au texts:=(u.2 tb _ _ _ h (by simp[nR])).trans h
theorem PV.RX{a c:Ys}{B pb tb:Nat}{d:ByteArray}{s:St.PS}{r bc au texts WK:Nat}{d':ByteArray}(h:PV a B pb d s)(ht:TV a tb WK d' r bc au texts)(g:a.grownBy c (some tb)):PV c B pb d s:=by
 obtain⟨h0,v,h1,h2⟩:=h
 have hne:pb≠tb:=λe=>by
  subst e;unfold TV at ht;rw[h1]at ht;simp at ht
 exact⟨h0,v,(g.block pb (ae h1) (by simpa using hne)).trans h1,h2.kept g (Or.inr (aT h2 ht (by decide)))⟩
def qg:ByteArray:=⟨#[116,101,120,116]⟩
theorem G7(w:Ys)(tb pb:Nat)(d:ByteArray)(bc au texts a b n:Nat)(h:TV w tb pb d 0 bc au texts)(hab:a<=b)(hb:b<=d.size)(hd:d.size<=4611686018427387904)(hn:n<=4611686018427387904)(ht:texts<=4611686018427387904) :
  Calls Tryz.prog 170 #[Yl (some ⟨tb,0,none⟩),Yh Yn a,Yh Yn b,Yh Yn n] w λe w'=>e=Yp (Ym #[]) /\
   TV w' tb pb d 0 (n+1) (if St.a6 d.1.1 a b==[116,101,120,116]then n else au) (if St.a6 d.1.1 a b==[116,101,120,116]then texts+1 else texts)/\w.grownBy w' (some tb):=by
 have hv:=h;unfold TV at hv;have c0:w.cell? ⟨tb,0,none⟩=some (Yi d):=aj hv 0;have c3:w.cell? ⟨tb,3,none⟩=some (Yh Yn bc):=aj hv 3;have c4:w.cell? ⟨tb,4,none⟩=some (Yh Yn au):=aj hv 4;have c5:w.cell? ⟨tb,5,none⟩=some (Yh Yn texts):=aj hv 5;have f3:w.frozen? ⟨tb,3,none⟩=false:=bz hv 3;have f4:w.frozen? ⟨tb,4,none⟩=false:=bz hv 4;have f5:w.frozen? ⟨tb,5,none⟩=false:=bz hv 5;haveI:af tb w:=af.of (ae hv);have HV:=aa hv;rw[<-eR];obtain⟨s,hE⟩:∃s,d.extract a b=s:=⟨_,rfl⟩;rw[hE];have za:(0:Int)<=a:=by omega
 have Yf:(a:Int)<=b:=by omega
 have zb:(b:Int)<=d.size:=by omega
 by_cases hs:s=qg
 ·subst hs;unfold qg at hE;have hif:((qg.1.1==[116,101,120,116])=true):=rfl;rw[if_pos hif,if_pos hif];clear hv h;go_enter Tryz.func170,Tryz.ntmps170;go_wp2;go_end0;refine⟨rfl,?_,bQ (bQ (cJ w ⟨tb,5,none⟩ _) ⟨tb,4,none⟩ _ (Or.inl rfl)) ⟨tb,3,none⟩ _ (Or.inl rfl)⟩;exact heap_setCell_same _ tb 3 _ _ _ (heap_setCell_same _ tb 4 _ _ _ (heap_setCell_same _ tb 5 _ _ _ HV.out))
 have hif:¬((s.1.1==[116,101,120,116])=true):=by
  intro e;exact hs (tm _ _ (show s.1.1=qg.1.1 from eq_of_beq e))
 rw[if_neg hif,if_neg hif];have hne:(s.toList==[116,101,120,116])=false:=by rw[Lib.toList_data];exact Bool.eq_false_iff.2 hif
 clear hv h hif hs;go_enter Tryz.func170,Tryz.ntmps170;go_wp2;go_end0;exact⟨rfl,heap_setCell_same _ tb 3 _ _ _ HV.out,cJ w ⟨tb,3,none⟩ _⟩
end
end Go.Proofs.YthoemdibbldndaaGreatDoor.Sh
