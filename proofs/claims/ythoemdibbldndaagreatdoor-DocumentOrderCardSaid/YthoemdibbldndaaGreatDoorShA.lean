/- The contract of sheet's element: what it gives is St.sheetL, behind the builder's limits. -/
import Derived.Test.YthoemdibbldndaaGreatDoorGC
import Derived.Test.YthoemdibbldndaaGreatDoorShelf
set_option linter.all false
set_option maxHeartbeats 0
set_option maxRecDepth 20000
open Go.Value renaming int->Yp,string->Yq,slice->Yr,bool->Ys,pointer->Yt,tuple->Yu
open Go.IntKind renaming i64->Yv
open Go.Ending renaming returned->Yx
open Go renaming World->YA
namespace Go.Proofs.YthoemdibbldndaaGreatDoor.Sh
open Go.RowKit Go.Proofs.YthoemdibbldndaaGreatDoor.St
section
abbrev ci (w:YA) (B b:Nat) (ah:List St.It) (tx:List UInt8) (cuts:List Nat):Prop:=_root_.Go.Proofs.YthoemdibbldndaaGreatDoor.ci 127 [] w B b ah tx cuts
instance:vR 127:=⟨by decide⟩
theorem If(s t:ByteArray)(w:YA)(hs:s.size<=9223372036854775807)(ht:t.size<=9223372036854775807):Calls Tryz.prog 192 #[Yq s,Yq t] w λe w'=>e=Yx (Ys (preB t s))/\w=w':=by
 by_cases h:t.size<=s.size
 ·have z:(t.size:Int)<=(s.size:Int):=by omega
  go_enter Tryz.func192,Tryz.ntmps192;go_wp2;go_ret;refine⟨az ?_,rfl⟩;unfold preB;rw[Lib.toList_data,Lib.toList_data,Lib.extract_data,<-St.ng];simp
 have z:¬(t.size:Int)<=(s.size:Int):=by omega
 have H:=aa h;clear h;go_enter Tryz.func192,Tryz.ntmps192;go_wp2;go_ret;have hz:preB t s=false:=St.wJ _ _ (by have:=H.out;simp;omega);exact⟨az hz.symm,rfl⟩
theorem tf(s t:ByteArray)(w:YA)(hs:s.size<=9223372036854775807)(ht:t.size<=9223372036854775807):Calls Tryz.prog 165 #[Yq s,Yq t] w λe w'=>e=Yx (Ys (preB t s))/\w=w':=by
 have H:=aa (If s t w hs ht);go_enter Tryz.func165,Tryz.ntmps165;go_wp2_with fail;refine H.out.mono ?_;rintro e w' ⟨rfl,rfl⟩;go_wp2;go_ret;exact⟨rfl,rfl⟩
def uV(w:YA)(B b:Nat)(ah:List St.It)(tx:List UInt8)(cuts:List Nat)(l:List UInt8)(a:Nat)(e:Ending)(w':YA):Prop:=
 Below B w w'/\match St.cx l with
  | none=>e=Yx (Yu #[Yp Yv a,Yp Yv 2])
  | some (k,t,n)=>if 512<(St.aK (ah++St.cm tx) (k,t,0)).length\/1024<=cuts.length then e=Yx (Yu #[Yp Yv a,Yp Yv 3])else
    e=Yx (Yu #[Yp Yv ((a+n:Nat):Int),Yp Yv 0])/\∃fI jG,ci w' B b fI jG (cuts++[a])/\St.fK fI/\fI++St.cm jG=St.aK (ah++St.cm tx) (k,t,0)/\jG.length<=cuts.length+1
theorem Dc{w:YA}{B b:Nat}{ah:List St.It}{tx:List UInt8}{cuts:List Nat}{l:List UInt8}{a:Nat}{w':YA}(h:St.cx l=none)(hb:Below B w w'):uV w B b ah tx cuts l a (Yx (Yu #[Yp Yv a,Yp Yv 2])) w':=by
 refine⟨hb,?_⟩;rw[h]
theorem zr{w:YA}{B b:Nat}{ah:List St.It}{tx:List UInt8}{cuts:List Nat}{l:List UInt8}{a n:Nat}{c:UInt8}{w':YA}(h:St.cx l=some (1,[c],n))(hN:St.fK ah)(hf:St.aT ah.length tx.length cuts.length true=true)(hb:Below B w w') :
  uV w B b ah tx cuts l a (Yx (Yu #[Yp Yv a,Yp Yv 3])) w':=by
 refine⟨hb,?_⟩;rw[h];simp only;rw[if_pos ((St.lQ hN c cuts.length).2 hf)];trivial
theorem zo{w:YA}{B b:Nat}{ah:List St.It}{tx:List UInt8}{cuts:List Nat}{l:List UInt8}{a n:Nat}{c:UInt8}{w':YA}(h:St.cx l=some (1,[c],n))(hN:St.fK ah)(hf:St.aT ah.length tx.length cuts.length true=false)(hb:Below B w w')
  (hB:ci w' B b ah (tx++[c]) (cuts++[a])) (ht:tx.length<=cuts.length) (m:Int) (hm:m=((a+n:Nat):Int)):uV w B b ah tx cuts l a (Yx (Yu #[Yp Yv m,Yp Yv 0])) w':=by
 refine⟨hb,?_⟩;rw[h];simp only;rw[if_neg (λh2=>by rw[(St.lQ hN c cuts.length).1 h2]at hf;cases hf),hm];exact⟨rfl,ah,tx++[c],hB,hN,(St.rQ hN c).symm,by simp;omega⟩
theorem Ml{w:YA}{B b:Nat}{ah:List St.It}{tx:List UInt8}{cuts:List Nat}{l:List UInt8}{a n:Nat}{t:List UInt8}{w':YA}(h:St.cx l=some (5,t,n))(hf:St.aT ah.length tx.length cuts.length false=true)(hb:Below B w w') :
  uV w B b ah tx cuts l a (Yx (Yu #[Yp Yv a,Yp Yv 3])) w':=by
 refine⟨hb,?_⟩;rw[h];simp only;rw[if_pos ((St.kc 5 t cuts.length (by decide)).2 hf)];trivial
theorem O7{w:YA}{B b:Nat}{ah:List St.It}{tx:List UInt8}{cuts:List Nat}{l:List UInt8}{a n:Nat}{t:List UInt8}{w':YA}(h:St.cx l=some (5,t,n))(hf:St.aT ah.length tx.length cuts.length false=false)(hb:Below B w w')
  (hB:ci w' B b (ah++St.cm tx++[(5,t,0)]) [] (cuts++[a])) (m:Int) (hm:m=((a+n:Nat):Int)):uV w B b ah tx cuts l a (Yx (Yu #[Yp Yv m,Yp Yv 0])) w':=by
 refine⟨hb,?_⟩;rw[h];simp only;rw[if_neg (λh2=>by rw[(St.kc 5 t cuts.length (by decide)).1 h2]at hf;cases hf),hm];exact⟨rfl,_,[],hB,St.my _ 5 t 0 (by decide),by rw[St.rR 5 t (by decide)];simp[St.cm],by simp⟩
end
section
theorem lf(w:YA)(B b:Nat)(ah:List St.It)(tx:List UInt8)(cuts:List Nat)(raw:ByteArray)(a:Nat)(h:ci w B b ah tx cuts)(hN:St.fK ah)(h1:ah.length<=512)(h2:cuts.length<=1024)(h3:tx.length<=cuts.length)(hBw:B<=w.1.size)
  (ha:a<raw.size) (hr:raw.size<=4611686018427387904) :
  Calls Tryz.prog 173 #[Yt (some ⟨b,0,none⟩),Yq raw,Yp Yv a] w (uV w B b ah tx cuts (raw.1.1.drop a) a):=by
 obtain⟨s,hE⟩:∃s,raw.extract a raw.size=s:=⟨_,rfl⟩;have hsz:s.size=raw.size-a:=by rw[<-hE];simp
 have hs0:0<s.size:=by omega
 have hl:s.1.1=raw.1.1.drop a:=by rw[<-hE];simp;exact List.take_of_length_le (by simp)
 rw[<-hl];have hcr:s.1.1=s[0] :: s.1.1.drop 1:=St.fF s hs0;have hp1:=λW=>tf s ⟨#[34,34]⟩ W (by omega) (by show 2<=_;omega)
 have hp2:=λW=>tf s ⟨#[123,123]⟩ W (by omega) (by show 2<=_;omega)
 have e1:preB ⟨#[34,34]⟩ s=([34,34]:List UInt8).isPrefixOf (s[0] :: s.1.1.drop 1):=by unfold preB;rw[<-hcr]
 have e2:preB ⟨#[123,123]⟩ s=([123,123]:List UInt8).isPrefixOf (s[0] :: s.1.1.drop 1):=by unfold preB;rw[<-hcr]
 have hby:=aa (oR w B b ah tx cuts s[0] a h (by omega) (by omega) (by omega) hBw);have ha1:(a:Int)<=raw.size:=by omega
 have ha2:¬raw.size<a:=by omega
 have hN':=aa hN
 by_cases gZ:s[0].toNat=34
 ·have hsl:=St.sO (r:=s.1.1.drop 1) gZ;have hq2:preB ⟨#[123,123]⟩ s=false:=by rw[e2];exact St.vf (by intro e;rw[e]at gZ;simp at gZ)
  have QN:((s[0].toNat:Int)==34)=true:=by simp;omega
  rw[<-e1,<-hcr]at hsl;cases hq1:preB ⟨#[34,34]⟩ s
  ·rw[hq1]at hsl;have bB:=aa hsl;rw[hq1]at hp1;rw[hq2]at hp2;have oK:=aa hp1;have fS:=aa hp2;clear hsl hp1 hp2 e1 e2 hq1 hq2 hcr hl h hN;go_enter Tryz.func173,Tryz.ntmps173;go_wp2_with fail;refine(oK.out _).mono ?_;rintro e w' ⟨rfl,rfl⟩;go_wp2_with fail;refine(fS.out _).mono ?_;rintro e w' ⟨rfl,rfl⟩;go_wp2;go_ret2;exact Dc bB.out (Below.refl _ _)
  rw[hq1]at hsl;have bB:=aa hsl;rw[hq1]at hp1;have oK:=aa hp1;clear hsl hp1 hp2 e1 e2 hq1 hq2 hcr hl h hN;go_enter Tryz.func173,Tryz.ntmps173;go_wp2_with fail;refine(oK.out _).mono ?_;rintro e w' ⟨rfl,rfl⟩;go_wp2_with fail;have wg:=hby.out;rw[gZ,show((34:Nat):Int)=34 from rfl]at wg;refine wg.mono ?_;rintro e w' ⟨rfl,eT,hbl⟩;have iE:=aa eT;have dd:=aa hbl;clear eT hbl wg;cases hfu:St.aT ah.length tx.length cuts.length true
  ·have cC:=aa hfu;clear hfu;go_wp2;go_ret2;exact zo bB.out hN'.out cC.out dd.out (iE.out cC.out) h3 _ (by omega)
  have cC:=aa hfu;clear hfu;go_wp2;go_ret2;exact zr bB.out hN'.out cC.out dd.out
 by_cases dh:s[0].toNat=123
 ·have hsl:=St.qv (r:=s.1.1.drop 1) dh;have hq1:preB ⟨#[34,34]⟩ s=false:=by rw[e1];exact St.vf (by intro e;rw[e]at dh;simp at dh)
  rw[<-e2,<-hcr]at hsl;cases hq2:preB ⟨#[123,123]⟩ s
  ·rw[hq2]at hsl;simp only[Bool.false_eq_true,if_false]at hsl;rw[hq1]at hp1;rw[hq2]at hp2;have oK:=aa hp1;have fS:=aa hp2;have bS:=λW=>Tryz.strings_IndexByte s 125 W
   have me:(125:Int).toNat.toUInt8=125:=rfl;rw[me,hcr]at bS;rcases St.rK (r:=s.1.1.drop 1) dh with⟨hi,hs⟩|⟨n,hi,hn,fi,hs⟩
   ·rw[hi]at bS;rw[<-hcr]at hs;rw[hs]at hsl;have bB:=aa hsl;have ey:=aa bS;clear hsl hp1 hp2 e1 e2 hq1 hq2 hcr hl h hN bS hi hs me;go_enter Tryz.func173,Tryz.ntmps173;go_wp2_with fail;refine(oK.out _).mono ?_;rintro e w' ⟨rfl,rfl⟩;go_wp2_with fail;refine(fS.out _).mono ?_;rintro e w' ⟨rfl,rfl⟩;go_wp2_with fail;refine(ey.out _).mono ?_;rintro e w' ⟨rfl,rfl⟩;go_wp2;go_ret2;exact Dc bB.out (Below.refl _ _)
   rw[hi]at bS;have hns:n+1<s.size:=by rw[<-hcr]at hn;simpa using hn
   obtain⟨x,hX⟩:∃x,s.extract 1 (n+1)=x:=⟨_,rfl⟩;have hxl:x.1.1=(s.1.1.drop 1).take n:=by rw[<-hX];simp
   have hxs:x.size<=s.size:=by rw[<-hX];simp;omega
   have bh:=λW=>kI x W (by omega)
   rw[<-hcr,<-hxl]at hs;have z1:(1:Int)<=(n:Int)+1:=by omega
   have z2:(n:Int)+1<=s.size:=by omega
   have z3:¬(n:Int)+1<0:=by omega
   cases hnb:St.aF x.1.1
   ·rw[hnb]at hs bh;simp only[Bool.false_eq_true,if_false]at hs;rw[hs]at hsl;have bB:=aa hsl;have ey:=aa bS;have bz:=aa bh;clear hsl hp1 hp2 e1 e2 hq1 hq2 hcr hl h hN bS hi hs me hn fi bh hnb hxl;go_enter Tryz.func173,Tryz.ntmps173;go_wp2_with fail;refine(oK.out _).mono ?_;rintro e w' ⟨rfl,rfl⟩;go_wp2_with fail;refine(fS.out _).mono ?_;rintro e w' ⟨rfl,rfl⟩;go_wp2_with fail;refine(ey.out _).mono ?_;rintro e w' ⟨rfl,rfl⟩;go_wp2_with fail;refine(bz.out _).mono ?_;rintro e w' ⟨rfl,rfl⟩;go_wp2;go_ret2;exact Dc bB.out (Below.refl _ _)
   rw[hnb]at hs bh;simp only[if_true]at hs;rw[hs]at hsl;simp only[Option.map_some]at hsl;have bB:=aa hsl;have ey:=aa bS;have bz:=aa bh;have hit:=aa (lA w B b ah tx cuts 5 0 x a h (by omega) (by omega) (by omega) hBw);clear hsl hp1 hp2 e1 e2 hq1 hq2 hcr hl h hN bS hi hs me hn fi bh hnb hxl;go_enter Tryz.func173,Tryz.ntmps173;go_wp2_with fail;refine(oK.out _).mono ?_;rintro e w' ⟨rfl,rfl⟩;go_wp2_with fail;refine(fS.out _).mono ?_;rintro e w' ⟨rfl,rfl⟩;go_wp2_with fail;refine(ey.out _).mono ?_;rintro e w' ⟨rfl,rfl⟩;go_wp2_with fail;refine(bz.out _).mono ?_;rintro e w' ⟨rfl,rfl⟩;go_wp2_with fail;refine hit.out.mono ?_;rintro e w' ⟨rfl,eT,hbl⟩;have iE:=aa eT;have dd:=aa hbl;clear eT hbl;cases hfu:St.aT ah.length tx.length cuts.length false
   ·have cC:=aa hfu;clear hfu;go_wp2;go_ret2;exact O7 bB.out cC.out dd.out (iE.out cC.out) _ (by omega)
   have cC:=aa hfu;clear hfu;go_wp2;go_ret2;exact Ml bB.out cC.out dd.out
  rw[hq2]at hsl;have bB:=aa hsl;rw[hq1]at hp1;rw[hq2]at hp2;have oK:=aa hp1;have fS:=aa hp2;clear hsl hp1 hp2 e1 e2 hq1 hq2 hcr hl h hN;go_enter Tryz.func173,Tryz.ntmps173;go_wp2_with fail;refine(oK.out _).mono ?_;rintro e w' ⟨rfl,rfl⟩;go_wp2_with fail;refine(fS.out _).mono ?_;rintro e w' ⟨rfl,rfl⟩;go_wp2_with fail;have wg:=hby.out;rw[dh,show((123:Nat):Int)=123 from rfl]at wg;refine wg.mono ?_;rintro e w' ⟨rfl,eT,hbl⟩;have iE:=aa eT;have dd:=aa hbl;clear eT hbl wg;cases hfu:St.aT ah.length tx.length cuts.length true
  ·have cC:=aa hfu;clear hfu;go_wp2;go_ret2;exact zo bB.out hN'.out cC.out dd.out (iE.out cC.out) h3 _ (by omega)
  have cC:=aa hfu;clear hfu;go_wp2;go_ret2;exact zr bB.out hN'.out cC.out dd.out
 have hsl:=St.ov (r:=s.1.1.drop 1) gZ dh;have hq1:preB ⟨#[34,34]⟩ s=false:=by rw[e1];exact St.vf (by intro e;rw[e]at gZ;simp at gZ)
 have hq2:preB ⟨#[123,123]⟩ s=false:=by rw[e2];exact St.vf (by intro e;rw[e]at dh;simp at dh)
 have d34:((s[0].toNat:Int)==34)=false:=by simp;omega
 have d123:((s[0].toNat:Int)==123)=false:=by simp;omega
 rw[<-hcr]at hsl;have bB:=aa hsl;rw[hq1]at hp1;rw[hq2]at hp2;have oK:=aa hp1;have fS:=aa hp2;clear hsl hp1 hp2 e1 e2 hq1 hq2 hcr hl h hN gZ dh;go_enter Tryz.func173,Tryz.ntmps173;go_wp2_with fail;refine(oK.out _).mono ?_;rintro e w' ⟨rfl,rfl⟩;go_wp2_with fail;refine(fS.out _).mono ?_;rintro e w' ⟨rfl,rfl⟩;go_wp2_with fail;refine hby.out.mono ?_;rintro e w' ⟨rfl,eT,hbl⟩;have iE:=aa eT;have dd:=aa hbl;clear eT hbl;cases hfu:St.aT ah.length tx.length cuts.length true
 ·have cC:=aa hfu;clear hfu;go_wp2;go_ret2;exact zo bB.out hN'.out cC.out dd.out (iE.out cC.out) h3 _ (by omega)
 have cC:=aa hfu;clear hfu;go_wp2;go_ret2;exact zr bB.out hN'.out cC.out dd.out
end
section
def gC(raw:ByteArray):List St.It × List Nat × Nat × Int:=St.dec St.cx raw.size raw.1.1 0 0 [] []
def qZ(raw:ByteArray)(w:YA)(e:Ending)(w':YA):Prop:=
 ac w w'/\((∃ah tx cuts,e=Yx (Yu #[Yt (some ⟨w.1.size,0,none⟩),Yp Yv 0,Yp Yv 0])/\ci w' w.1.size w.1.size ah tx cuts/\ah.length<=512/\cuts.length<=1024/\tx.length<=cuts.length/\gC raw=(ah++St.cm tx,cuts++[raw.size],0,0))\/
  ∃(a:Nat) (er:Int),er≠0/\e=Yx (Yu #[Yt none,Yp Yv a,Yp Yv er])/\gC raw=([],[],a,er))
def Hg(w:YA)(raw:ByteArray)(s6:Value)(wr:YA):Prop:=
 ∃(a:Nat) (ah:List St.It) (tx:List UInt8) (cuts:List Nat) (fuel:Nat),s6=Yp Yv a/\a<=raw.size/\raw.size-a<=fuel/\ci wr w.1.size w.1.size ah tx cuts/\St.fK ah/\ah.length<=512/\cuts.length<=1024/\tx.length<=cuts.length /\
  gC raw=St.dec St.cx fuel (raw.1.1.drop a) a a (ah++St.cm tx) cuts/\ac w wr
theorem ci.fresh(w:YA):ci (w.alloc (.cells #[Yr none 0 0,Yr none 0 0,Yr none 0 0] 127)) w.1.size w.1.size [] [] []:=
 ⟨_,_,_,Nat.le_refl _,heap_alloc_new w _,World.ownsRow_nil _ _ _ _,World.ownsRow_nil _ _ _ _,World.ownsRow_nil _ _ _ _⟩
theorem kt(raw:ByteArray)(w:YA)(hr:raw.size<=4611686018427387904):Calls Tryz.prog 127 #[Yq raw] w (qZ raw w):=by
 have n6:=aa (ci.fresh w);go_enter Tryz.func127,Tryz.ntmps127;go_wp2;go_loopw [6] (λs6 wr=>Hg w raw s6 wr) (λs6 _=>raw.size+1-(intOf s6).toNat)
 case atStart=>exact⟨0,[],[],[],raw.size,rfl,by omega,by omega,n6.out,St.qm,by simp,by simp,by simp,by simp[gC,St.cm],uZ⟩
 case round=>
  obtain⟨a,ah,tx,cuts,fuel,rfl,ha,hfu,hB,hN,h1,h2,h3,hD,hu⟩:=hrel;clear n6
  by_cases hlt:a<raw.size
  ·have hel:=lf wr w.1.size w.1.size ah tx cuts raw a hB hN h1 h2 h3 hu.size hlt hr;have jR:=aa hel;have HD:=aa hD;have HU:=aa hu
   have h0:raw.1.1.drop a≠[]:=by
    intro e;have:=congrArg List.length e
    simp at this;omega
   obtain⟨fuel,rfl⟩:∃m,fuel=m+1:=⟨fuel-1,by omega⟩;clear hel hB hN hD hu;go_wp2_with fail;refine jR.out.mono ?_;rintro e w2 ⟨hbl,hm⟩;have hu2:ac w w2:=ac.cy (Below.trans HU.out.below hbl);have aX:=aa hu2;clear hbl hu2;cases hs:St.cx (raw.1.1.drop a)with
   | none=>
    rw[hs]at hm;subst hm;have hd2:=HD.out.trans (St.oX fuel a a _ cuts h0 hs);have du:=aa hd2;clear hd2 hs h0;go_wp2;go_ret3;exact⟨aX.out,.inr ⟨a,2,by decide,rfl,du.out⟩⟩
   | some x=>
    obtain⟨k,t,n⟩:=x;rw[hs]at hm;simp only at hm;obtain⟨hk,jk,fD⟩:=St.uK hs;have ic:k≠0:=by omega
    split at hm
    ·rename_i hf
     subst hm;have hd2:=HD.out.trans (St.oW fuel a a _ cuts h0 hs ic hf);have du:=aa hd2;clear hd2 hs h0 hf;go_wp2;go_ret3;exact⟨aX.out,.inr ⟨a,3,by decide,rfl,du.out⟩⟩
    rename_i hf
    obtain⟨rfl,fI,jG,hB',hN',hadd,ht'⟩:=hm;have hd2:=HD.out.trans (St.oY fuel a a _ cuts h0 hs ic hf);rw[<-hadd]at hd2 hf;have jj:(raw.1.1.drop a).drop n=raw.1.1.drop (a+n):=by rw[List.drop_drop]
    rw[jj]at hd2;have ph:a+n<=raw.size:=by simp at fD;omega
    have Ge:fI.length<=512:=by have:=(not_or.1 hf).1;simp at this;omega
    have Ui:cuts.length+1<=1024:=by have:=(not_or.1 hf).2;omega
    have HE:=aa (And.intro hd2 (And.intro hB' hN'));clear hd2 hB' hN' hadd hf hs h0 jj jR HD HU;go_wp2;exact⟨⟨a+n,fI,jG,cuts++[a],fuel,congrArg (Yp Yv) (by omega),ph,by omega,HE.out.2.1,HE.out.2.2,Ge,by simp;omega,by simp;omega,HE.out.1,aX.out⟩,by simp[intOf];omega⟩
  have xT:a=raw.size:=by omega
  subst xT;have hnil:raw.1.1.drop raw.size=[]:=List.drop_of_length_le (by simp);rw[hnil,St.rj]at hD;have HE:=aa (And.intro hu (And.intro hB hD));clear hlt hB hN hD hu hnil;go_wp2;go_ret3;exact⟨HE.out.1,.inl ⟨ah,tx,cuts,rfl,HE.out.2.1,h1,h2,h3,HE.out.2.2⟩⟩
def j2(R:List St.It × List Nat × Nat × Int)(w:YA)(e:Ending)(w':YA):Prop:=
 ∃(A:Option Addr) (c:Nat),e=Yx (Yu #[Yr A R.1.length c,Yp Yv (R.2.2.1:Int),Yp Yv R.2.2.2])/\aJ w' A R.1/\R.1.length<=c/\c<=9223372036854775807/\ac w w'
def eY(R:List St.It × List Nat × Nat × Int)(w:YA)(e:Ending)(w':YA):Prop:=
 ∃(A:Option Addr) (c:Nat),e=Yx (Yu #[Yr A R.2.1.length c,Yp Yv R.2.2.2])/\iP w' A R.2.1/\R.2.1.length<=c/\c<=9223372036854775807/\ac w w'
theorem vG(raw:ByteArray)(w:YA)(hr:raw.size<=4611686018427387904):Calls Tryz.prog 92 #[Yq raw] w (j2 (gC raw) w):=by
 have HR:=aa (kt raw w hr);go_enter Tryz.func92,Tryz.ntmps92;go_wp2_with fail;refine HR.out.mono ?_;rintro e w2 ⟨hu,⟨ah,tx,cuts,rfl,hB,h1,h2,h3,hD⟩|⟨a,er,her,rfl,hD⟩⟩
 ·have HI:=aa (qi w2 w.1.size w.1.size ah tx cuts hB (by omega) (by omega) hu.size);have HU:=aa hu;have HD:=aa hD;clear hu hB hD HR;go_wp2_with fail;refine HI.out.mono ?_;rintro e w3 ⟨A,c,rfl,hI,hc1,hc2,hbl⟩;have HE:=aa (And.intro hI (ac.cy (Below.trans HU.out.below hbl)));have pd:=aa hc1;clear hI hbl hc1;go_wp2;go_ret3;unfold j2;rw[HD.out];exact⟨A,c,by simp only[List.length_append];rfl,HE.out.1,pd.out,hc2,HE.out.2⟩
 have hb:(er==0)=false:=by simpa using her
 have HU:=aa hu;have HD:=aa hD;clear hu hD HR;go_wp2;go_ret3;unfold j2;rw[HD.out];exact⟨none,0,rfl,λh=>absurd h (by simp),by simp,by omega,HU.out⟩
theorem Lu(raw:ByteArray)(w:YA)(hr:raw.size<=4611686018427387904):Calls Tryz.prog 88 #[Yq raw] w (eY (gC raw) w):=by
 have HR:=aa (kt raw w hr);go_enter Tryz.func88,Tryz.ntmps88;go_wp2_with fail;refine HR.out.mono ?_;rintro e w2 ⟨hu,⟨ah,tx,cuts,rfl,hB,h1,h2,h3,hD⟩|⟨a,er,her,rfl,hD⟩⟩
 ·have HI:=aa (pV w2 w.1.size w.1.size ah tx cuts raw.size hB (by omega) hu.size);have HU:=aa hu;have HD:=aa hD;clear hu hB hD HR;go_wp2_with fail;refine HI.out.mono ?_;rintro e w3 ⟨A,c,rfl,hI,hc1,hc2,hbl⟩;have HE:=aa (And.intro hI (ac.cy (Below.trans HU.out.below hbl)));have pd:=aa hc1;clear hI hbl hc1;go_wp2;go_ret2;unfold eY;rw[HD.out];exact⟨A,c,by simp,HE.out.1,by simpa using pd.out,hc2,HE.out.2⟩
 have hb:(er==0)=false:=by simpa using her
 have HU:=aa hu;have HD:=aa hD;clear hu hD HR;go_wp2;go_ret2;unfold eY;rw[HD.out];exact⟨none,0,rfl,λh=>absurd h (by simp),by simp,by omega,HU.out⟩
end
section
namespace St
theorem pE{c:UInt8}{r:List UInt8}(h:c.toNat≠34):bD (c :: r)=(bD r).map (·+1):=by
 rw[bD.eq_def];simp only;rw[if_neg h]
theorem sA{c d:UInt8}{r:List UInt8}(h:c.toNat=34)(h2:d.toNat=34):bD (c :: d :: r)=(bD r).map (·+2):=by
 rw[bD,if_pos h];show(if d.toNat=34 then _ else _)=_;rw[if_pos h2]
theorem sw{c d:UInt8}{r:List UInt8}(h:c.toNat=34)(h2:d.toNat≠34):bD (c :: d :: r)=some 1:=by
 rw[bD,if_pos h];show(if d.toNat=34 then _ else _)=_;rw[if_neg h2]
theorem qP{c:UInt8}(h:c.toNat=34):bD [c]=some 1:=by
 rw[bD,if_pos h]
theorem OZ(c:UInt8):Lib.indexByte [34,44,10] c<0 ↔ fx c=true:=by
 by_cases h1:c=34
 ·subst h1;decide
 by_cases h2:c=44
 ·subst h2;decide
 by_cases h3:c=10
 ·subst h3;decide
 have b1:((34:UInt8)==c)=false:=by simpa using λe=>h1 e.symm
 have b2:((44:UInt8)==c)=false:=by simpa using λe=>h2 e.symm
 have b3:((10:UInt8)==c)=false:=by simpa using λe=>h3 e.symm
 have hi:Lib.indexByte [34,44,10] c=-1:=by simp[Lib.indexByte,b1,b2,b3]
 have hb:fx c=true:=by
  unfold fx;rw[decide_eq_true_iff];exact⟨λe=>h1 (UInt8.toNat_inj.1 e),λe=>h2 (UInt8.toNat_inj.1 e),λe=>h3 (UInt8.toNat_inj.1 e)⟩
 rw[hi,hb];decide
theorem AT:cV []=some (0,false):=rfl
theorem zy{c:UInt8}{r:List UInt8}(h:c.toNat=34):cV (c :: r)=(match bD r with
   | none=>none
   | some n=>if eh (r.drop n)then some (n+1,true)else none):=by
 rw[cV,if_pos h];cases bD r<;>rfl
theorem va{l:List UInt8}(h:∀c r,l=c :: r->c.toNat≠34):cV l=if eh (l.drop (l.takeWhile fx).length)then some ((l.takeWhile fx).length,false)else none:=by
 cases l with
 | nil=>rfl
 | cons c r=>rw[cV,if_neg (h c r rfl)]
end St
theorem Hy{d:List UInt8}{a j:Nat}(h:St.cV (d.drop a)=(match St.bD (d.drop (a+1))with
   | none=>none
   | some n=>if St.eh ((d.drop (a+1)).drop n)then some (n+1,true)else none)) (hq:St.bD (d.drop (a+1))=some (j-a)) (hj:a+1<=j):St.cV (d.drop a)=if St.eh (d.drop (j+1))=true then some (j+1-a,true)else none:=by
 rw[h,hq];simp only[List.drop_drop];rw[show a+1+(j-a)=j+1 by omega,show j-a+1=j+1-a by omega]
def vL(l:List UInt8)(a:Nat)(w:YA)(e:Ending)(w':YA):Prop:=
 ac w w'/\match St.cV l with
  | none=>∃x y,e=Yx (Yu #[Yp Yv x,Ys y,Ys false])
  | some (k,q)=>e=Yx (Yu #[Yp Yv ((a+k:Nat):Int),Ys q,Ys true])
theorem fe{l:List UInt8}{a k:Nat}{w w':YA}{q b bb:Bool}{m:Int}(h:St.cV l=if bb=true then some (k,q)else none)(hb:bb=b)(hm:m=((a+k:Nat):Int))(hu:ac w w') :
  vL l a w (Yx (Yu #[Yp Yv m,Ys q,Ys b])) w':=by
 refine⟨hu,?_⟩;subst hb hm;rw[h];cases bb
 ·exact⟨_,_,rfl⟩
 rfl
def QJ(w:YA)(d:ByteArray)(b:Nat)(s4:Value)(wr:YA):Prop:=∃j:Nat,s4=Yp Yv j/\b<=j/\j<=d.size/\St.bD (d.1.1.drop b)=(St.bD (d.1.1.drop j)).map (·+(j-b))/\ac w wr
def LY(w:YA)(d:ByteArray)(a:Nat)(s4:Value)(wr:YA):Prop:=∃j:Nat,s4=Yp Yv j/\a<=j/\j<=d.size/\((d.1.1.drop a).takeWhile St.fx).length=(j-a)+((d.1.1.drop j).takeWhile St.fx).length/\ac w wr
theorem AS(d:ByteArray)(a:Nat)(w:YA)(ha:a<=d.size)(hd:d.size<=4611686018427387904):Calls Tryz.prog 169 #[Yq d,Yp Yv a] w (vL (d.1.1.drop a) a w):=by
 by_cases hlt:a<d.size
 ·have av:=St.drop_at d a hlt
  by_cases gZ:d[a].toNat=34
  ·have hF:=St.zy (r:=d.1.1.drop (a+1)) gZ;rw[<-av]at hF;have HF:=aa hF;have z1:(a:Int)<d.size:=by omega
   clear hF av;go_enter Tryz.func169,Tryz.ntmps169;go_wp2;go_loopw [4] (λs4 wr=>QJ w d (a+1) s4 wr) (λs4 _=>d.size+1-(intOf s4).toNat)
   case atStart=>exact⟨a+1,congrArg (Yp Yv) (by omega),by omega,by omega,by cases St.bD (d.1.1.drop (a+1))<;>simp,ac.refl _⟩
   case round=>
    obtain⟨j,rfl,rq,mr,hq,hu⟩:=hrel;have HQ:=aa hq;have HU:=aa hu;clear hq hu
    by_cases hjl:j<d.size
    ·have gL:=St.drop_at d j hjl
     by_cases oe:d[j].toNat=34
     ·by_cases iC:j+1<d.size
      ·have pg:=St.drop_at d (j+1) iC
       by_cases BB:d[j+1].toNat=34
       ·have hs:=St.sA (r:=d.1.1.drop (j+1+1)) oe BB;rw[<-pg,<-gL]at hs;have HS:=aa hs;have z2:(j:Int)<d.size:=by omega
        have z3:(j:Int)+1<d.size:=by omega
        clear hs gL pg HF;go_wp2;refine⟨⟨j+2,congrArg (Yp Yv) (by omega),by omega,by omega,?_,HU.out⟩,by simp[intOf];omega⟩;rw[HQ.out,HS.out];cases St.bD (d.1.1.drop (j+1+1))with
        | none=>rfl
        | some n=>simp;omega
       have hs:=St.sw (r:=d.1.1.drop (j+1+1)) oe BB;rw[<-pg,<-gL]at hs;have HS:=aa hs;have z2:(j:Int)<d.size:=by omega
       have z3:(j:Int)+1<d.size:=by omega
       have R9:((d[j+1].toNat:Int)==34)=false:=by simp;omega
       have hq2:St.bD (d.1.1.drop (a+1))=some (j-a):=by rw[HQ.out,HS.out];simp;omega
       have hf2:=aa (Hy HF.out hq2 rq);have fg:St.eh (d.1.1.drop (j+1))=decide (d[j+1].toNat=44\/d[j+1].toNat=10):=by rw[pg];rfl
       have z4:(((j:Int)+1==(d.size:Int))=false):=by simp;omega
       clear hs gL pg hlt gZ HF HQ HS hq2;have HF:=hf2;clear hf2
       by_cases ry:d[j+1].toNat=44
       ·have yh:((d[j+1].toNat:Int)==44)=true:=by simp;omega
        have ff:=aa (show St.eh (d.1.1.drop (j+1))=true by rw[fg];simp[ry]);clear fg;go_wp2_with fail;go_region
        all_goals
         go_wp2;go_ret3;exact fe HF.out ff.out (by omega) HU.out.drew
       have yh:((d[j+1].toNat:Int)==44)=false:=by simp;omega
       by_cases k10:d[j+1].toNat=10
       ·have m10:((d[j+1].toNat:Int)==10)=true:=by simp;omega
        have ff:=aa (show St.eh (d.1.1.drop (j+1))=true by rw[fg];simp[k10]);clear fg;go_wp2_with fail;go_region
        all_goals
         go_wp2;go_ret3;exact fe HF.out ff.out (by omega) HU.out.drew
       have m10:((d[j+1].toNat:Int)==10)=false:=by simp;omega
       have ff:=aa (show St.eh (d.1.1.drop (j+1))=false by rw[fg];simp[ry,k10]);clear fg;go_wp2_with fail;go_region
       all_goals
        go_wp2;go_ret3;exact fe HF.out ff.out (by omega) HU.out.drew
      have rr:j+1=d.size:=by omega
      have hnil:=St.fR d (j+1) (by omega);have hs:=St.qP oe;rw[hnil]at gL;rw[<-gL]at hs;have hq2:St.bD (d.1.1.drop (a+1))=some (j-a):=by rw[HQ.out,hs];simp;omega
      have hf2:=aa (Hy HF.out hq2 rq);have ff:=aa (show St.eh (d.1.1.drop (j+1))=true by rw[hnil];rfl);have z2:(j:Int)<d.size:=by omega
      have z3:¬(j:Int)+1<d.size:=by omega
      have z4:(((j:Int)+1==(d.size:Int))=true):=by simp;omega
      clear hs gL hnil hlt gZ HF HQ hq2 rr iC;have HF:=hf2;clear hf2;go_wp2_with fail;go_region
      all_goals
       go_wp2;go_ret3;exact fe HF.out ff.out (by omega) HU.out.drew
     have hs:=St.pE (r:=d.1.1.drop (j+1)) oe;rw[<-gL]at hs;have HS:=aa hs;have z2:(j:Int)<d.size:=by omega
     have Sb:((d[j].toNat:Int)==34)=false:=by simp;omega
     clear hs gL HF;go_wp2;refine⟨⟨j+1,congrArg (Yp Yv) (by omega),by omega,by omega,?_,HU.out⟩,by simp[intOf];omega⟩;rw[HQ.out,HS.out];cases St.bD (d.1.1.drop (j+1))with
     | none=>rfl
     | some n=>simp;omega
    have rr:j=d.size:=by omega
    subst rr;have hnil:d.1.1.drop d.size=[]:=List.drop_of_length_le (by simp);have hq2:St.bD (d.1.1.drop (a+1))=none:=by rw[HQ.out,hnil];rfl
    have Qw:=aa hq2;clear hjl hq2 hnil;go_wp2;go_ret3;refine⟨HU.out,?_⟩;rw[HF.out,Qw.out];exact⟨_,_,rfl⟩
  have QN:((d[a].toNat:Int)==34)=false:=by simp;omega
  have xe:=aa (St.va (l:=d.1.1.drop a) (λc r e=>by rw[av]at e;simp only[List.cons.injEq]at e;rw[<-e.1];exact gZ));have z1:(a:Int)<d.size:=by omega
  clear av gZ;go_enter Tryz.func169,Tryz.ntmps169;go_wp2;go_loopw [4] (λs4 wr=>LY w d a s4 wr) (λs4 _=>d.size+1-(intOf s4).toNat)
  case atStart=>exact⟨a,rfl,by omega,by omega,by simp,ac.refl _⟩
  case round=>
   obtain⟨j,rfl,rq,mr,hq,hu⟩:=hrel;have HQ:=aa hq;have HU:=aa hu;clear hq hu
   by_cases hjl:j<d.size
   ·have gL:=St.drop_at d j hjl;have bS:=λW=>Tryz.strings_IndexByte ⟨#[34,44,10]⟩ (d[j].toNat:Int) W
    have hbk:((d[j].toNat:Int).toNat.toUInt8)=d[j]:=by simp
    have ul:=St.OZ d[j];rw[hbk,show(⟨#[34,44,10]⟩:ByteArray).1.1=[34,44,10]from rfl]at bS;generalize Lib.indexByte [34,44,10] d[j]=v at bS ul;have ey:=aa bS;have z2:(j:Int)<d.size:=by omega
    cases hbc:St.fx d[j]
    ·have hv:¬v<0:=λh=>by rw[ul.1 h]at hbc;cases hbc
     have fi:(d.1.1.drop j).takeWhile St.fx=[]:=by rw[gL,List.takeWhile_cons_of_neg (by simp[hbc])]
     have hlen:((d.1.1.drop a).takeWhile St.fx).length=j-a:=by rw[HQ.out,fi];simp
     have hf2:=xe.out;rw[hlen,List.drop_drop,show a+(j-a)=j by omega]at hf2;have HF:=aa hf2;have fg:St.eh (d.1.1.drop j)=decide (d[j].toNat=44\/d[j].toNat=10):=by rw[gL];rfl
     have z4:(((j:Int)==(d.size:Int))=false):=by simp;omega
     clear hf2 hlen fi gL bS hbk ul hbc;go_wp2_with fail;refine(ey.out _).mono ?_;rintro e w' ⟨rfl,rfl⟩
     by_cases ry:d[j].toNat=44
     ·have yh:((d[j].toNat:Int)==44)=true:=by simp;omega
      have ff:=aa (show St.eh (d.1.1.drop (j))=true by rw[fg];simp[ry]);clear fg;go_wp2_with fail;go_region
      all_goals
       go_wp2;go_ret3;exact fe HF.out ff.out (by omega) HU.out.drew
     have yh:((d[j].toNat:Int)==44)=false:=by simp;omega
     by_cases k10:d[j].toNat=10
     ·have m10:((d[j].toNat:Int)==10)=true:=by simp;omega
      have ff:=aa (show St.eh (d.1.1.drop (j))=true by rw[fg];simp[k10]);clear fg;go_wp2_with fail;go_region
      all_goals
       go_wp2;go_ret3;exact fe HF.out ff.out (by omega) HU.out.drew
     have m10:((d[j].toNat:Int)==10)=false:=by simp;omega
     have ff:=aa (show St.eh (d.1.1.drop (j))=false by rw[fg];simp[ry,k10]);clear fg;go_wp2_with fail;go_region
     all_goals
      go_wp2;go_ret3;exact fe HF.out ff.out (by omega) HU.out.drew
    have hv:v<0:=ul.2 hbc;have fi:((d.1.1.drop j).takeWhile St.fx).length=((d.1.1.drop (j+1)).takeWhile St.fx).length+1:=by rw[gL,List.takeWhile_cons_of_pos hbc];simp
    have JI:=aa fi;clear fi gL bS hbk ul hbc;go_wp2_with fail;refine(ey.out _).mono ?_;rintro e w' ⟨rfl,rfl⟩;go_wp2;refine⟨⟨j+1,congrArg (Yp Yv) (by omega),by omega,by omega,?_,HU.out⟩,by simp[intOf];omega⟩;rw[HQ.out,JI.out];omega
   have rr:j=d.size:=by omega
   have hnil:=St.fR d j (by omega);have hlen:((d.1.1.drop a).takeWhile St.fx).length=j-a:=by rw[HQ.out,hnil];simp
   have hf2:=xe.out;rw[hlen,List.drop_drop,show a+(j-a)=j by omega]at hf2;have HF:=aa hf2;have ff:=aa (show St.eh (d.1.1.drop j)=true by rw[hnil];rfl);have z2:¬(j:Int)<d.size:=by omega
   have z4:(((j:Int)==(d.size:Int))=true):=by simp;omega
   clear hf2 hlen hnil rr hjl HQ;go_wp2_with fail;go_region
   all_goals
    go_wp2;go_ret3;exact fe HF.out ff.out (by omega) HU.out.drew
 have OJ:=St.fR d a (by omega);have xe:=aa (St.va (l:=d.1.1.drop a) (λc r e=>by rw[OJ]at e;cases e));have z1:¬(a:Int)<d.size:=by omega
 clear OJ;go_enter Tryz.func169,Tryz.ntmps169;go_wp2;go_loopw [4] (λs4 wr=>LY w d a s4 wr) (λs4 _=>d.size+1-(intOf s4).toNat)
 case atStart=>exact⟨a,rfl,by omega,by omega,by simp,ac.refl _⟩
 case round=>
  obtain⟨j,rfl,rq,mr,hq,hu⟩:=hrel;have HQ:=aa hq;have HU:=aa hu;clear hq hu
  by_cases hjl:j<d.size
  ·exact absurd hjl (by omega)
  have rr:j=d.size:=by omega
  have hnil:=St.fR d j (by omega);have hlen:((d.1.1.drop a).takeWhile St.fx).length=j-a:=by rw[HQ.out,hnil];simp
  have hf2:=xe.out;rw[hlen,List.drop_drop,show a+(j-a)=j by omega]at hf2;have HF:=aa hf2;have ff:=aa (show St.eh (d.1.1.drop j)=true by rw[hnil];rfl);have z2:¬(j:Int)<d.size:=by omega
  have z4:(((j:Int)==(d.size:Int))=true):=by simp;omega
  clear hf2 hlen hnil rr hjl HQ;go_wp2_with fail;go_region
  all_goals
   go_wp2;go_ret3;exact fe HF.out ff.out (by omega) HU.out.drew
end
section
def TV(w:YA)(tb pb:Nat)(d:ByteArray)(r bf au texts:Nat):Prop:=
 w.1[tb]?=some (Obj.cells #[Yq d,Yt (some ⟨pb,0,none⟩),Yp Yv r,Yp Yv bf,Yp Yv au,Yp Yv texts] 174 (0,0))
theorem TV.ai{a c:YA}{tb pb:Nat}{d:ByteArray}{r bf au texts:Nat}(h:TV a tb pb d r bf au texts)(u:ac a c):TV c tb pb d r bf au texts:=(u.below.block tb (ae h)).trans h
theorem TV.tk{a c:YA}{tb pb:Nat}{d:ByteArray}{r bf au texts:Nat}(h:TV a tb pb d r bf au texts)(u:eO nS a c):TV c tb pb d r bf au texts:=(u.2 tb _ _ _ h (by simp[nS])).trans h
theorem PV.Sl{a c:YA}{B pb tb:Nat}{d:ByteArray}{s:St.PS}{r bf au texts WQ:Nat}{d':ByteArray}(h:PV a B pb d s)(ht:TV a tb WQ d' r bf au texts)(g:a.grownBy c (some tb)):PV c B pb d s:=by
 obtain⟨h0,v,h1,h2⟩:=h
 have hne:pb≠tb:=λe=>by
  subst e;unfold TV at ht;rw[h1]at ht;simp at ht
 exact⟨h0,v,(g.block pb (ae h1) (by simpa using hne)).trans h1,h2.kept g (Or.inr (aS h2 ht (by decide)))⟩
def qt:ByteArray:=⟨#[116,101,120,116]⟩
theorem Io(w:YA)(tb pb:Nat)(d:ByteArray)(bf au texts a b n:Nat)(h:TV w tb pb d 0 bf au texts)(hab:a<=b)(hb:b<=d.size)(hd:d.size<=4611686018427387904)(hn:n<=4611686018427387904)(ht:texts<=4611686018427387904) :
  Calls Tryz.prog 170 #[Yt (some ⟨tb,0,none⟩),Yp Yv a,Yp Yv b,Yp Yv n] w λe w'=>e=Yx (Yu #[]) /\
   TV w' tb pb d 0 (n+1) (if St.aZ d.1.1 a b==[116,101,120,116]then n else au) (if St.aZ d.1.1 a b==[116,101,120,116]then texts+1 else texts)/\w.grownBy w' (some tb):=by
 have hv:=h;unfold TV at hv;have c0:w.cell? ⟨tb,0,none⟩=some (Yq d):=aj hv 0;have c3:w.cell? ⟨tb,3,none⟩=some (Yp Yv bf):=aj hv 3;have c4:w.cell? ⟨tb,4,none⟩=some (Yp Yv au):=aj hv 4;have c5:w.cell? ⟨tb,5,none⟩=some (Yp Yv texts):=aj hv 5;have f3:w.frozen? ⟨tb,3,none⟩=false:=bu hv 3;have f4:w.frozen? ⟨tb,4,none⟩=false:=bu hv 4;have f5:w.frozen? ⟨tb,5,none⟩=false:=bu hv 5;haveI:af tb w:=af.of (ae hv);have HV:=aa hv;rw[<-eW];obtain⟨s,hE⟩:∃s,d.extract a b=s:=⟨_,rfl⟩;rw[hE];have za:(0:Int)<=a:=by omega
 have Yn:(a:Int)<=b:=by omega
 have zb:(b:Int)<=d.size:=by omega
 by_cases hs:s=qt
 ·subst hs;unfold qt at hE;have hif:((qt.1.1==[116,101,120,116])=true):=rfl;rw[if_pos hif,if_pos hif];clear hv h;go_enter Tryz.func170,Tryz.ntmps170;go_wp2;go_end0;refine⟨rfl,?_,bU (bU (cH w ⟨tb,5,none⟩ _) ⟨tb,4,none⟩ _ (Or.inl rfl)) ⟨tb,3,none⟩ _ (Or.inl rfl)⟩;exact heap_setCell_same _ tb 3 _ _ _ (heap_setCell_same _ tb 4 _ _ _ (heap_setCell_same _ tb 5 _ _ _ HV.out))
 have hif:¬((s.1.1==[116,101,120,116])=true):=by
  intro e;exact hs (tP _ _ (show s.1.1=qt.1.1 from eq_of_beq e))
 rw[if_neg hif,if_neg hif];have hne:(s.toList==[116,101,120,116])=false:=by rw[Lib.toList_data];exact Bool.eq_false_iff.2 hif
 clear hv h hif hs;go_enter Tryz.func170,Tryz.ntmps170;go_wp2;go_end0;exact⟨rfl,heap_setCell_same _ tb 3 _ _ _ HV.out,cH w ⟨tb,3,none⟩ _⟩
end
end Go.Proofs.YthoemdibbldndaaGreatDoor.Sh
