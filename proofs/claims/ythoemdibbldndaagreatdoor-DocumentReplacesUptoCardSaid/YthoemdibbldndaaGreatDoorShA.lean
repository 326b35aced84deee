/- The contract of sheet's element: what it gives is St.sheetL, behind the builder's limits. -/
import Derived.Test.YthoemdibbldndaaGreatDoorGC
import Derived.Test.YthoemdibbldndaaGreatDoorShelf
set_option linter.all false
set_option maxHeartbeats 0
set_option maxRecDepth 20000
open Go.Value renaming int->VD,string->VE,slice->VF,bool->VG,pointer->VH,tuple->VI
open Go.IntKind renaming i64->VJ
open Go.Ending renaming returned->VL
open Go renaming World->VO
namespace Go.Proofs.YthoemdibbldndaaGreatDoor.Sh
open Go.RowKit Go.Proofs.YthoemdibbldndaaGreatDoor.St
section
abbrev b7 (w:VO) (B b:Nat) (its:List St.It) (tx:List UInt8) (cuts:List Nat):Prop:=_root_.Go.Proofs.YthoemdibbldndaaGreatDoor.b7 127 [] w B b its tx cuts
instance:ue 127:=⟨by decide⟩
theorem Ej(s t:ByteArray)(w:VO)(hs:s.size<=9223372036854775807)(ht:t.size<=9223372036854775807):Calls Tryz.prog 192 #[VE s,VE t] w λe w'=>e=VL (VG (preB t s))/\w=w':=by
 by_cases h:t.size<=s.size
 ·have z:(t.size:Int)<=(s.size:Int):=by omega
  go_enter Tryz.func192,Tryz.ntmps192;go_wp2;go_ret;refine⟨ay ?_,rfl⟩;unfold preB;rw[Lib.toList_data,Lib.toList_data,Lib.extract_data,<-St.mc];simp
 have z:¬(t.size:Int)<=(s.size:Int):=by omega
 have H:=aa h;clear h;go_enter Tryz.func192,Tryz.ntmps192;go_wp2;go_ret;have hz:preB t s=false:=St.uL _ _ (by have:=H.out;simp;omega);exact⟨ay hz.symm,rfl⟩
theorem rv(s t:ByteArray)(w:VO)(hs:s.size<=9223372036854775807)(ht:t.size<=9223372036854775807):Calls Tryz.prog 165 #[VE s,VE t] w λe w'=>e=VL (VG (preB t s))/\w=w':=by
 have H:=aa (Ej s t w hs ht);go_enter Tryz.func165,Tryz.ntmps165;go_wp2_with fail;refine H.out.mono ?_;rintro e w' ⟨rfl,rfl⟩;go_wp2;go_ret;exact⟨rfl,rfl⟩
def sW(w:VO)(B b:Nat)(its:List St.It)(tx:List UInt8)(cuts:List Nat)(l:List UInt8)(a:Nat)(e:Ending)(w':VO):Prop:=
 Below B w w'/\match St.ch l with
  | none=>e=VL (VI #[VD VJ a,VD VJ 2])
  | some (k,t,n)=>if 512<(St.aV (its++St.b8 tx) (k,t,0)).length\/1024<=cuts.length then e=VL (VI #[VD VJ a,VD VJ 3])else
    e=VL (VI #[VD VJ ((a+n:Nat):Int),VD VJ 0])/\∃fy ja,b7 w' B b fy ja (cuts++[a])/\St.fz fy/\fy++St.b8 ja=St.aV (its++St.b8 tx) (k,t,0)/\ja.length<=cuts.length+1
theorem Al{w:VO}{B b:Nat}{its:List St.It}{tx:List UInt8}{cuts:List Nat}{l:List UInt8}{a:Nat}{w':VO}(h:St.ch l=none)(hb:Below B w w'):sW w B b its tx cuts l a (VL (VI #[VD VJ a,VD VJ 2])) w':=by
 refine⟨hb,?_⟩;rw[h]
theorem wI{w:VO}{B b:Nat}{its:List St.It}{tx:List UInt8}{cuts:List Nat}{l:List UInt8}{a n:Nat}{c:UInt8}{w':VO}(h:St.ch l=some (1,[c],n))(hN:St.fz its)(hf:St.aT its.length tx.length cuts.length true=true)(hb:Below B w w') :
  sW w B b its tx cuts l a (VL (VI #[VD VJ a,VD VJ 3])) w':=by
 refine⟨hb,?_⟩;rw[h];simp only;rw[if_pos ((St.kJ hN c cuts.length).2 hf)];trivial
theorem wH{w:VO}{B b:Nat}{its:List St.It}{tx:List UInt8}{cuts:List Nat}{l:List UInt8}{a n:Nat}{c:UInt8}{w':VO}(h:St.ch l=some (1,[c],n))(hN:St.fz its)(hf:St.aT its.length tx.length cuts.length true=false)(hb:Below B w w')
  (hB:b7 w' B b its (tx++[c]) (cuts++[a])) (ht:tx.length<=cuts.length) (m:Int) (hm:m=((a+n:Nat):Int)):sW w B b its tx cuts l a (VL (VI #[VD VJ m,VD VJ 0])) w':=by
 refine⟨hb,?_⟩;rw[h];simp only;rw[if_neg (λh2=>by rw[(St.kJ hN c cuts.length).1 h2]at hf;cases hf),hm];exact⟨rfl,its,tx++[c],hB,hN,(St.qj hN c).symm,by simp;omega⟩
theorem IT{w:VO}{B b:Nat}{its:List St.It}{tx:List UInt8}{cuts:List Nat}{l:List UInt8}{a n:Nat}{t:List UInt8}{w':VO}(h:St.ch l=some (5,t,n))(hf:St.aT its.length tx.length cuts.length false=true)(hb:Below B w w') :
  sW w B b its tx cuts l a (VL (VI #[VD VJ a,VD VJ 3])) w':=by
 refine⟨hb,?_⟩;rw[h];simp only;rw[if_pos ((St.jA 5 t cuts.length (by decide)).2 hf)];trivial
theorem Lw{w:VO}{B b:Nat}{its:List St.It}{tx:List UInt8}{cuts:List Nat}{l:List UInt8}{a n:Nat}{t:List UInt8}{w':VO}(h:St.ch l=some (5,t,n))(hf:St.aT its.length tx.length cuts.length false=false)(hb:Below B w w')
  (hB:b7 w' B b (its++St.b8 tx++[(5,t,0)]) [] (cuts++[a])) (m:Int) (hm:m=((a+n:Nat):Int)):sW w B b its tx cuts l a (VL (VI #[VD VJ m,VD VJ 0])) w':=by
 refine⟨hb,?_⟩;rw[h];simp only;rw[if_neg (λh2=>by rw[(St.jA 5 t cuts.length (by decide)).1 h2]at hf;cases hf),hm];exact⟨rfl,_,[],hB,St.lx _ 5 t 0 (by decide),by rw[St.qk 5 t (by decide)];simp[St.b8],by simp⟩
end
section
theorem kg(w:VO)(B b:Nat)(its:List St.It)(tx:List UInt8)(cuts:List Nat)(au:ByteArray)(a:Nat)(h:b7 w B b its tx cuts)(hN:St.fz its)(h1:its.length<=512)(h2:cuts.length<=1024)(h3:tx.length<=cuts.length)(hBw:B<=w.1.size)
  (ha:a<au.size) (hr:au.size<=4611686018427387904) :
  Calls Tryz.prog 173 #[VH (some ⟨b,0,none⟩),VE au,VD VJ a] w (sW w B b its tx cuts (au.1.1.drop a) a):=by
 obtain⟨s,hE⟩:∃s,au.extract a au.size=s:=⟨_,rfl⟩;have hsz:s.size=au.size-a:=by rw[<-hE];simp
 have hs0:0<s.size:=by omega
 have hl:s.1.1=au.1.1.drop a:=by rw[<-hE];simp;exact List.take_of_length_le (by simp)
 rw[<-hl];have hcr:s.1.1=s[0] :: s.1.1.drop 1:=St.ft s hs0;have hp1:=λW=>rv s ⟨#[34,34]⟩ W (by omega) (by show 2<=_;omega)
 have hp2:=λW=>rv s ⟨#[123,123]⟩ W (by omega) (by show 2<=_;omega)
 have e1:preB ⟨#[34,34]⟩ s=([34,34]:List UInt8).isPrefixOf (s[0] :: s.1.1.drop 1):=by unfold preB;rw[<-hcr]
 have e2:preB ⟨#[123,123]⟩ s=([123,123]:List UInt8).isPrefixOf (s[0] :: s.1.1.drop 1):=by unfold preB;rw[<-hcr]
 have hby:=aa (nP w B b its tx cuts s[0] a h (by omega) (by omega) (by omega) hBw);have ha1:(a:Int)<=au.size:=by omega
 have ha2:¬au.size<a:=by omega
 have hN':=aa hN
 by_cases gN:s[0].toNat=34
 ·have hsl:=St.q8 (r:=s.1.1.drop 1) gN;have hq2:preB ⟨#[123,123]⟩ s=false:=by rw[e2];exact St.tv (by intro e;rw[e]at gN;simp at gN)
  have Nu:((s[0].toNat:Int)==34)=true:=by simp;omega
  rw[<-e1,<-hcr]at hsl;cases hq1:preB ⟨#[34,34]⟩ s
  ·rw[hq1]at hsl;have br:=aa hsl;rw[hq1]at hp1;rw[hq2]at hp2;have nI:=aa hp1;have gL:=aa hp2;clear hsl hp1 hp2 e1 e2 hq1 hq2 hcr hl h hN;go_enter Tryz.func173,Tryz.ntmps173;go_wp2_with fail;refine(nI.out _).mono ?_;rintro e w' ⟨rfl,rfl⟩;go_wp2_with fail;refine(gL.out _).mono ?_;rintro e w' ⟨rfl,rfl⟩;go_wp2;go_ret2;exact Al br.out (Below.refl _ _)
  rw[hq1]at hsl;have br:=aa hsl;rw[hq1]at hp1;have nI:=aa hp1;clear hsl hp1 hp2 e1 e2 hq1 hq2 hcr hl h hN;go_enter Tryz.func173,Tryz.ntmps173;go_wp2_with fail;refine(nI.out _).mono ?_;rintro e w' ⟨rfl,rfl⟩;go_wp2_with fail;have uv:=hby.out;rw[gN,show((34:Nat):Int)=34 from rfl]at uv;refine uv.mono ?_;rintro e w' ⟨rfl,eO,hbl⟩;have iq:=aa eO;have cX:=aa hbl;clear eO hbl uv;cases hfu:St.aT its.length tx.length cuts.length true
  ·have ck:=aa hfu;clear hfu;go_wp2;go_ret2;exact wH br.out hN'.out ck.out cX.out (iq.out ck.out) h3 _ (by omega)
  have ck:=aa hfu;clear hfu;go_wp2;go_ret2;exact wI br.out hN'.out ck.out cX.out
 by_cases da:s[0].toNat=123
 ·have hsl:=St.pe (r:=s.1.1.drop 1) da;have hq1:preB ⟨#[34,34]⟩ s=false:=by rw[e1];exact St.tv (by intro e;rw[e]at da;simp at da)
  rw[<-e2,<-hcr]at hsl;cases hq2:preB ⟨#[123,123]⟩ s
  ·rw[hq2]at hsl;simp only[Bool.false_eq_true,if_false]at hsl;rw[hq1]at hp1;rw[hq2]at hp2;have nI:=aa hp1;have gL:=aa hp2;have bK:=λW=>Tryz.strings_IndexByte s 125 W
   have ld:(125:Int).toNat.toUInt8=125:=rfl;rw[ld,hcr]at bK;rcases St.qd (r:=s.1.1.drop 1) da with⟨hi,hs⟩|⟨n,hi,hn,eW,hs⟩
   ·rw[hi]at bK;rw[<-hcr]at hs;rw[hs]at hsl;have br:=aa hsl;have dQ:=aa bK;clear hsl hp1 hp2 e1 e2 hq1 hq2 hcr hl h hN bK hi hs ld;go_enter Tryz.func173,Tryz.ntmps173;go_wp2_with fail;refine(nI.out _).mono ?_;rintro e w' ⟨rfl,rfl⟩;go_wp2_with fail;refine(gL.out _).mono ?_;rintro e w' ⟨rfl,rfl⟩;go_wp2_with fail;refine(dQ.out _).mono ?_;rintro e w' ⟨rfl,rfl⟩;go_wp2;go_ret2;exact Al br.out (Below.refl _ _)
   rw[hi]at bK;have hns:n+1<s.size:=by rw[<-hcr]at hn;simpa using hn
   obtain⟨x,hX⟩:∃x,s.extract 1 (n+1)=x:=⟨_,rfl⟩;have hxl:x.1.1=(s.1.1.drop 1).take n:=by rw[<-hX];simp
   have hxs:x.size<=s.size:=by rw[<-hX];simp;omega
   have aZ:=λW=>jV x W (by omega)
   rw[<-hcr,<-hxl]at hs;have z1:(1:Int)<=(n:Int)+1:=by omega
   have z2:(n:Int)+1<=s.size:=by omega
   have z3:¬(n:Int)+1<0:=by omega
   cases hnb:St.aS x.1.1
   ·rw[hnb]at hs aZ;simp only[Bool.false_eq_true,if_false]at hs;rw[hs]at hsl;have br:=aa hsl;have dQ:=aa bK;have bk:=aa aZ;clear hsl hp1 hp2 e1 e2 hq1 hq2 hcr hl h hN bK hi hs ld hn eW aZ hnb hxl;go_enter Tryz.func173,Tryz.ntmps173;go_wp2_with fail;refine(nI.out _).mono ?_;rintro e w' ⟨rfl,rfl⟩;go_wp2_with fail;refine(gL.out _).mono ?_;rintro e w' ⟨rfl,rfl⟩;go_wp2_with fail;refine(dQ.out _).mono ?_;rintro e w' ⟨rfl,rfl⟩;go_wp2_with fail;refine(bk.out _).mono ?_;rintro e w' ⟨rfl,rfl⟩;go_wp2;go_ret2;exact Al br.out (Below.refl _ _)
   rw[hnb]at hs aZ;simp only[if_true]at hs;rw[hs]at hsl;simp only[Option.map_some]at hsl;have br:=aa hsl;have dQ:=aa bK;have bk:=aa aZ;have hit:=aa (kB w B b its tx cuts 5 0 x a h (by omega) (by omega) (by omega) hBw);clear hsl hp1 hp2 e1 e2 hq1 hq2 hcr hl h hN bK hi hs ld hn eW aZ hnb hxl;go_enter Tryz.func173,Tryz.ntmps173;go_wp2_with fail;refine(nI.out _).mono ?_;rintro e w' ⟨rfl,rfl⟩;go_wp2_with fail;refine(gL.out _).mono ?_;rintro e w' ⟨rfl,rfl⟩;go_wp2_with fail;refine(dQ.out _).mono ?_;rintro e w' ⟨rfl,rfl⟩;go_wp2_with fail;refine(bk.out _).mono ?_;rintro e w' ⟨rfl,rfl⟩;go_wp2_with fail;refine hit.out.mono ?_;rintro e w' ⟨rfl,eO,hbl⟩;have iq:=aa eO;have cX:=aa hbl;clear eO hbl;cases hfu:St.aT its.length tx.length cuts.length false
   ·have ck:=aa hfu;clear hfu;go_wp2;go_ret2;exact Lw br.out ck.out cX.out (iq.out ck.out) _ (by omega)
   have ck:=aa hfu;clear hfu;go_wp2;go_ret2;exact IT br.out ck.out cX.out
  rw[hq2]at hsl;have br:=aa hsl;rw[hq1]at hp1;rw[hq2]at hp2;have nI:=aa hp1;have gL:=aa hp2;clear hsl hp1 hp2 e1 e2 hq1 hq2 hcr hl h hN;go_enter Tryz.func173,Tryz.ntmps173;go_wp2_with fail;refine(nI.out _).mono ?_;rintro e w' ⟨rfl,rfl⟩;go_wp2_with fail;refine(gL.out _).mono ?_;rintro e w' ⟨rfl,rfl⟩;go_wp2_with fail;have uv:=hby.out;rw[da,show((123:Nat):Int)=123 from rfl]at uv;refine uv.mono ?_;rintro e w' ⟨rfl,eO,hbl⟩;have iq:=aa eO;have cX:=aa hbl;clear eO hbl uv;cases hfu:St.aT its.length tx.length cuts.length true
  ·have ck:=aa hfu;clear hfu;go_wp2;go_ret2;exact wH br.out hN'.out ck.out cX.out (iq.out ck.out) h3 _ (by omega)
  have ck:=aa hfu;clear hfu;go_wp2;go_ret2;exact wI br.out hN'.out ck.out cX.out
 have hsl:=St.nw (r:=s.1.1.drop 1) gN da;have hq1:preB ⟨#[34,34]⟩ s=false:=by rw[e1];exact St.tv (by intro e;rw[e]at gN;simp at gN)
 have hq2:preB ⟨#[123,123]⟩ s=false:=by rw[e2];exact St.tv (by intro e;rw[e]at da;simp at da)
 have d34:((s[0].toNat:Int)==34)=false:=by simp;omega
 have d123:((s[0].toNat:Int)==123)=false:=by simp;omega
 rw[<-hcr]at hsl;have br:=aa hsl;rw[hq1]at hp1;rw[hq2]at hp2;have nI:=aa hp1;have gL:=aa hp2;clear hsl hp1 hp2 e1 e2 hq1 hq2 hcr hl h hN gN da;go_enter Tryz.func173,Tryz.ntmps173;go_wp2_with fail;refine(nI.out _).mono ?_;rintro e w' ⟨rfl,rfl⟩;go_wp2_with fail;refine(gL.out _).mono ?_;rintro e w' ⟨rfl,rfl⟩;go_wp2_with fail;refine hby.out.mono ?_;rintro e w' ⟨rfl,eO,hbl⟩;have iq:=aa eO;have cX:=aa hbl;clear eO hbl;cases hfu:St.aT its.length tx.length cuts.length true
 ·have ck:=aa hfu;clear hfu;go_wp2;go_ret2;exact wH br.out hN'.out ck.out cX.out (iq.out ck.out) h3 _ (by omega)
 have ck:=aa hfu;clear hfu;go_wp2;go_ret2;exact wI br.out hN'.out ck.out cX.out
end
section
def gf(au:ByteArray):List St.It × List Nat × Nat × Int:=St.dec St.ch au.size au.1.1 0 0 [] []
def pH(au:ByteArray)(w:VO)(e:Ending)(w':VO):Prop:=
 ac w w'/\((∃its tx cuts,e=VL (VI #[VH (some ⟨w.1.size,0,none⟩),VD VJ 0,VD VJ 0])/\b7 w' w.1.size w.1.size its tx cuts/\its.length<=512/\cuts.length<=1024/\tx.length<=cuts.length/\gf au=(its++St.b8 tx,cuts++[au.size],0,0))\/
  ∃(a:Nat) (er:Int),er≠0/\e=VL (VI #[VH none,VD VJ a,VD VJ er])/\gf au=([],[],a,er))
def DR(w:VO)(au:ByteArray)(s6:Value)(wr:VO):Prop:=
 ∃(a:Nat) (its:List St.It) (tx:List UInt8) (cuts:List Nat) (fuel:Nat),s6=VD VJ a/\a<=au.size/\au.size-a<=fuel/\b7 wr w.1.size w.1.size its tx cuts/\St.fz its/\its.length<=512/\cuts.length<=1024/\tx.length<=cuts.length /\
  gf au=St.dec St.ch fuel (au.1.1.drop a) a a (its++St.b8 tx) cuts/\ac w wr
theorem b7.fresh(w:VO):b7 (w.alloc (.cells #[VF none 0 0,VF none 0 0,VF none 0 0] 127)) w.1.size w.1.size [] [] []:=
 ⟨_,_,_,Nat.le_refl _,heap_alloc_new w _,World.ownsRow_nil _ _ _ _,World.ownsRow_nil _ _ _ _,World.ownsRow_nil _ _ _ _⟩
theorem jM(au:ByteArray)(w:VO)(hr:au.size<=4611686018427387904):Calls Tryz.prog 127 #[VE au] w (pH au w):=by
 have mT:=aa (b7.fresh w);go_enter Tryz.func127,Tryz.ntmps127;go_wp2;go_loopw [6] (λs6 wr=>DR w au s6 wr) (λs6 _=>au.size+1-(intOf s6).toNat)
 case atStart=>exact⟨0,[],[],[],au.size,rfl,by omega,by omega,mT.out,St.o5,by simp,by simp,by simp,by simp[gf,St.b8],uZ⟩
 case round=>
  obtain⟨a,its,tx,cuts,fuel,rfl,ha,hfu,hB,hN,h1,h2,h3,hD,hu⟩:=hrel;clear mT
  by_cases hlt:a<au.size
  ·have hel:=kg wr w.1.size w.1.size its tx cuts au a hB hN h1 h2 h3 hu.size hlt hr;have jk:=aa hel;have HD:=aa hD;have HU:=aa hu
   have h0:au.1.1.drop a≠[]:=by
    intro e;have:=congrArg List.length e
    simp at this;omega
   obtain⟨fuel,rfl⟩:∃m,fuel=m+1:=⟨fuel-1,by omega⟩;clear hel hB hN hD hu;go_wp2_with fail;refine jk.out.mono ?_;rintro e w2 ⟨hbl,hm⟩;have hu2:ac w w2:=ac.cm (Below.trans HU.out.below hbl);have aW:=aa hu2;clear hbl hu2;cases hs:St.ch (au.1.1.drop a)with
   | none=>
    rw[hs]at hm;subst hm;have hd2:=HD.out.trans (St.nV fuel a a _ cuts h0 hs);have bJ:=aa hd2;clear hd2 hs h0;go_wp2;go_ret3;exact⟨aW.out,.inr ⟨a,2,by decide,rfl,bJ.out⟩⟩
   | some x=>
    obtain⟨k,t,n⟩:=x;rw[hs]at hm;simp only at hm;obtain⟨hk,fZ,eV⟩:=St.sM hs;have gV:k≠0:=by omega
    split at hm
    ·rename_i hf
     subst hm;have hd2:=HD.out.trans (St.nU fuel a a _ cuts h0 hs gV hf);have bJ:=aa hd2;clear hd2 hs h0 hf;go_wp2;go_ret3;exact⟨aW.out,.inr ⟨a,3,by decide,rfl,bJ.out⟩⟩
    rename_i hf
    obtain⟨rfl,fy,ja,hB',hN',hadd,ht'⟩:=hm;have hd2:=HD.out.trans (St.nW fuel a a _ cuts h0 hs gV hf);rw[<-hadd]at hd2 hf;have iX:(au.1.1.drop a).drop n=au.1.1.drop (a+n):=by rw[List.drop_drop]
    rw[iX]at hd2;have mW:a+n<=au.size:=by simp at eV;omega
    have C8:fy.length<=512:=by have:=(not_or.1 hf).1;simp at this;omega
    have QY:cuts.length+1<=1024:=by have:=(not_or.1 hf).2;omega
    have HE:=aa (And.intro hd2 (And.intro hB' hN'));clear hd2 hB' hN' hadd hf hs h0 iX jk HD HU;go_wp2;exact⟨⟨a+n,fy,ja,cuts++[a],fuel,congrArg (VD VJ) (by omega),mW,by omega,HE.out.2.1,HE.out.2.2,C8,by simp;omega,by simp;omega,HE.out.1,aW.out⟩,by simp[intOf];omega⟩
  have vy:a=au.size:=by omega
  subst vy;have hnil:au.1.1.drop au.size=[]:=List.drop_of_length_le (by simp);rw[hnil,St.pM]at hD;have HE:=aa (And.intro hu (And.intro hB hD));clear hlt hB hN hD hu hnil;go_wp2;go_ret3;exact⟨HE.out.1,.inl ⟨its,tx,cuts,rfl,HE.out.2.1,h1,h2,h3,HE.out.2.2⟩⟩
def ju(R:List St.It × List Nat × Nat × Int)(w:VO)(e:Ending)(w':VO):Prop:=
 ∃(A:Option Addr) (c:Nat),e=VL (VI #[VF A R.1.length c,VD VJ (R.2.2.1:Int),VD VJ R.2.2.2])/\aE w' A R.1/\R.1.length<=c/\c<=9223372036854775807/\ac w w'
def eR(R:List St.It × List Nat × Nat × Int)(w:VO)(e:Ending)(w':VO):Prop:=
 ∃(A:Option Addr) (c:Nat),e=VL (VI #[VF A R.2.1.length c,VD VJ R.2.2.2])/\iz w' A R.2.1/\R.2.1.length<=c/\c<=9223372036854775807/\ac w w'
theorem tU(au:ByteArray)(w:VO)(hr:au.size<=4611686018427387904):Calls Tryz.prog 92 #[VE au] w (ju (gf au) w):=by
 have HR:=aa (jM au w hr);go_enter Tryz.func92,Tryz.ntmps92;go_wp2_with fail;refine HR.out.mono ?_;rintro e w2 ⟨hu,⟨its,tx,cuts,rfl,hB,h1,h2,h3,hD⟩|⟨a,er,her,rfl,hD⟩⟩
 ·have HI:=aa (oX w2 w.1.size w.1.size its tx cuts hB (by omega) (by omega) hu.size);have HU:=aa hu;have HD:=aa hD;clear hu hB hD HR;go_wp2_with fail;refine HI.out.mono ?_;rintro e w3 ⟨A,c,rfl,hI,hc1,hc2,hbl⟩;have HE:=aa (And.intro hI (ac.cm (Below.trans HU.out.below hbl)));have n8:=aa hc1;clear hI hbl hc1;go_wp2;go_ret3;unfold ju;rw[HD.out];exact⟨A,c,by simp only[List.length_append];rfl,HE.out.1,n8.out,hc2,HE.out.2⟩
 have hb:(er==0)=false:=by simpa using her
 have HU:=aa hu;have HD:=aa hD;clear hu hD HR;go_wp2;go_ret3;unfold ju;rw[HD.out];exact⟨none,0,rfl,λh=>absurd h (by simp),by simp,by omega,HU.out⟩
theorem H9(au:ByteArray)(w:VO)(hr:au.size<=4611686018427387904):Calls Tryz.prog 88 #[VE au] w (eR (gf au) w):=by
 have HR:=aa (jM au w hr);go_enter Tryz.func88,Tryz.ntmps88;go_wp2_with fail;refine HR.out.mono ?_;rintro e w2 ⟨hu,⟨its,tx,cuts,rfl,hB,h1,h2,h3,hD⟩|⟨a,er,her,rfl,hD⟩⟩
 ·have HI:=aa (oL w2 w.1.size w.1.size its tx cuts au.size hB (by omega) hu.size);have HU:=aa hu;have HD:=aa hD;clear hu hB hD HR;go_wp2_with fail;refine HI.out.mono ?_;rintro e w3 ⟨A,c,rfl,hI,hc1,hc2,hbl⟩;have HE:=aa (And.intro hI (ac.cm (Below.trans HU.out.below hbl)));have n8:=aa hc1;clear hI hbl hc1;go_wp2;go_ret2;unfold eR;rw[HD.out];exact⟨A,c,by simp,HE.out.1,by simpa using n8.out,hc2,HE.out.2⟩
 have hb:(er==0)=false:=by simpa using her
 have HU:=aa hu;have HD:=aa hD;clear hu hD HR;go_wp2;go_ret2;unfold eR;rw[HD.out];exact⟨none,0,rfl,λh=>absurd h (by simp),by simp,by omega,HU.out⟩
end
section
namespace St
theorem ow{c:UInt8}{r:List UInt8}(h:c.toNat≠34):bX (c :: r)=(bX r).map (·+1):=by
 rw[bX.eq_def];simp only;rw[if_neg h]
theorem qT{c d:UInt8}{r:List UInt8}(h:c.toNat=34)(h2:d.toNat=34):bX (c :: d :: r)=(bX r).map (·+2):=by
 rw[bX,if_pos h];show(if d.toNat=34 then _ else _)=_;rw[if_pos h2]
theorem qR{c d:UInt8}{r:List UInt8}(h:c.toNat=34)(h2:d.toNat≠34):bX (c :: d :: r)=some 1:=by
 rw[bX,if_pos h];show(if d.toNat=34 then _ else _)=_;rw[if_neg h2]
theorem pv{c:UInt8}(h:c.toNat=34):bX [c]=some 1:=by
 rw[bX,if_pos h]
theorem Ln(c:UInt8):Lib.indexByte [34,44,10] c<0 ↔ fi c=true:=by
 by_cases h1:c=34
 ·subst h1;decide
 by_cases h2:c=44
 ·subst h2;decide
 by_cases h3:c=10
 ·subst h3;decide
 have b1:((34:UInt8)==c)=false:=by simpa using λe=>h1 e.symm
 have b2:((44:UInt8)==c)=false:=by simpa using λe=>h2 e.symm
 have b3:((10:UInt8)==c)=false:=by simpa using λe=>h3 e.symm
 have hi:Lib.indexByte [34,44,10] c=-1:=by simp[Lib.indexByte,b1,b2,b3]
 have hb:fi c=true:=by
  unfold fi;rw[decide_eq_true_iff];exact⟨λe=>h1 (UInt8.toNat_inj.1 e),λe=>h2 (UInt8.toNat_inj.1 e),λe=>h3 (UInt8.toNat_inj.1 e)⟩
 rw[hi,hb];decide
theorem xR:dx []=some (0,false):=rfl
theorem wL{c:UInt8}{r:List UInt8}(h:c.toNat=34):dx (c :: r)=(match bX r with
   | none=>none
   | some n=>if fc (r.drop n)then some (n+1,true)else none):=by
 rw[dx,if_pos h];cases bX r<;>rfl
theorem tf{l:List UInt8}(h:∀c r,l=c :: r->c.toNat≠34):dx l=if fc (l.drop (l.takeWhile fi).length)then some ((l.takeWhile fi).length,false)else none:=by
 cases l with
 | nil=>rfl
 | cons c r=>rw[dx,if_neg (h c r rfl)]
end St
theorem Ea{d:List UInt8}{a j:Nat}(h:St.dx (d.drop a)=(match St.bX (d.drop (a+1))with
   | none=>none
   | some n=>if St.fc ((d.drop (a+1)).drop n)then some (n+1,true)else none)) (hq:St.bX (d.drop (a+1))=some (j-a)) (hj:a+1<=j):St.dx (d.drop a)=if St.fc (d.drop (j+1))=true then some (j+1-a,true)else none:=by
 rw[h,hq];simp only[List.drop_drop];rw[show a+1+(j-a)=j+1 by omega,show j-a+1=j+1-a by omega]
def ua(l:List UInt8)(a:Nat)(w:VO)(e:Ending)(w':VO):Prop:=
 ac w w'/\match St.dx l with
  | none=>∃x y,e=VL (VI #[VD VJ x,VG y,VG false])
  | some (k,q)=>e=VL (VI #[VD VJ ((a+k:Nat):Int),VG q,VG true])
theorem eT{l:List UInt8}{a k:Nat}{w w':VO}{q b bb:Bool}{m:Int}(h:St.dx l=if bb=true then some (k,q)else none)(hb:bb=b)(hm:m=((a+k:Nat):Int))(hu:ac w w') :
  ua l a w (VL (VI #[VD VJ m,VG q,VG b])) w':=by
 refine⟨hu,?_⟩;subst hb hm;rw[h];cases bb
 ·exact⟨_,_,rfl⟩
 rfl
def Nq(w:VO)(d:ByteArray)(b:Nat)(s4:Value)(wr:VO):Prop:=∃j:Nat,s4=VD VJ j/\b<=j/\j<=d.size/\St.bX (d.1.1.drop b)=(St.bX (d.1.1.drop j)).map (·+(j-b))/\ac w wr
def Is(w:VO)(d:ByteArray)(a:Nat)(s4:Value)(wr:VO):Prop:=∃j:Nat,s4=VD VJ j/\a<=j/\j<=d.size/\((d.1.1.drop a).takeWhile St.fi).length=(j-a)+((d.1.1.drop j).takeWhile St.fi).length/\ac w wr
theorem xQ(d:ByteArray)(a:Nat)(w:VO)(ha:a<=d.size)(hd:d.size<=4611686018427387904):Calls Tryz.prog 169 #[VE d,VD VJ a] w (ua (d.1.1.drop a) a w):=by
 by_cases hlt:a<d.size
 ·have aw:=St.drop_at d a hlt
  by_cases gN:d[a].toNat=34
  ·have hF:=St.wL (r:=d.1.1.drop (a+1)) gN;rw[<-aw]at hF;have HF:=aa hF;have z1:(a:Int)<d.size:=by omega
   clear hF aw;go_enter Tryz.func169,Tryz.ntmps169;go_wp2;go_loopw [4] (λs4 wr=>Nq w d (a+1) s4 wr) (λs4 _=>d.size+1-(intOf s4).toNat)
   case atStart=>exact⟨a+1,congrArg (VD VJ) (by omega),by omega,by omega,by cases St.bX (d.1.1.drop (a+1))<;>simp,ac.refl _⟩
   case round=>
    obtain⟨j,rfl,pR,oR,hq,hu⟩:=hrel;have HQ:=aa hq;have HU:=aa hu;clear hq hu
    by_cases hjl:j<d.size
    ·have gm:=St.drop_at d j hjl
     by_cases mZ:d[j].toNat=34
     ·by_cases ik:j+1<d.size
      ·have oa:=St.drop_at d (j+1) ik
       by_cases yC:d[j+1].toNat=34
       ·have hs:=St.qT (r:=d.1.1.drop (j+1+1)) mZ yC;rw[<-oa,<-gm]at hs;have HS:=aa hs;have z2:(j:Int)<d.size:=by omega
        have z3:(j:Int)+1<d.size:=by omega
        clear hs gm oa HF;go_wp2;refine⟨⟨j+2,congrArg (VD VJ) (by omega),by omega,by omega,?_,HU.out⟩,by simp[intOf];omega⟩;rw[HQ.out,HS.out];cases St.bX (d.1.1.drop (j+1+1))with
        | none=>rfl
        | some n=>simp;omega
       have hs:=St.qR (r:=d.1.1.drop (j+1+1)) mZ yC;rw[<-oa,<-gm]at hs;have HS:=aa hs;have z2:(j:Int)<d.size:=by omega
       have z3:(j:Int)+1<d.size:=by omega
       have OC:((d[j+1].toNat:Int)==34)=false:=by simp;omega
       have hq2:St.bX (d.1.1.drop (a+1))=some (j-a):=by rw[HQ.out,HS.out];simp;omega
       have hf2:=aa (Ea HF.out hq2 pR);have eU:St.fc (d.1.1.drop (j+1))=decide (d[j+1].toNat=44\/d[j+1].toNat=10):=by rw[oa];rfl
       have z4:(((j:Int)+1==(d.size:Int))=false):=by simp;omega
       clear hs gm oa hlt gN HF HQ HS hq2;have HF:=hf2;clear hf2
       by_cases pW:d[j+1].toNat=44
       ·have vO:((d[j+1].toNat:Int)==44)=true:=by simp;omega
        have eg:=aa (show St.fc (d.1.1.drop (j+1))=true by rw[eU];simp[pW]);clear eU;go_wp2_with fail;go_region
        all_goals
         go_wp2;go_ret3;exact eT HF.out eg.out (by omega) HU.out.drew
       have vO:((d[j+1].toNat:Int)==44)=false:=by simp;omega
       by_cases k10:d[j+1].toNat=10
       ·have m10:((d[j+1].toNat:Int)==10)=true:=by simp;omega
        have eg:=aa (show St.fc (d.1.1.drop (j+1))=true by rw[eU];simp[k10]);clear eU;go_wp2_with fail;go_region
        all_goals
         go_wp2;go_ret3;exact eT HF.out eg.out (by omega) HU.out.drew
       have m10:((d[j+1].toNat:Int)==10)=false:=by simp;omega
       have eg:=aa (show St.fc (d.1.1.drop (j+1))=false by rw[eU];simp[pW,k10]);clear eU;go_wp2_with fail;go_region
       all_goals
        go_wp2;go_ret3;exact eT HF.out eg.out (by omega) HU.out.drew
      have pS:j+1=d.size:=by omega
      have hnil:=St.fI d (j+1) (by omega);have hs:=St.pv mZ;rw[hnil]at gm;rw[<-gm]at hs;have hq2:St.bX (d.1.1.drop (a+1))=some (j-a):=by rw[HQ.out,hs];simp;omega
      have hf2:=aa (Ea HF.out hq2 pR);have eg:=aa (show St.fc (d.1.1.drop (j+1))=true by rw[hnil];rfl);have z2:(j:Int)<d.size:=by omega
      have z3:¬(j:Int)+1<d.size:=by omega
      have z4:(((j:Int)+1==(d.size:Int))=true):=by simp;omega
      clear hs gm hnil hlt gN HF HQ hq2 pS ik;have HF:=hf2;clear hf2;go_wp2_with fail;go_region
      all_goals
       go_wp2;go_ret3;exact eT HF.out eg.out (by omega) HU.out.drew
     have hs:=St.ow (r:=d.1.1.drop (j+1)) mZ;rw[<-gm]at hs;have HS:=aa hs;have z2:(j:Int)<d.size:=by omega
     have OF:((d[j].toNat:Int)==34)=false:=by simp;omega
     clear hs gm HF;go_wp2;refine⟨⟨j+1,congrArg (VD VJ) (by omega),by omega,by omega,?_,HU.out⟩,by simp[intOf];omega⟩;rw[HQ.out,HS.out];cases St.bX (d.1.1.drop (j+1))with
     | none=>rfl
     | some n=>simp;omega
    have pS:j=d.size:=by omega
    subst pS;have hnil:d.1.1.drop d.size=[]:=List.drop_of_length_le (by simp);have hq2:St.bX (d.1.1.drop (a+1))=none:=by rw[HQ.out,hnil];rfl
    have FM:=aa hq2;clear hjl hq2 hnil;go_wp2;go_ret3;refine⟨HU.out,?_⟩;rw[HF.out,FM.out];exact⟨_,_,rfl⟩
  have Nu:((d[a].toNat:Int)==34)=false:=by simp;omega
  have u3:=aa (St.tf (l:=d.1.1.drop a) (λc r e=>by rw[aw]at e;simp only[List.cons.injEq]at e;rw[<-e.1];exact gN));have z1:(a:Int)<d.size:=by omega
  clear aw gN;go_enter Tryz.func169,Tryz.ntmps169;go_wp2;go_loopw [4] (λs4 wr=>Is w d a s4 wr) (λs4 _=>d.size+1-(intOf s4).toNat)
  case atStart=>exact⟨a,rfl,by omega,by omega,by simp,ac.refl _⟩
  case round=>
   obtain⟨j,rfl,pR,oR,hq,hu⟩:=hrel;have HQ:=aa hq;have HU:=aa hu;clear hq hu
   by_cases hjl:j<d.size
   ·have gm:=St.drop_at d j hjl;have bK:=λW=>Tryz.strings_IndexByte ⟨#[34,44,10]⟩ (d[j].toNat:Int) W
    have hbk:((d[j].toNat:Int).toNat.toUInt8)=d[j]:=by simp
    have sn:=St.Ln d[j];rw[hbk,show(⟨#[34,44,10]⟩:ByteArray).1.1=[34,44,10]from rfl]at bK;generalize Lib.indexByte [34,44,10] d[j]=v at bK sn;have dQ:=aa bK;have z2:(j:Int)<d.size:=by omega
    cases hbc:St.fi d[j]
    ·have hv:¬v<0:=λh=>by rw[sn.1 h]at hbc;cases hbc
     have eW:(d.1.1.drop j).takeWhile St.fi=[]:=by rw[gm,List.takeWhile_cons_of_neg (by simp[hbc])]
     have hlen:((d.1.1.drop a).takeWhile St.fi).length=j-a:=by rw[HQ.out,eW];simp
     have hf2:=u3.out;rw[hlen,List.drop_drop,show a+(j-a)=j by omega]at hf2;have HF:=aa hf2;have eU:St.fc (d.1.1.drop j)=decide (d[j].toNat=44\/d[j].toNat=10):=by rw[gm];rfl
     have z4:(((j:Int)==(d.size:Int))=false):=by simp;omega
     clear hf2 hlen eW gm bK hbk sn hbc;go_wp2_with fail;refine(dQ.out _).mono ?_;rintro e w' ⟨rfl,rfl⟩
     by_cases pW:d[j].toNat=44
     ·have vO:((d[j].toNat:Int)==44)=true:=by simp;omega
      have eg:=aa (show St.fc (d.1.1.drop (j))=true by rw[eU];simp[pW]);clear eU;go_wp2_with fail;go_region
      all_goals
       go_wp2;go_ret3;exact eT HF.out eg.out (by omega) HU.out.drew
     have vO:((d[j].toNat:Int)==44)=false:=by simp;omega
     by_cases k10:d[j].toNat=10
     ·have m10:((d[j].toNat:Int)==10)=true:=by simp;omega
      have eg:=aa (show St.fc (d.1.1.drop (j))=true by rw[eU];simp[k10]);clear eU;go_wp2_with fail;go_region
      all_goals
       go_wp2;go_ret3;exact eT HF.out eg.out (by omega) HU.out.drew
     have m10:((d[j].toNat:Int)==10)=false:=by simp;omega
     have eg:=aa (show St.fc (d.1.1.drop (j))=false by rw[eU];simp[pW,k10]);clear eU;go_wp2_with fail;go_region
     all_goals
      go_wp2;go_ret3;exact eT HF.out eg.out (by omega) HU.out.drew
    have hv:v<0:=sn.2 hbc;have eW:((d.1.1.drop j).takeWhile St.fi).length=((d.1.1.drop (j+1)).takeWhile St.fi).length+1:=by rw[gm,List.takeWhile_cons_of_pos hbc];simp
    have FT:=aa eW;clear eW gm bK hbk sn hbc;go_wp2_with fail;refine(dQ.out _).mono ?_;rintro e w' ⟨rfl,rfl⟩;go_wp2;refine⟨⟨j+1,congrArg (VD VJ) (by omega),by omega,by omega,?_,HU.out⟩,by simp[intOf];omega⟩;rw[HQ.out,FT.out];omega
   have pS:j=d.size:=by omega
   have hnil:=St.fI d j (by omega);have hlen:((d.1.1.drop a).takeWhile St.fi).length=j-a:=by rw[HQ.out,hnil];simp
   have hf2:=u3.out;rw[hlen,List.drop_drop,show a+(j-a)=j by omega]at hf2;have HF:=aa hf2;have eg:=aa (show St.fc (d.1.1.drop j)=true by rw[hnil];rfl);have z2:¬(j:Int)<d.size:=by omega
   have z4:(((j:Int)==(d.size:Int))=true):=by simp;omega
   clear hf2 hlen hnil pS hjl HQ;go_wp2_with fail;go_region
   all_goals
    go_wp2;go_ret3;exact eT HF.out eg.out (by omega) HU.out.drew
 have K3:=St.fI d a (by omega);have u3:=aa (St.tf (l:=d.1.1.drop a) (λc r e=>by rw[K3]at e;cases e));have z1:¬(a:Int)<d.size:=by omega
 clear K3;go_enter Tryz.func169,Tryz.ntmps169;go_wp2;go_loopw [4] (λs4 wr=>Is w d a s4 wr) (λs4 _=>d.size+1-(intOf s4).toNat)
 case atStart=>exact⟨a,rfl,by omega,by omega,by simp,ac.refl _⟩
 case round=>
  obtain⟨j,rfl,pR,oR,hq,hu⟩:=hrel;have HQ:=aa hq;have HU:=aa hu;clear hq hu
  by_cases hjl:j<d.size
  ·exact absurd hjl (by omega)
  have pS:j=d.size:=by omega
  have hnil:=St.fI d j (by omega);have hlen:((d.1.1.drop a).takeWhile St.fi).length=j-a:=by rw[HQ.out,hnil];simp
  have hf2:=u3.out;rw[hlen,List.drop_drop,show a+(j-a)=j by omega]at hf2;have HF:=aa hf2;have eg:=aa (show St.fc (d.1.1.drop j)=true by rw[hnil];rfl);have z2:¬(j:Int)<d.size:=by omega
  have z4:(((j:Int)==(d.size:Int))=true):=by simp;omega
  clear hf2 hlen hnil pS hjl HQ;go_wp2_with fail;go_region
  all_goals
   go_wp2;go_ret3;exact eT HF.out eg.out (by omega) HU.out.drew
end
section
def TV(w:VO)(tb pb:Nat)(d:ByteArray)(r bf aN texts:Nat):Prop:=
 w.1[tb]?=some (Obj.cells #[VE d,VH (some ⟨pb,0,none⟩),VD VJ r,VD VJ bf,VD VJ aN,VD VJ texts] 174 (0,0))
theorem TV.ah{a c:VO}{tb pb:Nat}{d:ByteArray}{r bf aN texts:Nat}(h:TV a tb pb d r bf aN texts)(u:ac a c):TV c tb pb d r bf aN texts:=(u.below.block tb (ae h)).trans h
theorem TV.tk{a c:VO}{tb pb:Nat}{d:ByteArray}{r bf aN texts:Nat}(h:TV a tb pb d r bf aN texts)(u:eL mI a c):TV c tb pb d r bf aN texts:=(u.2 tb _ _ _ h (by simp[mI])).trans h
theorem PV.OR{a c:VO}{B pb tb:Nat}{d:ByteArray}{s:St.PS}{r bf aN texts T4:Nat}{d':ByteArray}(h:PV a B pb d s)(ht:TV a tb T4 d' r bf aN texts)(g:a.grownBy c (some tb)):PV c B pb d s:=by
 obtain⟨h0,v,h1,h2⟩:=h
 have hne:pb≠tb:=λe=>by
  subst e;unfold TV at ht;rw[h1]at ht;simp at ht
 exact⟨h0,v,(g.block pb (ae h1) (by simpa using hne)).trans h1,h2.kept g (Or.inr (aQ h2 ht (by decide)))⟩
def pc:ByteArray:=⟨#[116,101,120,116]⟩
theorem Ev(w:VO)(tb pb:Nat)(d:ByteArray)(bf aN texts a b n:Nat)(h:TV w tb pb d 0 bf aN texts)(hab:a<=b)(hb:b<=d.size)(hd:d.size<=4611686018427387904)(hn:n<=4611686018427387904)(ht:texts<=4611686018427387904) :
  Calls Tryz.prog 170 #[VH (some ⟨tb,0,none⟩),VD VJ a,VD VJ b,VD VJ n] w λe w'=>e=VL (VI #[]) /\
   TV w' tb pb d 0 (n+1) (if St.be d.1.1 a b==[116,101,120,116]then n else aN) (if St.be d.1.1 a b==[116,101,120,116]then texts+1 else texts)/\w.grownBy w' (some tb):=by
 have hv:=h;unfold TV at hv;have c0:w.cell? ⟨tb,0,none⟩=some (VE d):=ai hv 0;have c3:w.cell? ⟨tb,3,none⟩=some (VD VJ bf):=ai hv 3;have c4:w.cell? ⟨tb,4,none⟩=some (VD VJ aN):=ai hv 4;have c5:w.cell? ⟨tb,5,none⟩=some (VD VJ texts):=ai hv 5;have f3:w.frozen? ⟨tb,3,none⟩=false:=bg hv 3;have f4:w.frozen? ⟨tb,4,none⟩=false:=bg hv 4;have f5:w.frozen? ⟨tb,5,none⟩=false:=bg hv 5;haveI:af tb w:=af.of (ae hv);have HV:=aa hv;rw[<-dU];obtain⟨s,hE⟩:∃s,d.extract a b=s:=⟨_,rfl⟩;rw[hE];have za:(0:Int)<=a:=by omega
 have VB:(a:Int)<=b:=by omega
 have zb:(b:Int)<=d.size:=by omega
 by_cases hs:s=pc
 ·subst hs;unfold pc at hE;have hif:((pc.1.1==[116,101,120,116])=true):=rfl;rw[if_pos hif,if_pos hif];clear hv h;go_enter Tryz.func170,Tryz.ntmps170;go_wp2;go_end0;refine⟨rfl,?_,bM (bM (cD w ⟨tb,5,none⟩ _) ⟨tb,4,none⟩ _ (Or.inl rfl)) ⟨tb,3,none⟩ _ (Or.inl rfl)⟩;exact heap_setCell_same _ tb 3 _ _ _ (heap_setCell_same _ tb 4 _ _ _ (heap_setCell_same _ tb 5 _ _ _ HV.out))
 have hif:¬((s.1.1==[116,101,120,116])=true):=by
  intro e;exact hs (rV _ _ (show s.1.1=pc.1.1 from eq_of_beq e))
 rw[if_neg hif,if_neg hif];have hne:(s.toList==[116,101,120,116])=false:=by rw[Lib.toList_data];exact Bool.eq_false_iff.2 hif
 clear hv h hif hs;go_enter Tryz.func170,Tryz.ntmps170;go_wp2;go_end0;exact⟨rfl,heap_setCell_same _ tb 3 _ _ _ HV.out,cD w ⟨tb,3,none⟩ _⟩
end
end Go.Proofs.YthoemdibbldndaaGreatDoor.Sh
