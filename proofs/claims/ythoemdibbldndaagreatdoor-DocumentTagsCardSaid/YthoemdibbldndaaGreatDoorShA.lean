/- The contract of sheet's element: what it gives is St.sheetL, behind the builder's limits. -/
import Derived.Test.YthoemdibbldndaaGreatDoorGC
import Derived.Test.YthoemdibbldndaaGreatDoorShelf
set_option linter.all false
set_option maxHeartbeats 0
set_option maxRecDepth 20000
open Go.Value renaming int->UM,string->UN,slice->UO,bool->UP,pointer->UQ,tuple->UR
open Go.IntKind renaming i64->US
open Go.Ending renaming returned->UU
open Go renaming World->UY
namespace Go.Proofs.YthoemdibbldndaaGreatDoor.Sh
open Go.RowKit Go.Proofs.YthoemdibbldndaaGreatDoor.St
section
abbrev bY (w:UY) (B b:Nat) (ah:List St.It) (tx:List UInt8) (cuts:List Nat):Prop:=_root_.Go.Proofs.YthoemdibbldndaaGreatDoor.bY 127 [] w B b ah tx cuts
instance:ub 127:=⟨by decide⟩
theorem EW(s t:ByteArray)(w:UY)(hs:s.size<=9223372036854775807)(ht:t.size<=9223372036854775807):Calls Tryz.prog 192 #[UN s,UN t] w λe w'=>e=UU (UP (preB t s))/\w=w':=by
 by_cases h:t.size<=s.size
 ·have z:(t.size:Int)<=(s.size:Int):=by omega
  go_enter Tryz.func192,Tryz.ntmps192;go_wp2;go_ret;refine⟨aD ?_,rfl⟩;unfold preB;rw[Lib.toList_data,Lib.toList_data,Lib.extract_data,<-St.ms];simp
 have z:¬(t.size:Int)<=(s.size:Int):=by omega
 have H:=aa h;clear h;go_enter Tryz.func192,Tryz.ntmps192;go_wp2;go_ret;have hz:preB t s=false:=St.uI _ _ (by have:=H.out;simp;omega);exact⟨aD hz.symm,rfl⟩
theorem rO(s t:ByteArray)(w:UY)(hs:s.size<=9223372036854775807)(ht:t.size<=9223372036854775807):Calls Tryz.prog 165 #[UN s,UN t] w λe w'=>e=UU (UP (preB t s))/\w=w':=by
 have H:=aa (EW s t w hs ht);go_enter Tryz.func165,Tryz.ntmps165;go_wp2_with fail;refine H.out.mono ?_;rintro e w' ⟨rfl,rfl⟩;go_wp2;go_ret;exact⟨rfl,rfl⟩
def tg(w:UY)(B b:Nat)(ah:List St.It)(tx:List UInt8)(cuts:List Nat)(l:List UInt8)(a:Nat)(e:Ending)(w':UY):Prop:=
 Below B w w'/\match St.ci l with
  | none=>e=UU (UR #[UM US a,UM US 2])
  | some (k,t,n)=>if 512<(St.aP (ah++St.b8 tx) (k,t,0)).length\/1024<=cuts.length then e=UU (UR #[UM US a,UM US 3])else
    e=UU (UR #[UM US ((a+n:Nat):Int),UM US 0])/\∃ft jm,bY w' B b ft jm (cuts++[a])/\St.fu ft/\ft++St.b8 jm=St.aP (ah++St.b8 tx) (k,t,0)/\jm.length<=cuts.length+1
theorem AD{w:UY}{B b:Nat}{ah:List St.It}{tx:List UInt8}{cuts:List Nat}{l:List UInt8}{a:Nat}{w':UY}(h:St.ci l=none)(hb:Below B w w'):tg w B b ah tx cuts l a (UU (UR #[UM US a,UM US 2])) w':=by
 refine⟨hb,?_⟩;rw[h]
theorem wO{w:UY}{B b:Nat}{ah:List St.It}{tx:List UInt8}{cuts:List Nat}{l:List UInt8}{a n:Nat}{c:UInt8}{w':UY}(h:St.ci l=some (1,[c],n))(hN:St.fu ah)(hf:St.aV ah.length tx.length cuts.length true=true)(hb:Below B w w') :
  tg w B b ah tx cuts l a (UU (UR #[UM US a,UM US 3])) w':=by
 refine⟨hb,?_⟩;rw[h];simp only;rw[if_pos ((St.lf hN c cuts.length).2 hf)];trivial
theorem wN{w:UY}{B b:Nat}{ah:List St.It}{tx:List UInt8}{cuts:List Nat}{l:List UInt8}{a n:Nat}{c:UInt8}{w':UY}(h:St.ci l=some (1,[c],n))(hN:St.fu ah)(hf:St.aV ah.length tx.length cuts.length true=false)(hb:Below B w w')
  (hB:bY w' B b ah (tx++[c]) (cuts++[a])) (ht:tx.length<=cuts.length) (m:Int) (hm:m=((a+n:Nat):Int)):tg w B b ah tx cuts l a (UU (UR #[UM US m,UM US 0])) w':=by
 refine⟨hb,?_⟩;rw[h];simp only;rw[if_neg (λh2=>by rw[(St.lf hN c cuts.length).1 h2]at hf;cases hf),hm];exact⟨rfl,ah,tx++[c],hB,hN,(St.qD hN c).symm,by simp;omega⟩
theorem Jz{w:UY}{B b:Nat}{ah:List St.It}{tx:List UInt8}{cuts:List Nat}{l:List UInt8}{a n:Nat}{t:List UInt8}{w':UY}(h:St.ci l=some (5,t,n))(hf:St.aV ah.length tx.length cuts.length false=true)(hb:Below B w w') :
  tg w B b ah tx cuts l a (UU (UR #[UM US a,UM US 3])) w':=by
 refine⟨hb,?_⟩;rw[h];simp only;rw[if_pos ((St.jI 5 t cuts.length (by decide)).2 hf)];trivial
theorem Mc{w:UY}{B b:Nat}{ah:List St.It}{tx:List UInt8}{cuts:List Nat}{l:List UInt8}{a n:Nat}{t:List UInt8}{w':UY}(h:St.ci l=some (5,t,n))(hf:St.aV ah.length tx.length cuts.length false=false)(hb:Below B w w')
  (hB:bY w' B b (ah++St.b8 tx++[(5,t,0)]) [] (cuts++[a])) (m:Int) (hm:m=((a+n:Nat):Int)):tg w B b ah tx cuts l a (UU (UR #[UM US m,UM US 0])) w':=by
 refine⟨hb,?_⟩;rw[h];simp only;rw[if_neg (λh2=>by rw[(St.jI 5 t cuts.length (by decide)).1 h2]at hf;cases hf),hm];exact⟨rfl,_,[],hB,St.lS _ 5 t 0 (by decide),by rw[St.qE 5 t (by decide)];simp[St.b8],by simp⟩
end
section
theorem ku(w:UY)(B b:Nat)(ah:List St.It)(tx:List UInt8)(cuts:List Nat)(raw:ByteArray)(a:Nat)(h:bY w B b ah tx cuts)(hN:St.fu ah)(h1:ah.length<=512)(h2:cuts.length<=1024)(h3:tx.length<=cuts.length)(hBw:B<=w.1.size)
  (ha:a<raw.size) (hr:raw.size<=4611686018427387904) :
  Calls Tryz.prog 173 #[UQ (some ⟨b,0,none⟩),UN raw,UM US a] w (tg w B b ah tx cuts (raw.1.1.drop a) a):=by
 obtain⟨s,hE⟩:∃s,raw.extract a raw.size=s:=⟨_,rfl⟩;have hsz:s.size=raw.size-a:=by rw[<-hE];simp
 have hs0:0<s.size:=by omega
 have hl:s.1.1=raw.1.1.drop a:=by rw[<-hE];simp;exact List.take_of_length_le (by simp)
 rw[<-hl];have hcr:s.1.1=s[0] :: s.1.1.drop 1:=St.fo s hs0;have hp1:=λW=>rO s ⟨#[34,34]⟩ W (by omega) (by show 2<=_;omega)
 have hp2:=λW=>rO s ⟨#[123,123]⟩ W (by omega) (by show 2<=_;omega)
 have e1:preB ⟨#[34,34]⟩ s=([34,34]:List UInt8).isPrefixOf (s[0] :: s.1.1.drop 1):=by unfold preB;rw[<-hcr]
 have e2:preB ⟨#[123,123]⟩ s=([123,123]:List UInt8).isPrefixOf (s[0] :: s.1.1.drop 1):=by unfold preB;rw[<-hcr]
 have hby:=aa (n5 w B b ah tx cuts s[0] a h (by omega) (by omega) (by omega) hBw);have ha1:(a:Int)<=raw.size:=by omega
 have ha2:¬raw.size<a:=by omega
 have hN':=aa hN
 by_cases gB:s[0].toNat=34
 ·have hsl:=St.ry (r:=s.1.1.drop 1) gB;have hq2:preB ⟨#[123,123]⟩ s=false:=by rw[e2];exact St.tC (by intro e;rw[e]at gB;simp at gB)
  have ND:((s[0].toNat:Int)==34)=true:=by simp;omega
  rw[<-e1,<-hcr]at hsl;cases hq1:preB ⟨#[34,34]⟩ s
  ·rw[hq1]at hsl;have bA:=aa hsl;rw[hq1]at hp1;rw[hq2]at hp2;have nY:=aa hp1;have gz:=aa hp2;clear hsl hp1 hp2 e1 e2 hq1 hq2 hcr hl h hN;go_enter Tryz.func173,Tryz.ntmps173;go_wp2_with fail;refine(nY.out _).mono ?_;rintro e w' ⟨rfl,rfl⟩;go_wp2_with fail;refine(gz.out _).mono ?_;rintro e w' ⟨rfl,rfl⟩;go_wp2;go_ret2;exact AD bA.out (Below.refl _ _)
  rw[hq1]at hsl;have bA:=aa hsl;rw[hq1]at hp1;have nY:=aa hp1;clear hsl hp1 hp2 e1 e2 hq1 hq2 hcr hl h hN;go_enter Tryz.func173,Tryz.ntmps173;go_wp2_with fail;refine(nY.out _).mono ?_;rintro e w' ⟨rfl,rfl⟩;go_wp2_with fail;have uo:=hby.out;rw[gB,show((34:Nat):Int)=34 from rfl]at uo;refine uo.mono ?_;rintro e w' ⟨rfl,eF,hbl⟩;have ie:=aa eF;have cZ:=aa hbl;clear eF hbl uo;cases hfu:St.aV ah.length tx.length cuts.length true
  ·have ck:=aa hfu;clear hfu;go_wp2;go_ret2;exact wN bA.out hN'.out ck.out cZ.out (ie.out ck.out) h3 _ (by omega)
  have ck:=aa hfu;clear hfu;go_wp2;go_ret2;exact wO bA.out hN'.out ck.out cZ.out
 by_cases db:s[0].toNat=123
 ·have hsl:=St.pv (r:=s.1.1.drop 1) db;have hq1:preB ⟨#[34,34]⟩ s=false:=by rw[e1];exact St.tC (by intro e;rw[e]at db;simp at db)
  rw[<-e2,<-hcr]at hsl;cases hq2:preB ⟨#[123,123]⟩ s
  ·rw[hq2]at hsl;simp only[Bool.false_eq_true,if_false]at hsl;rw[hq1]at hp1;rw[hq2]at hp2;have nY:=aa hp1;have gz:=aa hp2;have bM:=λW=>Tryz.strings_IndexByte s 125 W
   have lD:(125:Int).toNat.toUInt8=125:=rfl;rw[lD,hcr]at bM;rcases St.qw (r:=s.1.1.drop 1) db with⟨hi,hs⟩|⟨n,hi,hn,eR,hs⟩
   ·rw[hi]at bM;rw[<-hcr]at hs;rw[hs]at hsl;have bA:=aa hsl;have dS:=aa bM;clear hsl hp1 hp2 e1 e2 hq1 hq2 hcr hl h hN bM hi hs lD;go_enter Tryz.func173,Tryz.ntmps173;go_wp2_with fail;refine(nY.out _).mono ?_;rintro e w' ⟨rfl,rfl⟩;go_wp2_with fail;refine(gz.out _).mono ?_;rintro e w' ⟨rfl,rfl⟩;go_wp2_with fail;refine(dS.out _).mono ?_;rintro e w' ⟨rfl,rfl⟩;go_wp2;go_ret2;exact AD bA.out (Below.refl _ _)
   rw[hi]at bM;have hns:n+1<s.size:=by rw[<-hcr]at hn;simpa using hn
   obtain⟨x,hX⟩:∃x,s.extract 1 (n+1)=x:=⟨_,rfl⟩;have hxl:x.1.1=(s.1.1.drop 1).take n:=by rw[<-hX];simp
   have hxs:x.size<=s.size:=by rw[<-hX];simp;omega
   have a8:=λW=>j7 x W (by omega)
   rw[<-hcr,<-hxl]at hs;have z1:(1:Int)<=(n:Int)+1:=by omega
   have z2:(n:Int)+1<=s.size:=by omega
   have z3:¬(n:Int)+1<0:=by omega
   cases hnb:St.aB x.1.1
   ·rw[hnb]at hs a8;simp only[Bool.false_eq_true,if_false]at hs;rw[hs]at hsl;have bA:=aa hsl;have dS:=aa bM;have bl:=aa a8;clear hsl hp1 hp2 e1 e2 hq1 hq2 hcr hl h hN bM hi hs lD hn eR a8 hnb hxl;go_enter Tryz.func173,Tryz.ntmps173;go_wp2_with fail;refine(nY.out _).mono ?_;rintro e w' ⟨rfl,rfl⟩;go_wp2_with fail;refine(gz.out _).mono ?_;rintro e w' ⟨rfl,rfl⟩;go_wp2_with fail;refine(dS.out _).mono ?_;rintro e w' ⟨rfl,rfl⟩;go_wp2_with fail;refine(bl.out _).mono ?_;rintro e w' ⟨rfl,rfl⟩;go_wp2;go_ret2;exact AD bA.out (Below.refl _ _)
   rw[hnb]at hs a8;simp only[if_true]at hs;rw[hs]at hsl;simp only[Option.map_some]at hsl;have bA:=aa hsl;have dS:=aa bM;have bl:=aa a8;have hit:=aa (kO w B b ah tx cuts 5 0 x a h (by omega) (by omega) (by omega) hBw);clear hsl hp1 hp2 e1 e2 hq1 hq2 hcr hl h hN bM hi hs lD hn eR a8 hnb hxl;go_enter Tryz.func173,Tryz.ntmps173;go_wp2_with fail;refine(nY.out _).mono ?_;rintro e w' ⟨rfl,rfl⟩;go_wp2_with fail;refine(gz.out _).mono ?_;rintro e w' ⟨rfl,rfl⟩;go_wp2_with fail;refine(dS.out _).mono ?_;rintro e w' ⟨rfl,rfl⟩;go_wp2_with fail;refine(bl.out _).mono ?_;rintro e w' ⟨rfl,rfl⟩;go_wp2_with fail;refine hit.out.mono ?_;rintro e w' ⟨rfl,eF,hbl⟩;have ie:=aa eF;have cZ:=aa hbl;clear eF hbl;cases hfu:St.aV ah.length tx.length cuts.length false
   ·have ck:=aa hfu;clear hfu;go_wp2;go_ret2;exact Mc bA.out ck.out cZ.out (ie.out ck.out) _ (by omega)
   have ck:=aa hfu;clear hfu;go_wp2;go_ret2;exact Jz bA.out ck.out cZ.out
  rw[hq2]at hsl;have bA:=aa hsl;rw[hq1]at hp1;rw[hq2]at hp2;have nY:=aa hp1;have gz:=aa hp2;clear hsl hp1 hp2 e1 e2 hq1 hq2 hcr hl h hN;go_enter Tryz.func173,Tryz.ntmps173;go_wp2_with fail;refine(nY.out _).mono ?_;rintro e w' ⟨rfl,rfl⟩;go_wp2_with fail;refine(gz.out _).mono ?_;rintro e w' ⟨rfl,rfl⟩;go_wp2_with fail;have uo:=hby.out;rw[db,show((123:Nat):Int)=123 from rfl]at uo;refine uo.mono ?_;rintro e w' ⟨rfl,eF,hbl⟩;have ie:=aa eF;have cZ:=aa hbl;clear eF hbl uo;cases hfu:St.aV ah.length tx.length cuts.length true
  ·have ck:=aa hfu;clear hfu;go_wp2;go_ret2;exact wN bA.out hN'.out ck.out cZ.out (ie.out ck.out) h3 _ (by omega)
  have ck:=aa hfu;clear hfu;go_wp2;go_ret2;exact wO bA.out hN'.out ck.out cZ.out
 have hsl:=St.nM (r:=s.1.1.drop 1) gB db;have hq1:preB ⟨#[34,34]⟩ s=false:=by rw[e1];exact St.tC (by intro e;rw[e]at gB;simp at gB)
 have hq2:preB ⟨#[123,123]⟩ s=false:=by rw[e2];exact St.tC (by intro e;rw[e]at db;simp at db)
 have d34:((s[0].toNat:Int)==34)=false:=by simp;omega
 have d123:((s[0].toNat:Int)==123)=false:=by simp;omega
 rw[<-hcr]at hsl;have bA:=aa hsl;rw[hq1]at hp1;rw[hq2]at hp2;have nY:=aa hp1;have gz:=aa hp2;clear hsl hp1 hp2 e1 e2 hq1 hq2 hcr hl h hN gB db;go_enter Tryz.func173,Tryz.ntmps173;go_wp2_with fail;refine(nY.out _).mono ?_;rintro e w' ⟨rfl,rfl⟩;go_wp2_with fail;refine(gz.out _).mono ?_;rintro e w' ⟨rfl,rfl⟩;go_wp2_with fail;refine hby.out.mono ?_;rintro e w' ⟨rfl,eF,hbl⟩;have ie:=aa eF;have cZ:=aa hbl;clear eF hbl;cases hfu:St.aV ah.length tx.length cuts.length true
 ·have ck:=aa hfu;clear hfu;go_wp2;go_ret2;exact wN bA.out hN'.out ck.out cZ.out (ie.out ck.out) h3 _ (by omega)
 have ck:=aa hfu;clear hfu;go_wp2;go_ret2;exact wO bA.out hN'.out ck.out cZ.out
end
section
def gj(raw:ByteArray):List St.It × List Nat × Nat × Int:=St.dec St.ci raw.size raw.1.1 0 0 [] []
def pY(raw:ByteArray)(w:UY)(e:Ending)(w':UY):Prop:=
 ac w w'/\((∃ah tx cuts,e=UU (UR #[UQ (some ⟨w.1.size,0,none⟩),UM US 0,UM US 0])/\bY w' w.1.size w.1.size ah tx cuts/\ah.length<=512/\cuts.length<=1024/\tx.length<=cuts.length/\gj raw=(ah++St.b8 tx,cuts++[raw.size],0,0))\/
  ∃(a:Nat) (er:Int),er≠0/\e=UU (UR #[UQ none,UM US a,UM US er])/\gj raw=([],[],a,er))
def Es(w:UY)(raw:ByteArray)(s6:Value)(wr:UY):Prop:=
 ∃(a:Nat) (ah:List St.It) (tx:List UInt8) (cuts:List Nat) (fuel:Nat),s6=UM US a/\a<=raw.size/\raw.size-a<=fuel/\bY wr w.1.size w.1.size ah tx cuts/\St.fu ah/\ah.length<=512/\cuts.length<=1024/\tx.length<=cuts.length /\
  gj raw=St.dec St.ci fuel (raw.1.1.drop a) a a (ah++St.b8 tx) cuts/\ac w wr
theorem bY.fresh(w:UY):bY (w.alloc (.cells #[UO none 0 0,UO none 0 0,UO none 0 0] 127)) w.1.size w.1.size [] [] []:=
 ⟨_,_,_,Nat.le_refl _,heap_alloc_new w _,World.ownsRow_nil _ _ _ _,World.ownsRow_nil _ _ _ _,World.ownsRow_nil _ _ _ _⟩
theorem jT(raw:ByteArray)(w:UY)(hr:raw.size<=4611686018427387904):Calls Tryz.prog 127 #[UN raw] w (pY raw w):=by
 have nu:=aa (bY.fresh w);go_enter Tryz.func127,Tryz.ntmps127;go_wp2;go_loopw [6] (λs6 wr=>Es w raw s6 wr) (λs6 _=>raw.size+1-(intOf s6).toNat)
 case atStart=>exact⟨0,[],[],[],raw.size,rfl,by omega,by omega,nu.out,St.pk,by simp,by simp,by simp,by simp[gj,St.b8],uZ⟩
 case round=>
  obtain⟨a,ah,tx,cuts,fuel,rfl,ha,hfu,hB,hN,h1,h2,h3,hD,hu⟩:=hrel;clear nu
  by_cases hlt:a<raw.size
  ·have hel:=ku wr w.1.size w.1.size ah tx cuts raw a hB hN h1 h2 h3 hu.size hlt hr;have jv:=aa hel;have HD:=aa hD;have HU:=aa hu
   have h0:raw.1.1.drop a≠[]:=by
    intro e;have:=congrArg List.length e
    simp at this;omega
   obtain⟨fuel,rfl⟩:∃m,fuel=m+1:=⟨fuel-1,by omega⟩;clear hel hB hN hD hu;go_wp2_with fail;refine jv.out.mono ?_;rintro e w2 ⟨hbl,hm⟩;have hu2:ac w w2:=ac.cn (Below.trans HU.out.below hbl);have aZ:=aa hu2;clear hbl hu2;cases hs:St.ci (raw.1.1.drop a)with
   | none=>
    rw[hs]at hm;subst hm;have hd2:=HD.out.trans (St.ob fuel a a _ cuts h0 hs);have cC:=aa hd2;clear hd2 hs h0;go_wp2;go_ret3;exact⟨aZ.out,.inr ⟨a,2,by decide,rfl,cC.out⟩⟩
   | some x=>
    obtain⟨k,t,n⟩:=x;rw[hs]at hm;simp only at hm;obtain⟨hk,iS,fk⟩:=St.sT hs;have gL:k≠0:=by omega
    split at hm
    ·rename_i hf
     subst hm;have hd2:=HD.out.trans (St.oa fuel a a _ cuts h0 hs gL hf);have cC:=aa hd2;clear hd2 hs h0 hf;go_wp2;go_ret3;exact⟨aZ.out,.inr ⟨a,3,by decide,rfl,cC.out⟩⟩
    rename_i hf
    obtain⟨rfl,ft,jm,hB',hN',hadd,ht'⟩:=hm;have hd2:=HD.out.trans (St.oc fuel a a _ cuts h0 hs gL hf);rw[<-hadd]at hd2 hf;have iR:(raw.1.1.drop a).drop n=raw.1.1.drop (a+n):=by rw[List.drop_drop]
    rw[iR]at hd2;have nw:a+n<=raw.size:=by simp at fk;omega
    have Du:ft.length<=512:=by have:=(not_or.1 hf).1;simp at this;omega
    have QR:cuts.length+1<=1024:=by have:=(not_or.1 hf).2;omega
    have HE:=aa (And.intro hd2 (And.intro hB' hN'));clear hd2 hB' hN' hadd hf hs h0 iR jv HD HU;go_wp2;exact⟨⟨a+n,ft,jm,cuts++[a],fuel,congrArg (UM US) (by omega),nw,by omega,HE.out.2.1,HE.out.2.2,Du,by simp;omega,by simp;omega,HE.out.1,aZ.out⟩,by simp[intOf];omega⟩
  have vy:a=raw.size:=by omega
  subst vy;have hnil:raw.1.1.drop raw.size=[]:=List.drop_of_length_le (by simp);rw[hnil,St.qc]at hD;have HE:=aa (And.intro hu (And.intro hB hD));clear hlt hB hN hD hu hnil;go_wp2;go_ret3;exact⟨HE.out.1,.inl ⟨ah,tx,cuts,rfl,HE.out.2.1,h1,h2,h3,HE.out.2.2⟩⟩
def jB(R:List St.It × List Nat × Nat × Int)(w:UY)(e:Ending)(w':UY):Prop:=
 ∃(A:Option Addr) (c:Nat),e=UU (UR #[UO A R.1.length c,UM US (R.2.2.1:Int),UM US R.2.2.2])/\aO w' A R.1/\R.1.length<=c/\c<=9223372036854775807/\ac w w'
def eM(R:List St.It × List Nat × Nat × Int)(w:UY)(e:Ending)(w':UY):Prop:=
 ∃(A:Option Addr) (c:Nat),e=UU (UR #[UO A R.2.1.length c,UM US R.2.2.2])/\iw w' A R.2.1/\R.2.1.length<=c/\c<=9223372036854775807/\ac w w'
theorem tS(raw:ByteArray)(w:UY)(hr:raw.size<=4611686018427387904):Calls Tryz.prog 92 #[UN raw] w (jB (gj raw) w):=by
 have HR:=aa (jT raw w hr);go_enter Tryz.func92,Tryz.ntmps92;go_wp2_with fail;refine HR.out.mono ?_;rintro e w2 ⟨hu,⟨ah,tx,cuts,rfl,hB,h1,h2,h3,hD⟩|⟨a,er,her,rfl,hD⟩⟩
 ·have HI:=aa (ph w2 w.1.size w.1.size ah tx cuts hB (by omega) (by omega) hu.size);have HU:=aa hu;have HD:=aa hD;clear hu hB hD HR;go_wp2_with fail;refine HI.out.mono ?_;rintro e w3 ⟨A,c,rfl,hI,hc1,hc2,hbl⟩;have HE:=aa (And.intro hI (ac.cn (Below.trans HU.out.below hbl)));have ol:=aa hc1;clear hI hbl hc1;go_wp2;go_ret3;unfold jB;rw[HD.out];exact⟨A,c,by simp only[List.length_append];rfl,HE.out.1,ol.out,hc2,HE.out.2⟩
 have hb:(er==0)=false:=by simpa using her
 have HU:=aa hu;have HD:=aa hD;clear hu hD HR;go_wp2;go_ret3;unfold jB;rw[HD.out];exact⟨none,0,rfl,λh=>absurd h (by simp),by simp,by omega,HU.out⟩
theorem IJ(raw:ByteArray)(w:UY)(hr:raw.size<=4611686018427387904):Calls Tryz.prog 88 #[UN raw] w (eM (gj raw) w):=by
 have HR:=aa (jT raw w hr);go_enter Tryz.func88,Tryz.ntmps88;go_wp2_with fail;refine HR.out.mono ?_;rintro e w2 ⟨hu,⟨ah,tx,cuts,rfl,hB,h1,h2,h3,hD⟩|⟨a,er,her,rfl,hD⟩⟩
 ·have HI:=aa (oU w2 w.1.size w.1.size ah tx cuts raw.size hB (by omega) hu.size);have HU:=aa hu;have HD:=aa hD;clear hu hB hD HR;go_wp2_with fail;refine HI.out.mono ?_;rintro e w3 ⟨A,c,rfl,hI,hc1,hc2,hbl⟩;have HE:=aa (And.intro hI (ac.cn (Below.trans HU.out.below hbl)));have ol:=aa hc1;clear hI hbl hc1;go_wp2;go_ret2;unfold eM;rw[HD.out];exact⟨A,c,by simp,HE.out.1,by simpa using ol.out,hc2,HE.out.2⟩
 have hb:(er==0)=false:=by simpa using her
 have HU:=aa hu;have HD:=aa hD;clear hu hD HR;go_wp2;go_ret2;unfold eM;rw[HD.out];exact⟨none,0,rfl,λh=>absurd h (by simp),by simp,by omega,HU.out⟩
end
section
namespace St
theorem oH{c:UInt8}{r:List UInt8}(h:c.toNat≠34):bC (c :: r)=(bC r).map (·+1):=by
 rw[bC.eq_def];simp only;rw[if_neg h]
theorem rk{c d:UInt8}{r:List UInt8}(h:c.toNat=34)(h2:d.toNat=34):bC (c :: d :: r)=(bC r).map (·+2):=by
 rw[bC,if_pos h];show(if d.toNat=34 then _ else _)=_;rw[if_pos h2]
theorem ri{c d:UInt8}{r:List UInt8}(h:c.toNat=34)(h2:d.toNat≠34):bC (c :: d :: r)=some 1:=by
 rw[bC,if_pos h];show(if d.toNat=34 then _ else _)=_;rw[if_neg h2]
theorem pQ{c:UInt8}(h:c.toNat=34):bC [c]=some 1:=by
 rw[bC,if_pos h]
theorem L0(c:UInt8):Lib.indexByte [34,44,10] c<0 ↔ fc c=true:=by
 by_cases h1:c=34
 ·subst h1;decide
 by_cases h2:c=44
 ·subst h2;decide
 by_cases h3:c=10
 ·subst h3;decide
 have b1:((34:UInt8)==c)=false:=by simpa using λe=>h1 e.symm
 have b2:((44:UInt8)==c)=false:=by simpa using λe=>h2 e.symm
 have b3:((10:UInt8)==c)=false:=by simpa using λe=>h3 e.symm
 have hi:Lib.indexByte [34,44,10] c=-1:=by simp[Lib.indexByte,b1,b2,b3]
 have hb:fc c=true:=by
  unfold fc;rw[decide_eq_true_iff];exact⟨λe=>h1 (UInt8.toNat_inj.1 e),λe=>h2 (UInt8.toNat_inj.1 e),λe=>h3 (UInt8.toNat_inj.1 e)⟩
 rw[hi,hb];decide
theorem x6:cW []=some (0,false):=rfl
theorem wR{c:UInt8}{r:List UInt8}(h:c.toNat=34):cW (c :: r)=(match bC r with
   | none=>none
   | some n=>if ee (r.drop n)then some (n+1,true)else none):=by
 rw[cW,if_pos h];cases bC r<;>rfl
theorem tu{l:List UInt8}(h:∀c r,l=c :: r->c.toNat≠34):cW l=if ee (l.drop (l.takeWhile fc).length)then some ((l.takeWhile fc).length,false)else none:=by
 cases l with
 | nil=>rfl
 | cons c r=>rw[cW,if_neg (h c r rfl)]
end St
theorem EM{d:List UInt8}{a j:Nat}(h:St.cW (d.drop a)=(match St.bC (d.drop (a+1))with
   | none=>none
   | some n=>if St.ee ((d.drop (a+1)).drop n)then some (n+1,true)else none)) (hq:St.bC (d.drop (a+1))=some (j-a)) (hj:a+1<=j):St.cW (d.drop a)=if St.ee (d.drop (j+1))=true then some (j+1-a,true)else none:=by
 rw[h,hq];simp only[List.drop_drop];rw[show a+1+(j-a)=j+1 by omega,show j-a+1=j+1-a by omega]
def tX(l:List UInt8)(a:Nat)(w:UY)(e:Ending)(w':UY):Prop:=
 ac w w'/\match St.cW l with
  | none=>∃x y,e=UU (UR #[UM US x,UP y,UP false])
  | some (k,q)=>e=UU (UR #[UM US ((a+k:Nat):Int),UP q,UP true])
theorem eO{l:List UInt8}{a k:Nat}{w w':UY}{q b bb:Bool}{m:Int}(h:St.cW l=if bb=true then some (k,q)else none)(hb:bb=b)(hm:m=((a+k:Nat):Int))(hu:ac w w') :
  tX l a w (UU (UR #[UM US m,UP q,UP b])) w':=by
 refine⟨hu,?_⟩;subst hb hm;rw[h];cases bb
 ·exact⟨_,_,rfl⟩
 rfl
def Nz(w:UY)(d:ByteArray)(b:Nat)(s4:Value)(wr:UY):Prop:=∃j:Nat,s4=UM US j/\b<=j/\j<=d.size/\St.bC (d.1.1.drop b)=(St.bC (d.1.1.drop j)).map (·+(j-b))/\ac w wr
def Jb(w:UY)(d:ByteArray)(a:Nat)(s4:Value)(wr:UY):Prop:=∃j:Nat,s4=UM US j/\a<=j/\j<=d.size/\((d.1.1.drop a).takeWhile St.fc).length=(j-a)+((d.1.1.drop j).takeWhile St.fc).length/\ac w wr
theorem xZ(d:ByteArray)(a:Nat)(w:UY)(ha:a<=d.size)(hd:d.size<=4611686018427387904):Calls Tryz.prog 169 #[UN d,UM US a] w (tX (d.1.1.drop a) a w):=by
 by_cases hlt:a<d.size
 ·have ax:=St.drop_at d a hlt
  by_cases gB:d[a].toNat=34
  ·have hF:=St.wR (r:=d.1.1.drop (a+1)) gB;rw[<-ax]at hF;have HF:=aa hF;have z1:(a:Int)<d.size:=by omega
   clear hF ax;go_enter Tryz.func169,Tryz.ntmps169;go_wp2;go_loopw [4] (λs4 wr=>Nz w d (a+1) s4 wr) (λs4 _=>d.size+1-(intOf s4).toNat)
   case atStart=>exact⟨a+1,congrArg (UM US) (by omega),by omega,by omega,by cases St.bC (d.1.1.drop (a+1))<;>simp,ac.refl _⟩
   case round=>
    obtain⟨j,rfl,qg,lM,hq,hu⟩:=hrel;have HQ:=aa hq;have HU:=aa hu;clear hq hu
    by_cases hjl:j<d.size
    ·have gr:=St.drop_at d j hjl
     by_cases nA:d[j].toNat=34
     ·by_cases ia:j+1<d.size
      ·have oo:=St.drop_at d (j+1) ia
       by_cases yI:d[j+1].toNat=34
       ·have hs:=St.rk (r:=d.1.1.drop (j+1+1)) nA yI;rw[<-oo,<-gr]at hs;have HS:=aa hs;have z2:(j:Int)<d.size:=by omega
        have z3:(j:Int)+1<d.size:=by omega
        clear hs gr oo HF;go_wp2;refine⟨⟨j+2,congrArg (UM US) (by omega),by omega,by omega,?_,HU.out⟩,by simp[intOf];omega⟩;rw[HQ.out,HS.out];cases St.bC (d.1.1.drop (j+1+1))with
        | none=>rfl
        | some n=>simp;omega
       have hs:=St.ri (r:=d.1.1.drop (j+1+1)) nA yI;rw[<-oo,<-gr]at hs;have HS:=aa hs;have z2:(j:Int)<d.size:=by omega
       have z3:(j:Int)+1<d.size:=by omega
       have OL:((d[j+1].toNat:Int)==34)=false:=by simp;omega
       have hq2:St.bC (d.1.1.drop (a+1))=some (j-a):=by rw[HQ.out,HS.out];simp;omega
       have hf2:=aa (EM HF.out hq2 qg);have eQ:St.ee (d.1.1.drop (j+1))=decide (d[j+1].toNat=44\/d[j+1].toNat=10):=by rw[oo];rfl
       have z4:(((j:Int)+1==(d.size:Int))=false):=by simp;omega
       clear hs gr oo hlt gB HF HQ HS hq2;have HF:=hf2;clear hf2
       by_cases qk:d[j+1].toNat=44
       ·have vO:((d[j+1].toNat:Int)==44)=true:=by simp;omega
        have eP:=aa (show St.ee (d.1.1.drop (j+1))=true by rw[eQ];simp[qk]);clear eQ;go_wp2_with fail;go_region
        all_goals
         go_wp2;go_ret3;exact eO HF.out eP.out (by omega) HU.out.drew
       have vO:((d[j+1].toNat:Int)==44)=false:=by simp;omega
       by_cases k10:d[j+1].toNat=10
       ·have m10:((d[j+1].toNat:Int)==10)=true:=by simp;omega
        have eP:=aa (show St.ee (d.1.1.drop (j+1))=true by rw[eQ];simp[k10]);clear eQ;go_wp2_with fail;go_region
        all_goals
         go_wp2;go_ret3;exact eO HF.out eP.out (by omega) HU.out.drew
       have m10:((d[j+1].toNat:Int)==10)=false:=by simp;omega
       have eP:=aa (show St.ee (d.1.1.drop (j+1))=false by rw[eQ];simp[qk,k10]);clear eQ;go_wp2_with fail;go_region
       all_goals
        go_wp2;go_ret3;exact eO HF.out eP.out (by omega) HU.out.drew
      have qh:j+1=d.size:=by omega
      have hnil:=St.fD d (j+1) (by omega);have hs:=St.pQ nA;rw[hnil]at gr;rw[<-gr]at hs;have hq2:St.bC (d.1.1.drop (a+1))=some (j-a):=by rw[HQ.out,hs];simp;omega
      have hf2:=aa (EM HF.out hq2 qg);have eP:=aa (show St.ee (d.1.1.drop (j+1))=true by rw[hnil];rfl);have z2:(j:Int)<d.size:=by omega
      have z3:¬(j:Int)+1<d.size:=by omega
      have z4:(((j:Int)+1==(d.size:Int))=true):=by simp;omega
      clear hs gr hnil hlt gB HF HQ hq2 qh ia;have HF:=hf2;clear hf2;go_wp2_with fail;go_region
      all_goals
       go_wp2;go_ret3;exact eO HF.out eP.out (by omega) HU.out.drew
     have hs:=St.oH (r:=d.1.1.drop (j+1)) nA;rw[<-gr]at hs;have HS:=aa hs;have z2:(j:Int)<d.size:=by omega
     have ON:((d[j].toNat:Int)==34)=false:=by simp;omega
     clear hs gr HF;go_wp2;refine⟨⟨j+1,congrArg (UM US) (by omega),by omega,by omega,?_,HU.out⟩,by simp[intOf];omega⟩;rw[HQ.out,HS.out];cases St.bC (d.1.1.drop (j+1))with
     | none=>rfl
     | some n=>simp;omega
    have qh:j=d.size:=by omega
    subst qh;have hnil:d.1.1.drop d.size=[]:=List.drop_of_length_le (by simp);have hq2:St.bC (d.1.1.drop (a+1))=none:=by rw[HQ.out,hnil];rfl
    have Nr:=aa hq2;clear hjl hq2 hnil;go_wp2;go_ret3;refine⟨HU.out,?_⟩;rw[HF.out,Nr.out];exact⟨_,_,rfl⟩
  have ND:((d[a].toNat:Int)==34)=false:=by simp;omega
  have u4:=aa (St.tu (l:=d.1.1.drop a) (λc r e=>by rw[ax]at e;simp only[List.cons.injEq]at e;rw[<-e.1];exact gB));have z1:(a:Int)<d.size:=by omega
  clear ax gB;go_enter Tryz.func169,Tryz.ntmps169;go_wp2;go_loopw [4] (λs4 wr=>Jb w d a s4 wr) (λs4 _=>d.size+1-(intOf s4).toNat)
  case atStart=>exact⟨a,rfl,by omega,by omega,by simp,ac.refl _⟩
  case round=>
   obtain⟨j,rfl,qg,lM,hq,hu⟩:=hrel;have HQ:=aa hq;have HU:=aa hu;clear hq hu
   by_cases hjl:j<d.size
   ·have gr:=St.drop_at d j hjl;have bM:=λW=>Tryz.strings_IndexByte ⟨#[34,44,10]⟩ (d[j].toNat:Int) W
    have hbk:((d[j].toNat:Int).toNat.toUInt8)=d[j]:=by simp
    have sC:=St.L0 d[j];rw[hbk,show(⟨#[34,44,10]⟩:ByteArray).1.1=[34,44,10]from rfl]at bM;generalize Lib.indexByte [34,44,10] d[j]=v at bM sC;have dS:=aa bM;have z2:(j:Int)<d.size:=by omega
    cases hbc:St.fc d[j]
    ·have hv:¬v<0:=λh=>by rw[sC.1 h]at hbc;cases hbc
     have eR:(d.1.1.drop j).takeWhile St.fc=[]:=by rw[gr,List.takeWhile_cons_of_neg (by simp[hbc])]
     have hlen:((d.1.1.drop a).takeWhile St.fc).length=j-a:=by rw[HQ.out,eR];simp
     have hf2:=u4.out;rw[hlen,List.drop_drop,show a+(j-a)=j by omega]at hf2;have HF:=aa hf2;have eQ:St.ee (d.1.1.drop j)=decide (d[j].toNat=44\/d[j].toNat=10):=by rw[gr];rfl
     have z4:(((j:Int)==(d.size:Int))=false):=by simp;omega
     clear hf2 hlen eR gr bM hbk sC hbc;go_wp2_with fail;refine(dS.out _).mono ?_;rintro e w' ⟨rfl,rfl⟩
     by_cases qk:d[j].toNat=44
     ·have vO:((d[j].toNat:Int)==44)=true:=by simp;omega
      have eP:=aa (show St.ee (d.1.1.drop (j))=true by rw[eQ];simp[qk]);clear eQ;go_wp2_with fail;go_region
      all_goals
       go_wp2;go_ret3;exact eO HF.out eP.out (by omega) HU.out.drew
     have vO:((d[j].toNat:Int)==44)=false:=by simp;omega
     by_cases k10:d[j].toNat=10
     ·have m10:((d[j].toNat:Int)==10)=true:=by simp;omega
      have eP:=aa (show St.ee (d.1.1.drop (j))=true by rw[eQ];simp[k10]);clear eQ;go_wp2_with fail;go_region
      all_goals
       go_wp2;go_ret3;exact eO HF.out eP.out (by omega) HU.out.drew
     have m10:((d[j].toNat:Int)==10)=false:=by simp;omega
     have eP:=aa (show St.ee (d.1.1.drop (j))=false by rw[eQ];simp[qk,k10]);clear eQ;go_wp2_with fail;go_region
     all_goals
      go_wp2;go_ret3;exact eO HF.out eP.out (by omega) HU.out.drew
    have hv:v<0:=sC.2 hbc;have eR:((d.1.1.drop j).takeWhile St.fc).length=((d.1.1.drop (j+1)).takeWhile St.fc).length+1:=by rw[gr,List.takeWhile_cons_of_pos hbc];simp
    have Gn:=aa eR;clear eR gr bM hbk sC hbc;go_wp2_with fail;refine(dS.out _).mono ?_;rintro e w' ⟨rfl,rfl⟩;go_wp2;refine⟨⟨j+1,congrArg (UM US) (by omega),by omega,by omega,?_,HU.out⟩,by simp[intOf];omega⟩;rw[HQ.out,Gn.out];omega
   have qh:j=d.size:=by omega
   have hnil:=St.fD d j (by omega);have hlen:((d.1.1.drop a).takeWhile St.fc).length=j-a:=by rw[HQ.out,hnil];simp
   have hf2:=u4.out;rw[hlen,List.drop_drop,show a+(j-a)=j by omega]at hf2;have HF:=aa hf2;have eP:=aa (show St.ee (d.1.1.drop j)=true by rw[hnil];rfl);have z2:¬(j:Int)<d.size:=by omega
   have z4:(((j:Int)==(d.size:Int))=true):=by simp;omega
   clear hf2 hlen hnil qh hjl HQ;go_wp2_with fail;go_region
   all_goals
    go_wp2;go_ret3;exact eO HF.out eP.out (by omega) HU.out.drew
 have LH:=St.fD d a (by omega);have u4:=aa (St.tu (l:=d.1.1.drop a) (λc r e=>by rw[LH]at e;cases e));have z1:¬(a:Int)<d.size:=by omega
 clear LH;go_enter Tryz.func169,Tryz.ntmps169;go_wp2;go_loopw [4] (λs4 wr=>Jb w d a s4 wr) (λs4 _=>d.size+1-(intOf s4).toNat)
 case atStart=>exact⟨a,rfl,by omega,by omega,by simp,ac.refl _⟩
 case round=>
  obtain⟨j,rfl,qg,lM,hq,hu⟩:=hrel;have HQ:=aa hq;have HU:=aa hu;clear hq hu
  by_cases hjl:j<d.size
  ·exact absurd hjl (by omega)
  have qh:j=d.size:=by omega
  have hnil:=St.fD d j (by omega);have hlen:((d.1.1.drop a).takeWhile St.fc).length=j-a:=by rw[HQ.out,hnil];simp
  have hf2:=u4.out;rw[hlen,List.drop_drop,show a+(j-a)=j by omega]at hf2;have HF:=aa hf2;have eP:=aa (show St.ee (d.1.1.drop j)=true by rw[hnil];rfl);have z2:¬(j:Int)<d.size:=by omega
  have z4:(((j:Int)==(d.size:Int))=true):=by simp;omega
  clear hf2 hlen hnil qh hjl HQ;go_wp2_with fail;go_region
  all_goals
   go_wp2;go_ret3;exact eO HF.out eP.out (by omega) HU.out.drew
end
section
def TV(w:UY)(tb pb:Nat)(d:ByteArray)(r bd aw texts:Nat):Prop:=
 w.1[tb]?=some (Obj.cells #[UN d,UQ (some ⟨pb,0,none⟩),UM US r,UM US bd,UM US aw,UM US texts] 174 (0,0))
theorem TV.ai{a c:UY}{tb pb:Nat}{d:ByteArray}{r bd aw texts:Nat}(h:TV a tb pb d r bd aw texts)(u:ac a c):TV c tb pb d r bd aw texts:=(u.below.block tb (ae h)).trans h
theorem TV.tk{a c:UY}{tb pb:Nat}{d:ByteArray}{r bd aw texts:Nat}(h:TV a tb pb d r bd aw texts)(u:eC mY a c):TV c tb pb d r bd aw texts:=(u.2 tb _ _ _ h (by simp[mY])).trans h
theorem PV.OW{a c:UY}{B pb tb:Nat}{d:ByteArray}{s:St.PS}{r bd aw texts Tx:Nat}{d':ByteArray}(h:PV a B pb d s)(ht:TV a tb Tx d' r bd aw texts)(g:a.grownBy c (some tb)):PV c B pb d s:=by
 obtain⟨h0,v,h1,h2⟩:=h
 have hne:pb≠tb:=λe=>by
  subst e;unfold TV at ht;rw[h1]at ht;simp at ht
 exact⟨h0,v,(g.block pb (ae h1) (by simpa using hne)).trans h1,h2.kept g (Or.inr (aU h2 ht (by decide)))⟩
def pu:ByteArray:=⟨#[116,101,120,116]⟩
theorem E4(w:UY)(tb pb:Nat)(d:ByteArray)(bd aw texts a b n:Nat)(h:TV w tb pb d 0 bd aw texts)(hab:a<=b)(hb:b<=d.size)(hd:d.size<=4611686018427387904)(hn:n<=4611686018427387904)(ht:texts<=4611686018427387904) :
  Calls Tryz.prog 170 #[UQ (some ⟨tb,0,none⟩),UM US a,UM US b,UM US n] w λe w'=>e=UU (UR #[]) /\
   TV w' tb pb d 0 (n+1) (if St.aY d.1.1 a b==[116,101,120,116]then n else aw) (if St.aY d.1.1 a b==[116,101,120,116]then texts+1 else texts)/\w.grownBy w' (some tb):=by
 have hv:=h;unfold TV at hv;have c0:w.cell? ⟨tb,0,none⟩=some (UN d):=ak hv 0;have c3:w.cell? ⟨tb,3,none⟩=some (UM US bd):=ak hv 3;have c4:w.cell? ⟨tb,4,none⟩=some (UM US aw):=ak hv 4;have c5:w.cell? ⟨tb,5,none⟩=some (UM US texts):=ak hv 5;have f3:w.frozen? ⟨tb,3,none⟩=false:=bk hv 3;have f4:w.frozen? ⟨tb,4,none⟩=false:=bk hv 4;have f5:w.frozen? ⟨tb,5,none⟩=false:=bk hv 5;haveI:af tb w:=af.of (ae hv);have HV:=aa hv;rw[<-eJ];obtain⟨s,hE⟩:∃s,d.extract a b=s:=⟨_,rfl⟩;rw[hE];have za:(0:Int)<=a:=by omega
 have UK:(a:Int)<=b:=by omega
 have zb:(b:Int)<=d.size:=by omega
 by_cases hs:s=pu
 ·subst hs;unfold pu at hE;have hif:((pu.1.1==[116,101,120,116])=true):=rfl;rw[if_pos hif,if_pos hif];clear hv h;go_enter Tryz.func170,Tryz.ntmps170;go_wp2;go_end0;refine⟨rfl,?_,bO (bO (cK w ⟨tb,5,none⟩ _) ⟨tb,4,none⟩ _ (Or.inl rfl)) ⟨tb,3,none⟩ _ (Or.inl rfl)⟩;exact heap_setCell_same _ tb 3 _ _ _ (heap_setCell_same _ tb 4 _ _ _ (heap_setCell_same _ tb 5 _ _ _ HV.out))
 have hif:¬((s.1.1==[116,101,120,116])=true):=by
  intro e;exact hs (sd _ _ (show s.1.1=pu.1.1 from eq_of_beq e))
 rw[if_neg hif,if_neg hif];have hne:(s.toList==[116,101,120,116])=false:=by rw[Lib.toList_data];exact Bool.eq_false_iff.2 hif
 clear hv h hif hs;go_enter Tryz.func170,Tryz.ntmps170;go_wp2;go_end0;exact⟨rfl,heap_setCell_same _ tb 3 _ _ _ HV.out,cK w ⟨tb,3,none⟩ _⟩
end
end Go.Proofs.YthoemdibbldndaaGreatDoor.Sh
