/- The contracts of the reference's begins, text, slot and sheet element: what they give is. -/
import Derived.Laws.BytesArg
import Derived.WalkSpells
import Derived.Lib.Strings
import Derived.Lib.IndexBytes
import Derived.Outline
import Derived.IntWalk
import Derived.Test.YthoemdibbldndaaGreatDoorGB
import Derived.Lib.ItoaNum
set_option linter.all false
set_option maxHeartbeats 0
set_option maxRecDepth 20000
open Go.Value renaming int->VD,string->VE,slice->VF,tuple->VI
open Go.IntKind renaming i64->VJ
open Go.Ending renaming returned->VL
open Go renaming World->VO
namespace Go.Proofs.YthoemdibbldndaaGreatDoor
open Go.RowKit
section
def iG(k:Int)(t:List UInt8):Value:=.agg #[VD VJ k,VE ⟨t.toArray⟩,VD VJ 0]
def cf:St.El->Value
 | none=>VI #[.agg #[VD VJ 0,VE ⟨#[]⟩,VD VJ 0],VD VJ 0]
 | some (k,t,n)=>VI #[iG k t,VD VJ n]
theorem lT(E:St.El):∃(k:Int) (x:ByteArray) (m:Int),cf E=VI #[.agg #[VD VJ k,VE x,VD VJ 0],VD VJ m]:=by
 rcases E with _|⟨k,t,n⟩
 ·exact⟨_,_,_,rfl⟩
 exact⟨_,_,_,rfl⟩
theorem J5(c:UInt8)(w:VO):Calls Tryz.prog 179 #[VD .u8 (c.toNat:Int)] w λe w'=>e=VL (iG 1 [c])/\ac w w':=by
 go_enter Tryz.func179,Tryz.ntmps179;go_wp2;exact bodyPost_ret (v:=iG 1 [c]) (by simp[results,Tryz.results179,go_sem,iG]) rfl ⟨rfl,uZ⟩
theorem gh(s t:ByteArray)(w:VO)(hs:s.size<=9223372036854775807)(ht:t.size<=9223372036854775807):Calls Tryz.prog 135 #[VE s,VE t] w λe w'=>e=VL (.bool (preB t s))/\w=w':=by
 by_cases h:t.size<=s.size
 ·have z:(t.size:Int)<=(s.size:Int):=by omega
  go_enter Tryz.func135,Tryz.ntmps135;go_wp2;go_ret;refine⟨ay ?_,rfl⟩;unfold preB;rw[Lib.toList_data,Lib.toList_data,Lib.extract_data,<-St.mc];simp
 have z:¬(t.size:Int)<=(s.size:Int):=by omega
 have H:=aa h;clear h;have hz:preB t s=false:=St.uL _ _ (by have:=H.out;simp;omega);go_enter Tryz.func135,Tryz.ntmps135;go_wp2;go_ret;exact⟨ay (by first|rfl|exact hz.symm),rfl⟩
def iK(l:List UInt8):List UInt8:=l.takeWhile (λc=>decide (c.toNat≠125))
def PP(s:ByteArray)(w:VO)(i:Value)(wr:VO):Prop:=
 ∃k:Nat,i=VD VJ k/\1<=k/\k<=26/\(iK (s.1.1.drop 1)).length=(k-1)+(iK (s.1.1.drop k)).length/\(w.alloc (.cells #[VD VJ 0,VE ⟨#[]⟩,VD VJ 0] 36))=wr
theorem Ff{l:List UInt8}(h:¬(iK (l.drop 1)).length+1<l.length):St.cH l=none:=by
 unfold St.cH;simp only[];have e:decide ((iK (l.drop 1)).length+1<l.length)=false:=decide_eq_false h;unfold iK at e;rw[e];rfl
theorem wi{l:List UInt8}(h:St.aS (iK (l.drop 1))=false):St.cH l=none:=by
 unfold St.cH;simp only[];unfold iK at h;rw[h];simp
theorem Ib{l:List UInt8}(h1:(iK (l.drop 1)).length+1<l.length)(h:St.aS (iK (l.drop 1))=true):St.cH l=some (iK (l.drop 1),(iK (l.drop 1)).length+2):=by
 unfold St.cH;simp only[];have e:decide ((iK (l.drop 1)).length+1<l.length)=true:=decide_eq_true h1;unfold iK at e h |-;rw[e,h];rfl
theorem JF{l:List UInt8}(h:24<l.length):St.aS l=false:=by
 cases l with
 | nil=>rfl
 | cons c r=>
  rw[St.aS];have:¬r.length<=23:=by simp at h;omega
  rw[decide_eq_false this];rfl
theorem uR(s:ByteArray)(w:VO)(hs:s.size<=4611686018427387904)(h0:1<=s.size) :
  Calls Tryz.prog 180 #[VE s] w λe w'=>e=VL (cf ((St.cH s.1.1).map λx=>(5,x.1,x.2)))/\ac w w':=by
 have hlen:=St.aD s;go_enter Tryz.func180,Tryz.ntmps180;go_wp2;go_loopw [4] (λi wr=>PP s w i wr) (λi _=>27-(intOf i).toNat)
 case atStart=>exact⟨1,rfl,by omega,by omega,by simp,rfl⟩
 case round=>
  obtain⟨k,rfl,hk1,hk2,hk3,rfl⟩:=hrel;have HK:=aa hk3;have HL:=aa hlen;clear hk3 hlen
  by_cases hlt:k<s.size
  ·have aw:=St.drop_at s k hlt;have z1:(k:Int)<s.size:=by omega
   by_cases UW:k<=25
   ·have z2:(k:Int)<=25:=by omega
    by_cases hc:s[k].toNat=125
    ·have z3:((s[k].toNat:Int)==125)=true:=by simp;omega
     have eW:iK (s.1.1.drop k)=[]:=by rw[aw];unfold iK;rw[List.takeWhile_cons_of_neg (by simp[hc])]
     have hn:(iK (s.1.1.drop 1)).length=k-1:=by rw[HK.out,eW];simp
     obtain⟨x,hX⟩:∃x,s.extract 1 k=x:=⟨_,rfl⟩
     have hxl:x.1.1=iK (s.1.1.drop 1):=by
      have h1:iK (s.1.1.drop 1)=(s.1.1.drop 1).take (iK (s.1.1.drop 1)).length:=List.prefix_iff_eq_take.1 (List.takeWhile_prefix _);rw[h1,hn,<-hX,Lib.extract_data]
     have hxs:x.size<=s.size:=by rw[<-hX];simp;omega
     have aZ:=λW=>ms x W (by omega)
     have y1:(1:Int)<=(k:Int):=by omega
     have y2:(k:Int)<=s.size:=by omega
     rw[hxl]at aZ;cases hb:St.aS (iK (s.1.1.drop 1))
     ·have hR:=aa (wi hb);rw[hb]at aZ;have bk:=aa aZ;clear hb aZ hxl hn eW aw;go_wp2_with (go_at_call 177;refine(bk.out _).mono ?_;rintro e w' ⟨rfl,rfl⟩);refine bodyPost_ret (v:=cf none) (by simp[results,Tryz.results180,go_sem,cf]) rfl ⟨?_,uZ⟩;rw[hR.out];try rfl
     have hR:=aa (Ib (by rw[hn,HL.out];omega) hb);rw[hb]at aZ;have bk:=aa aZ;have GV:x=⟨(iK (s.1.1.drop 1)).toArray⟩:=by rw[<-hxl];try (cases x;simp)
     have HN:=aa hn;have Tm:=aa GV;clear hb aZ hxl hn eW aw GV;go_wp2_with (go_at_call 177;refine(bk.out _).mono ?_;rintro e w' ⟨rfl,rfl⟩);refine bodyPost_ret (v:=VI #[.agg #[VD VJ 5,VE x,VD VJ 0],VD VJ ((k:Int)+1)]) (by simp[results,Tryz.results180,go_sem]) rfl ⟨?_,uZ⟩;rw[hR.out,Tm.out];have e:((k-1+2:Nat):Int)=(k:Int)+1:=by omega
     show _=Ending.returned (VI #[iG 5 (iK (s.1.1.drop 1)),VD VJ (((iK (s.1.1.drop 1)).length+2:Nat):Int)])
     rw[HN.out,e];rfl
    have z3:((s[k].toNat:Int)==125)=false:=by simp;omega
    have eW:(iK (s.1.1.drop k)).length=1+(iK (s.1.1.drop (k+1))).length:=by
     rw[aw];unfold iK;rw[List.takeWhile_cons_of_pos (by simpa using hc)];simp;omega
    have FT:=aa eW;clear eW aw;go_wp2;exact⟨⟨k+1,congrArg (VD VJ) (by omega),by omega,by omega,by rw[HK.out,FT.out];omega,rfl⟩,by simp[intOf];omega⟩
   have z2:¬(k:Int)<=25:=by omega
   have hR:=aa (wi (JF (l:=iK (s.1.1.drop 1)) (by rw[HK.out];omega)));clear aw;go_wp2;refine bodyPost_ret (v:=cf none) (by simp[results,Tryz.results180,go_sem,cf]) rfl ⟨?_,uZ⟩;rw[hR.out];try rfl
  have z1:¬(k:Int)<s.size:=by omega
  have hR:=aa (Ff (l:=s.1.1) (by rw[HK.out,HL.out];omega));go_wp2;refine bodyPost_ret (v:=cf none) (by simp[results,Tryz.results180,go_sem,cf]) rfl ⟨?_,uZ⟩;rw[hR.out];try rfl
theorem iI(c:UInt8)(m:Int)(hm:m=(c.toNat:Int))(w:VO):Calls Tryz.prog 179 #[VD .u8 m] w λe w'=>e=VL (.agg #[VD VJ 1,VE ⟨#[c]⟩,VD VJ 0])/\ac w w':=by
 subst hm;exact J5 c w
theorem E7(s:ByteArray)(w:VO)(hs:s.size<=4611686018427387904)(h0:1<=s.size) :
  Calls Tryz.prog 146 #[VE s] w λe w'=>e=VL (cf (St.ch s.1.1))/\ac w w':=by
 have hcr:s.1.1=s[0] :: s.1.1.drop 1:=St.ft s (by omega);have hp1:=λW=>gh s ⟨#[34,34]⟩ W (by omega) (by show 2<=_;omega)
 have hp2:=λW=>gh s ⟨#[123,123]⟩ W (by omega) (by show 2<=_;omega)
 have e1:preB ⟨#[34,34]⟩ s=([34,34]:List UInt8).isPrefixOf (s[0] :: s.1.1.drop 1):=by unfold preB;rw[<-hcr]
 have e2:preB ⟨#[123,123]⟩ s=([123,123]:List UInt8).isPrefixOf (s[0] :: s.1.1.drop 1):=by unfold preB;rw[<-hcr]
 have z0:0<s.size:=by omega
 by_cases gN:s[0].toNat=34
 ·have hsl:=St.q8 (r:=s.1.1.drop 1) gN;rw[<-e1,<-hcr]at hsl;have htx:=aa (λW=>iI s[0] 34 (by omega) W);cases hq1:preB ⟨#[34,34]⟩ s
  ·rw[hq1]at hsl hp1;have br:=aa hsl;have nI:=aa hp1;clear hsl hp1 hp2 e1 e2 hq1 hcr;go_enter Tryz.func146,Tryz.ntmps146;go_wp2_with (go_at_call 135;refine(nI.out _).mono ?_;rintro e w' ⟨rfl,rfl⟩);refine bodyPost_ret (v:=cf none) (by simp[results,Tryz.results146,go_sem,cf]) rfl ⟨?_,uZ⟩;rw[br.out];try rfl
  rw[hq1]at hsl hp1;have br:=aa hsl;have nI:=aa hp1;clear hsl hp1 hp2 e1 e2 hq1 hcr;go_enter Tryz.func146,Tryz.ntmps146;go_wp2_with (first|(go_at_call 135;refine(nI.out _).mono ?_;rintro e w' ⟨rfl,rfl⟩)|(go_at_call 179;refine(htx.out _).mono ?_;rintro e w' ⟨rfl,X,rfl⟩));refine bodyPost_ret (v:=cf (some (1,[s[0]],2))) (by simp[results,Tryz.results146,go_sem,cf,iG]) rfl ⟨?_,uZ⟩;rw[br.out];try rfl
 by_cases da:s[0].toNat=123
 ·have hsl:=St.pe (r:=s.1.1.drop 1) da;rw[<-e2,<-hcr]at hsl;have htx:=aa (λW=>iI s[0] 123 (by omega) W);cases hq2:preB ⟨#[123,123]⟩ s
  ·rw[hq2]at hsl hp2;simp only[Bool.false_eq_true,if_false]at hsl;have br:=aa hsl;have gL:=aa hp2;have ls:=λW=>uR s W hs h0
   obtain⟨k,x,m,hv⟩:=lT ((St.cH s.1.1).map λx=>((5:Int),x.1,x.2));have HV:=aa hv;rw[hv]at ls;have HS:=aa ls;clear hsl hp1 hp2 e1 e2 hq2 hcr ls hv;go_enter Tryz.func146,Tryz.ntmps146;go_wp2_with (first|(go_at_call 135;refine(gL.out _).mono ?_;rintro e w' ⟨rfl,rfl⟩)|(go_at_call 180;refine(HS.out _).mono ?_;rintro e w' ⟨rfl,X,rfl⟩));refine bodyPost_ret (v:=VI #[.agg #[VD VJ k,VE x,VD VJ 0],VD VJ m]) (by simp[results,Tryz.results146,go_sem]) rfl ⟨?_,uZ⟩;rw[br.out,HV.out]
  rw[hq2]at hsl hp2;have br:=aa hsl;have gL:=aa hp2;clear hsl hp1 hp2 e1 e2 hq2 hcr;go_enter Tryz.func146,Tryz.ntmps146;go_wp2_with (first|(go_at_call 135;refine(gL.out _).mono ?_;rintro e w' ⟨rfl,rfl⟩)|(go_at_call 179;refine(htx.out _).mono ?_;rintro e w' ⟨rfl,X,rfl⟩));refine bodyPost_ret (v:=cf (some (1,[s[0]],2))) (by simp[results,Tryz.results146,go_sem,cf,iG]) rfl ⟨?_,uZ⟩;rw[br.out];try rfl
 have hsl:=St.nw (r:=s.1.1.drop 1) gN da;rw[<-hcr]at hsl;have htx:=aa (λW=>iI s[0] (s[0].toNat:Int) rfl W);have d34:((s[0].toNat:Int)==34)=false:=by simp;omega
 have d123:((s[0].toNat:Int)==123)=false:=by simp;omega
 have br:=aa hsl;clear hsl hp1 hp2 e1 e2 hcr gN da;go_enter Tryz.func146,Tryz.ntmps146;go_wp2_with (go_at_call 179;refine(htx.out _).mono ?_;rintro e w' ⟨rfl,X,rfl⟩);refine bodyPost_ret (v:=cf (some (1,[s[0]],1))) (by simp[results,Tryz.results146,go_sem,cf,iG]) rfl ⟨?_,uZ⟩;rw[br.out];try rfl
end
section
def rE(E:List UInt8->St.El):Prop:=∀l k t n,E l=some (k,t,n)->(k=0\/k=1\/k=5)/\1<=n/\n<=l.length/\t.length<=n
def zA(fmt:Int)(E:List UInt8->St.El):Prop:=
 ∀(s:ByteArray) (w:VO),s.size<=4611686018427387904->1<=s.size->Calls Tryz.prog 104 #[VD VJ fmt,VE s] w λe w'=>e=VL (cf (E s.1.1))/\ac w w'
def dB(R:List St.It × List Nat × Nat × Int)(w:VO)(e:Ending)(w':VO):Prop:=
 ∃v1 v2,e=VL (VI #[v1,v2,VD VJ (R.2.2.1:Int),VD VJ R.2.2.2])/\w'.ownsRow w.1.size 36 3 v1 R.1.length (av R.1)/\w'.ownsRow w.1.size 3 1 v2 R.2.1.length (eJ R.2.1)/\ac w w'
def Ph(w:VO)(E:List UInt8->St.El)(au:ByteArray)(s8 s9 cW ga s12 lD:Value)(wr:VO):Prop:=
 ∃(a d:Nat) (f:List St.It) (cuts:List Nat) (fuel:Nat),s9=VF none 0 0/\ga=VD VJ a/\s12=VD VJ d/\lD=VD VJ 0/\a<=au.size/\au.size-a<=fuel /\
  wr.ownsRow w.1.size 36 3 s8 f.length (av f)/\wr.ownsRow w.1.size 3 1 cW cuts.length (eJ cuts)/\St.Nm f/\aP f<=a/\f.length<=512/\cuts.length<=1024 /\
  St.dec E au.size au.1.1 0 0 [] []=St.dec E fuel (au.1.1.drop a) a d f cuts/\ac w wr
theorem CW{au:ByteArray}{a:Nat}(h:a<au.size):au.1.1.drop a≠[]:=by
 intro e;have:=congrArg List.length e
 simp at this;omega
theorem kl(fmt:Int)(E:List UInt8->St.El)(hE:zA fmt E)(hok:rE E)(au:ByteArray)(w:VO)(hr:au.size<=4611686018427387904) :
  Calls Tryz.prog 63 #[VD VJ fmt,VE au] w (dB (St.dec E au.size au.1.1 0 0 [] []) w):=by
 obtain⟨i0,hi,hz0,hz1,hz2⟩:=info_parts fJ;go_enter Tryz.func63,Tryz.ntmps63;go_wp2;go_loopw [8,9,10,11,12,13] (λs8 s9 cW ga s12 lD wr=>Ph w E au s8 s9 cW ga s12 lD wr) (λ_ _ _ ga _ _ _=>au.size+1-(intOf ga).toNat)
 case atStart=>exact⟨0,0,[],[],au.size,rfl,rfl,rfl,rfl,by omega,by omega,World.ownsRow_nil _ _ _ _,World.ownsRow_nil _ _ _ _,St.sy,by simp[aP],by simp,by simp,by simp,ac.refl _⟩
 case round=>
  obtain⟨a,d,f,cuts,fuel,rfl,rfl,rfl,rfl,ha,hfu,hO8,hO10,hN,ht,h1,h2,hD,hu⟩:=hrel;have HD:=aa hD;have HU:=aa hu;have gK:=aa hO8;have iQ:=aa hO10;have hsz:=hu.size;have HN:=aa hN;clear hN
  by_cases hlt:a<au.size
  ·have h0:=CW hlt;obtain⟨fuel,rfl⟩:∃m,fuel=m+1:=⟨fuel-1,by omega⟩;obtain⟨x,hx⟩:∃x,au.extract a au.size=x:=⟨_,rfl⟩;have hxl:x.1.1=au.1.1.drop a:=by rw[<-hx,Lib.extract_data,List.take_of_length_le (by simp)]
   have hxs:x.size=au.size-a:=by rw[<-hx];simp
   have hel:=λW=>hE x W (by omega) (by omega)
   rw[hxl]at hel;have jk:=aa hel;have y1:(a:Int)<=(au.size:Int):=by omega
   have y2:(a:Int)<(au.size:Int):=by omega
   clear hel hD hu hE;cases hs:E (au.1.1.drop a)with
   | none=>
    have hd2:=aa (HD.out.trans (St.nV fuel a d _ cuts h0 hs));have fu:Hid (∀W,Calls Tryz.prog 104 #[VD VJ fmt,VE x] W λe w'=>e=VL (VI #[.agg #[VD VJ 0,VE ⟨#[]⟩,VD VJ 0],VD VJ 0])/\ac W w'):=aa (by have:=jk.out;rw[hs]at this;exact this);clear hs h0 HD jk hxl hO8 hO10;go_wp2_with (go_at_call 104;refine(fu.out _).mono ?_;rintro e w2 ⟨rfl,hu2⟩);have hu3:=HU.out.trans hu2;refine bodyPost_ret (v:=VI #[VF none 0 0,VF none 0 0,VD VJ a,VD VJ 2]) (by simp[results,Tryz.results63,go_sem]) rfl ?_;unfold dB;rw[hd2.out];exact⟨_,_,rfl,World.ownsRow_nil _ _ _ _,World.ownsRow_nil _ _ _ _,uZ⟩
   | some q=>
    obtain⟨k,t,n⟩:=q;obtain⟨hk,fZ,eV,htn⟩:=hok _ _ _ _ hs;have mW:a+n<=au.size:=by simp at eV;omega
    have d0:((n:Int)==0)=false:=by simp;omega
    have iX:(au.1.1.drop a).drop n=au.1.1.drop (a+n):=by rw[List.drop_drop]
    have fu:Hid (∀W,Calls Tryz.prog 104 #[VD VJ fmt,VE x] W λe w'=>e=VL (VI #[.agg #[VD VJ k,VE ⟨t.toArray⟩,VD VJ 0],VD VJ n])/\ac W w'):=aa (by have:=jk.out;rw[hs]at this;exact this)
    by_cases gV:k=0
    ·subst gV;have hd2:=HD.out.trans (St.uj fuel a d _ cuts h0 hs);rw[iX]at hd2;have bJ:=aa hd2;clear hs h0 HD jk hxl hO8 hO10 hd2 iX eV;go_wp2_with (go_at_call 104;refine(fu.out _).mono ?_;rintro e w2 ⟨rfl,hu2⟩);have hu3:=HU.out.trans hu2;exact⟨⟨a+n,d,f,cuts,fuel,rfl,congrArg (VD VJ) (by omega),rfl,rfl,mW,by omega,aA (uZ) gK.out,aA (uZ) iQ.out,HN.out,by omega,h1,h2,bJ.out,uZ⟩,by simp[intOf];omega⟩
    have hk':k=1\/k=5:=by omega
    have hnl:St.bu (f++[(k,t,0)])=St.aV f (k,t,0):=by rw[St.ew,HN.out]
    have htx:aP (f++[(k,t,0)])<=a+n:=by rw[ci];simp only;omega
    have Bb:=gQ f (k,t,0);have Od:=(St.ic f (k,t,0)).1;have GI:St.Nm (St.aV f (k,t,0)):=St.gC HN.out _;obtain⟨A8,c8,rfl,_,_,hA8⟩:=aJ hO8;obtain⟨fK,bl,rfl,_,_,hA10⟩:=aJ hO10
    have iC:∀(W:VO) (b:Nat),aE W A8 f->aE W (some ⟨b,0,none⟩) [(k,t,0)]->Calls Tryz.prog 44 #[VF A8 f.length c8,VF (some ⟨b,0,none⟩) 1 1] W λe w'=>∃v,e=VL v/\w'.ownsRow W.1.size 36 3 v (St.aV f (k,t,0)).length (av (St.aV f (k,t,0)))/\ac W w':=by
     intro W b h h';have:=gU A8 f.length c8 f (some ⟨b,0,none⟩) 1 1 [(k,t,0)] W rfl rfl (λe=>by have:=hA8 e;omega) (λe=>by cases e) h h' (by omega) (by omega)
     rw[hnl]at this;exact this
    have cJ:=aa iC;have hstep:=St.nW fuel a d f cuts h0 hs gV;have hfull:=St.nU fuel a d f cuts h0 hs gV;rw[iX]at hstep;have NJ:=aa (aM hO8 rfl);generalize hg:St.aV f (k,t,0)=g at iC hstep hfull Bb Od GI cJ;have HST:=aa hstep;have ck:=aa hfull;have SV:=aa GI;have UP:=aa Od;clear iC hstep hfull hs h0 iX jk hxl hO8 hO10 GI hnl eV hg Od;have q0:(k==0)=false:=by rcases hk' with rfl|rfl<;>rfl
    have q2:(k==2)=false:=by rcases hk' with rfl|rfl<;>rfl
    have q3:(k==3)=false:=by rcases hk' with rfl|rfl<;>rfl
    have q4:(k==4)=false:=by rcases hk' with rfl|rfl<;>rfl
    clear hk hk' gV
    by_cases bR:512<g.length
    ·have hd2:=HD.out.trans (ck.out (.inl bR));have bJ:=aa hd2;have z5:((512:Int)<(g.length:Int)):=by omega
     clear hd2 HD;go_wp2_with (first|(go_at_call 104;refine(fu.out _).mono ?_;rintro e w2 ⟨rfl,hu2⟩)|(go_at_call 44;refine(cJ.out _ _ ?_ ?_).mono ?_))
     ·exact NJ.out.ah (uZ)
     ·exact qE _ _ _ _ _
     rintro e w3 ⟨v3,rfl,bB,hu3⟩;obtain⟨A3,c3,rfl,_,_,_⟩:=aJ bB;have aU:ac wr w3:=ac.trans (uZ) hu3;have a8:=HU.out.trans aU;clear bB hu3 hu2 aU;go_wp2;refine bodyPost_ret (v:=VI #[VF none 0 0,VF none 0 0,VD VJ a,VD VJ 3]) (by simp[results,Tryz.results63,go_sem]) rfl ?_;unfold dB;rw[bJ.out];exact⟨_,_,rfl,World.ownsRow_nil _ _ _ _,World.ownsRow_nil _ _ _ _,uZ⟩
    have z5:¬((512:Int)<(g.length:Int)):=by omega
    by_cases eB:1024<=cuts.length
    ·have hd2:=HD.out.trans (ck.out (.inr eB));have bJ:=aa hd2;have z6:((1024:Int)<=(cuts.length:Int)):=by omega
     clear hd2 HD;go_wp2_with (first|(go_at_call 104;refine(fu.out _).mono ?_;rintro e w2 ⟨rfl,hu2⟩)|(go_at_call 44;refine(cJ.out _ _ ?_ ?_).mono ?_))
     ·exact NJ.out.ah (uZ)
     ·exact qE _ _ _ _ _
     rintro e w3 ⟨v3,rfl,bB,hu3⟩;obtain⟨A3,c3,rfl,_,_,_⟩:=aJ bB;have aU:ac wr w3:=ac.trans (uZ) hu3;have a8:=HU.out.trans aU;clear bB hu3 hu2 aU;go_wp2;refine bodyPost_ret (v:=VI #[VF none 0 0,VF none 0 0,VD VJ a,VD VJ 3]) (by simp[results,Tryz.results63,go_sem]) rfl ?_;unfold dB;rw[bJ.out];exact⟨_,_,rfl,World.ownsRow_nil _ _ _ _,World.ownsRow_nil _ _ _ _,uZ⟩
    have hd2:=HD.out.trans (HST.out (by omega));have bJ:=aa hd2;have z6:¬((1024:Int)<=(cuts.length:Int)):=by omega
    clear hd2 HD;go_wp2_with (first|(go_at_call 104;refine(fu.out _).mono ?_;rintro e w2 ⟨rfl,hu2⟩)|(go_at_call 44;refine(cJ.out _ _ ?_ ?_).mono ?_))
    ·exact NJ.out.ah (uZ)
    ·exact qE _ _ _ _ _
    rintro e w3 ⟨v3,rfl,bB,hu3⟩;obtain⟨A3,c3,rfl,_,_,_⟩:=aJ bB;have aU:ac wr w3:=ac.trans (uZ) hu3;have hs4:=aU.size;have cL:=aa (HU.out.trans aU);have fg:=aa (aA aU iQ.out);have eS:=aa (cC (base':=w.1.size) bB (by have:=hu2.size;simp;omega));have hc:w3.cell? ⟨w2.1.size,0,none⟩=some (.int .i64 k):=(hu3.cell (show w2.1.size<_ by simp;omega)).trans (by simp);haveI:af w2.1.size w3:=af.of (by have:=hu3.size;simp at this;omega);clear bB hu3 hu2;go_wp2_with (at_builtin;refine wpList_append_own _ rfl _ _ 42 rfl w.1.size 3 i0 (.int .i64 0) 1 8 Tryz.underlying42 hi hz0 hz1 hz2 rfl (by decide) (.slice fK cuts.length bl) cuts.length (eJ cuts) rfl ?_ _ 1 1 [.int .i64 d] rfl rfl ?_ ?_ (by unfold maxLen;omega) (by omega) ?_ ?_)
    ·exact aA (uZ) fg.out
    ·exact fF _ _ _
    ·intro u hu';simp at hu';subst hu';rfl
    ·have:=cL.out.size;simp;omega
    intro v' w5 dy eh _;rw[<-dl]at dy;have dO:=aa ((cL.out.alloc _).grown eh (λg hg=>ax fg.out g hg));have hA:∀ {W:VO},ac w3 W->W.grownBy w5 (VF fK cuts.length bl).ownBlock->w5.ownsRow w.1.size 36 3 (VF A3 g.length c3) g.length (av g):=λhW h5=>(aA hW eS.out).kept h5 (cR (aA hW eS.out) (aA hW fg.out) (by decide))
    have kv:=aa (hA (uZ) eh);have eI:=aa dy;clear eh dy hA hc;go_wp2;exact⟨⟨a+n,a+n,g,cuts++[d],fuel,rfl,congrArg (VD VJ) (by omega),congrArg (VD VJ) (by omega),rfl,mW,by omega,kv.out,by simpa using eI.out,SV.out,by omega,by omega,by simp;omega,bJ.out,dO.out⟩,by simp[intOf];omega⟩
  have vy:a=au.size:=by omega
  subst vy;have hnil:au.1.1.drop au.size=[]:=List.drop_of_length_le (by simp);have hd2:=HD.out;rw[hnil,St.pM]at hd2;have bJ:=aa hd2;obtain⟨fK,bl,rfl,_,_,hA10⟩:=aJ hO10;have kc:=HU.out.size;clear hlt hD HD hu hnil hd2 hO8 hO10;go_wp2_with (at_builtin;refine wpList_append_own _ rfl _ _ 42 rfl w.1.size 3 i0 (.int .i64 0) 1 8 Tryz.underlying42 hi hz0 hz1 hz2 rfl (by decide) (.slice fK cuts.length bl) cuts.length (eJ cuts) rfl ?_ _ 1 1 [.int .i64 d] rfl rfl ?_ ?_ (by unfold maxLen;omega) (by omega) ?_ ?_)
  ·exact aA (uZ) iQ.out
  ·exact fF _ _ _
  ·intro u hu';simp at hu';subst hu';rfl
  ·simp;omega
  intro v' w5 dy eh _;rw[<-dl]at dy;have dO:=aa ((HU.out.alloc _).grown eh (λg hg=>ax iQ.out g hg));have hA:∀ {W:VO} {v:Value},ac wr W->W.grownBy w5 (VF fK cuts.length bl).ownBlock->wr.ownsRow w.1.size 36 3 v f.length (av f)->w5.ownsRow w.1.size 36 3 v f.length (av f):=λhW h5 hv=>(aA hW hv).kept h5 (cR (aA hW hv) (aA hW iQ.out) (by decide))
  have kv:=aa (hA (uZ) eh gK.out);have eI:=aa dy;clear eh dy hA;go_wp2;refine bodyPost_ret (v:=VI #[_,v',VD VJ 0,VD VJ 0]) (by simp[results,Tryz.results63,go_sem];rfl) rfl ?_;unfold dB;rw[bJ.out];exact⟨_,_,rfl,kv.out,by simpa using eI.out,dO.out⟩
end
section
theorem bY(W:VO)(b:Nat)(k:Int)(t:List UInt8)(i:Int)(hb:b<W.1.size)(h0:W.cell? ⟨b,0,none⟩=some (VD VJ k))(h1:W.cell? ⟨b,1,none⟩=some (VE ⟨t.toArray⟩))(h2:W.cell? ⟨b,2,none⟩=some (VD VJ i)):aE W (some ⟨b,0,none⟩) [(k,t,i)]:=by
 intro _;refine⟨b,0,rfl,hb,λj hj=>?_⟩;obtain rfl:j=0:=by simpa using hj
 exact⟨h0,h1,h2⟩
end
section
@[go_sem] theorem conv_one (W:VO) (c:Int):(convert 22 9 (VF (some ⟨W.1.size,0,none⟩) 1 1)).run Tryz.prog (W.alloc (.cells #[VD .u8 c] 5))=.ok (VE ⟨#[UInt8.ofNat c.toNat]⟩) (W.alloc (.cells #[VD .u8 c] 5)):=by
 rw[run_convert_bytes_arg _ 22 5 Tryz.underlying22 Tryz.underlying5 W.1.size 0 1 1 [c] rfl (λi hi=>by
  obtain rfl:i=0:=by omega
  rw[World.cell?_alloc_at _ _ _ _ rfl];simp) _ Tryz.underlying9]
 rfl
def Ml(n:Nat)(w:VO)(a s:Value)(wr:VO):Prop:=
 ∃(m:Nat) (l:List UInt8),m<=n/\l.length<=n-m/\a=VD VJ m/\s=VE ⟨l.toArray⟩/\Hid (Lib.decDigits n=Lib.decDigits m++l)/\ac w wr
theorem Ai(k:Nat):UInt8.ofNat (48+k)=48+UInt8.ofNat k:=by
 apply UInt8.toNat.inj;simp[UInt8.toNat_add]
theorem dec_lt{m:Nat}(h:m<10):Lib.decDigits m=[48+UInt8.ofNat (m % 10)]:=by
 rw[Lib.decDigits_one h,Ai,Nat.mod_eq_of_lt h]
theorem Nw{m:Nat}(h:¬m<10):Lib.decDigits m=Lib.decDigits (m / 10)++[48+UInt8.ofNat (m % 10)]:=by
 rw[Lib.decDigits,dif_neg h,Ai]
theorem xE(a b:Array UInt8):(⟨a⟩:ByteArray)++(⟨b⟩:ByteArray)=⟨a++b⟩:=by
 apply ByteArray.ext;simp[ByteArray.data_append]
theorem LZ{a b:ByteArray}(h:a=b):Ending.returned (VE a)=VL (VE b):=by rw[h]
theorem pk(n:Nat)(w:VO)(hn:n<=4611686018427387904) :
  Calls Tryz.prog 176 #[VD VJ n] w λe w'=>e=VL (VE ⟨(Lib.decDigits n).toArray⟩)/\ac w w':=by
 go_enter Tryz.func176,Tryz.ntmps176;go_wp2;go_loopw [0,3] (λa s wr=>Ml n w a s wr) (λa _ _=>(intOf a).toNat)
 case atStart=>exact⟨n,[],by omega,by simp,rfl,rfl,aa (by simp),ac.refl _⟩
 case round=>
  obtain⟨m,l,hm,hl,rfl,rfl,H,X,rfl⟩:=hrel
  by_cases h10:m<10
  ·have e1:((m:Int) / 10==0)=true:=by simp;omega
   go_wp2;go_ret;refine⟨LZ ?_,uZ⟩;rw[H.out,dec_lt h10,xE];simp
  have e1:((m:Int) / 10==0)=false:=by simp;omega
  go_wp2;rw[xE];refine⟨⟨m / 10,(48+UInt8.ofNat (m % 10)) :: l,by omega,by simp;omega,by simp,by simp,aa ?_,uZ⟩,?_⟩
  ·rw[H.out,Nw h10];simp
  simp[intOf];omega
end
section
theorem Ic{l:List UInt8}{t:List UInt8}{n:Nat}(h:St.cH l=some (t,n)):t.length<=n:=by
 unfold St.cH at h;simp only[]at h
 split at h
 ·simp only[Option.some.injEq,Prod.mk.injEq]at h;obtain⟨rfl,rfl⟩:=h;omega
 cases h
theorem BY:rE St.ch:=by
 intro l k t n h;obtain⟨hk,h1,h2⟩:=St.sM h;refine⟨by omega,h1,h2,?_⟩
 match l,h with
 | c :: r,h=>
  by_cases gN:c.toNat=34
  ·rw[St.q8 gN]at h
   split at h
   ·simp only[Option.some.injEq,Prod.mk.injEq]at h;obtain⟨_,rfl,rfl⟩:=h;simp
   cases h
  by_cases da:c.toNat=123
  ·rw[St.pe da]at h
   split at h
   ·simp only[Option.some.injEq,Prod.mk.injEq]at h;obtain⟨_,rfl,rfl⟩:=h;simp
   cases hs:St.cH (c :: r)with
   | none=>rw[hs]at h;cases h
   | some x=>
    rw[hs]at h;obtain⟨x1,x2⟩:=x;simp only[Option.map_some,Option.some.injEq,Prod.mk.injEq]at h;obtain⟨_,rfl,rfl⟩:=h;exact Ic hs
  rw[St.nw gN da]at h;simp only[Option.some.injEq,Prod.mk.injEq]at h;obtain⟨_,rfl,rfl⟩:=h;simp
theorem BX:zA 3 St.ch:=by
 intro s w hs h0;obtain⟨k,x,m,hv⟩:=lT (St.ch s.1.1);have hsh:=λW=>E7 s W hs h0
 rw[hv]at hsh;have HS:=aa hsh;have HV:=aa hv;clear hsh hv;go_enter Tryz.func104,Tryz.ntmps104;go_wp2_with (go_at_call 146;refine(HS.out _).mono ?_;rintro e w' ⟨rfl,X,rfl⟩);refine bodyPost_ret (v:=VI #[.agg #[VD VJ k,VE x,VD VJ 0],VD VJ m]) (by simp[results,Tryz.results104,go_sem]) rfl ⟨?_,uZ⟩;rw[HV.out]
end
