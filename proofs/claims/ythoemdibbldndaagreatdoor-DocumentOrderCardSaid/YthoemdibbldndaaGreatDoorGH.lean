/- The contracts of the reference's begins, text, slot and sheet element: what they give is. -/
import Derived.Laws.BytesArg
import Derived.WalkSpells
import Derived.Lib.Strings
import Derived.Lib.IndexBytes
import Derived.Outline
import Derived.IntWalk
import Derived.Test.YthoemdibbldndaaGreatDoorGB
import Derived.Lib.ItoaNum
set_option linter.all false
set_option maxHeartbeats 0
set_option maxRecDepth 20000
open Go.Value renaming int->Yp,string->Yq,slice->Yr,tuple->Yu
open Go.IntKind renaming i64->Yv
open Go.Ending renaming returned->Yx
open Go renaming World->YA
namespace Go.Proofs.YthoemdibbldndaaGreatDoor
open Go.RowKit
section
def iX(k:Int)(t:List UInt8):Value:=.agg #[Yp Yv k,Yq ⟨t.toArray⟩,Yp Yv 0]
def cn:St.El->Value
 | none=>Yu #[.agg #[Yp Yv 0,Yq ⟨#[]⟩,Yp Yv 0],Yp Yv 0]
 | some (k,t,n)=>Yu #[iX k t,Yp Yv n]
theorem mT(E:St.El):∃(k:Int) (x:ByteArray) (m:Int),cn E=Yu #[.agg #[Yp Yv k,Yq x,Yp Yv 0],Yp Yv m]:=by
 rcases E with _|⟨k,t,n⟩
 ·exact⟨_,_,_,rfl⟩
 exact⟨_,_,_,rfl⟩
theorem NJ(c:UInt8)(w:YA):Calls Tryz.prog 179 #[Yp .u8 (c.toNat:Int)] w λe w'=>e=Yx (iX 1 [c])/\ac w w':=by
 go_enter Tryz.func179,Tryz.ntmps179;go_wp2;exact bodyPost_ret (v:=iX 1 [c]) (by simp[results,Tryz.results179,go_sem,iX]) rfl ⟨rfl,uZ⟩
theorem gG(s t:ByteArray)(w:YA)(hs:s.size<=9223372036854775807)(ht:t.size<=9223372036854775807):Calls Tryz.prog 135 #[Yq s,Yq t] w λe w'=>e=Yx (.bool (preB t s))/\w=w':=by
 by_cases h:t.size<=s.size
 ·have z:(t.size:Int)<=(s.size:Int):=by omega
  go_enter Tryz.func135,Tryz.ntmps135;go_wp2;go_ret;refine⟨az ?_,rfl⟩;unfold preB;rw[Lib.toList_data,Lib.toList_data,Lib.extract_data,<-St.ng];simp
 have z:¬(t.size:Int)<=(s.size:Int):=by omega
 have H:=aa h;clear h;have hz:preB t s=false:=St.wJ _ _ (by have:=H.out;simp;omega);go_enter Tryz.func135,Tryz.ntmps135;go_wp2;go_ret;exact⟨az (by first|rfl|exact hz.symm),rfl⟩
def jf(l:List UInt8):List UInt8:=l.takeWhile (λc=>decide (c.toNat≠125))
def Th(s:ByteArray)(w:YA)(i:Value)(wr:YA):Prop:=
 ∃k:Nat,i=Yp Yv k/\1<=k/\k<=26/\(jf (s.1.1.drop 1)).length=(k-1)+(jf (s.1.1.drop k)).length/\(w.alloc (.cells #[Yp Yv 0,Yq ⟨#[]⟩,Yp Yv 0] 36))=wr
theorem Je{l:List UInt8}(h:¬(jf (l.drop 1)).length+1<l.length):St.cR l=none:=by
 unfold St.cR;simp only[];have e:decide ((jf (l.drop 1)).length+1<l.length)=false:=decide_eq_false h;unfold jf at e;rw[e];rfl
theorem yI{l:List UInt8}(h:St.aF (jf (l.drop 1))=false):St.cR l=none:=by
 unfold St.cR;simp only[];unfold jf at h;rw[h];simp
theorem Lx{l:List UInt8}(h1:(jf (l.drop 1)).length+1<l.length)(h:St.aF (jf (l.drop 1))=true):St.cR l=some (jf (l.drop 1),(jf (l.drop 1)).length+2):=by
 unfold St.cR;simp only[];have e:decide ((jf (l.drop 1)).length+1<l.length)=true:=decide_eq_true h1;unfold jf at e h |-;rw[e,h];rfl
theorem Nc{l:List UInt8}(h:24<l.length):St.aF l=false:=by
 cases l with
 | nil=>rfl
 | cons c r=>
  rw[St.aF];have:¬r.length<=23:=by simp at h;omega
  rw[decide_eq_false this];rfl
theorem wQ(s:ByteArray)(w:YA)(hs:s.size<=4611686018427387904)(h0:1<=s.size) :
  Calls Tryz.prog 180 #[Yq s] w λe w'=>e=Yx (cn ((St.cR s.1.1).map λx=>(5,x.1,x.2)))/\ac w w':=by
 have hlen:=St.aB s;go_enter Tryz.func180,Tryz.ntmps180;go_wp2;go_loopw [4] (λi wr=>Th s w i wr) (λi _=>27-(intOf i).toNat)
 case atStart=>exact⟨1,rfl,by omega,by omega,by simp,rfl⟩
 case round=>
  obtain⟨k,rfl,hk1,hk2,hk3,rfl⟩:=hrel;have HK:=aa hk3;have HL:=aa hlen;clear hk3 hlen
  by_cases hlt:k<s.size
  ·have av:=St.drop_at s k hlt;have z1:(k:Int)<s.size:=by omega
   by_cases XG:k<=25
   ·have z2:(k:Int)<=25:=by omega
    by_cases hc:s[k].toNat=125
    ·have z3:((s[k].toNat:Int)==125)=true:=by simp;omega
     have fi:jf (s.1.1.drop k)=[]:=by rw[av];unfold jf;rw[List.takeWhile_cons_of_neg (by simp[hc])]
     have hn:(jf (s.1.1.drop 1)).length=k-1:=by rw[HK.out,fi];simp
     obtain⟨x,hX⟩:∃x,s.extract 1 k=x:=⟨_,rfl⟩
     have hxl:x.1.1=jf (s.1.1.drop 1):=by
      have h1:jf (s.1.1.drop 1)=(s.1.1.drop 1).take (jf (s.1.1.drop 1)).length:=List.prefix_iff_eq_take.1 (List.takeWhile_prefix _);rw[h1,hn,<-hX,Lib.extract_data]
     have hxs:x.size<=s.size:=by rw[<-hX];simp;omega
     have bh:=λW=>nx x W (by omega)
     have y1:(1:Int)<=(k:Int):=by omega
     have y2:(k:Int)<=s.size:=by omega
     rw[hxl]at bh;cases hb:St.aF (jf (s.1.1.drop 1))
     ·have hR:=aa (yI hb);rw[hb]at bh;have bz:=aa bh;clear hb bh hxl hn fi av;go_wp2_with (go_at_call 177;refine(bz.out _).mono ?_;rintro e w' ⟨rfl,rfl⟩);refine bodyPost_ret (v:=cn none) (by simp[results,Tryz.results180,go_sem,cn]) rfl ⟨?_,uZ⟩;rw[hR.out];try rfl
     have hR:=aa (Lx (by rw[hn,HL.out];omega) hb);rw[hb]at bh;have bz:=aa bh;have Up:x=⟨(jf (s.1.1.drop 1)).toArray⟩:=by rw[<-hxl];try (cases x;simp)
     have HN:=aa hn;have Wd:=aa Up;clear hb bh hxl hn fi av Up;go_wp2_with (go_at_call 177;refine(bz.out _).mono ?_;rintro e w' ⟨rfl,rfl⟩);refine bodyPost_ret (v:=Yu #[.agg #[Yp Yv 5,Yq x,Yp Yv 0],Yp Yv ((k:Int)+1)]) (by simp[results,Tryz.results180,go_sem]) rfl ⟨?_,uZ⟩;rw[hR.out,Wd.out];have e:((k-1+2:Nat):Int)=(k:Int)+1:=by omega
     show _=Ending.returned (Yu #[iX 5 (jf (s.1.1.drop 1)),Yp Yv (((jf (s.1.1.drop 1)).length+2:Nat):Int)])
     rw[HN.out,e];rfl
    have z3:((s[k].toNat:Int)==125)=false:=by simp;omega
    have fi:(jf (s.1.1.drop k)).length=1+(jf (s.1.1.drop (k+1))).length:=by
     rw[av];unfold jf;rw[List.takeWhile_cons_of_pos (by simpa using hc)];simp;omega
    have JI:=aa fi;clear fi av;go_wp2;exact⟨⟨k+1,congrArg (Yp Yv) (by omega),by omega,by omega,by rw[HK.out,JI.out];omega,rfl⟩,by simp[intOf];omega⟩
   have z2:¬(k:Int)<=25:=by omega
   have hR:=aa (yI (Nc (l:=jf (s.1.1.drop 1)) (by rw[HK.out];omega)));clear av;go_wp2;refine bodyPost_ret (v:=cn none) (by simp[results,Tryz.results180,go_sem,cn]) rfl ⟨?_,uZ⟩;rw[hR.out];try rfl
  have z1:¬(k:Int)<s.size:=by omega
  have hR:=aa (Je (l:=s.1.1) (by rw[HK.out,HL.out];omega));go_wp2;refine bodyPost_ret (v:=cn none) (by simp[results,Tryz.results180,go_sem,cn]) rfl ⟨?_,uZ⟩;rw[hR.out];try rfl
theorem je(c:UInt8)(m:Int)(hm:m=(c.toNat:Int))(w:YA):Calls Tryz.prog 179 #[Yp .u8 m] w λe w'=>e=Yx (.agg #[Yp Yv 1,Yq ⟨#[c]⟩,Yp Yv 0])/\ac w w':=by
 subst hm;exact NJ c w
theorem I4(s:ByteArray)(w:YA)(hs:s.size<=4611686018427387904)(h0:1<=s.size) :
  Calls Tryz.prog 146 #[Yq s] w λe w'=>e=Yx (cn (St.cx s.1.1))/\ac w w':=by
 have hcr:s.1.1=s[0] :: s.1.1.drop 1:=St.fF s (by omega);have hp1:=λW=>gG s ⟨#[34,34]⟩ W (by omega) (by show 2<=_;omega)
 have hp2:=λW=>gG s ⟨#[123,123]⟩ W (by omega) (by show 2<=_;omega)
 have e1:preB ⟨#[34,34]⟩ s=([34,34]:List UInt8).isPrefixOf (s[0] :: s.1.1.drop 1):=by unfold preB;rw[<-hcr]
 have e2:preB ⟨#[123,123]⟩ s=([123,123]:List UInt8).isPrefixOf (s[0] :: s.1.1.drop 1):=by unfold preB;rw[<-hcr]
 have z0:0<s.size:=by omega
 by_cases gZ:s[0].toNat=34
 ·have hsl:=St.sO (r:=s.1.1.drop 1) gZ;rw[<-e1,<-hcr]at hsl;have htx:=aa (λW=>je s[0] 34 (by omega) W);cases hq1:preB ⟨#[34,34]⟩ s
  ·rw[hq1]at hsl hp1;have bB:=aa hsl;have oK:=aa hp1;clear hsl hp1 hp2 e1 e2 hq1 hcr;go_enter Tryz.func146,Tryz.ntmps146;go_wp2_with (go_at_call 135;refine(oK.out _).mono ?_;rintro e w' ⟨rfl,rfl⟩);refine bodyPost_ret (v:=cn none) (by simp[results,Tryz.results146,go_sem,cn]) rfl ⟨?_,uZ⟩;rw[bB.out];try rfl
  rw[hq1]at hsl hp1;have bB:=aa hsl;have oK:=aa hp1;clear hsl hp1 hp2 e1 e2 hq1 hcr;go_enter Tryz.func146,Tryz.ntmps146;go_wp2_with (first|(go_at_call 135;refine(oK.out _).mono ?_;rintro e w' ⟨rfl,rfl⟩)|(go_at_call 179;refine(htx.out _).mono ?_;rintro e w' ⟨rfl,X,rfl⟩));refine bodyPost_ret (v:=cn (some (1,[s[0]],2))) (by simp[results,Tryz.results146,go_sem,cn,iX]) rfl ⟨?_,uZ⟩;rw[bB.out];try rfl
 by_cases dh:s[0].toNat=123
 ·have hsl:=St.qv (r:=s.1.1.drop 1) dh;rw[<-e2,<-hcr]at hsl;have htx:=aa (λW=>je s[0] 123 (by omega) W);cases hq2:preB ⟨#[123,123]⟩ s
  ·rw[hq2]at hsl hp2;simp only[Bool.false_eq_true,if_false]at hsl;have bB:=aa hsl;have fS:=aa hp2;have mv:=λW=>wQ s W hs h0
   obtain⟨k,x,m,hv⟩:=mT ((St.cR s.1.1).map λx=>((5:Int),x.1,x.2));have HV:=aa hv;rw[hv]at mv;have HS:=aa mv;clear hsl hp1 hp2 e1 e2 hq2 hcr mv hv;go_enter Tryz.func146,Tryz.ntmps146;go_wp2_with (first|(go_at_call 135;refine(fS.out _).mono ?_;rintro e w' ⟨rfl,rfl⟩)|(go_at_call 180;refine(HS.out _).mono ?_;rintro e w' ⟨rfl,X,rfl⟩));refine bodyPost_ret (v:=Yu #[.agg #[Yp Yv k,Yq x,Yp Yv 0],Yp Yv m]) (by simp[results,Tryz.results146,go_sem]) rfl ⟨?_,uZ⟩;rw[bB.out,HV.out]
  rw[hq2]at hsl hp2;have bB:=aa hsl;have fS:=aa hp2;clear hsl hp1 hp2 e1 e2 hq2 hcr;go_enter Tryz.func146,Tryz.ntmps146;go_wp2_with (first|(go_at_call 135;refine(fS.out _).mono ?_;rintro e w' ⟨rfl,rfl⟩)|(go_at_call 179;refine(htx.out _).mono ?_;rintro e w' ⟨rfl,X,rfl⟩));refine bodyPost_ret (v:=cn (some (1,[s[0]],2))) (by simp[results,Tryz.results146,go_sem,cn,iX]) rfl ⟨?_,uZ⟩;rw[bB.out];try rfl
 have hsl:=St.ov (r:=s.1.1.drop 1) gZ dh;rw[<-hcr]at hsl;have htx:=aa (λW=>je s[0] (s[0].toNat:Int) rfl W);have d34:((s[0].toNat:Int)==34)=false:=by simp;omega
 have d123:((s[0].toNat:Int)==123)=false:=by simp;omega
 have bB:=aa hsl;clear hsl hp1 hp2 e1 e2 hcr gZ dh;go_enter Tryz.func146,Tryz.ntmps146;go_wp2_with (go_at_call 179;refine(htx.out _).mono ?_;rintro e w' ⟨rfl,X,rfl⟩);refine bodyPost_ret (v:=cn (some (1,[s[0]],1))) (by simp[results,Tryz.results146,go_sem,cn,iX]) rfl ⟨?_,uZ⟩;rw[bB.out];try rfl
end
section
def qA(E:List UInt8->St.El):Prop:=∀l k t n,E l=some (k,t,n)->(k=0\/k=1\/k=5)/\1<=n/\n<=l.length/\t.length<=n
def Ct(fmt:Int)(E:List UInt8->St.El):Prop:=
 ∀(s:ByteArray) (w:YA),s.size<=4611686018427387904->1<=s.size->Calls Tryz.prog 104 #[Yp Yv fmt,Yq s] w λe w'=>e=Yx (cn (E s.1.1))/\ac w w'
def fz(R:List St.It × List Nat × Nat × Int)(w:YA)(e:Ending)(w':YA):Prop:=
 ∃v1 v2,e=Yx (Yu #[v1,v2,Yp Yv (R.2.2.1:Int),Yp Yv R.2.2.2])/\w'.ownsRow w.1.size 36 3 v1 R.1.length (ak R.1)/\w'.ownsRow w.1.size 3 1 v2 R.2.1.length (fc R.2.1)/\ac w w'
def SJ(w:YA)(E:List UInt8->St.El)(raw:ByteArray)(s8 s9 dy gB s12 nU:Value)(wr:YA):Prop:=
 ∃(a d:Nat) (f:List St.It) (cuts:List Nat) (fuel:Nat),s9=Yr none 0 0/\gB=Yp Yv a/\s12=Yp Yv d/\nU=Yp Yv 0/\a<=raw.size/\raw.size-a<=fuel /\
  wr.ownsRow w.1.size 36 3 s8 f.length (ak f)/\wr.ownsRow w.1.size 3 1 dy cuts.length (fc cuts)/\St.Nm f/\aY f<=a/\f.length<=512/\cuts.length<=1024 /\
  St.dec E raw.size raw.1.1 0 0 [] []=St.dec E fuel (raw.1.1.drop a) a d f cuts/\ac w wr
theorem F1{raw:ByteArray}{a:Nat}(h:a<raw.size):raw.1.1.drop a≠[]:=by
 intro e;have:=congrArg List.length e
 simp at this;omega
theorem lj(fmt:Int)(E:List UInt8->St.El)(hE:Ct fmt E)(hok:qA E)(raw:ByteArray)(w:YA)(hr:raw.size<=4611686018427387904) :
  Calls Tryz.prog 63 #[Yp Yv fmt,Yq raw] w (fz (St.dec E raw.size raw.1.1 0 0 [] []) w):=by
 obtain⟨i0,hi,hz0,hz1,hz2⟩:=info_parts gQ;go_enter Tryz.func63,Tryz.ntmps63;go_wp2;go_loopw [8,9,10,11,12,13] (λs8 s9 dy gB s12 nU wr=>SJ w E raw s8 s9 dy gB s12 nU wr) (λ_ _ _ gB _ _ _=>raw.size+1-(intOf gB).toNat)
 case atStart=>exact⟨0,0,[],[],raw.size,rfl,rfl,rfl,rfl,by omega,by omega,World.ownsRow_nil _ _ _ _,World.ownsRow_nil _ _ _ _,St.nQ,by simp[aY],by simp,by simp,by simp,ac.refl _⟩
 case round=>
  obtain⟨a,d,f,cuts,fuel,rfl,rfl,rfl,rfl,ha,hfu,hO8,hO10,hN,ht,h1,h2,hD,hu⟩:=hrel;have HD:=aa hD;have HU:=aa hu;have lY:=aa hO8;have jJ:=aa hO10;have hsz:=hu.size;have HN:=aa hN;clear hN
  by_cases hlt:a<raw.size
  ·have h0:=F1 hlt;obtain⟨fuel,rfl⟩:∃m,fuel=m+1:=⟨fuel-1,by omega⟩;obtain⟨x,hx⟩:∃x,raw.extract a raw.size=x:=⟨_,rfl⟩;have hxl:x.1.1=raw.1.1.drop a:=by rw[<-hx,Lib.extract_data,List.take_of_length_le (by simp)]
   have hxs:x.size=raw.size-a:=by rw[<-hx];simp
   have hel:=λW=>hE x W (by omega) (by omega)
   rw[hxl]at hel;have jR:=aa hel;have y1:(a:Int)<=(raw.size:Int):=by omega
   have y2:(a:Int)<(raw.size:Int):=by omega
   clear hel hD hu hE;cases hs:E (raw.1.1.drop a)with
   | none=>
    have hd2:=aa (HD.out.trans (St.oX fuel a d _ cuts h0 hs));have j3:Hid (∀W,Calls Tryz.prog 104 #[Yp Yv fmt,Yq x] W λe w'=>e=Yx (Yu #[.agg #[Yp Yv 0,Yq ⟨#[]⟩,Yp Yv 0],Yp Yv 0])/\ac W w'):=aa (by have:=jR.out;rw[hs]at this;exact this);clear hs h0 HD jR hxl hO8 hO10;go_wp2_with (go_at_call 104;refine(j3.out _).mono ?_;rintro e w2 ⟨rfl,hu2⟩);have hu3:=HU.out.trans hu2;refine bodyPost_ret (v:=Yu #[Yr none 0 0,Yr none 0 0,Yp Yv a,Yp Yv 2]) (by simp[results,Tryz.results63,go_sem]) rfl ?_;unfold fz;rw[hd2.out];exact⟨_,_,rfl,World.ownsRow_nil _ _ _ _,World.ownsRow_nil _ _ _ _,uZ⟩
   | some q=>
    obtain⟨k,t,n⟩:=q;obtain⟨hk,jk,fD,htn⟩:=hok _ _ _ _ hs;have ph:a+n<=raw.size:=by simp at fD;omega
    have d0:((n:Int)==0)=false:=by simp;omega
    have jj:(raw.1.1.drop a).drop n=raw.1.1.drop (a+n):=by rw[List.drop_drop]
    have j3:Hid (∀W,Calls Tryz.prog 104 #[Yp Yv fmt,Yq x] W λe w'=>e=Yx (Yu #[.agg #[Yp Yv k,Yq ⟨t.toArray⟩,Yp Yv 0],Yp Yv n])/\ac W w'):=aa (by have:=jR.out;rw[hs]at this;exact this)
    by_cases ic:k=0
    ·subst ic;have hd2:=HD.out.trans (St.vX fuel a d _ cuts h0 hs);rw[jj]at hd2;have du:=aa hd2;clear hs h0 HD jR hxl hO8 hO10 hd2 jj fD;go_wp2_with (go_at_call 104;refine(j3.out _).mono ?_;rintro e w2 ⟨rfl,hu2⟩);have hu3:=HU.out.trans hu2;exact⟨⟨a+n,d,f,cuts,fuel,rfl,congrArg (Yp Yv) (by omega),rfl,rfl,ph,by omega,aH (uZ) lY.out,aH (uZ) jJ.out,HN.out,by omega,h1,h2,du.out,uZ⟩,by simp[intOf];omega⟩
    have hk':k=1\/k=5:=by omega
    have hnl:St.bI (f++[(k,t,0)])=St.aK f (k,t,0):=by rw[St.ek,HN.out]
    have htx:aY (f++[(k,t,0)])<=a+n:=by rw[cA];simp only;omega
    have DL:=ik f (k,t,0);have Ry:=(St.gN f (k,t,0)).1;have KF:St.Nm (St.aK f (k,t,0)):=St.eJ HN.out _;obtain⟨A8,c8,rfl,_,_,hA8⟩:=aW hO8;obtain⟨gJ,bK,rfl,_,_,hA10⟩:=aW hO10
    have kZ:∀(W:YA) (b:Nat),aJ W A8 f->aJ W (some ⟨b,0,none⟩) [(k,t,0)]->Calls Tryz.prog 44 #[Yr A8 f.length c8,Yr (some ⟨b,0,none⟩) 1 1] W λe w'=>∃v,e=Yx v/\w'.ownsRow W.1.size 36 3 v (St.aK f (k,t,0)).length (ak (St.aK f (k,t,0)))/\ac W w':=by
     intro W b h h';have:=l5 A8 f.length c8 f (some ⟨b,0,none⟩) 1 1 [(k,t,0)] W rfl rfl (λe=>by have:=hA8 e;omega) (λe=>by cases e) h h' (by omega) (by omega)
     rw[hnl]at this;exact this
    have eg:=aa kZ;have hstep:=St.oY fuel a d f cuts h0 hs ic;have hfull:=St.oW fuel a d f cuts h0 hs ic;rw[jj]at hstep;have Q9:=aa (a7 hO8 rfl);generalize hg:St.aK f (k,t,0)=g at kZ hstep hfull DL Ry KF eg;have HST:=aa hstep;have cC:=aa hfull;have VS:=aa KF;have XA:=aa Ry;clear kZ hstep hfull hs h0 jj jR hxl hO8 hO10 KF hnl fD hg Ry;have q0:(k==0)=false:=by rcases hk' with rfl|rfl<;>rfl
    have q2:(k==2)=false:=by rcases hk' with rfl|rfl<;>rfl
    have q3:(k==3)=false:=by rcases hk' with rfl|rfl<;>rfl
    have q4:(k==4)=false:=by rcases hk' with rfl|rfl<;>rfl
    clear hk hk' ic
    by_cases cD:512<g.length
    ·have hd2:=HD.out.trans (cC.out (.inl cD));have du:=aa hd2;have z5:((512:Int)<(g.length:Int)):=by omega
     clear hd2 HD;go_wp2_with (first|(go_at_call 104;refine(j3.out _).mono ?_;rintro e w2 ⟨rfl,hu2⟩)|(go_at_call 44;refine(eg.out _ _ ?_ ?_).mono ?_))
     ·exact Q9.out.ai (uZ)
     ·exact sf _ _ _ _ _
     rintro e w3 ⟨v3,rfl,cZ,hu3⟩;obtain⟨A3,c3,rfl,_,_,_⟩:=aW cZ;have bj:ac wr w3:=ac.trans (uZ) hu3;have bt:=HU.out.trans bj;clear cZ hu3 hu2 bj;go_wp2;refine bodyPost_ret (v:=Yu #[Yr none 0 0,Yr none 0 0,Yp Yv a,Yp Yv 3]) (by simp[results,Tryz.results63,go_sem]) rfl ?_;unfold fz;rw[du.out];exact⟨_,_,rfl,World.ownsRow_nil _ _ _ _,World.ownsRow_nil _ _ _ _,uZ⟩
    have z5:¬((512:Int)<(g.length:Int)):=by omega
    by_cases fY:1024<=cuts.length
    ·have hd2:=HD.out.trans (cC.out (.inr fY));have du:=aa hd2;have z6:((1024:Int)<=(cuts.length:Int)):=by omega
     clear hd2 HD;go_wp2_with (first|(go_at_call 104;refine(j3.out _).mono ?_;rintro e w2 ⟨rfl,hu2⟩)|(go_at_call 44;refine(eg.out _ _ ?_ ?_).mono ?_))
     ·exact Q9.out.ai (uZ)
     ·exact sf _ _ _ _ _
     rintro e w3 ⟨v3,rfl,cZ,hu3⟩;obtain⟨A3,c3,rfl,_,_,_⟩:=aW cZ;have bj:ac wr w3:=ac.trans (uZ) hu3;have bt:=HU.out.trans bj;clear cZ hu3 hu2 bj;go_wp2;refine bodyPost_ret (v:=Yu #[Yr none 0 0,Yr none 0 0,Yp Yv a,Yp Yv 3]) (by simp[results,Tryz.results63,go_sem]) rfl ?_;unfold fz;rw[du.out];exact⟨_,_,rfl,World.ownsRow_nil _ _ _ _,World.ownsRow_nil _ _ _ _,uZ⟩
    have hd2:=HD.out.trans (HST.out (by omega));have du:=aa hd2;have z6:¬((1024:Int)<=(cuts.length:Int)):=by omega
    clear hd2 HD;go_wp2_with (first|(go_at_call 104;refine(j3.out _).mono ?_;rintro e w2 ⟨rfl,hu2⟩)|(go_at_call 44;refine(eg.out _ _ ?_ ?_).mono ?_))
    ·exact Q9.out.ai (uZ)
    ·exact sf _ _ _ _ _
    rintro e w3 ⟨v3,rfl,cZ,hu3⟩;obtain⟨A3,c3,rfl,_,_,_⟩:=aW cZ;have bj:ac wr w3:=ac.trans (uZ) hu3;have hs4:=bj.size;have de:=aa (HU.out.trans bj);have gF:=aa (aH bj jJ.out);have ft:=aa (cT (base':=w.1.size) cZ (by have:=hu2.size;simp;omega));have hc:w3.cell? ⟨w2.1.size,0,none⟩=some (.int .i64 k):=(hu3.cell (show w2.1.size<_ by simp;omega)).trans (by simp);haveI:af w2.1.size w3:=af.of (by have:=hu3.size;simp at this;omega);clear cZ hu3 hu2;go_wp2_with (at_builtin;refine wpList_append_own _ rfl _ _ 42 rfl w.1.size 3 i0 (.int .i64 0) 1 8 Tryz.underlying42 hi hz0 hz1 hz2 rfl (by decide) (.slice gJ cuts.length bK) cuts.length (fc cuts) rfl ?_ _ 1 1 [.int .i64 d] rfl rfl ?_ ?_ (by unfold maxLen;omega) (by omega) ?_ ?_)
    ·exact aH (uZ) gF.out
    ·exact gS _ _ _
    ·intro u hu';simp at hu';subst hu';rfl
    ·have:=de.out.size;simp;omega
    intro v' w5 fh ga _;rw[<-dF]at fh;have dS:=aa ((de.out.alloc _).grown ga (λg hg=>aD gF.out g hg));have hA:∀ {W:YA},ac w3 W->W.grownBy w5 (Yr gJ cuts.length bK).ownBlock->w5.ownsRow w.1.size 36 3 (Yr A3 g.length c3) g.length (ak g):=λhW h5=>(aH hW ft.out).kept h5 (da (aH hW ft.out) (aH hW gF.out) (by decide))
    have mQ:=aa (hA (uZ) ga);have fA:=aa fh;clear ga fh hA hc;go_wp2;exact⟨⟨a+n,a+n,g,cuts++[d],fuel,rfl,congrArg (Yp Yv) (by omega),congrArg (Yp Yv) (by omega),rfl,ph,by omega,mQ.out,by simpa using fA.out,VS.out,by omega,by omega,by simp;omega,du.out,dS.out⟩,by simp[intOf];omega⟩
  have xT:a=raw.size:=by omega
  subst xT;have hnil:raw.1.1.drop raw.size=[]:=List.drop_of_length_le (by simp);have hd2:=HD.out;rw[hnil,St.rj]at hd2;have du:=aa hd2;obtain⟨gJ,bK,rfl,_,_,hA10⟩:=aW hO10;have la:=HU.out.size;clear hlt hD HD hu hnil hd2 hO8 hO10;go_wp2_with (at_builtin;refine wpList_append_own _ rfl _ _ 42 rfl w.1.size 3 i0 (.int .i64 0) 1 8 Tryz.underlying42 hi hz0 hz1 hz2 rfl (by decide) (.slice gJ cuts.length bK) cuts.length (fc cuts) rfl ?_ _ 1 1 [.int .i64 d] rfl rfl ?_ ?_ (by unfold maxLen;omega) (by omega) ?_ ?_)
  ·exact aH (uZ) jJ.out
  ·exact gS _ _ _
  ·intro u hu';simp at hu';subst hu';rfl
  ·simp;omega
  intro v' w5 fh ga _;rw[<-dF]at fh;have dS:=aa ((HU.out.alloc _).grown ga (λg hg=>aD jJ.out g hg));have hA:∀ {W:YA} {v:Value},ac wr W->W.grownBy w5 (Yr gJ cuts.length bK).ownBlock->wr.ownsRow w.1.size 36 3 v f.length (ak f)->w5.ownsRow w.1.size 36 3 v f.length (ak f):=λhW h5 hv=>(aH hW hv).kept h5 (da (aH hW hv) (aH hW jJ.out) (by decide))
  have mQ:=aa (hA (uZ) ga lY.out);have fA:=aa fh;clear ga fh hA;go_wp2;refine bodyPost_ret (v:=Yu #[_,v',Yp Yv 0,Yp Yv 0]) (by simp[results,Tryz.results63,go_sem];rfl) rfl ?_;unfold fz;rw[du.out];exact⟨_,_,rfl,mQ.out,by simpa using fA.out,dS.out⟩
end
section
theorem ej(W:YA)(b:Nat)(k:Int)(t:List UInt8)(i:Int)(hb:b<W.1.size)(h0:W.cell? ⟨b,0,none⟩=some (Yp Yv k))(h1:W.cell? ⟨b,1,none⟩=some (Yq ⟨t.toArray⟩))(h2:W.cell? ⟨b,2,none⟩=some (Yp Yv i)):aJ W (some ⟨b,0,none⟩) [(k,t,i)]:=by
 intro _;refine⟨b,0,rfl,hb,λj hj=>?_⟩;obtain rfl:j=0:=by simpa using hj
 exact⟨h0,h1,h2⟩
end
section
@[go_sem] theorem conv_one (W:YA) (c:Int):(convert 22 9 (Yr (some ⟨W.1.size,0,none⟩) 1 1)).run Tryz.prog (W.alloc (.cells #[Yp .u8 c] 5))=.ok (Yq ⟨#[UInt8.ofNat c.toNat]⟩) (W.alloc (.cells #[Yp .u8 c] 5)):=by
 rw[run_convert_bytes_arg _ 22 5 Tryz.underlying22 Tryz.underlying5 W.1.size 0 1 1 [c] rfl (λi hi=>by
  obtain rfl:i=0:=by omega
  rw[World.cell?_alloc_at _ _ _ _ rfl];simp) _ Tryz.underlying9]
 rfl
def Qf(n:Nat)(w:YA)(a s:Value)(wr:YA):Prop:=
 ∃(m:Nat) (l:List UInt8),m<=n/\l.length<=n-m/\a=Yp Yv m/\s=Yq ⟨l.toArray⟩/\Hid (Lib.decDigits n=Lib.decDigits m++l)/\ac w wr
theorem C9(k:Nat):UInt8.ofNat (48+k)=48+UInt8.ofNat k:=by
 apply UInt8.toNat.inj;simp[UInt8.toNat_add]
theorem dec_lt{m:Nat}(h:m<10):Lib.decDigits m=[48+UInt8.ofNat (m % 10)]:=by
 rw[Lib.decDigits_one h,C9,Nat.mod_eq_of_lt h]
theorem QS{m:Nat}(h:¬m<10):Lib.decDigits m=Lib.decDigits (m / 10)++[48+UInt8.ofNat (m % 10)]:=by
 rw[Lib.decDigits,dif_neg h,C9]
theorem AA(a b:Array UInt8):(⟨a⟩:ByteArray)++(⟨b⟩:ByteArray)=⟨a++b⟩:=by
 apply ByteArray.ext;simp[ByteArray.data_append]
theorem PW{a b:ByteArray}(h:a=b):Ending.returned (Yq a)=Yx (Yq b):=by rw[h]
theorem qG(n:Nat)(w:YA)(hn:n<=4611686018427387904) :
  Calls Tryz.prog 176 #[Yp Yv n] w λe w'=>e=Yx (Yq ⟨(Lib.decDigits n).toArray⟩)/\ac w w':=by
 go_enter Tryz.func176,Tryz.ntmps176;go_wp2;go_loopw [0,3] (λa s wr=>Qf n w a s wr) (λa _ _=>(intOf a).toNat)
 case atStart=>exact⟨n,[],by omega,by simp,rfl,rfl,aa (by simp),ac.refl _⟩
 case round=>
  obtain⟨m,l,hm,hl,rfl,rfl,H,X,rfl⟩:=hrel
  by_cases h10:m<10
  ·have e1:((m:Int) / 10==0)=true:=by simp;omega
   go_wp2;go_ret;refine⟨PW ?_,uZ⟩;rw[H.out,dec_lt h10,AA];simp
  have e1:((m:Int) / 10==0)=false:=by simp;omega
  go_wp2;rw[AA];refine⟨⟨m / 10,(48+UInt8.ofNat (m % 10)) :: l,by omega,by simp;omega,by simp,by simp,aa ?_,uZ⟩,?_⟩
  ·rw[H.out,QS h10];simp
  simp[intOf];omega
end
section
theorem Ly{l:List UInt8}{t:List UInt8}{n:Nat}(h:St.cR l=some (t,n)):t.length<=n:=by
 unfold St.cR at h;simp only[]at h
 split at h
 ·simp only[Option.some.injEq,Prod.mk.injEq]at h;obtain⟨rfl,rfl⟩:=h;omega
 cases h
theorem ET:qA St.cx:=by
 intro l k t n h;obtain⟨hk,h1,h2⟩:=St.uK h;refine⟨by omega,h1,h2,?_⟩
 match l,h with
 | c :: r,h=>
  by_cases gZ:c.toNat=34
  ·rw[St.sO gZ]at h
   split at h
   ·simp only[Option.some.injEq,Prod.mk.injEq]at h;obtain⟨_,rfl,rfl⟩:=h;simp
   cases h
  by_cases dh:c.toNat=123
  ·rw[St.qv dh]at h
   split at h
   ·simp only[Option.some.injEq,Prod.mk.injEq]at h;obtain⟨_,rfl,rfl⟩:=h;simp
   cases hs:St.cR (c :: r)with
   | none=>rw[hs]at h;cases h
   | some x=>
    rw[hs]at h;obtain⟨x1,x2⟩:=x;simp only[Option.map_some,Option.some.injEq,Prod.mk.injEq]at h;obtain⟨_,rfl,rfl⟩:=h;exact Ly hs
  rw[St.ov gZ dh]at h;simp only[Option.some.injEq,Prod.mk.injEq]at h;obtain⟨_,rfl,rfl⟩:=h;simp
theorem ES:Ct 3 St.cx:=by
 intro s w hs h0;obtain⟨k,x,m,hv⟩:=mT (St.cx s.1.1);have hsh:=λW=>I4 s W hs h0
 rw[hv]at hsh;have HS:=aa hsh;have HV:=aa hv;clear hsh hv;go_enter Tryz.func104,Tryz.ntmps104;go_wp2_with (go_at_call 146;refine(HS.out _).mono ?_;rintro e w' ⟨rfl,X,rfl⟩);refine bodyPost_ret (v:=Yu #[.agg #[Yp Yv k,Yq x,Yp Yv 0],Yp Yv m]) (by simp[results,Tryz.results104,go_sem]) rfl ⟨?_,uZ⟩;rw[HV.out]
end
