/- The contracts of the reference's begins, text, slot and sheet element: what they give is. -/
import Derived.Laws.BytesArg
import Derived.WalkSpells
import Derived.Lib.Strings
import Derived.Lib.IndexBytes
import Derived.Outline
import Derived.IntWalk
import Derived.Test.YthoemdibbldndaaGreatDoorGB
import Derived.Lib.ItoaNum
set_option linter.all false
set_option maxHeartbeats 0
set_option maxRecDepth 20000
open Go.Value renaming int->Yh,string->Yi,slice->Yj,tuple->Ym
open Go.IntKind renaming i64->Yn
open Go.Ending renaming returned->Yp
open Go renaming World->Ys
namespace Go.Proofs.YthoemdibbldndaaGreatDoor
open Go.RowKit
section
def iS(k:Int)(t:List UInt8):Value:=.agg #[Yh Yn k,Yi ⟨t.toArray⟩,Yh Yn 0]
def ci:St.El->Value
 | none=>Ym #[.agg #[Yh Yn 0,Yi ⟨#[]⟩,Yh Yn 0],Yh Yn 0]
 | some (k,t,n)=>Ym #[iS k t,Yh Yn n]
theorem mT(E:St.El):∃(k:Int) (x:ByteArray) (m:Int),ci E=Ym #[.agg #[Yh Yn k,Yi x,Yh Yn 0],Yh Yn m]:=by
 rcases E with _|⟨k,t,n⟩
 ·exact⟨_,_,_,rfl⟩
 exact⟨_,_,_,rfl⟩
theorem MY(c:UInt8)(w:Ys):Calls Tryz.prog 179 #[Yh .u8 (c.toNat:Int)] w λe w'=>e=Yp (iS 1 [c])/\ac w w':=by
 go_enter Tryz.func179,Tryz.ntmps179;go_wp2;exact bodyPost_ret (v:=iS 1 [c]) (by simp[results,Tryz.results179,go_sem,iS]) rfl ⟨rfl,uZ⟩
theorem gC(s t:ByteArray)(w:Ys)(hs:s.size<=9223372036854775807)(ht:t.size<=9223372036854775807):Calls Tryz.prog 135 #[Yi s,Yi t] w λe w'=>e=Yp (.bool (preB t s))/\w=w':=by
 by_cases h:t.size<=s.size
 ·have z:(t.size:Int)<=(s.size:Int):=by omega
  go_enter Tryz.func135,Tryz.ntmps135;go_wp2;go_ret;refine⟨az ?_,rfl⟩;unfold preB;rw[Lib.toList_data,Lib.toList_data,Lib.extract_data,<-St.nf];simp
 have z:¬(t.size:Int)<=(s.size:Int):=by omega
 have H:=aa h;clear h;have hz:preB t s=false:=St.vR _ _ (by have:=H.out;simp;omega);go_enter Tryz.func135,Tryz.ntmps135;go_wp2;go_ret;exact⟨az (by first|rfl|exact hz.symm),rfl⟩
def jc(l:List UInt8):List UInt8:=l.takeWhile (λc=>decide (c.toNat≠125))
def SV(s:ByteArray)(w:Ys)(i:Value)(wr:Ys):Prop:=
 ∃k:Nat,i=Yh Yn k/\1<=k/\k<=26/\(jc (s.1.1.drop 1)).length=(k-1)+(jc (s.1.1.drop k)).length/\(w.alloc (.cells #[Yh Yn 0,Yi ⟨#[]⟩,Yh Yn 0] 36))=wr
theorem Iw{l:List UInt8}(h:¬(jc (l.drop 1)).length+1<l.length):St.cM l=none:=by
 unfold St.cM;simp only[];have e:decide ((jc (l.drop 1)).length+1<l.length)=false:=decide_eq_false h;unfold jc at e;rw[e];rfl
theorem x7{l:List UInt8}(h:St.aE (jc (l.drop 1))=false):St.cM l=none:=by
 unfold St.cM;simp only[];unfold jc at h;rw[h];simp
theorem KL{l:List UInt8}(h1:(jc (l.drop 1)).length+1<l.length)(h:St.aE (jc (l.drop 1))=true):St.cM l=some (jc (l.drop 1),(jc (l.drop 1)).length+2):=by
 unfold St.cM;simp only[];have e:decide ((jc (l.drop 1)).length+1<l.length)=true:=decide_eq_true h1;unfold jc at e h |-;rw[e,h];rfl
theorem Mp{l:List UInt8}(h:24<l.length):St.aE l=false:=by
 cases l with
 | nil=>rfl
 | cons c r=>
  rw[St.aE];have:¬r.length<=23:=by simp at h;omega
  rw[decide_eq_false this];rfl
theorem wa(s:ByteArray)(w:Ys)(hs:s.size<=4611686018427387904)(h0:1<=s.size) :
  Calls Tryz.prog 180 #[Yi s] w λe w'=>e=Yp (ci ((St.cM s.1.1).map λx=>(5,x.1,x.2)))/\ac w w':=by
 have hlen:=St.aC s;go_enter Tryz.func180,Tryz.ntmps180;go_wp2;go_loopw [4] (λi wr=>SV s w i wr) (λi _=>27-(intOf i).toNat)
 case atStart=>exact⟨1,rfl,by omega,by omega,by simp,rfl⟩
 case round=>
  obtain⟨k,rfl,hk1,hk2,hk3,rfl⟩:=hrel;have HK:=aa hk3;have HL:=aa hlen;clear hk3 hlen
  by_cases hlt:k<s.size
  ·have av:=St.drop_at s k hlt;have z1:(k:Int)<s.size:=by omega
   by_cases XA:k<=25
   ·have z2:(k:Int)<=25:=by omega
    by_cases hc:s[k].toNat=125
    ·have z3:((s[k].toNat:Int)==125)=true:=by simp;omega
     have ff:jc (s.1.1.drop k)=[]:=by rw[av];unfold jc;rw[List.takeWhile_cons_of_neg (by simp[hc])]
     have hn:(jc (s.1.1.drop 1)).length=k-1:=by rw[HK.out,ff];simp
     obtain⟨x,hX⟩:∃x,s.extract 1 k=x:=⟨_,rfl⟩
     have hxl:x.1.1=jc (s.1.1.drop 1):=by
      have h1:jc (s.1.1.drop 1)=(s.1.1.drop 1).take (jc (s.1.1.drop 1)).length:=List.prefix_iff_eq_take.1 (List.takeWhile_prefix _);rw[h1,hn,<-hX,Lib.extract_data]
     have hxs:x.size<=s.size:=by rw[<-hX];simp;omega
     have be:=λW=>ny x W (by omega)
     have y1:(1:Int)<=(k:Int):=by omega
     have y2:(k:Int)<=s.size:=by omega
     rw[hxl]at be;cases hb:St.aE (jc (s.1.1.drop 1))
     ·have hR:=aa (x7 hb);rw[hb]at be;have bt:=aa be;clear hb be hxl hn ff av;go_wp2_with (go_at_call 177;refine(bt.out _).mono ?_;rintro e w' ⟨rfl,rfl⟩);refine bodyPost_ret (v:=ci none) (by simp[results,Tryz.results180,go_sem,ci]) rfl ⟨?_,uZ⟩;rw[hR.out];try rfl
     have hR:=aa (KL (by rw[hn,HL.out];omega) hb);rw[hb]at be;have bt:=aa be;have Uc:x=⟨(jc (s.1.1.drop 1)).toArray⟩:=by rw[<-hxl];try (cases x;simp)
     have HN:=aa hn;have V4:=aa Uc;clear hb be hxl hn ff av Uc;go_wp2_with (go_at_call 177;refine(bt.out _).mono ?_;rintro e w' ⟨rfl,rfl⟩);refine bodyPost_ret (v:=Ym #[.agg #[Yh Yn 5,Yi x,Yh Yn 0],Yh Yn ((k:Int)+1)]) (by simp[results,Tryz.results180,go_sem]) rfl ⟨?_,uZ⟩;rw[hR.out,V4.out];have e:((k-1+2:Nat):Int)=(k:Int)+1:=by omega
     show _=Ending.returned (Ym #[iS 5 (jc (s.1.1.drop 1)),Yh Yn (((jc (s.1.1.drop 1)).length+2:Nat):Int)])
     rw[HN.out,e];rfl
    have z3:((s[k].toNat:Int)==125)=false:=by simp;omega
    have ff:(jc (s.1.1.drop k)).length=1+(jc (s.1.1.drop (k+1))).length:=by
     rw[av];unfold jc;rw[List.takeWhile_cons_of_pos (by simpa using hc)];simp;omega
    have I0:=aa ff;clear ff av;go_wp2;exact⟨⟨k+1,congrArg (Yh Yn) (by omega),by omega,by omega,by rw[HK.out,I0.out];omega,rfl⟩,by simp[intOf];omega⟩
   have z2:¬(k:Int)<=25:=by omega
   have hR:=aa (x7 (Mp (l:=jc (s.1.1.drop 1)) (by rw[HK.out];omega)));clear av;go_wp2;refine bodyPost_ret (v:=ci none) (by simp[results,Tryz.results180,go_sem,ci]) rfl ⟨?_,uZ⟩;rw[hR.out];try rfl
  have z1:¬(k:Int)<s.size:=by omega
  have hR:=aa (Iw (l:=s.1.1) (by rw[HK.out,HL.out];omega));go_wp2;refine bodyPost_ret (v:=ci none) (by simp[results,Tryz.results180,go_sem,ci]) rfl ⟨?_,uZ⟩;rw[hR.out];try rfl
theorem ja(c:UInt8)(m:Int)(hm:m=(c.toNat:Int))(w:Ys):Calls Tryz.prog 179 #[Yh .u8 m] w λe w'=>e=Yp (.agg #[Yh Yn 1,Yi ⟨#[c]⟩,Yh Yn 0])/\ac w w':=by
 subst hm;exact MY c w
theorem Ij(s:ByteArray)(w:Ys)(hs:s.size<=4611686018427387904)(h0:1<=s.size) :
  Calls Tryz.prog 146 #[Yi s] w λe w'=>e=Yp (ci (St.cm s.1.1))/\ac w w':=by
 have hcr:s.1.1=s[0] :: s.1.1.drop 1:=St.fB s (by omega);have hp1:=λW=>gC s ⟨#[34,34]⟩ W (by omega) (by show 2<=_;omega)
 have hp2:=λW=>gC s ⟨#[123,123]⟩ W (by omega) (by show 2<=_;omega)
 have e1:preB ⟨#[34,34]⟩ s=([34,34]:List UInt8).isPrefixOf (s[0] :: s.1.1.drop 1):=by unfold preB;rw[<-hcr]
 have e2:preB ⟨#[123,123]⟩ s=([123,123]:List UInt8).isPrefixOf (s[0] :: s.1.1.drop 1):=by unfold preB;rw[<-hcr]
 have z0:0<s.size:=by omega
 by_cases gS:s[0].toNat=34
 ·have hsl:=St.sr (r:=s.1.1.drop 1) gS;rw[<-e1,<-hcr]at hsl;have htx:=aa (λW=>ja s[0] 34 (by omega) W);cases hq1:preB ⟨#[34,34]⟩ s
  ·rw[hq1]at hsl hp1;have bm:=aa hsl;have oG:=aa hp1;clear hsl hp1 hp2 e1 e2 hq1 hcr;go_enter Tryz.func146,Tryz.ntmps146;go_wp2_with (go_at_call 135;refine(oG.out _).mono ?_;rintro e w' ⟨rfl,rfl⟩);refine bodyPost_ret (v:=ci none) (by simp[results,Tryz.results146,go_sem,ci]) rfl ⟨?_,uZ⟩;rw[bm.out];try rfl
  rw[hq1]at hsl hp1;have bm:=aa hsl;have oG:=aa hp1;clear hsl hp1 hp2 e1 e2 hq1 hcr;go_enter Tryz.func146,Tryz.ntmps146;go_wp2_with (first|(go_at_call 135;refine(oG.out _).mono ?_;rintro e w' ⟨rfl,rfl⟩)|(go_at_call 179;refine(htx.out _).mono ?_;rintro e w' ⟨rfl,X,rfl⟩));refine bodyPost_ret (v:=ci (some (1,[s[0]],2))) (by simp[results,Tryz.results146,go_sem,ci,iS]) rfl ⟨?_,uZ⟩;rw[bm.out];try rfl
 by_cases dj:s[0].toNat=123
 ·have hsl:=St.qh (r:=s.1.1.drop 1) dj;rw[<-e2,<-hcr]at hsl;have htx:=aa (λW=>ja s[0] 123 (by omega) W);cases hq2:preB ⟨#[123,123]⟩ s
  ·rw[hq2]at hsl hp2;simp only[Bool.false_eq_true,if_false]at hsl;have bm:=aa hsl;have gR:=aa hp2;have mq:=λW=>wa s W hs h0
   obtain⟨k,x,m,hv⟩:=mT ((St.cM s.1.1).map λx=>((5:Int),x.1,x.2));have HV:=aa hv;rw[hv]at mq;have HS:=aa mq;clear hsl hp1 hp2 e1 e2 hq2 hcr mq hv;go_enter Tryz.func146,Tryz.ntmps146;go_wp2_with (first|(go_at_call 135;refine(gR.out _).mono ?_;rintro e w' ⟨rfl,rfl⟩)|(go_at_call 180;refine(HS.out _).mono ?_;rintro e w' ⟨rfl,X,rfl⟩));refine bodyPost_ret (v:=Ym #[.agg #[Yh Yn k,Yi x,Yh Yn 0],Yh Yn m]) (by simp[results,Tryz.results146,go_sem]) rfl ⟨?_,uZ⟩;rw[bm.out,HV.out]
  rw[hq2]at hsl hp2;have bm:=aa hsl;have gR:=aa hp2;clear hsl hp1 hp2 e1 e2 hq2 hcr;go_enter Tryz.func146,Tryz.ntmps146;go_wp2_with (first|(go_at_call 135;refine(gR.out _).mono ?_;rintro e w' ⟨rfl,rfl⟩)|(go_at_call 179;refine(htx.out _).mono ?_;rintro e w' ⟨rfl,X,rfl⟩));refine bodyPost_ret (v:=ci (some (1,[s[0]],2))) (by simp[results,Tryz.results146,go_sem,ci,iS]) rfl ⟨?_,uZ⟩;rw[bm.out];try rfl
 have hsl:=St.oj (r:=s.1.1.drop 1) gS dj;rw[<-hcr]at hsl;have htx:=aa (λW=>ja s[0] (s[0].toNat:Int) rfl W);have d34:((s[0].toNat:Int)==34)=false:=by simp;omega
 have d123:((s[0].toNat:Int)==123)=false:=by simp;omega
 have bm:=aa hsl;clear hsl hp1 hp2 e1 e2 hcr gS dj;go_enter Tryz.func146,Tryz.ntmps146;go_wp2_with (go_at_call 179;refine(htx.out _).mono ?_;rintro e w' ⟨rfl,X,rfl⟩);refine bodyPost_ret (v:=ci (some (1,[s[0]],1))) (by simp[results,Tryz.results146,go_sem,ci,iS]) rfl ⟨?_,uZ⟩;rw[bm.out];try rfl
end
section
def qm(E:List UInt8->St.El):Prop:=∀l k t n,E l=some (k,t,n)->(k=0\/k=1\/k=5)/\1<=n/\n<=l.length/\t.length<=n
def BM(fmt:Int)(E:List UInt8->St.El):Prop:=
 ∀(s:ByteArray) (w:Ys),s.size<=4611686018427387904->1<=s.size->Calls Tryz.prog 104 #[Yh Yn fmt,Yi s] w λe w'=>e=Yp (ci (E s.1.1))/\ac w w'
def fz(R:List St.It × List Nat × Nat × Int)(w:Ys)(e:Ending)(w':Ys):Prop:=
 ∃v1 v2,e=Yp (Ym #[v1,v2,Yh Yn (R.2.2.1:Int),Yh Yn R.2.2.2])/\w'.ownsRow w.1.size 36 3 v1 R.1.length (ak R.1)/\w'.ownsRow w.1.size 3 1 v2 R.2.1.length (eY R.2.1)/\ac w w'
def Sn(w:Ys)(E:List UInt8->St.El)(raw:ByteArray)(s8 s9 db gw s12 mA:Value)(wr:Ys):Prop:=
 ∃(a d:Nat) (f:List St.It) (cuts:List Nat) (fuel:Nat),s9=Yj none 0 0/\gw=Yh Yn a/\s12=Yh Yn d/\mA=Yh Yn 0/\a<=raw.size/\raw.size-a<=fuel /\
  wr.ownsRow w.1.size 36 3 s8 f.length (ak f)/\wr.ownsRow w.1.size 3 1 db cuts.length (eY cuts)/\St.Nm f/\aV f<=a/\f.length<=512/\cuts.length<=1024 /\
  St.dec E raw.size raw.1.1 0 0 [] []=St.dec E fuel (raw.1.1.drop a) a d f cuts/\ac w wr
theorem Fa{raw:ByteArray}{a:Nat}(h:a<raw.size):raw.1.1.drop a≠[]:=by
 intro e;have:=congrArg List.length e
 simp at this;omega
theorem kZ(fmt:Int)(E:List UInt8->St.El)(hE:BM fmt E)(hok:qm E)(raw:ByteArray)(w:Ys)(hr:raw.size<=4611686018427387904) :
  Calls Tryz.prog 63 #[Yh Yn fmt,Yi raw] w (fz (St.dec E raw.size raw.1.1 0 0 [] []) w):=by
 obtain⟨i0,hi,hz0,hz1,hz2⟩:=info_parts fO;go_enter Tryz.func63,Tryz.ntmps63;go_wp2;go_loopw [8,9,10,11,12,13] (λs8 s9 db gw s12 mA wr=>Sn w E raw s8 s9 db gw s12 mA wr) (λ_ _ _ gw _ _ _=>raw.size+1-(intOf gw).toNat)
 case atStart=>exact⟨0,0,[],[],raw.size,rfl,rfl,rfl,rfl,by omega,by omega,World.ownsRow_nil _ _ _ _,World.ownsRow_nil _ _ _ _,St.nQ,by simp[aV],by simp,by simp,by simp,ac.refl _⟩
 case round=>
  obtain⟨a,d,f,cuts,fuel,rfl,rfl,rfl,rfl,ha,hfu,hO8,hO10,hN,ht,h1,h2,hD,hu⟩:=hrel;have HD:=aa hD;have HU:=aa hu;have lT:=aa hO8;have jG:=aa hO10;have hsz:=hu.size;have HN:=aa hN;clear hN
  by_cases hlt:a<raw.size
  ·have h0:=Fa hlt;obtain⟨fuel,rfl⟩:∃m,fuel=m+1:=⟨fuel-1,by omega⟩;obtain⟨x,hx⟩:∃x,raw.extract a raw.size=x:=⟨_,rfl⟩;have hxl:x.1.1=raw.1.1.drop a:=by rw[<-hx,Lib.extract_data,List.take_of_length_le (by simp)]
   have hxs:x.size=raw.size-a:=by rw[<-hx];simp
   have hel:=λW=>hE x W (by omega) (by omega)
   rw[hxl]at hel;have jN:=aa hel;have y1:(a:Int)<=(raw.size:Int):=by omega
   have y2:(a:Int)<(raw.size:Int):=by omega
   clear hel hD hu hE;cases hs:E (raw.1.1.drop a)with
   | none=>
    have hd2:=aa (HD.out.trans (St.oT fuel a d _ cuts h0 hs));have jY:Hid (∀W,Calls Tryz.prog 104 #[Yh Yn fmt,Yi x] W λe w'=>e=Yp (Ym #[.agg #[Yh Yn 0,Yi ⟨#[]⟩,Yh Yn 0],Yh Yn 0])/\ac W w'):=aa (by have:=jN.out;rw[hs]at this;exact this);clear hs h0 HD jN hxl hO8 hO10;go_wp2_with (go_at_call 104;refine(jY.out _).mono ?_;rintro e w2 ⟨rfl,hu2⟩);have hu3:=HU.out.trans hu2;refine bodyPost_ret (v:=Ym #[Yj none 0 0,Yj none 0 0,Yh Yn a,Yh Yn 2]) (by simp[results,Tryz.results63,go_sem]) rfl ?_;unfold fz;rw[hd2.out];exact⟨_,_,rfl,World.ownsRow_nil _ _ _ _,World.ownsRow_nil _ _ _ _,uZ⟩
   | some q=>
    obtain⟨k,t,n⟩:=q;obtain⟨hk,gu,fe,htn⟩:=hok _ _ _ _ hs;have pa:a+n<=raw.size:=by simp at fe;omega
    have d0:((n:Int)==0)=false:=by simp;omega
    have jf:(raw.1.1.drop a).drop n=raw.1.1.drop (a+n):=by rw[List.drop_drop]
    have jY:Hid (∀W,Calls Tryz.prog 104 #[Yh Yn fmt,Yi x] W λe w'=>e=Yp (Ym #[.agg #[Yh Yn k,Yi ⟨t.toArray⟩,Yh Yn 0],Yh Yn n])/\ac W w'):=aa (by have:=jN.out;rw[hs]at this;exact this)
    by_cases gU:k=0
    ·subst gU;have hd2:=HD.out.trans (St.vo fuel a d _ cuts h0 hs);rw[jf]at hd2;have dt:=aa hd2;clear hs h0 HD jN hxl hO8 hO10 hd2 jf fe;go_wp2_with (go_at_call 104;refine(jY.out _).mono ?_;rintro e w2 ⟨rfl,hu2⟩);have hu3:=HU.out.trans hu2;exact⟨⟨a+n,d,f,cuts,fuel,rfl,congrArg (Yh Yn) (by omega),rfl,rfl,pa,by omega,aF (uZ) lT.out,aF (uZ) jG.out,HN.out,by omega,h1,h2,dt.out,uZ⟩,by simp[intOf];omega⟩
    have hk':k=1\/k=5:=by omega
    have hnl:St.bl (f++[(k,t,0)])=St.aL f (k,t,0):=by rw[St.eh,HN.out]
    have htx:aV (f++[(k,t,0)])<=a+n:=by rw[cw];simp only;omega
    have C1:=gW f (k,t,0);have Rd:=(St.gL f (k,t,0)).1;have JV:St.Nm (St.aL f (k,t,0)):=St.eH HN.out _;obtain⟨A8,c8,rfl,_,_,hA8⟩:=aR hO8;obtain⟨gE,bH,rfl,_,_,hA10⟩:=aR hO10
    have kQ:∀(W:Ys) (b:Nat),aH W A8 f->aH W (some ⟨b,0,none⟩) [(k,t,0)]->Calls Tryz.prog 44 #[Yj A8 f.length c8,Yj (some ⟨b,0,none⟩) 1 1] W λe w'=>∃v,e=Yp v/\w'.ownsRow W.1.size 36 3 v (St.aL f (k,t,0)).length (ak (St.aL f (k,t,0)))/\ac W w':=by
     intro W b h h';have:=gZ A8 f.length c8 f (some ⟨b,0,none⟩) 1 1 [(k,t,0)] W rfl rfl (λe=>by have:=hA8 e;omega) (λe=>by cases e) h h' (by omega) (by omega)
     rw[hnl]at this;exact this
    have ee:=aa kQ;have hstep:=St.oU fuel a d f cuts h0 hs gU;have hfull:=St.oS fuel a d f cuts h0 hs gU;rw[jf]at hstep;have QJ:=aa (aW hO8 rfl);generalize hg:St.aL f (k,t,0)=g at kQ hstep hfull C1 Rd JV ee;have HST:=aa hstep;have cy:=aa hfull;have VJ:=aa JV;have Xv:=aa Rd;clear kQ hstep hfull hs h0 jf jN hxl hO8 hO10 JV hnl fe hg Rd;have q0:(k==0)=false:=by rcases hk' with rfl|rfl<;>rfl
    have q2:(k==2)=false:=by rcases hk' with rfl|rfl<;>rfl
    have q3:(k==3)=false:=by rcases hk' with rfl|rfl<;>rfl
    have q4:(k==4)=false:=by rcases hk' with rfl|rfl<;>rfl
    clear hk hk' gU
    by_cases cA:512<g.length
    ·have hd2:=HD.out.trans (cy.out (.inl cA));have dt:=aa hd2;have z5:((512:Int)<(g.length:Int)):=by omega
     clear hd2 HD;go_wp2_with (first|(go_at_call 104;refine(jY.out _).mono ?_;rintro e w2 ⟨rfl,hu2⟩)|(go_at_call 44;refine(ee.out _ _ ?_ ?_).mono ?_))
     ·exact QJ.out.ai (uZ)
     ·exact rU _ _ _ _ _
     rintro e w3 ⟨v3,rfl,cR,hu3⟩;obtain⟨A3,c3,rfl,_,_,_⟩:=aR cR;have bf:ac wr w3:=ac.trans (uZ) hu3;have bg:=HU.out.trans bf;clear cR hu3 hu2 bf;go_wp2;refine bodyPost_ret (v:=Ym #[Yj none 0 0,Yj none 0 0,Yh Yn a,Yh Yn 3]) (by simp[results,Tryz.results63,go_sem]) rfl ?_;unfold fz;rw[dt.out];exact⟨_,_,rfl,World.ownsRow_nil _ _ _ _,World.ownsRow_nil _ _ _ _,uZ⟩
    have z5:¬((512:Int)<(g.length:Int)):=by omega
    by_cases fT:1024<=cuts.length
    ·have hd2:=HD.out.trans (cy.out (.inr fT));have dt:=aa hd2;have z6:((1024:Int)<=(cuts.length:Int)):=by omega
     clear hd2 HD;go_wp2_with (first|(go_at_call 104;refine(jY.out _).mono ?_;rintro e w2 ⟨rfl,hu2⟩)|(go_at_call 44;refine(ee.out _ _ ?_ ?_).mono ?_))
     ·exact QJ.out.ai (uZ)
     ·exact rU _ _ _ _ _
     rintro e w3 ⟨v3,rfl,cR,hu3⟩;obtain⟨A3,c3,rfl,_,_,_⟩:=aR cR;have bf:ac wr w3:=ac.trans (uZ) hu3;have bg:=HU.out.trans bf;clear cR hu3 hu2 bf;go_wp2;refine bodyPost_ret (v:=Ym #[Yj none 0 0,Yj none 0 0,Yh Yn a,Yh Yn 3]) (by simp[results,Tryz.results63,go_sem]) rfl ?_;unfold fz;rw[dt.out];exact⟨_,_,rfl,World.ownsRow_nil _ _ _ _,World.ownsRow_nil _ _ _ _,uZ⟩
    have hd2:=HD.out.trans (HST.out (by omega));have dt:=aa hd2;have z6:¬((1024:Int)<=(cuts.length:Int)):=by omega
    clear hd2 HD;go_wp2_with (first|(go_at_call 104;refine(jY.out _).mono ?_;rintro e w2 ⟨rfl,hu2⟩)|(go_at_call 44;refine(ee.out _ _ ?_ ?_).mono ?_))
    ·exact QJ.out.ai (uZ)
    ·exact rU _ _ _ _ _
    rintro e w3 ⟨v3,rfl,cR,hu3⟩;obtain⟨A3,c3,rfl,_,_,_⟩:=aR cR;have bf:ac wr w3:=ac.trans (uZ) hu3;have hs4:=bf.size;have dh:=aa (HU.out.trans bf);have gB:=aa (aF bf jG.out);have fo:=aa (cH (base':=w.1.size) cR (by have:=hu2.size;simp;omega));have hc:w3.cell? ⟨w2.1.size,0,none⟩=some (.int .i64 k):=(hu3.cell (show w2.1.size<_ by simp;omega)).trans (by simp);haveI:af w2.1.size w3:=af.of (by have:=hu3.size;simp at this;omega);clear cR hu3 hu2;go_wp2_with (at_builtin;refine wpList_append_own _ rfl _ _ 42 rfl w.1.size 3 i0 (.int .i64 0) 1 8 Tryz.underlying42 hi hz0 hz1 hz2 rfl (by decide) (.slice gE cuts.length bH) cuts.length (eY cuts) rfl ?_ _ 1 1 [.int .i64 d] rfl rfl ?_ ?_ (by unfold maxLen;omega) (by omega) ?_ ?_)
    ·exact aF (uZ) gB.out
    ·exact gy _ _ _
    ·intro u hu';simp at hu';subst hu';rfl
    ·have:=dh.out.size;simp;omega
    intro v' w5 dC fc _;rw[<-dB]at dC;have eu:=aa ((dh.out.alloc _).grown fc (λg hg=>aB gB.out g hg));have hA:∀ {W:Ys},ac w3 W->W.grownBy w5 (Yj gE cuts.length bH).ownBlock->w5.ownsRow w.1.size 36 3 (Yj A3 g.length c3) g.length (ak g):=λhW h5=>(aF hW fo.out).kept h5 (da (aF hW fo.out) (aF hW gB.out) (by decide))
    have mQ:=aa (hA (uZ) fc);have eW:=aa dC;clear fc dC hA hc;go_wp2;exact⟨⟨a+n,a+n,g,cuts++[d],fuel,rfl,congrArg (Yh Yn) (by omega),congrArg (Yh Yn) (by omega),rfl,pa,by omega,mQ.out,by simpa using eW.out,VJ.out,by omega,by omega,by simp;omega,dt.out,eu.out⟩,by simp[intOf];omega⟩
  have xo:a=raw.size:=by omega
  subst xo;have hnil:raw.1.1.drop raw.size=[]:=List.drop_of_length_le (by simp);have hd2:=HD.out;rw[hnil,St.qR]at hd2;have dt:=aa hd2;obtain⟨gE,bH,rfl,_,_,hA10⟩:=aR hO10;have kS:=HU.out.size;clear hlt hD HD hu hnil hd2 hO8 hO10;go_wp2_with (at_builtin;refine wpList_append_own _ rfl _ _ 42 rfl w.1.size 3 i0 (.int .i64 0) 1 8 Tryz.underlying42 hi hz0 hz1 hz2 rfl (by decide) (.slice gE cuts.length bH) cuts.length (eY cuts) rfl ?_ _ 1 1 [.int .i64 d] rfl rfl ?_ ?_ (by unfold maxLen;omega) (by omega) ?_ ?_)
  ·exact aF (uZ) jG.out
  ·exact gy _ _ _
  ·intro u hu';simp at hu';subst hu';rfl
  ·simp;omega
  intro v' w5 dC fc _;rw[<-dB]at dC;have eu:=aa ((HU.out.alloc _).grown fc (λg hg=>aB jG.out g hg));have hA:∀ {W:Ys} {v:Value},ac wr W->W.grownBy w5 (Yj gE cuts.length bH).ownBlock->wr.ownsRow w.1.size 36 3 v f.length (ak f)->w5.ownsRow w.1.size 36 3 v f.length (ak f):=λhW h5 hv=>(aF hW hv).kept h5 (da (aF hW hv) (aF hW jG.out) (by decide))
  have mQ:=aa (hA (uZ) fc lT.out);have eW:=aa dC;clear fc dC hA;go_wp2;refine bodyPost_ret (v:=Ym #[_,v',Yh Yn 0,Yh Yn 0]) (by simp[results,Tryz.results63,go_sem];rfl) rfl ?_;unfold fz;rw[dt.out];exact⟨_,_,rfl,mQ.out,by simpa using eW.out,eu.out⟩
end
section
theorem eg(W:Ys)(b:Nat)(k:Int)(t:List UInt8)(i:Int)(hb:b<W.1.size)(h0:W.cell? ⟨b,0,none⟩=some (Yh Yn k))(h1:W.cell? ⟨b,1,none⟩=some (Yi ⟨t.toArray⟩))(h2:W.cell? ⟨b,2,none⟩=some (Yh Yn i)):aH W (some ⟨b,0,none⟩) [(k,t,i)]:=by
 intro _;refine⟨b,0,rfl,hb,λj hj=>?_⟩;obtain rfl:j=0:=by simpa using hj
 exact⟨h0,h1,h2⟩
end
section
@[go_sem] theorem conv_one (W:Ys) (c:Int):(convert 22 9 (Yj (some ⟨W.1.size,0,none⟩) 1 1)).run Tryz.prog (W.alloc (.cells #[Yh .u8 c] 5))=.ok (Yi ⟨#[UInt8.ofNat c.toNat]⟩) (W.alloc (.cells #[Yh .u8 c] 5)):=by
 rw[run_convert_bytes_arg _ 22 5 Tryz.underlying22 Tryz.underlying5 W.1.size 0 1 1 [c] rfl (λi hi=>by
  obtain rfl:i=0:=by omega
  rw[World.cell?_alloc_at _ _ _ _ rfl];simp) _ Tryz.underlying9]
 rfl
def PE(n:Nat)(w:Ys)(a s:Value)(wr:Ys):Prop:=
 ∃(m:Nat) (l:List UInt8),m<=n/\l.length<=n-m/\a=Yh Yn m/\s=Yi ⟨l.toArray⟩/\Hid (Lib.decDigits n=Lib.decDigits m++l)/\ac w wr
theorem Cu(k:Nat):UInt8.ofNat (48+k)=48+UInt8.ofNat k:=by
 apply UInt8.toNat.inj;simp[UInt8.toNat_add]
theorem dec_lt{m:Nat}(h:m<10):Lib.decDigits m=[48+UInt8.ofNat (m % 10)]:=by
 rw[Lib.decDigits_one h,Cu,Nat.mod_eq_of_lt h]
theorem Qu{m:Nat}(h:¬m<10):Lib.decDigits m=Lib.decDigits (m / 10)++[48+UInt8.ofNat (m % 10)]:=by
 rw[Lib.decDigits,dif_neg h,Cu]
theorem zG(a b:Array UInt8):(⟨a⟩:ByteArray)++(⟨b⟩:ByteArray)=⟨a++b⟩:=by
 apply ByteArray.ext;simp[ByteArray.data_append]
theorem Pk{a b:ByteArray}(h:a=b):Ending.returned (Yi a)=Yp (Yi b):=by rw[h]
theorem qw(n:Nat)(w:Ys)(hn:n<=4611686018427387904) :
  Calls Tryz.prog 176 #[Yh Yn n] w λe w'=>e=Yp (Yi ⟨(Lib.decDigits n).toArray⟩)/\ac w w':=by
 go_enter Tryz.func176,Tryz.ntmps176;go_wp2;go_loopw [0,3] (λa s wr=>PE n w a s wr) (λa _ _=>(intOf a).toNat)
 case atStart=>exact⟨n,[],by omega,by simp,rfl,rfl,aa (by simp),ac.refl _⟩
 case round=>
  obtain⟨m,l,hm,hl,rfl,rfl,H,X,rfl⟩:=hrel
  by_cases h10:m<10
  ·have e1:((m:Int) / 10==0)=true:=by simp;omega
   go_wp2;go_ret;refine⟨Pk ?_,uZ⟩;rw[H.out,dec_lt h10,zG];simp
  have e1:((m:Int) / 10==0)=false:=by simp;omega
  go_wp2;rw[zG];refine⟨⟨m / 10,(48+UInt8.ofNat (m % 10)) :: l,by omega,by simp;omega,by simp,by simp,aa ?_,uZ⟩,?_⟩
  ·rw[H.out,Qu h10];simp
  simp[intOf];omega
end
section
theorem KM{l:List UInt8}{t:List UInt8}{n:Nat}(h:St.cM l=some (t,n)):t.length<=n:=by
 unfold St.cM at h;simp only[]at h
 split at h
 ·simp only[Option.some.injEq,Prod.mk.injEq]at h;obtain⟨rfl,rfl⟩:=h;omega
 cases h
theorem DZ:qm St.cm:=by
 intro l k t n h;obtain⟨hk,h1,h2⟩:=St.ud h;refine⟨by omega,h1,h2,?_⟩
 match l,h with
 | c :: r,h=>
  by_cases gS:c.toNat=34
  ·rw[St.sr gS]at h
   split at h
   ·simp only[Option.some.injEq,Prod.mk.injEq]at h;obtain⟨_,rfl,rfl⟩:=h;simp
   cases h
  by_cases dj:c.toNat=123
  ·rw[St.qh dj]at h
   split at h
   ·simp only[Option.some.injEq,Prod.mk.injEq]at h;obtain⟨_,rfl,rfl⟩:=h;simp
   cases hs:St.cM (c :: r)with
   | none=>rw[hs]at h;cases h
   | some x=>
    rw[hs]at h;obtain⟨x1,x2⟩:=x;simp only[Option.map_some,Option.some.injEq,Prod.mk.injEq]at h;obtain⟨_,rfl,rfl⟩:=h;exact KM hs
  rw[St.oj gS dj]at h;simp only[Option.some.injEq,Prod.mk.injEq]at h;obtain⟨_,rfl,rfl⟩:=h;simp
theorem DY:BM 3 St.cm:=by
 intro s w hs h0;obtain⟨k,x,m,hv⟩:=mT (St.cm s.1.1);have hsh:=λW=>Ij s W hs h0
 rw[hv]at hsh;have HS:=aa hsh;have HV:=aa hv;clear hsh hv;go_enter Tryz.func104,Tryz.ntmps104;go_wp2_with (go_at_call 146;refine(HS.out _).mono ?_;rintro e w' ⟨rfl,X,rfl⟩);refine bodyPost_ret (v:=Ym #[.agg #[Yh Yn k,Yi x,Yh Yn 0],Yh Yn m]) (by simp[results,Tryz.results104,go_sem]) rfl ⟨?_,uZ⟩;rw[HV.out]
end
