/- The contracts of the reference's begins, text, slot and sheet element: what they give is. -/
import Derived.Laws.BytesArg
import Derived.WalkSpells
import Derived.Lib.Strings
import Derived.Lib.IndexBytes
import Derived.Outline
import Derived.IntWalk
import Derived.Test.YthoemdibbldndaaGreatDoorGB
import Derived.Lib.ItoaNum
set_option linter.all false
set_option maxHeartbeats 0
set_option maxRecDepth 20000
open Go.Value renaming int->UM,string->UN,slice->UO,tuple->UR
open Go.IntKind renaming i64->US
open Go.Ending renaming returned->UU
open Go renaming World->UY
namespace Go.Proofs.YthoemdibbldndaaGreatDoor
open Go.RowKit
section
def iE(k:Int)(t:List UInt8):Value:=.agg #[UM US k,UN ⟨t.toArray⟩,UM US 0]
def cd:St.El->Value
 | none=>UR #[.agg #[UM US 0,UN ⟨#[]⟩,UM US 0],UM US 0]
 | some (k,t,n)=>UR #[iE k t,UM US n]
theorem mc(E:St.El):∃(k:Int) (x:ByteArray) (m:Int),cd E=UR #[.agg #[UM US k,UN x,UM US 0],UM US m]:=by
 rcases E with _|⟨k,t,n⟩
 ·exact⟨_,_,_,rfl⟩
 exact⟨_,_,_,rfl⟩
theorem KQ(c:UInt8)(w:UY):Calls Tryz.prog 179 #[UM .u8 (c.toNat:Int)] w λe w'=>e=UU (iE 1 [c])/\ac w w':=by
 go_enter Tryz.func179,Tryz.ntmps179;go_wp2;exact bodyPost_ret (v:=iE 1 [c]) (by simp[results,Tryz.results179,go_sem,iE]) rfl ⟨rfl,uZ⟩
theorem gk(s t:ByteArray)(w:UY)(hs:s.size<=9223372036854775807)(ht:t.size<=9223372036854775807):Calls Tryz.prog 135 #[UN s,UN t] w λe w'=>e=UU (.bool (preB t s))/\w=w':=by
 by_cases h:t.size<=s.size
 ·have z:(t.size:Int)<=(s.size:Int):=by omega
  go_enter Tryz.func135,Tryz.ntmps135;go_wp2;go_ret;refine⟨aD ?_,rfl⟩;unfold preB;rw[Lib.toList_data,Lib.toList_data,Lib.extract_data,<-St.ms];simp
 have z:¬(t.size:Int)<=(s.size:Int):=by omega
 have H:=aa h;clear h;have hz:preB t s=false:=St.uI _ _ (by have:=H.out;simp;omega);go_enter Tryz.func135,Tryz.ntmps135;go_wp2;go_ret;exact⟨aD (by first|rfl|exact hz.symm),rfl⟩
def iL(l:List UInt8):List UInt8:=l.takeWhile (λc=>decide (c.toNat≠125))
def PN(s:ByteArray)(w:UY)(i:Value)(wr:UY):Prop:=
 ∃k:Nat,i=UM US k/\1<=k/\k<=26/\(iL (s.1.1.drop 1)).length=(k-1)+(iL (s.1.1.drop k)).length/\(w.alloc (.cells #[UM US 0,UN ⟨#[]⟩,UM US 0] 36))=wr
theorem FT{l:List UInt8}(h:¬(iL (l.drop 1)).length+1<l.length):St.cJ l=none:=by
 unfold St.cJ;simp only[];have e:decide ((iL (l.drop 1)).length+1<l.length)=false:=decide_eq_false h;unfold iL at e;rw[e];rfl
theorem wl{l:List UInt8}(h:St.aB (iL (l.drop 1))=false):St.cJ l=none:=by
 unfold St.cJ;simp only[];unfold iL at h;rw[h];simp
theorem IM{l:List UInt8}(h1:(iL (l.drop 1)).length+1<l.length)(h:St.aB (iL (l.drop 1))=true):St.cJ l=some (iL (l.drop 1),(iL (l.drop 1)).length+2):=by
 unfold St.cJ;simp only[];have e:decide ((iL (l.drop 1)).length+1<l.length)=true:=decide_eq_true h1;unfold iL at e h |-;rw[e,h];rfl
theorem Km{l:List UInt8}(h:24<l.length):St.aB l=false:=by
 cases l with
 | nil=>rfl
 | cons c r=>
  rw[St.aB];have:¬r.length<=23:=by simp at h;omega
  rw[decide_eq_false this];rfl
theorem uP(s:ByteArray)(w:UY)(hs:s.size<=4611686018427387904)(h0:1<=s.size) :
  Calls Tryz.prog 180 #[UN s] w λe w'=>e=UU (cd ((St.cJ s.1.1).map λx=>(5,x.1,x.2)))/\ac w w':=by
 have hlen:=St.aC s;go_enter Tryz.func180,Tryz.ntmps180;go_wp2;go_loopw [4] (λi wr=>PN s w i wr) (λi _=>27-(intOf i).toNat)
 case atStart=>exact⟨1,rfl,by omega,by omega,by simp,rfl⟩
 case round=>
  obtain⟨k,rfl,hk1,hk2,hk3,rfl⟩:=hrel;have HK:=aa hk3;have HL:=aa hlen;clear hk3 hlen
  by_cases hlt:k<s.size
  ·have ax:=St.drop_at s k hlt;have z1:(k:Int)<s.size:=by omega
   by_cases Uf:k<=25
   ·have z2:(k:Int)<=25:=by omega
    by_cases hc:s[k].toNat=125
    ·have z3:((s[k].toNat:Int)==125)=true:=by simp;omega
     have eR:iL (s.1.1.drop k)=[]:=by rw[ax];unfold iL;rw[List.takeWhile_cons_of_neg (by simp[hc])]
     have hn:(iL (s.1.1.drop 1)).length=k-1:=by rw[HK.out,eR];simp
     obtain⟨x,hX⟩:∃x,s.extract 1 k=x:=⟨_,rfl⟩
     have hxl:x.1.1=iL (s.1.1.drop 1):=by
      have h1:iL (s.1.1.drop 1)=(s.1.1.drop 1).take (iL (s.1.1.drop 1)).length:=List.prefix_iff_eq_take.1 (List.takeWhile_prefix _);rw[h1,hn,<-hX,Lib.extract_data]
     have hxs:x.size<=s.size:=by rw[<-hX];simp;omega
     have a8:=λW=>mF x W (by omega)
     have y1:(1:Int)<=(k:Int):=by omega
     have y2:(k:Int)<=s.size:=by omega
     rw[hxl]at a8;cases hb:St.aB (iL (s.1.1.drop 1))
     ·have hR:=aa (wl hb);rw[hb]at a8;have bl:=aa a8;clear hb a8 hxl hn eR ax;go_wp2_with (go_at_call 177;refine(bl.out _).mono ?_;rintro e w' ⟨rfl,rfl⟩);refine bodyPost_ret (v:=cd none) (by simp[results,Tryz.results180,go_sem,cd]) rfl ⟨?_,uZ⟩;rw[hR.out];try rfl
     have hR:=aa (IM (by rw[hn,HL.out];omega) hb);rw[hb]at a8;have bl:=aa a8;have QY:x=⟨(iL (s.1.1.drop 1)).toArray⟩:=by rw[<-hxl];try (cases x;simp)
     have HN:=aa hn;have SP:=aa QY;clear hb a8 hxl hn eR ax QY;go_wp2_with (go_at_call 177;refine(bl.out _).mono ?_;rintro e w' ⟨rfl,rfl⟩);refine bodyPost_ret (v:=UR #[.agg #[UM US 5,UN x,UM US 0],UM US ((k:Int)+1)]) (by simp[results,Tryz.results180,go_sem]) rfl ⟨?_,uZ⟩;rw[hR.out,SP.out];have e:((k-1+2:Nat):Int)=(k:Int)+1:=by omega
     show _=Ending.returned (UR #[iE 5 (iL (s.1.1.drop 1)),UM US (((iL (s.1.1.drop 1)).length+2:Nat):Int)])
     rw[HN.out,e];rfl
    have z3:((s[k].toNat:Int)==125)=false:=by simp;omega
    have eR:(iL (s.1.1.drop k)).length=1+(iL (s.1.1.drop (k+1))).length:=by
     rw[ax];unfold iL;rw[List.takeWhile_cons_of_pos (by simpa using hc)];simp;omega
    have Gn:=aa eR;clear eR ax;go_wp2;exact⟨⟨k+1,congrArg (UM US) (by omega),by omega,by omega,by rw[HK.out,Gn.out];omega,rfl⟩,by simp[intOf];omega⟩
   have z2:¬(k:Int)<=25:=by omega
   have hR:=aa (wl (Km (l:=iL (s.1.1.drop 1)) (by rw[HK.out];omega)));clear ax;go_wp2;refine bodyPost_ret (v:=cd none) (by simp[results,Tryz.results180,go_sem,cd]) rfl ⟨?_,uZ⟩;rw[hR.out];try rfl
  have z1:¬(k:Int)<s.size:=by omega
  have hR:=aa (FT (l:=s.1.1) (by rw[HK.out,HL.out];omega));go_wp2;refine bodyPost_ret (v:=cd none) (by simp[results,Tryz.results180,go_sem,cd]) rfl ⟨?_,uZ⟩;rw[hR.out];try rfl
theorem iK(c:UInt8)(m:Int)(hm:m=(c.toNat:Int))(w:UY):Calls Tryz.prog 179 #[UM .u8 m] w λe w'=>e=UU (.agg #[UM US 1,UN ⟨#[c]⟩,UM US 0])/\ac w w':=by
 subst hm;exact KQ c w
theorem FK(s:ByteArray)(w:UY)(hs:s.size<=4611686018427387904)(h0:1<=s.size) :
  Calls Tryz.prog 146 #[UN s] w λe w'=>e=UU (cd (St.ci s.1.1))/\ac w w':=by
 have hcr:s.1.1=s[0] :: s.1.1.drop 1:=St.fo s (by omega);have hp1:=λW=>gk s ⟨#[34,34]⟩ W (by omega) (by show 2<=_;omega)
 have hp2:=λW=>gk s ⟨#[123,123]⟩ W (by omega) (by show 2<=_;omega)
 have e1:preB ⟨#[34,34]⟩ s=([34,34]:List UInt8).isPrefixOf (s[0] :: s.1.1.drop 1):=by unfold preB;rw[<-hcr]
 have e2:preB ⟨#[123,123]⟩ s=([123,123]:List UInt8).isPrefixOf (s[0] :: s.1.1.drop 1):=by unfold preB;rw[<-hcr]
 have z0:0<s.size:=by omega
 by_cases gB:s[0].toNat=34
 ·have hsl:=St.ry (r:=s.1.1.drop 1) gB;rw[<-e1,<-hcr]at hsl;have htx:=aa (λW=>iK s[0] 34 (by omega) W);cases hq1:preB ⟨#[34,34]⟩ s
  ·rw[hq1]at hsl hp1;have bA:=aa hsl;have nY:=aa hp1;clear hsl hp1 hp2 e1 e2 hq1 hcr;go_enter Tryz.func146,Tryz.ntmps146;go_wp2_with (go_at_call 135;refine(nY.out _).mono ?_;rintro e w' ⟨rfl,rfl⟩);refine bodyPost_ret (v:=cd none) (by simp[results,Tryz.results146,go_sem,cd]) rfl ⟨?_,uZ⟩;rw[bA.out];try rfl
  rw[hq1]at hsl hp1;have bA:=aa hsl;have nY:=aa hp1;clear hsl hp1 hp2 e1 e2 hq1 hcr;go_enter Tryz.func146,Tryz.ntmps146;go_wp2_with (first|(go_at_call 135;refine(nY.out _).mono ?_;rintro e w' ⟨rfl,rfl⟩)|(go_at_call 179;refine(htx.out _).mono ?_;rintro e w' ⟨rfl,X,rfl⟩));refine bodyPost_ret (v:=cd (some (1,[s[0]],2))) (by simp[results,Tryz.results146,go_sem,cd,iE]) rfl ⟨?_,uZ⟩;rw[bA.out];try rfl
 by_cases db:s[0].toNat=123
 ·have hsl:=St.pv (r:=s.1.1.drop 1) db;rw[<-e2,<-hcr]at hsl;have htx:=aa (λW=>iK s[0] 123 (by omega) W);cases hq2:preB ⟨#[123,123]⟩ s
  ·rw[hq2]at hsl hp2;simp only[Bool.false_eq_true,if_false]at hsl;have bA:=aa hsl;have gz:=aa hp2;have lP:=λW=>uP s W hs h0
   obtain⟨k,x,m,hv⟩:=mc ((St.cJ s.1.1).map λx=>((5:Int),x.1,x.2));have HV:=aa hv;rw[hv]at lP;have HS:=aa lP;clear hsl hp1 hp2 e1 e2 hq2 hcr lP hv;go_enter Tryz.func146,Tryz.ntmps146;go_wp2_with (first|(go_at_call 135;refine(gz.out _).mono ?_;rintro e w' ⟨rfl,rfl⟩)|(go_at_call 180;refine(HS.out _).mono ?_;rintro e w' ⟨rfl,X,rfl⟩));refine bodyPost_ret (v:=UR #[.agg #[UM US k,UN x,UM US 0],UM US m]) (by simp[results,Tryz.results146,go_sem]) rfl ⟨?_,uZ⟩;rw[bA.out,HV.out]
  rw[hq2]at hsl hp2;have bA:=aa hsl;have gz:=aa hp2;clear hsl hp1 hp2 e1 e2 hq2 hcr;go_enter Tryz.func146,Tryz.ntmps146;go_wp2_with (first|(go_at_call 135;refine(gz.out _).mono ?_;rintro e w' ⟨rfl,rfl⟩)|(go_at_call 179;refine(htx.out _).mono ?_;rintro e w' ⟨rfl,X,rfl⟩));refine bodyPost_ret (v:=cd (some (1,[s[0]],2))) (by simp[results,Tryz.results146,go_sem,cd,iE]) rfl ⟨?_,uZ⟩;rw[bA.out];try rfl
 have hsl:=St.nM (r:=s.1.1.drop 1) gB db;rw[<-hcr]at hsl;have htx:=aa (λW=>iK s[0] (s[0].toNat:Int) rfl W);have d34:((s[0].toNat:Int)==34)=false:=by simp;omega
 have d123:((s[0].toNat:Int)==123)=false:=by simp;omega
 have bA:=aa hsl;clear hsl hp1 hp2 e1 e2 hcr gB db;go_enter Tryz.func146,Tryz.ntmps146;go_wp2_with (go_at_call 179;refine(htx.out _).mono ?_;rintro e w' ⟨rfl,X,rfl⟩);refine bodyPost_ret (v:=cd (some (1,[s[0]],1))) (by simp[results,Tryz.results146,go_sem,cd,iE]) rfl ⟨?_,uZ⟩;rw[bA.out];try rfl
end
section
def pB(E:List UInt8->St.El):Prop:=∀l k t n,E l=some (k,t,n)->(k=0\/k=1\/k=5)/\1<=n/\n<=l.length/\t.length<=n
def zO(fmt:Int)(E:List UInt8->St.El):Prop:=
 ∀(s:ByteArray) (w:UY),s.size<=4611686018427387904->1<=s.size->Calls Tryz.prog 104 #[UM US fmt,UN s] w λe w'=>e=UU (cd (E s.1.1))/\ac w w'
def dx(R:List St.It × List Nat × Nat × Int)(w:UY)(e:Ending)(w':UY):Prop:=
 ∃v1 v2,e=UU (UR #[v1,v2,UM US (R.2.2.1:Int),UM US R.2.2.2])/\w'.ownsRow w.1.size 36 3 v1 R.1.length (av R.1)/\w'.ownsRow w.1.size 3 1 v2 R.2.1.length (ew R.2.1)/\ac w w'
def Ph(w:UY)(E:List UInt8->St.El)(raw:ByteArray)(s8 s9 dZ gi s12 qu:Value)(wr:UY):Prop:=
 ∃(a d:Nat) (f:List St.It) (cuts:List Nat) (fuel:Nat),s9=UO none 0 0/\gi=UM US a/\s12=UM US d/\qu=UM US 0/\a<=raw.size/\raw.size-a<=fuel /\
  wr.ownsRow w.1.size 36 3 s8 f.length (av f)/\wr.ownsRow w.1.size 3 1 dZ cuts.length (ew cuts)/\St.Nm f/\bc f<=a/\f.length<=512/\cuts.length<=1024 /\
  St.dec E raw.size raw.1.1 0 0 [] []=St.dec E fuel (raw.1.1.drop a) a d f cuts/\ac w wr
theorem Df{raw:ByteArray}{a:Nat}(h:a<raw.size):raw.1.1.drop a≠[]:=by
 intro e;have:=congrArg List.length e
 simp at this;omega
theorem kz(fmt:Int)(E:List UInt8->St.El)(hE:zO fmt E)(hok:pB E)(raw:ByteArray)(w:UY)(hr:raw.size<=4611686018427387904) :
  Calls Tryz.prog 63 #[UM US fmt,UN raw] w (dx (St.dec E raw.size raw.1.1 0 0 [] []) w):=by
 obtain⟨i0,hi,hz0,hz1,hz2⟩:=info_parts gv;go_enter Tryz.func63,Tryz.ntmps63;go_wp2;go_loopw [8,9,10,11,12,13] (λs8 s9 dZ gi s12 qu wr=>Ph w E raw s8 s9 dZ gi s12 qu wr) (λ_ _ _ gi _ _ _=>raw.size+1-(intOf gi).toNat)
 case atStart=>exact⟨0,0,[],[],raw.size,rfl,rfl,rfl,rfl,by omega,by omega,World.ownsRow_nil _ _ _ _,World.ownsRow_nil _ _ _ _,St.oE,by simp[bc],by simp,by simp,by simp,ac.refl _⟩
 case round=>
  obtain⟨a,d,f,cuts,fuel,rfl,rfl,rfl,rfl,ha,hfu,hO8,hO10,hN,ht,h1,h2,hD,hu⟩:=hrel;have HD:=aa hD;have HU:=aa hu;have jC:=aa hO8;have iU:=aa hO10;have hsz:=hu.size;have HN:=aa hN;clear hN
  by_cases hlt:a<raw.size
  ·have h0:=Df hlt;obtain⟨fuel,rfl⟩:∃m,fuel=m+1:=⟨fuel-1,by omega⟩;obtain⟨x,hx⟩:∃x,raw.extract a raw.size=x:=⟨_,rfl⟩;have hxl:x.1.1=raw.1.1.drop a:=by rw[<-hx,Lib.extract_data,List.take_of_length_le (by simp)]
   have hxs:x.size=raw.size-a:=by rw[<-hx];simp
   have hel:=λW=>hE x W (by omega) (by omega)
   rw[hxl]at hel;have jv:=aa hel;have y1:(a:Int)<=(raw.size:Int):=by omega
   have y2:(a:Int)<(raw.size:Int):=by omega
   clear hel hD hu hE;cases hs:E (raw.1.1.drop a)with
   | none=>
    have hd2:=aa (HD.out.trans (St.ob fuel a d _ cuts h0 hs));have fq:Hid (∀W,Calls Tryz.prog 104 #[UM US fmt,UN x] W λe w'=>e=UU (UR #[.agg #[UM US 0,UN ⟨#[]⟩,UM US 0],UM US 0])/\ac W w'):=aa (by have:=jv.out;rw[hs]at this;exact this);clear hs h0 HD jv hxl hO8 hO10;go_wp2_with (go_at_call 104;refine(fq.out _).mono ?_;rintro e w2 ⟨rfl,hu2⟩);have hu3:=HU.out.trans hu2;refine bodyPost_ret (v:=UR #[UO none 0 0,UO none 0 0,UM US a,UM US 2]) (by simp[results,Tryz.results63,go_sem]) rfl ?_;unfold dx;rw[hd2.out];exact⟨_,_,rfl,World.ownsRow_nil _ _ _ _,World.ownsRow_nil _ _ _ _,uZ⟩
   | some q=>
    obtain⟨k,t,n⟩:=q;obtain⟨hk,iS,fk,htn⟩:=hok _ _ _ _ hs;have nw:a+n<=raw.size:=by simp at fk;omega
    have d0:((n:Int)==0)=false:=by simp;omega
    have iR:(raw.1.1.drop a).drop n=raw.1.1.drop (a+n):=by rw[List.drop_drop]
    have fq:Hid (∀W,Calls Tryz.prog 104 #[UM US fmt,UN x] W λe w'=>e=UU (UR #[.agg #[UM US k,UN ⟨t.toArray⟩,UM US 0],UM US n])/\ac W w'):=aa (by have:=jv.out;rw[hs]at this;exact this)
    by_cases gL:k=0
    ·subst gL;have hd2:=HD.out.trans (St.uh fuel a d _ cuts h0 hs);rw[iR]at hd2;have cC:=aa hd2;clear hs h0 HD jv hxl hO8 hO10 hd2 iR fk;go_wp2_with (go_at_call 104;refine(fq.out _).mono ?_;rintro e w2 ⟨rfl,hu2⟩);have hu3:=HU.out.trans hu2;exact⟨⟨a+n,d,f,cuts,fuel,rfl,congrArg (UM US) (by omega),rfl,rfl,nw,by omega,aE (uZ) jC.out,aE (uZ) iU.out,HN.out,by omega,h1,h2,cC.out,uZ⟩,by simp[intOf];omega⟩
    have hk':k=1\/k=5:=by omega
    have hnl:St.bH (f++[(k,t,0)])=St.aP f (k,t,0):=by rw[St.eE,HN.out]
    have htx:bc (f++[(k,t,0)])<=a+n:=by rw[cR];simp only;omega
    have Be:=mA f (k,t,0);have Oj:=(St.l8 f (k,t,0)).1;have Hs:St.Nm (St.aP f (k,t,0)):=St.fy HN.out _;obtain⟨A8,c8,rfl,_,_,hA8⟩:=aT hO8;obtain⟨fT,bB,rfl,_,_,hA10⟩:=aT hO10
    have mg:∀(W:UY) (b:Nat),aO W A8 f->aO W (some ⟨b,0,none⟩) [(k,t,0)]->Calls Tryz.prog 44 #[UO A8 f.length c8,UO (some ⟨b,0,none⟩) 1 1] W λe w'=>∃v,e=UU v/\w'.ownsRow W.1.size 36 3 v (St.aP f (k,t,0)).length (av (St.aP f (k,t,0)))/\ac W w':=by
     intro W b h h';have:=nH A8 f.length c8 f (some ⟨b,0,none⟩) 1 1 [(k,t,0)] W rfl rfl (λe=>by have:=hA8 e;omega) (λe=>by cases e) h h' (by omega) (by omega)
     rw[hnl]at this;exact this
    have dq:=aa mg;have hstep:=St.oc fuel a d f cuts h0 hs gL;have hfull:=St.oa fuel a d f cuts h0 hs gL;rw[iR]at hstep;have NW:=aa (aX hO8 rfl);generalize hg:St.aP f (k,t,0)=g at mg hstep hfull Be Oj Hs dq;have HST:=aa hstep;have ck:=aa hfull;have Sv:=aa Hs;have Ua:=aa Oj;clear mg hstep hfull hs h0 iR jv hxl hO8 hO10 Hs hnl fk hg Oj;have q0:(k==0)=false:=by rcases hk' with rfl|rfl<;>rfl
    have q2:(k==2)=false:=by rcases hk' with rfl|rfl<;>rfl
    have q3:(k==3)=false:=by rcases hk' with rfl|rfl<;>rfl
    have q4:(k==4)=false:=by rcases hk' with rfl|rfl<;>rfl
    clear hk hk' gL
    by_cases bV:512<g.length
    ·have hd2:=HD.out.trans (ck.out (.inl bV));have cC:=aa hd2;have z5:((512:Int)<(g.length:Int)):=by omega
     clear hd2 HD;go_wp2_with (first|(go_at_call 104;refine(fq.out _).mono ?_;rintro e w2 ⟨rfl,hu2⟩)|(go_at_call 44;refine(dq.out _ _ ?_ ?_).mono ?_))
     ·exact NW.out.ai (uZ)
     ·exact qU _ _ _ _ _
     rintro e w3 ⟨v3,rfl,bN,hu3⟩;obtain⟨A3,c3,rfl,_,_,_⟩:=aT bN;have a6:ac wr w3:=ac.trans (uZ) hu3;have bo:=HU.out.trans a6;clear bN hu3 hu2 a6;go_wp2;refine bodyPost_ret (v:=UR #[UO none 0 0,UO none 0 0,UM US a,UM US 3]) (by simp[results,Tryz.results63,go_sem]) rfl ?_;unfold dx;rw[cC.out];exact⟨_,_,rfl,World.ownsRow_nil _ _ _ _,World.ownsRow_nil _ _ _ _,uZ⟩
    have z5:¬((512:Int)<(g.length:Int)):=by omega
    by_cases eh:1024<=cuts.length
    ·have hd2:=HD.out.trans (ck.out (.inr eh));have cC:=aa hd2;have z6:((1024:Int)<=(cuts.length:Int)):=by omega
     clear hd2 HD;go_wp2_with (first|(go_at_call 104;refine(fq.out _).mono ?_;rintro e w2 ⟨rfl,hu2⟩)|(go_at_call 44;refine(dq.out _ _ ?_ ?_).mono ?_))
     ·exact NW.out.ai (uZ)
     ·exact qU _ _ _ _ _
     rintro e w3 ⟨v3,rfl,bN,hu3⟩;obtain⟨A3,c3,rfl,_,_,_⟩:=aT bN;have a6:ac wr w3:=ac.trans (uZ) hu3;have bo:=HU.out.trans a6;clear bN hu3 hu2 a6;go_wp2;refine bodyPost_ret (v:=UR #[UO none 0 0,UO none 0 0,UM US a,UM US 3]) (by simp[results,Tryz.results63,go_sem]) rfl ?_;unfold dx;rw[cC.out];exact⟨_,_,rfl,World.ownsRow_nil _ _ _ _,World.ownsRow_nil _ _ _ _,uZ⟩
    have hd2:=HD.out.trans (HST.out (by omega));have cC:=aa hd2;have z6:¬((1024:Int)<=(cuts.length:Int)):=by omega
    clear hd2 HD;go_wp2_with (first|(go_at_call 104;refine(fq.out _).mono ?_;rintro e w2 ⟨rfl,hu2⟩)|(go_at_call 44;refine(dq.out _ _ ?_ ?_).mono ?_))
    ·exact NW.out.ai (uZ)
    ·exact qU _ _ _ _ _
    rintro e w3 ⟨v3,rfl,bN,hu3⟩;obtain⟨A3,c3,rfl,_,_,_⟩:=aT bN;have a6:ac wr w3:=ac.trans (uZ) hu3;have hs4:=a6.size;have cL:=aa (HU.out.trans a6);have fa:=aa (aE a6 iU.out);have fi:=aa (dy (base':=w.1.size) bN (by have:=hu2.size;simp;omega));have hc:w3.cell? ⟨w2.1.size,0,none⟩=some (.int .i64 k):=(hu3.cell (show w2.1.size<_ by simp;omega)).trans (by simp);haveI:af w2.1.size w3:=af.of (by have:=hu3.size;simp at this;omega);clear bN hu3 hu2;go_wp2_with (at_builtin;refine wpList_append_own _ rfl _ _ 42 rfl w.1.size 3 i0 (.int .i64 0) 1 8 Tryz.underlying42 hi hz0 hz1 hz2 rfl (by decide) (.slice fT cuts.length bB) cuts.length (ew cuts) rfl ?_ _ 1 1 [.int .i64 d] rfl rfl ?_ ?_ (by unfold maxLen;omega) (by omega) ?_ ?_)
    ·exact aE (uZ) fa.out
    ·exact gT _ _ _
    ·intro u hu';simp at hu';subst hu';rfl
    ·have:=cL.out.size;simp;omega
    intro v' w5 eY eX _;rw[<-dj]at eY;have eg:=aa ((cL.out.alloc _).grown eX (λg hg=>aG fa.out g hg));have hA:∀ {W:UY},ac w3 W->W.grownBy w5 (UO fT cuts.length bB).ownBlock->w5.ownsRow w.1.size 36 3 (UO A3 g.length c3) g.length (av g):=λhW h5=>(aE hW fi.out).kept h5 (cX (aE hW fi.out) (aE hW fa.out) (by decide))
    have kI:=aa (hA (uZ) eX);have eW:=aa eY;clear eX eY hA hc;go_wp2;exact⟨⟨a+n,a+n,g,cuts++[d],fuel,rfl,congrArg (UM US) (by omega),congrArg (UM US) (by omega),rfl,nw,by omega,kI.out,by simpa using eW.out,Sv.out,by omega,by omega,by simp;omega,cC.out,eg.out⟩,by simp[intOf];omega⟩
  have vy:a=raw.size:=by omega
  subst vy;have hnil:raw.1.1.drop raw.size=[]:=List.drop_of_length_le (by simp);have hd2:=HD.out;rw[hnil,St.qc]at hd2;have cC:=aa hd2;obtain⟨fT,bB,rfl,_,_,hA10⟩:=aT hO10;have kr:=HU.out.size;clear hlt hD HD hu hnil hd2 hO8 hO10;go_wp2_with (at_builtin;refine wpList_append_own _ rfl _ _ 42 rfl w.1.size 3 i0 (.int .i64 0) 1 8 Tryz.underlying42 hi hz0 hz1 hz2 rfl (by decide) (.slice fT cuts.length bB) cuts.length (ew cuts) rfl ?_ _ 1 1 [.int .i64 d] rfl rfl ?_ ?_ (by unfold maxLen;omega) (by omega) ?_ ?_)
  ·exact aE (uZ) iU.out
  ·exact gT _ _ _
  ·intro u hu';simp at hu';subst hu';rfl
  ·simp;omega
  intro v' w5 eY eX _;rw[<-dj]at eY;have eg:=aa ((HU.out.alloc _).grown eX (λg hg=>aG iU.out g hg));have hA:∀ {W:UY} {v:Value},ac wr W->W.grownBy w5 (UO fT cuts.length bB).ownBlock->wr.ownsRow w.1.size 36 3 v f.length (av f)->w5.ownsRow w.1.size 36 3 v f.length (av f):=λhW h5 hv=>(aE hW hv).kept h5 (cX (aE hW hv) (aE hW iU.out) (by decide))
  have kI:=aa (hA (uZ) eX jC.out);have eW:=aa eY;clear eX eY hA;go_wp2;refine bodyPost_ret (v:=UR #[_,v',UM US 0,UM US 0]) (by simp[results,Tryz.results63,go_sem];rfl) rfl ?_;unfold dx;rw[cC.out];exact⟨_,_,rfl,kI.out,by simpa using eW.out,eg.out⟩
end
section
theorem cF(W:UY)(b:Nat)(k:Int)(t:List UInt8)(i:Int)(hb:b<W.1.size)(h0:W.cell? ⟨b,0,none⟩=some (UM US k))(h1:W.cell? ⟨b,1,none⟩=some (UN ⟨t.toArray⟩))(h2:W.cell? ⟨b,2,none⟩=some (UM US i)):aO W (some ⟨b,0,none⟩) [(k,t,i)]:=by
 intro _;refine⟨b,0,rfl,hb,λj hj=>?_⟩;obtain rfl:j=0:=by simpa using hj
 exact⟨h0,h1,h2⟩
end
section
@[go_sem] theorem conv_one (W:UY) (c:Int):(convert 22 9 (UO (some ⟨W.1.size,0,none⟩) 1 1)).run Tryz.prog (W.alloc (.cells #[UM .u8 c] 5))=.ok (UN ⟨#[UInt8.ofNat c.toNat]⟩) (W.alloc (.cells #[UM .u8 c] 5)):=by
 rw[run_convert_bytes_arg _ 22 5 Tryz.underlying22 Tryz.underlying5 W.1.size 0 1 1 [c] rfl (λi hi=>by
  obtain rfl:i=0:=by omega
  rw[World.cell?_alloc_at _ _ _ _ rfl];simp) _ Tryz.underlying9]
 rfl
def Nf(n:Nat)(w:UY)(a s:Value)(wr:UY):Prop:=
 ∃(m:Nat) (l:List UInt8),m<=n/\l.length<=n-m/\a=UM US m/\s=UN ⟨l.toArray⟩/\Hid (Lib.decDigits n=Lib.decDigits m++l)/\ac w wr
theorem Az(k:Nat):UInt8.ofNat (48+k)=48+UInt8.ofNat k:=by
 apply UInt8.toNat.inj;simp[UInt8.toNat_add]
theorem dec_lt{m:Nat}(h:m<10):Lib.decDigits m=[48+UInt8.ofNat (m % 10)]:=by
 rw[Lib.decDigits_one h,Az,Nat.mod_eq_of_lt h]
theorem NG{m:Nat}(h:¬m<10):Lib.decDigits m=Lib.decDigits (m / 10)++[48+UInt8.ofNat (m % 10)]:=by
 rw[Lib.decDigits,dif_neg h,Az]
theorem xM(a b:Array UInt8):(⟨a⟩:ByteArray)++(⟨b⟩:ByteArray)=⟨a++b⟩:=by
 apply ByteArray.ext;simp[ByteArray.data_append]
theorem MX{a b:ByteArray}(h:a=b):Ending.returned (UN a)=UU (UN b):=by rw[h]
theorem pG(n:Nat)(w:UY)(hn:n<=4611686018427387904) :
  Calls Tryz.prog 176 #[UM US n] w λe w'=>e=UU (UN ⟨(Lib.decDigits n).toArray⟩)/\ac w w':=by
 go_enter Tryz.func176,Tryz.ntmps176;go_wp2;go_loopw [0,3] (λa s wr=>Nf n w a s wr) (λa _ _=>(intOf a).toNat)
 case atStart=>exact⟨n,[],by omega,by simp,rfl,rfl,aa (by simp),ac.refl _⟩
 case round=>
  obtain⟨m,l,hm,hl,rfl,rfl,H,X,rfl⟩:=hrel
  by_cases h10:m<10
  ·have e1:((m:Int) / 10==0)=true:=by simp;omega
   go_wp2;go_ret;refine⟨MX ?_,uZ⟩;rw[H.out,dec_lt h10,xM];simp
  have e1:((m:Int) / 10==0)=false:=by simp;omega
  go_wp2;rw[xM];refine⟨⟨m / 10,(48+UInt8.ofNat (m % 10)) :: l,by omega,by simp;omega,by simp,by simp,aa ?_,uZ⟩,?_⟩
  ·rw[H.out,NG h10];simp
  simp[intOf];omega
end
section
theorem IN{l:List UInt8}{t:List UInt8}{n:Nat}(h:St.cJ l=some (t,n)):t.length<=n:=by
 unfold St.cJ at h;simp only[]at h
 split at h
 ·simp only[Option.some.injEq,Prod.mk.injEq]at h;obtain⟨rfl,rfl⟩:=h;omega
 cases h
theorem Ce:pB St.ci:=by
 intro l k t n h;obtain⟨hk,h1,h2⟩:=St.sT h;refine⟨by omega,h1,h2,?_⟩
 match l,h with
 | c :: r,h=>
  by_cases gB:c.toNat=34
  ·rw[St.ry gB]at h
   split at h
   ·simp only[Option.some.injEq,Prod.mk.injEq]at h;obtain⟨_,rfl,rfl⟩:=h;simp
   cases h
  by_cases db:c.toNat=123
  ·rw[St.pv db]at h
   split at h
   ·simp only[Option.some.injEq,Prod.mk.injEq]at h;obtain⟨_,rfl,rfl⟩:=h;simp
   cases hs:St.cJ (c :: r)with
   | none=>rw[hs]at h;cases h
   | some x=>
    rw[hs]at h;obtain⟨x1,x2⟩:=x;simp only[Option.map_some,Option.some.injEq,Prod.mk.injEq]at h;obtain⟨_,rfl,rfl⟩:=h;exact IN hs
  rw[St.nM gB db]at h;simp only[Option.some.injEq,Prod.mk.injEq]at h;obtain⟨_,rfl,rfl⟩:=h;simp
theorem Cd:zO 3 St.ci:=by
 intro s w hs h0;obtain⟨k,x,m,hv⟩:=mc (St.ci s.1.1);have hsh:=λW=>FK s W hs h0
 rw[hv]at hsh;have HS:=aa hsh;have HV:=aa hv;clear hsh hv;go_enter Tryz.func104,Tryz.ntmps104;go_wp2_with (go_at_call 146;refine(HS.out _).mono ?_;rintro e w' ⟨rfl,X,rfl⟩);refine bodyPost_ret (v:=UR #[.agg #[UM US k,UN x,UM US 0],UM US m]) (by simp[results,Tryz.results104,go_sem]) rfl ⟨?_,uZ⟩;rw[HV.out]
end
