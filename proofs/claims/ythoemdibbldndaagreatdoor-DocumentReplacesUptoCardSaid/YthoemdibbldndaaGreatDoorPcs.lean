/- The contract of the document's laws' pieces. -/
import Derived.Test.YthoemdibbldndaaGreatDoorTgt
import Derived.Deep.CutRange
set_option linter.all false
set_option maxHeartbeats 0
set_option maxRecDepth 20000
open Go.Value renaming int->VD,slice->VF,bool->VG
open Go.IntKind renaming i64->VJ
open Option renaming none->VM,some->VN
open Go renaming World->VO
namespace Go.Proofs.YthoemdibbldndaaGreatDoor
open Go.RowKit
namespace St
def Aq:Int->List (Int × Int)->Int
 | x,[]=>x
 | _,r :: rs=>Aq r.2 rs
theorem Aa{N:Nat}{r:Int × Int}:∀(rs:List (Int × Int)) (x:Int),dM N x rs=true->Aq x rs<=r.1->r.1<=r.2->r.2<=N->dM N x (rs++[r])=true/\Aq x (rs++[r])=r.2
 | [],x,_,h1,h2,h3=>by
  simp only[Aq]at h1;refine⟨?_,rfl⟩;rw[List.nil_append,dM,if_neg (by omega)];rfl
 | q :: rs,x,h,h1,h2,h3=>by
  rw[dM]at h
  split at h
  ·cases h
  rename_i hn
  obtain⟨g1,g2⟩:=Aa rs q.2 h h1 h2 h3;refine⟨?_,g2⟩;rw[List.cons_append,dM,if_neg hn];exact g1
def zB(f:List It):List (Int × Int)->List (List It)->Prop
 | r :: rs,t :: ts=>kp (bi r.1.toNat r.2.toNat 0 f) t (12*(bi r.1.toNat r.2.toNat 0 f).length)/\zB f rs ts
 | [],[]=>True
 | _,_=>False
theorem Au{f:List It}{r:Int × Int}{t:List It}(hr:kp (bi r.1.toNat r.2.toNat 0 f) t (12*(bi r.1.toNat r.2.toNat 0 f).length)):∀(rs:List (Int × Int)) (ts:List (List It)),zB f rs ts->zB f (rs++[r]) (ts++[t])
 | [],[],_=>⟨hr,trivial⟩
 | q :: rs,u :: ts,h=>⟨h.1,Au hr rs ts h.2⟩
 | [],_ :: _,h=>h.elim
 | _ :: _,[],h=>h.elim
end St
theorem EH:(Tryz.prog.info? 33).map (λi=>(i.zero,i.size,i.bytes))=some (some (.agg #[.int .i64 0,.int .i64 0]),2,16):=by kernel_rfl
theorem vL:(Tryz.prog.info? 37).map (λi=>(i.zero,i.size,i.bytes))=some (some (.slice none 0 0),1,24):=by kernel_rfl
def nQ(rs:List (Int × Int)):List Value:=rs.flatMap λr=>[VD VJ r.1,VD VJ r.2]
theorem Cc(rs:List (Int × Int))(r:Int × Int):nQ (rs++[r])=nQ rs++[VD VJ r.1,VD VJ r.2]:=by simp[nQ]
theorem xI:∀(rs:List (Int × Int)) (j:Nat) (h:j<rs.length),(nQ rs)[j*2]?=VN (VD VJ rs[j].1)/\(nQ rs)[j*2+1]?=VN (VD VJ rs[j].2)
 | r :: rs,0,_=>⟨rfl,rfl⟩
 | r :: rs,j+1,h=>by
  have:=xI rs j (by simpa using h)
  have e:(j+1)*2=j*2+2:=by omega
  have e2:(j+1)*2+1=j*2+1+2:=by omega
  exact⟨by rw[e];exact this.1,by rw[e2];exact this.2⟩
theorem E2{w:VO}{B n c:Nat}{A:Option Addr}{rs:List (Int × Int)}(h:w.ownsRow B 33 2 (VF A n c) n (nQ rs))(hn:rs.length=n):dL w A rs:=by
 intro h0;obtain⟨g,rfl,_,hg,hc⟩:=dY h (by omega);refine⟨g,0,rfl,hg,λj hj=>?_⟩;obtain⟨a,b⟩:=xI rs j hj;rw[Nat.zero_add];exact⟨hc _ _ a,hc _ _ b⟩
def nN(B:Nat)(W:VO)(vs:List Value)(ts:List (List St.It)):Prop:=vs.length=ts.length/\∀(j:Nat) (h:j<vs.length) (h':j<ts.length),W.ownsRow B 36 3 vs[j] ts[j].length (av ts[j])
theorem Mb(B:Nat)(W:VO):nN B W [] []:=⟨rfl,λj h=>by simp at h⟩
theorem J6{B:Nat}{W:VO}{vs:List Value}{ts:List (List St.It)}(h:nN B W vs ts){v:Value}{t:List St.It}(ho:W.ownsRow B 36 3 v t.length (av t)):nN B W (vs++[v]) (ts++[t]):=by
 refine⟨by simp[h.1],λj hj hj'=>?_⟩
 by_cases hlt:j<vs.length
 ·rw[List.getElem_append_left hlt,List.getElem_append_left (by rw[<-h.1];exact hlt)];exact h.2 j hlt _
 have hl:=h.1;have:j=vs.length:=by simp at hj;omega
 subst this;simp only[List.getElem_append_right (Nat.le_refl _),Nat.sub_self,List.getElem_cons_zero]
 have e:(ts++[t])[vs.length]'(by simp;omega)=t:=by
  rw[List.getElem_append_right (by omega)];simp[hl]
 rw[e];exact ho
theorem uS{B:Nat}{W W':VO}{vs:List Value}{ts:List (List St.It)}(h:nN B W vs ts)(hk:∀v n xs,W.ownsRow B 36 3 v n xs->W'.ownsRow B 36 3 v n xs):nN B W' vs ts:=⟨h.1,λj hj hj'=>hk _ _ _ (h.2 j hj hj')⟩
theorem OY{w:VO}{B n c:Nat}{A:Option Addr}{vs:List Value}{ts:List (List St.It)}(h:w.ownsRow B 37 1 (VF A n c) n vs)(hn:vs.length=n)(ht:nN B w vs ts):fS w A ts:=by
 intro h0;have hl:=ht.1;obtain⟨g,rfl,_,hg,hc⟩:=dY h (by omega);refine⟨g,0,rfl,hg,λj hj=>?_⟩;have hj':j<vs.length:=by omega
 have ho:=ht.2 j hj' hj;obtain⟨A',c',e,h1,h2,h3⟩:=aJ ho;have GD:=hc j vs[j] (List.getElem?_eq_getElem hj');rw[e]at ho GD;exact⟨A',c',by rw[Nat.zero_add];exact GD,aM ho rfl,h1,by unfold maxLen at h2;omega,h3⟩
theorem OO(w2:VO)(x y:Value)(e:TypeId)(b:Nat)(hb:b=w2.1.size):∀j u,[x,y][j]?=VN u->(w2.alloc (.cells #[x,y] e)).cell? ((⟨b,0,VM⟩:Addr).add j)=VN u:=by
 subst hb;intro j u h
 match j,h with
 | 0,h=>simp at h;subst h;exact World.cell?_alloc_at _ _ _ _ rfl
 | 1,h=>simp at h;subst h;exact World.cell?_alloc_at _ _ _ _ rfl
 | j+2,h=>simp at h
theorem kR{w w':VO}{B e e' size size' n n':Nat}{v v':Value}{xs xs':List Value}(h:w.ownsRow B e size v n xs)(h':w.ownsRow B e' size' v' n' xs')(hne:e≠e')(k:w.grownBy w' v'.ownBlock):w'.ownsRow B e size v n xs:=by
 refine h.kept k ?_;rcases cR h h' hne with e|e
 ·exact .inl e
 exact .inr e
structure PJ (w:VO) (B g P:Nat) (jP:Bool) (f:List St.It) (rs:List (Int × Int)) (ts:List (List St.It)) (a k:Nat) (s8 s9:Value) (vs:List Value) (wr:VO):Prop where
 o8:wr.ownsRow w.1.size 33 2 s8 rs.length (nQ rs)
 o9:wr.ownsRow w.1.size 37 1 s9 vs.length vs
 tg:nN w.1.size wr vs ts
 ln:rs.length=k/\vs.length=k
 asc:St.dM (St.aR f) 0 rs=true
 en:St.Aq 0 rs=a
 al:a<=St.aR f
 fit:jP=false->St.zB f rs ts
 bd:∀t∈ts,t.length<=2*f.length+6/\aP t<=aP f+12*f.length+69
 gen:bm wr B g (P+1+(7*f.length+40)*k)
 gb:w.grownBy wr (VN g)
def KN(w:VO)(B g P:Nat)(jP:Bool)(f:List St.It)(s8 s9 cW s12:Value)(wr:VO):Prop:=
 ∃(i k a:Nat) (rs:List (Int × Int)) (ts:List (List St.It)) (vs:List Value),s12=VD VJ i/\cW=VD VJ a/\k+i<=3/\PJ w B g P jP f rs ts a k s8 s9 vs wr
def KM(w:VO)(B g P:Nat)(jP:Bool)(f:List St.It)(e:Ending)(w':VO):Prop:=
 ∃(Ar At:Option Addr) (cr ct:Nat) (rs:List (Int × Int)) (ts:List (List St.It)),e=.returned (.tuple #[VF Ar rs.length cr,VF At ts.length ct])/\dL w' Ar rs/\fS w' At ts/\rs.length=ts.length/\rs.length<=3/\rs.length<=cr/\ts.length<=ct/\cr<=9223372036854775807/\ct<=9223372036854775807 /\
  St.dM (St.aR f) 0 rs=true/\(jP=false->St.zB f rs ts)/\(∀t∈ts,t.length<=2*f.length+6/\aP t<=aP f+12*f.length+69)/\w.grownBy w' (VN g)
def KL(w wr:VO)(B g Q:Nat)(jP:Bool)(f x:List St.It)(mJ:Value)(wx:VO):Prop:=
 ∃t:List St.It,wx.ownsRow w.1.size 36 3 mJ t.length (av t)/\(jP=false->St.kp x t (12*x.length))/\t.length<=2*f.length+6/\aP t<=aP f+12*f.length+69/\bm wx B g (Q+7*f.length+35)/\wr.grownBy wx (VN g)
theorem EY(B g P n c:Nat)(jP:Bool)(A:Option Addr)(f:List St.It)(w:VO)(hG:bm w B g P)(hP:P<=1000)(hn:f.length=n)(h:aE w A f)(hne:0<n->∀b off,A=VN ⟨b,off,VM⟩->b≠g)(hl:n<=512)(ht:aP f<=1500000)
  (QM:jP=true->∀(Q:Nat) (ns:Bool) (W:VO),bm W B g Q->Q<=50000->Calls Tryz.prog 66 #[.pointer (VN ⟨g,0,VM⟩),VD VJ 3,VG true,VG ns] W λe w'=>∃(v:Value) (t:List St.It),e=.returned v/\w'.ownsRow W.1.size 36 3 v t.length (av t)/\t.length<=6/\aP t<=69/\bm w' B g (Q+28)/\W.grownBy w' (VN g)) :
  Calls Tryz.prog 30 #[.pointer (VN ⟨g,0,VM⟩),VF A n c,VG jP] w (KM w B g P jP f):=by
 have HG:=aa hG;have H:=aa h;have HN:=aa hn;have gl:=aa hne;have SM:=aa QM;obtain⟨jD,hB⟩:=hG.lt;have hll:=fW f;have hlen:=jc A n c f w hn h (by omega) (by omega);obtain⟨i8,h8a,h8b,h8c,h8d⟩:=info_parts EH;obtain⟨i9,h9a,h9b,h9c,h9d⟩:=info_parts vL;obtain⟨N,hNl⟩:∃N,N=St.aR f:=⟨_,rfl⟩;rw[<-hNl]at hll hlen;have HLEN:=aa hlen;have CL:=aa hNl;clear hG h hn hne QM hlen hNl;go_enter Tryz.func30,Tryz.ntmps30;go_wp2_with fail;refine HLEN.out.mono ?_;rintro e w1 ⟨rfl,rfl⟩;go_wp2_with fail;refine(bN B g P 4 _ HG.out (by omega) (by omega) (by omega)).mono ?_;rintro e w2 ⟨r,rfl,hr,hG2,hk2⟩;have HG2:=aa hG2;have fQ:=aa hk2;clear hG2 hk2 HG HLEN;go_wp2_with fail;go_loopw [8,9,10,12] (λs8 s9 cW s12 wr=>KN w B g P jP f s8 s9 cW s12 wr) (λ_ _ _ s12 _=>(intOf s12).toNat)
 case atStart=>exact⟨r,0,0,[],[],[],rfl,rfl,by omega,World.ownsRow_nil _ _ _ _,World.ownsRow_nil _ _ _ _,Mb _ _,⟨rfl,rfl⟩,rfl,rfl,by omega,(λ_=>trivial),(λt ht=>by cases ht),by simpa using HG2.out,fQ.out⟩
 case round=>
  clear HG2 fQ;obtain⟨i,k,a,rs,ts,vs,rfl,rfl,ye,hI⟩:=hrel;have HI:=aa hI;have hal:=hI.al;rw[<-CL.out]at hal;have hsz:=hI.gb.size;have oT:=hI.ln;have hN:=HN.out;have Vc:(7*f.length+40)*k<=(7*f.length+40)*3:=Nat.mul_le_mul (Nat.le_refl _) (by omega);clear hI
  by_cases hi:0<i
  ·have z:(0:Int)<(i:Int):=by omega
   go_wp2_with fail;refine(bN B g _ ((N:Int)-(a:Int)+1) _ HI.out.gen (by omega) (by omega) (by omega)).mono ?_;rintro e w3 ⟨r1,rfl,hr1,hG3,hk3⟩;have gJ:=aa hG3;have ff:=aa hk3;obtain⟨p,hp⟩:∃p:Nat,p=a+r1:=⟨_,rfl⟩;have hap:(a:Int)+(r1:Int)=(p:Int):=by omega
   have Vg:p<=N:=by omega
   have Ux:a<=p:=by omega
   clear hG3 hk3 hp hr1;go_wp2_with fail;refine(bN B g _ ((N:Int)-(p:Int)+1) _ gJ.out (by omega) (by omega) (by omega)).mono ?_;rintro e w4 ⟨r2,rfl,hr2,hG4,hk4⟩;have eM:=aa hG4;have de:=aa (aK ff.out hk4 (λ_ e=>.inl e));obtain⟨q,hq⟩:∃q:Nat,q=p+r2:=⟨_,rfl⟩;have kM:(p:Int)+(r2:Int)=(q:Int):=by omega
   have Vh:q<=N:=by omega
   have Sn:p<=q:=by omega
   clear hq hr2;have QO:=yp H.out (aK HI.out.gb de.out (λ_ e=>.inl e)) (λh0=>gl.out (by have:=HN.out;omega));have hs4:=de.out.size;have hsl:=nu A n c f p q w4 HN.out QO (by omega) (by omega) Sn (by have:=CL.out;omega);have br:=aa hsl;clear hG4 hk4 gJ ff hsl QO;go_wp2_with fail;refine br.out.mono ?_;rintro e w5 ⟨v5,rfl,dy,a8⟩;have hxl:=qb p q f 0;have Vq:=oA p q f 0;obtain⟨A5,c5,rfl,_,_,_⟩:=aJ dy;have lO:=aM dy rfl;have hnb:=λb off (e:A5=VN ⟨b,off,VM⟩)=>(show w4.1.size<=b from ax dy b (by rw[e];rfl))
   have jl:=aa (eM.out.ah a8);have nG:=aa (bE de.out a8);have hs5:=a8.size;have hfit:St.bi p q 0 f=St.bi ((p:Int).toNat) ((q:Int).toNat) 0 f:=by rw[Int.toNat_natCast,Int.toNat_natCast]
   have lJ:=aa hfit;generalize St.bi p q 0 f=x at *;have Qd:=aa lO;have Ql:=aa hnb;clear dy a8 br lO hnb hfit eM de;go_wp2_with fail;refine(Fl B g _ x.length c5 A5 x w5 jl.out (by omega) rfl Qd.out (λ_ b off e=>by have:=Ql.out b off e;omega) (by omega) (by omega)).mono ?_;rintro e w6 ⟨v6,t,rfl,tN,hT,KV,C7⟩;have pC:=aa (KV.le (Q:=P+1+(7*f.length+40)*k+2+7*f.length) (by omega));have u7:=aa (aK nG.out C7 (λ_ e=>.inl e));have CN:=aa (cC tN (by omega):w6.ownsRow w.1.size 36 3 v6 t.length (av t));have NP:=hT.len;have U5:=hT.aP;have HT:=aa hT;have GO:=u7.out.size;clear tN hT KV C7 jl nG Qd Ql;go_upto_region 11 with fail;go_cut [57]from 22 to 73 (λT8 wx=>∃b:Bool,T8=VG b/\(b=true->jP=true)/\bm wx B g (P+1+(7*f.length+40)*k+2+7*f.length+1)/\w6.grownBy wx (VN g))
   case first=>
    cases jP
    ·go_wp2;go_meet;exact⟨false,rfl,(λe=>by cases e),pC.out.le (by omega),bh _ _⟩
    go_wp2_with fail;refine(bN B g _ 3 _ pC.out (by omega) (by omega) (by omega)).mono ?_;rintro e w7 ⟨r3,rfl,hr3,hG7,hk7⟩;have HE:=aa (And.intro hG7 hk7);clear hG7 hk7;go_wp2;go_meet;exact⟨_,rfl,(λ_=>by first|rfl|trivial),HE.out.1.le (by omega),HE.out.2⟩
   case rest=>
   obtain⟨b,rfl,NW,hG7,hk7⟩:=hcut;have u5:=aa hG7;have FI:=aa (aK u7.out hk7 (λ_ e=>.inl e));have Qo:=aa (eC CN.out hk7 (by omega));have FD:=aa NW;have Vm:=FI.out.size;clear hG7 hk7 pC u7 CN NW;go_upto_if 57 with fail;go_cut [17]from 22 to 73 (λmJ wx=>KL w wr B g (P+1+(7*f.length+40)*k) jP f x mJ wx)
   case first=>
    cases b
    ·go_wp2;go_meet;exact⟨t,Qo.out,λ_=>HT.out,by omega,by omega,u5.out.le (by omega),FI.out⟩
    obtain rfl:=FD.out rfl;go_wp2_with fail;refine(bN B g _ 2 _ u5.out (by omega) (by omega) (by omega)).mono ?_;rintro e w8 ⟨r4,rfl,hr4,hG8,hk8⟩;have Ku:=aa hG8;have Qg:=aa (aK FI.out hk8 (λ_ e=>.inl e));have TK:=Qg.out.size;have hfr:=λns=>SM.out (by first|rfl|trivial) _ ns _ Ku.out (by omega)
    have SL:=aa hfr;clear hG8 hk8 u5 FI hfr;go_wp2_with fail;refine(SL.out _).mono ?_;rintro e w9 ⟨v9,t9,rfl,jF,q1,q2,hG9,hk9⟩;have HE:=aa (show KL w wr B g (P+1+(7*f.length+40)*k) true f x v9 w9 from⟨t9,cC jF (by omega),(λe=>by cases e),by omega,by omega,hG9.le (by omega),aK Qg.out hk9 (λ_ e=>.inl e)⟩);clear jF hG9 hk9;go_wp2;go_meet;exact HE.out
   case rest=>
    obtain⟨t,ho,hT,htl,oj,hG,hk⟩:=hcut;have HO:=aa ho;have Nd:=aa hT;have HG:=aa hG;have HK:=aa hk;have gK:=aa (eC HI.out.o8 hk (by omega));have nH:=aa (eC HI.out.o9 hk (by omega));have dR:=aa (uS HI.out.tg (λv m xs h=>eC h hk (by omega)));have MD:=aa (aK HI.out.gb hk (λ_ e=>.inl e));have oh:=MD.out.size;have oe:rs.length<=3:=by omega
    have Vl:vs.length<=3:=by omega
    clear ho hT hG hk Qo HT u5 FI;obtain⟨Kd,c17,rfl,_,_,_⟩:=aJ HO.out;go_wp2_with (at_builtin;refine wpList_append_own _ rfl _ _ 34 rfl w.1.size 33 i8 (.agg #[.int .i64 0,.int .i64 0]) 2 16 Tryz.underlying34 h8a h8b h8c h8d rfl (by decide) _ rs.length _ rfl (gK.out.alloc _) _ 1 1 [.int .i64 (p:Int),.int .i64 (q:Int)] rfl rfl ?qa1 ?qa2 (by unfold maxLen;omega) (by omega) ?qa3 ?_)
    case qa1=>exact OO _ _ _ _ _ rfl
    case qa2=>intro u hu;simp only[List.mem_cons,List.not_mem_nil,or_false]at hu;rcases hu with rfl|rfl<;>rfl
    case qa3=>simp;omega
    intro v8 w8 K6 pP _;have NU:=ax gK.out;have Ku:=aa ((HG.out.ah ((ac.refl wc).alloc (.cells #[.int .i64 (p:Int),.int .i64 (q:Int)] 33))).gb pP (λx e=>by have:=NU x e;omega));have IA:=aa (aK (bE MD.out ((ac.refl wc).alloc (.cells #[.int .i64 (p:Int),.int .i64 (q:Int)] 33))) pP (λx e=>.inr (NU x e)));have wv:=aa (kR (nH.out.alloc _) (gK.out.alloc _) (by decide) pP);have MY:=aa (kR (HO.out.alloc _) (gK.out.alloc _) (by decide) pP);have Na:=aa (uS dR.out (λv m xs h=>kR (h.alloc _) (gK.out.alloc _) (by decide) pP));have MW:=aa K6;have TK:=IA.out.size;clear K6 pP NU HG HO gK nH dR MD;go_wp2_with (at_builtin;refine wpList_append_own _ rfl _ _ 38 rfl w.1.size 37 i9 (.slice none 0 0) 1 24 Tryz.underlying38 h9a h9b h9c h9d rfl (by decide) _ vs.length _ rfl (wv.out.alloc _) _ 1 1 [.slice Kd t.length c17] rfl rfl ?qb1 ?qb2 (by unfold maxLen;omega) (by omega) ?qb3 ?_)
    case qb1=>exact fF _ _ _
    case qb2=>intro u hu;simp only[List.mem_cons,List.not_mem_nil,or_false]at hu;rcases hu with rfl;rfl
    case qb3=>simp;omega
    intro v9 w9 K7 pQ _;have vz:=ax wv.out;have P6:=aa ((Ku.out.ah ((ac.refl w8).alloc (.cells #[VF Kd t.length c17] 37))).gb pQ (λx e=>by have:=vz x e;omega));have ME:=aa (aK (bE IA.out ((ac.refl w8).alloc (.cells #[VF Kd t.length c17] 37))) pQ (λx e=>.inr (vz x e)));have MX:=aa (kR (MW.out.alloc _) (wv.out.alloc _) (by decide) pQ);have MZ:=aa (kR (MY.out.alloc _) (wv.out.alloc _) (by decide) pQ);have Nb:=aa (uS Na.out (λv m xs h=>kR (h.alloc _) (wv.out.alloc _) (by decide) pQ))
    have hrel:KN w B g P jP f v8 v9 (VD VJ (q:Int)) (VD VJ ((i:Int)-1)) w9:=by
     have mU:=HI.out;have TG:(7*f.length+40)*(k+1)=(7*f.length+40)*k+(7*f.length+40):=Nat.mul_succ _ _;obtain⟨g1,g2⟩:=St.Aa (r:=((p:Int),(q:Int))) rs 0 mU.asc (by rw[mU.en];simp only;omega) (by simp only;omega) (by simp only;have:=CL.out;omega);refine⟨i-1,k+1,q,rs++[((p:Int),(q:Int))],ts++[t],vs++[VF Kd t.length c17],congrArg (VD VJ) (by omega),rfl,by omega,?_⟩;refine⟨?_,?_,J6 Nb.out MZ.out,by simp;omega,g1,g2,by have:=CL.out;omega,λe=>?_,λu hu=>?_,?_,ME.out⟩
     ·rw[Cc,List.length_append,oT.1];exact MX.out
     ·rw[List.length_append,oT.2];exact K7
     ·exact St.Au (by simp only;rw[<-lJ.out];exact Nd.out e) rs ts (mU.fit e)
     ·rcases List.mem_append.1 hu with hu|hu
      ·exact mU.bd u hu
      simp at hu;subst hu;exact⟨htl,oj⟩
     rw[TG];exact P6.out.le (by omega)
    have bn:=aa hrel;clear hrel K7 pQ vz Ku IA wv MY Na MW P6 ME MX MZ Nb;go_wp2
    first|exact⟨bn.out,by simp[intOf];omega⟩|(refine⟨?_,by simp[intOf];omega⟩;(repeat apply Exists.intro);exact⟨bn.out,rfl⟩)
  have z1:¬(0:Int)<(i:Int):=by omega
  have mU:=HI.out;obtain⟨Ar,cr,rfl,hr1,hr2⟩:=aC mU.o8;obtain⟨At,ct,hse,ht1,ht2⟩:=aC mU.o9;have Q3:=mU.tg.1;have hte:vs.length=ts.length:=Q3;rw[hte]at hse ht1;subst hse
  have HE:=aa (show KM w B g P jP f (.returned (.tuple #[VF Ar rs.length cr,VF At ts.length ct])) wr from
   ⟨Ar,At,cr,ct,rs,ts,rfl,E2 mU.o8 rfl,OY (by have:=mU.o9;rw[<-hte]at this;exact this) rfl mU.tg,by omega,by omega,hr1,ht1,by unfold maxLen at hr2;omega,by unfold maxLen at ht2;omega,mU.asc,mU.fit,mU.bd,mU.gb⟩)
  have MB:=HE.out;rw[oT.1]at MB;have HE:=aa MB;clear mU hr1 hr2 ht1 ht2 Q3 HI MB;go_wp2;go_ret2;exact HE.out
