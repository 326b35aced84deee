/- The contracts of the reference's Has, Numbers, upTo, Rename and Renumber at any items. -/
import Derived.Test.YthoemdibbldndaaGreatDoorGB
import Derived.Test.YthoemdibbldndaaGreatDoorGF
set_option linter.all false
set_option maxHeartbeats 0
set_option maxRecDepth 20000
open Go.Value renaming int->Yh,string->Yi,slice->Yj
open Go.IntKind renaming i64->Yn
open Option renaming none->Yq,some->Yr
open Go renaming World->Ys
namespace Go.Proofs.YthoemdibbldndaaGreatDoor
open Go.RowKit
def j4(l:List Int):List Value:=l.map (Yh Yn)
theorem uR(l:List Int)(i:Int):j4 (l++[i])=j4 l++[Yh Yn i]:=by simp[j4]
theorem vE{w:Ys}{B n c:Nat}{A:Option Addr}{zs:List Int}(h:w.ownsRow B 3 1 (Yj A n c) n (j4 zs))(hn:zs.length=n):fq w A zs:=by
 intro h0;obtain⟨g,rfl,_,hg,hc⟩:=dU h (by omega);refine⟨g,0,rfl,hg,λi hi=>?_⟩;rw[Nat.zero_add];exact hc i _ (by unfold j4;rw[List.getElem?_map,List.getElem?_eq_getElem hi];simp[List.getD_eq_getElem?_getD,hi])
def SA(w:Ys)(l:List Int)(i:Int)(s5:Value)(wr:Ys):Prop:=∃k:Nat,k<=l.length/\s5=Yh Yn k/\i ∉ l.take k/\w=wr
theorem CO{l:List Int}{k:Nat}{i:Int}(h:i ∉ l.take k)(hk:k<l.length)(hne:l.getD k 0≠i):i ∉ l.take (k+1):=by
 rw[List.take_add_one,List.getElem?_eq_getElem hk,List.mem_append];rintro (e|e)
 ·exact h e
 simp only[Option.toList_some,List.mem_singleton]at e;rw[List.getD_eq_getElem?_getD,List.getElem?_eq_getElem hk]at hne;exact hne e.symm
theorem QS{l:List Int}{k:Nat}{i:Int}(hk:k<l.length)(he:l.getD k 0=i):i∈l:=by
 rw[List.getD_eq_getElem?_getD,List.getElem?_eq_getElem hk]at he;simp only[Option.getD_some]at he;rw[<-he];exact List.getElem_mem hk
theorem MG(A:Option Addr)(n c:Nat)(l:List Int)(i:Int)(w:Ys)(hn:l.length=n)(h:fq w A l)(hl:n<=1000000000000) :
  Calls Tryz.prog 111 #[Yj A n c,Yh Yn i] w λe w'=>e=.returned (.bool (decide (i∈l)))/\w=w':=by
 have H:=aa h;have HN:=aa hn;clear h hn;go_enter Tryz.func111,Tryz.ntmps111;go_wp2;go_loopw [8] (λs8 wr=>SA w l i s8 wr) (λs8 _=>n+1-(intOf s8).toNat)
 case atStart=>exact⟨0,by omega,rfl,by simp,rfl⟩
 case round=>
  obtain⟨k,hk,rfl,hni,rfl⟩:=hrel;have PX:=aa hni;have hN:=HN.out;clear hni
  by_cases hlt:k<n
  ·have aI:k<l.length:=by omega
   obtain⟨b,off,rfl,hb,hc⟩:=H.out (by omega);have c0:=hc k aI;have kX:=λ(h:l.getD k 0≠i)=>CO PX.out aI h
   have hat:=λ(h:l.getD k 0=i)=>QS aI h
   generalize l.getD k 0=z at c0 kX hat;haveI:af b w:=af.of hb;have Ca:=aa kX;have IP:=aa hat;clear hc aI kX hat
   by_cases hz:z=i
   ·have hm:=aa (IP.out hz);subst hz;have v1:(z==z)=true:=beq_self_eq_true _;go_wp2;go_ret;exact⟨az (decide_eq_true hm.out).symm,rfl⟩
   have v1:(z==i)=false:=by simpa using hz
   have v2:(z != i)=true:=by simpa using hz
   have hm:=aa (Ca.out hz);clear hz;go_wp2;exact⟨⟨k+1,by omega,congrArg (Yh Yn) (by omega),hm.out,rfl⟩,by simp[intOf];omega⟩
  have hkn:k=n:=by omega
  subst hkn;have hft:l.take k=l:=List.take_of_length_le (by omega);have hm:=aa (show i ∉ l by have:=PX.out;rw[hft]at this;exact this);clear hlt hft PX;go_wp2;go_ret;exact⟨az (decide_eq_false hm.out).symm,rfl⟩
theorem Mr(f:List St.It)(k:Nat)(h:k<f.length):(f.take (k+1)).foldl St.cS []=St.cS ((f.take k).foldl St.cS []) f[k]:=by
 rw[List.take_add_one,List.getElem?_eq_getElem h,List.foldl_append];rfl
def Gn(w:Ys)(f:List St.It)(n:Nat)(s3 s7:Value)(wr:Ys):Prop:=
 ∃(k:Nat) (l:List Int),k<=n/\s7=Yh Yn k/\l=(f.take k).foldl St.cS []/\l.length<=k/\wr.ownsRow w.1.size 3 1 s3 l.length (j4 l)/\ac w wr
theorem MH(A:Option Addr)(n c:Nat)(f:List St.It)(w:Ys)(hn:f.length=n)(h:aH w A f)(hl:n<=100000) :
  Calls Tryz.prog 68 #[Yj A n c] w λe w'=>∃v,e=.returned v/\(St.iX f).length<=n/\w'.ownsRow w.1.size 3 1 v (St.iX f).length (j4 (St.iX f))/\ac w w':=by
 have H:=aa h;have HN:=aa hn;obtain⟨ii,ki,kz0,kz1,kz2⟩:=info_parts fO;clear h hn;go_enter Tryz.func68,Tryz.ntmps68;go_wp2;go_loopw [3,7] (λs3 s7 wr=>Gn w f n s3 s7 wr) (λ_ s7 _=>n+1-(intOf s7).toNat)
 case atStart=>exact⟨0,[],by omega,rfl,rfl,by simp,World.ownsRow_nil _ _ _ _,ac.refl _⟩
 case round=>
  obtain⟨k,l,hk,rfl,hle,hll,hown,hu⟩:=hrel;have HU:=aa hu;have hsz:=hu.size;have HOW:=aa hown;have wG:=aa hle;have hN:=HN.out;obtain⟨AO,cO,rfl,_⟩:=aJ hown;clear hu hle hown
  by_cases hlt:k<n
  ·have aI:k<f.length:=by omega
   obtain⟨b,off,rfl,hb,hc⟩:=(H.out.ai HU.out) (by omega);obtain⟨c0,c1,c2⟩:=hc k aI;have hnt:=Mr f k aI;rw[<-wG.out]at hnt;generalize f[k]=x at c0 c1 c2 hnt;obtain⟨kd,tx,id⟩:=x;simp only at c0 c1 c2;have hit:=λt i W=>lL kd t i W
   have lS:=aa hnt;haveI:af b wr:=af.of hb;clear hc aI hnt
   have hno:St.cS l (kd,tx,id)=l->∀W,ac wr W->Gn w f n (Yj AO l.length cO) (Yh Yn ((k:Int)+1)) W:=λe W hW=>
    ⟨k+1,l,by omega,congrArg (Yh Yn) (by omega),by rw[lS.out,e],by omega,aF hW HOW.out,HU.out.trans hW⟩
   have iz:=aa hno;clear hno;cases cC:St.aQ kd
   ·rw[cC]at hit;have HIT:=aa hit;have he:=aa (show St.cS l (kd,tx,id)=l by unfold St.cS;rw[if_neg (by simp[cC])]);clear hit cC;go_wp2_with fail;refine(HIT.out _ _ _).mono ?_;rintro e w3 ⟨rfl,hu3⟩;have a7:=aa (ac.trans (uZ) hu3:ac wr w3);clear hu3 c0 c1 c2;go_wp2;exact⟨iz.out he.out _ a7.out,by simp[intOf];omega⟩
   rw[cC]at hit;have HIT:=aa hit;clear hit;go_wp2_with fail;refine(HIT.out _ _ _).mono ?_;rintro e w3 ⟨rfl,hu3⟩;have bL:ac wr w3:=ac.trans (uZ) hu3;have d2:=(bL.cell hb).trans c2;haveI:af b w3:=af.of (Nat.lt_of_lt_of_le hb bL.size);have Fq:=MG AO l.length cO l id w3 rfl (vE (aF bL HOW.out) rfl) (by omega);have a7:=aa bL;have j1:=aa (aF bL HOW.out);clear hu3 bL c0 c1 c2
   by_cases hm:id∈l
   ·rw[decide_eq_true hm]at Fq;have PN:=aa Fq;have he:=aa (show St.cS l (kd,tx,id)=l by unfold St.cS;rw[if_neg (by rintro ⟨_,h⟩;exact h hm)]);clear Fq hm cC;go_wp2_with fail;refine PN.out.mono ?_;rintro e w4 ⟨rfl,rfl⟩;go_wp2;exact⟨iz.out he.out _ a7.out,by simp[intOf];omega⟩
   rw[decide_eq_false hm]at Fq;have PN:=aa Fq;have he:=aa (show St.cS l (kd,tx,id)=l++[id]by unfold St.cS;rw[if_pos ⟨cC,hm⟩]);clear Fq hm cC iz;go_wp2_with fail;refine PN.out.mono ?_;rintro e w4 ⟨rfl,rfl⟩;go_wp2_with (at_builtin;refine wpList_append_own _ rfl _ _ 42 rfl w.1.size 3 ii (.int .i64 0) 1 8 Tryz.underlying42 ki kz0 kz1 kz2 rfl (by decide) (.slice AO l.length cO) l.length (j4 l) rfl (j1.out.alloc _) _ 1 1 [.int .i64 id] rfl rfl ?_ (by simp;rfl) (by unfold maxLen;omega) (by omega) ?_ ?_)
   ·exact gy _ _ _
   ·have:=a7.out.size;simp;omega
   intro v' w5 dC fc _;rw[<-uR]at dC;have bg:ac w w5:=((HU.out.trans a7.out).alloc _).grown fc (λg hg=>aB j1.out g hg);have HE:=aa (show Gn w f n v' (Yh Yn ((k:Int)+1)) w5 from⟨k+1,l++[id],by omega,congrArg (Yh Yn) (by omega),by rw[lS.out,he.out],by simp;omega,by rw[List.length_append,List.length_singleton];exact dC,bg⟩);clear dC fc bg;go_wp2;exact⟨HE.out,by simp[intOf];omega⟩
  have hkn:k=n:=by omega
  subst hkn;have hft:f.take k=f:=List.take_of_length_le (by omega);have hl2:l=St.iX f:=by rw[wG.out,hft];rfl
  subst hl2;clear hlt hft wG;go_wp2;go_ret;exact⟨_,rfl,hll,HOW.out,HU.out⟩
def NI(w:Ys)(n:Nat)(s2 s3:Value)(wr:Ys):Prop:=
 ∃k:Nat,k<=n/\s3=Yh Yn ((k:Int)+1)/\wr.ownsRow w.1.size 3 1 s2 k (j4 (St.jD k))/\ac w wr
theorem KA(n:Nat)(w:Ys)(hn:n<=100000) :
  Calls Tryz.prog 70 #[Yh Yn (n:Int)] w λe w'=>∃v,e=.returned v/\w'.ownsRow w.1.size 3 1 v n (j4 (St.jD n))/\ac w w':=by
 obtain⟨ii,ki,kz0,kz1,kz2⟩:=info_parts fO;go_enter Tryz.func70,Tryz.ntmps70;go_wp2;go_loopw [3,4] (λs3 s4 wr=>NI w n s3 s4 wr) (λ_ s4 _=>n+2-(intOf s4).toNat)
 case atStart=>exact⟨0,by omega,rfl,World.ownsRow_nil _ _ _ _,ac.refl _⟩
 case round=>
  obtain⟨k,hk,rfl,hown,hu⟩:=hrel;have HU:=aa hu;have HOW:=aa hown;have hsz:=hu.size;obtain⟨AO,cO,rfl,_⟩:=aJ hown;clear hu hown
  by_cases hlt:k<n
  ·have y1:(k:Int)+1<=(n:Int):=by omega
   go_wp2_with (at_builtin;refine wpList_append_own _ rfl _ _ 42 rfl w.1.size 3 ii (.int .i64 0) 1 8 Tryz.underlying42 ki kz0 kz1 kz2 rfl (by decide) (.slice AO k cO) k (j4 (St.jD k)) rfl (HOW.out.alloc _) _ 1 1 [.int .i64 ((k:Int)+1)] rfl rfl ?_ (by simp;rfl) (by unfold maxLen;omega) (by omega) ?_ ?_)
   ·exact gy _ _ _
   ·simp;omega
   intro v' w5 dC fc _;rw[<-uR,<-St.uO]at dC;have bg:ac w w5:=(HU.out.alloc _).grown fc (λg hg=>aB HOW.out g hg);have HE:=aa (show NI w n v' (Yh Yn ((k:Int)+1+1)) w5 from⟨k+1,by omega,congrArg (Yh Yn) (by omega),dC,bg⟩);clear dC fc bg;go_wp2;exact⟨HE.out,by simp[intOf];omega⟩
  have hkn:k=n:=by omega
  subst hkn;have y1:¬(k:Int)+1<=(k:Int):=by omega
  go_wp2;go_ret;exact⟨_,rfl,HOW.out,HU.out⟩
namespace St
theorem Ci(l:List Int)(x:It):(∀i∈l,i∈cS l x)/\(aQ x.1=true->x.2.2∈cS l x):=by
 unfold cS
 split
 ·exact⟨λi hi=>List.mem_append_left _ hi,λ_=>by simp⟩
 rename_i h
 exact⟨λi hi=>hi,λht=>Decidable.byContradiction λe=>h ⟨ht,e⟩⟩
theorem Dv:∀(f:List It) (l:List Int),(∀i∈l,i∈f.foldl cS l)/\∀x∈f,aQ x.1=true->x.2.2∈f.foldl cS l
 | [],l=>⟨λi hi=>hi,λx hx=>by cases hx⟩
 | y :: f,l=>by
  obtain⟨h1,h2⟩:=Dv f (cS l y);obtain⟨g1,g2⟩:=Ci l y;refine⟨λi hi=>h1 i (g1 i hi),λx hx ht=>?_⟩;rcases List.mem_cons.1 hx with rfl|hx
  ·exact h1 _ (g2 ht)
  exact h2 x hx ht
theorem O2(f:List It):∀x∈f,aQ x.1=true->x.2.2∈iX f:=(Dv f []).2
end St
theorem MI(g:St.It->St.It)(f:List St.It)(k:Nat)(h:k<f.length):ak ((f.map g).take (k+1))=ak ((f.map g).take k)++[Yh Yn (g f[k]).1,Yi ⟨(g f[k]).2.1.toArray⟩,Yh Yn (g f[k]).2.2]:=by
 rw[List.take_add_one,List.getElem?_map,List.getElem?_eq_getElem h];exact bD _ _
def Gr(w:Ys)(l:List Int)(f:List St.It)(n:Nat)(s7 mA:Value)(wr:Ys):Prop:=∃k:Nat,k<=n/\mA=Yh Yn k/\wr.ownsRow w.1.size 36 3 s7 k (ak ((f.map (St.dN l)).take k))/\ac w wr
def NF(l:List Int)(id:Int)(wr:Ys)(db:Value)(wz:Ys):Prop:=∃p:Nat,db=Yh Yn p/\p<l.length/\id ∉ l.take p/\ac wr wz
theorem Oe{l:List Int}{id:Int}{p:Nat}(hm:id∈l)(h:id ∉ l.take p):p<l.length:=by
 refine Nat.lt_of_not_le λe=>h ?_
 rw[List.take_of_length_le e];exact hm
theorem J5{l:List Int}{id:Int}{p:Nat}(h:id ∉ l.take p)(hp:p<l.length)(he:l.getD p 0=id):l.idxOf id=p:=by
 have e:l=l.take p++l.drop p:=(List.take_append_drop p l).symm;rw[e,List.idxOf_append,if_neg h,List.drop_eq_getElem_cons hp];rw[List.getD_eq_getElem?_getD,List.getElem?_eq_getElem hp,Option.getD_some]at he;rw[he,List.idxOf_cons_self,List.length_take];omega
theorem PB(l:List Int)(f:List St.It):aV (f.map (St.dN l))=aV f:=by
 unfold aV;rw[List.map_map];congr 1;refine List.map_congr_left λx _=>?_
 simp only[Function.comp,St.dN]
 split<;>rfl
theorem R5{q p:Nat}(h:p<q):(St.jD q).getD p 0=(p:Int)+1:=by
 unfold St.jD;rw[List.getD_eq_getElem?_getD,List.getElem?_map,List.getElem?_range h];rfl
theorem MJ(A B C:Option Addr)(n c q d e0:Nat)(f:List St.It)(w:Ys)(hn:f.length=n)(h:aH w A f)(l:List Int)(Fv:l.length=q)(hB:fq w B l)(hC:fq w C (St.jD q))(hT:∀x∈f,St.aQ x.1=true->x.2.2∈l)(hl:n<=100000)(hq:q<=100000)(ht:aV f<=4611686018427387904) :
  Calls Tryz.prog 69 #[Yj A n c,Yj B q d,Yj C q e0] w λe w'=>∃v,e=.returned v/\w'.ownsRow w.1.size 36 3 v (St.bl (f.map (St.dN l))).length (ak (St.bl (f.map (St.dN l))))/\ac w w':=by
 have H:=aa h;have HN:=aa hn;have HT:=aa hT;have HB:=aa hB;have HC:=aa hC;have Nr:=aa Fv;obtain⟨i0,hi,hz0,hz1,hz2⟩:=info_parts dH;clear h hn hT Fv hB hC;go_enter Tryz.func69,Tryz.ntmps69;go_wp2;go_loopw [7,13] (λs7 mA wr=>Gr w l f n s7 mA wr) (λ_ mA _=>n+1-(intOf mA).toNat)
 case atStart=>exact⟨0,by omega,rfl,World.ownsRow_nil _ _ _ _,ac.refl _⟩
 case round=>
  obtain⟨k,hk,rfl,hown,hu⟩:=hrel;have HU:=aa hu;have hsz:=hu.size;have HOW:=aa hown;have hN:=HN.out;obtain⟨AO,cO,rfl,_⟩:=aJ hown;clear hu
  by_cases hlt:k<n
  ·clear hown;have aI:k<f.length:=by omega
   obtain⟨b,off,rfl,hb,hc⟩:=(H.out.ai HU.out) (by omega);obtain⟨c0,c1,c2⟩:=hc k aI;have cC:=HT.out f[k] (List.getElem_mem aI);have kX:=MI (St.dN l) f k aI;generalize f[k]=x at c0 c1 c2 cC kX;obtain⟨kd,tx,id⟩:=x;simp only at c0 c1 c2 cC kX;have hit:=λt i W=>lL kd t i W
   haveI:af b wr:=af.of hb;clear hc aI;cases cN:St.aQ kd
   ·rw[cN]at hit;have HIT:=aa hit;have J0:St.dN l (kd,tx,id)=(kd,tx,id):=by unfold St.dN;rw[if_neg (by simp[cN])]
    rw[J0]at kX;have Ca:=aa kX;clear hit cC cN J0 kX;go_wp2_with fail;refine(HIT.out _ _ _).mono ?_;rintro e w3 ⟨rfl,hu3⟩;have bL:ac wr w3:=ac.trans (uZ) hu3;have d0:w3.cell? ⟨wr.1.size,0,none⟩=some (.int .i64 kd):=(hu3.cell (p:=⟨wr.1.size,0,none⟩) (by simp)).trans (by simp);have d1:w3.cell? ⟨wr.1.size,1,none⟩=some (.string ⟨tx.toArray⟩):=(hu3.cell (p:=⟨wr.1.size,1,none⟩) (by simp)).trans (by simp);have d2:w3.cell? ⟨wr.1.size,2,none⟩=some (.int .i64 id):=(hu3.cell (p:=⟨wr.1.size,2,none⟩) (by simp)).trans (by simp);haveI:af wr.1.size w3:=af.of (cx _ _ d0);have a7:=aa (HU.out.trans bL);have j1:=aa (aF bL HOW.out);clear hu3 bL c0 c1 c2;go_wp2_with (at_builtin;refine wpList_append_own _ rfl _ _ 37 rfl w.1.size 36 i0 (.agg #[.int .i64 0,.string ⟨#[]⟩,.int .i64 0]) 3 32 Tryz.underlying37 hi hz0 hz1 hz2 rfl (by decide) (.slice AO k cO) k _ rfl (j1.out.alloc _) _ 1 1 [.int .i64 kd,.string ⟨tx.toArray⟩,.int .i64 id] rfl rfl ?_ (cL _ _ _) (by unfold maxLen;omega) (by omega) ?_ ?_)
    ·exact dW _ _ _ _ _ _ rfl
    ·have:=a7.out.size;have h2:=(ac.refl w3).alloc (.cells #[Yh Yn kd,Yi ⟨tx.toArray⟩,Yh Yn id] 36) |>.size;omega
    intro v' w4 hown' hgrow _;have hrel:Gr w l f n v' (Yh Yn ((k+1:Nat):Int)) w4:=⟨k+1,by omega,rfl,by rw[Ca.out];exact hown',(a7.out.alloc _).grown hgrow (λg hg=>aB j1.out g hg)⟩;have br:=aa hrel;clear hown' hgrow hrel;go_wp2;exact⟨by simpa using br.out,by simp[intOf];omega⟩
   rw[cN]at hit;have PW:=aa (cC cN);have HIT:=aa hit;have J0:St.dN l (kd,tx,id)=(kd,tx,(l.idxOf id:Int)+1):=by unfold St.dN;rw[if_pos (by simp[cN])]
   rw[J0]at kX;have Ca:=aa kX;clear hit cC cN J0 kX;go_wp2_with fail;refine(HIT.out _ _ _).mono ?_;rintro e w3 ⟨rfl,hu3⟩;have bL:ac wr w3:=ac.trans (uZ) hu3;have d0:w3.cell? ⟨wr.1.size,0,Yq⟩=Yr (Yh Yn kd):=(hu3.cell (p:=⟨wr.1.size,0,Yq⟩) (by simp)).trans (by simp);have d1:w3.cell? ⟨wr.1.size,1,Yq⟩=Yr (Yi ⟨tx.toArray⟩):=(hu3.cell (p:=⟨wr.1.size,1,Yq⟩) (by simp)).trans (by simp);have d2:w3.cell? ⟨wr.1.size,2,Yq⟩=Yr (Yh Yn id):=(hu3.cell (p:=⟨wr.1.size,2,Yq⟩) (by simp)).trans (by simp);have cZ:=cx _ _ d0;haveI:af wr.1.size w3:=af.of cZ;have a7:=aa (HU.out.trans bL);have j1:=aa (aF bL HOW.out);clear hu3 bL c0 c1 c2;generalize wr.1.size=bx at *;go_wp2_with fail;go_loopw [7,10] (λs7 db wr=>s7=Yj AO k cO/\NF l id w3 db wr) (λ_ db _=>q+1-(intOf db).toNat)
   case atStart=>exact⟨rfl,0,rfl,Oe PW.out (by simp),by simp,ac.refl _⟩
   case round=>
    obtain⟨rfl,p,rfl,hp,be,hu⟩:=hrel;have Ty:=aa hu;have PY:=aa be;have mm:p<q:=by have:=Nr.out;omega
    have y1:(p:Int)<(q:Int):=by omega
    obtain⟨b1,o1,rfl,hb1,hc1⟩:=(HB.out.ai (a7.out.trans hu)) (by omega);obtain⟨b2,o2,rfl,hb2,hc2⟩:=(HC.out.ai (a7.out.trans hu)) (by rw[St.nu];omega);have e1:=hc1 p hp;have e2:=hc2 p (by rw[St.nu];exact mm);rw[R5 mm]at e2;have hif:=λe=>J5 PY.out hp e
    have hns:=λe=>CO PY.out hp e
    have Rg:=λe=>Oe PW.out (hns e)
    generalize l.getD p 0=z at e1 hif hns Rg;haveI:af b1 wr:=af.of hb1;haveI:af b2 wr:=af.of hb2;have f2:=(hu.cell (p:=⟨bx,2,Yq⟩) cZ).trans d2;haveI:af bx wr:=af.of (cx _ _ f2);have VF:=aa hif;have VK:=aa hns;have VG:=aa Rg;clear hc1 hc2 hu hif hns Rg be
    by_cases hpe:z=id
    ·have v1:(z==id)=true:=by simpa using hpe
     have pi:=Ca.out;rw[VF.out hpe]at pi;have VU:=aa pi;rw[hpe]at e1;have v2:(id==id)=true:=beq_self_eq_true _;clear hpe pi v1;go_wp2_with fail
     first|refine aP (by kernel_rfl) (by kernel_rfl) ?_|refine aS (by kernel_rfl) (by kernel_rfl) ?_
     repeat (go_big_quiet_step (first|(fail)))
     refine wpQuiet_nil ?_;rintro _ ⟨X,rfl⟩;obtain⟨w5,hw5⟩:∃w5,w5=under wr X:=⟨_,rfl⟩;have bg:ac wr w5:=by rw[hw5];exact(ac.refl _).under X
     have dD:ac w3 w5:=Ty.out.trans bg;have m0:=(dD.cell (p:=⟨bx,0,none⟩) cZ).trans d0;have m1:=(dD.cell (p:=⟨bx,1,none⟩) cZ).trans d1;have m2:=(dD.cell (p:=⟨bx,2,none⟩) cZ).trans d2;have n2:=(bg.cell (p:=⟨b2,o2+p,none⟩) hb2).trans e2;rw[<-hw5];haveI:af b2 w5:=af.of (cx _ _ n2);haveI:af bx w5:=af.of (cx _ _ m0);have eW:=aa (aF dD j1.out);have dh:=aa (a7.out.trans dD);have yK:=dh.out.size;clear hw5 bg dD e1 e2 f2 d0 d1 d2;go_wp2_with fail;go_region_law (refine cF rfl (.tmp 46) (.tmp 56) 37 rfl w.1.size 36 i0 (.agg #[.int .i64 0,.string ⟨#[]⟩,.int .i64 0]) 3 32 Tryz.underlying37 hi hz0 hz1 hz2 rfl (by decide) (.slice AO k cO) k _ rfl (dV (eW.out.alloc (.cells #[.int .i64 kd,.string ⟨tx.toArray⟩,.int .i64 ((p:Int)+1)] 36)) (ac.refl _).drew) ⟨w5.1.size,0,none⟩ 1 1 [.int .i64 kd,.string ⟨tx.toArray⟩,.int .i64 ((p:Int)+1)] rfl rfl (dW w5 _ _ _ 36 _ rfl) (cL kd ((p:Int)+1) _) (by unfold maxLen;omega) (by omega) (by simp<;>omega) ?_;intro v' w6 hown' hgrow _;have hgr:=aO (ac.gb (uZ:ac w5 (w5.alloc (.cells #[.int .i64 kd,.string ⟨tx.toArray⟩,.int .i64 ((p:Int)+1)] 36)).drew) (Value.slice AO k cO).ownBlock) hgrow (λg e=>Or.inl e))
     all_goals
      have hrel:Gr w l f n v' (Yh Yn ((k:Int)+1)) w6:=⟨k+1,by omega,congrArg (Yh Yn) (by omega),by rw[VU.out];exact hown',dh.out.grown hgr (λg hg=>aB eW.out g hg)⟩;have br:=aa hrel;clear hrel hown' hgrow hgr;go_wp2
      first|exact⟨br.out,by simp[intOf];omega⟩|(refine⟨?_,by simp[intOf];omega⟩;(repeat apply Exists.intro);exact⟨br.out,rfl⟩)
    have v1:(z==id)=false:=by simpa using hpe
    have hnx:∀X,NF l id w3 (Yh Yn ((p:Int)+1)) (under wr X):=λX=>⟨p+1,congrArg (Yh Yn) (by omega),VG.out hpe,VK.out hpe,Ty.out.under X⟩
    clear hpe;clear d0 d1 d2;go_wp2_with fail
    first|refine aP (by kernel_rfl) (by kernel_rfl) ?_|refine aS (by kernel_rfl) (by kernel_rfl) ?_
    repeat (go_big_quiet_step (first|(fail)))
    refine wpQuiet_nil ?_;rintro _ ⟨X,rfl⟩;go_wp2;exact⟨⟨rfl,hnx X⟩,by simp[intOf];omega⟩
  have hkn:k=n:=by omega
  subst hkn;have hft:(f.map (St.dN l)).take k=f.map (St.dN l):=List.take_of_length_le (by rw[List.length_map];omega);rw[hft]at hown;have Ri:(f.map (St.dN l)).length=k:=by rw[List.length_map];exact hN
  have hno:=sQ AO k cO (f.map (St.dN l)) wr Ri (aW hown Ri) hl (by rw[PB];exact ht);have iz:=aa hno;clear hlt hown hno hft Ri;go_wp2_with fail;refine iz.out.mono ?_;rintro e w5 ⟨v,rfl,ho,bg⟩;have HE:=aa (And.intro (cH ho (by omega)) (HU.out.trans bg));clear ho bg;go_wp2;go_ret;exact⟨v,rfl,HE.out.1,HE.out.2⟩
theorem Bu(A:Option Addr)(n c:Nat)(f:List St.It)(w:Ys)(hn:f.length=n)(h:aH w A f)(hl:n<=100000)(ht:aV f<=4611686018427387904) :
  Calls Tryz.prog 32 #[Yj A n c] w λe w'=>∃v,e=.returned v/\w'.ownsRow w.1.size 36 3 v (St.k7 f).length (ak (St.k7 f))/\ac w w':=by
 have h1:=MH A n c f w hn h hl;have hT:=St.O2 f;have hrl:St.bl (f.map (St.dN (St.iX f)))=St.k7 f:=rfl;obtain⟨l,hlm⟩:∃l,l=St.iX f:=⟨_,rfl⟩;rw[<-hlm]at h1 hT hrl;obtain⟨q,Fv⟩:∃q,q=l.length:=⟨_,rfl⟩;rw[<-Fv]at h1;have HT:=aa hT;have EZ:=aa hrl;have Nr:=aa Fv;clear hT hrl Fv hlm;have H1:=aa h1;have H:=aa h;clear h1 h;go_enter Tryz.func32,Tryz.ntmps32;go_wp2_with fail;refine H1.out.mono ?_;rintro e w2 ⟨v2,rfl,hqn,fw,hu2⟩;obtain⟨A2,c2,rfl,_,_,_⟩:=aR fw;have aX:=aa hu2;have wE:=aa (vE fw Nr.out.symm);have Qg:=aa (λW=>KA q W (by omega));clear hu2 fw;go_wp2_with fail;refine(Qg.out _).mono ?_;rintro e w3 ⟨v3,rfl,cR,hu3⟩;obtain⟨A3,c3,rfl,_,_,_⟩:=aR cR;have hr:=MJ A A2 A3 n c q c2 c3 f w3 hn (H.out.ai (aX.out.trans hu3)) l Nr.out.symm (wE.out.ai hu3) (vE cR (St.nu q)) HT.out hl (by omega) ht;rw[EZ.out]at hr;have HR:=aa hr;have a7:=aa (aX.out.trans hu3);clear hr cR hu3;go_wp2_with fail;refine HR.out.mono ?_;rintro e w4 ⟨v,rfl,ho,bf⟩;have HE:=aa (And.intro (cH ho (by have:=a7.out.size;omega)) (a7.out.trans bf));clear ho bf;go_wp2;go_ret;exact⟨v,rfl,HE.out.1,HE.out.2⟩
