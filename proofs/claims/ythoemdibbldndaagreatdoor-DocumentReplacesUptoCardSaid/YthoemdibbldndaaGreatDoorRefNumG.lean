/- The contracts of the reference's Has, Numbers, upTo, Rename and Renumber at any items. -/
import Derived.Test.YthoemdibbldndaaGreatDoorGB
import Derived.Test.YthoemdibbldndaaGreatDoorGF
set_option linter.all false
set_option maxHeartbeats 0
set_option maxRecDepth 20000
open Go.Value renaming int->VD,string->VE,slice->VF
open Go.IntKind renaming i64->VJ
open Option renaming none->VM,some->VN
open Go renaming World->VO
namespace Go.Proofs.YthoemdibbldndaaGreatDoor
open Go.RowKit
def jy(l:List Int):List Value:=l.map (VD VJ)
theorem tI(l:List Int)(i:Int):jy (l++[i])=jy l++[VD VJ i]:=by simp[jy]
theorem uC{w:VO}{B n c:Nat}{A:Option Addr}{zs:List Int}(h:w.ownsRow B 3 1 (VF A n c) n (jy zs))(hn:zs.length=n):fh w A zs:=by
 intro h0;obtain⟨g,rfl,_,hg,hc⟩:=dY h (by omega);refine⟨g,0,rfl,hg,λi hi=>?_⟩;rw[Nat.zero_add];exact hc i _ (by unfold jy;rw[List.getElem?_map,List.getElem?_eq_getElem hi];simp[List.getD_eq_getElem?_getD,hi])
def Pv(w:VO)(l:List Int)(i:Int)(s5:Value)(wr:VO):Prop:=∃k:Nat,k<=l.length/\s5=VD VJ k/\i ∉ l.take k/\w=wr
theorem AH{l:List Int}{k:Nat}{i:Int}(h:i ∉ l.take k)(hk:k<l.length)(hne:l.getD k 0≠i):i ∉ l.take (k+1):=by
 rw[List.take_add_one,List.getElem?_eq_getElem hk,List.mem_append];rintro (e|e)
 ·exact h e
 simp only[Option.toList_some,List.mem_singleton]at e;rw[List.getD_eq_getElem?_getD,List.getElem?_eq_getElem hk]at hne;exact hne e.symm
theorem NR{l:List Int}{k:Nat}{i:Int}(hk:k<l.length)(he:l.getD k 0=i):i∈l:=by
 rw[List.getD_eq_getElem?_getD,List.getElem?_eq_getElem hk]at he;simp only[Option.getD_some]at he;rw[<-he];exact List.getElem_mem hk
theorem JS(A:Option Addr)(n c:Nat)(l:List Int)(i:Int)(w:VO)(hn:l.length=n)(h:fh w A l)(hl:n<=1000000000000) :
  Calls Tryz.prog 111 #[VF A n c,VD VJ i] w λe w'=>e=.returned (.bool (decide (i∈l)))/\w=w':=by
 have H:=aa h;have HN:=aa hn;clear h hn;go_enter Tryz.func111,Tryz.ntmps111;go_wp2;go_loopw [8] (λs8 wr=>Pv w l i s8 wr) (λs8 _=>n+1-(intOf s8).toNat)
 case atStart=>exact⟨0,by omega,rfl,by simp,rfl⟩
 case round=>
  obtain⟨k,hk,rfl,hni,rfl⟩:=hrel;have MR:=aa hni;have hN:=HN.out;clear hni
  by_cases hlt:k<n
  ·have aG:k<l.length:=by omega
   obtain⟨b,off,rfl,hb,hc⟩:=H.out (by omega);have c0:=hc k aG;have kj:=λ(h:l.getD k 0≠i)=>AH MR.out aG h
   have hat:=λ(h:l.getD k 0=i)=>NR aG h
   generalize l.getD k 0=z at c0 kj hat;haveI:af b w:=af.of hb;have zP:=aa kj;have FA:=aa hat;clear hc aG kj hat
   by_cases hz:z=i
   ·have hm:=aa (FA.out hz);subst hz;have v1:(z==z)=true:=beq_self_eq_true _;go_wp2;go_ret;exact⟨ay (decide_eq_true hm.out).symm,rfl⟩
   have v1:(z==i)=false:=by simpa using hz
   have v2:(z != i)=true:=by simpa using hz
   have hm:=aa (zP.out hz);clear hz;go_wp2;exact⟨⟨k+1,by omega,congrArg (VD VJ) (by omega),hm.out,rfl⟩,by simp[intOf];omega⟩
  have hkn:k=n:=by omega
  subst hkn;have hft:l.take k=l:=List.take_of_length_le (by omega);have hm:=aa (show i ∉ l by have:=MR.out;rw[hft]at this;exact this);clear hlt hft MR;go_wp2;go_ret;exact⟨ay (decide_eq_false hm.out).symm,rfl⟩
theorem JH(f:List St.It)(k:Nat)(h:k<f.length):(f.take (k+1)).foldl St.dT []=St.dT ((f.take k).foldl St.dT []) f[k]:=by
 rw[List.take_add_one,List.getElem?_eq_getElem h,List.foldl_append];rfl
def DQ(w:VO)(f:List St.It)(n:Nat)(s3 s7:Value)(wr:VO):Prop:=
 ∃(k:Nat) (l:List Int),k<=n/\s7=VD VJ k/\l=(f.take k).foldl St.dT []/\l.length<=k/\wr.ownsRow w.1.size 3 1 s3 l.length (jy l)/\ac w wr
theorem JT(A:Option Addr)(n c:Nat)(f:List St.It)(w:VO)(hn:f.length=n)(h:aE w A f)(hl:n<=100000) :
  Calls Tryz.prog 68 #[VF A n c] w λe w'=>∃v,e=.returned v/\(St.jK f).length<=n/\w'.ownsRow w.1.size 3 1 v (St.jK f).length (jy (St.jK f))/\ac w w':=by
 have H:=aa h;have HN:=aa hn;obtain⟨ii,ki,kz0,kz1,kz2⟩:=info_parts fJ;clear h hn;go_enter Tryz.func68,Tryz.ntmps68;go_wp2;go_loopw [3,7] (λs3 s7 wr=>DQ w f n s3 s7 wr) (λ_ s7 _=>n+1-(intOf s7).toNat)
 case atStart=>exact⟨0,[],by omega,rfl,rfl,by simp,World.ownsRow_nil _ _ _ _,ac.refl _⟩
 case round=>
  obtain⟨k,l,hk,rfl,hle,hll,hown,hu⟩:=hrel;have HU:=aa hu;have hsz:=hu.size;have HOW:=aa hown;have va:=aa hle;have hN:=HN.out;obtain⟨AO,cO,rfl,_⟩:=aC hown;clear hu hle hown
  by_cases hlt:k<n
  ·have aG:k<f.length:=by omega
   obtain⟨b,off,rfl,hb,hc⟩:=(H.out.ah HU.out) (by omega);obtain⟨c0,c1,c2⟩:=hc k aG;have hnt:=JH f k aG;rw[<-va.out]at hnt;generalize f[k]=x at c0 c1 c2 hnt;obtain⟨kd,tx,id⟩:=x;simp only at c0 c1 c2;have hit:=λt i W=>kP kd t i W
   have kX:=aa hnt;haveI:af b wr:=af.of hb;clear hc aG hnt
   have hno:St.dT l (kd,tx,id)=l->∀W,ac wr W->DQ w f n (VF AO l.length cO) (VD VJ ((k:Int)+1)) W:=λe W hW=>
    ⟨k+1,l,by omega,congrArg (VD VJ) (by omega),by rw[kX.out,e],by omega,aA hW HOW.out,HU.out.trans hW⟩
   have iu:=aa hno;clear hno;cases cw:St.bI kd
   ·rw[cw]at hit;have HIT:=aa hit;have he:=aa (show St.dT l (kd,tx,id)=l by unfold St.dT;rw[if_neg (by simp[cw])]);clear hit cw;go_wp2_with fail;refine(HIT.out _ _ _).mono ?_;rintro e w3 ⟨rfl,hu3⟩;have ba:=aa (ac.trans (uZ) hu3:ac wr w3);clear hu3 c0 c1 c2;go_wp2;exact⟨iu.out he.out _ ba.out,by simp[intOf];omega⟩
   rw[cw]at hit;have HIT:=aa hit;clear hit;go_wp2_with fail;refine(HIT.out _ _ _).mono ?_;rintro e w3 ⟨rfl,hu3⟩;have bO:ac wr w3:=ac.trans (uZ) hu3;have d2:=(bO.cell hb).trans c2;haveI:af b w3:=af.of (Nat.lt_of_lt_of_le hb bO.size);have C6:=JS AO l.length cO l id w3 rfl (uC (aA bO HOW.out) rfl) (by omega);have ba:=aa bO;have jw:=aa (aA bO HOW.out);clear hu3 bO c0 c1 c2
   by_cases hm:id∈l
   ·rw[decide_eq_true hm]at C6;have MH:=aa C6;have he:=aa (show St.dT l (kd,tx,id)=l by unfold St.dT;rw[if_neg (by rintro ⟨_,h⟩;exact h hm)]);clear C6 hm cw;go_wp2_with fail;refine MH.out.mono ?_;rintro e w4 ⟨rfl,rfl⟩;go_wp2;exact⟨iu.out he.out _ ba.out,by simp[intOf];omega⟩
   rw[decide_eq_false hm]at C6;have MH:=aa C6;have he:=aa (show St.dT l (kd,tx,id)=l++[id]by unfold St.dT;rw[if_pos ⟨cw,hm⟩]);clear C6 hm cw iu;go_wp2_with fail;refine MH.out.mono ?_;rintro e w4 ⟨rfl,rfl⟩;go_wp2_with (at_builtin;refine wpList_append_own _ rfl _ _ 42 rfl w.1.size 3 ii (.int .i64 0) 1 8 Tryz.underlying42 ki kz0 kz1 kz2 rfl (by decide) (.slice AO l.length cO) l.length (jy l) rfl (jw.out.alloc _) _ 1 1 [.int .i64 id] rfl rfl ?_ (by simp;rfl) (by unfold maxLen;omega) (by omega) ?_ ?_)
   ·exact fF _ _ _
   ·have:=ba.out.size;simp;omega
   intro v' w5 dy eh _;rw[<-tI]at dy;have a8:ac w w5:=((HU.out.trans ba.out).alloc _).grown eh (λg hg=>ax jw.out g hg);have HE:=aa (show DQ w f n v' (VD VJ ((k:Int)+1)) w5 from⟨k+1,l++[id],by omega,congrArg (VD VJ) (by omega),by rw[kX.out,he.out],by simp;omega,by rw[List.length_append,List.length_singleton];exact dy,a8⟩);clear dy eh a8;go_wp2;exact⟨HE.out,by simp[intOf];omega⟩
  have hkn:k=n:=by omega
  subst hkn;have hft:f.take k=f:=List.take_of_length_le (by omega);have hl2:l=St.jK f:=by rw[va.out,hft];rfl
  subst hl2;clear hlt hft va;go_wp2;go_ret;exact⟨_,rfl,hll,HOW.out,HU.out⟩
def KP(w:VO)(n:Nat)(s2 s3:Value)(wr:VO):Prop:=
 ∃k:Nat,k<=n/\s3=VD VJ ((k:Int)+1)/\wr.ownsRow w.1.size 3 1 s2 k (jy (St.nf k))/\ac w wr
theorem Hu(n:Nat)(w:VO)(hn:n<=100000) :
  Calls Tryz.prog 70 #[VD VJ (n:Int)] w λe w'=>∃v,e=.returned v/\w'.ownsRow w.1.size 3 1 v n (jy (St.nf n))/\ac w w':=by
 obtain⟨ii,ki,kz0,kz1,kz2⟩:=info_parts fJ;go_enter Tryz.func70,Tryz.ntmps70;go_wp2;go_loopw [3,4] (λs3 s4 wr=>KP w n s3 s4 wr) (λ_ s4 _=>n+2-(intOf s4).toNat)
 case atStart=>exact⟨0,by omega,rfl,World.ownsRow_nil _ _ _ _,ac.refl _⟩
 case round=>
  obtain⟨k,hk,rfl,hown,hu⟩:=hrel;have HU:=aa hu;have HOW:=aa hown;have hsz:=hu.size;obtain⟨AO,cO,rfl,_⟩:=aC hown;clear hu hown
  by_cases hlt:k<n
  ·have y1:(k:Int)+1<=(n:Int):=by omega
   go_wp2_with (at_builtin;refine wpList_append_own _ rfl _ _ 42 rfl w.1.size 3 ii (.int .i64 0) 1 8 Tryz.underlying42 ki kz0 kz1 kz2 rfl (by decide) (.slice AO k cO) k (jy (St.nf k)) rfl (HOW.out.alloc _) _ 1 1 [.int .i64 ((k:Int)+1)] rfl rfl ?_ (by simp;rfl) (by unfold maxLen;omega) (by omega) ?_ ?_)
   ·exact fF _ _ _
   ·simp;omega
   intro v' w5 dy eh _;rw[<-tI,<-St.Mh]at dy;have a8:ac w w5:=(HU.out.alloc _).grown eh (λg hg=>ax HOW.out g hg);have HE:=aa (show KP w n v' (VD VJ ((k:Int)+1+1)) w5 from⟨k+1,by omega,congrArg (VD VJ) (by omega),dy,a8⟩);clear dy eh a8;go_wp2;exact⟨HE.out,by simp[intOf];omega⟩
  have hkn:k=n:=by omega
  subst hkn;have y1:¬(k:Int)+1<=(k:Int):=by omega
  go_wp2;go_ret;exact⟨_,rfl,HOW.out,HU.out⟩
namespace St
theorem IH(l:List Int)(x:It):(∀i∈l,i∈dT l x)/\(bI x.1=true->x.2.2∈dT l x):=by
 unfold dT
 split
 ·exact⟨λi hi=>List.mem_append_left _ hi,λ_=>by simp⟩
 rename_i h
 exact⟨λi hi=>hi,λht=>Decidable.byContradiction λe=>h ⟨ht,e⟩⟩
theorem Bx:∀(f:List It) (l:List Int),(∀i∈l,i∈f.foldl dT l)/\∀x∈f,bI x.1=true->x.2.2∈f.foldl dT l
 | [],l=>⟨λi hi=>hi,λx hx=>by cases hx⟩
 | y :: f,l=>by
  obtain⟨h1,h2⟩:=Bx f (dT l y);obtain⟨g1,g2⟩:=IH l y;refine⟨λi hi=>h1 i (g1 i hi),λx hx ht=>?_⟩;rcases List.mem_cons.1 hx with rfl|hx
  ·exact h1 _ (g2 ht)
  exact h2 x hx ht
theorem LR(f:List It):∀x∈f,bI x.1=true->x.2.2∈jK f:=(Bx f []).2
end St
theorem JU(g:St.It->St.It)(f:List St.It)(k:Nat)(h:k<f.length):av ((f.map g).take (k+1))=av ((f.map g).take k)++[VD VJ (g f[k]).1,VE ⟨(g f[k]).2.1.toArray⟩,VD VJ (g f[k]).2.2]:=by
 rw[List.take_add_one,List.getElem?_map,List.getElem?_eq_getElem h];exact bw _ _
def DS(w:VO)(l:List Int)(f:List St.It)(n:Nat)(s7 lD:Value)(wr:VO):Prop:=∃k:Nat,k<=n/\lD=VD VJ k/\wr.ownsRow w.1.size 36 3 s7 k (av ((f.map (St.ea l)).take k))/\ac w wr
def KO(l:List Int)(id:Int)(wr:VO)(cW:Value)(wz:VO):Prop:=∃p:Nat,cW=VD VJ p/\p<l.length/\id ∉ l.take p/\ac wr wz
theorem Lh{l:List Int}{id:Int}{p:Nat}(hm:id∈l)(h:id ∉ l.take p):p<l.length:=by
 refine Nat.lt_of_not_le λe=>h ?_
 rw[List.take_of_length_le e];exact hm
theorem GW{l:List Int}{id:Int}{p:Nat}(h:id ∉ l.take p)(hp:p<l.length)(he:l.getD p 0=id):l.idxOf id=p:=by
 have e:l=l.take p++l.drop p:=(List.take_append_drop p l).symm;rw[e,List.idxOf_append,if_neg h,List.drop_eq_getElem_cons hp];rw[List.getD_eq_getElem?_getD,List.getElem?_eq_getElem hp,Option.getD_some]at he;rw[he,List.idxOf_cons_self,List.length_take];omega
theorem Mg(l:List Int)(f:List St.It):aP (f.map (St.ea l))=aP f:=by
 unfold aP;rw[List.map_map];congr 1;refine List.map_congr_left λx _=>?_
 simp only[Function.comp,St.ea]
 split<;>rfl
theorem OZ{q p:Nat}(h:p<q):(St.nf q).getD p 0=(p:Int)+1:=by
 unfold St.nf;rw[List.getD_eq_getElem?_getD,List.getElem?_map,List.getElem?_range h];rfl
theorem JV(A B C:Option Addr)(n c q d e0:Nat)(f:List St.It)(w:VO)(hn:f.length=n)(h:aE w A f)(l:List Int)(C9:l.length=q)(hB:fh w B l)(hC:fh w C (St.nf q))(hT:∀x∈f,St.bI x.1=true->x.2.2∈l)(hl:n<=100000)(hq:q<=100000)(ht:aP f<=4611686018427387904) :
  Calls Tryz.prog 69 #[VF A n c,VF B q d,VF C q e0] w λe w'=>∃v,e=.returned v/\w'.ownsRow w.1.size 36 3 v (St.bu (f.map (St.ea l))).length (av (St.bu (f.map (St.ea l))))/\ac w w':=by
 have H:=aa h;have HN:=aa hn;have HT:=aa hT;have HB:=aa hB;have HC:=aa hC;have Kx:=aa C9;obtain⟨i0,hi,hz0,hz1,hz2⟩:=info_parts dA;clear h hn hT C9 hB hC;go_enter Tryz.func69,Tryz.ntmps69;go_wp2;go_loopw [7,13] (λs7 lD wr=>DS w l f n s7 lD wr) (λ_ lD _=>n+1-(intOf lD).toNat)
 case atStart=>exact⟨0,by omega,rfl,World.ownsRow_nil _ _ _ _,ac.refl _⟩
 case round=>
  obtain⟨k,hk,rfl,hown,hu⟩:=hrel;have HU:=aa hu;have hsz:=hu.size;have HOW:=aa hown;have hN:=HN.out;obtain⟨AO,cO,rfl,_⟩:=aC hown;clear hu
  by_cases hlt:k<n
  ·clear hown;have aG:k<f.length:=by omega
   obtain⟨b,off,rfl,hb,hc⟩:=(H.out.ah HU.out) (by omega);obtain⟨c0,c1,c2⟩:=hc k aG;have cw:=HT.out f[k] (List.getElem_mem aG);have kj:=JU (St.ea l) f k aG;generalize f[k]=x at c0 c1 c2 cw kj;obtain⟨kd,tx,id⟩:=x;simp only at c0 c1 c2 cw kj;have hit:=λt i W=>kP kd t i W
   haveI:af b wr:=af.of hb;clear hc aG;cases cI:St.bI kd
   ·rw[cI]at hit;have HIT:=aa hit;have GN:St.ea l (kd,tx,id)=(kd,tx,id):=by unfold St.ea;rw[if_neg (by simp[cI])]
    rw[GN]at kj;have zP:=aa kj;clear hit cw cI GN kj;go_wp2_with fail;refine(HIT.out _ _ _).mono ?_;rintro e w3 ⟨rfl,hu3⟩;have bO:ac wr w3:=ac.trans (uZ) hu3;have d0:w3.cell? ⟨wr.1.size,0,none⟩=some (.int .i64 kd):=(hu3.cell (p:=⟨wr.1.size,0,none⟩) (by simp)).trans (by simp);have d1:w3.cell? ⟨wr.1.size,1,none⟩=some (.string ⟨tx.toArray⟩):=(hu3.cell (p:=⟨wr.1.size,1,none⟩) (by simp)).trans (by simp);have d2:w3.cell? ⟨wr.1.size,2,none⟩=some (.int .i64 id):=(hu3.cell (p:=⟨wr.1.size,2,none⟩) (by simp)).trans (by simp);haveI:af wr.1.size w3:=af.of (cd _ _ d0);have ba:=aa (HU.out.trans bO);have jw:=aa (aA bO HOW.out);clear hu3 bO c0 c1 c2;go_wp2_with (at_builtin;refine wpList_append_own _ rfl _ _ 37 rfl w.1.size 36 i0 (.agg #[.int .i64 0,.string ⟨#[]⟩,.int .i64 0]) 3 32 Tryz.underlying37 hi hz0 hz1 hz2 rfl (by decide) (.slice AO k cO) k _ rfl (jw.out.alloc _) _ 1 1 [.int .i64 kd,.string ⟨tx.toArray⟩,.int .i64 id] rfl rfl ?_ (cG _ _ _) (by unfold maxLen;omega) (by omega) ?_ ?_)
    ·exact ee _ _ _ _ _ _ rfl
    ·have:=ba.out.size;have h2:=(ac.refl w3).alloc (.cells #[VD VJ kd,VE ⟨tx.toArray⟩,VD VJ id] 36) |>.size;omega
    intro v' w4 hown' hgrow _;have hrel:DS w l f n v' (VD VJ ((k+1:Nat):Int)) w4:=⟨k+1,by omega,rfl,by rw[zP.out];exact hown',(ba.out.alloc _).grown hgrow (λg hg=>ax jw.out g hg)⟩;have bn:=aa hrel;clear hown' hgrow hrel;go_wp2;exact⟨by simpa using bn.out,by simp[intOf];omega⟩
   rw[cI]at hit;have MQ:=aa (cw cI);have HIT:=aa hit;have GN:St.ea l (kd,tx,id)=(kd,tx,(l.idxOf id:Int)+1):=by unfold St.ea;rw[if_pos (by simp[cI])]
   rw[GN]at kj;have zP:=aa kj;clear hit cw cI GN kj;go_wp2_with fail;refine(HIT.out _ _ _).mono ?_;rintro e w3 ⟨rfl,hu3⟩;have bO:ac wr w3:=ac.trans (uZ) hu3;have d0:w3.cell? ⟨wr.1.size,0,VM⟩=VN (VD VJ kd):=(hu3.cell (p:=⟨wr.1.size,0,VM⟩) (by simp)).trans (by simp);have d1:w3.cell? ⟨wr.1.size,1,VM⟩=VN (VE ⟨tx.toArray⟩):=(hu3.cell (p:=⟨wr.1.size,1,VM⟩) (by simp)).trans (by simp);have d2:w3.cell? ⟨wr.1.size,2,VM⟩=VN (VD VJ id):=(hu3.cell (p:=⟨wr.1.size,2,VM⟩) (by simp)).trans (by simp);have cV:=cd _ _ d0;haveI:af wr.1.size w3:=af.of cV;have ba:=aa (HU.out.trans bO);have jw:=aa (aA bO HOW.out);clear hu3 bO c0 c1 c2;generalize wr.1.size=bx at *;go_wp2_with fail;go_loopw [7,10] (λs7 cW wr=>s7=VF AO k cO/\KO l id w3 cW wr) (λ_ cW _=>q+1-(intOf cW).toNat)
   case atStart=>exact⟨rfl,0,rfl,Lh MQ.out (by simp),by simp,ac.refl _⟩
   case round=>
    obtain⟨rfl,p,rfl,hp,aZ,hu⟩:=hrel;have Qy:=aa hu;have MS:=aa aZ;have kM:p<q:=by have:=Kx.out;omega
    have y1:(p:Int)<(q:Int):=by omega
    obtain⟨b1,o1,rfl,hb1,hc1⟩:=(HB.out.ah (ba.out.trans hu)) (by omega);obtain⟨b2,o2,rfl,hb2,hc2⟩:=(HC.out.ah (ba.out.trans hu)) (by rw[St.nC];omega);have e1:=hc1 p hp;have e2:=hc2 p (by rw[St.nC];exact kM);rw[OZ kM]at e2;have hif:=λe=>GW MS.out hp e
    have hns:=λe=>AH MS.out hp e
    have Og:=λe=>Lh MQ.out (hns e)
    generalize l.getD p 0=z at e1 hif hns Og;haveI:af b1 wr:=af.of hb1;haveI:af b2 wr:=af.of hb2;have f2:=(hu.cell (p:=⟨bx,2,VM⟩) cV).trans d2;haveI:af bx wr:=af.of (cd _ _ f2);have SN:=aa hif;have SW:=aa hns;have SP:=aa Og;clear hc1 hc2 hu hif hns Og aZ
    by_cases hpe:z=id
    ·have v1:(z==id)=true:=by simpa using hpe
     have oh:=zP.out;rw[SN.out hpe]at oh;have Tc:=aa oh;rw[hpe]at e1;have v2:(id==id)=true:=beq_self_eq_true _;clear hpe oh v1;go_wp2_with fail
     first|refine aB (by kernel_rfl) (by kernel_rfl) ?_|refine aI (by kernel_rfl) (by kernel_rfl) ?_
     repeat (go_big_quiet_step (first|(fail)))
     refine wpQuiet_nil ?_;rintro _ ⟨X,rfl⟩;obtain⟨w5,hw5⟩:∃w5,w5=under wr X:=⟨_,rfl⟩;have a8:ac wr w5:=by rw[hw5];exact(ac.refl _).under X
     have dz:ac w3 w5:=Qy.out.trans a8;have m0:=(dz.cell (p:=⟨bx,0,none⟩) cV).trans d0;have m1:=(dz.cell (p:=⟨bx,1,none⟩) cV).trans d1;have m2:=(dz.cell (p:=⟨bx,2,none⟩) cV).trans d2;have n2:=(a8.cell (p:=⟨b2,o2+p,none⟩) hb2).trans e2;rw[<-hw5];haveI:af b2 w5:=af.of (cd _ _ n2);haveI:af bx w5:=af.of (cd _ _ m0);have eI:=aa (aA dz jw.out);have cL:=aa (ba.out.trans dz);have wS:=cL.out.size;clear hw5 a8 dz e1 e2 f2 d0 d1 d2;go_wp2_with fail;go_region_law (refine bW rfl (.tmp 46) (.tmp 56) 37 rfl w.1.size 36 i0 (.agg #[.int .i64 0,.string ⟨#[]⟩,.int .i64 0]) 3 32 Tryz.underlying37 hi hz0 hz1 hz2 rfl (by decide) (.slice AO k cO) k _ rfl (dZ (eI.out.alloc (.cells #[.int .i64 kd,.string ⟨tx.toArray⟩,.int .i64 ((p:Int)+1)] 36)) (ac.refl _).drew) ⟨w5.1.size,0,none⟩ 1 1 [.int .i64 kd,.string ⟨tx.toArray⟩,.int .i64 ((p:Int)+1)] rfl rfl (ee w5 _ _ _ 36 _ rfl) (cG kd ((p:Int)+1) _) (by unfold maxLen;omega) (by omega) (by simp<;>omega) ?_;intro v' w6 hown' hgrow _;have hgr:=aK (ac.gb (uZ:ac w5 (w5.alloc (.cells #[.int .i64 kd,.string ⟨tx.toArray⟩,.int .i64 ((p:Int)+1)] 36)).drew) (Value.slice AO k cO).ownBlock) hgrow (λg e=>Or.inl e))
     all_goals
      have hrel:DS w l f n v' (VD VJ ((k:Int)+1)) w6:=⟨k+1,by omega,congrArg (VD VJ) (by omega),by rw[Tc.out];exact hown',cL.out.grown hgr (λg hg=>ax eI.out g hg)⟩;have bn:=aa hrel;clear hrel hown' hgrow hgr;go_wp2
      first|exact⟨bn.out,by simp[intOf];omega⟩|(refine⟨?_,by simp[intOf];omega⟩;(repeat apply Exists.intro);exact⟨bn.out,rfl⟩)
    have v1:(z==id)=false:=by simpa using hpe
    have hnx:∀X,KO l id w3 (VD VJ ((p:Int)+1)) (under wr X):=λX=>⟨p+1,congrArg (VD VJ) (by omega),SP.out hpe,SW.out hpe,Qy.out.under X⟩
    clear hpe;clear d0 d1 d2;go_wp2_with fail
    first|refine aB (by kernel_rfl) (by kernel_rfl) ?_|refine aI (by kernel_rfl) (by kernel_rfl) ?_
    repeat (go_big_quiet_step (first|(fail)))
    refine wpQuiet_nil ?_;rintro _ ⟨X,rfl⟩;go_wp2;exact⟨⟨rfl,hnx X⟩,by simp[intOf];omega⟩
  have hkn:k=n:=by omega
  subst hkn;have hft:(f.map (St.ea l)).take k=f.map (St.ea l):=List.take_of_length_le (by rw[List.length_map];omega);rw[hft]at hown;have Oi:(f.map (St.ea l)).length=k:=by rw[List.length_map];exact hN
  have hno:=rB AO k cO (f.map (St.ea l)) wr Oi (aM hown Oi) hl (by rw[Mg];exact ht);have iu:=aa hno;clear hlt hown hno hft Oi;go_wp2_with fail;refine iu.out.mono ?_;rintro e w5 ⟨v,rfl,ho,a8⟩;have HE:=aa (And.intro (cC ho (by omega)) (HU.out.trans a8));clear ho a8;go_wp2;go_ret;exact⟨v,rfl,HE.out.1,HE.out.2⟩
theorem yW(A:Option Addr)(n c:Nat)(f:List St.It)(w:VO)(hn:f.length=n)(h:aE w A f)(hl:n<=100000)(ht:aP f<=4611686018427387904) :
  Calls Tryz.prog 32 #[VF A n c] w λe w'=>∃v,e=.returned v/\w'.ownsRow w.1.size 36 3 v (St.lA f).length (av (St.lA f))/\ac w w':=by
 have h1:=JT A n c f w hn h hl;have hT:=St.LR f;have hrl:St.bu (f.map (St.ea (St.jK f)))=St.lA f:=rfl;obtain⟨l,hlm⟩:∃l,l=St.jK f:=⟨_,rfl⟩;rw[<-hlm]at h1 hT hrl;obtain⟨q,C9⟩:∃q,q=l.length:=⟨_,rfl⟩;rw[<-C9]at h1;have HT:=aa hT;have vb:=aa hrl;have Kx:=aa C9;clear hT hrl C9 hlm;have H1:=aa h1;have H:=aa h;clear h1 h;go_enter Tryz.func32,Tryz.ntmps32;go_wp2_with fail;refine H1.out.mono ?_;rintro e w2 ⟨v2,rfl,hqn,fk,hu2⟩;obtain⟨A2,c2,rfl,_,_,_⟩:=aJ fk;have aW:=aa hu2;have u6:=aa (uC fk Kx.out.symm);have Ng:=aa (λW=>Hu q W (by omega));clear hu2 fk;go_wp2_with fail;refine(Ng.out _).mono ?_;rintro e w3 ⟨v3,rfl,bB,hu3⟩;obtain⟨A3,c3,rfl,_,_,_⟩:=aJ bB;have hr:=JV A A2 A3 n c q c2 c3 f w3 hn (H.out.ah (aW.out.trans hu3)) l Kx.out.symm (u6.out.ah hu3) (uC bB (St.nC q)) HT.out hl (by omega) ht;rw[vb.out]at hr;have HR:=aa hr;have ba:=aa (aW.out.trans hu3);clear hr bB hu3;go_wp2_with fail;refine HR.out.mono ?_;rintro e w4 ⟨v,rfl,ho,aU⟩;have HE:=aa (And.intro (cC ho (by have:=ba.out.size;omega)) (ba.out.trans aU));clear ho aU;go_wp2;go_ret;exact⟨v,rfl,HE.out.1,HE.out.2⟩
