/- The functions of format 1, markup, as the document's package calls them. -/
import Derived.Test.YthoemdibbldndaaGreatDoorDcC
import Derived.Test.YthoemdibbldndaaGreatDoorRdsA
import Derived.Test.YthoemdibbldndaaGreatDoorGO
set_option linter.all false
set_option maxHeartbeats 0
set_option maxRecDepth 20000
open Go.Value renaming int->VD,string->VE,slice->VF,tuple->VI
open Go.IntKind renaming i64->VJ
open Go.Ending renaming returned->VL
namespace Go.Proofs.YthoemdibbldndaaGreatDoor
open Go.RowKit
namespace St
theorem Dh:rE cE:=λl k t n h=>by
 obtain⟨_,h1,h2,h3⟩:=oq h;refine⟨h1,h2,h3,?_⟩;rintro rfl
 match l,h with
 | c :: r,h=>
  by_cases nZ:c.toNat=60
  ·rw[nA nZ]at h;unfold sv at h;cases hq:fP (c :: r)with
   | none=>rw[hq]at h;cases h
   | some x=>
    obtain⟨k',t',n'⟩:=x;rw[hq]at h;simp only at h
    split at h
    ·cases h
    simp only[Option.some.injEq,Prod.mk.injEq]at h;obtain⟨rfl,rfl,rfl⟩:=h;have:=(j3 hq).1
    omega
  by_cases vx:c.toNat=38
  ·rw[nz vx]at h;exact(xf h).2.2.2
  by_cases eE:c.toNat=123
  ·rw[l8 eE]at h;cases hq:cH (c :: r)with
   | none=>rw[hq]at h;cases h
   | some x=>rw[hq]at h;simp at h
  rw[kQ nZ vx eE]at h;simp only[Option.some.injEq,Prod.mk.injEq]at h;obtain⟨_,rfl,_⟩:=h;rfl
def D1(l:List UInt8):gM:=ks cE l 0 0 [] [] [] 0
def S1(l:List UInt8):List Pt × Nat × Int:=iY Mk.dE Lib.decDigits l
theorem Kh(x:ByteArray):Mk.lv x=D1 x.1.1:=Mk.Le x
theorem Pb(d:List UInt8)(h:(D1 d).2.2.2=0):uX d.length (D1 d):=by
 unfold D1 ks at h |-;exact td Dh d.length d 0 0 [] [] [] 0 (by constructor) (by simp) rfl (by simp) (by simp) (by omega) (by omega) (by simp[aP]) h
end St
theorem Gn(d:ByteArray)(w:World)(hL:Mk.ko w)(hd:d.size<=1000000000):Calls Tryz.prog 46 #[VD VJ 1,VE d] w (Mk.aH (St.S1 d.1.1) w):=by
 have H:=aa (Mk.EU d w hL (by omega));have hR:Mk.gY d=St.S1 d.1.1:=rfl;rw[hR]at H;generalize St.S1 d.1.1=R at *;obtain⟨ps,pl,er⟩:=R;clear hL hR;go_enter Tryz.func46,Tryz.ntmps46;go_wp2_with fail;refine H.out.mono ?_;rintro e w' ⟨A,c,rfl,hP,h1,h2,hu⟩;have HE:=aa (show Mk.aH (ps,pl,er) w (VL (VI #[VF A ps.length c,VD VJ (pl:Int),VD VJ er])) w' from⟨A,c,rfl,hP,h1,h2,hu⟩);clear hP h1 h2 hu;go_wp2;go_ret3;exact HE.out
theorem Ec(d:ByteArray)(w:World)(hd:d.size<=1000000000):Calls Tryz.prog 51 #[VD VJ 1,VE d] w (dp (St.D1 d.1.1) w):=by
 have H:=aa (Mk.pt d w (by omega));rw[St.Kh]at H;generalize St.D1 d.1.1=R at *;obtain⟨f,cu,pl,er⟩:=R;go_enter Tryz.func51,Tryz.ntmps51;go_wp2_with fail;refine H.out.mono ?_;rintro e w' ⟨A,c,rfl,hP,h1,h2,hu⟩;have HE:=aa (show dp (f,cu,pl,er) w (VL (VI #[VF A f.length c,VD VJ er])) w' from⟨A,c,rfl,hP,h1,h2,hu⟩);clear hP h1 h2 hu;go_wp2;go_ret2;exact HE.out
theorem IX(d:ByteArray)(w:World)(hd:d.size<=1000000000):Calls Tryz.prog 49 #[VD VJ 1,VE d] w (Mk.eR (St.D1 d.1.1) w):=by
 have H:=aa (Mk.He d w (by omega));rw[St.Kh]at H;generalize St.D1 d.1.1=R at *;obtain⟨f,cu,pl,er⟩:=R;go_enter Tryz.func49,Tryz.ntmps49;go_wp2_with fail;refine H.out.mono ?_;rintro e w' ⟨A,c,rfl,hP,h1,h2,hu⟩;have HE:=aa (show Mk.eR (f,cu,pl,er) w (VL (VI #[VF A cu.length c,VD VJ er])) w' from⟨A,c,rfl,hP,h1,h2,hu⟩);clear hP h1 h2 hu;go_wp2;go_ret2;exact HE.out
theorem Ed(A:Option Addr)(n c:Nat)(f:List St.It)(w:World)(hn:f.length=n)(hnc:n<=c)(cN:c<=9223372036854775807)(h:aE w A f)(hl:n<=1000000000)(ht:aP f<=1000000000000) :
  Calls Tryz.prog 50 #[VD VJ 1,VF A n c] w λe w'=>e=VL (VI #[VE ⟨(St.bj 1 f).1.toArray⟩,VD VJ (St.bj 1 f).2])/\ac w w':=by
 have H:=aa (Cq A n c f w hn hnc cN h hl ht);generalize St.bj 1 f=R at *;obtain⟨s,er⟩:=R;clear h hn ht;go_enter Tryz.func50,Tryz.ntmps50;go_wp2_with fail;refine H.out.mono ?_;rintro e w' ⟨rfl,hu⟩;have HU:=aa hu;clear hu;go_wp2;go_ret2;exact⟨rfl,HU.out⟩
theorem NE(w:World)(hL:Mk.ko w):lR w 1 St.D1 St.S1:=
 ⟨.inl rfl,λd w' hw hd=>Gn d w' (hL.ah hw) hd,λd w' _ hd=>Ec d w' hd,λd w' _ hd=>IX d w' hd,λA n c f w' _ hn hnc hc h hl ht=>Ed A n c f w' hn hnc hc h hl ht,St.Pb⟩
end Go.Proofs.YthoemdibbldndaaGreatDoor
namespace Go.Proofs.YthoemdibbldndaaGreatDoor.St
end Go.Proofs.YthoemdibbldndaaGreatDoor.St
namespace Go.Proofs.YthoemdibbldndaaGreatDoor
open Go.RowKit
section
namespace St
def Hm:List Pt:=[(false,[],[60,112,62]),(true,[49],[72,101,108,108,111,32,60,98,62,120,60,47,98,62]),(false,[],[60,47,112,62])]
def EZ:List Pt:=[(false,[],[60,112,62]),(true,[49],[83,97,108,117,116,32,60,98,62,120,60,47,98,62]),(false,[],[60,47,112,62])]
set_option maxRecDepth 100000 in
theorem Cj:S1 (⟨#[60,112,62,72,101,108,108,111,32,60,98,62,120,60,47,98,62,60,47,112,62]⟩:ByteArray).1.1=(Hm,0,0):=by kernel_rfl
set_option maxRecDepth 100000 in
theorem EN:eH D1 S1 (bj 1) 1 Hm 1 [(0,5)] [[(1,[83,97,108,117,116],0)]]=((1,EZ),0):=by kernel_rfl
set_option maxRecDepth 100000 in
theorem G8:(bj 1 [(1,[83,97,108,117,116],0)]).1.length<=1000000:=by decide
theorem Ci:(⟨(bp EZ).toArray⟩:ByteArray)=⟨#[60,112,62,83,97,108,117,116,32,60,98,62,120,60,47,98,62,60,47,112,62]⟩:=by rfl
end St
theorem E1{W:World}{g:Nat}{a b:Int}(h0:W.cell? ⟨g,0,none⟩=some (VD VJ a))(h1:W.cell? ⟨g,1,none⟩=some (VD VJ b)):dL W (some ⟨g,0,none⟩) [(a,b)]:=by
 intro _;refine⟨g,0,rfl,cd _ _ h0,λj hj=>?_⟩;obtain rfl:j=0:=by simp at hj;omega
 exact⟨h0,h1⟩
theorem Im{W:World}{g g2:Nat}{k i:Int}{s:ByteArray}(h0:W.cell? ⟨g,0,none⟩=some (VF (some ⟨g2,0,none⟩) 1 1))(h1:W.cell? ⟨g2,0,none⟩=some (VD VJ k))(h2:W.cell? ⟨g2,1,none⟩=some (VE s))(h3:W.cell? ⟨g2,2,none⟩=some (VD VJ i)):fS W (some ⟨g,0,none⟩) [[(k,s.1.1,i)]]:=by
 intro _;refine⟨g,0,rfl,cd _ _ h0,λj hj=>?_⟩;obtain rfl:j=0:=by simp at hj;omega
 refine⟨some ⟨g2,0,none⟩,1,h0,?_,by simp,by omega,λh=>by cases h⟩;intro _;refine⟨g2,0,rfl,cd _ _ h1,λj hj=>?_⟩;obtain rfl:j=0:=by simp at hj;omega
 refine⟨h1,?_,h3⟩;rw[h2];simp[aX]
end
section
theorem EM(A B C:Option Addr)(c:Nat)(W:World)(hL:Mk.ko W)(hP:aY W A St.Hm)(h1:3<=c)(h2:c<=9223372036854775807)(hB:dL W B [(0,5)])(hC:fS W C [[(1,[83,97,108,117,116],0)]]) :
  Calls Tryz.prog 16 #[.agg #[VD VJ 1,VF A 3 c],VD VJ 1,VF B 1 1,VF C 1 1] W λe w'=>∃A' c',e=VL (VI #[.agg #[VD VJ 1,VF A' 3 c'],VD VJ 0])/\aY w' A' St.EZ/\ac W w':=by
 have h:=r5 A B C 3 c 1 1 1 1 St.Hm 1 [(0,5)] [[(1,[83,97,108,117,116],0)]] W (NE W hL) rfl h1 h2 rfl rfl hP hB hC (by omega) (by decide) (by omega)
  (λt ht=>by rw[List.mem_singleton.1 ht];decide) (λt ht=>by rw[List.mem_singleton.1 ht];exact St.G8)
 rw[St.EN]at h;refine h.mono ?_;rintro e w' ⟨A',c',rfl,hP',_,_,hu⟩;exact⟨A',c',rfl,hP',hu⟩
theorem Ch(w:World)(hL:Mk.ko w):Calls Tryz.prog 18 #[] w λe w'=>e=VL (.bool true)/\ac w w':=by
 have h1:=D7 ⟨#[60,112,62,72,101,108,108,111,32,60,98,62,120,60,47,98,62,60,47,112,62]⟩ w (NE w hL) (by show 21<=_;omega);rw[St.Cj]at h1;have H1:=aa h1;have HL:=aa hL;clear h1 hL;go_enter Tryz.func18,Tryz.ntmps18;go_wp2_with fail;refine H1.out.mono ?_;rintro e w1 ⟨hu1,h⟩
 have h':∃A c,e=VL (VI #[.agg #[VD VJ 1,VF A 3 c],VD VJ 0,VD VJ 0])/\aY w1 A St.Hm/\3<=c/\c<=9223372036854775807:=by
  rcases h with⟨_,h⟩|⟨h,_⟩
  ·exact h
  exact absurd rfl h
 obtain⟨A,c,rfl,hP,hc1,hc2⟩:=h';have iw:=aa hu1;have HP:=aa hP;have hcall:=aa (λW (hW:ac w1 W) (B C:Option Addr) (hB:dL W B [(0,5)]) (hC:fS W C [[(1,[83,97,108,117,116],0)]])=>EM A B C c W (HL.out.ah (iw.out.trans hW)) (HP.out.ah hW) hc1 hc2 hB hC);clear h hP hu1;go_wp2_with fail;refine(hcall.out _ uZ _ _ ?_ ?_).mono ?_
 ·exact E1 (by go_simp) (by go_simp)
 ·exact Im (g2:=w1.1.size+1+1) (s:=⟨#[83,97,108,117,116]⟩) (by go_simp) (by go_simp) (by go_simp) (by go_simp)
 rintro e w2 ⟨A2,c2,rfl,hP2,hu2⟩;have aW:=aa (iw.out.trans (ac.trans uZ hu2));have hb:=aa (λW (hW:ac w2 W)=>qp 1 A2 3 c2 St.EZ W rfl (hP2.ah hW) (by omega) (by decide));rw[St.Ci]at hb;clear hu2 hP2;go_wp2_with fail;refine(hb.out _ uZ).mono ?_;rintro e w3 ⟨rfl,hu3⟩;have ba:=aa (aW.out.trans (ac.trans uZ hu3));clear hu3;go_wp2;go_ret;exact⟨rfl,ba.out⟩
end
