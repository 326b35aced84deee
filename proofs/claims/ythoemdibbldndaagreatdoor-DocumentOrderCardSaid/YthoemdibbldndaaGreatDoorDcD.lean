/- The functions of format 1, markup, as the document's package calls them. -/
import Derived.Test.YthoemdibbldndaaGreatDoorDcC
import Derived.Test.YthoemdibbldndaaGreatDoorRdsA
import Derived.Test.YthoemdibbldndaaGreatDoorGO
set_option linter.all false
set_option maxHeartbeats 0
set_option maxRecDepth 20000
open Go.Value renaming int->Yp,string->Yq,slice->Yr,tuple->Yu
open Go.IntKind renaming i64->Yv
open Go.Ending renaming returned->Yx
namespace Go.Proofs.YthoemdibbldndaaGreatDoor
open Go.RowKit
namespace St
theorem Gp:qA b7:=λl k t n h=>by
 obtain⟨_,h1,h2,h3⟩:=px h;refine⟨h1,h2,h3,?_⟩;rintro rfl
 match l,h with
 | c :: r,h=>
  by_cases lR:c.toNat=60
  ·rw[oD lR]at h;unfold uv at h;cases hq:gh (c :: r)with
   | none=>rw[hq]at h;cases h
   | some x=>
    obtain⟨k',t',n'⟩:=x;rw[hq]at h;simp only at h
    split at h
    ·cases h
    simp only[Option.some.injEq,Prod.mk.injEq]at h;obtain⟨rfl,rfl,rfl⟩:=h;have:=(kS hq).1
    omega
  by_cases qb:c.toNat=38
  ·rw[iZ qb]at h;exact(zU h).2.2.2
  by_cases cU:c.toNat=123
  ·rw[lE cU]at h;cases hq:cR (c :: r)with
   | none=>rw[hq]at h;cases h
   | some x=>rw[hq]at h;simp at h
  rw[kl lR qb cU]at h;simp only[Option.some.injEq,Prod.mk.injEq]at h;obtain⟨_,rfl,_⟩:=h;rfl
def D1(l:List UInt8):gy:=eP b7 l 0 0 [] [] [] 0
def S1(l:List UInt8):List Pt × Nat × Int:=ix Mk.dE Lib.decDigits l
theorem NU(x:ByteArray):Mk.mx x=D1 x.1.1:=Mk.OQ x
theorem SG(d:List UInt8)(h:(D1 d).2.2.2=0):wY d.length (D1 d):=by
 unfold D1 eP at h |-;exact zuz Gp d.length d 0 0 [] [] [] 0 (by constructor) (by simp) rfl (by simp) (by simp) (by omega) (by omega) (by simp[aY]) h
end St
theorem Ka(d:ByteArray)(w:World)(hL:Mk.jU w)(hd:d.size<=1000000000):Calls Tryz.prog 46 #[Yp Yv 1,Yq d] w (Mk.aG (St.S1 d.1.1) w):=by
 have H:=aa (Mk.IM d w hL (by omega));have hR:Mk.iJ d=St.S1 d.1.1:=rfl;rw[hR]at H;generalize St.S1 d.1.1=R at *;obtain⟨ps,pl,er⟩:=R;clear hL hR;go_enter Tryz.func46,Tryz.ntmps46;go_wp2_with fail;refine H.out.mono ?_;rintro e w' ⟨A,c,rfl,hP,h1,h2,hu⟩;have HE:=aa (show Mk.aG (ps,pl,er) w (Yx (Yu #[Yr A ps.length c,Yp Yv (pl:Int),Yp Yv er])) w' from⟨A,c,rfl,hP,h1,h2,hu⟩);clear hP h1 h2 hu;go_wp2;go_ret3;exact HE.out
theorem xM(d:ByteArray)(w:World)(hd:d.size<=1000000000):Calls Tryz.prog 51 #[Yp Yv 1,Yq d] w (cY (St.D1 d.1.1) w):=by
 have H:=aa (Mk.qM d w (by omega));rw[St.NU]at H;generalize St.D1 d.1.1=R at *;obtain⟨f,cu,pl,er⟩:=R;go_enter Tryz.func51,Tryz.ntmps51;go_wp2_with fail;refine H.out.mono ?_;rintro e w' ⟨A,c,rfl,hP,h1,h2,hu⟩;have HE:=aa (show cY (f,cu,pl,er) w (Yx (Yu #[Yr A f.length c,Yp Yv er])) w' from⟨A,c,rfl,hP,h1,h2,hu⟩);clear hP h1 h2 hu;go_wp2;go_ret2;exact HE.out
theorem Mw(d:ByteArray)(w:World)(hd:d.size<=1000000000):Calls Tryz.prog 49 #[Yp Yv 1,Yq d] w (Mk.eY (St.D1 d.1.1) w):=by
 have H:=aa (Mk.K1 d w (by omega));rw[St.NU]at H;generalize St.D1 d.1.1=R at *;obtain⟨f,cu,pl,er⟩:=R;go_enter Tryz.func49,Tryz.ntmps49;go_wp2_with fail;refine H.out.mono ?_;rintro e w' ⟨A,c,rfl,hP,h1,h2,hu⟩;have HE:=aa (show Mk.eY (f,cu,pl,er) w (Yx (Yu #[Yr A cu.length c,Yp Yv er])) w' from⟨A,c,rfl,hP,h1,h2,hu⟩);clear hP h1 h2 hu;go_wp2;go_ret2;exact HE.out
theorem H6(A:Option Addr)(n c:Nat)(f:List St.It)(w:World)(hn:f.length=n)(hnc:n<=c)(dq:c<=9223372036854775807)(h:aJ w A f)(hl:n<=1000000000)(ht:aY f<=1000000000000) :
  Calls Tryz.prog 50 #[Yp Yv 1,Yr A n c] w λe w'=>e=Yx (Yu #[Yq ⟨(St.bn 1 f).1.toArray⟩,Yp Yv (St.bn 1 f).2])/\ac w w':=by
 have H:=aa (Fl A n c f w hn hnc dq h hl ht);generalize St.bn 1 f=R at *;obtain⟨s,er⟩:=R;clear h hn ht;go_enter Tryz.func50,Tryz.ntmps50;go_wp2_with fail;refine H.out.mono ?_;rintro e w' ⟨rfl,hu⟩;have HU:=aa hu;clear hu;go_wp2;go_ret2;exact⟨rfl,HU.out⟩
theorem Q4(w:World)(hL:Mk.jU w):mP w 1 St.D1 St.S1:=
 ⟨.inl rfl,λd w' hw hd=>Ka d w' (hL.ai hw) hd,λd w' _ hd=>xM d w' hd,λd w' _ hd=>Mw d w' hd,λA n c f w' _ hn hnc hc h hl ht=>H6 A n c f w' hn hnc hc h hl ht,St.SG⟩
end Go.Proofs.YthoemdibbldndaaGreatDoor
namespace Go.Proofs.YthoemdibbldndaaGreatDoor.St
end Go.Proofs.YthoemdibbldndaaGreatDoor.St
namespace Go.Proofs.YthoemdibbldndaaGreatDoor
open Go.RowKit
section
namespace St
def Lc:List Pt:=[(false,[],[60,112,62]),(true,[49],[72,101,108,108,111,32,60,98,62,120,60,47,98,62]),(false,[],[60,47,112,62])]
def IT:List Pt:=[(false,[],[60,112,62]),(true,[49],[83,97,108,117,116,32,60,98,62,120,60,47,98,62]),(false,[],[60,47,112,62])]
set_option maxRecDepth 100000 in
theorem Ff:S1 (⟨#[60,112,62,72,101,108,108,111,32,60,98,62,120,60,47,98,62,60,47,112,62]⟩:ByteArray).1.1=(Lc,0,0):=by kernel_rfl
set_option maxRecDepth 100000 in
theorem II:eQ D1 S1 (bn 1) 1 Lc 1 [(0,5)] [[(1,[83,97,108,117,116],0)]]=((1,IT),0):=by kernel_rfl
set_option maxRecDepth 100000 in
theorem KV:(bn 1 [(1,[83,97,108,117,116],0)]).1.length<=1000000:=by decide
theorem Fe:(⟨(b8 IT).toArray⟩:ByteArray)=⟨#[60,112,62,83,97,108,117,116,32,60,98,62,120,60,47,98,62,60,47,112,62]⟩:=by rfl
end St
theorem IV{W:World}{g:Nat}{a b:Int}(h0:W.cell? ⟨g,0,none⟩=some (Yp Yv a))(h1:W.cell? ⟨g,1,none⟩=some (Yp Yv b)):eC W (some ⟨g,0,none⟩) [(a,b)]:=by
 intro _;refine⟨g,0,rfl,cS _ _ h0,λj hj=>?_⟩;obtain rfl:j=0:=by simp at hj;omega
 exact⟨h0,h1⟩
theorem LM{W:World}{g g2:Nat}{k i:Int}{s:ByteArray}(h0:W.cell? ⟨g,0,none⟩=some (Yr (some ⟨g2,0,none⟩) 1 1))(h1:W.cell? ⟨g2,0,none⟩=some (Yp Yv k))(h2:W.cell? ⟨g2,1,none⟩=some (Yq s))(h3:W.cell? ⟨g2,2,none⟩=some (Yp Yv i)):gk W (some ⟨g,0,none⟩) [[(k,s.1.1,i)]]:=by
 intro _;refine⟨g,0,rfl,cS _ _ h0,λj hj=>?_⟩;obtain rfl:j=0:=by simp at hj;omega
 refine⟨some ⟨g2,0,none⟩,1,h0,?_,by simp,by omega,λh=>by cases h⟩;intro _;refine⟨g2,0,rfl,cS _ _ h1,λj hj=>?_⟩;obtain rfl:j=0:=by simp at hj;omega
 refine⟨h1,?_,h3⟩;rw[h2];simp[bo]
end
section
theorem IH(A B C:Option Addr)(c:Nat)(W:World)(hL:Mk.jU W)(hP:a8 W A St.Lc)(h1:3<=c)(h2:c<=9223372036854775807)(hB:eC W B [(0,5)])(hC:gk W C [[(1,[83,97,108,117,116],0)]]) :
  Calls Tryz.prog 16 #[.agg #[Yp Yv 1,Yr A 3 c],Yp Yv 1,Yr B 1 1,Yr C 1 1] W λe w'=>∃A' c',e=Yx (Yu #[.agg #[Yp Yv 1,Yr A' 3 c'],Yp Yv 0])/\a8 w' A' St.IT/\ac W w':=by
 have h:=tT A B C 3 c 1 1 1 1 St.Lc 1 [(0,5)] [[(1,[83,97,108,117,116],0)]] W (Q4 W hL) rfl h1 h2 rfl rfl hP hB hC (by omega) (by decide) (by omega)
  (λt ht=>by rw[List.mem_singleton.1 ht];decide) (λt ht=>by rw[List.mem_singleton.1 ht];exact St.KV)
 rw[St.II]at h;refine h.mono ?_;rintro e w' ⟨A',c',rfl,hP',_,_,hu⟩;exact⟨A',c',rfl,hP',hu⟩
theorem vy(w:World)(hL:Mk.jU w):Calls Tryz.prog 18 #[] w λe w'=>e=Yx (.bool true)/\ac w w':=by
 have h1:=Hv ⟨#[60,112,62,72,101,108,108,111,32,60,98,62,120,60,47,98,62,60,47,112,62]⟩ w (Q4 w hL) (by show 21<=_;omega);rw[St.Ff]at h1;have H1:=aa h1;have HL:=aa hL;clear h1 hL;go_enter Tryz.func18,Tryz.ntmps18;go_wp2_with fail;refine H1.out.mono ?_;rintro e w1 ⟨hu1,h⟩
 have h':∃A c,e=Yx (Yu #[.agg #[Yp Yv 1,Yr A 3 c],Yp Yv 0,Yp Yv 0])/\a8 w1 A St.Lc/\3<=c/\c<=9223372036854775807:=by
  rcases h with⟨_,h⟩|⟨h,_⟩
  ·exact h
  exact absurd rfl h
 obtain⟨A,c,rfl,hP,hc1,hc2⟩:=h';have iI:=aa hu1;have HP:=aa hP;have hcall:=aa (λW (hW:ac w1 W) (B C:Option Addr) (hB:eC W B [(0,5)]) (hC:gk W C [[(1,[83,97,108,117,116],0)]])=>IH A B C c W (HL.out.ai (iI.out.trans hW)) (HP.out.ai hW) hc1 hc2 hB hC);clear h hP hu1;go_wp2_with fail;refine(hcall.out _ uZ _ _ ?_ ?_).mono ?_
 ·exact IV (by go_simp) (by go_simp)
 ·exact LM (g2:=w1.1.size+1+1) (s:=⟨#[83,97,108,117,116]⟩) (by go_simp) (by go_simp) (by go_simp) (by go_simp)
 rintro e w2 ⟨A2,c2,rfl,hP2,hu2⟩;have aX:=aa (iI.out.trans (ac.trans uZ hu2));have hb:=aa (λW (hW:ac w2 W)=>rV 1 A2 3 c2 St.IT W rfl (hP2.ai hW) (by omega) (by decide));rw[St.Fe]at hb;clear hu2 hP2;go_wp2_with fail;refine(hb.out _ uZ).mono ?_;rintro e w3 ⟨rfl,hu3⟩;have bm:=aa (aX.out.trans (ac.trans uZ hu3));clear hu3;go_wp2;go_ret;exact⟨rfl,bm.out⟩
end
