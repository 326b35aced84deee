/- The functions of format 1, markup, as the document's package calls them. -/
import Derived.Test.YthoemdibbldndaaGreatDoorDcC
import Derived.Test.YthoemdibbldndaaGreatDoorRdsA
import Derived.Test.YthoemdibbldndaaGreatDoorGO
set_option linter.all false
set_option maxHeartbeats 0
set_option maxRecDepth 20000
open Go.Value renaming int->Yh,string->Yi,slice->Yj,tuple->Ym
open Go.IntKind renaming i64->Yn
open Go.Ending renaming returned->Yp
namespace Go.Proofs.YthoemdibbldndaaGreatDoor
open Go.RowKit
namespace St
theorem FE:qm bV:=λl k t n h=>by
 obtain⟨_,h1,h2,h3⟩:=pq h;refine⟨h1,h2,h3,?_⟩;rintro rfl
 match l,h with
 | c :: r,h=>
  by_cases lI:c.toNat=60
  ·rw[ow lI]at h;unfold tS at h;cases hq:fW (c :: r)with
   | none=>rw[hq]at h;cases h
   | some x=>
    obtain⟨k',t',n'⟩:=x;rw[hq]at h;simp only at h
    split at h
    ·cases h
    simp only[Option.some.injEq,Prod.mk.injEq]at h;obtain⟨rfl,rfl,rfl⟩:=h;have:=(kN hq).1
    omega
  by_cases pU:c.toNat=38
  ·rw[iU pU]at h;exact(yW h).2.2.2
  by_cases cV:c.toNat=123
  ·rw[lu cV]at h;cases hq:cM (c :: r)with
   | none=>rw[hq]at h;cases h
   | some x=>rw[hq]at h;simp at h
  rw[kj lI pU cV]at h;simp only[Option.some.injEq,Prod.mk.injEq]at h;obtain⟨_,rfl,_⟩:=h;rfl
def D1(l:List UInt8):gr:=eK bV l 0 0 [] [] [] 0
def S1(l:List UInt8):List Pt × Nat × Int:=ij Mk.dE Lib.decDigits l
theorem Na(x:ByteArray):Mk.mu x=D1 x.1.1:=Mk.Oc x
theorem Sk(d:List UInt8)(h:(D1 d).2.2.2=0):wu d.length (D1 d):=by
 unfold D1 eK at h |-;exact uC FE d.length d 0 0 [] [] [] 0 (by constructor) (by simp) rfl (by simp) (by simp) (by omega) (by omega) (by simp[aV]) h
end St
theorem Jr(d:ByteArray)(w:World)(hL:Mk.jQ w)(hd:d.size<=1000000000):Calls Tryz.prog 46 #[Yh Yn 1,Yi d] w (Mk.aG (St.S1 d.1.1) w):=by
 have H:=aa (Mk.Hv d w hL (by omega));have hR:Mk.iC d=St.S1 d.1.1:=rfl;rw[hR]at H;generalize St.S1 d.1.1=R at *;obtain⟨ps,pl,er⟩:=R;clear hL hR;go_enter Tryz.func46,Tryz.ntmps46;go_wp2_with fail;refine H.out.mono ?_;rintro e w' ⟨A,c,rfl,hP,h1,h2,hu⟩;have HE:=aa (show Mk.aG (ps,pl,er) w (Yp (Ym #[Yj A ps.length c,Yh Yn (pl:Int),Yh Yn er])) w' from⟨A,c,rfl,hP,h1,h2,hu⟩);clear hP h1 h2 hu;go_wp2;go_ret3;exact HE.out
theorem xe(d:ByteArray)(w:World)(hd:d.size<=1000000000):Calls Tryz.prog 51 #[Yh Yn 1,Yi d] w (cY (St.D1 d.1.1) w):=by
 have H:=aa (Mk.qC d w (by omega));rw[St.Na]at H;generalize St.D1 d.1.1=R at *;obtain⟨f,cu,pl,er⟩:=R;go_enter Tryz.func51,Tryz.ntmps51;go_wp2_with fail;refine H.out.mono ?_;rintro e w' ⟨A,c,rfl,hP,h1,h2,hu⟩;have HE:=aa (show cY (f,cu,pl,er) w (Yp (Ym #[Yj A f.length c,Yh Yn er])) w' from⟨A,c,rfl,hP,h1,h2,hu⟩);clear hP h1 h2 hu;go_wp2;go_ret2;exact HE.out
theorem LG(d:ByteArray)(w:World)(hd:d.size<=1000000000):Calls Tryz.prog 49 #[Yh Yn 1,Yi d] w (Mk.eV (St.D1 d.1.1) w):=by
 have H:=aa (Mk.Kh d w (by omega));rw[St.Na]at H;generalize St.D1 d.1.1=R at *;obtain⟨f,cu,pl,er⟩:=R;go_enter Tryz.func49,Tryz.ntmps49;go_wp2_with fail;refine H.out.mono ?_;rintro e w' ⟨A,c,rfl,hP,h1,h2,hu⟩;have HE:=aa (show Mk.eV (f,cu,pl,er) w (Yp (Ym #[Yj A cu.length c,Yh Yn er])) w' from⟨A,c,rfl,hP,h1,h2,hu⟩);clear hP h1 h2 hu;go_wp2;go_ret2;exact HE.out
theorem GO(A:Option Addr)(n c:Nat)(f:List St.It)(w:World)(hn:f.length=n)(hnc:n<=c)(dG:c<=9223372036854775807)(h:aH w A f)(hl:n<=1000000000)(ht:aV f<=1000000000000) :
  Calls Tryz.prog 50 #[Yh Yn 1,Yj A n c] w λe w'=>e=Yp (Ym #[Yi ⟨(St.bw 1 f).1.toArray⟩,Yh Yn (St.bw 1 f).2])/\ac w w':=by
 have H:=aa (Ex A n c f w hn hnc dG h hl ht);generalize St.bw 1 f=R at *;obtain⟨s,er⟩:=R;clear h hn ht;go_enter Tryz.func50,Tryz.ntmps50;go_wp2_with fail;refine H.out.mono ?_;rintro e w' ⟨rfl,hu⟩;have HU:=aa hu;clear hu;go_wp2;go_ret2;exact⟨rfl,HU.out⟩
theorem NP(w:World)(hL:Mk.jQ w):mP w 1 St.D1 St.S1:=
 ⟨.inl rfl,λd w' hw hd=>Jr d w' (hL.ai hw) hd,λd w' _ hd=>xe d w' hd,λd w' _ hd=>LG d w' hd,λA n c f w' _ hn hnc hc h hl ht=>GO A n c f w' hn hnc hc h hl ht,St.Sk⟩
end Go.Proofs.YthoemdibbldndaaGreatDoor
namespace Go.Proofs.YthoemdibbldndaaGreatDoor.St
end Go.Proofs.YthoemdibbldndaaGreatDoor.St
namespace Go.Proofs.YthoemdibbldndaaGreatDoor
open Go.RowKit
section
namespace St
def Kq:List Pt:=[(false,[],[60,112,62]),(true,[49],[72,101,108,108,111,32,60,98,62,120,60,47,98,62]),(false,[],[60,47,112,62])]
def H8:List Pt:=[(false,[],[60,112,62]),(true,[49],[83,97,108,117,116,32,60,98,62,120,60,47,98,62]),(false,[],[60,47,112,62])]
set_option maxRecDepth 100000 in
theorem Eo:S1 (⟨#[60,112,62,72,101,108,108,111,32,60,98,62,120,60,47,98,62,60,47,112,62]⟩:ByteArray).1.1=(Kq,0,0):=by kernel_rfl
set_option maxRecDepth 100000 in
theorem Hr:fQ D1 S1 (bw 1) 1 Kq 1 [(0,5)] [[(1,[83,97,108,117,116],0)]]=((1,H8),0):=by kernel_rfl
set_option maxRecDepth 100000 in
theorem Kc:(bw 1 [(1,[83,97,108,117,116],0)]).1.length<=1000000:=by decide
theorem En:(⟨(b6 H8).toArray⟩:ByteArray)=⟨#[60,112,62,83,97,108,117,116,32,60,98,62,120,60,47,98,62,60,47,112,62]⟩:=by rfl
end St
theorem Ia{W:World}{g:Nat}{a b:Int}(h0:W.cell? ⟨g,0,none⟩=some (Yh Yn a))(h1:W.cell? ⟨g,1,none⟩=some (Yh Yn b)):eQ W (some ⟨g,0,none⟩) [(a,b)]:=by
 intro _;refine⟨g,0,rfl,cx _ _ h0,λj hj=>?_⟩;obtain rfl:j=0:=by simp at hj;omega
 exact⟨h0,h1⟩
theorem KZ{W:World}{g g2:Nat}{k i:Int}{s:ByteArray}(h0:W.cell? ⟨g,0,none⟩=some (Yj (some ⟨g2,0,none⟩) 1 1))(h1:W.cell? ⟨g2,0,none⟩=some (Yh Yn k))(h2:W.cell? ⟨g2,1,none⟩=some (Yi s))(h3:W.cell? ⟨g2,2,none⟩=some (Yh Yn i)):gJ W (some ⟨g,0,none⟩) [[(k,s.1.1,i)]]:=by
 intro _;refine⟨g,0,rfl,cx _ _ h0,λj hj=>?_⟩;obtain rfl:j=0:=by simp at hj;omega
 refine⟨some ⟨g2,0,none⟩,1,h0,?_,by simp,by omega,λh=>by cases h⟩;intro _;refine⟨g2,0,rfl,cx _ _ h1,λj hj=>?_⟩;obtain rfl:j=0:=by simp at hj;omega
 refine⟨h1,?_,h3⟩;rw[h2];simp[bn]
end
section
theorem Hq(A B C:Option Addr)(c:Nat)(W:World)(hL:Mk.jQ W)(hP:bk W A St.Kq)(h1:3<=c)(h2:c<=9223372036854775807)(hB:eQ W B [(0,5)])(hC:gJ W C [[(1,[83,97,108,117,116],0)]]) :
  Calls Tryz.prog 16 #[.agg #[Yh Yn 1,Yj A 3 c],Yh Yn 1,Yj B 1 1,Yj C 1 1] W λe w'=>∃A' c',e=Yp (Ym #[.agg #[Yh Yn 1,Yj A' 3 c'],Yh Yn 0])/\bk w' A' St.H8/\ac W w':=by
 have h:=tr A B C 3 c 1 1 1 1 St.Kq 1 [(0,5)] [[(1,[83,97,108,117,116],0)]] W (NP W hL) rfl h1 h2 rfl rfl hP hB hC (by omega) (by decide) (by omega)
  (λt ht=>by rw[List.mem_singleton.1 ht];decide) (λt ht=>by rw[List.mem_singleton.1 ht];exact St.Kc)
 rw[St.Hr]at h;refine h.mono ?_;rintro e w' ⟨A',c',rfl,hP',_,_,hu⟩;exact⟨A',c',rfl,hP',hu⟩
theorem Em(w:World)(hL:Mk.jQ w):Calls Tryz.prog 18 #[] w λe w'=>e=Yp (.bool true)/\ac w w':=by
 have h1:=GJ ⟨#[60,112,62,72,101,108,108,111,32,60,98,62,120,60,47,98,62,60,47,112,62]⟩ w (NP w hL) (by show 21<=_;omega);rw[St.Eo]at h1;have H1:=aa h1;have HL:=aa hL;clear h1 hL;go_enter Tryz.func18,Tryz.ntmps18;go_wp2_with fail;refine H1.out.mono ?_;rintro e w1 ⟨hu1,h⟩
 have h':∃A c,e=Yp (Ym #[.agg #[Yh Yn 1,Yj A 3 c],Yh Yn 0,Yh Yn 0])/\bk w1 A St.Kq/\3<=c/\c<=9223372036854775807:=by
  rcases h with⟨_,h⟩|⟨h,_⟩
  ·exact h
  exact absurd rfl h
 obtain⟨A,c,rfl,hP,hc1,hc2⟩:=h';have iB:=aa hu1;have HP:=aa hP;have hcall:=aa (λW (hW:ac w1 W) (B C:Option Addr) (hB:eQ W B [(0,5)]) (hC:gJ W C [[(1,[83,97,108,117,116],0)]])=>Hq A B C c W (HL.out.ai (iB.out.trans hW)) (HP.out.ai hW) hc1 hc2 hB hC);clear h hP hu1;go_wp2_with fail;refine(hcall.out _ uZ _ _ ?_ ?_).mono ?_
 ·exact Ia (by go_simp) (by go_simp)
 ·exact KZ (g2:=w1.1.size+1+1) (s:=⟨#[83,97,108,117,116]⟩) (by go_simp) (by go_simp) (by go_simp) (by go_simp)
 rintro e w2 ⟨A2,c2,rfl,hP2,hu2⟩;have aX:=aa (iB.out.trans (ac.trans uZ hu2));have hb:=aa (λW (hW:ac w2 W)=>rJ 1 A2 3 c2 St.H8 W rfl (hP2.ai hW) (by omega) (by decide));rw[St.En]at hb;clear hu2 hP2;go_wp2_with fail;refine(hb.out _ uZ).mono ?_;rintro e w3 ⟨rfl,hu3⟩;have a7:=aa (aX.out.trans (ac.trans uZ hu3));clear hu3;go_wp2;go_ret;exact⟨rfl,a7.out⟩
end
