/- The functions of format 1, markup, as the document's package calls them. -/
import Derived.Test.YthoemdibbldndaaGreatDoorDcC
import Derived.Test.YthoemdibbldndaaGreatDoorRdsA
import Derived.Test.YthoemdibbldndaaGreatDoorGO
set_option linter.all false
set_option maxHeartbeats 0
set_option maxRecDepth 20000
open Go.Value renaming int->UM,string->UN,slice->UO,tuple->UR
open Go.IntKind renaming i64->US
open Go.Ending renaming returned->UU
namespace Go.Proofs.YthoemdibbldndaaGreatDoor
open Go.RowKit
namespace St
theorem DF:pB bS:=λl k t n h=>by
 obtain⟨_,h1,h2,h3⟩:=oB h;refine⟨h1,h2,h3,?_⟩;rintro rfl
 match l,h with
 | c :: r,h=>
  by_cases lg:c.toNat=60
  ·rw[nS lg]at h;unfold sI at h;cases hq:fR (c :: r)with
   | none=>rw[hq]at h;cases h
   | some x=>
    obtain⟨k',t',n'⟩:=x;rw[hq]at h;simp only at h
    split at h
    ·cases h
    simp only[Option.some.injEq,Prod.mk.injEq]at h;obtain⟨rfl,rfl,rfl⟩:=h;have:=(kh hq).1
    omega
  by_cases o7:c.toNat=38
  ·rw[iG o7]at h;exact(xh h).2.2.2
  by_cases cT:c.toNat=123
  ·rw[kS cT]at h;cases hq:cJ (c :: r)with
   | none=>rw[hq]at h;cases h
   | some x=>rw[hq]at h;simp at h
  rw[jO lg o7 cT]at h;simp only[Option.some.injEq,Prod.mk.injEq]at h;obtain⟨_,rfl,_⟩:=h;rfl
def D1(l:List UInt8):gg:=eD bS l 0 0 [] [] [] 0
def S1(l:List UInt8):List Pt × Nat × Int:=gU Mk.dE Lib.decDigits l
theorem KZ(x:ByteArray):Mk.lR x=D1 x.1.1:=Mk.LQ x
theorem Pe(d:List UInt8)(h:(D1 d).2.2.2=0):uW d.length (D1 d):=by
 unfold D1 eD at h |-;exact tr DF d.length d 0 0 [] [] [] 0 (by constructor) (by simp) rfl (by simp) (by simp) (by omega) (by omega) (by simp[bc]) h
end St
theorem GW(d:ByteArray)(w:World)(hL:Mk.kD w)(hd:d.size<=1000000000):Calls Tryz.prog 46 #[UM US 1,UN d] w (Mk.aF (St.S1 d.1.1) w):=by
 have H:=aa (Mk.Fw d w hL (by omega));have hR:Mk.gP d=St.S1 d.1.1:=rfl;rw[hR]at H;generalize St.S1 d.1.1=R at *;obtain⟨ps,pl,er⟩:=R;clear hL hR;go_enter Tryz.func46,Tryz.ntmps46;go_wp2_with fail;refine H.out.mono ?_;rintro e w' ⟨A,c,rfl,hP,h1,h2,hu⟩;have HE:=aa (show Mk.aF (ps,pl,er) w (UU (UR #[UO A ps.length c,UM US (pl:Int),UM US er])) w' from⟨A,c,rfl,hP,h1,h2,hu⟩);clear hP h1 h2 hu;go_wp2;go_ret3;exact HE.out
theorem EO(d:ByteArray)(w:World)(hd:d.size<=1000000000):Calls Tryz.prog 51 #[UM US 1,UN d] w (dp (St.D1 d.1.1) w):=by
 have H:=aa (Mk.pN d w (by omega));rw[St.KZ]at H;generalize St.D1 d.1.1=R at *;obtain⟨f,cu,pl,er⟩:=R;go_enter Tryz.func51,Tryz.ntmps51;go_wp2_with fail;refine H.out.mono ?_;rintro e w' ⟨A,c,rfl,hP,h1,h2,hu⟩;have HE:=aa (show dp (f,cu,pl,er) w (UU (UR #[UO A f.length c,UM US er])) w' from⟨A,c,rfl,hP,h1,h2,hu⟩);clear hP h1 h2 hu;go_wp2;go_ret2;exact HE.out
theorem JK(d:ByteArray)(w:World)(hd:d.size<=1000000000):Calls Tryz.prog 49 #[UM US 1,UN d] w (Mk.eM (St.D1 d.1.1) w):=by
 have H:=aa (Mk.Ig d w (by omega));rw[St.KZ]at H;generalize St.D1 d.1.1=R at *;obtain⟨f,cu,pl,er⟩:=R;go_enter Tryz.func49,Tryz.ntmps49;go_wp2_with fail;refine H.out.mono ?_;rintro e w' ⟨A,c,rfl,hP,h1,h2,hu⟩;have HE:=aa (show Mk.eM (f,cu,pl,er) w (UU (UR #[UO A cu.length c,UM US er])) w' from⟨A,c,rfl,hP,h1,h2,hu⟩);clear hP h1 h2 hu;go_wp2;go_ret2;exact HE.out
theorem EP(A:Option Addr)(n c:Nat)(f:List St.It)(w:World)(hn:f.length=n)(hnc:n<=c)(dz:c<=9223372036854775807)(h:aO w A f)(hl:n<=1000000000)(ht:bc f<=1000000000000) :
  Calls Tryz.prog 50 #[UM US 1,UO A n c] w λe w'=>e=UU (UR #[UN ⟨(St.bj 1 f).1.toArray⟩,UM US (St.bj 1 f).2])/\ac w w':=by
 have H:=aa (CH A n c f w hn hnc dz h hl ht);generalize St.bj 1 f=R at *;obtain⟨s,er⟩:=R;clear h hn ht;go_enter Tryz.func50,Tryz.ntmps50;go_wp2_with fail;refine H.out.mono ?_;rintro e w' ⟨rfl,hu⟩;have HU:=aa hu;clear hu;go_wp2;go_ret2;exact⟨rfl,HU.out⟩
theorem NQ(w:World)(hL:Mk.kD w):l7 w 1 St.D1 St.S1:=
 ⟨.inl rfl,λd w' hw hd=>GW d w' (hL.ai hw) hd,λd w' _ hd=>EO d w' hd,λd w' _ hd=>JK d w' hd,λA n c f w' _ hn hnc hc h hl ht=>EP A n c f w' hn hnc hc h hl ht,St.Pe⟩
end Go.Proofs.YthoemdibbldndaaGreatDoor
namespace Go.Proofs.YthoemdibbldndaaGreatDoor.St
end Go.Proofs.YthoemdibbldndaaGreatDoor.St
namespace Go.Proofs.YthoemdibbldndaaGreatDoor
open Go.RowKit
section
namespace St
def Is:List Pt:=[(false,[],[60,112,62]),(true,[49],[72,101,108,108,111,32,60,98,62,120,60,47,98,62]),(false,[],[60,47,112,62])]
def FB:List Pt:=[(false,[],[60,112,62]),(true,[49],[83,97,108,117,116,32,60,98,62,120,60,47,98,62]),(false,[],[60,47,112,62])]
set_option maxRecDepth 100000 in
theorem Cz:S1 (⟨#[60,112,62,72,101,108,108,111,32,60,98,62,120,60,47,98,62,60,47,112,62]⟩:ByteArray).1.1=(Is,0,0):=by kernel_rfl
set_option maxRecDepth 100000 in
theorem Fp:fh D1 S1 (bj 1) 1 Is 1 [(0,5)] [[(1,[83,97,108,117,116],0)]]=((1,FB),0):=by kernel_rfl
set_option maxRecDepth 100000 in
theorem Ib:(bj 1 [(1,[83,97,108,117,116],0)]).1.length<=1000000:=by decide
theorem Cy:(⟨(b6 FB).toArray⟩:ByteArray)=⟨#[60,112,62,83,97,108,117,116,32,60,98,62,120,60,47,98,62,60,47,112,62]⟩:=by rfl
end St
theorem FE{W:World}{g:Nat}{a b:Int}(h0:W.cell? ⟨g,0,none⟩=some (UM US a))(h1:W.cell? ⟨g,1,none⟩=some (UM US b)):fB W (some ⟨g,0,none⟩) [(a,b)]:=by
 intro _;refine⟨g,0,rfl,cM _ _ h0,λj hj=>?_⟩;obtain rfl:j=0:=by simp at hj;omega
 exact⟨h0,h1⟩
theorem I1{W:World}{g g2:Nat}{k i:Int}{s:ByteArray}(h0:W.cell? ⟨g,0,none⟩=some (UO (some ⟨g2,0,none⟩) 1 1))(h1:W.cell? ⟨g2,0,none⟩=some (UM US k))(h2:W.cell? ⟨g2,1,none⟩=some (UN s))(h3:W.cell? ⟨g2,2,none⟩=some (UM US i)):iy W (some ⟨g,0,none⟩) [[(k,s.1.1,i)]]:=by
 intro _;refine⟨g,0,rfl,cM _ _ h0,λj hj=>?_⟩;obtain rfl:j=0:=by simp at hj;omega
 refine⟨some ⟨g2,0,none⟩,1,h0,?_,by simp,by omega,λh=>by cases h⟩;intro _;refine⟨g2,0,rfl,cM _ _ h1,λj hj=>?_⟩;obtain rfl:j=0:=by simp at hj;omega
 refine⟨h1,?_,h3⟩;rw[h2];simp[be]
end
section
theorem Fo(A B C:Option Addr)(c:Nat)(W:World)(hL:Mk.kD W)(hP:bn W A St.Is)(h1:3<=c)(h2:c<=9223372036854775807)(hB:fB W B [(0,5)])(hC:iy W C [[(1,[83,97,108,117,116],0)]]) :
  Calls Tryz.prog 16 #[.agg #[UM US 1,UO A 3 c],UM US 1,UO B 1 1,UO C 1 1] W λe w'=>∃A' c',e=UU (UR #[.agg #[UM US 1,UO A' 3 c'],UM US 0])/\bn w' A' St.FB/\ac W w':=by
 have h:=si A B C 3 c 1 1 1 1 St.Is 1 [(0,5)] [[(1,[83,97,108,117,116],0)]] W (NQ W hL) rfl h1 h2 rfl rfl hP hB hC (by omega) (by decide) (by omega)
  (λt ht=>by rw[List.mem_singleton.1 ht];decide) (λt ht=>by rw[List.mem_singleton.1 ht];exact St.Ib)
 rw[St.Fp]at h;refine h.mono ?_;rintro e w' ⟨A',c',rfl,hP',_,_,hu⟩;exact⟨A',c',rfl,hP',hu⟩
theorem Cx(w:World)(hL:Mk.kD w):Calls Tryz.prog 18 #[] w λe w'=>e=UU (.bool true)/\ac w w':=by
 have h1:=EJ ⟨#[60,112,62,72,101,108,108,111,32,60,98,62,120,60,47,98,62,60,47,112,62]⟩ w (NQ w hL) (by show 21<=_;omega);rw[St.Cz]at h1;have H1:=aa h1;have HL:=aa hL;clear h1 hL;go_enter Tryz.func18,Tryz.ntmps18;go_wp2_with fail;refine H1.out.mono ?_;rintro e w1 ⟨hu1,h⟩
 have h':∃A c,e=UU (UR #[.agg #[UM US 1,UO A 3 c],UM US 0,UM US 0])/\bn w1 A St.Is/\3<=c/\c<=9223372036854775807:=by
  rcases h with⟨_,h⟩|⟨h,_⟩
  ·exact h
  exact absurd rfl h
 obtain⟨A,c,rfl,hP,hc1,hc2⟩:=h';have ij:=aa hu1;have HP:=aa hP;have hcall:=aa (λW (hW:ac w1 W) (B C:Option Addr) (hB:fB W B [(0,5)]) (hC:iy W C [[(1,[83,97,108,117,116],0)]])=>Fo A B C c W (HL.out.ai (ij.out.trans hW)) (HP.out.ai hW) hc1 hc2 hB hC);clear h hP hu1;go_wp2_with fail;refine(hcall.out _ uZ _ _ ?_ ?_).mono ?_
 ·exact FE (by go_simp) (by go_simp)
 ·exact I1 (g2:=w1.1.size+1+1) (s:=⟨#[83,97,108,117,116]⟩) (by go_simp) (by go_simp) (by go_simp) (by go_simp)
 rintro e w2 ⟨A2,c2,rfl,hP2,hu2⟩;have aZ:=aa (ij.out.trans (ac.trans uZ hu2));have hb:=aa (λW (hW:ac w2 W)=>qJ 1 A2 3 c2 St.FB W rfl (hP2.ai hW) (by omega) (by decide));rw[St.Cy]at hb;clear hu2 hP2;go_wp2_with fail;refine(hb.out _ uZ).mono ?_;rintro e w3 ⟨rfl,hu3⟩;have bm:=aa (aZ.out.trans (ac.trans uZ hu3));clear hu3;go_wp2;go_ret;exact⟨rfl,bm.out⟩
end
