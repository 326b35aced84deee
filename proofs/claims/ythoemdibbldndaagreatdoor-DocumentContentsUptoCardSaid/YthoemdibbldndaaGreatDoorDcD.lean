/- The functions of format 1, markup, as the document's package calls them. -/
import Derived.Test.YthoemdibbldndaaGreatDoorDcC
import Derived.Test.YthoemdibbldndaaGreatDoorRdsA
import Derived.Test.YthoemdibbldndaaGreatDoorGO
set_option linter.unusedVariables false
set_option linter.unusedSimpArgs false
set_option maxHeartbeats 12800000
set_option maxRecDepth 20000
namespace Go.Proofs.YthoemdibbldndaaGreatDoor
open Go.RowKit
namespace St
theorem mark_ok:ElOk markL:=fun l k t n h=>by
 obtain⟨_,h1,h2,h3⟩:=mark_len h;refine⟨h1,h2,h3,?_⟩;rintro rfl
 match l,h with
 | c :: r,h=>
  by_cases h60:c.toNat=60
  ·rw[mark_60 h60] at h
   unfold inlL at h;cases hq:tagL (c :: r) with
   | none=>rw[hq] at h;cases h
   | some x=>
    obtain⟨k',t',n'⟩:=x;rw[hq] at h;simp only at h
    split at h
    ·cases h
    ·simp only[Option.some.injEq,Prod.mk.injEq] at h
     obtain⟨rfl,rfl,rfl⟩:=h;have:=(tag_len hq).1
     omega
  by_cases h38:c.toNat=38
  ·rw[mark_38 h38] at h
   exact(ref_len h).2.2.2
  by_cases h123:c.toNat=123
  ·rw[mark_123 h123] at h
   cases hq:slotL (c :: r) with
   | none=>rw[hq] at h;cases h
   | some x=>rw[hq] at h;simp at h
  ·rw[mark_else h60 h38 h123] at h
   simp only[Option.some.injEq,Prod.mk.injEq] at h;obtain⟨_,rfl,_⟩:=h;rfl
def D1(l:List UInt8):Res:=decFT markL l 0 0 [] [] [] 0
def S1(l:List UInt8):List Pt × Nat × Int:=splitM Mk.dE Lib.decDigits l
theorem D1_of(x:ByteArray):Mk.mkD x=D1 x.data.toList:=Mk.mkD_F x
theorem D1_ok(d:List UInt8)(h:(D1 d).2.2.2=0):DecOk d.length (D1 d):=by
 unfold D1 decFT at h ⊢;exact decT_ok mark_ok d.length d 0 0 [] [] [] 0 (by constructor) (by simp) rfl (by simp) (by simp) (by omega) (by omega) (by simp[tot]) h
end St
theorem fm1_split(d:ByteArray)(w:World)(hL:Mk.LibAt w)(hd:d.size<=1000000000):Calls Tryz.prog 46 #[.int .i64 1,.string d] w (Mk.SplitEnd (St.S1 d.data.toList) w):=by
 have H:=hid (Mk.msplit_any d w hL (by omega));have hR:Mk.mkT d=St.S1 d.data.toList:=rfl;rw[hR] at H;generalize St.S1 d.data.toList=R at *;obtain⟨ps,pl,er⟩:=R;clear hL hR;go_enter Tryz.func46,Tryz.ntmps46;go_wp2_with fail;refine H.out.mono ?_;rintro e w' ⟨A,c,rfl,hP,h1,h2,hu⟩;have HE:=hid (show Mk.SplitEnd (ps,pl,er) w (.returned (.tuple #[.slice A ps.length c,.int .i64 (pl:Int),.int .i64 er])) w' from⟨A,c,rfl,hP,h1,h2,hu⟩);clear hP h1 h2 hu;go_wp2;go_ret3;exact HE.out
theorem fm1_decode(d:ByteArray)(w:World)(hd:d.size<=1000000000):Calls Tryz.prog 51 #[.int .i64 1,.string d] w (ContEnd (St.D1 d.data.toList) w):=by
 have H:=hid (Mk.mdecode_any d w (by omega));rw[St.D1_of] at H;generalize St.D1 d.data.toList=R at *;obtain⟨f,cu,pl,er⟩:=R;go_enter Tryz.func51,Tryz.ntmps51;go_wp2_with fail;refine H.out.mono ?_;rintro e w' ⟨A,c,rfl,hP,h1,h2,hu⟩;have HE:=hid (show ContEnd (f,cu,pl,er) w (.returned (.tuple #[.slice A f.length c,.int .i64 er])) w' from⟨A,c,rfl,hP,h1,h2,hu⟩);clear hP h1 h2 hu;go_wp2;go_ret2;exact HE.out
theorem fm1_cuts(d:ByteArray)(w:World)(hd:d.size<=1000000000):Calls Tryz.prog 49 #[.int .i64 1,.string d] w (Mk.CutsEnd (St.D1 d.data.toList) w):=by
 have H:=hid (Mk.mcuts_any d w (by omega));rw[St.D1_of] at H;generalize St.D1 d.data.toList=R at *;obtain⟨f,cu,pl,er⟩:=R;go_enter Tryz.func49,Tryz.ntmps49;go_wp2_with fail;refine H.out.mono ?_;rintro e w' ⟨A,c,rfl,hP,h1,h2,hu⟩;have HE:=hid (show Mk.CutsEnd (f,cu,pl,er) w (.returned (.tuple #[.slice A cu.length c,.int .i64 er])) w' from⟨A,c,rfl,hP,h1,h2,hu⟩);clear hP h1 h2 hu;go_wp2;go_ret2;exact HE.out
theorem fm1_encode(A:Option Addr)(n c:Nat)(f:List St.It)(w:World)(hn:f.length=n)(hnc:n<=c)(hc63:c<=9223372036854775807)(h:ItemsAt w A f)(hl:n<=1000000000)(ht:tot f<=1000000000000) :
  Calls Tryz.prog 50 #[.int .i64 1,.slice A n c] w fun e w'=>e=.returned (.tuple #[.string ⟨(St.encS 1 f).1.toArray⟩,.int .i64 (St.encS 1 f).2])/\Und w w':=by
 have H:=hid (mencode_any A n c f w hn hnc hc63 h hl ht);generalize St.encS 1 f=R at *;obtain⟨s,er⟩:=R;clear h hn ht;go_enter Tryz.func50,Tryz.ntmps50;go_wp2_with fail;refine H.out.mono ?_;rintro e w' ⟨rfl,hu⟩;have HU:=hid hu;clear hu;go_wp2;go_ret2;exact⟨rfl,HU.out⟩
theorem fm1(w:World)(hL:Mk.LibAt w):FmAt w 1 St.D1 St.S1:=
 ⟨.inl rfl,fun d w' hw hd=>fm1_split d w' (hL.und hw) hd,fun d w' _ hd=>fm1_decode d w' hd,fun d w' _ hd=>fm1_cuts d w' hd,fun A n c f w' _ hn hnc hc h hl ht=>fm1_encode A n c f w' hn hnc hc h hl ht,St.D1_ok⟩
end Go.Proofs.YthoemdibbldndaaGreatDoor
namespace Go.Proofs.YthoemdibbldndaaGreatDoor.St
end Go.Proofs.YthoemdibbldndaaGreatDoor.St
namespace Go.Proofs.YthoemdibbldndaaGreatDoor
open Go.RowKit
section
namespace St
def psK:List Pt:=[(false,[],[60,112,62]),(true,[49],[72,101,108,108,111,32,60,98,62,120,60,47,98,62]),(false,[],[60,47,112,62])]
def psK2:List Pt:=[(false,[],[60,112,62]),(true,[49],[83,97,108,117,116,32,60,98,62,120,60,47,98,62]),(false,[],[60,47,112,62])]
set_option maxRecDepth 100000 in
theorem known_split:S1 (⟨#[60,112,62,72,101,108,108,111,32,60,98,62,120,60,47,98,62,60,47,112,62]⟩:ByteArray).data.toList=(psK,0,0):=by kernel_rfl
set_option maxRecDepth 100000 in
theorem known_repl:replD D1 S1 (encS 1) 1 psK 1 [(0,5)] [[(1,[83,97,108,117,116],0)]]=((1,psK2),0):=by kernel_rfl
set_option maxRecDepth 100000 in
theorem known_enc:(encS 1 [(1,[83,97,108,117,116],0)]).1.length<=1000000:=by decide
theorem known_bytes:(⟨(rawP psK2).toArray⟩:ByteArray)=⟨#[60,112,62,83,97,108,117,116,32,60,98,62,120,60,47,98,62,60,47,112,62]⟩:=by rfl
end St
theorem ranges_one{W:World}{g:Nat}{a b:Int}(h0:W.cell? ⟨g,0,none⟩=some (.int .i64 a))(h1:W.cell? ⟨g,1,none⟩=some (.int .i64 b)):RangesAt W (some ⟨g,0,none⟩) [(a,b)]:=by
 intro _;refine⟨g,0,rfl,zbL _ _ h0,fun j hj=>?_⟩;obtain rfl:j=0:=by simp at hj;omega
 exact⟨h0,h1⟩
theorem targs_one{W:World}{g g2:Nat}{k i:Int}{s:ByteArray}(h0:W.cell? ⟨g,0,none⟩=some (.slice (some ⟨g2,0,none⟩) 1 1))(h1:W.cell? ⟨g2,0,none⟩=some (.int .i64 k))(h2:W.cell? ⟨g2,1,none⟩=some (.string s))(h3:W.cell? ⟨g2,2,none⟩=some (.int .i64 i)):TargsAt W (some ⟨g,0,none⟩) [[(k,s.data.toList,i)]]:=by
 intro _;refine⟨g,0,rfl,zbL _ _ h0,fun j hj=>?_⟩;obtain rfl:j=0:=by simp at hj;omega
 refine⟨some ⟨g2,0,none⟩,1,h0,?_,by simp,by omega,fun h=>by cases h⟩;intro _;refine⟨g2,0,rfl,zbL _ _ h1,fun j hj=>?_⟩;obtain rfl:j=0:=by simp at hj;omega
 refine⟨h1,?_,h3⟩;rw[h2];simp[ba_eta]
end
section
theorem known_call(A B C:Option Addr)(c:Nat)(W:World)(hL:Mk.LibAt W)(hP:PartsAt W A St.psK)(h1:3<=c)(h2:c<=9223372036854775807)(hB:RangesAt W B [(0,5)])(hC:TargsAt W C [[(1,[83,97,108,117,116],0)]]) :
  Calls Tryz.prog 16 #[.agg #[.int .i64 1,.slice A 3 c],.int .i64 1,.slice B 1 1,.slice C 1 1] W fun e w'=>∃ A' c',e=.returned (.tuple #[.agg #[.int .i64 1,.slice A' 3 c'],.int .i64 0])/\PartsAt w' A' St.psK2/\Und W w':=by
 have h:=dreplace_any A B C 3 c 1 1 1 1 St.psK 1 [(0,5)] [[(1,[83,97,108,117,116],0)]] W (fm1 W hL) rfl h1 h2 rfl rfl hP hB hC (by omega) (by decide) (by omega)
  (fun t ht=>by rw[List.mem_singleton.1 ht];decide) (fun t ht=>by rw[List.mem_singleton.1 ht];exact St.known_enc)
 rw[St.known_repl] at h;refine h.mono ?_;rintro e w' ⟨A',c',rfl,hP',_,_,hu⟩;exact⟨A',c',rfl,hP',hu⟩
theorem known10_any(w:World)(hL:Mk.LibAt w):Calls Tryz.prog 18 #[] w fun e w'=>e=.returned (.bool true)/\Und w w':=by
 have h1:=dparse_any ⟨#[60,112,62,72,101,108,108,111,32,60,98,62,120,60,47,98,62,60,47,112,62]⟩ w (fm1 w hL) (by show 21<=_;omega);rw[St.known_split] at h1;have H1:=hid h1;have HL:=hid hL;clear h1 hL;go_enter Tryz.func18,Tryz.ntmps18;go_wp2_with fail;refine H1.out.mono ?_;rintro e w1 ⟨hu1,h⟩
 have h':∃ A c,e=.returned (.tuple #[.agg #[.int .i64 1,.slice A 3 c],.int .i64 0,.int .i64 0])/\PartsAt w1 A St.psK/\3<=c/\c<=9223372036854775807:=by
  rcases h with ⟨_,h⟩|⟨h,_⟩
  ·exact h
  ·exact absurd rfl h
 obtain⟨A,c,rfl,hP,hc1,hc2⟩:=h';have HU1:=hid hu1;have HP:=hid hP;have hcall:=hid (fun W (hW:Und w1 W) (B C:Option Addr) (hB:RangesAt W B [(0,5)]) (hC:TargsAt W C [[(1,[83,97,108,117,116],0)]])=>known_call A B C c W (HL.out.und (HU1.out.trans hW)) (HP.out.und hW) hc1 hc2 hB hC);clear h hP hu1;go_wp2_with fail;refine(hcall.out _ (by apply_rules[uUe,uUa,uUb,uUc,uUd]) _ _ ?_ ?_).mono ?_
 ·exact ranges_one (by go_simp) (by go_simp)
 ·exact targs_one (g2:=w1.heap.size+1+1) (s:=⟨#[83,97,108,117,116]⟩) (by go_simp) (by go_simp) (by go_simp) (by go_simp)
 rintro e w2 ⟨A2,c2,rfl,hP2,hu2⟩;have HU2:=hid (HU1.out.trans (Und.trans (by apply_rules[uUe,uUa,uUb,uUc,uUd]) hu2));have hb:=hid (fun W (hW:Und w2 W)=>dbytes_any 1 A2 3 c2 St.psK2 W rfl (hP2.und hW) (by omega) (by decide));rw[St.known_bytes] at hb;clear hu2 hP2;go_wp2_with fail;refine(hb.out _ (by apply_rules[uUe,uUa,uUb,uUc,uUd])).mono ?_;rintro e w3 ⟨rfl,hu3⟩;have HU3:=hid (HU2.out.trans (Und.trans (by apply_rules[uUe,uUa,uUb,uUc,uUd]) hu3));clear hu3;go_wp2;go_ret;exact⟨rfl,HU3.out⟩
end
end Go.Proofs.YthoemdibbldndaaGreatDoor
