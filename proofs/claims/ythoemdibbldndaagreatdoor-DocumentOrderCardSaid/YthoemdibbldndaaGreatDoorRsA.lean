/- Plain: the elements of a resource's raw value, and the pieces that the maker writes. -/
import Derived.Test.YthoemdibbldndaaGreatDoorShelf
import Derived.Test.YthoemdibbldndaaGreatDoorFct
import Derived.Shelf.Strings.SlTrimAscii
import Derived.Lib.IndexBytes
import Derived.BigQuiet
import Derived.IntWalk
import Derived.MapKept
import Derived.Test.YthoemdibbldndaaGreatDoorRefSame
set_option linter.all false
set_option maxHeartbeats 0
set_option maxRecDepth 20000
open Go.Value renaming int->Yp,string->Yq,slice->Yr,bool->Ys,pointer->Yt,tuple->Yu
open Go.IntKind renaming i64->Yv
open Go.Ending renaming returned->Yx
open Go renaming World->YA
namespace Go.Proofs.YthoemdibbldndaaGreatDoor.St
def mV(d:UInt8):Option UInt8:=
 if d.toNat=110 then some 10 else if d.toNat=116 then some 9 else if d.toNat=115 then some 32 else if d.toNat=114 then some 13 else if d.toNat=92 then some 92 else if d.toNat=123 then some 123 else none
def fW(c:UInt8):Bool:=decide (c.toNat=32\/c.toNat=9)
def dV(l:List UInt8):Nat:=(l.takeWhile fW).length
def Ms:List UInt8->El
 | []=>none
 | d :: r'=>if d.toNat=10 then some (0,[],2+dV r')else(mV d).map λe=>(1,[e],2)
def ch:List UInt8->El
 | []=>none
 | c :: r=>
  if c.toNat=10 then none else
  if c.toNat=92 then Ms r else
  if c.toNat=123 then(cR (c :: r)).map λx=>(5,x.1,x.2)else some (1,[c],1)
theorem rG{c:UInt8}{r:List UInt8}(h:c.toNat=10):ch (c :: r)=none:=by rw[ch,if_pos h]
theorem oG{c:UInt8}(h:c.toNat=92):ch [c]=none:=by rw[ch,if_neg (by omega),if_pos h];rfl
theorem kw{c d:UInt8}{r:List UInt8}(h:c.toNat=92)(h2:d.toNat=10):ch (c :: d :: r)=some (0,[],2+dV r):=by rw[ch,if_neg (by omega),if_pos h,Ms,if_pos h2]
theorem np{c d:UInt8}{r:List UInt8}(h:c.toNat=92)(h2:d.toNat≠10):ch (c :: d :: r)=(mV d).map λe=>(1,[e],2):=by rw[ch,if_neg (by omega),if_pos h,Ms,if_neg h2]
theorem nl{c:UInt8}{r:List UInt8}(h:c.toNat=123):ch (c :: r)=(cR (c :: r)).map λx=>(5,x.1,x.2):=by rw[ch,if_neg (by omega),if_neg (by omega),if_pos h]
theorem kx{c:UInt8}{r:List UInt8}(h:c.toNat≠10)(h2:c.toNat≠92)(h3:c.toNat≠123):ch (c :: r)=some (1,[c],1):=by rw[ch,if_neg h,if_neg h2,if_neg h3]
theorem O0(l:List UInt8):dV l<=l.length:=(List.takeWhile_prefix _).length_le
theorem P3{c:UInt8}{r:List UInt8}{k:Int}{t:List UInt8}{n:Nat}(hc:c.toNat=123)(h:(cR (c :: r)).map (λx=>((5:Int),x.1,x.2))=some (k,t,n)):k=5/\1<=n/\n<=(c :: r).length/\t.length<=n:=by
 rcases rK (r:=r) hc with⟨_,hs⟩|⟨m,_,hm,_,hs⟩
 ·rw[hs]at h;cases h
 rw[hs]at h
 split at h
 ·simp only[Option.map_some,Option.some.injEq,Prod.mk.injEq]at h;obtain⟨rfl,rfl,rfl⟩:=h;exact⟨rfl,by omega,by omega,by simp;omega⟩
 cases h
theorem jd{l:List UInt8}{k:Int}{t:List UInt8}{n:Nat}(h:ch l=some (k,t,n)):(k=0\/k=1\/k=5)/\1<=n/\n<=l.length/\t.length<=n:=by
 match l,h with
 | c :: r,h=>
  by_cases h10:c.toNat=10
  ·rw[rG h10]at h;cases h
  by_cases io:c.toNat=92
  ·match r,h with
   | [],h=>rw[oG io]at h;cases h
   | d :: r',h=>
    by_cases hd:d.toNat=10
    ·rw[kw io hd]at h;simp only[Option.some.injEq,Prod.mk.injEq]at h;obtain⟨rfl,rfl,rfl⟩:=h;have:=O0 r'
     exact⟨.inl rfl,by omega,by simp;omega,by simp⟩
    rw[np io hd]at h;cases he:mV d with
    | none=>rw[he]at h;cases h
    | some e=>
     rw[he]at h;simp only[Option.map_some,Option.some.injEq,Prod.mk.injEq]at h;obtain⟨rfl,rfl,rfl⟩:=h;exact⟨.inr (.inl rfl),by omega,by simp,by simp⟩
  by_cases cU:c.toNat=123
  ·rw[nl cU]at h;obtain⟨rfl,h1,h2,h3⟩:=P3 cU h;exact⟨.inr (.inr rfl),h1,h2,h3⟩
  rw[kx h10 io cU]at h;simp only[Option.some.injEq,Prod.mk.injEq]at h;obtain⟨rfl,rfl,rfl⟩:=h;exact⟨.inr (.inl rfl),by omega,by simp,by simp⟩
theorem EF:uW ch:=λ_ _ _ _ h=>⟨(jd h).2.1,(jd h).2.2.1⟩
end Go.Proofs.YthoemdibbldndaaGreatDoor.St
namespace Go.Proofs.YthoemdibbldndaaGreatDoor.St
def gu(c:UInt8):Bool:=decide ((97<=c.toNat/\c.toNat<=122)\/(48<=c.toNat/\c.toNat<=57)\/c.toNat=46\/c.toNat=95\/c.toNat=45)
def bN(l:List UInt8):Nat:=(l.takeWhile gu).length
def cw(l:List UInt8):Nat:=(l.takeWhile (λc=>decide (c.toNat≠10))).length
def di:List UInt8->Nat
 | []=>0
 | c :: r=>if c.toNat=10 then 0 else if c.toNat=92 then(match r with
   | []=>1
   | _ :: r'=>2+di r')else 1+di r
def dR(l:List UInt8):Bool:=match l.dropWhile fW with
 | []=>true
 | c :: _=>decide (c.toNat=10\/c.toNat=35)
def eD(ps:List Pt)(k:List UInt8):Bool:=ps.any λp=>p.1&&decide (p.2.1=k)
def dc(dE:List UInt8->Nat × Int)(d:List UInt8):Nat->Nat->PS->Except (Nat × Int) PS
 | 0,_,s=>.ok s
 | fuel+1,a,s=>
  if d.length<=a then .ok s else
  if dR (d.drop a)then dc dE d fuel (a+cw (d.drop a)+1) s else
  let n:=bN (d.drop a)
  if n=0\/64<n\/((d.drop (a+n)).head?.map UInt8.toNat)≠some 61 then .error (a,2)else
  if eD s.1 (aZ d a (a+n))then .error (a,5)else
  let to:=a+n+1+di (d.drop (a+n+1))
  if(dE (aZ d (a+n+1) to)).2≠0 then .error (a+n+1+(dE (aZ d (a+n+1) to)).1,(dE (aZ d (a+n+1) to)).2)else
  dc dE d fuel (to+1) (bk d s (a+n+1) to (aZ d a (a+n)))
def lk(dE:List UInt8->Nat × Int)(d:List UInt8):List Pt × Nat × Int:=
 if 65536<d.length then([],0,3)else
 match dc dE d (d.length+1) 0 ([],0)with
 | .error (a,e)=>([],a,e)
 | .ok s=>(cG d s,0,0)
def dP(d:List UInt8):Except (Nat × Int) PS->List Pt × Nat × Int
 | .error (a,e)=>([],a,e)
 | .ok s=>(cG d s,0,0)
theorem qx{dE:List UInt8->Nat × Int}{d:List UInt8}(h:¬65536<d.length):lk dE d=dP d (dc dE d (d.length+1) 0 ([],0)):=by
 rw[lk,if_neg h];cases dc dE d (d.length+1) 0 ([],0)<;>rfl
section
variable {dE:List UInt8->Nat × Int} {d:List UInt8} {fuel a:Nat} {s:PS}
theorem lK(h:d.length<=a):dc dE d fuel a s=.ok s:=by
 cases fuel with
 | zero=>rfl
 | succ f=>rw[dc,if_pos h]
theorem lL(e:Nat):dc dE d fuel e s=dc dE d fuel (min e d.length) s:=by
 by_cases h:e<=d.length
 ·rw[Nat.min_eq_left h]
 rw[lK (by omega),lK (by omega)]
theorem kv(h:¬d.length<=a)(h1:dR (d.drop a)=true):dc dE d (fuel+1) a s=dc dE d fuel (min (a+cw (d.drop a)+1) d.length) s:=by
 rw[dc,if_neg h,if_pos h1,lL]
theorem sH(h:¬d.length<=a)(h1:dR (d.drop a)=false)(h2:bN (d.drop a)=0\/64<bN (d.drop a)\/((d.drop (a+bN (d.drop a))).head?.map UInt8.toNat)≠some 61):dc dE d (fuel+1) a s=.error (a,2):=by
 rw[dc,if_neg h,if_neg (by rw[h1];decide)];simp only[];rw[if_pos h2]
theorem sI(h:¬d.length<=a)(h1:dR (d.drop a)=false)(h2:¬(bN (d.drop a)=0\/64<bN (d.drop a)\/((d.drop (a+bN (d.drop a))).head?.map UInt8.toNat)≠some 61))(h3:eD s.1 (aZ d a (a+bN (d.drop a)))=true):dc dE d (fuel+1) a s=.error (a,5):=by
 rw[dc,if_neg h,if_neg (by rw[h1];decide)];simp only[];rw[if_neg h2,if_pos h3]
theorem sJ(h:¬d.length<=a)(h1:dR (d.drop a)=false)(h2:¬(bN (d.drop a)=0\/64<bN (d.drop a)\/((d.drop (a+bN (d.drop a))).head?.map UInt8.toNat)≠some 61))(h3:eD s.1 (aZ d a (a+bN (d.drop a)))=false)
  {n b t:Nat} (hn:bN (d.drop a)=n) (hb:a+n+1=b) (ht:b+di (d.drop b)=t) (h4:(dE (aZ d b t)).2≠0):dc dE d (fuel+1) a s=.error (b+(dE (aZ d b t)).1,(dE (aZ d b t)).2):=by
 subst hn hb ht;rw[dc,if_neg h,if_neg (by rw[h1];decide)];simp only[];rw[if_neg h2,if_neg (by rw[h3];decide),if_pos h4]
theorem nT(h:¬d.length<=a)(h1:dR (d.drop a)=false)(h2:¬(bN (d.drop a)=0\/64<bN (d.drop a)\/((d.drop (a+bN (d.drop a))).head?.map UInt8.toNat)≠some 61))(h3:eD s.1 (aZ d a (a+bN (d.drop a)))=false)
  {n b t:Nat} (hn:bN (d.drop a)=n) (hb:a+n+1=b) (ht:b+di (d.drop b)=t) (h4:(dE (aZ d b t)).2=0):dc dE d (fuel+1) a s=dc dE d fuel (min (t+1) d.length) (bk d s b t (aZ d a (a+n))):=by
 subst hn hb ht;rw[dc,if_neg h,if_neg (by rw[h1];decide)];simp only[];rw[if_neg h2,if_neg (by rw[h3];decide),if_neg (by rw[h4];decide),lL]
end
theorem Gm(l:List UInt8):bN l<=l.length:=(List.takeWhile_prefix _).length_le
theorem lC(l:List UInt8):cw l<=l.length:=(List.takeWhile_prefix _).length_le
theorem lP:∀l:List UInt8,di l<=l.length
 | []=>by simp[di]
 | [c]=>by unfold di;split;simp;split<;>simp[di]
 | c :: x :: r=>by
  unfold di;have h1:=lP r;have h2:=lP (x :: r)
  split
  ·simp
  split
  ·simp;omega
  simp at h2 |-;omega
end Go.Proofs.YthoemdibbldndaaGreatDoor.St
namespace Go.Proofs.YthoemdibbldndaaGreatDoor
open Go.RowKit
section
abbrev iw:TypeId:=129
instance:vR iw:=⟨by decide⟩
def pz(d:Nat):List Value:=[Yp Yv d,Yp Yv d]
theorem BV.WM{w:YA}{B b:Nat}{v0 v1 v2 x y u:Value}{ah:List St.It}{tx:List UInt8}{cuts:List Nat}(h:BV iw [x,y] w B b v0 v1 v2 ah tx cuts):BV iw [u,y] (w.setCell ⟨b,3,none⟩ u) B b v0 v1 v2 ah tx cuts:=by
 obtain⟨h0,h1,h2,h3,h4⟩:=h;exact⟨h0,heap_setCell_same w b 3 _ _ u h1,aC h2 (aS h2 h1 (by decide)),aC h3 (aS h3 h1 (by decide)),aC h4 (aS h4 h1 (by decide))⟩
theorem BV.WN{w:YA}{B b:Nat}{v0 v1 v2 x y u:Value}{ah:List St.It}{tx:List UInt8}{cuts:List Nat}(h:BV iw [x,y] w B b v0 v1 v2 ah tx cuts):BV iw [x,u] (w.setCell ⟨b,4,none⟩ u) B b v0 v1 v2 ah tx cuts:=by
 obtain⟨h0,h1,h2,h3,h4⟩:=h;exact⟨h0,heap_setCell_same w b 4 _ _ u h1,aC h2 (aS h2 h1 (by decide)),aC h3 (aS h3 h1 (by decide)),aC h4 (aS h4 h1 (by decide))⟩
theorem ci.mo{w:YA}{B b d:Nat}{ah:List St.It}{tx:List UInt8}{cuts:List Nat}(h:ci iw (pz d) w B b ah tx cuts)(n:Nat)(m m2:Int)(hm:m=n)(hm2:m2=n):ci iw (pz n) ((w.setCell ⟨b,3,none⟩ (Yp Yv m)).setCell ⟨b,4,none⟩ (Yp Yv m2)) B b ah tx cuts:=by
 subst hm hm2;obtain⟨v0,v1,v2,h⟩:=h;exact⟨v0,v1,v2,(BV.WN (BV.WM h))⟩
theorem ci.at{d:Nat}{w:YA}{B b:Nat}{ah:List St.It}{tx:List UInt8}{cuts:List Nat}(h:ci iw (pz d) w B b ah tx cuts):w.cell? ⟨b,3,none⟩=some (Yp Yv d)/\w.cell? ⟨b,4,none⟩=some (Yp Yv d)/\w.frozen? ⟨b,3,none⟩=false/\w.frozen? ⟨b,4,none⟩=false/\b<w.1.size/\B<=b:=by
 obtain⟨v0,v1,v2,h⟩:=h;have hb:=h.2.1;exact⟨aj hb 3,aj hb 4,bu hb 3,bu hb 4,ae hb,h.1⟩
def oP(w:YA)(B b:Nat)(ah:List St.It)(tx:List UInt8)(cuts:List Nat)(d:Nat)(l:List UInt8)(a:Nat)(e:Ending)(w':YA):Prop:=
 Below B w w'/\match St.ch l with
  | none=>e=Yx (Yu #[Yp Yv a,Yp Yv 2])
  | some (k,t,n)=>if k=0 then e=Yx (Yu #[Yp Yv ((a+n:Nat):Int),Yp Yv 0])/\ci iw (pz d) w' B b ah tx cuts else
    if 512<(St.aK (ah++St.cm tx) (k,t,0)).length\/1024<=cuts.length then e=Yx (Yu #[Yp Yv a,Yp Yv 3])else
    e=Yx (Yu #[Yp Yv ((a+n:Nat):Int),Yp Yv 0])/\∃fI jG,ci iw (pz (a+n)) w' B b fI jG (cuts++[d])/\St.fK fI/\fI++St.cm jG=St.aK (ah++St.cm tx) (k,t,0)/\jG.length<=cuts.length+1
section
variable {w:YA} {B b:Nat} {ah:List St.It} {tx:List UInt8} {cuts:List Nat} {d:Nat} {l:List UInt8} {a:Nat} {w':YA}
theorem rF(h:St.ch l=none)(hb:Below B w w'):oP w B b ah tx cuts d l a (Yx (Yu #[Yp Yv a,Yp Yv 2])) w':=by
 refine⟨hb,?_⟩;rw[h]
theorem EB{n:Nat}(h:St.ch l=some (0,[],n))(hb:Below B w w')(hB:ci iw (pz d) w' B b ah tx cuts)(m:Int)(hm:m=((a+n:Nat):Int)):oP w B b ah tx cuts d l a (Yx (Yu #[Yp Yv m,Yp Yv 0])) w':=by
 subst hm;refine⟨hb,?_⟩;rw[h];exact⟨rfl,hB⟩
theorem EC{n:Nat}{c:UInt8}(h:St.ch l=some (1,[c],n))(hN:St.fK ah)(hf:St.aT ah.length tx.length cuts.length true=true)(hb:Below B w w') :
  oP w B b ah tx cuts d l a (Yx (Yu #[Yp Yv a,Yp Yv 3])) w':=by
 refine⟨hb,?_⟩;rw[h];simp only;rw[if_neg (by decide),if_pos ((St.lQ hN c cuts.length).2 hf)];trivial
theorem EA{n:Nat}{c:UInt8}(h:St.ch l=some (1,[c],n))(hN:St.fK ah)(hf:St.aT ah.length tx.length cuts.length true=false)(hb:Below B w w')
  (hB:ci iw (pz (a+n)) w' B b ah (tx++[c]) (cuts++[d])) (ht:tx.length<=cuts.length) (m:Int) (hm:m=((a+n:Nat):Int)):oP w B b ah tx cuts d l a (Yx (Yu #[Yp Yv m,Yp Yv 0])) w':=by
 refine⟨hb,?_⟩;rw[h];simp only;rw[if_neg (by decide),if_neg (λh2=>by rw[(St.lQ hN c cuts.length).1 h2]at hf;cases hf),hm];exact⟨rfl,ah,tx++[c],hB,hN,(St.rQ hN c).symm,by simp;omega⟩
theorem Lg{n:Nat}{t:List UInt8}(h:St.ch l=some (5,t,n))(hf:St.aT ah.length tx.length cuts.length false=true)(hb:Below B w w') :
  oP w B b ah tx cuts d l a (Yx (Yu #[Yp Yv a,Yp Yv 3])) w':=by
 refine⟨hb,?_⟩;rw[h];simp only;rw[if_neg (by decide),if_pos ((St.kc 5 t cuts.length (by decide)).2 hf)];trivial
theorem Nq{n:Nat}{t:List UInt8}(h:St.ch l=some (5,t,n))(hf:St.aT ah.length tx.length cuts.length false=false)(hb:Below B w w')
  (hB:ci iw (pz (a+n)) w' B b (ah++St.cm tx++[(5,t,0)]) [] (cuts++[d])) (m:Int) (hm:m=((a+n:Nat):Int)):oP w B b ah tx cuts d l a (Yx (Yu #[Yp Yv m,Yp Yv 0])) w':=by
 refine⟨hb,?_⟩;rw[h];simp only;rw[if_neg (by decide),if_neg (λh2=>by rw[(St.kc 5 t cuts.length (by decide)).1 h2]at hf;cases hf),hm];exact⟨rfl,_,[],hB,St.my _ 5 t 0 (by decide),by rw[St.rR 5 t (by decide)];simp[St.cm],by simp⟩
end
def qJ(d:UInt8):Value:=match St.mV d with
 | some c=>Yu #[Yp .u8 (c.toNat:Int),Ys true]
 | none=>Yu #[Yp .u8 0,Ys false]
theorem Hx(d:UInt8)(w:YA):Calls Tryz.prog 161 #[Yp .u8 (d.toNat:Int)] w λe w'=>e=Yx (qJ d)/\w=w':=by
 have hd:=d.toNat_lt;rcases(show d.toNat=110\/d.toNat=116\/d.toNat=115\/d.toNat=114\/d.toNat=92\/d.toNat=123\/(d.toNat≠110/\d.toNat≠116/\d.toNat≠115/\d.toNat≠114/\d.toNat≠92/\d.toNat≠123)by omega)with h|h|h|h|h|h|⟨h1,h2,h3,h4,h5,h6⟩
 ·obtain rfl:d=(110:UInt8):=by apply UInt8.toNat_inj.1;simpa using h
  have hv:qJ 110=Yu #[Yp .u8 10,Ys true]:=rfl;rw[hv]
  show Calls Tryz.prog 161 #[Yp .u8 110] w _
  clear hv h hd;go_enter Tryz.func161,Tryz.ntmps161;go_wp2;go_ret2;exact⟨rfl,rfl⟩
 ·obtain rfl:d=(116:UInt8):=by apply UInt8.toNat_inj.1;simpa using h
  have hv:qJ 116=Yu #[Yp .u8 9,Ys true]:=rfl;rw[hv]
  show Calls Tryz.prog 161 #[Yp .u8 116] w _
  clear hv h hd;go_enter Tryz.func161,Tryz.ntmps161;go_wp2;go_ret2;exact⟨rfl,rfl⟩
 ·obtain rfl:d=(115:UInt8):=by apply UInt8.toNat_inj.1;simpa using h
  have hv:qJ 115=Yu #[Yp .u8 32,Ys true]:=rfl;rw[hv]
  show Calls Tryz.prog 161 #[Yp .u8 115] w _
  clear hv h hd;go_enter Tryz.func161,Tryz.ntmps161;go_wp2;go_ret2;exact⟨rfl,rfl⟩
 ·obtain rfl:d=(114:UInt8):=by apply UInt8.toNat_inj.1;simpa using h
  have hv:qJ 114=Yu #[Yp .u8 13,Ys true]:=rfl;rw[hv]
  show Calls Tryz.prog 161 #[Yp .u8 114] w _
  clear hv h hd;go_enter Tryz.func161,Tryz.ntmps161;go_wp2;go_ret2;exact⟨rfl,rfl⟩
 ·obtain rfl:d=(92:UInt8):=by apply UInt8.toNat_inj.1;simpa using h
  have hv:qJ 92=Yu #[Yp .u8 92,Ys true]:=rfl;rw[hv]
  show Calls Tryz.prog 161 #[Yp .u8 92] w _
  clear hv h hd;go_enter Tryz.func161,Tryz.ntmps161;go_wp2;go_ret2;exact⟨rfl,rfl⟩
 ·obtain rfl:d=(123:UInt8):=by apply UInt8.toNat_inj.1;simpa using h
  have hv:qJ 123=Yu #[Yp .u8 123,Ys true]:=rfl;rw[hv]
  show Calls Tryz.prog 161 #[Yp .u8 123] w _
  clear hv h hd;go_enter Tryz.func161,Tryz.ntmps161;go_wp2;go_ret2;exact⟨rfl,rfl⟩
 have hv:qJ d=Yu #[Yp .u8 0,Ys false]:=by unfold qJ St.mV;simp[h1,h2,h3,h4,h5,h6]
 rw[hv];have e1:((d.toNat:Int)==110)=false:=by simp;omega
 have e2:((d.toNat:Int)==116)=false:=by simp;omega
 have e3:((d.toNat:Int)==115)=false:=by simp;omega
 have e4:((d.toNat:Int)==114)=false:=by simp;omega
 have e5:((d.toNat:Int)==92)=false:=by simp;omega
 have e6:((d.toNat:Int)==123)=false:=by simp;omega
 clear hv h1 h2 h3 h4 h5 h6 hd;go_enter Tryz.func161,Tryz.ntmps161;go_wp2;go_ret2;exact⟨rfl,rfl⟩
end
section
theorem nA{P:Program}{ops:Array Oper}{o:Oper}{a:Act}{w:YA}{K:Act->YA->Prop}{Q:Exit->Act->YA->Prop}{E:Prop}
  (hg:o.guard=none) (f:FuncId) (args:Array Value) (Post:Ending->YA->Prop) (hc:Calls P f args w Post)
  (hrun:(execOp a.eval o).run P w=.ok (.enter f args) w) (hK:∀e w',Post e w'->∃v,e=Yx v/\K (a.put o.dst v) w') :
  if Region.wanted o (yielded ops a.tmps)=true then Oper.wp P o a w K Q else E:=by
 have hw:Region.wanted o (yielded ops a.tmps)=true:=by simp[Region.wanted,hg]
 rw[if_pos hw];unfold Oper.wp;rw[hrun];refine hc.mono ?_;intro e w' h;obtain⟨v,rfl,hk⟩:=hK e w' h;exact hk
theorem JO(c:UInt8)(w:YA):Calls Tryz.prog 160 #[Yp .u8 (c.toNat:Int)] w λe w'=>e=Yx (Ys (St.fW c))/\w=w':=by
 by_cases h:c.toNat=32
 ·have hb:St.fW c=true:=decide_eq_true (Or.inl h);have e1:((c.toNat:Int)==32)=true:=by simp;omega
  rw[hb];clear h hb;go_enter Tryz.func160,Tryz.ntmps160;go_wp2;go_ret;exact⟨rfl,rfl⟩
 have e1:((c.toNat:Int)==32)=false:=by simp;omega
 have hb:St.fW c=((c.toNat:Int)==9):=by
  unfold St.fW;rw[Bool.eq_iff_iff];simp;omega
 rw[hb];cases hq:((c.toNat:Int)==9)
 all_goals
  clear h hb;go_enter Tryz.func160,Tryz.ntmps160;go_wp2;go_ret;exact⟨rfl,rfl⟩
def SA(w:YA)(raw:ByteArray)(a:Nat)(dy:Value)(wr:YA):Prop:=∃k:Nat,dy=Yp Yv k/\a+2<=k/\k<=raw.size/\a+2+St.dV (raw.1.1.drop (a+2))=k+St.dV (raw.1.1.drop k)/\wr=w
theorem lf(w:YA)(B b:Nat)(ah:List St.It)(tx:List UInt8)(cuts:List Nat)(d:Nat)(raw:ByteArray)(a:Nat)(h:ci iw (pz d) w B b ah tx cuts)(hN:St.fK ah)(h1:ah.length<=512)(h2:cuts.length<=1024)(h3:tx.length<=cuts.length)(hBw:B<=w.1.size)
  (ha:a<raw.size) (hr:raw.size<=4611686018427387904) :
  Calls Tryz.prog 120 #[Yt (some ⟨b,0,none⟩),Yq raw,Yp Yv a] w (oP w B b ah tx cuts d (raw.1.1.drop a) a):=by
 obtain⟨s,hE⟩:∃s,raw.extract a raw.size=s:=⟨_,rfl⟩;have hsz:s.size=raw.size-a:=by rw[<-hE];simp
 have hs0:0<s.size:=by omega
 have hl:s.1.1=raw.1.1.drop a:=by rw[<-hE];simp;exact List.take_of_length_le (by simp)
 have hcr:s.1.1=s[0] :: s.1.1.drop 1:=St.fF s hs0;have ha1:(a:Int)<=raw.size:=by omega
 have ha2:¬raw.size<a:=by omega
 have hN':=aa hN;obtain⟨g3,g4,gf3,gf4,hblt,hBb0⟩:=h.at;haveI:af b w:=af.of hblt;have mH:=aa (show Below B w w.drew from(Below.refl B w).drew);have Rq:=aa (λc=>oR w.drew B b ah tx cuts c d (h.ai (ac.refl w).drew) (by omega) (by omega) (by omega) (by simpa using hBw));have Vb:=aa (λx=>lA w.drew B b ah tx cuts 5 0 x d (h.ai (ac.refl w).drew) (by omega) (by omega) (by omega) (by simpa using hBw));have H:=aa h;clear h hN
 by_cases bK:s[0].toNat=10
 ·have bB:=aa (St.rG (r:=s.1.1.drop 1) bK);rw[<-hcr,hl]at bB;have e10:((s[0].toNat:Int)==10)=true:=by simp;omega
  clear hcr hl;go_enter Tryz.func120,Tryz.ntmps120;go_wp2;go_ret2;exact rF bB.out (Below.refl _ _)
 have e10:((s[0].toNat:Int)==10)=false:=by simp;omega
 by_cases iR:s[0].toNat=92
 ·have AR:((s[0].toNat:Int)==92)=true:=by simp;omega
  by_cases z1:s.size=1
  ·have hnil:s.1.1.drop 1=[]:=List.drop_of_length_le (by simp;omega);have hsl:=St.oG iR;rw[hnil]at hcr;rw[<-hcr,hl]at hsl;have bB:=aa hsl;have y1:¬(1:Int)<s.size:=by omega
   have y2:(s.size:Int)<2:=by omega
   clear hcr hl hnil hsl;go_enter Tryz.func120,Tryz.ntmps120;go_wp2;go_ret2;exact rF bB.out (Below.refl _ _)
  have hs1:1<s.size:=by omega
  have wh:s.1.1.drop 1=s[1] :: s.1.1.drop 2:=St.drop_at s 1 hs1;have y1:(1:Int)<s.size:=by omega
  have y2:¬(s.size:Int)<2:=by omega
  rw[wh]at hcr
  by_cases d10:s[1].toNat=10
  ·have f10:((s[1].toNat:Int)==10)=true:=by simp;omega
   have hsl:=St.kw (r:=s.1.1.drop 2) iR d10;rw[<-hcr,hl]at hsl;have hdd:(raw.1.1.drop a).drop 2=raw.1.1.drop (a+2):=by rw[List.drop_drop]
   rw[hdd]at hsl;have bB:=aa hsl;have hrs:a+2<=raw.size:=by omega
   clear hcr wh hl hdd hsl;go_enter Tryz.func120,Tryz.ntmps120;go_wp2_with fail;go_loopw [10] (λdy wr=>SA w raw a dy wr) (λdy _=>raw.size-(intOf dy).toNat)
   case atStart=>exact⟨a+2,congrArg (Yp Yv) (by omega),by omega,hrs,rfl,rfl⟩
   case round=>
    obtain⟨k,rfl,hk1,hk2,hk3,rfl⟩:=hrel;have HK:=aa hk3;clear hk3
    by_cases hlt:k<raw.size
    ·have z:(k:Int)<raw.size:=by omega
     have av:=St.drop_at raw k hlt;have hbk:=λW=>JO raw[k] W
     cases hq:St.fW raw[k]
     ·have hn:St.dV (raw.1.1.drop k)=0:=by rw[av];unfold St.dV;rw[List.takeWhile_cons_of_neg (by simp[hq])];rfl
      rw[hq]at hbk;have jO:=aa hbk;have HE:=aa (show a+2+St.dV (raw.1.1.drop (a+2))=k by rw[HK.out,hn];omega);clear av hbk hq hn;go_wp2_with (go_at_call 160;refine(jO.out _).mono ?_;rintro e w' ⟨rfl,rfl⟩);go_ret2;exact EB bB.out (Below.refl _ _) H.out _ (by have:=HE.out;omega)
     have hn:St.dV (raw.1.1.drop k)=1+St.dV (raw.1.1.drop (k+1)):=by rw[av];unfold St.dV;rw[List.takeWhile_cons_of_pos hq];simp;omega
     rw[hq]at hbk;have jO:=aa hbk;have HE:=aa hn;clear av hbk hq hn;go_wp2_with (go_at_call 160;refine(jO.out _).mono ?_;rintro e w' ⟨rfl,rfl⟩);exact⟨⟨k+1,congrArg (Yp Yv) (by omega),by omega,by omega,by rw[HK.out,HE.out];omega,rfl⟩,by simp[intOf];omega⟩
    obtain rfl:k=raw.size:=by omega
    have hn:St.dV (raw.1.1.drop raw.size)=0:=by rw[List.drop_of_length_le (by simp)];rfl
    have HE:=aa (show a+2+St.dV (raw.1.1.drop (a+2))=raw.size by rw[HK.out,hn];omega);clear hn hlt;go_wp2;go_ret2;exact EB bB.out (Below.refl _ _) H.out _ (by have:=HE.out;omega)
  have f10:((s[1].toNat:Int)==10)=false:=by simp;omega
  have hsl:=St.np (r:=s.1.1.drop 2) iR d10;rw[<-hcr,hl]at hsl;have dK:=λW=>Hx s[1] W
  unfold qJ at dK;cases hq:St.mV s[1]with
  | none=>
   rw[hq]at hsl dK;have bB:=aa hsl;have tA:=aa dK;clear hcr wh hl hsl dK hq;go_enter Tryz.func120,Tryz.ntmps120;go_wp2_with (go_at_call 161;refine(tA.out _).mono ?_;rintro e w' ⟨rfl,rfl⟩);go_ret2;exact rF bB.out (Below.refl _ _)
  | some c=>
   rw[hq]at hsl dK;simp only[Option.map_some]at hsl;have bB:=aa hsl;have tA:=aa dK;have Cx:=aa (Rq.out c);clear hcr wh hl hsl dK hq;go_enter Tryz.func120,Tryz.ntmps120;go_wp2_with (go_at_call 161;refine(tA.out _).mono ?_;rintro e w' ⟨rfl,rfl⟩);refine bZ (λ_ _=>True) (λL W=>if L 8=true then(St.aT ah.length tx.length cuts.length true=false->ci iw (pz d) W B b ah (tx++[c]) (cuts++[d]))/\Below B w.drew W else W=w.drew) ([λv _=>v=Yt (some ⟨b,0,none⟩),λv _=>v=Yt (some ⟨b,0,none⟩),λv _=>v=Yt (some ⟨b,0,none⟩),λv _=>v=Yp .u8 (c.toNat:Int),λv _=>v=Yt (some ⟨b,0,none⟩),λv _=>v=Yt (some ⟨b,0,none⟩),λv _=>v=Yt (some ⟨b,3,none⟩),λv _=>v=Yp Yv d,λv _=>v=Ys (!St.aT ah.length tx.length cuts.length true),λv _=>v=Yp Yv a,λv _=>v=Yp Yv ((a:Int)+2),λv _=>v=Ys (!St.aT ah.length tx.length cuts.length true),λv _=>v=Yp Yv ((a:Int)+2)]) (λ_=>trivial) (λ_ _ _ _ _=>trivial) (by kernel_rfl) (by rfl) (by kernel_rfl) (by kernel_rfl) ?frA ?hfrA ?hIA ?hobA ?hendA
   case hfrA=>
    intro ρ;simp only[cf,Act.put,ax,aw,ay,Nat.zero_add,Nat.reduceAdd];exact rfl
   case hIA=>simp
   case hobA=>
    refine aq.cons (λρ L W hR hI hL hD hO hF K hK=>?_) ?_
    ·clear hF hD hO hR;simp only[Act.put,ax,aw,ay]at hK |-;go_simp;refine hK _ _ trivial (by simpa[ar]using hI) (λ_ _=>?_);rfl
    refine aq.cons (λρ L W hR hI hL hD hO hF K hK=>?_) ?_
    ·have f0:=ag hF (j:=0) (by decide);clear hF hD hO hR;simp only[Act.put,ax,aw,ay]at hK |-;have e0:ρ 0=Yt (some ⟨b,0,none⟩):=f0;rw[e0]at hK |-;go_simp;refine hK _ _ trivial (by simpa[ar]using hI) (λ_ _=>?_);rfl
    refine aq.cons (λρ L W hR hI hL hD hO hF K hK=>?_) ?_
    ·have f1:=ag hF (j:=1) (by decide);clear hF hD hO hR;simp only[Act.put,ax,aw,ay]at hK |-;have e1:ρ 1=Yt (some ⟨b,0,none⟩):=f1;rw[e1]at hK |-;go_simp;refine hK _ _ trivial (by simpa[ar]using hI) (λ_ _=>?_);rfl
    refine aq.cons (λρ L W hR hI hL hD hO hF K hK=>?_) ?_
    ·clear hF hD hO hR;simp only[Act.put,ax,aw,ay]at hK |-;go_simp;refine hK _ _ trivial (by simpa[ar]using hI) (λ_ _=>?_);rfl
    refine aq.cons (λρ L W hR hI hL hD hO hF K hK=>?_) ?_
    ·clear hF hD hO hR;simp only[Act.put,ax,aw,ay]at hK |-;go_simp;refine hK _ _ trivial (by simpa[ar]using hI) (λ_ _=>?_);rfl
    refine aq.cons (λρ L W hR hI hL hD hO hF K hK=>?_) ?_
    ·have f4:=ag hF (j:=4) (by decide);clear hF hD hO hR;simp only[Act.put,ax,aw,ay]at hK |-;have e4:ρ 4=Yt (some ⟨b,0,none⟩):=f4;rw[e4]at hK |-;go_simp;refine hK _ _ trivial (by simpa[ar]using hI) (λ_ _=>?_);rfl
    refine aq.cons (λρ L W hR hI hL hD hO hF K hK=>?_) ?_
    ·have f5:=ag hF (j:=5) (by decide);clear hF hD hO hR;simp only[Act.put,ax,aw,ay]at hK |-;have e5:ρ 5=Yt (some ⟨b,0,none⟩):=f5;rw[e5]at hK |-;go_simp;refine hK _ _ trivial (by simpa[ar]using hI) (λ_ _=>?_);rfl
    refine aq.cons (λρ L W hR hI hL hD hO hF K hK=>?_) ?_
    ·have f6:=ag hF (j:=6) (by decide);have kf:L 8=false:=hD.not (p:=8) rfl (by decide) hL;rw[if_neg (by rw[kf];decide)]at hI;subst hI;clear hF hD hO hR;simp only[Act.put,ax,aw,ay]at hK |-;have e6:ρ 6=Yt (some ⟨b,3,none⟩):=f6;rw[e6]at hK |-;go_simp;refine hK _ _ trivial (by simp[ar,kf]) (λ_ _=>?_);rfl
    refine aq.cons (λρ L W hR hI hL hD hO hF K hK=>?_) ?_
    ·have f2:=ag hF (j:=2) (by decide);have f3:=ag hF (j:=3) (by decide);have f7:=ag hF (j:=7) (by decide);rw[if_neg (by rw[hL];decide)]at hI;subst hI;clear hF hD hO hR;simp only[Act.put,ax,aw,ay]at hK |-;have e2:ρ 2=Yt (some ⟨b,0,none⟩):=f2;have e3:ρ 3=Yp .u8 (c.toNat:Int):=f3;have e7:ρ 7=Yp Yv d:=f7;rw[e2,e3,e7]at hK |-;refine nA (o:=⟨some 88,_,_,_,_,_⟩) rfl 162 #[Yt (some ⟨b,0,none⟩),Yp .u8 c.toNat,Yp Yv d] _ Cx.out ?_ ?_
     ·go_simp
     rintro e W2 ⟨rfl,h1,h2⟩;exact⟨_,rfl,hK _ _ trivial (by simp only[ar,if_true];exact⟨h1,h2⟩) (λ_ _=>rfl)⟩
    refine aq.cons (λρ L W hR hI hL hD hO hF K hK=>?_) ?_
    ·clear hF hD hO hR;simp only[Act.put,ax,aw,ay]at hK |-;go_simp;refine hK _ _ trivial (by simpa[ar]using hI) (λ_ _=>?_);rfl
    refine aq.cons (λρ L W hR hI hL hD hO hF K hK=>?_) ?_
    ·have f9:=ag hF (j:=9) (by decide);clear hF hD hO hR;simp only[Act.put,ax,aw,ay]at hK |-;have e9:ρ 9=Yp Yv a:=f9;rw[e9]at hK |-;go_simp;refine hK _ _ trivial (by simpa[ar]using hI) (λ_ _=>?_);exact congrArg (Yp Yv) ((IntWalk.i64_in _ (by omega)).trans (by omega))
    refine aq.cons (λρ L W hR hI hL hD hO hF K hK=>?_) ?_
    ·have f8:=ag hF (j:=8) (by decide);clear hF hD hO hR;simp only[Act.put,ax,aw,ay]at hK |-;have e8:ρ 8=Ys (!St.aT ah.length tx.length cuts.length true):=f8;rw[e8]at hK |-;go_simp;refine hK _ _ trivial (by simpa[ar]using hI) (λ_ _=>?_);rfl
    refine aq.cons (λρ L W hR hI hL hD hO hF K hK=>?_) ?_
    ·have f10:=ag hF (j:=10) (by decide);clear hF hD hO hR;simp only[Act.put,ax,aw,ay]at hK |-;have e10:ρ 10=Yp Yv ((a:Int)+2):=f10;rw[e10]at hK |-;go_simp;refine hK _ _ trivial (by simpa[ar]using hI) (λ_ _=>?_);rfl
    exact aq.nil
   case hendA=>
    intro ρ L W hR hI hL hF;rw[if_pos (hL 8 (by decide))]at hI;obtain⟨_,_,_,_,_,_,_,_,_,_,_,g11,g12,_⟩:=hF;have g11:ρ 11=Ys (!St.aT ah.length tx.length cuts.length true):=g11;have g12:ρ 12=Yp Yv ((a:Int)+2):=g12;rw[g11,g12];clear g11 g12 hR hL;obtain⟨eT,hbl⟩:=hI;have o7:Below B w W:=Below.trans mH.out hbl;have dd:=aa o7;have iE:=aa eT;clear eT hbl o7;cases hfu:St.aT ah.length tx.length cuts.length true
    ·obtain⟨c3,c4,f3,f4,hlt,hBb⟩:=(iE.out hfu).at;haveI:af b W:=af.of hlt;have Ju:=aa ((iE.out hfu).mo (a+2) ((a:Int)+2) ((a:Int)+2) (by omega) (by omega));have tv:=aa hBb;have cC:=aa hfu;clear hfu hBb;go_wp2;go_ret2;exact EA bB.out hN'.out cC.out ((dd.out.setCell (p:=⟨b,3,none⟩) tv.out _).setCell (p:=⟨b,4,none⟩) tv.out _) Ju.out h3 _ (by omega)
    have cC:=aa hfu;clear hfu;go_wp2;go_ret2;exact EC bB.out hN'.out cC.out dd.out
 have AR:((s[0].toNat:Int)==92)=false:=by simp;omega
 by_cases dh:s[0].toNat=123
 ·have tU:((s[0].toNat:Int)==123)=true:=by simp;omega
  have hsl:=St.nl (r:=s.1.1.drop 1) dh;rw[<-hcr]at hsl;have bS:=λW=>Tryz.strings_IndexByte s 125 W
  have me:(125:Int).toNat.toUInt8=125:=rfl;rw[me,hcr]at bS;rcases St.rK (r:=s.1.1.drop 1) dh with⟨hi,hs⟩|⟨n,hi,hn,fi,hs⟩
  ·rw[hi]at bS;rw[<-hcr]at hs;rw[hs,hl]at hsl;have bB:=aa hsl;have ey:=aa bS;clear hsl hcr hl bS hi hs me;go_enter Tryz.func120,Tryz.ntmps120;go_wp2_with fail;refine(ey.out _).mono ?_;rintro e w' ⟨rfl,rfl⟩;go_wp2;go_ret2;exact rF bB.out (Below.refl _ _)
  rw[hi]at bS;have hns:n+1<s.size:=by rw[<-hcr]at hn;simpa using hn
  obtain⟨x,hX⟩:∃x,s.extract 1 (n+1)=x:=⟨_,rfl⟩;have hxl:x.1.1=(s.1.1.drop 1).take n:=by rw[<-hX];simp
  have hxs:x.size<=s.size:=by rw[<-hX];simp;omega
  have bh:=λW=>kI x W (by omega)
  rw[<-hcr,<-hxl]at hs;have z1:(1:Int)<=(n:Int)+1:=by omega
  have z2:(n:Int)+1<=s.size:=by omega
  have z3:¬(n:Int)+1<0:=by omega
  cases hnb:St.aF x.1.1
  ·rw[hnb]at hs bh;simp only[Bool.false_eq_true,if_false]at hs;rw[hs,hl]at hsl;have bB:=aa hsl;have ey:=aa bS;have bz:=aa bh;clear hsl hcr hl bS hi hs me hn fi bh hnb hxl;go_enter Tryz.func120,Tryz.ntmps120;go_wp2_with fail;refine(ey.out _).mono ?_;rintro e w' ⟨rfl,rfl⟩;go_wp2_with fail;refine(bz.out _).mono ?_;rintro e w' ⟨rfl,rfl⟩;go_wp2;go_ret2;exact rF bB.out (Below.refl _ _)
  rw[hnb]at hs bh;simp only[if_true]at hs;rw[hs,hl]at hsl;simp only[Option.map_some]at hsl;have bB:=aa hsl;have ey:=aa bS;have bz:=aa bh;have HIT:=aa (Vb.out x);clear hsl hcr hl bS hi hs me hn fi bh hnb hxl;go_enter Tryz.func120,Tryz.ntmps120;go_wp2_with fail;refine(ey.out _).mono ?_;rintro e w ⟨rfl,rfl⟩;go_wp2_with fail;refine(bz.out _).mono ?_;rintro e w ⟨rfl,rfl⟩;go_wp2_with fail;refine bZ (λ_ _=>True) (λL W=>if L 11=true then(St.aT ah.length tx.length cuts.length false=false->ci iw (pz d) W B b (ah++St.cm tx++[(5,x.1.1,0)]) [] (cuts++[d]))/\Below B w.drew W else W=w.drew) ([λv _=>v=Yt (some ⟨b,0,none⟩),λv _=>v=Yt (some ⟨b,0,none⟩),λv _=>v=Yt (some ⟨b,0,none⟩),λv _=>v=Yq s,λv _=>v=Yp Yv ((n+1:Nat):Int),λv _=>v=Yq x,λv _=>v=.agg #[Yp Yv 5,Yq x,Yp Yv 0],λv _=>v=Yt (some ⟨b,0,none⟩),λv _=>v=Yt (some ⟨b,0,none⟩),λv _=>v=Yt (some ⟨b,3,none⟩),λv _=>v=Yp Yv d,λv _=>v=Ys (!St.aT ah.length tx.length cuts.length false),λv _=>v=Yp Yv a,λv _=>v=Yp Yv ((n+1:Nat):Int),λv _=>v=Yp Yv ((a:Int)+((n+1:Nat):Int)),λv _=>v=Yp Yv ((a:Int)+((n+1:Nat):Int)+1),λv _=>v=Ys (!St.aT ah.length tx.length cuts.length false),λv _=>v=Yp Yv ((a:Int)+((n+1:Nat):Int)+1)]) (λ_=>trivial) (λ_ _ _ _ _=>trivial) (by kernel_rfl) (by rfl) (by kernel_rfl) (by kernel_rfl) ?frC ?hfrC ?hIC ?hobC ?hendC
  case hfrC=>
   intro ρ;simp only[cf,Act.put,ax,aw,ay,Nat.zero_add,Nat.reduceAdd];exact rfl
  case hIC=>simp
  case hobC=>
   refine aq.cons (λρ L W hR hI hL hD hO hF K hK=>?_) ?_
   ·clear hF hD hO hR;simp only[Act.put,ax,aw,ay]at hK |-;go_simp;refine hK _ _ trivial (by simpa[ar]using hI) (λ_ _=>?_);rfl
   refine aq.cons (λρ L W hR hI hL hD hO hF K hK=>?_) ?_
   ·have f0:=ag hF (j:=0) (by decide);clear hF hD hO hR;simp only[Act.put,ax,aw,ay]at hK |-;have e0:ρ 0=Yt (some ⟨b,0,none⟩):=f0;rw[e0]at hK |-;go_simp;refine hK _ _ trivial (by simpa[ar]using hI) (λ_ _=>?_);rfl
   refine aq.cons (λρ L W hR hI hL hD hO hF K hK=>?_) ?_
   ·have f1:=ag hF (j:=1) (by decide);clear hF hD hO hR;simp only[Act.put,ax,aw,ay]at hK |-;have e1:ρ 1=Yt (some ⟨b,0,none⟩):=f1;rw[e1]at hK |-;go_simp;refine hK _ _ trivial (by simpa[ar]using hI) (λ_ _=>?_);rfl
   refine aq.cons (λρ L W hR hI hL hD hO hF K hK=>?_) ?_
   ·clear hF hD hO hR;simp only[Act.put,ax,aw,ay]at hK |-;go_simp;refine hK _ _ trivial (by simpa[ar]using hI) (λ_ _=>?_);rfl
   refine aq.cons (λρ L W hR hI hL hD hO hF K hK=>?_) ?_
   ·clear hF hD hO hR;simp only[Act.put,ax,aw,ay]at hK |-;go_simp;refine hK _ _ trivial (by simpa[ar]using hI) (λ_ _=>?_);rfl
   refine aq.cons (λρ L W hR hI hL hD hO hF K hK=>?_) ?_
   ·have f3:=ag hF (j:=3) (by decide);have f4:=ag hF (j:=4) (by decide);clear hF hD hO hR;simp only[Act.put,ax,aw,ay]at hK |-;have e3:ρ 3=Yq s:=f3;have e4:ρ 4=Yp Yv ((n+1:Nat):Int):=f4;rw[e3,e4]at hK |-;go_simp;refine hK _ _ trivial (by simpa[ar]using hI) (λ_ _=>?_);rfl
   refine aq.cons (λρ L W hR hI hL hD hO hF K hK=>?_) ?_
   ·have f5:=ag hF (j:=5) (by decide);clear hF hD hO hR;simp only[Act.put,ax,aw,ay]at hK |-;have e5:ρ 5=Yq x:=f5;rw[e5]at hK |-;go_simp;refine hK _ _ trivial (by simpa[ar]using hI) (λ_ _=>?_);rfl
   refine aq.cons (λρ L W hR hI hL hD hO hF K hK=>?_) ?_
   ·clear hF hD hO hR;simp only[Act.put,ax,aw,ay]at hK |-;go_simp;refine hK _ _ trivial (by simpa[ar]using hI) (λ_ _=>?_);rfl
   refine aq.cons (λρ L W hR hI hL hD hO hF K hK=>?_) ?_
   ·have f7:=ag hF (j:=7) (by decide);clear hF hD hO hR;simp only[Act.put,ax,aw,ay]at hK |-;have e7:ρ 7=Yt (some ⟨b,0,none⟩):=f7;rw[e7]at hK |-;go_simp;refine hK _ _ trivial (by simpa[ar]using hI) (λ_ _=>?_);rfl
   refine aq.cons (λρ L W hR hI hL hD hO hF K hK=>?_) ?_
   ·have f8:=ag hF (j:=8) (by decide);clear hF hD hO hR;simp only[Act.put,ax,aw,ay]at hK |-;have e8:ρ 8=Yt (some ⟨b,0,none⟩):=f8;rw[e8]at hK |-;go_simp;refine hK _ _ trivial (by simpa[ar]using hI) (λ_ _=>?_);rfl
   refine aq.cons (λρ L W hR hI hL hD hO hF K hK=>?_) ?_
   ·have f9:=ag hF (j:=9) (by decide);have kf:L 11=false:=hD.not (p:=11) rfl (by decide) hL;rw[if_neg (by rw[kf];decide)]at hI;subst hI;clear hF hD hO hR;simp only[Act.put,ax,aw,ay]at hK |-;have e9:ρ 9=Yt (some ⟨b,3,none⟩):=f9;rw[e9]at hK |-;go_simp;refine hK _ _ trivial (by simp[ar,kf]) (λ_ _=>?_);rfl
   refine aq.cons (λρ L W hR hI hL hD hO hF K hK=>?_) ?_
   ·have f2:=ag hF (j:=2) (by decide);have f6:=ag hF (j:=6) (by decide);have f10:=ag hF (j:=10) (by decide);rw[if_neg (by rw[hL];decide)]at hI;subst hI;clear hF hD hO hR;simp only[Act.put,ax,aw,ay]at hK |-;have e2:ρ 2=Yt (some ⟨b,0,none⟩):=f2;have e6:ρ 6=.agg #[Yp Yv 5,Yq x,Yp Yv 0]:=f6;have e10:ρ 10=Yp Yv d:=f10;rw[e2,e6,e10]at hK |-;refine nA (o:=⟨some 118,_,_,_,_,_⟩) rfl 164 #[Yt (some ⟨b,0,none⟩),.agg #[Yp Yv 5,Yq x,Yp Yv 0],Yp Yv d] _ HIT.out ?_ ?_
    ·go_simp
    rintro e W2 ⟨rfl,h1,h2⟩;exact⟨_,rfl,hK _ _ trivial (by simp only[ar,if_true];exact⟨h1,h2⟩) (λ_ _=>rfl)⟩
   refine aq.cons (λρ L W hR hI hL hD hO hF K hK=>?_) ?_
   ·clear hF hD hO hR;simp only[Act.put,ax,aw,ay]at hK |-;go_simp;refine hK _ _ trivial (by simpa[ar]using hI) (λ_ _=>?_);rfl
   refine aq.cons (λρ L W hR hI hL hD hO hF K hK=>?_) ?_
   ·clear hF hD hO hR;simp only[Act.put,ax,aw,ay]at hK |-;go_simp;refine hK _ _ trivial (by simpa[ar]using hI) (λ_ _=>?_);rfl
   refine aq.cons (λρ L W hR hI hL hD hO hF K hK=>?_) ?_
   ·have f12:=ag hF (j:=12) (by decide);have f13:=ag hF (j:=13) (by decide);clear hF hD hO hR;simp only[Act.put,ax,aw,ay]at hK |-;have e12:ρ 12=Yp Yv a:=f12;have J1:ρ 13=Yp Yv ((n+1:Nat):Int):=f13;rw[e12,J1]at hK |-;go_simp;refine hK _ _ trivial (by simpa[ar]using hI) (λ_ _=>?_);exact congrArg (Yp Yv) ((IntWalk.i64_in _ (by omega)).trans (by omega))
   refine aq.cons (λρ L W hR hI hL hD hO hF K hK=>?_) ?_
   ·have f14:=ag hF (j:=14) (by decide);clear hF hD hO hR;simp only[Act.put,ax,aw,ay]at hK |-;have Db:ρ 14=Yp Yv ((a:Int)+((n+1:Nat):Int)):=f14;rw[Db]at hK |-;go_simp;refine hK _ _ trivial (by simpa[ar]using hI) (λ_ _=>?_);exact congrArg (Yp Yv) ((IntWalk.i64_in _ (by omega)).trans (by omega))
   refine aq.cons (λρ L W hR hI hL hD hO hF K hK=>?_) ?_
   ·have f11:=ag hF (j:=11) (by decide);clear hF hD hO hR;simp only[Act.put,ax,aw,ay]at hK |-;have e11:ρ 11=Ys (!St.aT ah.length tx.length cuts.length false):=f11;rw[e11]at hK |-;go_simp;refine hK _ _ trivial (by simpa[ar]using hI) (λ_ _=>?_);rfl
   refine aq.cons (λρ L W hR hI hL hD hO hF K hK=>?_) ?_
   ·have f15:=ag hF (j:=15) (by decide);clear hF hD hO hR;simp only[Act.put,ax,aw,ay]at hK |-;have J2:ρ 15=Yp Yv ((a:Int)+((n+1:Nat):Int)+1):=f15;rw[J2]at hK |-;go_simp;refine hK _ _ trivial (by simpa[ar]using hI) (λ_ _=>?_);rfl
   exact aq.nil
  case hendC=>
   intro ρ L W hR hI hL hF;rw[if_pos (hL 11 (by decide))]at hI;obtain⟨_,_,_,_,_,_,_,_,_,_,_,_,_,_,_,_,g16,g17,_⟩:=hF;have g16:ρ 16=Ys (!St.aT ah.length tx.length cuts.length false):=g16;have g17:ρ 17=Yp Yv ((a:Int)+((n+1:Nat):Int)+1):=g17;rw[g16,g17];clear g16 g17 hR hL;obtain⟨eT,hbl⟩:=hI;have o7:Below B w W:=Below.trans mH.out hbl;have dd:=aa o7;have iE:=aa eT;clear eT hbl o7;cases hfu:St.aT ah.length tx.length cuts.length false
   ·obtain⟨c3,c4,f3,f4,hlt,hBb⟩:=(iE.out hfu).at;haveI:af b W:=af.of hlt;have Ju:=aa ((iE.out hfu).mo (a+(n+2)) ((a:Int)+((n+1:Nat):Int)+1) ((a:Int)+((n+1:Nat):Int)+1) (by omega) (by omega));have tv:=aa hBb;have cC:=aa hfu;clear hfu hBb;go_wp2;go_ret2;exact Nq bB.out cC.out ((dd.out.setCell (p:=⟨b,3,none⟩) tv.out _).setCell (p:=⟨b,4,none⟩) tv.out _) Ju.out _ (by omega)
   have cC:=aa hfu;clear hfu;go_wp2;go_ret2;exact Lg bB.out cC.out dd.out
 have tU:((s[0].toNat:Int)==123)=false:=by simp;omega
 have hsl:=St.kx (r:=s.1.1.drop 1) bK iR dh;rw[<-hcr,hl]at hsl;obtain⟨c,hc⟩:∃c,s[0]=c:=⟨_,rfl⟩;rw[hc]at hsl e10 AR tU;have bB:=aa hsl;have Cx:=aa (Rq.out c);clear hcr hl hsl bK iR dh;go_enter Tryz.func120,Tryz.ntmps120;go_wp2_with fail;refine bZ (λ_ _=>True) (λL W=>if L 9=true then(St.aT ah.length tx.length cuts.length true=false->ci iw (pz d) W B b ah (tx++[c]) (cuts++[d]))/\Below B w.drew W else W=w.drew) ([λv _=>v=Yt (some ⟨b,0,none⟩),λv _=>v=Yt (some ⟨b,0,none⟩),λv _=>v=Yt (some ⟨b,0,none⟩),λv _=>v=Yq s,λv _=>v=Yp .u8 (c.toNat:Int),λv _=>v=Yt (some ⟨b,0,none⟩),λv _=>v=Yt (some ⟨b,0,none⟩),λv _=>v=Yt (some ⟨b,3,none⟩),λv _=>v=Yp Yv d,λv _=>v=Ys (!St.aT ah.length tx.length cuts.length true),λv _=>v=Ys (!St.aT ah.length tx.length cuts.length true)]) (λ_=>trivial) (λ_ _ _ _ _=>trivial) (by kernel_rfl) (by rfl) (by kernel_rfl) (by kernel_rfl) ?frD ?hfrD ?hID ?hobD ?hendD
 case hfrD=>
  intro ρ;simp only[cf,Act.put,ax,aw,ay,Nat.zero_add,Nat.reduceAdd];exact rfl
 case hID=>simp
 case hobD=>
  refine aq.cons (λρ L W hR hI hL hD hO hF K hK=>?_) ?_
  ·clear hF hD hO hR;simp only[Act.put,ax,aw,ay]at hK |-;go_simp;refine hK _ _ trivial (by simpa[ar]using hI) (λ_ _=>?_);rfl
  refine aq.cons (λρ L W hR hI hL hD hO hF K hK=>?_) ?_
  ·have f0:=ag hF (j:=0) (by decide);clear hF hD hO hR;simp only[Act.put,ax,aw,ay]at hK |-;have e0:ρ 0=Yt (some ⟨b,0,none⟩):=f0;rw[e0]at hK |-;go_simp;refine hK _ _ trivial (by simpa[ar]using hI) (λ_ _=>?_);rfl
  refine aq.cons (λρ L W hR hI hL hD hO hF K hK=>?_) ?_
  ·have f1:=ag hF (j:=1) (by decide);clear hF hD hO hR;simp only[Act.put,ax,aw,ay]at hK |-;have e1:ρ 1=Yt (some ⟨b,0,none⟩):=f1;rw[e1]at hK |-;go_simp;refine hK _ _ trivial (by simpa[ar]using hI) (λ_ _=>?_);rfl
  refine aq.cons (λρ L W hR hI hL hD hO hF K hK=>?_) ?_
  ·clear hF hD hO hR;simp only[Act.put,ax,aw,ay]at hK |-;go_simp;refine hK _ _ trivial (by simpa[ar]using hI) (λ_ _=>?_);rfl
  refine aq.cons (λρ L W hR hI hL hD hO hF K hK=>?_) ?_
  ·have f3:=ag hF (j:=3) (by decide);clear hF hD hO hR;simp only[Act.put,ax,aw,ay]at hK |-;have e3:ρ 3=Yq s:=f3;rw[e3]at hK |-;have y0:0<raw.size-a:=by omega
   go_simp;refine hK _ _ trivial (by simpa[ar]using hI) (λ_ _=>?_);rfl
  refine aq.cons (λρ L W hR hI hL hD hO hF K hK=>?_) ?_
  ·clear hF hD hO hR;simp only[Act.put,ax,aw,ay]at hK |-;go_simp;refine hK _ _ trivial (by simpa[ar]using hI) (λ_ _=>?_);rfl
  refine aq.cons (λρ L W hR hI hL hD hO hF K hK=>?_) ?_
  ·have f5:=ag hF (j:=5) (by decide);clear hF hD hO hR;simp only[Act.put,ax,aw,ay]at hK |-;have e5:ρ 5=Yt (some ⟨b,0,none⟩):=f5;rw[e5]at hK |-;go_simp;refine hK _ _ trivial (by simpa[ar]using hI) (λ_ _=>?_);rfl
  refine aq.cons (λρ L W hR hI hL hD hO hF K hK=>?_) ?_
  ·have f6:=ag hF (j:=6) (by decide);clear hF hD hO hR;simp only[Act.put,ax,aw,ay]at hK |-;have e6:ρ 6=Yt (some ⟨b,0,none⟩):=f6;rw[e6]at hK |-;go_simp;refine hK _ _ trivial (by simpa[ar]using hI) (λ_ _=>?_);rfl
  refine aq.cons (λρ L W hR hI hL hD hO hF K hK=>?_) ?_
  ·have f7:=ag hF (j:=7) (by decide);have kf:L 9=false:=hD.not (p:=9) rfl (by decide) hL;rw[if_neg (by rw[kf];decide)]at hI;subst hI;clear hF hD hO hR;simp only[Act.put,ax,aw,ay]at hK |-;have e7:ρ 7=Yt (some ⟨b,3,none⟩):=f7;rw[e7]at hK |-;go_simp;refine hK _ _ trivial (by simp[ar,kf]) (λ_ _=>?_);rfl
  refine aq.cons (λρ L W hR hI hL hD hO hF K hK=>?_) ?_
  ·have f2:=ag hF (j:=2) (by decide);have f4:=ag hF (j:=4) (by decide);have f8:=ag hF (j:=8) (by decide);rw[if_neg (by rw[hL];decide)]at hI;subst hI;clear hF hD hO hR;simp only[Act.put,ax,aw,ay]at hK |-;have e2:ρ 2=Yt (some ⟨b,0,none⟩):=f2;have e4:ρ 4=Yp .u8 (c.toNat:Int):=f4;have e8:ρ 8=Yp Yv d:=f8;rw[e2,e4,e8]at hK |-;refine nA (o:=⟨some 28,_,_,_,_,_⟩) rfl 162 #[Yt (some ⟨b,0,none⟩),Yp .u8 c.toNat,Yp Yv d] _ Cx.out ?_ ?_
   ·go_simp
   rintro e W2 ⟨rfl,h1,h2⟩;exact⟨_,rfl,hK _ _ trivial (by simp only[ar,if_true];exact⟨h1,h2⟩) (λ_ _=>rfl)⟩
  refine aq.cons (λρ L W hR hI hL hD hO hF K hK=>?_) ?_
  ·have f9:=ag hF (j:=9) (by decide);clear hF hD hO hR;simp only[Act.put,ax,aw,ay]at hK |-;have e9:ρ 9=Ys (!St.aT ah.length tx.length cuts.length true):=f9;rw[e9]at hK |-;go_simp;refine hK _ _ trivial (by simpa[ar]using hI) (λ_ _=>?_);rfl
  exact aq.nil
 case hendD=>
  intro ρ L W hR hI hL hF;rw[if_pos (hL 9 (by decide))]at hI;obtain⟨_,_,_,_,_,_,_,_,_,_,g10,_⟩:=hF;have g10:ρ 10=Ys (!St.aT ah.length tx.length cuts.length true):=g10;rw[g10];clear g10 hR hL;obtain⟨eT,hbl⟩:=hI;have o7:Below B w W:=Below.trans mH.out hbl;have dd:=aa o7;have iE:=aa eT;clear eT hbl o7;cases hfu:St.aT ah.length tx.length cuts.length true
  ·obtain⟨c3,c4,f3,f4,hlt,hBb⟩:=(iE.out hfu).at;haveI:af b W:=af.of hlt;have Ju:=aa ((iE.out hfu).mo (a+1) ((a:Int)+1) ((a:Int)+1) (by omega) (by omega));have tv:=aa hBb;have cC:=aa hfu;clear hfu hBb;go_wp2;go_ret2;exact EA bB.out hN'.out cC.out ((dd.out.setCell (p:=⟨b,3,none⟩) tv.out _).setCell (p:=⟨b,4,none⟩) tv.out _) Ju.out h3 _ (by omega)
  have cC:=aa hfu;clear hfu;go_wp2;go_ret2;exact EC bB.out hN'.out cC.out dd.out
end
section
def jc(raw:ByteArray):List St.It × List Nat × Nat × Int:=St.dec St.ch raw.size raw.1.1 0 0 [] []
def qZ(raw:ByteArray)(w:YA)(e:Ending)(w':YA):Prop:=
 ac w w'/\((∃ah tx cuts d,e=Yx (Yu #[Yt (some ⟨w.1.size,0,none⟩),Yp Yv 0,Yp Yv 0])/\ci iw (pz d) w' w.1.size w.1.size ah tx cuts/\ah.length<=512/\cuts.length<=1024/\tx.length<=cuts.length/\jc raw=(ah++St.cm tx,cuts++[d],0,0))\/
  ∃(a:Nat) (er:Int),er≠0/\e=Yx (Yu #[Yt none,Yp Yv a,Yp Yv er])/\jc raw=([],[],a,er))
def Hg(w:YA)(raw:ByteArray)(s6:Value)(wr:YA):Prop:=
 ∃(a d:Nat) (ah:List St.It) (tx:List UInt8) (cuts:List Nat) (fuel:Nat),s6=Yp Yv a/\a<=raw.size/\raw.size-a<=fuel/\ci iw (pz d) wr w.1.size w.1.size ah tx cuts/\St.fK ah/\ah.length<=512/\cuts.length<=1024/\tx.length<=cuts.length /\
  jc raw=St.dec St.ch fuel (raw.1.1.drop a) a d (ah++St.cm tx) cuts/\ac w wr
theorem ci.fresh(w:YA):ci iw (pz 0) (w.alloc (.cells #[Yr none 0 0,Yr none 0 0,Yr none 0 0,Yp Yv 0,Yp Yv 0] 129)) w.1.size w.1.size [] [] []:=
 ⟨_,_,_,Nat.le_refl _,heap_alloc_new w _,World.ownsRow_nil _ _ _ _,World.ownsRow_nil _ _ _ _,World.ownsRow_nil _ _ _ _⟩
theorem kt(raw:ByteArray)(w:YA)(hr:raw.size<=4611686018427387904):Calls Tryz.prog 81 #[Yq raw] w (qZ raw w):=by
 have n6:=aa (ci.fresh w);go_enter Tryz.func81,Tryz.ntmps81;go_wp2;go_loopw [6] (λs6 wr=>Hg w raw s6 wr) (λs6 _=>raw.size+1-(intOf s6).toNat)
 case atStart=>exact⟨0,0,[],[],[],raw.size,rfl,by omega,by omega,n6.out,St.qm,by simp,by simp,by simp,by simp[jc,St.cm],uZ⟩
 case round=>
  obtain⟨a,d,ah,tx,cuts,fuel,rfl,ha,hfu,hB,hN,h1,h2,h3,hD,hu⟩:=hrel;clear n6
  by_cases hlt:a<raw.size
  ·have hel:=lf wr w.1.size w.1.size ah tx cuts d raw a hB hN h1 h2 h3 hu.size hlt hr;have jR:=aa hel;have HD:=aa hD;have HU:=aa hu;have HN:=aa hN
   have h0:raw.1.1.drop a≠[]:=by
    intro e;have:=congrArg List.length e
    simp at this;omega
   obtain⟨fuel,rfl⟩:∃m,fuel=m+1:=⟨fuel-1,by omega⟩;clear hel hB hN hD hu;go_wp2_with fail;refine jR.out.mono ?_;rintro e w2 ⟨hbl,hm⟩;have hu2:ac w w2:=ac.cy (Below.trans HU.out.below hbl);have aX:=aa hu2;clear hbl hu2;cases hs:St.ch (raw.1.1.drop a)with
   | none=>
    rw[hs]at hm;subst hm;have hd2:=HD.out.trans (St.oX fuel a d _ cuts h0 hs);have du:=aa hd2;clear hd2 hs h0;go_wp2;go_ret3;exact⟨aX.out,.inr ⟨a,2,by decide,rfl,du.out⟩⟩
   | some x=>
    obtain⟨k,t,n⟩:=x;rw[hs]at hm;simp only at hm;obtain⟨_,jk,fD,_⟩:=St.jd hs;have ph:a+n<=raw.size:=by simp at fD;omega
    have jj:(raw.1.1.drop a).drop n=raw.1.1.drop (a+n):=by rw[List.drop_drop]
    by_cases ic:k=0
    ·rw[if_pos ic]at hm;obtain⟨rfl,hB'⟩:=hm;subst ic;have hd2:=HD.out.trans (St.vX fuel a d _ cuts h0 hs);rw[jj]at hd2;have HE:=aa (And.intro hd2 (And.intro hB' HN.out));clear hd2 hB' hs h0 jj jR HD HU HN;go_wp2;exact⟨⟨a+n,d,ah,tx,cuts,fuel,congrArg (Yp Yv) (by omega),ph,by omega,HE.out.2.1,HE.out.2.2,h1,h2,h3,HE.out.1,aX.out⟩,by simp[intOf];omega⟩
    rw[if_neg ic]at hm
    split at hm
    ·rename_i hf
     subst hm;have hd2:=HD.out.trans (St.oW fuel a d _ cuts h0 hs ic hf);have du:=aa hd2;clear hd2 hs h0 hf jj;go_wp2;go_ret3;exact⟨aX.out,.inr ⟨a,3,by decide,rfl,du.out⟩⟩
    rename_i hf
    obtain⟨rfl,fI,jG,hB',hN',hadd,ht'⟩:=hm;have hd2:=HD.out.trans (St.oY fuel a d _ cuts h0 hs ic hf);rw[<-hadd]at hd2 hf;rw[jj]at hd2;have Ge:fI.length<=512:=by have:=(not_or.1 hf).1;simp at this;omega
    have Ui:cuts.length+1<=1024:=by have:=(not_or.1 hf).2;omega
    have HE:=aa (And.intro hd2 (And.intro hB' hN'));clear hd2 hB' hN' hadd hf hs h0 jj jR HD HU;go_wp2;exact⟨⟨a+n,a+n,fI,jG,cuts++[d],fuel,congrArg (Yp Yv) (by omega),ph,by omega,HE.out.2.1,HE.out.2.2,Ge,by simp;omega,by simp;omega,HE.out.1,aX.out⟩,by simp[intOf];omega⟩
  have xT:a=raw.size:=by omega
  subst xT;have hnil:raw.1.1.drop raw.size=[]:=List.drop_of_length_le (by simp);rw[hnil,St.rj]at hD;have HE:=aa (And.intro hu (And.intro hB hD));clear hlt hB hN hD hu hnil;go_wp2;go_ret3;exact⟨HE.out.1,.inl ⟨ah,tx,cuts,d,rfl,HE.out.2.1,h1,h2,h3,HE.out.2.2⟩⟩
def j2(R:List St.It × List Nat × Nat × Int)(w:YA)(e:Ending)(w':YA):Prop:=
 ∃(A:Option Addr) (c:Nat),e=Yx (Yu #[Yr A R.1.length c,Yp Yv (R.2.2.1:Int),Yp Yv R.2.2.2])/\aJ w' A R.1/\R.1.length<=c/\c<=9223372036854775807/\ac w w'
def eY(R:List St.It × List Nat × Nat × Int)(w:YA)(e:Ending)(w':YA):Prop:=
 ∃(A:Option Addr) (c:Nat),e=Yx (Yu #[Yr A R.2.1.length c,Yp Yv R.2.2.2])/\iP w' A R.2.1/\R.2.1.length<=c/\c<=9223372036854775807/\ac w w'
theorem vK(raw:ByteArray)(w:YA)(hr:raw.size<=4611686018427387904):Calls Tryz.prog 43 #[Yq raw] w (j2 (jc raw) w):=by
 have HR:=aa (kt raw w hr);go_enter Tryz.func43,Tryz.ntmps43;go_wp2_with fail;refine HR.out.mono ?_;rintro e w2 ⟨hu,⟨ah,tx,cuts,d,rfl,hB,h1,h2,h3,hD⟩|⟨a,er,her,rfl,hD⟩⟩
 ·have HI:=aa (qi w2 w.1.size w.1.size ah tx cuts hB (by omega) (by omega) hu.size);have HU:=aa hu;have HD:=aa hD;clear hu hB hD HR;go_wp2_with fail;refine HI.out.mono ?_;rintro e w3 ⟨A,c,rfl,hI,hc1,hc2,hbl⟩;have HE:=aa (And.intro hI (ac.cy (Below.trans HU.out.below hbl)));have pd:=aa hc1;clear hI hbl hc1;go_wp2;go_ret3;unfold j2;rw[HD.out];exact⟨A,c,by simp only[List.length_append];rfl,HE.out.1,pd.out,hc2,HE.out.2⟩
 have hb:(er==0)=false:=by simpa using her
 have HU:=aa hu;have HD:=aa hD;clear hu hD HR;go_wp2;go_ret3;unfold j2;rw[HD.out];exact⟨none,0,rfl,λh=>absurd h (by simp),by simp,by omega,HU.out⟩
theorem LX(raw:ByteArray)(w:YA)(hr:raw.size<=4611686018427387904):Calls Tryz.prog 71 #[Yq raw] w (eY (jc raw) w):=by
 have HR:=aa (kt raw w hr);go_enter Tryz.func71,Tryz.ntmps71;go_wp2_with fail;refine HR.out.mono ?_;rintro e w2 ⟨hu,⟨ah,tx,cuts,d,rfl,hB,h1,h2,h3,hD⟩|⟨a,er,her,rfl,hD⟩⟩
 ·have HI:=aa (pV w2.drew w.1.size w.1.size ah tx cuts d (hB.ai (ac.refl w2).drew) (by omega) (by simpa using hu.size));have HU:=aa hu;have HD:=aa hD;obtain⟨c3,c4,f3,f4,hlt,hBb⟩:=hB.at;haveI:af w.1.size w2:=af.of hlt;have xV:Below w.1.size w2 w2.drew:=(Below.refl _ w2).drew;clear hu hB hD HR;go_wp2_with fail;go_region_law (refine nA rfl 112 #[Yt (some ⟨w.1.size,0,none⟩),Yp Yv d] _ HI.out ?_ ?_;(· go_simp);rintro e w3 ⟨A,c,rfl,hI,hc1,hc2,hbl⟩;refine⟨_,rfl,?_⟩)
  all_goals
   have HE:=aa (And.intro hI (ac.cy (Below.trans (Below.trans HU.out.below xV) hbl)));have pd:=aa hc1;clear hI hbl hc1;go_wp2;refine bodyPost_ret (v:=Yu #[Yr A (cuts.length+1) c,Yp Yv 0]) (by simp[results,Tryz.results71,go_sem]<;>exact⟨rfl,rfl⟩) rfl ?_;unfold eY;rw[HD.out];exact⟨A,c,by simp,HE.out.1,by simpa using pd.out,hc2,HE.out.2⟩
 have hb:(er==0)=false:=by simpa using her
 have HU:=aa hu;have HD:=aa hD;clear hu hD HR;go_wp2;go_ret2;unfold eY;rw[HD.out];exact⟨none,0,rfl,λh=>absurd h (by simp),by simp,by omega,HU.out⟩
def dE(l:List UInt8):Nat × Int:=((St.dec St.ch l.length l 0 0 [] []).2.2.1,(St.dec St.ch l.length l 0 0 [] []).2.2.2)
theorem lm(x:ByteArray):dE x.1.1=((jc x).2.2.1,(jc x).2.2.2):=by
 unfold dE jc;rw[St.aB]
theorem ri:∀(fuel:Nat) (l:List UInt8) (a d:Nat) (f:List St.It) (cuts:List Nat),(St.dec St.ch fuel l a d f cuts).2.2.1<=a+l.length
 | 0,l,a,d,f,cuts=>by simp[St.dec]
 | fuel+1,l,a,d,f,cuts=>by
  by_cases h0:l=[]
  ·subst h0;rw[St.rj];simp
  cases hs:St.ch l with
  | none=>rw[St.oX fuel a d f cuts h0 hs];simp
  | some x=>
   obtain⟨k,t,n⟩:=x;obtain⟨_,jk,fD,_⟩:=St.jd hs
   by_cases hk:k=0
   ·subst hk;rw[St.vX fuel a d f cuts h0 hs];have h:=ri fuel (l.drop n) (a+n) d f cuts;rw[List.length_drop]at h;omega
   by_cases hf:512<(St.aK f (k,t,0)).length\/1024<=cuts.length
   ·rw[St.oW fuel a d f cuts h0 hs (by omega) hf];simp
   rw[St.oY fuel a d f cuts h0 hs (by omega) hf];have h:=ri fuel (l.drop n) (a+n) (a+n) (St.aK f (k,t,0)) (cuts++[d]);rw[List.length_drop]at h;omega
theorem zV(x:ByteArray):(jc x).2.2.1<=x.size:=by
 have:=ri x.size x.1.1 0 0 [] []
 rw[St.aB]at this;unfold jc;omega
end
section
namespace St
theorem DS:∀l:List UInt8,Lib.indexByte l 10=if cw l<l.length then(cw l:Int)else -1
 | []=>rfl
 | c :: l=>by
  unfold Lib.indexByte
  by_cases h:c.toNat=10
  ·have h2:c=10:=by apply UInt8.toNat_inj.1;simpa using h
   subst h2;simp[cw]
  have h2:¬c=10:=λe=>h (by rw[e];rfl)
  have h3:(c==10)=false:=by simpa using h2
  have e:cw (c :: l)=cw l+1:=by unfold cw;rw[List.takeWhile_cons_of_pos (by simpa using h),List.length_cons]
  rw[h3,DS l,e];simp only[List.length_cons,Bool.false_eq_true,if_false]
  by_cases h4:cw l<l.length
  ·rw[if_pos h4,if_neg (by simp<;>omega),if_pos (by omega)];try simp
  rw[if_neg h4,if_pos (by simp),if_neg (by omega)]
theorem Ja(l:List UInt8):dR l=(match (l.take (cw l)).dropWhile fW with | []=>true|c :: _=>decide (c.toNat=35)):=by
 have e:l.take (cw l)=l.takeWhile (λc=>decide (c.toNat≠10)):=(List.prefix_iff_eq_take.1 (List.takeWhile_prefix _)).symm;rw[e];clear e
 induction l with
 | nil=>rfl
 | cons c l ih=>
  unfold dR at ih |-
  by_cases h10:c.toNat=10
  ·have hb:fW c=false:=by unfold fW;exact decide_eq_false (by omega)
   rw[List.takeWhile_cons_of_neg (by simp[h10]),List.dropWhile_cons_of_neg (by simp[hb])];simp[h10]
  rw[List.takeWhile_cons_of_pos (by simpa using h10)]
  by_cases hb:fW c=true
  ·rw[List.dropWhile_cons_of_pos hb,List.dropWhile_cons_of_pos hb];exact ih
  rw[List.dropWhile_cons_of_neg hb,List.dropWhile_cons_of_neg hb];simp[h10]
end St
theorem KS(s:ByteArray)(w:YA):Calls Tryz.prog 167 #[Yq s,Yq ⟨#[10]⟩] w λe w'=>e=Yx (Yp Yv (Lib.indexByte s.1.1 10))/\w'=w:=Tryz.stringslite_Index_one s 10 w
theorem Mi(s:ByteArray)(w:YA)(hs:s.size<=4611686018427387904):Calls Tryz.prog 155 #[Yq s,Yq ⟨#[10]⟩] w λe w'=>∃(x y:ByteArray) (f:Bool),e=Yx (Yu #[Yq x,Yq y,Ys f])/\x.1.1=s.1.1.take (St.cw s.1.1)/\ac w w':=by
 have bS:=λW=>KS s W
 rw[St.DS]at bS;have hle:=St.lC s.1.1;rw[St.aB]at hle
 by_cases h:St.cw s.1.1<s.1.1.length
 ·rw[if_pos h]at bS;have h2:St.cw s.1.1<s.size:=by rw[St.aB]at h;exact h
  have hx:(s.extract 0 (St.cw s.1.1)).1.1=s.1.1.take (St.cw s.1.1):=by rw[Lib.extract_data];simp
  generalize St.cw s.1.1=n at *;have HX:=aa hx;have ey:=aa bS;have y1:(n:Int)<=s.size:=by omega
  have y2:(n:Int)+1<=s.size:=by omega
  clear hx bS h hle;go_enter Tryz.func155,Tryz.ntmps155;go_wp2_with (go_at_call 167;refine(ey.out _).mono ?_;rintro e w' ⟨rfl,rfl⟩);go_quiet (fail);go_wp2;go_ret3;exact⟨_,_,_,rfl,HX.out,(ac.refl _).drewN _⟩
 rw[if_neg h]at bS;have hx:s.1.1=s.1.1.take (St.cw s.1.1):=(List.take_of_length_le (by omega)).symm;generalize St.cw s.1.1=n at *;have HX:=aa hx;have ey:=aa bS;clear hx bS h hle;go_enter Tryz.func155,Tryz.ntmps155;go_wp2_with (go_at_call 167;refine(ey.out _).mono ?_;rintro e w' ⟨rfl,rfl⟩);go_ret3;exact⟨_,_,_,rfl,HX.out,ac.refl _⟩
theorem O2(s:ByteArray)(w:YA)(hs:s.size<=4611686018427387904):Calls Tryz.prog 118 #[Yq s,Yq ⟨#[10]⟩] w λe w'=>∃(x y:ByteArray) (f:Bool),e=Yx (Yu #[Yq x,Yq y,Ys f])/\x.1.1=s.1.1.take (St.cw s.1.1)/\ac w w':=by
 have HC:=aa (Mi s w hs);go_enter Tryz.func118,Tryz.ntmps118;go_wp2_with fail;refine HC.out.mono ?_;rintro e w' ⟨x,y,f,rfl,hx,hu⟩;have HX:=aa hx;have HU:=aa hu;clear hu;clear hx;go_wp2
 first|go_ret|go_ret3
 exact⟨x,y,f,rfl,HX.out,HU.out⟩
theorem NM(s:ByteArray)(w:YA):Calls Tryz.prog 119 #[Yq s,Yq ⟨#[32,9]⟩] w λe w'=>∃x:ByteArray,e=Yx (Yq x)/\x.1.1=s.1.1.dropWhile St.fW/\ac w w':=by
 have h:=Any.strings_TrimLeft_laid Tryz.Pr (by kernel_rfl) s ⟨#[32,9]⟩ w (by decide) (ascii_of_all (by decide));refine Calls.mono (show Calls Tryz.prog 119 _ _ _ from h) ?_;rintro e w' ⟨rfl,hb⟩;refine⟨_,rfl,?_,ac.cy hb⟩
 have e:(λc:UInt8=>([32,9]:List UInt8).contains c)=St.fW:=by
  funext c
  unfold St.fW;rw[Bool.eq_iff_iff];simp only[List.contains_iff_mem,List.mem_cons,List.not_mem_nil,or_false,decide_eq_true_eq];constructor
  ·rintro (rfl|rfl)<;>simp
  rintro (h|h)
  ·exact .inl (by apply UInt8.toNat_inj.1;simpa using h)
  exact .inr (by apply UInt8.toNat_inj.1;simpa using h)
 show Lib.trimLeftS s.1.1 [32,9]=_
 unfold Lib.trimLeftS;exact congrArg (λp=>s.1.1.dropWhile p) e
theorem FA(d:ByteArray)(a:Nat)(w:YA)(ha:a<=d.size)(hd:d.size<=4611686018427387904) :
  Calls Tryz.prog 76 #[Yq d,Yp Yv a] w λe w'=>e=Yx (Yu #[Yp Yv ((min (a+St.cw (d.1.1.drop a)+1) d.size:Nat):Int),Ys (St.dR (d.1.1.drop a))])/\ac w w':=by
 obtain⟨s,hE⟩:∃s,d.extract a d.size=s:=⟨_,rfl⟩;have hsz:s.size=d.size-a:=by rw[<-hE];simp
 have hl:s.1.1=d.1.1.drop a:=by rw[<-hE];simp;exact List.take_of_length_le (by simp)
 have y1:(a:Int)<=d.size:=by omega
 have Ae:=aa (O2 s w (by omega));rw[<-hl];clear hl;go_enter Tryz.func76,Tryz.ntmps76;go_wp2_with fail;refine Ae.out.mono ?_;rintro e w1 ⟨x,y,f,rfl,hx,hu0⟩;have gj:=aa hu0;clear hu0
 have hxs:x.size=St.cw s.1.1:=by
  rw[<-St.aB,hx,List.length_take];have:=St.lC s.1.1
  omega
 have hle:=St.lC s.1.1;rw[St.aB,<-hxs]at hle;have QC:=aa (NM x w1);have hsk:=St.Ja s.1.1;rw[<-hx]at hsk;have TS:=aa hxs;have Ax:=aa hsk;clear hx hxs hsk Ae;go_wp2_with fail;refine QC.out.mono ?_;rintro e w2 ⟨t,rfl,ht,hu⟩;have HU:=aa (gj.out.trans hu);rw[<-ht]at Ax;have y2:¬9223372036854775807<x.size:=by omega
 have y3:(min (a+x.size+1) d.size:Nat)=min ((a:Int)+x.size+1) d.size:=by omega
 have TT:=aa y3
 by_cases h0:t.size=0
 ·have hnil:t.1.1=[]:=List.eq_nil_of_length_eq_zero (by rw[St.aB];exact h0);have oa:St.dR s.1.1=true:=by rw[Ax.out,hnil]
  have e0:(t.toList==([]:List UInt8))=true:=by rw[Lib.toList_data,hnil];rfl
  have Aw:=aa oa;clear hu ht hnil oa QC Ax y3 h0;go_wp2_with fail;go_quiet (fail);go_wp2;refine bodyPost_ret (v:=Yu #[Yp Yv (min ((a:Int)+x.size+1) d.size),Ys true]) (by simp[results,Tryz.results76,go_sem]) rfl ⟨?_,HU.out.drewN _⟩;rw[<-TS.out,Aw.out,TT.out]
 have hcr:=St.fF t (by omega);have e0:(t.toList==([]:List UInt8))=false:=by rw[Lib.toList_data,hcr];rfl
 have z0:0<t.size:=by omega
 have oa:St.dR s.1.1=((t[0].toNat:Int)==35):=by
  rw[Ax.out,hcr,Bool.eq_iff_iff];simp;omega
 have Aw:=aa oa;clear hu ht hcr oa QC Ax y3 h0;cases hq:((t[0].toNat:Int)==35)
 all_goals
  rw[hq]at Aw;go_wp2_with fail;go_quiet (fail);go_wp2;refine bodyPost_ret (v:=Yu #[Yp Yv (min ((a:Int)+x.size+1) d.size),Ys _]) (by simp[results,Tryz.results76,go_sem];rfl) rfl ⟨?_,HU.out.drewN _⟩;rw[<-TS.out,Aw.out,TT.out]
end
section
namespace St
theorem DZ:bN []=0:=rfl
theorem rz{c:UInt8}{r:List UInt8}(h:gu c=false):bN (c :: r)=0:=by unfold bN;rw[List.takeWhile_cons_of_neg (by simp[h])];rfl
theorem lB{c:UInt8}{r:List UInt8}(h:gu c=true):bN (c :: r)=1+bN r:=by unfold bN;rw[List.takeWhile_cons_of_pos h,List.length_cons];omega
theorem F5{c:UInt8}{r:List UInt8}(h:c.toNat=10):di (c :: r)=0:=by rw[di.eq_def];simp only[];rw[if_pos h]
theorem J4{c:UInt8}(h:c.toNat=92):di [c]=1:=by rw[di.eq_def];simp only[];rw[if_neg (by omega),if_pos h]
theorem J5{c x:UInt8}{r:List UInt8}(h:c.toNat=92):di (c :: x :: r)=2+di r:=by rw[di.eq_def];simp only[];rw[if_neg (by omega),if_pos h]
theorem J6{c:UInt8}{r:List UInt8}(h:c.toNat≠10)(h2:c.toNat≠92):di (c :: r)=1+di r:=by rw[di.eq_def];simp only[];rw[if_neg h,if_neg h2]
theorem M4{c:UInt8}{r:List UInt8}(h:c.toNat=10):cw (c :: r)=0:=by unfold cw;rw[List.takeWhile_cons_of_neg (by simp[h])];rfl
theorem zO{c:UInt8}{r:List UInt8}(h:c.toNat≠10):cw (c :: r)=1+cw r:=by unfold cw;rw[List.takeWhile_cons_of_pos (by simpa using h),List.length_cons];omega
end St
def SY(s:ByteArray)(s3:Value):Prop:=∃k:Nat,s3=Yp Yv k/\k<=65/\k<=s.size/\St.bN s.1.1=k+St.bN (s.1.1.drop k)
theorem Pm(s:ByteArray)(w:YA)(hs:s.size<=4611686018427387904):Calls Tryz.prog 77 #[Yq s] w λe w'=>e=Yx (Yp Yv ((min (St.bN s.1.1) 65:Nat):Int))/\w=w':=by
 go_enter Tryz.func77,Tryz.ntmps77;go_wp2;go_loop [3] (λi=>SY s i) (λi=>66-(intOf i).toNat)
 case atStart=>exact⟨0,rfl,by omega,by omega,by simp⟩
 case round=>
  obtain⟨k,rfl,h1,h2,h3⟩:=hrel;have HK:=aa h3;clear h3
  by_cases hlt:k<s.size
  ·have z:(k:Int)<s.size:=by omega
   by_cases Wh:k<65
   ·have z2:(k:Int)<65:=by omega
    have av:=St.drop_at s k hlt;rcases(show(97<=s[k].toNat/\s[k].toNat<=122)\/(48<=s[k].toNat/\s[k].toNat<=57)\/(s[k].toNat=46)\/(s[k].toNat=95)\/(s[k].toNat=45)\/(s[k].toNat<45\/s[k].toNat=47)\/(58<=s[k].toNat/\s[k].toNat<97/\s[k].toNat≠95)\/(122<s[k].toNat)by omega)with hc|hc|hc|hc|hc|hc|hc|hc
    ·have hk:St.gu s[k]=true:=decide_eq_true (by omega);have y0:97<=(s[k].toNat:Int):=by omega
     have y1:(s[k].toNat:Int)<=122:=by omega
     clear hc;have HE:=aa (show St.bN s.1.1=k+1+St.bN (s.1.1.drop (k+1))by rw[HK.out,av,St.lB hk];omega);clear av hk;go_wp2;go_round
     case rel=>exact⟨k+1,by go_num,by omega,by omega,HE.out⟩
     case measure=>simp[intOf];omega
    ·have hk:St.gu s[k]=true:=decide_eq_true (by omega);have y0:¬97<=(s[k].toNat:Int):=by omega
     have y1:48<=(s[k].toNat:Int):=by omega
     have y2:(s[k].toNat:Int)<=57:=by omega
     clear hc;have HE:=aa (show St.bN s.1.1=k+1+St.bN (s.1.1.drop (k+1))by rw[HK.out,av,St.lB hk];omega);clear av hk;go_wp2;go_round
     case rel=>exact⟨k+1,by go_num,by omega,by omega,HE.out⟩
     case measure=>simp[intOf];omega
    ·have hk:St.gu s[k]=true:=decide_eq_true (by omega);have y0:¬97<=(s[k].toNat:Int):=by omega
     have y1:¬48<=(s[k].toNat:Int):=by omega
     have y2:((s[k].toNat:Int)==46)=true:=by simp;omega
     clear hc;have HE:=aa (show St.bN s.1.1=k+1+St.bN (s.1.1.drop (k+1))by rw[HK.out,av,St.lB hk];omega);clear av hk;go_wp2;go_round
     case rel=>exact⟨k+1,by go_num,by omega,by omega,HE.out⟩
     case measure=>simp[intOf];omega
    ·have hk:St.gu s[k]=true:=decide_eq_true (by omega);have y0:¬97<=(s[k].toNat:Int):=by omega
     have y1:48<=(s[k].toNat:Int):=by omega
     have y2:¬(s[k].toNat:Int)<=57:=by omega
     have y3:((s[k].toNat:Int)==46)=false:=by simp;omega
     have y4:((s[k].toNat:Int)==95)=true:=by simp;omega
     clear hc;have HE:=aa (show St.bN s.1.1=k+1+St.bN (s.1.1.drop (k+1))by rw[HK.out,av,St.lB hk];omega);clear av hk;go_wp2;go_round
     case rel=>exact⟨k+1,by go_num,by omega,by omega,HE.out⟩
     case measure=>simp[intOf];omega
    ·have hk:St.gu s[k]=true:=decide_eq_true (by omega);have y0:¬97<=(s[k].toNat:Int):=by omega
     have y1:¬48<=(s[k].toNat:Int):=by omega
     have y2:((s[k].toNat:Int)==46)=false:=by simp;omega
     have y3:((s[k].toNat:Int)==95)=false:=by simp;omega
     have y4:((s[k].toNat:Int)==45)=true:=by simp;omega
     clear hc;have HE:=aa (show St.bN s.1.1=k+1+St.bN (s.1.1.drop (k+1))by rw[HK.out,av,St.lB hk];omega);clear av hk;go_wp2;go_round
     case rel=>exact⟨k+1,by go_num,by omega,by omega,HE.out⟩
     case measure=>simp[intOf];omega
    ·have hk:St.gu s[k]=false:=decide_eq_false (by omega);have y0:¬97<=(s[k].toNat:Int):=by omega
     have y1:¬48<=(s[k].toNat:Int):=by omega
     have y2:((s[k].toNat:Int)==46)=false:=by simp;omega
     have y3:((s[k].toNat:Int)==95)=false:=by simp;omega
     have y4:((s[k].toNat:Int)==45)=false:=by simp;omega
     clear hc;have HE:=aa (show min (St.bN s.1.1) 65=k by rw[HK.out,av,St.rz hk];omega);clear av hk;go_wp2;go_ret;exact⟨ba (by rw[HE.out]),rfl⟩
    ·have hk:St.gu s[k]=false:=decide_eq_false (by omega);have y0:¬97<=(s[k].toNat:Int):=by omega
     have y1:48<=(s[k].toNat:Int):=by omega
     have y2:¬(s[k].toNat:Int)<=57:=by omega
     have y3:((s[k].toNat:Int)==46)=false:=by simp;omega
     have y4:((s[k].toNat:Int)==95)=false:=by simp;omega
     have y5:((s[k].toNat:Int)==45)=false:=by simp;omega
     clear hc;have HE:=aa (show min (St.bN s.1.1) 65=k by rw[HK.out,av,St.rz hk];omega);clear av hk;go_wp2;go_ret;exact⟨ba (by rw[HE.out]),rfl⟩
    have hk:St.gu s[k]=false:=decide_eq_false (by omega);have y0:97<=(s[k].toNat:Int):=by omega
    have y1:¬(s[k].toNat:Int)<=122:=by omega
    have y2:48<=(s[k].toNat:Int):=by omega
    have y3:¬(s[k].toNat:Int)<=57:=by omega
    have y4:((s[k].toNat:Int)==46)=false:=by simp;omega
    have y5:((s[k].toNat:Int)==95)=false:=by simp;omega
    have y6:((s[k].toNat:Int)==45)=false:=by simp;omega
    clear hc;have HE:=aa (show min (St.bN s.1.1) 65=k by rw[HK.out,av,St.rz hk];omega);clear av hk;go_wp2;go_ret;exact⟨ba (by rw[HE.out]),rfl⟩
   obtain rfl:k=65:=by omega
   have HE:=aa (show min (St.bN s.1.1) 65=65 by rw[HK.out];omega);clear Wh;go_wp2;go_ret;exact⟨ba (by rw[HE.out];rfl),rfl⟩
  obtain rfl:k=s.size:=by omega
  have HE:=aa (show min (St.bN s.1.1) 65=s.size by rw[HK.out,List.drop_of_length_le (by simp),St.DZ];omega);clear hlt;go_wp2;go_ret;exact⟨ba (by rw[HE.out]),rfl⟩
def NX(d:ByteArray)(T:Nat)(s1:Value):Prop:=∃k:Nat,s1=Yp Yv k/\((k<=d.size/\k+St.di (d.1.1.drop k)=T)\/(k=d.size+1/\T=d.size))
theorem Pa(d:ByteArray)(a:Nat)(w:YA)(hd:d.size<=4611686018427387904)(ha:a<=d.size):Calls Tryz.prog 78 #[Yq d,Yp Yv a] w λe w'=>e=Yx (Yp Yv ((a+St.di (d.1.1.drop a):Nat):Int))/\w=w':=by
 obtain⟨T,hT⟩:∃T,a+St.di (d.1.1.drop a)=T:=⟨_,rfl⟩;have Rg:T<=d.size:=by have:=St.lP (d.1.1.drop a);simp at this;omega
 rw[hT];go_enter Tryz.func78,Tryz.ntmps78;go_wp2;go_loop [1] (λi=>NX d T i) (λi=>d.size+2-(intOf i).toNat)
 case atStart=>exact⟨a,rfl,.inl ⟨ha,hT⟩⟩
 case round=>
  clear hT;obtain⟨k,rfl,⟨hk,h3⟩|⟨rfl,rfl⟩⟩:=hrel
  ·have HK:=aa h3;clear h3
   by_cases hlt:k<d.size
   ·have z:(k:Int)<d.size:=by omega
    have av:=St.drop_at d k hlt
    by_cases bK:d[k].toNat=10
    ·have e10:((d[k].toNat:Int)==10)=true:=by simp;omega
     have f10:((d[k].toNat:Int) != 10)=false:=by simp;omega
     have HE:=aa (show T=k by have:=HK.out;rw[av,St.F5 bK]at this;omega);clear av bK;go_wp2;go_ret;exact⟨ba (by have:=HE.out;omega),rfl⟩
    have e10:((d[k].toNat:Int)==10)=false:=by simp;omega
    have f10:((d[k].toNat:Int) != 10)=true:=by simp;omega
    by_cases iR:d[k].toNat=92
    ·have AR:((d[k].toNat:Int)==92)=true:=by simp;omega
     by_cases KC:k+1<d.size
     ·have hc2:=St.drop_at d (k+1) KC;have HE:=aa (show k+2+St.di (d.1.1.drop (k+1+1))=T by have:=HK.out;rw[av,hc2,St.J5 iR]at this;omega);clear av hc2 bK iR;go_wp2;go_round
      case rel=>exact⟨k+2,congrArg (Yp Yv) (by omega),.inl ⟨by omega,HE.out⟩⟩
      case measure=>simp[intOf];omega
     have hc2:d.1.1.drop (k+1)=[]:=List.drop_of_length_le (by simp;omega);have HE:=aa (show T=d.size by have:=HK.out;rw[av,hc2,St.J4 iR]at this;omega);clear av hc2 bK iR;go_wp2;go_round
     case rel=>exact⟨d.size+1,congrArg (Yp Yv) (by omega),.inr ⟨rfl,HE.out⟩⟩
     case measure=>simp[intOf];omega
    have AR:((d[k].toNat:Int)==92)=false:=by simp;omega
    have HE:=aa (show k+1+St.di (d.1.1.drop (k+1))=T by have:=HK.out;rw[av,St.J6 bK iR]at this;omega);clear av bK iR;go_wp2;go_round
    case rel=>exact⟨k+1,congrArg (Yp Yv) (by omega),.inl ⟨by omega,HE.out⟩⟩
    case measure=>simp[intOf];omega
   obtain rfl:k=d.size:=by omega
   have HE:=aa (show T=d.size by have:=HK.out;rw[List.drop_of_length_le (by simp)]at this;exact this.symm);clear hlt;go_wp2;go_ret;exact⟨ba (by have:=HE.out;omega),rfl⟩
  have z:¬((d.size+1:Nat):Int)<d.size:=by omega
  go_wp2;go_ret;exact⟨ba (by omega),rfl⟩
theorem BI(d:ByteArray)(a:Nat)(w:YA)(hd:d.size<=4611686018427387904)(ha:a<=d.size):Calls Tryz.prog 140 #[Yq d,Yp Yv a,Ys true] w λe w'=>e=Yx (Yp Yv ((a+St.di (d.1.1.drop a):Nat):Int))/\w=w':=by
 obtain⟨T,hT⟩:∃T,a+St.di (d.1.1.drop a)=T:=⟨_,rfl⟩;have Rg:T<=d.size:=by have:=St.lP (d.1.1.drop a);simp at this;omega
 rw[hT];go_enter Tryz.func140,Tryz.ntmps140;go_wp2;go_loop [1] (λi=>NX d T i) (λi=>d.size+2-(intOf i).toNat)
 case atStart=>exact⟨a,rfl,.inl ⟨ha,hT⟩⟩
 case round=>
  clear hT;obtain⟨k,rfl,⟨hk,h3⟩|⟨rfl,rfl⟩⟩:=hrel
  ·have HK:=aa h3;clear h3
   by_cases hlt:k<d.size
   ·have z:(k:Int)<d.size:=by omega
    have av:=St.drop_at d k hlt
    by_cases bK:d[k].toNat=10
    ·have e10:((d[k].toNat:Int)==10)=true:=by simp;omega
     have f10:((d[k].toNat:Int) != 10)=false:=by simp;omega
     have HE:=aa (show T=k by have:=HK.out;rw[av,St.F5 bK]at this;omega);clear av bK;go_wp2;go_ret;exact⟨ba (by have:=HE.out;omega),rfl⟩
    have e10:((d[k].toNat:Int)==10)=false:=by simp;omega
    have f10:((d[k].toNat:Int) != 10)=true:=by simp;omega
    by_cases iR:d[k].toNat=92
    ·have AR:((d[k].toNat:Int)==92)=true:=by simp;omega
     by_cases KC:k+1<d.size
     ·have hc2:=St.drop_at d (k+1) KC;have HE:=aa (show k+2+St.di (d.1.1.drop (k+1+1))=T by have:=HK.out;rw[av,hc2,St.J5 iR]at this;omega);clear av hc2 bK iR;go_wp2;go_round
      case rel=>exact⟨k+2,congrArg (Yp Yv) (by omega),.inl ⟨by omega,HE.out⟩⟩
      case measure=>simp[intOf];omega
     have hc2:d.1.1.drop (k+1)=[]:=List.drop_of_length_le (by simp;omega);have HE:=aa (show T=d.size by have:=HK.out;rw[av,hc2,St.J4 iR]at this;omega);clear av hc2 bK iR;go_wp2;go_round
     case rel=>exact⟨d.size+1,congrArg (Yp Yv) (by omega),.inr ⟨rfl,HE.out⟩⟩
     case measure=>simp[intOf];omega
    have AR:((d[k].toNat:Int)==92)=false:=by simp;omega
    have HE:=aa (show k+1+St.di (d.1.1.drop (k+1))=T by have:=HK.out;rw[av,St.J6 bK iR]at this;omega);clear av bK iR;go_wp2;go_round
    case rel=>exact⟨k+1,congrArg (Yp Yv) (by omega),.inl ⟨by omega,HE.out⟩⟩
    case measure=>simp[intOf];omega
   obtain rfl:k=d.size:=by omega
   have HE:=aa (show T=d.size by have:=HK.out;rw[List.drop_of_length_le (by simp)]at this;exact this.symm);clear hlt;go_wp2;go_ret;exact⟨ba (by have:=HE.out;omega),rfl⟩
  have z:¬((d.size+1:Nat):Int)<d.size:=by omega
  go_wp2;go_ret;exact⟨ba (by omega),rfl⟩
def QG(d:ByteArray)(T:Nat)(s1:Value):Prop:=∃k:Nat,s1=Yp Yv k/\k<=d.size/\k+St.cw (d.1.1.drop k)=T
theorem BK(d:ByteArray)(a:Nat)(w:YA)(hd:d.size<=4611686018427387904)(ha:a<=d.size):Calls Tryz.prog 140 #[Yq d,Yp Yv a,Ys false] w λe w'=>e=Yx (Yp Yv ((a+St.cw (d.1.1.drop a):Nat):Int))/\w=w':=by
 obtain⟨T,hT⟩:∃T,a+St.cw (d.1.1.drop a)=T:=⟨_,rfl⟩;have Rg:T<=d.size:=by have:=St.lC (d.1.1.drop a);simp at this;omega
 rw[hT];go_enter Tryz.func140,Tryz.ntmps140;go_wp2;go_loop [1] (λi=>QG d T i) (λi=>d.size+2-(intOf i).toNat)
 case atStart=>exact⟨a,rfl,ha,hT⟩
 case round=>
  clear hT;obtain⟨k,rfl,hk,h3⟩:=hrel;have HK:=aa h3;clear h3
  by_cases hlt:k<d.size
  ·have z:(k:Int)<d.size:=by omega
   have av:=St.drop_at d k hlt
   by_cases bK:d[k].toNat=10
   ·have e10:((d[k].toNat:Int)==10)=true:=by simp;omega
    have f10:((d[k].toNat:Int) != 10)=false:=by simp;omega
    have HE:=aa (show T=k by have:=HK.out;rw[av,St.M4 bK]at this;omega);clear av bK;go_wp2;go_ret;exact⟨ba (by have:=HE.out;omega),rfl⟩
   have e10:((d[k].toNat:Int)==10)=false:=by simp;omega
   have f10:((d[k].toNat:Int) != 10)=true:=by simp;omega
   have HE:=aa (show k+1+St.cw (d.1.1.drop (k+1))=T by have:=HK.out;rw[av,St.zO bK]at this;omega);clear av bK;go_wp2;go_round
   case rel=>exact⟨k+1,congrArg (Yp Yv) (by omega),by omega,HE.out⟩
   case measure=>simp[intOf];omega
  obtain rfl:k=d.size:=by omega
  have HE:=aa (show T=d.size by have:=HK.out;rw[List.drop_of_length_le (by simp)]at this;exact this.symm);clear hlt;go_wp2;go_ret;exact⟨ba (by have:=HE.out;omega),rfl⟩
theorem Fc(c:UInt8)(w:YA):Calls Tryz.prog 141 #[Yp .u8 (c.toNat:Int)] w λe w'=>e=Yx (Ys (St.gu c))/\w=w':=by
 rcases(show(97<=c.toNat/\c.toNat<=122)\/(48<=c.toNat/\c.toNat<=57)\/(c.toNat=46)\/(c.toNat=95)\/(c.toNat=45)\/(c.toNat<45\/c.toNat=47)\/(58<=c.toNat/\c.toNat<97/\c.toNat≠95)\/(122<c.toNat)by omega)with hc|hc|hc|hc|hc|hc|hc|hc
 ·have hk:St.gu c=true:=decide_eq_true (by omega);have y0:97<=(c.toNat:Int):=by omega
  have y1:(c.toNat:Int)<=122:=by omega
  clear hc;rw[hk];clear hk;go_enter Tryz.func141,Tryz.ntmps141;go_wp2;go_ret;exact⟨rfl,rfl⟩
 ·have hk:St.gu c=true:=decide_eq_true (by omega);have y0:¬97<=(c.toNat:Int):=by omega
  have y1:48<=(c.toNat:Int):=by omega
  have y2:(c.toNat:Int)<=57:=by omega
  clear hc;rw[hk];clear hk;go_enter Tryz.func141,Tryz.ntmps141;go_wp2;go_ret;exact⟨rfl,rfl⟩
 ·have hk:St.gu c=true:=decide_eq_true (by omega);have y0:¬97<=(c.toNat:Int):=by omega
  have y1:¬48<=(c.toNat:Int):=by omega
  have y2:((c.toNat:Int)==46)=true:=by simp;omega
  clear hc;rw[hk];clear hk;go_enter Tryz.func141,Tryz.ntmps141;go_wp2;go_ret;exact⟨rfl,rfl⟩
 ·have hk:St.gu c=true:=decide_eq_true (by omega);have y0:¬97<=(c.toNat:Int):=by omega
  have y1:48<=(c.toNat:Int):=by omega
  have y2:¬(c.toNat:Int)<=57:=by omega
  have y3:((c.toNat:Int)==46)=false:=by simp;omega
  have y4:((c.toNat:Int)==95)=true:=by simp;omega
  clear hc;rw[hk];clear hk;go_enter Tryz.func141,Tryz.ntmps141;go_wp2;go_ret;exact⟨rfl,rfl⟩
 ·have hk:St.gu c=true:=decide_eq_true (by omega);have y0:¬97<=(c.toNat:Int):=by omega
  have y1:¬48<=(c.toNat:Int):=by omega
  have y2:((c.toNat:Int)==46)=false:=by simp;omega
  have y3:((c.toNat:Int)==95)=false:=by simp;omega
  have y4:((c.toNat:Int)==45)=true:=by simp;omega
  clear hc;rw[hk];clear hk;go_enter Tryz.func141,Tryz.ntmps141;go_wp2;go_ret;exact⟨rfl,rfl⟩
 ·have hk:St.gu c=false:=decide_eq_false (by omega);have y0:¬97<=(c.toNat:Int):=by omega
  have y1:¬48<=(c.toNat:Int):=by omega
  have y2:((c.toNat:Int)==46)=false:=by simp;omega
  have y3:((c.toNat:Int)==95)=false:=by simp;omega
  have y4:((c.toNat:Int)==45)=false:=by simp;omega
  clear hc;rw[hk];clear hk;go_enter Tryz.func141,Tryz.ntmps141;go_wp2;go_ret;exact⟨rfl,rfl⟩
 ·have hk:St.gu c=false:=decide_eq_false (by omega);have y0:¬97<=(c.toNat:Int):=by omega
  have y1:48<=(c.toNat:Int):=by omega
  have y2:¬(c.toNat:Int)<=57:=by omega
  have y3:((c.toNat:Int)==46)=false:=by simp;omega
  have y4:((c.toNat:Int)==95)=false:=by simp;omega
  have y5:((c.toNat:Int)==45)=false:=by simp;omega
  clear hc;rw[hk];clear hk;go_enter Tryz.func141,Tryz.ntmps141;go_wp2;go_ret;exact⟨rfl,rfl⟩
 have hk:St.gu c=false:=decide_eq_false (by omega);have y0:97<=(c.toNat:Int):=by omega
 have y1:¬(c.toNat:Int)<=122:=by omega
 have y2:48<=(c.toNat:Int):=by omega
 have y3:¬(c.toNat:Int)<=57:=by omega
 have y4:((c.toNat:Int)==46)=false:=by simp;omega
 have y5:((c.toNat:Int)==95)=false:=by simp;omega
 have y6:((c.toNat:Int)==45)=false:=by simp;omega
 clear hc;rw[hk];clear hk;go_enter Tryz.func141,Tryz.ntmps141;go_wp2;go_ret;exact⟨rfl,rfl⟩
def SV(l:List St.Pt)(k:List UInt8)(i:Value):Prop:=∃j:Nat,i=Yp Yv j/\j<=l.length/\St.eD l k=St.eD (l.drop j) k
theorem Kt(p:St.Pt)(l:List St.Pt)(k:List UInt8):St.eD (p :: l) k=((p.1&&decide (p.2.1=k)) || St.eD l k):=by unfold St.eD;rw[List.any_cons]
theorem ou(A:Option Addr)(n c:Nat)(l:List St.Pt)(k:ByteArray)(w:YA)(hn:l.length=n)(hnc:n<=c)(hc:c<=9223372036854775807)(h:a8 w A l):Calls Tryz.prog 142 #[Yr A n c,Yq k] w λe w'=>e=Yx (Ys (St.eD l k.1.1))/\w=w':=by
 have HP:=aa h;clear h;go_enter Tryz.func142,Tryz.ntmps142;go_wp2;go_loop [8] (λi=>SV l k.1.1 i) (λi=>l.length+1-(intOf i).toNat)
 case atStart=>exact⟨0,rfl,by omega,by simp⟩
 case round=>
  obtain⟨j,rfl,hj,h3⟩:=hrel;have HK:=aa h3;clear h3
  by_cases hlt:j<l.length
  ·have z:(j:Int)<n:=by omega
   obtain⟨b,o,rfl,hb,hcl⟩:=HP.out (by omega);obtain⟨x1,x2,x3⟩:=hcl j hlt;haveI:af b w:=af.of hb;have av:l.drop j=l[j] :: l.drop (j+1):=List.drop_eq_getElem_cons hlt;generalize l[j]=p at x1 x2 x3 av;obtain⟨p1,p2,p3⟩:=p;simp only at x1 x2 x3;obtain⟨ky,nN⟩:∃ky:ByteArray,ky=⟨p2.toArray⟩:=⟨_,rfl⟩;rw[<-nN]at x2;have hkl:ky.toList=p2:=by rw[Lib.toList_data,nN]
   have hst:=HK.out;rw[av,Kt]at hst;clear hcl av x3 nN;cases p1
   ·have HE:=aa (show St.eD l k.1.1=St.eD (l.drop (j+1)) k.1.1 by rw[hst];simp);clear hst hkl;go_wp2;exact⟨⟨j+1,by simp,by omega,HE.out⟩,by simp[intOf];omega⟩
   by_cases hq:p2=k.1.1
   ·have e1:(ky.toList==k.toList)=true:=by rw[hkl,Lib.toList_data,hq];simp
    have HE:=aa (show St.eD l k.1.1=true by rw[hst];simp[hq]);clear hst hq hkl;go_wp2;go_ret;exact⟨az HE.out.symm,rfl⟩
   have e1:(ky.toList==k.toList)=false:=by rw[hkl,Lib.toList_data];simpa using hq
   have HE:=aa (show St.eD l k.1.1=St.eD (l.drop (j+1)) k.1.1 by rw[hst];simp[hq]);clear hst hq hkl;go_wp2;exact⟨⟨j+1,by simp,by omega,HE.out⟩,by simp[intOf];omega⟩
  obtain rfl:j=l.length:=by omega
  have z:¬(l.length:Int)<n:=by omega
  have HE:=aa (show St.eD l k.1.1=false by rw[HK.out];simp[St.eD]);clear hlt;go_wp2;go_ret;exact⟨az HE.out.symm,rfl⟩
end
section
def mY:Nat->List (List UInt8)->List MapEntry
 | _,[]=>[]
 | n,p :: l=>{ key:=Yq ⟨p.toArray⟩,val:=Ys true,born:=n } :: mY (n+1) l
theorem Bt(k:List UInt8):∀(l:List (List UInt8)) (n:Nat),mY n (l++[k])=mY n l++[{ key:=Yq ⟨k.toArray⟩,val:=Ys true,born:=n+l.length }]
 | [],n=>by simp[mY]
 | p :: l,n=>by
  simp only[List.cons_append,mY,Bt k l (n+1),List.length_cons];rw[show n+1+l.length=n+(l.length+1)by omega]
def MV(w:YA)(B mb:Nat)(l:List (List UInt8)):Prop:=B<=mb/\w.1[mb]?=some (.map (mY 0 l).toArray l.length)
def mD(w:YA)(mb:Nat)(l:List (List UInt8)):YA:={ w with heap:=w.heap.setIfInBounds mb (.map (mY 0 l).toArray l.length) }
theorem MV.ai{a c:YA}{B mb:Nat}{l:List (List UInt8)}(h:MV a B mb l)(u:ac a c):MV c B mb l:=⟨h.1,(u.below.block mb (ae h.2)).trans h.2⟩
theorem MV.put{w:YA}{B mb:Nat}{l l':List (List UInt8)}(h:MV w B mb l):MV (mD w mb l') B mb l':=by
 refine⟨h.1,?_⟩;have:=ae h.2
 unfold mD;simp[this]
theorem BM(w:YA)(mb:Nat)(l:List (List UInt8)):w.grownBy (mD w mb l) (some mb):=by
 refine⟨rfl,rfl,rfl,by simp[mD],λk hk hne=>?_⟩;unfold mD;simp only;rw[Array.getElem?_setIfInBounds_ne (by intro e;exact hne (by rw[e]))]
theorem wP(k p:List UInt8):Instr.sameNow .string (.string ⟨k.toArray⟩) (.string ⟨p.toArray⟩)=some (decide (k=p)):=by
 unfold Instr.sameNow;have e:((⟨k.toArray⟩:ByteArray)==⟨p.toArray⟩)=(k.toArray==p.toArray):=rfl;simp only[e];congr 1;rw[Bool.eq_iff_iff];simp
theorem rZ(k:List UInt8):∀(l:List (List UInt8)) (n i:Nat),k ∉ l->Instr.findNow .string (.string ⟨k.toArray⟩) (mY n l) i=some none
 | [],n,i,_=>rfl
 | p :: l,n,i,h=>by
  simp only[List.mem_cons,not_or]at h;simp only[mY,Instr.findNow,wP,decide_eq_false h.1];exact rZ k l _ _ h.2
theorem xL(k:List UInt8):∀(l:List (List UInt8)) (n i:Nat),k∈l->∃j,Instr.findNow .string (.string ⟨k.toArray⟩) (mY n l) i=some (some (j,.bool true))
 | [],n,i,h=>by cases h
 | p :: l,n,i,h=>by
  by_cases e:k=p
  ·exact⟨i,by simp only[mY,Instr.findNow,wP,decide_eq_true e]⟩
  obtain⟨j,hj⟩:=xL k l (n+1) (i+1) (by simpa[e]using h);exact⟨j,by simp only[mY,Instr.findNow,wP,decide_eq_false e];exact hj⟩
theorem Ny(w:YA)(B mb:Nat)(l:List (List UInt8))(k:List UInt8)(h:MV w B mb l) :
  (Instr.lookup 115 (.map (some mb)) (Yq ⟨k.toArray⟩) false).run Tryz.prog w=.ok (Ys (decide (k∈l))) w:=by
 have hm:Tryz.prog.underlying 115=some (.map 9 4):=by kernel_rfl
 have hd:Tryz.prog.underlying 9=some .string:=by kernel_rfl
 have hb:=h.2;have hk:MapKept.IsKey .string (.string ⟨k.toArray⟩):=by simp[MapKept.IsKey]
 have hz:(zeroValue 4).run Tryz.prog w=.ok (Ys false) w:=by go_simp
 by_cases hkl:k∈l
 ·obtain⟨j,hf⟩:=xL k l 0 0 hkl;simp[Instr.lookup,run_underlying hm,MapKept.run_getObj_map hb,MapKept.run_checkKey hd hk,MapKept.run_findKey hd hf,Result.andThen,hkl]
 have hf:=rZ k l 0 0 hkl;simp[Instr.lookup,run_underlying hm,MapKept.run_getObj_map hb,MapKept.run_checkKey hd hk,MapKept.run_findKey hd hf,hz,Result.andThen,hkl]
theorem Nz(w:YA)(B mb:Nat)(l:List (List UInt8))(k:List UInt8)(h:MV w B mb l)(hkl:k ∉ l) :
  (Instr.mapUpdate 115 (.map (some mb)) (Yq ⟨k.toArray⟩) (Ys true)).run Tryz.prog w=.ok () (mD w mb (l++[k])):=by
 have hm:Tryz.prog.underlying 115=some (.map 9 4):=by kernel_rfl
 have hd:Tryz.prog.underlying 9=some .string:=by kernel_rfl
 have hb:=h.2;have hk:MapKept.IsKey .string (.string ⟨k.toArray⟩):=by simp[MapKept.IsKey]
 have hf:=rZ k l 0 0 hkl;simp[Instr.mapUpdate,run_underlying hm,MapKept.run_getObj_map hb,MapKept.run_checkKey hd hk,MapKept.run_findKey hd hf,MapKept.run_setObj_map _ hb,Result.andThen];simp[mD,Bt]
end
section
theorem km(d:ByteArray)(w:YA):Calls Tryz.prog 75 #[Yq d] w λe w'=>e=Yx (Yt (some ⟨w.1.size,0,none⟩))/\w'=w.alloc (.cells #[Yq d,Yp Yv 0,Yr none 0 0] 161):=by
 go_enter Tryz.func75,Tryz.ntmps75;go_wp2;go_ret;exact⟨rfl,rfl⟩
def jM(d:ByteArray):List St.Pt × Nat × Int:=St.lk dE d.1.1
def aG(R:List St.Pt × Nat × Int)(w:YA)(e:Ending)(w':YA):Prop:=
 ∃(A:Option Addr) (c:Nat),e=Yx (Yu #[Yr A R.1.length c,Yp Yv (R.2.1:Int),Yp Yv R.2.2])/\a8 w' A R.1/\R.1.length<=c/\c<=9223372036854775807/\ac w w'
theorem aG.err{R:List St.Pt × Nat × Int}{w w':YA}{a:Nat}{er:Int}(h:R=([],a,er))(u:ac w w')(m:Int)(hm:m=a):aG R w (Yx (Yu #[Yr none 0 0,Yp Yv m,Yp Yv er])) w':=by
 subst h hm;exact⟨none,0,rfl,λh=>absurd h (by simp),by simp,by omega,u⟩
def iq(ps:List St.Pt):List (List UInt8):=ps.filterMap λp=>if p.1 then some p.2.1 else none
theorem Be(ps:List St.Pt)(k:List UInt8):St.eD ps k=decide (k∈iq ps):=by
 rw[Bool.eq_iff_iff];unfold St.eD iq;simp only[List.any_eq_true,Bool.and_eq_true,decide_eq_true_eq,List.mem_filterMap];constructor
 ·rintro ⟨p,hp,h1,h2⟩;exact⟨p,hp,by rw[if_pos h1,h2]⟩
 rintro ⟨p,hp,h⟩
 split at h
 ·rename_i h1;exact⟨p,hp,h1,by simpa using h⟩
 cases h
theorem IG(d:List UInt8)(s:St.PS)(a b:Nat)(k:List UInt8):iq (St.bk d s a b k).1=iq s.1++[k]:=by
 unfold St.bk iq;simp
def Tg(w:YA)(d:ByteArray)(s3:Value)(wr:YA):Prop:=
 ∃(a fuel:Nat) (s:St.PS),s3=Yp Yv a/\a<=d.size/\d.size-a<fuel/\s.2<=a/\s.1.length<=2*a/\PV wr w.1.size w.1.size d s/\MV wr w.1.size (w.1.size+1) (iq s.1)/\jM d=St.dP d.1.1 (St.dc dE d.1.1 fuel a s)/\ac w wr
theorem Jn(w:YA)(o p:Obj):ac w ((w.alloc o).alloc p):=uZ
theorem MV.kept{a c:YA}{B mb:Nat}{l:List (List UInt8)}(h:MV a B mb l)(k:nv a c):MV c B mb l:=⟨h.1,k _ _ _ h.2⟩
theorem PV.map{a:YA}{B pb mb:Nat}{d:ByteArray}{s:St.PS}{l l':List (List UInt8)}(h:PV a B pb d s)(hm:MV a B mb l):PV (mD a mb l') B pb d s:=by
 obtain⟨h0,v,h1,h2⟩:=h;have g:=BM a mb l'
 have hne:∀ {cs T fr},a.1[pb]?=some (Obj.cells cs T fr)->pb≠mb:=λhp e=>by
  subst e;rw[hm.2]at hp;cases hp
 refine⟨h0,v,(g.block pb (ae h1) (by simpa using hne h1)).trans h1,h2.kept g ?_⟩;cases hv:v.ownBlock with
 | none=>exact .inl rfl
 | some x=>
  refine .inr λe=>?_
  obtain⟨cs,T,fr,hx,_⟩:=jy h2 [64] (by simp) x hv;simp only[Option.some.injEq]at e;subst e;rw[hm.2]at hx;cases hx
theorem Jp(d:ByteArray)(w:YA)(fq:d.size<=4611686018427387904):Calls Tryz.prog 42 #[Yq d] w (aG (jM d) w):=by
 have hlen:=St.aB d
 by_cases hbig:65536<d.size
 ·have hR:jM d=([],0,3):=by unfold jM St.lk;rw[if_pos (by omega)]
  have HR:=aa hR;have hb:(65536:Int)<d.size:=by omega
  clear hR hlen;go_enter Tryz.func42,Tryz.ntmps42;go_wp2;go_ret3;exact aG.err HR.out (ac.refl _) _ rfl
 have hb:¬(65536:Int)<d.size:=by omega
 have hd:d.size<=65536:=by omega
 have hmk:∀W,(Instr.makeMap 115 none).run Tryz.prog W=.ok (.map (some W.1.size)) (W.alloc (.map #[] 0)):=λ_=>rfl
 have lS:PV ((w.alloc (.cells #[Yq d,Yp Yv 0,Yr none 0 0] 161)).alloc (.map #[] 0)) w.1.size w.1.size d ([],0):=
  PV.ai ⟨Nat.le_refl _,Yr none 0 0,heap_alloc_new w _,World.ownsRow_nil _ _ _ _⟩ ((ac.refl _).alloc _)
 have T9:MV ((w.alloc (.cells #[Yq d,Yp Yv 0,Yr none 0 0] 161)).alloc (.map #[] 0)) w.1.size (w.1.size+1) (iq []):=by
  refine⟨Nat.le_succ _,?_⟩;have:=heap_alloc_new (w.alloc (.cells #[Yq d,Yp Yv 0,Yr none 0 0] 161)) (.map #[] 0)
  simpa[iq,mY]using this
 have ub:jM d=St.dP d.1.1 (St.dc dE d.1.1 (d.size+1) 0 ([],0)):=by
  unfold jM;rw[St.qx (by omega),hlen]
 have jQ:=aa (And.intro lS (And.intro T9 (And.intro ub (Jn w (.cells #[Yq d,Yp Yv 0,Yr none 0 0] 161) (.map #[] 0)))));have HLEN:=aa hlen;clear lS T9 ub hlen;go_enter Tryz.func42,Tryz.ntmps42;go_wp2_with (go_at_call 75;refine(km d _).mono ?_;rintro e w' ⟨rfl,rfl⟩);go_loopw [3] (λs3 wr=>Tg w d s3 wr) (λs3 _=>d.size+1-(intOf s3).toNat)
 case atStart=>exact⟨0,d.size+1,([],0),rfl,by omega,by omega,by simp,by simp,jQ.out.1,jQ.out.2.1,jQ.out.2.2.1,jQ.out.2.2.2⟩
 case round=>
  obtain⟨a,fuel,s,rfl,ha,hfu,hs2,hs1,hP,hM,hS,hu⟩:=hrel;have HP:=aa hP;have HM:=aa hM;have HS:=aa hS;have HU:=aa hu;have hsz:=hu.size;clear hP hM hS hu jQ
  by_cases hlt:a<d.size
  ·obtain⟨fuel,rfl⟩:∃m,fuel=m+1:=⟨fuel-1,by omega⟩;have eu:=aa (show ¬d.1.1.length<=a by rw[HLEN.out];omega);have z:(a:Int)<d.size:=by omega
   have Ax:=aa (FA d a wr ha fq);go_wp2_with fail;refine Ax.out.mono ?_;rintro e w2 ⟨rfl,hu2⟩;have aX:=aa (HU.out.trans hu2);have fS:=aa (HP.out.ai hu2);have Am:=aa (HM.out.ai hu2);have la:=hu2.size;clear hu2 HP HM HU Ax;cases hk:St.dR (d.1.1.drop a)with
   | true=>
    have hst:=St.kv (dE:=dE) (fuel:=fuel) (s:=s) eu.out hk;have iV:=HS.out.trans (congrArg (St.dP d.1.1) hst);rw[HLEN.out]at iV;have HST:=aa iV;generalize St.cw (d.1.1.drop a)=n at HST;clear hst iV hk;go_wp2;exact⟨⟨min (a+n+1) d.size,fuel,s,congrArg (Yp Yv) (by omega),by omega,by omega,by omega,by omega,fS.out,Am.out,HST.out,aX.out⟩,by simp[intOf];omega⟩
   | false=>
    obtain⟨x,hE⟩:∃x,d.extract a d.size=x:=⟨_,rfl⟩;have hxl:x.1.1=d.1.1.drop a:=by rw[<-hE];simp;exact List.take_of_length_le (by simp)
    have hxs:x.size=d.size-a:=by rw[<-hE];simp
    have nN:=λW=>Pm x W (by omega)
    have hkl:=St.Gm (d.1.1.drop a);rw[List.length_drop,HLEN.out]at hkl;have hbad:=λh2=>St.sH (dE:=dE) (fuel:=fuel) (s:=s) eu.out hk h2
    have k7:=λh2 h3=>St.sI (dE:=dE) (fuel:=fuel) (s:=s) eu.out hk h2 h3
    have fZ:=λh2 h3 b t hb ht h4=>St.sJ (dE:=dE) (fuel:=fuel) (s:=s) eu.out hk h2 h3 (b:=b) (t:=t) rfl hb ht h4
    have gU:=λh2 h3 b t hb ht h4=>St.nT (dE:=dE) (fuel:=fuel) (s:=s) eu.out hk h2 h3 (b:=b) (t:=t) rfl hb ht h4
    rw[hxl]at nN;generalize hn:St.bN (d.1.1.drop a)=n at nN hkl hbad k7 fZ gU;have iO:=aa hbad;have G7:=aa k7;have G9:=aa fZ;have Ch:=aa gU;have y1:(a:Int)<=d.size:=by omega
    clear hbad k7 fZ gU hn hxl hk
    by_cases n0:n=0
    ·subst n0;have HR:=aa (HS.out.trans (congrArg (St.dP d.1.1) (iO.out (.inl rfl))));have Ak:=aa nN;clear nN;go_wp2_with fail;refine(Ak.out _).mono ?_;rintro e w3 ⟨rfl,rfl⟩;go_wp2;go_ret3;exact aG.err HR.out aX.out _ rfl
    by_cases WO:64<n
    ·have Bj:min n 65=65:=by omega
     rw[Bj]at nN;have HR:=aa (HS.out.trans (congrArg (St.dP d.1.1) (iO.out (.inr (.inl WO)))));have Ak:=aa nN;clear nN;go_wp2_with fail;refine(Ak.out _).mono ?_;rintro e w3 ⟨rfl,rfl⟩;go_wp2;go_ret3;exact aG.err HR.out aX.out _ rfl
    have Bj:min n 65=n:=by omega
    rw[Bj]at nN;have Ak:=aa nN;have y2:¬(n:Int)<1:=by omega
    have y3:¬(64:Int)<n:=by omega
    clear nN Bj
    by_cases Wr:d.size<=a+n
    ·have y4:(d.size:Int)<=(a:Int)+n:=by omega
     have HR:=aa (HS.out.trans (congrArg (St.dP d.1.1) (iO.out (.inr (.inr (by rw[List.drop_of_length_le (by rw[HLEN.out];exact Wr)];simp))))));go_wp2_with fail;refine(Ak.out _).mono ?_;rintro e w3 ⟨rfl,rfl⟩;go_wp2;go_ret3;exact aG.err HR.out aX.out _ rfl
    have y4:¬(d.size:Int)<=(a:Int)+n:=by omega
    have hal:a+n<d.size:=by omega
    have y5:((a:Int)+n).toNat=a+n:=by omega
    have av:=St.drop_at d (a+n) hal
    by_cases xA:d[a+n].toNat=61
    ·have F2:((d[a+n].toNat:Int)==61)=true:=by simp;omega
     have f61:((d[a+n].toNat:Int) != 61)=false:=by simp;omega
     have fU:¬(n=0\/64<n\/((d.1.1.drop (a+n)).head?.map UInt8.toNat)≠some 61):=by rw[av];simp;omega
     obtain⟨ky,hkyE⟩:∃ky,d.extract a (a+n)=ky:=⟨_,rfl⟩;have hkc:St.aZ d.1.1 a (a+n)=ky.1.1:=by rw[<-hkyE,eW]
     have hget:=λW (h:MV W w.1.size (w.1.size+1) (iq s.1))=>Ny W w.1.size (w.1.size+1) (iq s.1) ky.1.1 h
     rw[bo]at hget;have y6:(a:Int)<=(a:Int)+n:=by omega
     have y7:(a:Int)+n<=d.size:=by omega
     cases hin:decide (ky.1.1∈iq s.1)with
     | true=>
      rw[hin]at hget;have HR:=aa (HS.out.trans (congrArg (St.dP d.1.1) (G7.out fU (by rw[hkc,Be];exact hin))));have hg2:=hget _ Am.out;have HG:=aa hget;clear hget av xA fU hkc hin;go_wp2_with fail;refine(Ak.out _).mono ?_;rintro e w3 ⟨rfl,rfl⟩;go_wp2;go_ret3;exact aG.err HR.out aX.out _ rfl
     | false=>
      rw[hin]at hget;have hkn:ky.1.1 ∉ iq s.1:=of_decide_eq_false hin;have hput:=Nz w2 w.1.size (w.1.size+1) (iq s.1) ky.1.1 Am.out hkn;rw[bo]at hput;have hno:St.eD s.1 (St.aZ d.1.1 a (a+n))=false:=by rw[hkc,Be];exact hin
      have hg2:=hget _ Am.out;have hgb:=BM w2 (w.1.size+1) (iq s.1++[ky.1.1]);have Aq:=aa (fS.out.map (l':=iq s.1++[ky.1.1]) Am.out);have Qq:=aa (Am.out.put (l':=iq s.1++[ky.1.1]));have bm:=aa (aX.out.sr hgb (λg e=>by cases e;exact Nat.le_succ _));obtain⟨w3,hw3⟩:∃w3,mD w2 (w.1.size+1) (iq s.1++[ky.1.1])=w3:=⟨_,rfl⟩;rw[hw3]at hput Aq Qq bm;obtain⟨b,hb'⟩:∃b,a+n+1=b:=⟨_,rfl⟩;have hen:=λW=>Pa d b W fq (by omega)
      obtain⟨t,ht⟩:∃t,b+St.di (d.1.1.drop b)=t:=⟨_,rfl⟩;have htl:t<=d.size:=by have:=St.lP (d.1.1.drop b);simp at this;omega
      have lh:b<=t:=by omega
      rw[ht]at hen;have tY:=G9.out fU hno b t hb' ht;have sZ:=Ch.out fU hno b t hb' ht;rw[hkc]at sZ;obtain⟨x2,hx2⟩:∃x2,d.extract b t=x2:=⟨_,rfl⟩;have hc2:St.aZ d.1.1 b t=x2.1.1:=by rw[<-hx2,eW]
      rw[hc2,lm]at tY sZ;have Iz:x2.size<=d.size:=by rw[<-hx2];simp;omega
      have eI:=λW=>vK x2 W (by omega)
      have nO:=zV x2;have hun:=λW (hp:PV W w.1.size w.1.size d s) (hw:w.1.size<=W.1.size)=>wV W w.1.size w.1.size d ky s b t hp (by omega) lh htl fq (by omega) hw
      have hbz:((b:Nat):Int)=(a:Int)+n+1:=by omega
      have tz:=aa hen;have HH:=aa (And.intro tY sZ);have gY:=aa hun;have b1:(b:Int)<=(t:Int):=by omega
      have b2:(t:Int)<=d.size:=by omega
      generalize jc x2=R at eI HH nO;obtain⟨rf,rc,iK,re⟩:=R;simp only at HH nO;have jg:=aa eI;have VO:=aa (IG d.1.1 s b t ky.1.1);clear hget av xA fU hkc hin hno hen ht hc2 tY sZ eI hun hgb hw3 hkn;rw[hbz]at tz gY;go_wp2_with fail;refine(Ak.out _).mono ?_;rintro e w4 ⟨rfl,rfl⟩;go_wp2_with fail;refine(tz.out _).mono ?_;rintro e w5 ⟨rfl,rfl⟩;go_wp2_with fail;refine(jg.out _).mono ?_;rintro e w6 ⟨A6,c6,rfl,_,_,_,dQ⟩;have dS:=aa (bm.out.trans dQ);have sU:=aa (Aq.out.ai dQ);have TD:=aa (Qq.out.ai dQ);have zF:=dS.out.size;clear dQ bm Aq Qq jg hput hg2
      by_cases hre:re=0
      ·subst hre;go_wp2_with fail;refine(gY.out _ sU.out zF).mono ?_;rintro e w7 ⟨rfl,hp7,hbl7,_,hmk7⟩;have Au:=aa hp7;have VQ:=aa (TD.out.kept hmk7);have mJ:=aa (ac.cy (Below.trans dS.out.below hbl7));have iV:=HS.out.trans (congrArg (St.dP d.1.1) (HH.out.2 (by first|trivial|rfl)));rw[HLEN.out]at iV;have HST:=aa iV;clear hp7 hbl7 hmk7 iV gY sU TD dS;go_wp2;exact⟨⟨min (t+1) d.size,fuel,_,congrArg (Yp Yv) (by omega),by omega,by omega,by simp[St.bk];omega,by simp[St.bk];omega,Au.out,by rw[VO.out];exact VQ.out,HST.out,mJ.out⟩,by simp[intOf];omega⟩
      have Gg:(re==0)=false:=by simpa using hre
      have HR:=aa (HS.out.trans (congrArg (St.dP d.1.1) (HH.out.1 hre)));go_wp2;go_ret3;exact aG.err HR.out dS.out _ (by omega)
    have F2:((d[a+n].toNat:Int)==61)=false:=by simp;omega
    have f61:((d[a+n].toNat:Int) != 61)=true:=by simp;omega
    have HR:=aa (HS.out.trans (congrArg (St.dP d.1.1) (iO.out (.inr (.inr (by rw[av];simp;omega))))));clear av xA;go_wp2_with fail;refine(Ak.out _).mono ?_;rintro e w3 ⟨rfl,rfl⟩;go_wp2;go_ret3;exact aG.err HR.out aX.out _ rfl
  have Kr:a=d.size:=by omega
  have HL:=aa (wB wr w.1.size w.1.size d s HP.out (by omega) (by omega) (by omega) hsz);have HR:=aa (HS.out.trans (show St.dP d.1.1 (St.dc dE d.1.1 fuel a s)=(St.cG d.1.1 s,0,0)by rw[St.lK (by rw[HLEN.out];omega)];rfl));have z:¬(a:Int)<d.size:=by omega
  go_wp2_with fail;refine HL.out.mono ?_;rintro e w3 ⟨A,c,rfl,lT,hq1,hq2,hbl⟩;have HE:=aa (And.intro lT (ac.cy (Below.trans HU.out.below hbl)));have mW:=aa hq1;clear lT hbl hq1 HL;go_wp2;go_ret3;unfold aG;rw[HR.out];exact⟨A,c,by simp[St.cG],HE.out.1,by simpa[St.cG]using mW.out,hq2,HE.out.2⟩
end
section
end
