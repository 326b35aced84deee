/- Plain: the elements of a resource's raw value, and the pieces that the maker writes. -/
import Derived.Test.YthoemdibbldndaaGreatDoorShelf
import Derived.Test.YthoemdibbldndaaGreatDoorFct
import Derived.Shelf.Strings.SlTrimAscii
import Derived.Lib.IndexBytes
import Derived.BigQuiet
import Derived.IntWalk
import Derived.MapKept
import Derived.Test.YthoemdibbldndaaGreatDoorRefSame
set_option linter.all false
set_option maxHeartbeats 0
set_option maxRecDepth 20000
open Go.Value renaming int->UM,string->UN,slice->UO,bool->UP,pointer->UQ,tuple->UR
open Go.IntKind renaming i64->US
open Go.Ending renaming returned->UU
open Go renaming World->UY
namespace Go.Proofs.YthoemdibbldndaaGreatDoor.St
def mf(d:UInt8):Option UInt8:=
 if d.toNat=110 then some 10 else if d.toNat=116 then some 9 else if d.toNat=115 then some 32 else if d.toNat=114 then some 13 else if d.toNat=92 then some 92 else if d.toNat=123 then some 123 else none
def fJ(c:UInt8):Bool:=decide (c.toNat=32\/c.toNat=9)
def dT(l:List UInt8):Nat:=(l.takeWhile fJ).length
def JG:List UInt8->El
 | []=>none
 | d :: r'=>if d.toNat=10 then some (0,[],2+dT r')else(mf d).map λe=>(1,[e],2)
def bX:List UInt8->El
 | []=>none
 | c :: r=>
  if c.toNat=10 then none else
  if c.toNat=92 then JG r else
  if c.toNat=123 then(cJ (c :: r)).map λx=>(5,x.1,x.2)else some (1,[c],1)
theorem qt{c:UInt8}{r:List UInt8}(h:c.toNat=10):bX (c :: r)=none:=by rw[bX,if_pos h]
theorem nV{c:UInt8}(h:c.toNat=92):bX [c]=none:=by rw[bX,if_neg (by omega),if_pos h];rfl
theorem jV{c d:UInt8}{r:List UInt8}(h:c.toNat=92)(h2:d.toNat=10):bX (c :: d :: r)=some (0,[],2+dT r):=by rw[bX,if_neg (by omega),if_pos h,JG,if_pos h2]
theorem my{c d:UInt8}{r:List UInt8}(h:c.toNat=92)(h2:d.toNat≠10):bX (c :: d :: r)=(mf d).map λe=>(1,[e],2):=by rw[bX,if_neg (by omega),if_pos h,JG,if_neg h2]
theorem mx{c:UInt8}{r:List UInt8}(h:c.toNat=123):bX (c :: r)=(cJ (c :: r)).map λx=>(5,x.1,x.2):=by rw[bX,if_neg (by omega),if_neg (by omega),if_pos h]
theorem jW{c:UInt8}{r:List UInt8}(h:c.toNat≠10)(h2:c.toNat≠92)(h3:c.toNat≠123):bX (c :: r)=some (1,[c],1):=by rw[bX,if_neg h,if_neg h2,if_neg h3]
theorem L1(l:List UInt8):dT l<=l.length:=(List.takeWhile_prefix _).length_le
theorem M3{c:UInt8}{r:List UInt8}{k:Int}{t:List UInt8}{n:Nat}(hc:c.toNat=123)(h:(cJ (c :: r)).map (λx=>((5:Int),x.1,x.2))=some (k,t,n)):k=5/\1<=n/\n<=(c :: r).length/\t.length<=n:=by
 rcases qw (r:=r) hc with⟨_,hs⟩|⟨m,_,hm,_,hs⟩
 ·rw[hs]at h;cases h
 rw[hs]at h
 split at h
 ·simp only[Option.map_some,Option.some.injEq,Prod.mk.injEq]at h;obtain⟨rfl,rfl,rfl⟩:=h;exact⟨rfl,by omega,by omega,by simp;omega⟩
 cases h
theorem iJ{l:List UInt8}{k:Int}{t:List UInt8}{n:Nat}(h:bX l=some (k,t,n)):(k=0\/k=1\/k=5)/\1<=n/\n<=l.length/\t.length<=n:=by
 match l,h with
 | c :: r,h=>
  by_cases h10:c.toNat=10
  ·rw[qt h10]at h;cases h
  by_cases gK:c.toNat=92
  ·match r,h with
   | [],h=>rw[nV gK]at h;cases h
   | d :: r',h=>
    by_cases hd:d.toNat=10
    ·rw[jV gK hd]at h;simp only[Option.some.injEq,Prod.mk.injEq]at h;obtain⟨rfl,rfl,rfl⟩:=h;have:=L1 r'
     exact⟨.inl rfl,by omega,by simp;omega,by simp⟩
    rw[my gK hd]at h;cases he:mf d with
    | none=>rw[he]at h;cases h
    | some e=>
     rw[he]at h;simp only[Option.map_some,Option.some.injEq,Prod.mk.injEq]at h;obtain⟨rfl,rfl,rfl⟩:=h;exact⟨.inr (.inl rfl),by omega,by simp,by simp⟩
  by_cases cT:c.toNat=123
  ·rw[mx cT]at h;obtain⟨rfl,h1,h2,h3⟩:=M3 cT h;exact⟨.inr (.inr rfl),h1,h2,h3⟩
  rw[jW h10 gK cT]at h;simp only[Option.some.injEq,Prod.mk.injEq]at h;obtain⟨rfl,rfl,rfl⟩:=h;exact⟨.inr (.inl rfl),by omega,by simp,by simp⟩
theorem B2:th bX:=λ_ _ _ _ h=>⟨(iJ h).2.1,(iJ h).2.2.1⟩
end Go.Proofs.YthoemdibbldndaaGreatDoor.St
namespace Go.Proofs.YthoemdibbldndaaGreatDoor.St
def ga(c:UInt8):Bool:=decide ((97<=c.toNat/\c.toNat<=122)\/(48<=c.toNat/\c.toNat<=57)\/c.toNat=46\/c.toNat=95\/c.toNat=45)
def bG(l:List UInt8):Nat:=(l.takeWhile ga).length
def cg(l:List UInt8):Nat:=(l.takeWhile (λc=>decide (c.toNat≠10))).length
def dc:List UInt8->Nat
 | []=>0
 | c :: r=>if c.toNat=10 then 0 else if c.toNat=92 then(match r with
   | []=>1
   | _ :: r'=>2+dc r')else 1+dc r
def dP(l:List UInt8):Bool:=match l.dropWhile fJ with
 | []=>true
 | c :: _=>decide (c.toNat=10\/c.toNat=35)
def ep(ps:List Pt)(k:List UInt8):Bool:=ps.any λp=>p.1&&decide (p.2.1=k)
def cY(dE:List UInt8->Nat × Int)(d:List UInt8):Nat->Nat->PS->Except (Nat × Int) PS
 | 0,_,s=>.ok s
 | fuel+1,a,s=>
  if d.length<=a then .ok s else
  if dP (d.drop a)then cY dE d fuel (a+cg (d.drop a)+1) s else
  let n:=bG (d.drop a)
  if n=0\/64<n\/((d.drop (a+n)).head?.map UInt8.toNat)≠some 61 then .error (a,2)else
  if ep s.1 (aY d a (a+n))then .error (a,5)else
  let to:=a+n+1+dc (d.drop (a+n+1))
  if(dE (aY d (a+n+1) to)).2≠0 then .error (a+n+1+(dE (aY d (a+n+1) to)).1,(dE (aY d (a+n+1) to)).2)else
  cY dE d fuel (to+1) (bg d s (a+n+1) to (aY d a (a+n)))
def kB(dE:List UInt8->Nat × Int)(d:List UInt8):List Pt × Nat × Int:=
 if 65536<d.length then([],0,3)else
 match cY dE d (d.length+1) 0 ([],0)with
 | .error (a,e)=>([],a,e)
 | .ok s=>(cD d s,0,0)
def dO(d:List UInt8):Except (Nat × Int) PS->List Pt × Nat × Int
 | .error (a,e)=>([],a,e)
 | .ok s=>(cD d s,0,0)
theorem px{dE:List UInt8->Nat × Int}{d:List UInt8}(h:¬65536<d.length):kB dE d=dO d (cY dE d (d.length+1) 0 ([],0)):=by
 rw[kB,if_neg h];cases cY dE d (d.length+1) 0 ([],0)<;>rfl
section
variable {dE:List UInt8->Nat × Int} {d:List UInt8} {fuel a:Nat} {s:PS}
theorem kY(h:d.length<=a):cY dE d fuel a s=.ok s:=by
 cases fuel with
 | zero=>rfl
 | succ f=>rw[cY,if_pos h]
theorem kZ(e:Nat):cY dE d fuel e s=cY dE d fuel (min e d.length) s:=by
 by_cases h:e<=d.length
 ·rw[Nat.min_eq_left h]
 rw[kY (by omega),kY (by omega)]
theorem jU(h:¬d.length<=a)(h1:dP (d.drop a)=true):cY dE d (fuel+1) a s=cY dE d fuel (min (a+cg (d.drop a)+1) d.length) s:=by
 rw[cY,if_neg h,if_pos h1,kZ]
theorem rq(h:¬d.length<=a)(h1:dP (d.drop a)=false)(h2:bG (d.drop a)=0\/64<bG (d.drop a)\/((d.drop (a+bG (d.drop a))).head?.map UInt8.toNat)≠some 61):cY dE d (fuel+1) a s=.error (a,2):=by
 rw[cY,if_neg h,if_neg (by rw[h1];decide)];simp only[];rw[if_pos h2]
theorem rr(h:¬d.length<=a)(h1:dP (d.drop a)=false)(h2:¬(bG (d.drop a)=0\/64<bG (d.drop a)\/((d.drop (a+bG (d.drop a))).head?.map UInt8.toNat)≠some 61))(h3:ep s.1 (aY d a (a+bG (d.drop a)))=true):cY dE d (fuel+1) a s=.error (a,5):=by
 rw[cY,if_neg h,if_neg (by rw[h1];decide)];simp only[];rw[if_neg h2,if_pos h3]
theorem ru(h:¬d.length<=a)(h1:dP (d.drop a)=false)(h2:¬(bG (d.drop a)=0\/64<bG (d.drop a)\/((d.drop (a+bG (d.drop a))).head?.map UInt8.toNat)≠some 61))(h3:ep s.1 (aY d a (a+bG (d.drop a)))=false)
  {n b t:Nat} (hn:bG (d.drop a)=n) (hb:a+n+1=b) (ht:b+dc (d.drop b)=t) (h4:(dE (aY d b t)).2≠0):cY dE d (fuel+1) a s=.error (b+(dE (aY d b t)).1,(dE (aY d b t)).2):=by
 subst hn hb ht;rw[cY,if_neg h,if_neg (by rw[h1];decide)];simp only[];rw[if_neg h2,if_neg (by rw[h3];decide),if_pos h4]
theorem na(h:¬d.length<=a)(h1:dP (d.drop a)=false)(h2:¬(bG (d.drop a)=0\/64<bG (d.drop a)\/((d.drop (a+bG (d.drop a))).head?.map UInt8.toNat)≠some 61))(h3:ep s.1 (aY d a (a+bG (d.drop a)))=false)
  {n b t:Nat} (hn:bG (d.drop a)=n) (hb:a+n+1=b) (ht:b+dc (d.drop b)=t) (h4:(dE (aY d b t)).2=0):cY dE d (fuel+1) a s=cY dE d fuel (min (t+1) d.length) (bg d s b t (aY d a (a+n))):=by
 subst hn hb ht;rw[cY,if_neg h,if_neg (by rw[h1];decide)];simp only[];rw[if_neg h2,if_neg (by rw[h3];decide),if_neg (by rw[h4];decide),kZ]
end
theorem DD(l:List UInt8):bG l<=l.length:=(List.takeWhile_prefix _).length_le
theorem kQ(l:List UInt8):cg l<=l.length:=(List.takeWhile_prefix _).length_le
theorem ld:∀l:List UInt8,dc l<=l.length
 | []=>by simp[dc]
 | [c]=>by unfold dc;split;simp;split<;>simp[dc]
 | c :: x :: r=>by
  unfold dc;have h1:=ld r;have h2:=ld (x :: r)
  split
  ·simp
  split
  ·simp;omega
  simp at h2 |-;omega
end Go.Proofs.YthoemdibbldndaaGreatDoor.St
namespace Go.Proofs.YthoemdibbldndaaGreatDoor
open Go.RowKit
section
abbrev gS:TypeId:=129
instance:ub gS:=⟨by decide⟩
def oD(d:Nat):List Value:=[UM US d,UM US d]
theorem BV.Tu{w:UY}{B b:Nat}{v0 v1 v2 x y u:Value}{ah:List St.It}{tx:List UInt8}{cuts:List Nat}(h:BV gS [x,y] w B b v0 v1 v2 ah tx cuts):BV gS [u,y] (w.setCell ⟨b,3,none⟩ u) B b v0 v1 v2 ah tx cuts:=by
 obtain⟨h0,h1,h2,h3,h4⟩:=h;exact⟨h0,heap_setCell_same w b 3 _ _ u h1,aA h2 (aU h2 h1 (by decide)),aA h3 (aU h3 h1 (by decide)),aA h4 (aU h4 h1 (by decide))⟩
theorem BV.Tv{w:UY}{B b:Nat}{v0 v1 v2 x y u:Value}{ah:List St.It}{tx:List UInt8}{cuts:List Nat}(h:BV gS [x,y] w B b v0 v1 v2 ah tx cuts):BV gS [x,u] (w.setCell ⟨b,4,none⟩ u) B b v0 v1 v2 ah tx cuts:=by
 obtain⟨h0,h1,h2,h3,h4⟩:=h;exact⟨h0,heap_setCell_same w b 4 _ _ u h1,aA h2 (aU h2 h1 (by decide)),aA h3 (aU h3 h1 (by decide)),aA h4 (aU h4 h1 (by decide))⟩
theorem bY.mo{w:UY}{B b d:Nat}{ah:List St.It}{tx:List UInt8}{cuts:List Nat}(h:bY gS (oD d) w B b ah tx cuts)(n:Nat)(m m2:Int)(hm:m=n)(hm2:m2=n):bY gS (oD n) ((w.setCell ⟨b,3,none⟩ (UM US m)).setCell ⟨b,4,none⟩ (UM US m2)) B b ah tx cuts:=by
 subst hm hm2;obtain⟨v0,v1,v2,h⟩:=h;exact⟨v0,v1,v2,(BV.Tv (BV.Tu h))⟩
theorem bY.at{d:Nat}{w:UY}{B b:Nat}{ah:List St.It}{tx:List UInt8}{cuts:List Nat}(h:bY gS (oD d) w B b ah tx cuts):w.cell? ⟨b,3,none⟩=some (UM US d)/\w.cell? ⟨b,4,none⟩=some (UM US d)/\w.frozen? ⟨b,3,none⟩=false/\w.frozen? ⟨b,4,none⟩=false/\b<w.1.size/\B<=b:=by
 obtain⟨v0,v1,v2,h⟩:=h;have hb:=h.2.1;exact⟨ak hb 3,ak hb 4,bk hb 3,bk hb 4,ae hb,h.1⟩
def n4(w:UY)(B b:Nat)(ah:List St.It)(tx:List UInt8)(cuts:List Nat)(d:Nat)(l:List UInt8)(a:Nat)(e:Ending)(w':UY):Prop:=
 Below B w w'/\match St.bX l with
  | none=>e=UU (UR #[UM US a,UM US 2])
  | some (k,t,n)=>if k=0 then e=UU (UR #[UM US ((a+n:Nat):Int),UM US 0])/\bY gS (oD d) w' B b ah tx cuts else
    if 512<(St.aP (ah++St.b8 tx) (k,t,0)).length\/1024<=cuts.length then e=UU (UR #[UM US a,UM US 3])else
    e=UU (UR #[UM US ((a+n:Nat):Int),UM US 0])/\∃ft jm,bY gS (oD (a+n)) w' B b ft jm (cuts++[d])/\St.fu ft/\ft++St.b8 jm=St.aP (ah++St.b8 tx) (k,t,0)/\jm.length<=cuts.length+1
section
variable {w:UY} {B b:Nat} {ah:List St.It} {tx:List UInt8} {cuts:List Nat} {d:Nat} {l:List UInt8} {a:Nat} {w':UY}
theorem qq(h:St.bX l=none)(hb:Below B w w'):n4 w B b ah tx cuts d l a (UU (UR #[UM US a,UM US 2])) w':=by
 refine⟨hb,?_⟩;rw[h]
theorem BY{n:Nat}(h:St.bX l=some (0,[],n))(hb:Below B w w')(hB:bY gS (oD d) w' B b ah tx cuts)(m:Int)(hm:m=((a+n:Nat):Int)):n4 w B b ah tx cuts d l a (UU (UR #[UM US m,UM US 0])) w':=by
 subst hm;refine⟨hb,?_⟩;rw[h];exact⟨rfl,hB⟩
theorem BZ{n:Nat}{c:UInt8}(h:St.bX l=some (1,[c],n))(hN:St.fu ah)(hf:St.aV ah.length tx.length cuts.length true=true)(hb:Below B w w') :
  n4 w B b ah tx cuts d l a (UU (UR #[UM US a,UM US 3])) w':=by
 refine⟨hb,?_⟩;rw[h];simp only;rw[if_neg (by decide),if_pos ((St.lf hN c cuts.length).2 hf)];trivial
theorem BX{n:Nat}{c:UInt8}(h:St.bX l=some (1,[c],n))(hN:St.fu ah)(hf:St.aV ah.length tx.length cuts.length true=false)(hb:Below B w w')
  (hB:bY gS (oD (a+n)) w' B b ah (tx++[c]) (cuts++[d])) (ht:tx.length<=cuts.length) (m:Int) (hm:m=((a+n:Nat):Int)):n4 w B b ah tx cuts d l a (UU (UR #[UM US m,UM US 0])) w':=by
 refine⟨hb,?_⟩;rw[h];simp only;rw[if_neg (by decide),if_neg (λh2=>by rw[(St.lf hN c cuts.length).1 h2]at hf;cases hf),hm];exact⟨rfl,ah,tx++[c],hB,hN,(St.qD hN c).symm,by simp;omega⟩
theorem Ix{n:Nat}{t:List UInt8}(h:St.bX l=some (5,t,n))(hf:St.aV ah.length tx.length cuts.length false=true)(hb:Below B w w') :
  n4 w B b ah tx cuts d l a (UU (UR #[UM US a,UM US 3])) w':=by
 refine⟨hb,?_⟩;rw[h];simp only;rw[if_neg (by decide),if_pos ((St.jI 5 t cuts.length (by decide)).2 hf)];trivial
theorem Ky{n:Nat}{t:List UInt8}(h:St.bX l=some (5,t,n))(hf:St.aV ah.length tx.length cuts.length false=false)(hb:Below B w w')
  (hB:bY gS (oD (a+n)) w' B b (ah++St.b8 tx++[(5,t,0)]) [] (cuts++[d])) (m:Int) (hm:m=((a+n:Nat):Int)):n4 w B b ah tx cuts d l a (UU (UR #[UM US m,UM US 0])) w':=by
 refine⟨hb,?_⟩;rw[h];simp only;rw[if_neg (by decide),if_neg (λh2=>by rw[(St.jI 5 t cuts.length (by decide)).1 h2]at hf;cases hf),hm];exact⟨rfl,_,[],hB,St.lS _ 5 t 0 (by decide),by rw[St.qE 5 t (by decide)];simp[St.b8],by simp⟩
end
def pJ(d:UInt8):Value:=match St.mf d with
 | some c=>UR #[UM .u8 (c.toNat:Int),UP true]
 | none=>UR #[UM .u8 0,UP false]
theorem EL(d:UInt8)(w:UY):Calls Tryz.prog 161 #[UM .u8 (d.toNat:Int)] w λe w'=>e=UU (pJ d)/\w=w':=by
 have hd:=d.toNat_lt;rcases(show d.toNat=110\/d.toNat=116\/d.toNat=115\/d.toNat=114\/d.toNat=92\/d.toNat=123\/(d.toNat≠110/\d.toNat≠116/\d.toNat≠115/\d.toNat≠114/\d.toNat≠92/\d.toNat≠123)by omega)with h|h|h|h|h|h|⟨h1,h2,h3,h4,h5,h6⟩
 ·obtain rfl:d=(110:UInt8):=by apply UInt8.toNat_inj.1;simpa using h
  have hv:pJ 110=UR #[UM .u8 10,UP true]:=rfl;rw[hv]
  show Calls Tryz.prog 161 #[UM .u8 110] w _
  clear hv h hd;go_enter Tryz.func161,Tryz.ntmps161;go_wp2;go_ret2;exact⟨rfl,rfl⟩
 ·obtain rfl:d=(116:UInt8):=by apply UInt8.toNat_inj.1;simpa using h
  have hv:pJ 116=UR #[UM .u8 9,UP true]:=rfl;rw[hv]
  show Calls Tryz.prog 161 #[UM .u8 116] w _
  clear hv h hd;go_enter Tryz.func161,Tryz.ntmps161;go_wp2;go_ret2;exact⟨rfl,rfl⟩
 ·obtain rfl:d=(115:UInt8):=by apply UInt8.toNat_inj.1;simpa using h
  have hv:pJ 115=UR #[UM .u8 32,UP true]:=rfl;rw[hv]
  show Calls Tryz.prog 161 #[UM .u8 115] w _
  clear hv h hd;go_enter Tryz.func161,Tryz.ntmps161;go_wp2;go_ret2;exact⟨rfl,rfl⟩
 ·obtain rfl:d=(114:UInt8):=by apply UInt8.toNat_inj.1;simpa using h
  have hv:pJ 114=UR #[UM .u8 13,UP true]:=rfl;rw[hv]
  show Calls Tryz.prog 161 #[UM .u8 114] w _
  clear hv h hd;go_enter Tryz.func161,Tryz.ntmps161;go_wp2;go_ret2;exact⟨rfl,rfl⟩
 ·obtain rfl:d=(92:UInt8):=by apply UInt8.toNat_inj.1;simpa using h
  have hv:pJ 92=UR #[UM .u8 92,UP true]:=rfl;rw[hv]
  show Calls Tryz.prog 161 #[UM .u8 92] w _
  clear hv h hd;go_enter Tryz.func161,Tryz.ntmps161;go_wp2;go_ret2;exact⟨rfl,rfl⟩
 ·obtain rfl:d=(123:UInt8):=by apply UInt8.toNat_inj.1;simpa using h
  have hv:pJ 123=UR #[UM .u8 123,UP true]:=rfl;rw[hv]
  show Calls Tryz.prog 161 #[UM .u8 123] w _
  clear hv h hd;go_enter Tryz.func161,Tryz.ntmps161;go_wp2;go_ret2;exact⟨rfl,rfl⟩
 have hv:pJ d=UR #[UM .u8 0,UP false]:=by unfold pJ St.mf;simp[h1,h2,h3,h4,h5,h6]
 rw[hv];have e1:((d.toNat:Int)==110)=false:=by simp;omega
 have e2:((d.toNat:Int)==116)=false:=by simp;omega
 have e3:((d.toNat:Int)==115)=false:=by simp;omega
 have e4:((d.toNat:Int)==114)=false:=by simp;omega
 have e5:((d.toNat:Int)==92)=false:=by simp;omega
 have e6:((d.toNat:Int)==123)=false:=by simp;omega
 clear hv h1 h2 h3 h4 h5 h6 hd;go_enter Tryz.func161,Tryz.ntmps161;go_wp2;go_ret2;exact⟨rfl,rfl⟩
end
section
theorem mH{P:Program}{ops:Array Oper}{o:Oper}{a:Act}{w:UY}{K:Act->UY->Prop}{Q:Exit->Act->UY->Prop}{E:Prop}
  (hg:o.guard=none) (f:FuncId) (args:Array Value) (Post:Ending->UY->Prop) (hc:Calls P f args w Post)
  (hrun:(execOp a.eval o).run P w=.ok (.enter f args) w) (hK:∀e w',Post e w'->∃v,e=UU v/\K (a.put o.dst v) w') :
  if Region.wanted o (yielded ops a.tmps)=true then Oper.wp P o a w K Q else E:=by
 have hw:Region.wanted o (yielded ops a.tmps)=true:=by simp[Region.wanted,hg]
 rw[if_pos hw];unfold Oper.wp;rw[hrun];refine hc.mono ?_;intro e w' h;obtain⟨v,rfl,hk⟩:=hK e w' h;exact hk
theorem Gw(c:UInt8)(w:UY):Calls Tryz.prog 160 #[UM .u8 (c.toNat:Int)] w λe w'=>e=UU (UP (St.fJ c))/\w=w':=by
 by_cases h:c.toNat=32
 ·have hb:St.fJ c=true:=decide_eq_true (Or.inl h);have e1:((c.toNat:Int)==32)=true:=by simp;omega
  rw[hb];clear h hb;go_enter Tryz.func160,Tryz.ntmps160;go_wp2;go_ret;exact⟨rfl,rfl⟩
 have e1:((c.toNat:Int)==32)=false:=by simp;omega
 have hb:St.fJ c=((c.toNat:Int)==9):=by
  unfold St.fJ;rw[Bool.eq_iff_iff];simp;omega
 rw[hb];cases hq:((c.toNat:Int)==9)
 all_goals
  clear h hb;go_enter Tryz.func160,Tryz.ntmps160;go_wp2;go_ret;exact⟨rfl,rfl⟩
def O9(w:UY)(raw:ByteArray)(a:Nat)(dZ:Value)(wr:UY):Prop:=∃k:Nat,dZ=UM US k/\a+2<=k/\k<=raw.size/\a+2+St.dT (raw.1.1.drop (a+2))=k+St.dT (raw.1.1.drop k)/\wr=w
theorem ku(w:UY)(B b:Nat)(ah:List St.It)(tx:List UInt8)(cuts:List Nat)(d:Nat)(raw:ByteArray)(a:Nat)(h:bY gS (oD d) w B b ah tx cuts)(hN:St.fu ah)(h1:ah.length<=512)(h2:cuts.length<=1024)(h3:tx.length<=cuts.length)(hBw:B<=w.1.size)
  (ha:a<raw.size) (hr:raw.size<=4611686018427387904) :
  Calls Tryz.prog 120 #[UQ (some ⟨b,0,none⟩),UN raw,UM US a] w (n4 w B b ah tx cuts d (raw.1.1.drop a) a):=by
 obtain⟨s,hE⟩:∃s,raw.extract a raw.size=s:=⟨_,rfl⟩;have hsz:s.size=raw.size-a:=by rw[<-hE];simp
 have hs0:0<s.size:=by omega
 have hl:s.1.1=raw.1.1.drop a:=by rw[<-hE];simp;exact List.take_of_length_le (by simp)
 have hcr:s.1.1=s[0] :: s.1.1.drop 1:=St.fo s hs0;have ha1:(a:Int)<=raw.size:=by omega
 have ha2:¬raw.size<a:=by omega
 have hN':=aa hN;obtain⟨g3,g4,gf3,gf4,hblt,hBb0⟩:=h.at;haveI:af b w:=af.of hblt;have rD:=aa (show Below B w w.drew from(Below.refl B w).drew);have N9:=aa (λc=>n5 w.drew B b ah tx cuts c d (h.ai (ac.refl w).drew) (by omega) (by omega) (by omega) (by simpa using hBw));have RL:=aa (λx=>kO w.drew B b ah tx cuts 5 0 x d (h.ai (ac.refl w).drew) (by omega) (by omega) (by omega) (by simpa using hBw));have H:=aa h;clear h hN
 by_cases bB:s[0].toNat=10
 ·have bA:=aa (St.qt (r:=s.1.1.drop 1) bB);rw[<-hcr,hl]at bA;have e10:((s[0].toNat:Int)==10)=true:=by simp;omega
  clear hcr hl;go_enter Tryz.func120,Tryz.ntmps120;go_wp2;go_ret2;exact qq bA.out (Below.refl _ _)
 have e10:((s[0].toNat:Int)==10)=false:=by simp;omega
 by_cases iz:s[0].toNat=92
 ·have xX:((s[0].toNat:Int)==92)=true:=by simp;omega
  by_cases z1:s.size=1
  ·have hnil:s.1.1.drop 1=[]:=List.drop_of_length_le (by simp;omega);have hsl:=St.nV iz;rw[hnil]at hcr;rw[<-hcr,hl]at hsl;have bA:=aa hsl;have y1:¬(1:Int)<s.size:=by omega
   have y2:(s.size:Int)<2:=by omega
   clear hcr hl hnil hsl;go_enter Tryz.func120,Tryz.ntmps120;go_wp2;go_ret2;exact qq bA.out (Below.refl _ _)
  have hs1:1<s.size:=by omega
  have uq:s.1.1.drop 1=s[1] :: s.1.1.drop 2:=St.drop_at s 1 hs1;have y1:(1:Int)<s.size:=by omega
  have y2:¬(s.size:Int)<2:=by omega
  rw[uq]at hcr
  by_cases d10:s[1].toNat=10
  ·have f10:((s[1].toNat:Int)==10)=true:=by simp;omega
   have hsl:=St.jV (r:=s.1.1.drop 2) iz d10;rw[<-hcr,hl]at hsl;have hdd:(raw.1.1.drop a).drop 2=raw.1.1.drop (a+2):=by rw[List.drop_drop]
   rw[hdd]at hsl;have bA:=aa hsl;have hrs:a+2<=raw.size:=by omega
   clear hcr uq hl hdd hsl;go_enter Tryz.func120,Tryz.ntmps120;go_wp2_with fail;go_loopw [10] (λdZ wr=>O9 w raw a dZ wr) (λdZ _=>raw.size-(intOf dZ).toNat)
   case atStart=>exact⟨a+2,congrArg (UM US) (by omega),by omega,hrs,rfl,rfl⟩
   case round=>
    obtain⟨k,rfl,hk1,hk2,hk3,rfl⟩:=hrel;have HK:=aa hk3;clear hk3
    by_cases hlt:k<raw.size
    ·have z:(k:Int)<raw.size:=by omega
     have ax:=St.drop_at raw k hlt;have hbk:=λW=>Gw raw[k] W
     cases hq:St.fJ raw[k]
     ·have hn:St.dT (raw.1.1.drop k)=0:=by rw[ax];unfold St.dT;rw[List.takeWhile_cons_of_neg (by simp[hq])];rfl
      rw[hq]at hbk;have jr:=aa hbk;have HE:=aa (show a+2+St.dT (raw.1.1.drop (a+2))=k by rw[HK.out,hn];omega);clear ax hbk hq hn;go_wp2_with (go_at_call 160;refine(jr.out _).mono ?_;rintro e w' ⟨rfl,rfl⟩);go_ret2;exact BY bA.out (Below.refl _ _) H.out _ (by have:=HE.out;omega)
     have hn:St.dT (raw.1.1.drop k)=1+St.dT (raw.1.1.drop (k+1)):=by rw[ax];unfold St.dT;rw[List.takeWhile_cons_of_pos hq];simp;omega
     rw[hq]at hbk;have jr:=aa hbk;have HE:=aa hn;clear ax hbk hq hn;go_wp2_with (go_at_call 160;refine(jr.out _).mono ?_;rintro e w' ⟨rfl,rfl⟩);exact⟨⟨k+1,congrArg (UM US) (by omega),by omega,by omega,by rw[HK.out,HE.out];omega,rfl⟩,by simp[intOf];omega⟩
    obtain rfl:k=raw.size:=by omega
    have hn:St.dT (raw.1.1.drop raw.size)=0:=by rw[List.drop_of_length_le (by simp)];rfl
    have HE:=aa (show a+2+St.dT (raw.1.1.drop (a+2))=raw.size by rw[HK.out,hn];omega);clear hn hlt;go_wp2;go_ret2;exact BY bA.out (Below.refl _ _) H.out _ (by have:=HE.out;omega)
  have f10:((s[1].toNat:Int)==10)=false:=by simp;omega
  have hsl:=St.my (r:=s.1.1.drop 2) iz d10;rw[<-hcr,hl]at hsl;have dG:=λW=>EL s[1] W
  unfold pJ at dG;cases hq:St.mf s[1]with
  | none=>
   rw[hq]at hsl dG;have bA:=aa hsl;have rV:=aa dG;clear hcr uq hl hsl dG hq;go_enter Tryz.func120,Tryz.ntmps120;go_wp2_with (go_at_call 161;refine(rV.out _).mono ?_;rintro e w' ⟨rfl,rfl⟩);go_ret2;exact qq bA.out (Below.refl _ _)
  | some c=>
   rw[hq]at hsl dG;simp only[Option.map_some]at hsl;have bA:=aa hsl;have rV:=aa dG;have zS:=aa (N9.out c);clear hcr uq hl hsl dG hq;go_enter Tryz.func120,Tryz.ntmps120;go_wp2_with (go_at_call 161;refine(rV.out _).mono ?_;rintro e w' ⟨rfl,rfl⟩);refine bz (λ_ _=>True) (λL W=>if L 8=true then(St.aV ah.length tx.length cuts.length true=false->bY gS (oD d) W B b ah (tx++[c]) (cuts++[d]))/\Below B w.drew W else W=w.drew) ([λv _=>v=UQ (some ⟨b,0,none⟩),λv _=>v=UQ (some ⟨b,0,none⟩),λv _=>v=UQ (some ⟨b,0,none⟩),λv _=>v=UM .u8 (c.toNat:Int),λv _=>v=UQ (some ⟨b,0,none⟩),λv _=>v=UQ (some ⟨b,0,none⟩),λv _=>v=UQ (some ⟨b,3,none⟩),λv _=>v=UM US d,λv _=>v=UP (!St.aV ah.length tx.length cuts.length true),λv _=>v=UM US a,λv _=>v=UM US ((a:Int)+2),λv _=>v=UP (!St.aV ah.length tx.length cuts.length true),λv _=>v=UM US ((a:Int)+2)]) (λ_=>trivial) (λ_ _ _ _ _=>trivial) (by kernel_rfl) (by rfl) (by kernel_rfl) (by kernel_rfl) ?frA ?hfrA ?hIA ?hobA ?hendA
   case hfrA=>
    intro ρ;simp only[ch,Act.put,aq,al,ar,Nat.zero_add,Nat.reduceAdd];exact rfl
   case hIA=>simp
   case hobA=>
    refine aj.cons (λρ L W hR hI hL hD hO hF K hK=>?_) ?_
    ·clear hF hD hO hR;simp only[Act.put,aq,al,ar]at hK |-;go_simp;refine hK _ _ trivial (by simpa[au]using hI) (λ_ _=>?_);rfl
    refine aj.cons (λρ L W hR hI hL hD hO hF K hK=>?_) ?_
    ·have f0:=ag hF (j:=0) (by decide);clear hF hD hO hR;simp only[Act.put,aq,al,ar]at hK |-;have e0:ρ 0=UQ (some ⟨b,0,none⟩):=f0;rw[e0]at hK |-;go_simp;refine hK _ _ trivial (by simpa[au]using hI) (λ_ _=>?_);rfl
    refine aj.cons (λρ L W hR hI hL hD hO hF K hK=>?_) ?_
    ·have f1:=ag hF (j:=1) (by decide);clear hF hD hO hR;simp only[Act.put,aq,al,ar]at hK |-;have e1:ρ 1=UQ (some ⟨b,0,none⟩):=f1;rw[e1]at hK |-;go_simp;refine hK _ _ trivial (by simpa[au]using hI) (λ_ _=>?_);rfl
    refine aj.cons (λρ L W hR hI hL hD hO hF K hK=>?_) ?_
    ·clear hF hD hO hR;simp only[Act.put,aq,al,ar]at hK |-;go_simp;refine hK _ _ trivial (by simpa[au]using hI) (λ_ _=>?_);rfl
    refine aj.cons (λρ L W hR hI hL hD hO hF K hK=>?_) ?_
    ·clear hF hD hO hR;simp only[Act.put,aq,al,ar]at hK |-;go_simp;refine hK _ _ trivial (by simpa[au]using hI) (λ_ _=>?_);rfl
    refine aj.cons (λρ L W hR hI hL hD hO hF K hK=>?_) ?_
    ·have f4:=ag hF (j:=4) (by decide);clear hF hD hO hR;simp only[Act.put,aq,al,ar]at hK |-;have e4:ρ 4=UQ (some ⟨b,0,none⟩):=f4;rw[e4]at hK |-;go_simp;refine hK _ _ trivial (by simpa[au]using hI) (λ_ _=>?_);rfl
    refine aj.cons (λρ L W hR hI hL hD hO hF K hK=>?_) ?_
    ·have f5:=ag hF (j:=5) (by decide);clear hF hD hO hR;simp only[Act.put,aq,al,ar]at hK |-;have e5:ρ 5=UQ (some ⟨b,0,none⟩):=f5;rw[e5]at hK |-;go_simp;refine hK _ _ trivial (by simpa[au]using hI) (λ_ _=>?_);rfl
    refine aj.cons (λρ L W hR hI hL hD hO hF K hK=>?_) ?_
    ·have f6:=ag hF (j:=6) (by decide);have jJ:L 8=false:=hD.not (p:=8) rfl (by decide) hL;rw[if_neg (by rw[jJ];decide)]at hI;subst hI;clear hF hD hO hR;simp only[Act.put,aq,al,ar]at hK |-;have e6:ρ 6=UQ (some ⟨b,3,none⟩):=f6;rw[e6]at hK |-;go_simp;refine hK _ _ trivial (by simp[au,jJ]) (λ_ _=>?_);rfl
    refine aj.cons (λρ L W hR hI hL hD hO hF K hK=>?_) ?_
    ·have f2:=ag hF (j:=2) (by decide);have f3:=ag hF (j:=3) (by decide);have f7:=ag hF (j:=7) (by decide);rw[if_neg (by rw[hL];decide)]at hI;subst hI;clear hF hD hO hR;simp only[Act.put,aq,al,ar]at hK |-;have e2:ρ 2=UQ (some ⟨b,0,none⟩):=f2;have e3:ρ 3=UM .u8 (c.toNat:Int):=f3;have e7:ρ 7=UM US d:=f7;rw[e2,e3,e7]at hK |-;refine mH (o:=⟨some 88,_,_,_,_,_⟩) rfl 162 #[UQ (some ⟨b,0,none⟩),UM .u8 c.toNat,UM US d] _ zS.out ?_ ?_
     ·go_simp
     rintro e W2 ⟨rfl,h1,h2⟩;exact⟨_,rfl,hK _ _ trivial (by simp only[au,if_true];exact⟨h1,h2⟩) (λ_ _=>rfl)⟩
    refine aj.cons (λρ L W hR hI hL hD hO hF K hK=>?_) ?_
    ·clear hF hD hO hR;simp only[Act.put,aq,al,ar]at hK |-;go_simp;refine hK _ _ trivial (by simpa[au]using hI) (λ_ _=>?_);rfl
    refine aj.cons (λρ L W hR hI hL hD hO hF K hK=>?_) ?_
    ·have f9:=ag hF (j:=9) (by decide);clear hF hD hO hR;simp only[Act.put,aq,al,ar]at hK |-;have e9:ρ 9=UM US a:=f9;rw[e9]at hK |-;go_simp;refine hK _ _ trivial (by simpa[au]using hI) (λ_ _=>?_);exact congrArg (UM US) ((IntWalk.i64_in _ (by omega)).trans (by omega))
    refine aj.cons (λρ L W hR hI hL hD hO hF K hK=>?_) ?_
    ·have f8:=ag hF (j:=8) (by decide);clear hF hD hO hR;simp only[Act.put,aq,al,ar]at hK |-;have e8:ρ 8=UP (!St.aV ah.length tx.length cuts.length true):=f8;rw[e8]at hK |-;go_simp;refine hK _ _ trivial (by simpa[au]using hI) (λ_ _=>?_);rfl
    refine aj.cons (λρ L W hR hI hL hD hO hF K hK=>?_) ?_
    ·have f10:=ag hF (j:=10) (by decide);clear hF hD hO hR;simp only[Act.put,aq,al,ar]at hK |-;have e10:ρ 10=UM US ((a:Int)+2):=f10;rw[e10]at hK |-;go_simp;refine hK _ _ trivial (by simpa[au]using hI) (λ_ _=>?_);rfl
    exact aj.nil
   case hendA=>
    intro ρ L W hR hI hL hF;rw[if_pos (hL 8 (by decide))]at hI;obtain⟨_,_,_,_,_,_,_,_,_,_,_,g11,g12,_⟩:=hF;have g11:ρ 11=UP (!St.aV ah.length tx.length cuts.length true):=g11;have g12:ρ 12=UM US ((a:Int)+2):=g12;rw[g11,g12];clear g11 g12 hR hL;obtain⟨eF,hbl⟩:=hI;have og:Below B w W:=Below.trans rD.out hbl;have cZ:=aa og;have ie:=aa eF;clear eF hbl og;cases hfu:St.aV ah.length tx.length cuts.length true
    ·obtain⟨c3,c4,f3,f4,hlt,hBb⟩:=(ie.out hfu).at;haveI:af b W:=af.of hlt;have Gc:=aa ((ie.out hfu).mo (a+2) ((a:Int)+2) ((a:Int)+2) (by omega) (by omega));have rT:=aa hBb;have ck:=aa hfu;clear hfu hBb;go_wp2;go_ret2;exact BX bA.out hN'.out ck.out ((cZ.out.setCell (p:=⟨b,3,none⟩) rT.out _).setCell (p:=⟨b,4,none⟩) rT.out _) Gc.out h3 _ (by omega)
    have ck:=aa hfu;clear hfu;go_wp2;go_ret2;exact BZ bA.out hN'.out ck.out cZ.out
 have xX:((s[0].toNat:Int)==92)=false:=by simp;omega
 by_cases db:s[0].toNat=123
 ·have sj:((s[0].toNat:Int)==123)=true:=by simp;omega
  have hsl:=St.mx (r:=s.1.1.drop 1) db;rw[<-hcr]at hsl;have bM:=λW=>Tryz.strings_IndexByte s 125 W
  have lD:(125:Int).toNat.toUInt8=125:=rfl;rw[lD,hcr]at bM;rcases St.qw (r:=s.1.1.drop 1) db with⟨hi,hs⟩|⟨n,hi,hn,eR,hs⟩
  ·rw[hi]at bM;rw[<-hcr]at hs;rw[hs,hl]at hsl;have bA:=aa hsl;have dS:=aa bM;clear hsl hcr hl bM hi hs lD;go_enter Tryz.func120,Tryz.ntmps120;go_wp2_with fail;refine(dS.out _).mono ?_;rintro e w' ⟨rfl,rfl⟩;go_wp2;go_ret2;exact qq bA.out (Below.refl _ _)
  rw[hi]at bM;have hns:n+1<s.size:=by rw[<-hcr]at hn;simpa using hn
  obtain⟨x,hX⟩:∃x,s.extract 1 (n+1)=x:=⟨_,rfl⟩;have hxl:x.1.1=(s.1.1.drop 1).take n:=by rw[<-hX];simp
  have hxs:x.size<=s.size:=by rw[<-hX];simp;omega
  have a8:=λW=>j7 x W (by omega)
  rw[<-hcr,<-hxl]at hs;have z1:(1:Int)<=(n:Int)+1:=by omega
  have z2:(n:Int)+1<=s.size:=by omega
  have z3:¬(n:Int)+1<0:=by omega
  cases hnb:St.aB x.1.1
  ·rw[hnb]at hs a8;simp only[Bool.false_eq_true,if_false]at hs;rw[hs,hl]at hsl;have bA:=aa hsl;have dS:=aa bM;have bl:=aa a8;clear hsl hcr hl bM hi hs lD hn eR a8 hnb hxl;go_enter Tryz.func120,Tryz.ntmps120;go_wp2_with fail;refine(dS.out _).mono ?_;rintro e w' ⟨rfl,rfl⟩;go_wp2_with fail;refine(bl.out _).mono ?_;rintro e w' ⟨rfl,rfl⟩;go_wp2;go_ret2;exact qq bA.out (Below.refl _ _)
  rw[hnb]at hs a8;simp only[if_true]at hs;rw[hs,hl]at hsl;simp only[Option.map_some]at hsl;have bA:=aa hsl;have dS:=aa bM;have bl:=aa a8;have HIT:=aa (RL.out x);clear hsl hcr hl bM hi hs lD hn eR a8 hnb hxl;go_enter Tryz.func120,Tryz.ntmps120;go_wp2_with fail;refine(dS.out _).mono ?_;rintro e w ⟨rfl,rfl⟩;go_wp2_with fail;refine(bl.out _).mono ?_;rintro e w ⟨rfl,rfl⟩;go_wp2_with fail;refine bz (λ_ _=>True) (λL W=>if L 11=true then(St.aV ah.length tx.length cuts.length false=false->bY gS (oD d) W B b (ah++St.b8 tx++[(5,x.1.1,0)]) [] (cuts++[d]))/\Below B w.drew W else W=w.drew) ([λv _=>v=UQ (some ⟨b,0,none⟩),λv _=>v=UQ (some ⟨b,0,none⟩),λv _=>v=UQ (some ⟨b,0,none⟩),λv _=>v=UN s,λv _=>v=UM US ((n+1:Nat):Int),λv _=>v=UN x,λv _=>v=.agg #[UM US 5,UN x,UM US 0],λv _=>v=UQ (some ⟨b,0,none⟩),λv _=>v=UQ (some ⟨b,0,none⟩),λv _=>v=UQ (some ⟨b,3,none⟩),λv _=>v=UM US d,λv _=>v=UP (!St.aV ah.length tx.length cuts.length false),λv _=>v=UM US a,λv _=>v=UM US ((n+1:Nat):Int),λv _=>v=UM US ((a:Int)+((n+1:Nat):Int)),λv _=>v=UM US ((a:Int)+((n+1:Nat):Int)+1),λv _=>v=UP (!St.aV ah.length tx.length cuts.length false),λv _=>v=UM US ((a:Int)+((n+1:Nat):Int)+1)]) (λ_=>trivial) (λ_ _ _ _ _=>trivial) (by kernel_rfl) (by rfl) (by kernel_rfl) (by kernel_rfl) ?frC ?hfrC ?hIC ?hobC ?hendC
  case hfrC=>
   intro ρ;simp only[ch,Act.put,aq,al,ar,Nat.zero_add,Nat.reduceAdd];exact rfl
  case hIC=>simp
  case hobC=>
   refine aj.cons (λρ L W hR hI hL hD hO hF K hK=>?_) ?_
   ·clear hF hD hO hR;simp only[Act.put,aq,al,ar]at hK |-;go_simp;refine hK _ _ trivial (by simpa[au]using hI) (λ_ _=>?_);rfl
   refine aj.cons (λρ L W hR hI hL hD hO hF K hK=>?_) ?_
   ·have f0:=ag hF (j:=0) (by decide);clear hF hD hO hR;simp only[Act.put,aq,al,ar]at hK |-;have e0:ρ 0=UQ (some ⟨b,0,none⟩):=f0;rw[e0]at hK |-;go_simp;refine hK _ _ trivial (by simpa[au]using hI) (λ_ _=>?_);rfl
   refine aj.cons (λρ L W hR hI hL hD hO hF K hK=>?_) ?_
   ·have f1:=ag hF (j:=1) (by decide);clear hF hD hO hR;simp only[Act.put,aq,al,ar]at hK |-;have e1:ρ 1=UQ (some ⟨b,0,none⟩):=f1;rw[e1]at hK |-;go_simp;refine hK _ _ trivial (by simpa[au]using hI) (λ_ _=>?_);rfl
   refine aj.cons (λρ L W hR hI hL hD hO hF K hK=>?_) ?_
   ·clear hF hD hO hR;simp only[Act.put,aq,al,ar]at hK |-;go_simp;refine hK _ _ trivial (by simpa[au]using hI) (λ_ _=>?_);rfl
   refine aj.cons (λρ L W hR hI hL hD hO hF K hK=>?_) ?_
   ·clear hF hD hO hR;simp only[Act.put,aq,al,ar]at hK |-;go_simp;refine hK _ _ trivial (by simpa[au]using hI) (λ_ _=>?_);rfl
   refine aj.cons (λρ L W hR hI hL hD hO hF K hK=>?_) ?_
   ·have f3:=ag hF (j:=3) (by decide);have f4:=ag hF (j:=4) (by decide);clear hF hD hO hR;simp only[Act.put,aq,al,ar]at hK |-;have e3:ρ 3=UN s:=f3;have e4:ρ 4=UM US ((n+1:Nat):Int):=f4;rw[e3,e4]at hK |-;go_simp;refine hK _ _ trivial (by simpa[au]using hI) (λ_ _=>?_);rfl
   refine aj.cons (λρ L W hR hI hL hD hO hF K hK=>?_) ?_
   ·have f5:=ag hF (j:=5) (by decide);clear hF hD hO hR;simp only[Act.put,aq,al,ar]at hK |-;have e5:ρ 5=UN x:=f5;rw[e5]at hK |-;go_simp;refine hK _ _ trivial (by simpa[au]using hI) (λ_ _=>?_);rfl
   refine aj.cons (λρ L W hR hI hL hD hO hF K hK=>?_) ?_
   ·clear hF hD hO hR;simp only[Act.put,aq,al,ar]at hK |-;go_simp;refine hK _ _ trivial (by simpa[au]using hI) (λ_ _=>?_);rfl
   refine aj.cons (λρ L W hR hI hL hD hO hF K hK=>?_) ?_
   ·have f7:=ag hF (j:=7) (by decide);clear hF hD hO hR;simp only[Act.put,aq,al,ar]at hK |-;have e7:ρ 7=UQ (some ⟨b,0,none⟩):=f7;rw[e7]at hK |-;go_simp;refine hK _ _ trivial (by simpa[au]using hI) (λ_ _=>?_);rfl
   refine aj.cons (λρ L W hR hI hL hD hO hF K hK=>?_) ?_
   ·have f8:=ag hF (j:=8) (by decide);clear hF hD hO hR;simp only[Act.put,aq,al,ar]at hK |-;have e8:ρ 8=UQ (some ⟨b,0,none⟩):=f8;rw[e8]at hK |-;go_simp;refine hK _ _ trivial (by simpa[au]using hI) (λ_ _=>?_);rfl
   refine aj.cons (λρ L W hR hI hL hD hO hF K hK=>?_) ?_
   ·have f9:=ag hF (j:=9) (by decide);have jJ:L 11=false:=hD.not (p:=11) rfl (by decide) hL;rw[if_neg (by rw[jJ];decide)]at hI;subst hI;clear hF hD hO hR;simp only[Act.put,aq,al,ar]at hK |-;have e9:ρ 9=UQ (some ⟨b,3,none⟩):=f9;rw[e9]at hK |-;go_simp;refine hK _ _ trivial (by simp[au,jJ]) (λ_ _=>?_);rfl
   refine aj.cons (λρ L W hR hI hL hD hO hF K hK=>?_) ?_
   ·have f2:=ag hF (j:=2) (by decide);have f6:=ag hF (j:=6) (by decide);have f10:=ag hF (j:=10) (by decide);rw[if_neg (by rw[hL];decide)]at hI;subst hI;clear hF hD hO hR;simp only[Act.put,aq,al,ar]at hK |-;have e2:ρ 2=UQ (some ⟨b,0,none⟩):=f2;have e6:ρ 6=.agg #[UM US 5,UN x,UM US 0]:=f6;have e10:ρ 10=UM US d:=f10;rw[e2,e6,e10]at hK |-;refine mH (o:=⟨some 118,_,_,_,_,_⟩) rfl 164 #[UQ (some ⟨b,0,none⟩),.agg #[UM US 5,UN x,UM US 0],UM US d] _ HIT.out ?_ ?_
    ·go_simp
    rintro e W2 ⟨rfl,h1,h2⟩;exact⟨_,rfl,hK _ _ trivial (by simp only[au,if_true];exact⟨h1,h2⟩) (λ_ _=>rfl)⟩
   refine aj.cons (λρ L W hR hI hL hD hO hF K hK=>?_) ?_
   ·clear hF hD hO hR;simp only[Act.put,aq,al,ar]at hK |-;go_simp;refine hK _ _ trivial (by simpa[au]using hI) (λ_ _=>?_);rfl
   refine aj.cons (λρ L W hR hI hL hD hO hF K hK=>?_) ?_
   ·clear hF hD hO hR;simp only[Act.put,aq,al,ar]at hK |-;go_simp;refine hK _ _ trivial (by simpa[au]using hI) (λ_ _=>?_);rfl
   refine aj.cons (λρ L W hR hI hL hD hO hF K hK=>?_) ?_
   ·have f12:=ag hF (j:=12) (by decide);have f13:=ag hF (j:=13) (by decide);clear hF hD hO hR;simp only[Act.put,aq,al,ar]at hK |-;have e12:ρ 12=UM US a:=f12;have GM:ρ 13=UM US ((n+1:Nat):Int):=f13;rw[e12,GM]at hK |-;go_simp;refine hK _ _ trivial (by simpa[au]using hI) (λ_ _=>?_);exact congrArg (UM US) ((IntWalk.i64_in _ (by omega)).trans (by omega))
   refine aj.cons (λρ L W hR hI hL hD hO hF K hK=>?_) ?_
   ·have f14:=ag hF (j:=14) (by decide);clear hF hD hO hR;simp only[Act.put,aq,al,ar]at hK |-;have AC:ρ 14=UM US ((a:Int)+((n+1:Nat):Int)):=f14;rw[AC]at hK |-;go_simp;refine hK _ _ trivial (by simpa[au]using hI) (λ_ _=>?_);exact congrArg (UM US) ((IntWalk.i64_in _ (by omega)).trans (by omega))
   refine aj.cons (λρ L W hR hI hL hD hO hF K hK=>?_) ?_
   ·have f11:=ag hF (j:=11) (by decide);clear hF hD hO hR;simp only[Act.put,aq,al,ar]at hK |-;have e11:ρ 11=UP (!St.aV ah.length tx.length cuts.length false):=f11;rw[e11]at hK |-;go_simp;refine hK _ _ trivial (by simpa[au]using hI) (λ_ _=>?_);rfl
   refine aj.cons (λρ L W hR hI hL hD hO hF K hK=>?_) ?_
   ·have f15:=ag hF (j:=15) (by decide);clear hF hD hO hR;simp only[Act.put,aq,al,ar]at hK |-;have GN:ρ 15=UM US ((a:Int)+((n+1:Nat):Int)+1):=f15;rw[GN]at hK |-;go_simp;refine hK _ _ trivial (by simpa[au]using hI) (λ_ _=>?_);rfl
   exact aj.nil
  case hendC=>
   intro ρ L W hR hI hL hF;rw[if_pos (hL 11 (by decide))]at hI;obtain⟨_,_,_,_,_,_,_,_,_,_,_,_,_,_,_,_,g16,g17,_⟩:=hF;have g16:ρ 16=UP (!St.aV ah.length tx.length cuts.length false):=g16;have g17:ρ 17=UM US ((a:Int)+((n+1:Nat):Int)+1):=g17;rw[g16,g17];clear g16 g17 hR hL;obtain⟨eF,hbl⟩:=hI;have og:Below B w W:=Below.trans rD.out hbl;have cZ:=aa og;have ie:=aa eF;clear eF hbl og;cases hfu:St.aV ah.length tx.length cuts.length false
   ·obtain⟨c3,c4,f3,f4,hlt,hBb⟩:=(ie.out hfu).at;haveI:af b W:=af.of hlt;have Gc:=aa ((ie.out hfu).mo (a+(n+2)) ((a:Int)+((n+1:Nat):Int)+1) ((a:Int)+((n+1:Nat):Int)+1) (by omega) (by omega));have rT:=aa hBb;have ck:=aa hfu;clear hfu hBb;go_wp2;go_ret2;exact Ky bA.out ck.out ((cZ.out.setCell (p:=⟨b,3,none⟩) rT.out _).setCell (p:=⟨b,4,none⟩) rT.out _) Gc.out _ (by omega)
   have ck:=aa hfu;clear hfu;go_wp2;go_ret2;exact Ix bA.out ck.out cZ.out
 have sj:((s[0].toNat:Int)==123)=false:=by simp;omega
 have hsl:=St.jW (r:=s.1.1.drop 1) bB iz db;rw[<-hcr,hl]at hsl;obtain⟨c,hc⟩:∃c,s[0]=c:=⟨_,rfl⟩;rw[hc]at hsl e10 xX sj;have bA:=aa hsl;have zS:=aa (N9.out c);clear hcr hl hsl bB iz db;go_enter Tryz.func120,Tryz.ntmps120;go_wp2_with fail;refine bz (λ_ _=>True) (λL W=>if L 9=true then(St.aV ah.length tx.length cuts.length true=false->bY gS (oD d) W B b ah (tx++[c]) (cuts++[d]))/\Below B w.drew W else W=w.drew) ([λv _=>v=UQ (some ⟨b,0,none⟩),λv _=>v=UQ (some ⟨b,0,none⟩),λv _=>v=UQ (some ⟨b,0,none⟩),λv _=>v=UN s,λv _=>v=UM .u8 (c.toNat:Int),λv _=>v=UQ (some ⟨b,0,none⟩),λv _=>v=UQ (some ⟨b,0,none⟩),λv _=>v=UQ (some ⟨b,3,none⟩),λv _=>v=UM US d,λv _=>v=UP (!St.aV ah.length tx.length cuts.length true),λv _=>v=UP (!St.aV ah.length tx.length cuts.length true)]) (λ_=>trivial) (λ_ _ _ _ _=>trivial) (by kernel_rfl) (by rfl) (by kernel_rfl) (by kernel_rfl) ?frD ?hfrD ?hID ?hobD ?hendD
 case hfrD=>
  intro ρ;simp only[ch,Act.put,aq,al,ar,Nat.zero_add,Nat.reduceAdd];exact rfl
 case hID=>simp
 case hobD=>
  refine aj.cons (λρ L W hR hI hL hD hO hF K hK=>?_) ?_
  ·clear hF hD hO hR;simp only[Act.put,aq,al,ar]at hK |-;go_simp;refine hK _ _ trivial (by simpa[au]using hI) (λ_ _=>?_);rfl
  refine aj.cons (λρ L W hR hI hL hD hO hF K hK=>?_) ?_
  ·have f0:=ag hF (j:=0) (by decide);clear hF hD hO hR;simp only[Act.put,aq,al,ar]at hK |-;have e0:ρ 0=UQ (some ⟨b,0,none⟩):=f0;rw[e0]at hK |-;go_simp;refine hK _ _ trivial (by simpa[au]using hI) (λ_ _=>?_);rfl
  refine aj.cons (λρ L W hR hI hL hD hO hF K hK=>?_) ?_
  ·have f1:=ag hF (j:=1) (by decide);clear hF hD hO hR;simp only[Act.put,aq,al,ar]at hK |-;have e1:ρ 1=UQ (some ⟨b,0,none⟩):=f1;rw[e1]at hK |-;go_simp;refine hK _ _ trivial (by simpa[au]using hI) (λ_ _=>?_);rfl
  refine aj.cons (λρ L W hR hI hL hD hO hF K hK=>?_) ?_
  ·clear hF hD hO hR;simp only[Act.put,aq,al,ar]at hK |-;go_simp;refine hK _ _ trivial (by simpa[au]using hI) (λ_ _=>?_);rfl
  refine aj.cons (λρ L W hR hI hL hD hO hF K hK=>?_) ?_
  ·have f3:=ag hF (j:=3) (by decide);clear hF hD hO hR;simp only[Act.put,aq,al,ar]at hK |-;have e3:ρ 3=UN s:=f3;rw[e3]at hK |-;have y0:0<raw.size-a:=by omega
   go_simp;refine hK _ _ trivial (by simpa[au]using hI) (λ_ _=>?_);rfl
  refine aj.cons (λρ L W hR hI hL hD hO hF K hK=>?_) ?_
  ·clear hF hD hO hR;simp only[Act.put,aq,al,ar]at hK |-;go_simp;refine hK _ _ trivial (by simpa[au]using hI) (λ_ _=>?_);rfl
  refine aj.cons (λρ L W hR hI hL hD hO hF K hK=>?_) ?_
  ·have f5:=ag hF (j:=5) (by decide);clear hF hD hO hR;simp only[Act.put,aq,al,ar]at hK |-;have e5:ρ 5=UQ (some ⟨b,0,none⟩):=f5;rw[e5]at hK |-;go_simp;refine hK _ _ trivial (by simpa[au]using hI) (λ_ _=>?_);rfl
  refine aj.cons (λρ L W hR hI hL hD hO hF K hK=>?_) ?_
  ·have f6:=ag hF (j:=6) (by decide);clear hF hD hO hR;simp only[Act.put,aq,al,ar]at hK |-;have e6:ρ 6=UQ (some ⟨b,0,none⟩):=f6;rw[e6]at hK |-;go_simp;refine hK _ _ trivial (by simpa[au]using hI) (λ_ _=>?_);rfl
  refine aj.cons (λρ L W hR hI hL hD hO hF K hK=>?_) ?_
  ·have f7:=ag hF (j:=7) (by decide);have jJ:L 9=false:=hD.not (p:=9) rfl (by decide) hL;rw[if_neg (by rw[jJ];decide)]at hI;subst hI;clear hF hD hO hR;simp only[Act.put,aq,al,ar]at hK |-;have e7:ρ 7=UQ (some ⟨b,3,none⟩):=f7;rw[e7]at hK |-;go_simp;refine hK _ _ trivial (by simp[au,jJ]) (λ_ _=>?_);rfl
  refine aj.cons (λρ L W hR hI hL hD hO hF K hK=>?_) ?_
  ·have f2:=ag hF (j:=2) (by decide);have f4:=ag hF (j:=4) (by decide);have f8:=ag hF (j:=8) (by decide);rw[if_neg (by rw[hL];decide)]at hI;subst hI;clear hF hD hO hR;simp only[Act.put,aq,al,ar]at hK |-;have e2:ρ 2=UQ (some ⟨b,0,none⟩):=f2;have e4:ρ 4=UM .u8 (c.toNat:Int):=f4;have e8:ρ 8=UM US d:=f8;rw[e2,e4,e8]at hK |-;refine mH (o:=⟨some 28,_,_,_,_,_⟩) rfl 162 #[UQ (some ⟨b,0,none⟩),UM .u8 c.toNat,UM US d] _ zS.out ?_ ?_
   ·go_simp
   rintro e W2 ⟨rfl,h1,h2⟩;exact⟨_,rfl,hK _ _ trivial (by simp only[au,if_true];exact⟨h1,h2⟩) (λ_ _=>rfl)⟩
  refine aj.cons (λρ L W hR hI hL hD hO hF K hK=>?_) ?_
  ·have f9:=ag hF (j:=9) (by decide);clear hF hD hO hR;simp only[Act.put,aq,al,ar]at hK |-;have e9:ρ 9=UP (!St.aV ah.length tx.length cuts.length true):=f9;rw[e9]at hK |-;go_simp;refine hK _ _ trivial (by simpa[au]using hI) (λ_ _=>?_);rfl
  exact aj.nil
 case hendD=>
  intro ρ L W hR hI hL hF;rw[if_pos (hL 9 (by decide))]at hI;obtain⟨_,_,_,_,_,_,_,_,_,_,g10,_⟩:=hF;have g10:ρ 10=UP (!St.aV ah.length tx.length cuts.length true):=g10;rw[g10];clear g10 hR hL;obtain⟨eF,hbl⟩:=hI;have og:Below B w W:=Below.trans rD.out hbl;have cZ:=aa og;have ie:=aa eF;clear eF hbl og;cases hfu:St.aV ah.length tx.length cuts.length true
  ·obtain⟨c3,c4,f3,f4,hlt,hBb⟩:=(ie.out hfu).at;haveI:af b W:=af.of hlt;have Gc:=aa ((ie.out hfu).mo (a+1) ((a:Int)+1) ((a:Int)+1) (by omega) (by omega));have rT:=aa hBb;have ck:=aa hfu;clear hfu hBb;go_wp2;go_ret2;exact BX bA.out hN'.out ck.out ((cZ.out.setCell (p:=⟨b,3,none⟩) rT.out _).setCell (p:=⟨b,4,none⟩) rT.out _) Gc.out h3 _ (by omega)
  have ck:=aa hfu;clear hfu;go_wp2;go_ret2;exact BZ bA.out hN'.out ck.out cZ.out
end
section
def iI(raw:ByteArray):List St.It × List Nat × Nat × Int:=St.dec St.bX raw.size raw.1.1 0 0 [] []
def pY(raw:ByteArray)(w:UY)(e:Ending)(w':UY):Prop:=
 ac w w'/\((∃ah tx cuts d,e=UU (UR #[UQ (some ⟨w.1.size,0,none⟩),UM US 0,UM US 0])/\bY gS (oD d) w' w.1.size w.1.size ah tx cuts/\ah.length<=512/\cuts.length<=1024/\tx.length<=cuts.length/\iI raw=(ah++St.b8 tx,cuts++[d],0,0))\/
  ∃(a:Nat) (er:Int),er≠0/\e=UU (UR #[UQ none,UM US a,UM US er])/\iI raw=([],[],a,er))
def Es(w:UY)(raw:ByteArray)(s6:Value)(wr:UY):Prop:=
 ∃(a d:Nat) (ah:List St.It) (tx:List UInt8) (cuts:List Nat) (fuel:Nat),s6=UM US a/\a<=raw.size/\raw.size-a<=fuel/\bY gS (oD d) wr w.1.size w.1.size ah tx cuts/\St.fu ah/\ah.length<=512/\cuts.length<=1024/\tx.length<=cuts.length /\
  iI raw=St.dec St.bX fuel (raw.1.1.drop a) a d (ah++St.b8 tx) cuts/\ac w wr
theorem bY.fresh(w:UY):bY gS (oD 0) (w.alloc (.cells #[UO none 0 0,UO none 0 0,UO none 0 0,UM US 0,UM US 0] 129)) w.1.size w.1.size [] [] []:=
 ⟨_,_,_,Nat.le_refl _,heap_alloc_new w _,World.ownsRow_nil _ _ _ _,World.ownsRow_nil _ _ _ _,World.ownsRow_nil _ _ _ _⟩
theorem jT(raw:ByteArray)(w:UY)(hr:raw.size<=4611686018427387904):Calls Tryz.prog 81 #[UN raw] w (pY raw w):=by
 have nu:=aa (bY.fresh w);go_enter Tryz.func81,Tryz.ntmps81;go_wp2;go_loopw [6] (λs6 wr=>Es w raw s6 wr) (λs6 _=>raw.size+1-(intOf s6).toNat)
 case atStart=>exact⟨0,0,[],[],[],raw.size,rfl,by omega,by omega,nu.out,St.pk,by simp,by simp,by simp,by simp[iI,St.b8],uZ⟩
 case round=>
  obtain⟨a,d,ah,tx,cuts,fuel,rfl,ha,hfu,hB,hN,h1,h2,h3,hD,hu⟩:=hrel;clear nu
  by_cases hlt:a<raw.size
  ·have hel:=ku wr w.1.size w.1.size ah tx cuts d raw a hB hN h1 h2 h3 hu.size hlt hr;have jv:=aa hel;have HD:=aa hD;have HU:=aa hu;have HN:=aa hN
   have h0:raw.1.1.drop a≠[]:=by
    intro e;have:=congrArg List.length e
    simp at this;omega
   obtain⟨fuel,rfl⟩:∃m,fuel=m+1:=⟨fuel-1,by omega⟩;clear hel hB hN hD hu;go_wp2_with fail;refine jv.out.mono ?_;rintro e w2 ⟨hbl,hm⟩;have hu2:ac w w2:=ac.cn (Below.trans HU.out.below hbl);have aZ:=aa hu2;clear hbl hu2;cases hs:St.bX (raw.1.1.drop a)with
   | none=>
    rw[hs]at hm;subst hm;have hd2:=HD.out.trans (St.ob fuel a d _ cuts h0 hs);have cC:=aa hd2;clear hd2 hs h0;go_wp2;go_ret3;exact⟨aZ.out,.inr ⟨a,2,by decide,rfl,cC.out⟩⟩
   | some x=>
    obtain⟨k,t,n⟩:=x;rw[hs]at hm;simp only at hm;obtain⟨_,iS,fk,_⟩:=St.iJ hs;have nw:a+n<=raw.size:=by simp at fk;omega
    have iR:(raw.1.1.drop a).drop n=raw.1.1.drop (a+n):=by rw[List.drop_drop]
    by_cases gL:k=0
    ·rw[if_pos gL]at hm;obtain⟨rfl,hB'⟩:=hm;subst gL;have hd2:=HD.out.trans (St.uh fuel a d _ cuts h0 hs);rw[iR]at hd2;have HE:=aa (And.intro hd2 (And.intro hB' HN.out));clear hd2 hB' hs h0 iR jv HD HU HN;go_wp2;exact⟨⟨a+n,d,ah,tx,cuts,fuel,congrArg (UM US) (by omega),nw,by omega,HE.out.2.1,HE.out.2.2,h1,h2,h3,HE.out.1,aZ.out⟩,by simp[intOf];omega⟩
    rw[if_neg gL]at hm
    split at hm
    ·rename_i hf
     subst hm;have hd2:=HD.out.trans (St.oa fuel a d _ cuts h0 hs gL hf);have cC:=aa hd2;clear hd2 hs h0 hf iR;go_wp2;go_ret3;exact⟨aZ.out,.inr ⟨a,3,by decide,rfl,cC.out⟩⟩
    rename_i hf
    obtain⟨rfl,ft,jm,hB',hN',hadd,ht'⟩:=hm;have hd2:=HD.out.trans (St.oc fuel a d _ cuts h0 hs gL hf);rw[<-hadd]at hd2 hf;rw[iR]at hd2;have Du:ft.length<=512:=by have:=(not_or.1 hf).1;simp at this;omega
    have QR:cuts.length+1<=1024:=by have:=(not_or.1 hf).2;omega
    have HE:=aa (And.intro hd2 (And.intro hB' hN'));clear hd2 hB' hN' hadd hf hs h0 iR jv HD HU;go_wp2;exact⟨⟨a+n,a+n,ft,jm,cuts++[d],fuel,congrArg (UM US) (by omega),nw,by omega,HE.out.2.1,HE.out.2.2,Du,by simp;omega,by simp;omega,HE.out.1,aZ.out⟩,by simp[intOf];omega⟩
  have vy:a=raw.size:=by omega
  subst vy;have hnil:raw.1.1.drop raw.size=[]:=List.drop_of_length_le (by simp);rw[hnil,St.qc]at hD;have HE:=aa (And.intro hu (And.intro hB hD));clear hlt hB hN hD hu hnil;go_wp2;go_ret3;exact⟨HE.out.1,.inl ⟨ah,tx,cuts,d,rfl,HE.out.2.1,h1,h2,h3,HE.out.2.2⟩⟩
def jB(R:List St.It × List Nat × Nat × Int)(w:UY)(e:Ending)(w':UY):Prop:=
 ∃(A:Option Addr) (c:Nat),e=UU (UR #[UO A R.1.length c,UM US (R.2.2.1:Int),UM US R.2.2.2])/\aO w' A R.1/\R.1.length<=c/\c<=9223372036854775807/\ac w w'
def eM(R:List St.It × List Nat × Nat × Int)(w:UY)(e:Ending)(w':UY):Prop:=
 ∃(A:Option Addr) (c:Nat),e=UU (UR #[UO A R.2.1.length c,UM US R.2.2.2])/\iw w' A R.2.1/\R.2.1.length<=c/\c<=9223372036854775807/\ac w w'
theorem tV(raw:ByteArray)(w:UY)(hr:raw.size<=4611686018427387904):Calls Tryz.prog 43 #[UN raw] w (jB (iI raw) w):=by
 have HR:=aa (jT raw w hr);go_enter Tryz.func43,Tryz.ntmps43;go_wp2_with fail;refine HR.out.mono ?_;rintro e w2 ⟨hu,⟨ah,tx,cuts,d,rfl,hB,h1,h2,h3,hD⟩|⟨a,er,her,rfl,hD⟩⟩
 ·have HI:=aa (ph w2 w.1.size w.1.size ah tx cuts hB (by omega) (by omega) hu.size);have HU:=aa hu;have HD:=aa hD;clear hu hB hD HR;go_wp2_with fail;refine HI.out.mono ?_;rintro e w3 ⟨A,c,rfl,hI,hc1,hc2,hbl⟩;have HE:=aa (And.intro hI (ac.cn (Below.trans HU.out.below hbl)));have ol:=aa hc1;clear hI hbl hc1;go_wp2;go_ret3;unfold jB;rw[HD.out];exact⟨A,c,by simp only[List.length_append];rfl,HE.out.1,ol.out,hc2,HE.out.2⟩
 have hb:(er==0)=false:=by simpa using her
 have HU:=aa hu;have HD:=aa hD;clear hu hD HR;go_wp2;go_ret3;unfold jB;rw[HD.out];exact⟨none,0,rfl,λh=>absurd h (by simp),by simp,by omega,HU.out⟩
theorem Ja(raw:ByteArray)(w:UY)(hr:raw.size<=4611686018427387904):Calls Tryz.prog 71 #[UN raw] w (eM (iI raw) w):=by
 have HR:=aa (jT raw w hr);go_enter Tryz.func71,Tryz.ntmps71;go_wp2_with fail;refine HR.out.mono ?_;rintro e w2 ⟨hu,⟨ah,tx,cuts,d,rfl,hB,h1,h2,h3,hD⟩|⟨a,er,her,rfl,hD⟩⟩
 ·have HI:=aa (oU w2.drew w.1.size w.1.size ah tx cuts d (hB.ai (ac.refl w2).drew) (by omega) (by simpa using hu.size));have HU:=aa hu;have HD:=aa hD;obtain⟨c3,c4,f3,f4,hlt,hBb⟩:=hB.at;haveI:af w.1.size w2:=af.of hlt;have vz:Below w.1.size w2 w2.drew:=(Below.refl _ w2).drew;clear hu hB hD HR;go_wp2_with fail;go_region_law (refine mH rfl 112 #[UQ (some ⟨w.1.size,0,none⟩),UM US d] _ HI.out ?_ ?_;(· go_simp);rintro e w3 ⟨A,c,rfl,hI,hc1,hc2,hbl⟩;refine⟨_,rfl,?_⟩)
  all_goals
   have HE:=aa (And.intro hI (ac.cn (Below.trans (Below.trans HU.out.below vz) hbl)));have ol:=aa hc1;clear hI hbl hc1;go_wp2;refine bodyPost_ret (v:=UR #[UO A (cuts.length+1) c,UM US 0]) (by simp[results,Tryz.results71,go_sem]<;>exact⟨rfl,rfl⟩) rfl ?_;unfold eM;rw[HD.out];exact⟨A,c,by simp,HE.out.1,by simpa using ol.out,hc2,HE.out.2⟩
 have hb:(er==0)=false:=by simpa using her
 have HU:=aa hu;have HD:=aa hD;clear hu hD HR;go_wp2;go_ret2;unfold eM;rw[HD.out];exact⟨none,0,rfl,λh=>absurd h (by simp),by simp,by omega,HU.out⟩
def dE(l:List UInt8):Nat × Int:=((St.dec St.bX l.length l 0 0 [] []).2.2.1,(St.dec St.bX l.length l 0 0 [] []).2.2.2)
theorem kE(x:ByteArray):dE x.1.1=((iI x).2.2.1,(iI x).2.2.2):=by
 unfold dE iI;rw[St.aC]
theorem qb:∀(fuel:Nat) (l:List UInt8) (a d:Nat) (f:List St.It) (cuts:List Nat),(St.dec St.bX fuel l a d f cuts).2.2.1<=a+l.length
 | 0,l,a,d,f,cuts=>by simp[St.dec]
 | fuel+1,l,a,d,f,cuts=>by
  by_cases h0:l=[]
  ·subst h0;rw[St.qc];simp
  cases hs:St.bX l with
  | none=>rw[St.ob fuel a d f cuts h0 hs];simp
  | some x=>
   obtain⟨k,t,n⟩:=x;obtain⟨_,iS,fk,_⟩:=St.iJ hs
   by_cases hk:k=0
   ·subst hk;rw[St.uh fuel a d f cuts h0 hs];have h:=qb fuel (l.drop n) (a+n) d f cuts;rw[List.length_drop]at h;omega
   by_cases hf:512<(St.aP f (k,t,0)).length\/1024<=cuts.length
   ·rw[St.oa fuel a d f cuts h0 hs (by omega) hf];simp
   rw[St.oc fuel a d f cuts h0 hs (by omega) hf];have h:=qb fuel (l.drop n) (a+n) (a+n) (St.aP f (k,t,0)) (cuts++[d]);rw[List.length_drop]at h;omega
theorem xl(x:ByteArray):(iI x).2.2.1<=x.size:=by
 have:=qb x.size x.1.1 0 0 [] []
 rw[St.aC]at this;unfold iI;omega
end
section
namespace St
theorem Bi:∀l:List UInt8,Lib.indexByte l 10=if cg l<l.length then(cg l:Int)else -1
 | []=>rfl
 | c :: l=>by
  unfold Lib.indexByte
  by_cases h:c.toNat=10
  ·have h2:c=10:=by apply UInt8.toNat_inj.1;simpa using h
   subst h2;simp[cg]
  have h2:¬c=10:=λe=>h (by rw[e];rfl)
  have h3:(c==10)=false:=by simpa using h2
  have e:cg (c :: l)=cg l+1:=by unfold cg;rw[List.takeWhile_cons_of_pos (by simpa using h),List.length_cons]
  rw[h3,Bi l,e];simp only[List.length_cons,Bool.false_eq_true,if_false]
  by_cases h4:cg l<l.length
  ·rw[if_pos h4,if_neg (by simp<;>omega),if_pos (by omega)];try simp
  rw[if_neg h4,if_pos (by simp),if_neg (by omega)]
theorem FQ(l:List UInt8):dP l=(match (l.take (cg l)).dropWhile fJ with | []=>true|c :: _=>decide (c.toNat=35)):=by
 have e:l.take (cg l)=l.takeWhile (λc=>decide (c.toNat≠10)):=(List.prefix_iff_eq_take.1 (List.takeWhile_prefix _)).symm;rw[e];clear e
 induction l with
 | nil=>rfl
 | cons c l ih=>
  unfold dP at ih |-
  by_cases h10:c.toNat=10
  ·have hb:fJ c=false:=by unfold fJ;exact decide_eq_false (by omega)
   rw[List.takeWhile_cons_of_neg (by simp[h10]),List.dropWhile_cons_of_neg (by simp[hb])];simp[h10]
  rw[List.takeWhile_cons_of_pos (by simpa using h10)]
  by_cases hb:fJ c=true
  ·rw[List.dropWhile_cons_of_pos hb,List.dropWhile_cons_of_pos hb];exact ih
  rw[List.dropWhile_cons_of_neg hb,List.dropWhile_cons_of_neg hb];simp[h10]
end St
theorem H7(s:ByteArray)(w:UY):Calls Tryz.prog 167 #[UN s,UN ⟨#[10]⟩] w λe w'=>e=UU (UM US (Lib.indexByte s.1.1 10))/\w'=w:=Tryz.stringslite_Index_one s 10 w
theorem Jw(s:ByteArray)(w:UY)(hs:s.size<=4611686018427387904):Calls Tryz.prog 155 #[UN s,UN ⟨#[10]⟩] w λe w'=>∃(x y:ByteArray) (f:Bool),e=UU (UR #[UN x,UN y,UP f])/\x.1.1=s.1.1.take (St.cg s.1.1)/\ac w w':=by
 have bM:=λW=>H7 s W
 rw[St.Bi]at bM;have hle:=St.kQ s.1.1;rw[St.aC]at hle
 by_cases h:St.cg s.1.1<s.1.1.length
 ·rw[if_pos h]at bM;have h2:St.cg s.1.1<s.size:=by rw[St.aC]at h;exact h
  have hx:(s.extract 0 (St.cg s.1.1)).1.1=s.1.1.take (St.cg s.1.1):=by rw[Lib.extract_data];simp
  generalize St.cg s.1.1=n at *;have HX:=aa hx;have dS:=aa bM;have y1:(n:Int)<=s.size:=by omega
  have y2:(n:Int)+1<=s.size:=by omega
  clear hx bM h hle;go_enter Tryz.func155,Tryz.ntmps155;go_wp2_with (go_at_call 167;refine(dS.out _).mono ?_;rintro e w' ⟨rfl,rfl⟩);go_quiet (fail);go_wp2;go_ret3;exact⟨_,_,_,rfl,HX.out,(ac.refl _).drewN _⟩
 rw[if_neg h]at bM;have hx:s.1.1=s.1.1.take (St.cg s.1.1):=(List.take_of_length_le (by omega)).symm;generalize St.cg s.1.1=n at *;have HX:=aa hx;have dS:=aa bM;clear hx bM h hle;go_enter Tryz.func155,Tryz.ntmps155;go_wp2_with (go_at_call 167;refine(dS.out _).mono ?_;rintro e w' ⟨rfl,rfl⟩);go_ret3;exact⟨_,_,_,rfl,HX.out,ac.refl _⟩
theorem L7(s:ByteArray)(w:UY)(hs:s.size<=4611686018427387904):Calls Tryz.prog 118 #[UN s,UN ⟨#[10]⟩] w λe w'=>∃(x y:ByteArray) (f:Bool),e=UU (UR #[UN x,UN y,UP f])/\x.1.1=s.1.1.take (St.cg s.1.1)/\ac w w':=by
 have HC:=aa (Jw s w hs);go_enter Tryz.func118,Tryz.ntmps118;go_wp2_with fail;refine HC.out.mono ?_;rintro e w' ⟨x,y,f,rfl,hx,hu⟩;have HX:=aa hx;have HU:=aa hu;clear hu;clear hx;go_wp2
 first|go_ret|go_ret3
 exact⟨x,y,f,rfl,HX.out,HU.out⟩
theorem KS(s:ByteArray)(w:UY):Calls Tryz.prog 119 #[UN s,UN ⟨#[32,9]⟩] w λe w'=>∃x:ByteArray,e=UU (UN x)/\x.1.1=s.1.1.dropWhile St.fJ/\ac w w':=by
 have h:=Any.strings_TrimLeft_laid Tryz.Mw (by kernel_rfl) s ⟨#[32,9]⟩ w (by decide) (ascii_of_all (by decide));refine Calls.mono (show Calls Tryz.prog 119 _ _ _ from h) ?_;rintro e w' ⟨rfl,hb⟩;refine⟨_,rfl,?_,ac.cn hb⟩
 have e:(λc:UInt8=>([32,9]:List UInt8).contains c)=St.fJ:=by
  funext c
  unfold St.fJ;rw[Bool.eq_iff_iff];simp only[List.contains_iff_mem,List.mem_cons,List.not_mem_nil,or_false,decide_eq_true_eq];constructor
  ·rintro (rfl|rfl)<;>simp
  rintro (h|h)
  ·exact .inl (by apply UInt8.toNat_inj.1;simpa using h)
  exact .inr (by apply UInt8.toNat_inj.1;simpa using h)
 show Lib.trimLeftS s.1.1 [32,9]=_
 unfold Lib.trimLeftS;exact congrArg (λp=>s.1.1.dropWhile p) e
theorem CT(d:ByteArray)(a:Nat)(w:UY)(ha:a<=d.size)(hd:d.size<=4611686018427387904) :
  Calls Tryz.prog 76 #[UN d,UM US a] w λe w'=>e=UU (UR #[UM US ((min (a+St.cg (d.1.1.drop a)+1) d.size:Nat):Int),UP (St.dP (d.1.1.drop a))])/\ac w w':=by
 obtain⟨s,hE⟩:∃s,d.extract a d.size=s:=⟨_,rfl⟩;have hsz:s.size=d.size-a:=by rw[<-hE];simp
 have hl:s.1.1=d.1.1.drop a:=by rw[<-hE];simp;exact List.take_of_length_le (by simp)
 have y1:(a:Int)<=d.size:=by omega
 have xy:=aa (L7 s w (by omega));rw[<-hl];clear hl;go_enter Tryz.func76,Tryz.ntmps76;go_wp2_with fail;refine xy.out.mono ?_;rintro e w1 ⟨x,y,f,rfl,hx,hu0⟩;have fU:=aa hu0;clear hu0
 have hxs:x.size=St.cg s.1.1:=by
  rw[<-St.aC,hx,List.length_take];have:=St.kQ s.1.1
  omega
 have hle:=St.kQ s.1.1;rw[St.aC,<-hxs]at hle;have Nu:=aa (KS x w1);have hsk:=St.FQ s.1.1;rw[<-hx]at hsk;have Qs:=aa hxs;have xJ:=aa hsk;clear hx hxs hsk xy;go_wp2_with fail;refine Nu.out.mono ?_;rintro e w2 ⟨t,rfl,ht,hu⟩;have HU:=aa (fU.out.trans hu);rw[<-ht]at xJ;have y2:¬9223372036854775807<x.size:=by omega
 have y3:(min (a+x.size+1) d.size:Nat)=min ((a:Int)+x.size+1) d.size:=by omega
 have Qt:=aa y3
 by_cases h0:t.size=0
 ·have hnil:t.1.1=[]:=List.eq_nil_of_length_eq_zero (by rw[St.aC];exact h0);have nx:St.dP s.1.1=true:=by rw[xJ.out,hnil]
  have e0:(t.toList==([]:List UInt8))=true:=by rw[Lib.toList_data,hnil];rfl
  have xI:=aa nx;clear hu ht hnil nx Nu xJ y3 h0;go_wp2_with fail;go_quiet (fail);go_wp2;refine bodyPost_ret (v:=UR #[UM US (min ((a:Int)+x.size+1) d.size),UP true]) (by simp[results,Tryz.results76,go_sem]) rfl ⟨?_,HU.out.drewN _⟩;rw[<-Qs.out,xI.out,Qt.out]
 have hcr:=St.fo t (by omega);have e0:(t.toList==([]:List UInt8))=false:=by rw[Lib.toList_data,hcr];rfl
 have z0:0<t.size:=by omega
 have nx:St.dP s.1.1=((t[0].toNat:Int)==35):=by
  rw[xJ.out,hcr,Bool.eq_iff_iff];simp;omega
 have xI:=aa nx;clear hu ht hcr nx Nu xJ y3 h0;cases hq:((t[0].toNat:Int)==35)
 all_goals
  rw[hq]at xI;go_wp2_with fail;go_quiet (fail);go_wp2;refine bodyPost_ret (v:=UR #[UM US (min ((a:Int)+x.size+1) d.size),UP _]) (by simp[results,Tryz.results76,go_sem];rfl) rfl ⟨?_,HU.out.drewN _⟩;rw[<-Qs.out,xI.out,Qt.out]
end
section
namespace St
theorem Bp:bG []=0:=rfl
theorem ql{c:UInt8}{r:List UInt8}(h:ga c=false):bG (c :: r)=0:=by unfold bG;rw[List.takeWhile_cons_of_neg (by simp[h])];rfl
theorem kP{c:UInt8}{r:List UInt8}(h:ga c=true):bG (c :: r)=1+bG r:=by unfold bG;rw[List.takeWhile_cons_of_pos h,List.length_cons];omega
theorem Dk{c:UInt8}{r:List UInt8}(h:c.toNat=10):dc (c :: r)=0:=by rw[dc.eq_def];simp only[];rw[if_pos h]
theorem GP{c:UInt8}(h:c.toNat=92):dc [c]=1:=by rw[dc.eq_def];simp only[];rw[if_neg (by omega),if_pos h]
theorem GQ{c x:UInt8}{r:List UInt8}(h:c.toNat=92):dc (c :: x :: r)=2+dc r:=by rw[dc.eq_def];simp only[];rw[if_neg (by omega),if_pos h]
theorem GR{c:UInt8}{r:List UInt8}(h:c.toNat≠10)(h2:c.toNat≠92):dc (c :: r)=1+dc r:=by rw[dc.eq_def];simp only[];rw[if_neg h,if_neg h2]
theorem Kg{c:UInt8}{r:List UInt8}(h:c.toNat=10):cg (c :: r)=0:=by unfold cg;rw[List.takeWhile_cons_of_neg (by simp[h])];rfl
theorem xc{c:UInt8}{r:List UInt8}(h:c.toNat≠10):cg (c :: r)=1+cg r:=by unfold cg;rw[List.takeWhile_cons_of_pos (by simpa using h),List.length_cons];omega
end St
def Py(s:ByteArray)(s3:Value):Prop:=∃k:Nat,s3=UM US k/\k<=65/\k<=s.size/\St.bG s.1.1=k+St.bG (s.1.1.drop k)
theorem Ms(s:ByteArray)(w:UY)(hs:s.size<=4611686018427387904):Calls Tryz.prog 77 #[UN s] w λe w'=>e=UU (UM US ((min (St.bG s.1.1) 65:Nat):Int))/\w=w':=by
 go_enter Tryz.func77,Tryz.ntmps77;go_wp2;go_loop [3] (λi=>Py s i) (λi=>66-(intOf i).toNat)
 case atStart=>exact⟨0,rfl,by omega,by omega,by simp⟩
 case round=>
  obtain⟨k,rfl,h1,h2,h3⟩:=hrel;have HK:=aa h3;clear h3
  by_cases hlt:k<s.size
  ·have z:(k:Int)<s.size:=by omega
   by_cases SS:k<65
   ·have z2:(k:Int)<65:=by omega
    have ax:=St.drop_at s k hlt;rcases(show(97<=s[k].toNat/\s[k].toNat<=122)\/(48<=s[k].toNat/\s[k].toNat<=57)\/(s[k].toNat=46)\/(s[k].toNat=95)\/(s[k].toNat=45)\/(s[k].toNat<45\/s[k].toNat=47)\/(58<=s[k].toNat/\s[k].toNat<97/\s[k].toNat≠95)\/(122<s[k].toNat)by omega)with hc|hc|hc|hc|hc|hc|hc|hc
    ·have hk:St.ga s[k]=true:=decide_eq_true (by omega);have y0:97<=(s[k].toNat:Int):=by omega
     have y1:(s[k].toNat:Int)<=122:=by omega
     clear hc;have HE:=aa (show St.bG s.1.1=k+1+St.bG (s.1.1.drop (k+1))by rw[HK.out,ax,St.kP hk];omega);clear ax hk;go_wp2;go_round
     case rel=>exact⟨k+1,by go_num,by omega,by omega,HE.out⟩
     case measure=>simp[intOf];omega
    ·have hk:St.ga s[k]=true:=decide_eq_true (by omega);have y0:¬97<=(s[k].toNat:Int):=by omega
     have y1:48<=(s[k].toNat:Int):=by omega
     have y2:(s[k].toNat:Int)<=57:=by omega
     clear hc;have HE:=aa (show St.bG s.1.1=k+1+St.bG (s.1.1.drop (k+1))by rw[HK.out,ax,St.kP hk];omega);clear ax hk;go_wp2;go_round
     case rel=>exact⟨k+1,by go_num,by omega,by omega,HE.out⟩
     case measure=>simp[intOf];omega
    ·have hk:St.ga s[k]=true:=decide_eq_true (by omega);have y0:¬97<=(s[k].toNat:Int):=by omega
     have y1:¬48<=(s[k].toNat:Int):=by omega
     have y2:((s[k].toNat:Int)==46)=true:=by simp;omega
     clear hc;have HE:=aa (show St.bG s.1.1=k+1+St.bG (s.1.1.drop (k+1))by rw[HK.out,ax,St.kP hk];omega);clear ax hk;go_wp2;go_round
     case rel=>exact⟨k+1,by go_num,by omega,by omega,HE.out⟩
     case measure=>simp[intOf];omega
    ·have hk:St.ga s[k]=true:=decide_eq_true (by omega);have y0:¬97<=(s[k].toNat:Int):=by omega
     have y1:48<=(s[k].toNat:Int):=by omega
     have y2:¬(s[k].toNat:Int)<=57:=by omega
     have y3:((s[k].toNat:Int)==46)=false:=by simp;omega
     have y4:((s[k].toNat:Int)==95)=true:=by simp;omega
     clear hc;have HE:=aa (show St.bG s.1.1=k+1+St.bG (s.1.1.drop (k+1))by rw[HK.out,ax,St.kP hk];omega);clear ax hk;go_wp2;go_round
     case rel=>exact⟨k+1,by go_num,by omega,by omega,HE.out⟩
     case measure=>simp[intOf];omega
    ·have hk:St.ga s[k]=true:=decide_eq_true (by omega);have y0:¬97<=(s[k].toNat:Int):=by omega
     have y1:¬48<=(s[k].toNat:Int):=by omega
     have y2:((s[k].toNat:Int)==46)=false:=by simp;omega
     have y3:((s[k].toNat:Int)==95)=false:=by simp;omega
     have y4:((s[k].toNat:Int)==45)=true:=by simp;omega
     clear hc;have HE:=aa (show St.bG s.1.1=k+1+St.bG (s.1.1.drop (k+1))by rw[HK.out,ax,St.kP hk];omega);clear ax hk;go_wp2;go_round
     case rel=>exact⟨k+1,by go_num,by omega,by omega,HE.out⟩
     case measure=>simp[intOf];omega
    ·have hk:St.ga s[k]=false:=decide_eq_false (by omega);have y0:¬97<=(s[k].toNat:Int):=by omega
     have y1:¬48<=(s[k].toNat:Int):=by omega
     have y2:((s[k].toNat:Int)==46)=false:=by simp;omega
     have y3:((s[k].toNat:Int)==95)=false:=by simp;omega
     have y4:((s[k].toNat:Int)==45)=false:=by simp;omega
     clear hc;have HE:=aa (show min (St.bG s.1.1) 65=k by rw[HK.out,ax,St.ql hk];omega);clear ax hk;go_wp2;go_ret;exact⟨ba (by rw[HE.out]),rfl⟩
    ·have hk:St.ga s[k]=false:=decide_eq_false (by omega);have y0:¬97<=(s[k].toNat:Int):=by omega
     have y1:48<=(s[k].toNat:Int):=by omega
     have y2:¬(s[k].toNat:Int)<=57:=by omega
     have y3:((s[k].toNat:Int)==46)=false:=by simp;omega
     have y4:((s[k].toNat:Int)==95)=false:=by simp;omega
     have y5:((s[k].toNat:Int)==45)=false:=by simp;omega
     clear hc;have HE:=aa (show min (St.bG s.1.1) 65=k by rw[HK.out,ax,St.ql hk];omega);clear ax hk;go_wp2;go_ret;exact⟨ba (by rw[HE.out]),rfl⟩
    have hk:St.ga s[k]=false:=decide_eq_false (by omega);have y0:97<=(s[k].toNat:Int):=by omega
    have y1:¬(s[k].toNat:Int)<=122:=by omega
    have y2:48<=(s[k].toNat:Int):=by omega
    have y3:¬(s[k].toNat:Int)<=57:=by omega
    have y4:((s[k].toNat:Int)==46)=false:=by simp;omega
    have y5:((s[k].toNat:Int)==95)=false:=by simp;omega
    have y6:((s[k].toNat:Int)==45)=false:=by simp;omega
    clear hc;have HE:=aa (show min (St.bG s.1.1) 65=k by rw[HK.out,ax,St.ql hk];omega);clear ax hk;go_wp2;go_ret;exact⟨ba (by rw[HE.out]),rfl⟩
   obtain rfl:k=65:=by omega
   have HE:=aa (show min (St.bG s.1.1) 65=65 by rw[HK.out];omega);clear SS;go_wp2;go_ret;exact⟨ba (by rw[HE.out];rfl),rfl⟩
  obtain rfl:k=s.size:=by omega
  have HE:=aa (show min (St.bG s.1.1) 65=s.size by rw[HK.out,List.drop_of_length_le (by simp),St.Bp];omega);clear hlt;go_wp2;go_ret;exact⟨ba (by rw[HE.out]),rfl⟩
def K2(d:ByteArray)(T:Nat)(s1:Value):Prop:=∃k:Nat,s1=UM US k/\((k<=d.size/\k+St.dc (d.1.1.drop k)=T)\/(k=d.size+1/\T=d.size))
theorem Mf(d:ByteArray)(a:Nat)(w:UY)(hd:d.size<=4611686018427387904)(ha:a<=d.size):Calls Tryz.prog 78 #[UN d,UM US a] w λe w'=>e=UU (UM US ((a+St.dc (d.1.1.drop a):Nat):Int))/\w=w':=by
 obtain⟨T,hT⟩:∃T,a+St.dc (d.1.1.drop a)=T:=⟨_,rfl⟩;have QI:T<=d.size:=by have:=St.ld (d.1.1.drop a);simp at this;omega
 rw[hT];go_enter Tryz.func78,Tryz.ntmps78;go_wp2;go_loop [1] (λi=>K2 d T i) (λi=>d.size+2-(intOf i).toNat)
 case atStart=>exact⟨a,rfl,.inl ⟨ha,hT⟩⟩
 case round=>
  clear hT;obtain⟨k,rfl,⟨hk,h3⟩|⟨rfl,rfl⟩⟩:=hrel
  ·have HK:=aa h3;clear h3
   by_cases hlt:k<d.size
   ·have z:(k:Int)<d.size:=by omega
    have ax:=St.drop_at d k hlt
    by_cases bB:d[k].toNat=10
    ·have e10:((d[k].toNat:Int)==10)=true:=by simp;omega
     have f10:((d[k].toNat:Int) != 10)=false:=by simp;omega
     have HE:=aa (show T=k by have:=HK.out;rw[ax,St.Dk bB]at this;omega);clear ax bB;go_wp2;go_ret;exact⟨ba (by have:=HE.out;omega),rfl⟩
    have e10:((d[k].toNat:Int)==10)=false:=by simp;omega
    have f10:((d[k].toNat:Int) != 10)=true:=by simp;omega
    by_cases iz:d[k].toNat=92
    ·have xX:((d[k].toNat:Int)==92)=true:=by simp;omega
     by_cases Hp:k+1<d.size
     ·have hc2:=St.drop_at d (k+1) Hp;have HE:=aa (show k+2+St.dc (d.1.1.drop (k+1+1))=T by have:=HK.out;rw[ax,hc2,St.GQ iz]at this;omega);clear ax hc2 bB iz;go_wp2;go_round
      case rel=>exact⟨k+2,congrArg (UM US) (by omega),.inl ⟨by omega,HE.out⟩⟩
      case measure=>simp[intOf];omega
     have hc2:d.1.1.drop (k+1)=[]:=List.drop_of_length_le (by simp;omega);have HE:=aa (show T=d.size by have:=HK.out;rw[ax,hc2,St.GP iz]at this;omega);clear ax hc2 bB iz;go_wp2;go_round
     case rel=>exact⟨d.size+1,congrArg (UM US) (by omega),.inr ⟨rfl,HE.out⟩⟩
     case measure=>simp[intOf];omega
    have xX:((d[k].toNat:Int)==92)=false:=by simp;omega
    have HE:=aa (show k+1+St.dc (d.1.1.drop (k+1))=T by have:=HK.out;rw[ax,St.GR bB iz]at this;omega);clear ax bB iz;go_wp2;go_round
    case rel=>exact⟨k+1,congrArg (UM US) (by omega),.inl ⟨by omega,HE.out⟩⟩
    case measure=>simp[intOf];omega
   obtain rfl:k=d.size:=by omega
   have HE:=aa (show T=d.size by have:=HK.out;rw[List.drop_of_length_le (by simp)]at this;exact this.symm);clear hlt;go_wp2;go_ret;exact⟨ba (by have:=HE.out;omega),rfl⟩
  have z:¬((d.size+1:Nat):Int)<d.size:=by omega
  go_wp2;go_ret;exact⟨ba (by omega),rfl⟩
theorem yP(d:ByteArray)(a:Nat)(w:UY)(hd:d.size<=4611686018427387904)(ha:a<=d.size):Calls Tryz.prog 140 #[UN d,UM US a,UP true] w λe w'=>e=UU (UM US ((a+St.dc (d.1.1.drop a):Nat):Int))/\w=w':=by
 obtain⟨T,hT⟩:∃T,a+St.dc (d.1.1.drop a)=T:=⟨_,rfl⟩;have QI:T<=d.size:=by have:=St.ld (d.1.1.drop a);simp at this;omega
 rw[hT];go_enter Tryz.func140,Tryz.ntmps140;go_wp2;go_loop [1] (λi=>K2 d T i) (λi=>d.size+2-(intOf i).toNat)
 case atStart=>exact⟨a,rfl,.inl ⟨ha,hT⟩⟩
 case round=>
  clear hT;obtain⟨k,rfl,⟨hk,h3⟩|⟨rfl,rfl⟩⟩:=hrel
  ·have HK:=aa h3;clear h3
   by_cases hlt:k<d.size
   ·have z:(k:Int)<d.size:=by omega
    have ax:=St.drop_at d k hlt
    by_cases bB:d[k].toNat=10
    ·have e10:((d[k].toNat:Int)==10)=true:=by simp;omega
     have f10:((d[k].toNat:Int) != 10)=false:=by simp;omega
     have HE:=aa (show T=k by have:=HK.out;rw[ax,St.Dk bB]at this;omega);clear ax bB;go_wp2;go_ret;exact⟨ba (by have:=HE.out;omega),rfl⟩
    have e10:((d[k].toNat:Int)==10)=false:=by simp;omega
    have f10:((d[k].toNat:Int) != 10)=true:=by simp;omega
    by_cases iz:d[k].toNat=92
    ·have xX:((d[k].toNat:Int)==92)=true:=by simp;omega
     by_cases Hp:k+1<d.size
     ·have hc2:=St.drop_at d (k+1) Hp;have HE:=aa (show k+2+St.dc (d.1.1.drop (k+1+1))=T by have:=HK.out;rw[ax,hc2,St.GQ iz]at this;omega);clear ax hc2 bB iz;go_wp2;go_round
      case rel=>exact⟨k+2,congrArg (UM US) (by omega),.inl ⟨by omega,HE.out⟩⟩
      case measure=>simp[intOf];omega
     have hc2:d.1.1.drop (k+1)=[]:=List.drop_of_length_le (by simp;omega);have HE:=aa (show T=d.size by have:=HK.out;rw[ax,hc2,St.GP iz]at this;omega);clear ax hc2 bB iz;go_wp2;go_round
     case rel=>exact⟨d.size+1,congrArg (UM US) (by omega),.inr ⟨rfl,HE.out⟩⟩
     case measure=>simp[intOf];omega
    have xX:((d[k].toNat:Int)==92)=false:=by simp;omega
    have HE:=aa (show k+1+St.dc (d.1.1.drop (k+1))=T by have:=HK.out;rw[ax,St.GR bB iz]at this;omega);clear ax bB iz;go_wp2;go_round
    case rel=>exact⟨k+1,congrArg (UM US) (by omega),.inl ⟨by omega,HE.out⟩⟩
    case measure=>simp[intOf];omega
   obtain rfl:k=d.size:=by omega
   have HE:=aa (show T=d.size by have:=HK.out;rw[List.drop_of_length_le (by simp)]at this;exact this.symm);clear hlt;go_wp2;go_ret;exact⟨ba (by have:=HE.out;omega),rfl⟩
  have z:¬((d.size+1:Nat):Int)<d.size:=by omega
  go_wp2;go_ret;exact⟨ba (by omega),rfl⟩
def Nx(d:ByteArray)(T:Nat)(s1:Value):Prop:=∃k:Nat,s1=UM US k/\k<=d.size/\k+St.cg (d.1.1.drop k)=T
theorem yR(d:ByteArray)(a:Nat)(w:UY)(hd:d.size<=4611686018427387904)(ha:a<=d.size):Calls Tryz.prog 140 #[UN d,UM US a,UP false] w λe w'=>e=UU (UM US ((a+St.cg (d.1.1.drop a):Nat):Int))/\w=w':=by
 obtain⟨T,hT⟩:∃T,a+St.cg (d.1.1.drop a)=T:=⟨_,rfl⟩;have QI:T<=d.size:=by have:=St.kQ (d.1.1.drop a);simp at this;omega
 rw[hT];go_enter Tryz.func140,Tryz.ntmps140;go_wp2;go_loop [1] (λi=>Nx d T i) (λi=>d.size+2-(intOf i).toNat)
 case atStart=>exact⟨a,rfl,ha,hT⟩
 case round=>
  clear hT;obtain⟨k,rfl,hk,h3⟩:=hrel;have HK:=aa h3;clear h3
  by_cases hlt:k<d.size
  ·have z:(k:Int)<d.size:=by omega
   have ax:=St.drop_at d k hlt
   by_cases bB:d[k].toNat=10
   ·have e10:((d[k].toNat:Int)==10)=true:=by simp;omega
    have f10:((d[k].toNat:Int) != 10)=false:=by simp;omega
    have HE:=aa (show T=k by have:=HK.out;rw[ax,St.Kg bB]at this;omega);clear ax bB;go_wp2;go_ret;exact⟨ba (by have:=HE.out;omega),rfl⟩
   have e10:((d[k].toNat:Int)==10)=false:=by simp;omega
   have f10:((d[k].toNat:Int) != 10)=true:=by simp;omega
   have HE:=aa (show k+1+St.cg (d.1.1.drop (k+1))=T by have:=HK.out;rw[ax,St.xc bB]at this;omega);clear ax bB;go_wp2;go_round
   case rel=>exact⟨k+1,congrArg (UM US) (by omega),by omega,HE.out⟩
   case measure=>simp[intOf];omega
  obtain rfl:k=d.size:=by omega
  have HE:=aa (show T=d.size by have:=HK.out;rw[List.drop_of_length_le (by simp)]at this;exact this.symm);clear hlt;go_wp2;go_ret;exact⟨ba (by have:=HE.out;omega),rfl⟩
theorem Cw(c:UInt8)(w:UY):Calls Tryz.prog 141 #[UM .u8 (c.toNat:Int)] w λe w'=>e=UU (UP (St.ga c))/\w=w':=by
 rcases(show(97<=c.toNat/\c.toNat<=122)\/(48<=c.toNat/\c.toNat<=57)\/(c.toNat=46)\/(c.toNat=95)\/(c.toNat=45)\/(c.toNat<45\/c.toNat=47)\/(58<=c.toNat/\c.toNat<97/\c.toNat≠95)\/(122<c.toNat)by omega)with hc|hc|hc|hc|hc|hc|hc|hc
 ·have hk:St.ga c=true:=decide_eq_true (by omega);have y0:97<=(c.toNat:Int):=by omega
  have y1:(c.toNat:Int)<=122:=by omega
  clear hc;rw[hk];clear hk;go_enter Tryz.func141,Tryz.ntmps141;go_wp2;go_ret;exact⟨rfl,rfl⟩
 ·have hk:St.ga c=true:=decide_eq_true (by omega);have y0:¬97<=(c.toNat:Int):=by omega
  have y1:48<=(c.toNat:Int):=by omega
  have y2:(c.toNat:Int)<=57:=by omega
  clear hc;rw[hk];clear hk;go_enter Tryz.func141,Tryz.ntmps141;go_wp2;go_ret;exact⟨rfl,rfl⟩
 ·have hk:St.ga c=true:=decide_eq_true (by omega);have y0:¬97<=(c.toNat:Int):=by omega
  have y1:¬48<=(c.toNat:Int):=by omega
  have y2:((c.toNat:Int)==46)=true:=by simp;omega
  clear hc;rw[hk];clear hk;go_enter Tryz.func141,Tryz.ntmps141;go_wp2;go_ret;exact⟨rfl,rfl⟩
 ·have hk:St.ga c=true:=decide_eq_true (by omega);have y0:¬97<=(c.toNat:Int):=by omega
  have y1:48<=(c.toNat:Int):=by omega
  have y2:¬(c.toNat:Int)<=57:=by omega
  have y3:((c.toNat:Int)==46)=false:=by simp;omega
  have y4:((c.toNat:Int)==95)=true:=by simp;omega
  clear hc;rw[hk];clear hk;go_enter Tryz.func141,Tryz.ntmps141;go_wp2;go_ret;exact⟨rfl,rfl⟩
 ·have hk:St.ga c=true:=decide_eq_true (by omega);have y0:¬97<=(c.toNat:Int):=by omega
  have y1:¬48<=(c.toNat:Int):=by omega
  have y2:((c.toNat:Int)==46)=false:=by simp;omega
  have y3:((c.toNat:Int)==95)=false:=by simp;omega
  have y4:((c.toNat:Int)==45)=true:=by simp;omega
  clear hc;rw[hk];clear hk;go_enter Tryz.func141,Tryz.ntmps141;go_wp2;go_ret;exact⟨rfl,rfl⟩
 ·have hk:St.ga c=false:=decide_eq_false (by omega);have y0:¬97<=(c.toNat:Int):=by omega
  have y1:¬48<=(c.toNat:Int):=by omega
  have y2:((c.toNat:Int)==46)=false:=by simp;omega
  have y3:((c.toNat:Int)==95)=false:=by simp;omega
  have y4:((c.toNat:Int)==45)=false:=by simp;omega
  clear hc;rw[hk];clear hk;go_enter Tryz.func141,Tryz.ntmps141;go_wp2;go_ret;exact⟨rfl,rfl⟩
 ·have hk:St.ga c=false:=decide_eq_false (by omega);have y0:¬97<=(c.toNat:Int):=by omega
  have y1:48<=(c.toNat:Int):=by omega
  have y2:¬(c.toNat:Int)<=57:=by omega
  have y3:((c.toNat:Int)==46)=false:=by simp;omega
  have y4:((c.toNat:Int)==95)=false:=by simp;omega
  have y5:((c.toNat:Int)==45)=false:=by simp;omega
  clear hc;rw[hk];clear hk;go_enter Tryz.func141,Tryz.ntmps141;go_wp2;go_ret;exact⟨rfl,rfl⟩
 have hk:St.ga c=false:=decide_eq_false (by omega);have y0:97<=(c.toNat:Int):=by omega
 have y1:¬(c.toNat:Int)<=122:=by omega
 have y2:48<=(c.toNat:Int):=by omega
 have y3:¬(c.toNat:Int)<=57:=by omega
 have y4:((c.toNat:Int)==46)=false:=by simp;omega
 have y5:((c.toNat:Int)==95)=false:=by simp;omega
 have y6:((c.toNat:Int)==45)=false:=by simp;omega
 clear hc;rw[hk];clear hk;go_enter Tryz.func141,Tryz.ntmps141;go_wp2;go_ret;exact⟨rfl,rfl⟩
def Pv(l:List St.Pt)(k:List UInt8)(i:Value):Prop:=∃j:Nat,i=UM US j/\j<=l.length/\St.ep l k=St.ep (l.drop j) k
theorem Hg(p:St.Pt)(l:List St.Pt)(k:List UInt8):St.ep (p :: l) k=((p.1&&decide (p.2.1=k)) || St.ep l k):=by unfold St.ep;rw[List.any_cons]
theorem nJ(A:Option Addr)(n c:Nat)(l:List St.Pt)(k:ByteArray)(w:UY)(hn:l.length=n)(hnc:n<=c)(hc:c<=9223372036854775807)(h:bn w A l):Calls Tryz.prog 142 #[UO A n c,UN k] w λe w'=>e=UU (UP (St.ep l k.1.1))/\w=w':=by
 have HP:=aa h;clear h;go_enter Tryz.func142,Tryz.ntmps142;go_wp2;go_loop [8] (λi=>Pv l k.1.1 i) (λi=>l.length+1-(intOf i).toNat)
 case atStart=>exact⟨0,rfl,by omega,by simp⟩
 case round=>
  obtain⟨j,rfl,hj,h3⟩:=hrel;have HK:=aa h3;clear h3
  by_cases hlt:j<l.length
  ·have z:(j:Int)<n:=by omega
   obtain⟨b,o,rfl,hb,hcl⟩:=HP.out (by omega);obtain⟨x1,x2,x3⟩:=hcl j hlt;haveI:af b w:=af.of hb;have ax:l.drop j=l[j] :: l.drop (j+1):=List.drop_eq_getElem_cons hlt;generalize l[j]=p at x1 x2 x3 ax;obtain⟨p1,p2,p3⟩:=p;simp only at x1 x2 x3;obtain⟨ky,mS⟩:∃ky:ByteArray,ky=⟨p2.toArray⟩:=⟨_,rfl⟩;rw[<-mS]at x2;have hkl:ky.toList=p2:=by rw[Lib.toList_data,mS]
   have hst:=HK.out;rw[ax,Hg]at hst;clear hcl ax x3 mS;cases p1
   ·have HE:=aa (show St.ep l k.1.1=St.ep (l.drop (j+1)) k.1.1 by rw[hst];simp);clear hst hkl;go_wp2;exact⟨⟨j+1,by simp,by omega,HE.out⟩,by simp[intOf];omega⟩
   by_cases hq:p2=k.1.1
   ·have e1:(ky.toList==k.toList)=true:=by rw[hkl,Lib.toList_data,hq];simp
    have HE:=aa (show St.ep l k.1.1=true by rw[hst];simp[hq]);clear hst hq hkl;go_wp2;go_ret;exact⟨aD HE.out.symm,rfl⟩
   have e1:(ky.toList==k.toList)=false:=by rw[hkl,Lib.toList_data];simpa using hq
   have HE:=aa (show St.ep l k.1.1=St.ep (l.drop (j+1)) k.1.1 by rw[hst];simp[hq]);clear hst hq hkl;go_wp2;exact⟨⟨j+1,by simp,by omega,HE.out⟩,by simp[intOf];omega⟩
  obtain rfl:j=l.length:=by omega
  have z:¬(l.length:Int)<n:=by omega
  have HE:=aa (show St.ep l k.1.1=false by rw[HK.out];simp[St.ep]);clear hlt;go_wp2;go_ret;exact⟨aD HE.out.symm,rfl⟩
end
section
def mi:Nat->List (List UInt8)->List MapEntry
 | _,[]=>[]
 | n,p :: l=>{ key:=UN ⟨p.toArray⟩,val:=UP true,born:=n } :: mi (n+1) l
theorem yB(k:List UInt8):∀(l:List (List UInt8)) (n:Nat),mi n (l++[k])=mi n l++[{ key:=UN ⟨k.toArray⟩,val:=UP true,born:=n+l.length }]
 | [],n=>by simp[mi]
 | p :: l,n=>by
  simp only[List.cons_append,mi,yB k l (n+1),List.length_cons];rw[show n+1+l.length=n+(l.length+1)by omega]
def MV(w:UY)(B mb:Nat)(l:List (List UInt8)):Prop:=B<=mb/\w.1[mb]?=some (.map (mi 0 l).toArray l.length)
def lX(w:UY)(mb:Nat)(l:List (List UInt8)):UY:={ w with heap:=w.heap.setIfInBounds mb (.map (mi 0 l).toArray l.length) }
theorem MV.ai{a c:UY}{B mb:Nat}{l:List (List UInt8)}(h:MV a B mb l)(u:ac a c):MV c B mb l:=⟨h.1,(u.below.block mb (ae h.2)).trans h.2⟩
theorem MV.put{w:UY}{B mb:Nat}{l l':List (List UInt8)}(h:MV w B mb l):MV (lX w mb l') B mb l':=by
 refine⟨h.1,?_⟩;have:=ae h.2
 unfold lX;simp[this]
theorem yU(w:UY)(mb:Nat)(l:List (List UInt8)):w.grownBy (lX w mb l) (some mb):=by
 refine⟨rfl,rfl,rfl,by simp[lX],λk hk hne=>?_⟩;unfold lX;simp only;rw[Array.getElem?_setIfInBounds_ne (by intro e;exact hne (by rw[e]))]
theorem uO(k p:List UInt8):Instr.sameNow .string (.string ⟨k.toArray⟩) (.string ⟨p.toArray⟩)=some (decide (k=p)):=by
 unfold Instr.sameNow;have e:((⟨k.toArray⟩:ByteArray)==⟨p.toArray⟩)=(k.toArray==p.toArray):=rfl;simp only[e];congr 1;rw[Bool.eq_iff_iff];simp
theorem qM(k:List UInt8):∀(l:List (List UInt8)) (n i:Nat),k ∉ l->Instr.findNow .string (.string ⟨k.toArray⟩) (mi n l) i=some none
 | [],n,i,_=>rfl
 | p :: l,n,i,h=>by
  simp only[List.mem_cons,not_or]at h;simp only[mi,Instr.findNow,uO,decide_eq_false h.1];exact qM k l _ _ h.2
theorem vs(k:List UInt8):∀(l:List (List UInt8)) (n i:Nat),k∈l->∃j,Instr.findNow .string (.string ⟨k.toArray⟩) (mi n l) i=some (some (j,.bool true))
 | [],n,i,h=>by cases h
 | p :: l,n,i,h=>by
  by_cases e:k=p
  ·exact⟨i,by simp only[mi,Instr.findNow,uO,decide_eq_true e]⟩
  obtain⟨j,hj⟩:=vs k l (n+1) (i+1) (by simpa[e]using h);exact⟨j,by simp only[mi,Instr.findNow,uO,decide_eq_false e];exact hj⟩
theorem KF(w:UY)(B mb:Nat)(l:List (List UInt8))(k:List UInt8)(h:MV w B mb l) :
  (Instr.lookup 115 (.map (some mb)) (UN ⟨k.toArray⟩) false).run Tryz.prog w=.ok (UP (decide (k∈l))) w:=by
 have hm:Tryz.prog.underlying 115=some (.map 9 4):=by kernel_rfl
 have hd:Tryz.prog.underlying 9=some .string:=by kernel_rfl
 have hb:=h.2;have hk:MapKept.IsKey .string (.string ⟨k.toArray⟩):=by simp[MapKept.IsKey]
 have hz:(zeroValue 4).run Tryz.prog w=.ok (UP false) w:=by go_simp
 by_cases hkl:k∈l
 ·obtain⟨j,hf⟩:=vs k l 0 0 hkl;simp[Instr.lookup,run_underlying hm,MapKept.run_getObj_map hb,MapKept.run_checkKey hd hk,MapKept.run_findKey hd hf,Result.andThen,hkl]
 have hf:=qM k l 0 0 hkl;simp[Instr.lookup,run_underlying hm,MapKept.run_getObj_map hb,MapKept.run_checkKey hd hk,MapKept.run_findKey hd hf,hz,Result.andThen,hkl]
theorem KG(w:UY)(B mb:Nat)(l:List (List UInt8))(k:List UInt8)(h:MV w B mb l)(hkl:k ∉ l) :
  (Instr.mapUpdate 115 (.map (some mb)) (UN ⟨k.toArray⟩) (UP true)).run Tryz.prog w=.ok () (lX w mb (l++[k])):=by
 have hm:Tryz.prog.underlying 115=some (.map 9 4):=by kernel_rfl
 have hd:Tryz.prog.underlying 9=some .string:=by kernel_rfl
 have hb:=h.2;have hk:MapKept.IsKey .string (.string ⟨k.toArray⟩):=by simp[MapKept.IsKey]
 have hf:=qM k l 0 0 hkl;simp[Instr.mapUpdate,run_underlying hm,MapKept.run_getObj_map hb,MapKept.run_checkKey hd hk,MapKept.run_findKey hd hf,MapKept.run_setObj_map _ hb,Result.andThen];simp[lX,yB]
end
section
theorem jP(d:ByteArray)(w:UY):Calls Tryz.prog 75 #[UN d] w λe w'=>e=UU (UQ (some ⟨w.1.size,0,none⟩))/\w'=w.alloc (.cells #[UN d,UM US 0,UO none 0 0] 161):=by
 go_enter Tryz.func75,Tryz.ntmps75;go_wp2;go_ret;exact⟨rfl,rfl⟩
def jq(d:ByteArray):List St.Pt × Nat × Int:=St.kB dE d.1.1
def aF(R:List St.Pt × Nat × Int)(w:UY)(e:Ending)(w':UY):Prop:=
 ∃(A:Option Addr) (c:Nat),e=UU (UR #[UO A R.1.length c,UM US (R.2.1:Int),UM US R.2.2])/\bn w' A R.1/\R.1.length<=c/\c<=9223372036854775807/\ac w w'
theorem aF.err{R:List St.Pt × Nat × Int}{w w':UY}{a:Nat}{er:Int}(h:R=([],a,er))(u:ac w w')(m:Int)(hm:m=a):aF R w (UU (UR #[UO none 0 0,UM US m,UM US er])) w':=by
 subst h hm;exact⟨none,0,rfl,λh=>absurd h (by simp),by simp,by omega,u⟩
def gN(ps:List St.Pt):List (List UInt8):=ps.filterMap λp=>if p.1 then some p.2.1 else none
theorem yj(ps:List St.Pt)(k:List UInt8):St.ep ps k=decide (k∈gN ps):=by
 rw[Bool.eq_iff_iff];unfold St.ep gN;simp only[List.any_eq_true,Bool.and_eq_true,decide_eq_true_eq,List.mem_filterMap];constructor
 ·rintro ⟨p,hp,h1,h2⟩;exact⟨p,hp,by rw[if_pos h1,h2]⟩
 rintro ⟨p,hp,h⟩
 split at h
 ·rename_i h1;exact⟨p,hp,h1,by simpa using h⟩
 cases h
theorem Fm(d:List UInt8)(s:St.PS)(a b:Nat)(k:List UInt8):gN (St.bg d s a b k).1=gN s.1++[k]:=by
 unfold St.bg gN;simp
def PM(w:UY)(d:ByteArray)(s3:Value)(wr:UY):Prop:=
 ∃(a fuel:Nat) (s:St.PS),s3=UM US a/\a<=d.size/\d.size-a<fuel/\s.2<=a/\s.1.length<=2*a/\PV wr w.1.size w.1.size d s/\MV wr w.1.size (w.1.size+1) (gN s.1)/\jq d=St.dO d.1.1 (St.cY dE d.1.1 fuel a s)/\ac w wr
theorem F2(w:UY)(o p:Obj):ac w ((w.alloc o).alloc p):=uZ
theorem MV.kept{a c:UY}{B mb:Nat}{l:List (List UInt8)}(h:MV a B mb l)(k:mC a c):MV c B mb l:=⟨h.1,k _ _ _ h.2⟩
theorem PV.map{a:UY}{B pb mb:Nat}{d:ByteArray}{s:St.PS}{l l':List (List UInt8)}(h:PV a B pb d s)(hm:MV a B mb l):PV (lX a mb l') B pb d s:=by
 obtain⟨h0,v,h1,h2⟩:=h;have g:=yU a mb l'
 have hne:∀ {cs T fr},a.1[pb]?=some (Obj.cells cs T fr)->pb≠mb:=λhp e=>by
  subst e;rw[hm.2]at hp;cases hp
 refine⟨h0,v,(g.block pb (ae h1) (by simpa using hne h1)).trans h1,h2.kept g ?_⟩;cases hv:v.ownBlock with
 | none=>exact .inl rfl
 | some x=>
  refine .inr λe=>?_
  obtain⟨cs,T,fr,hx,_⟩:=jf h2 [64] (by simp) x hv;simp only[Option.some.injEq]at e;subst e;rw[hm.2]at hx;cases hx
theorem F6(d:ByteArray)(w:UY)(fZ:d.size<=4611686018427387904):Calls Tryz.prog 42 #[UN d] w (aF (jq d) w):=by
 have hlen:=St.aC d
 by_cases hbig:65536<d.size
 ·have hR:jq d=([],0,3):=by unfold jq St.kB;rw[if_pos (by omega)]
  have HR:=aa hR;have hb:(65536:Int)<d.size:=by omega
  clear hR hlen;go_enter Tryz.func42,Tryz.ntmps42;go_wp2;go_ret3;exact aF.err HR.out (ac.refl _) _ rfl
 have hb:¬(65536:Int)<d.size:=by omega
 have hd:d.size<=65536:=by omega
 have hmk:∀W,(Instr.makeMap 115 none).run Tryz.prog W=.ok (.map (some W.1.size)) (W.alloc (.map #[] 0)):=λ_=>rfl
 have lh:PV ((w.alloc (.cells #[UN d,UM US 0,UO none 0 0] 161)).alloc (.map #[] 0)) w.1.size w.1.size d ([],0):=
  PV.ai ⟨Nat.le_refl _,UO none 0 0,heap_alloc_new w _,World.ownsRow_nil _ _ _ _⟩ ((ac.refl _).alloc _)
 have QF:MV ((w.alloc (.cells #[UN d,UM US 0,UO none 0 0] 161)).alloc (.map #[] 0)) w.1.size (w.1.size+1) (gN []):=by
  refine⟨Nat.le_succ _,?_⟩;have:=heap_alloc_new (w.alloc (.cells #[UN d,UM US 0,UO none 0 0] 161)) (.map #[] 0)
  simpa[gN,mi]using this
 have sq:jq d=St.dO d.1.1 (St.cY dE d.1.1 (d.size+1) 0 ([],0)):=by
  unfold jq;rw[St.px (by omega),hlen]
 have ju:=aa (And.intro lh (And.intro QF (And.intro sq (F2 w (.cells #[UN d,UM US 0,UO none 0 0] 161) (.map #[] 0)))));have HLEN:=aa hlen;clear lh QF sq hlen;go_enter Tryz.func42,Tryz.ntmps42;go_wp2_with (go_at_call 75;refine(jP d _).mono ?_;rintro e w' ⟨rfl,rfl⟩);go_loopw [3] (λs3 wr=>PM w d s3 wr) (λs3 _=>d.size+1-(intOf s3).toNat)
 case atStart=>exact⟨0,d.size+1,([],0),rfl,by omega,by omega,by simp,by simp,ju.out.1,ju.out.2.1,ju.out.2.2.1,ju.out.2.2.2⟩
 case round=>
  obtain⟨a,fuel,s,rfl,ha,hfu,hs2,hs1,hP,hM,hS,hu⟩:=hrel;have HP:=aa hP;have HM:=aa hM;have HS:=aa hS;have HU:=aa hu;have hsz:=hu.size;clear hP hM hS hu ju
  by_cases hlt:a<d.size
  ·obtain⟨fuel,rfl⟩:∃m,fuel=m+1:=⟨fuel-1,by omega⟩;have ef:=aa (show ¬d.1.1.length<=a by rw[HLEN.out];omega);have z:(a:Int)<d.size:=by omega
   have xJ:=aa (CT d a wr ha fZ);go_wp2_with fail;refine xJ.out.mono ?_;rintro e w2 ⟨rfl,hu2⟩;have aZ:=aa (HU.out.trans hu2);have gz:=aa (HP.out.ai hu2);have xE:=aa (HM.out.ai hu2);have kr:=hu2.size;clear hu2 HP HM HU xJ;cases hk:St.dP (d.1.1.drop a)with
   | true=>
    have hst:=St.jU (dE:=dE) (fuel:=fuel) (s:=s) ef.out hk;have jp:=HS.out.trans (congrArg (St.dO d.1.1) hst);rw[HLEN.out]at jp;have HST:=aa jp;generalize St.cg (d.1.1.drop a)=n at HST;clear hst jp hk;go_wp2;exact⟨⟨min (a+n+1) d.size,fuel,s,congrArg (UM US) (by omega),by omega,by omega,by omega,by omega,gz.out,xE.out,HST.out,aZ.out⟩,by simp[intOf];omega⟩
   | false=>
    obtain⟨x,hE⟩:∃x,d.extract a d.size=x:=⟨_,rfl⟩;have hxl:x.1.1=d.1.1.drop a:=by rw[<-hE];simp;exact List.take_of_length_le (by simp)
    have hxs:x.size=d.size-a:=by rw[<-hE];simp
    have mS:=λW=>Ms x W (by omega)
    have hkl:=St.DD (d.1.1.drop a);rw[List.length_drop,HLEN.out]at hkl;have hbad:=λh2=>St.rq (dE:=dE) (fuel:=fuel) (s:=s) ef.out hk h2
    have kq:=λh2 h3=>St.rr (dE:=dE) (fuel:=fuel) (s:=s) ef.out hk h2 h3
    have fL:=λh2 h3 b t hb ht h4=>St.ru (dE:=dE) (fuel:=fuel) (s:=s) ef.out hk h2 h3 (b:=b) (t:=t) rfl hb ht h4
    have im:=λh2 h3 b t hb ht h4=>St.na (dE:=dE) (fuel:=fuel) (s:=s) ef.out hk h2 h3 (b:=b) (t:=t) rfl hb ht h4
    rw[hxl]at mS;generalize hn:St.bG (d.1.1.drop a)=n at mS hkl hbad kq fL im;have iq:=aa hbad;have Ei:=aa kq;have Ek:=aa fL;have zF:=aa im;have y1:(a:Int)<=d.size:=by omega
    clear hbad kq fL im hn hxl hk
    by_cases n0:n=0
    ·subst n0;have HR:=aa (HS.out.trans (congrArg (St.dO d.1.1) (iq.out (.inl rfl))));have xC:=aa mS;clear mS;go_wp2_with fail;refine(xC.out _).mono ?_;rintro e w3 ⟨rfl,rfl⟩;go_wp2;go_ret3;exact aF.err HR.out aZ.out _ rfl
    by_cases Tw:64<n
    ·have yq:min n 65=65:=by omega
     rw[yq]at mS;have HR:=aa (HS.out.trans (congrArg (St.dO d.1.1) (iq.out (.inr (.inl Tw)))));have xC:=aa mS;clear mS;go_wp2_with fail;refine(xC.out _).mono ?_;rintro e w3 ⟨rfl,rfl⟩;go_wp2;go_ret3;exact aF.err HR.out aZ.out _ rfl
    have yq:min n 65=n:=by omega
    rw[yq]at mS;have xC:=aa mS;have y2:¬(n:Int)<1:=by omega
    have y3:¬(64:Int)<n:=by omega
    clear mS yq
    by_cases S9:d.size<=a+n
    ·have y4:(d.size:Int)<=(a:Int)+n:=by omega
     have HR:=aa (HS.out.trans (congrArg (St.dO d.1.1) (iq.out (.inr (.inr (by rw[List.drop_of_length_le (by rw[HLEN.out];exact S9)];simp))))));go_wp2_with fail;refine(xC.out _).mono ?_;rintro e w3 ⟨rfl,rfl⟩;go_wp2;go_ret3;exact aF.err HR.out aZ.out _ rfl
    have y4:¬(d.size:Int)<=(a:Int)+n:=by omega
    have hal:a+n<d.size:=by omega
    have y5:((a:Int)+n).toNat=a+n:=by omega
    have ax:=St.drop_at d (a+n) hal
    by_cases vj:d[a+n].toNat=61
    ·have Dg:((d[a+n].toNat:Int)==61)=true:=by simp;omega
     have f61:((d[a+n].toNat:Int) != 61)=false:=by simp;omega
     have fG:¬(n=0\/64<n\/((d.1.1.drop (a+n)).head?.map UInt8.toNat)≠some 61):=by rw[ax];simp;omega
     obtain⟨ky,hkyE⟩:∃ky,d.extract a (a+n)=ky:=⟨_,rfl⟩;have hkc:St.aY d.1.1 a (a+n)=ky.1.1:=by rw[<-hkyE,eJ]
     have hget:=λW (h:MV W w.1.size (w.1.size+1) (gN s.1))=>KF W w.1.size (w.1.size+1) (gN s.1) ky.1.1 h
     rw[be]at hget;have y6:(a:Int)<=(a:Int)+n:=by omega
     have y7:(a:Int)+n<=d.size:=by omega
     cases hin:decide (ky.1.1∈gN s.1)with
     | true=>
      rw[hin]at hget;have HR:=aa (HS.out.trans (congrArg (St.dO d.1.1) (Ei.out fG (by rw[hkc,yj];exact hin))));have hg2:=hget _ xE.out;have HG:=aa hget;clear hget ax vj fG hkc hin;go_wp2_with fail;refine(xC.out _).mono ?_;rintro e w3 ⟨rfl,rfl⟩;go_wp2;go_ret3;exact aF.err HR.out aZ.out _ rfl
     | false=>
      rw[hin]at hget;have hkn:ky.1.1 ∉ gN s.1:=of_decide_eq_false hin;have hput:=KG w2 w.1.size (w.1.size+1) (gN s.1) ky.1.1 xE.out hkn;rw[be]at hput;have hno:St.ep s.1 (St.aY d.1.1 a (a+n))=false:=by rw[hkc,yj];exact hin
      have hg2:=hget _ xE.out;have hgb:=yU w2 (w.1.size+1) (gN s.1++[ky.1.1]);have xG:=aa (gz.out.map (l':=gN s.1++[ky.1.1]) xE.out);have Nn:=aa (xE.out.put (l':=gN s.1++[ky.1.1]));have bm:=aa (aZ.out.vV hgb (λg e=>by cases e;exact Nat.le_succ _));obtain⟨w3,hw3⟩:∃w3,lX w2 (w.1.size+1) (gN s.1++[ky.1.1])=w3:=⟨_,rfl⟩;rw[hw3]at hput xG Nn bm;obtain⟨b,hb'⟩:∃b,a+n+1=b:=⟨_,rfl⟩;have hen:=λW=>Mf d b W fZ (by omega)
      obtain⟨t,ht⟩:∃t,b+St.dc (d.1.1.drop b)=t:=⟨_,rfl⟩;have htl:t<=d.size:=by have:=St.ld (d.1.1.drop b);simp at this;omega
      have kv:b<=t:=by omega
      rw[ht]at hen;have sl:=Ek.out fG hno b t hb' ht;have rL:=zF.out fG hno b t hb' ht;rw[hkc]at rL;obtain⟨x2,hx2⟩:∃x2,d.extract b t=x2:=⟨_,rfl⟩;have hc2:St.aY d.1.1 b t=x2.1.1:=by rw[<-hx2,eJ]
      rw[hc2,kE]at sl rL;have Fg:x2.size<=d.size:=by rw[<-hx2];simp;omega
      have ey:=λW=>tV x2 W (by omega)
      have mU:=xl x2;have hun:=λW (hp:PV W w.1.size w.1.size d s) (hw:w.1.size<=W.1.size)=>uU W w.1.size w.1.size d ky s b t hp (by omega) kv htl fZ (by omega) hw
      have hbz:((b:Nat):Int)=(a:Int)+n+1:=by omega
      have rU:=aa hen;have HH:=aa (And.intro sl rL);have ir:=aa hun;have b1:(b:Int)<=(t:Int):=by omega
      have b2:(t:Int)<=d.size:=by omega
      generalize iI x2=R at ey HH mU;obtain⟨rf,rc,ik,re⟩:=R;simp only at HH mU;have iM:=aa ey;have Sq:=aa (Fm d.1.1 s b t ky.1.1);clear hget ax vj fG hkc hin hno hen ht hc2 sl rL ey hun hgb hw3 hkn;rw[hbz]at rU ir;go_wp2_with fail;refine(xC.out _).mono ?_;rintro e w4 ⟨rfl,rfl⟩;go_wp2_with fail;refine(rU.out _).mono ?_;rintro e w5 ⟨rfl,rfl⟩;go_wp2_with fail;refine(iM.out _).mono ?_;rintro e w6 ⟨A6,c6,rfl,_,_,_,eZ⟩;have eg:=aa (bm.out.trans eZ);have rG:=aa (xG.out.ai eZ);have Qg:=aa (Nn.out.ai eZ);have Bc:=eg.out.size;clear eZ bm xG Nn iM hput hg2
      by_cases hre:re=0
      ·subst hre;go_wp2_with fail;refine(ir.out _ rG.out Bc).mono ?_;rintro e w7 ⟨rfl,hp7,hbl7,_,hmk7⟩;have xH:=aa hp7;have Ss:=aa (Qg.out.kept hmk7);have lZ:=aa (ac.cn (Below.trans eg.out.below hbl7));have jp:=HS.out.trans (congrArg (St.dO d.1.1) (HH.out.2 (by first|trivial|rfl)));rw[HLEN.out]at jp;have HST:=aa jp;clear hp7 hbl7 hmk7 jp ir rG Qg eg;go_wp2;exact⟨⟨min (t+1) d.size,fuel,_,congrArg (UM US) (by omega),by omega,by omega,by simp[St.bg];omega,by simp[St.bg];omega,xH.out,by rw[Sq.out];exact Ss.out,HST.out,lZ.out⟩,by simp[intOf];omega⟩
      have Dw:(re==0)=false:=by simpa using hre
      have HR:=aa (HS.out.trans (congrArg (St.dO d.1.1) (HH.out.1 hre)));go_wp2;go_ret3;exact aF.err HR.out eg.out _ (by omega)
    have Dg:((d[a+n].toNat:Int)==61)=false:=by simp;omega
    have f61:((d[a+n].toNat:Int) != 61)=true:=by simp;omega
    have HR:=aa (HS.out.trans (congrArg (St.dO d.1.1) (iq.out (.inr (.inr (by rw[ax];simp;omega))))));clear ax vj;go_wp2_with fail;refine(xC.out _).mono ?_;rintro e w3 ⟨rfl,rfl⟩;go_wp2;go_ret3;exact aF.err HR.out aZ.out _ rfl
  have He:a=d.size:=by omega
  have HL:=aa (uA wr w.1.size w.1.size d s HP.out (by omega) (by omega) (by omega) hsz);have HR:=aa (HS.out.trans (show St.dO d.1.1 (St.cY dE d.1.1 fuel a s)=(St.cD d.1.1 s,0,0)by rw[St.kY (by rw[HLEN.out];omega)];rfl));have z:¬(a:Int)<d.size:=by omega
  go_wp2_with fail;refine HL.out.mono ?_;rintro e w3 ⟨A,c,rfl,li,hq1,hq2,hbl⟩;have HE:=aa (And.intro li (ac.cn (Below.trans HU.out.below hbl)));have mh:=aa hq1;clear li hbl hq1 HL;go_wp2;go_ret3;unfold aF;rw[HR.out];exact⟨A,c,by simp[St.cD],HE.out.1,by simpa[St.cD]using mh.out,hq2,HE.out.2⟩
end
section
end
