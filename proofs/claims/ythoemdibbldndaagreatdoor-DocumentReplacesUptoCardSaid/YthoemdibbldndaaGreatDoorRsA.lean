/- Plain: the elements of a resource's raw value, and the pieces that the maker writes. -/
import Derived.Test.YthoemdibbldndaaGreatDoorShelf
import Derived.Test.YthoemdibbldndaaGreatDoorFct
import Derived.Shelf.Strings.SlTrimAscii
import Derived.Lib.IndexBytes
import Derived.BigQuiet
import Derived.IntWalk
import Derived.MapKept
import Derived.Test.YthoemdibbldndaaGreatDoorRefSame
set_option linter.all false
set_option maxHeartbeats 0
set_option maxRecDepth 20000
open Go.Value renaming int->VD,string->VE,slice->VF,bool->VG,pointer->VH,tuple->VI
open Go.IntKind renaming i64->VJ
open Go.Ending renaming returned->VL
open Go renaming World->VO
namespace Go.Proofs.YthoemdibbldndaaGreatDoor.St
def lV(d:UInt8):Option UInt8:=
 if d.toNat=110 then some 10 else if d.toNat=116 then some 9 else if d.toNat=115 then some 32 else if d.toNat=114 then some 13 else if d.toNat=92 then some 92 else if d.toNat=123 then some 123 else none
def gw(c:UInt8):Bool:=decide (c.toNat=32\/c.toNat=9)
def eD(l:List UInt8):Nat:=(l.takeWhile gw).length
def IU:List UInt8->El
 | []=>none
 | d :: r'=>if d.toNat=10 then some (0,[],2+eD r')else(lV d).map λe=>(1,[e],2)
def cA:List UInt8->El
 | []=>none
 | c :: r=>
  if c.toNat=10 then none else
  if c.toNat=92 then IU r else
  if c.toNat=123 then(cH (c :: r)).map λx=>(5,x.1,x.2)else some (1,[c],1)
theorem p8{c:UInt8}{r:List UInt8}(h:c.toNat=10):cA (c :: r)=none:=by rw[cA,if_pos h]
theorem nB{c:UInt8}(h:c.toNat=92):cA [c]=none:=by rw[cA,if_neg (by omega),if_pos h];rfl
theorem kG{c d:UInt8}{r:List UInt8}(h:c.toNat=92)(h2:d.toNat=10):cA (c :: d :: r)=some (0,[],2+eD r):=by rw[cA,if_neg (by omega),if_pos h,IU,if_pos h2]
theorem mi{c d:UInt8}{r:List UInt8}(h:c.toNat=92)(h2:d.toNat≠10):cA (c :: d :: r)=(lV d).map λe=>(1,[e],2):=by rw[cA,if_neg (by omega),if_pos h,IU,if_neg h2]
theorem mh{c:UInt8}{r:List UInt8}(h:c.toNat=123):cA (c :: r)=(cH (c :: r)).map λx=>(5,x.1,x.2):=by rw[cA,if_neg (by omega),if_neg (by omega),if_pos h]
theorem kH{c:UInt8}{r:List UInt8}(h:c.toNat≠10)(h2:c.toNat≠92)(h3:c.toNat≠123):cA (c :: r)=some (1,[c],1):=by rw[cA,if_neg h,if_neg h2,if_neg h3]
theorem Lo(l:List UInt8):eD l<=l.length:=(List.takeWhile_prefix _).length_le
theorem L6{c:UInt8}{r:List UInt8}{k:Int}{t:List UInt8}{n:Nat}(hc:c.toNat=123)(h:(cH (c :: r)).map (λx=>((5:Int),x.1,x.2))=some (k,t,n)):k=5/\1<=n/\n<=(c :: r).length/\t.length<=n:=by
 rcases qd (r:=r) hc with⟨_,hs⟩|⟨m,_,hm,_,hs⟩
 ·rw[hs]at h;cases h
 rw[hs]at h
 split at h
 ·simp only[Option.map_some,Option.some.injEq,Prod.mk.injEq]at h;obtain⟨rfl,rfl,rfl⟩:=h;exact⟨rfl,by omega,by omega,by simp;omega⟩
 cases h
theorem jY{l:List UInt8}{k:Int}{t:List UInt8}{n:Nat}(h:cA l=some (k,t,n)):(k=0\/k=1\/k=5)/\1<=n/\n<=l.length/\t.length<=n:=by
 match l,h with
 | c :: r,h=>
  by_cases h10:c.toNat=10
  ·rw[p8 h10]at h;cases h
  by_cases j5:c.toNat=92
  ·match r,h with
   | [],h=>rw[nB j5]at h;cases h
   | d :: r',h=>
    by_cases hd:d.toNat=10
    ·rw[kG j5 hd]at h;simp only[Option.some.injEq,Prod.mk.injEq]at h;obtain⟨rfl,rfl,rfl⟩:=h;have:=Lo r'
     exact⟨.inl rfl,by omega,by simp;omega,by simp⟩
    rw[mi j5 hd]at h;cases he:lV d with
    | none=>rw[he]at h;cases h
    | some e=>
     rw[he]at h;simp only[Option.map_some,Option.some.injEq,Prod.mk.injEq]at h;obtain⟨rfl,rfl,rfl⟩:=h;exact⟨.inr (.inl rfl),by omega,by simp,by simp⟩
  by_cases eE:c.toNat=123
  ·rw[mh eE]at h;obtain⟨rfl,h1,h2,h3⟩:=L6 eE h;exact⟨.inr (.inr rfl),h1,h2,h3⟩
  rw[kH h10 j5 eE]at h;simp only[Option.some.injEq,Prod.mk.injEq]at h;obtain⟨rfl,rfl,rfl⟩:=h;exact⟨.inr (.inl rfl),by omega,by simp,by simp⟩
end Go.Proofs.YthoemdibbldndaaGreatDoor.St
namespace Go.Proofs.YthoemdibbldndaaGreatDoor.St
def gz(c:UInt8):Bool:=decide ((97<=c.toNat/\c.toNat<=122)\/(48<=c.toNat/\c.toNat<=57)\/c.toNat=46\/c.toNat=95\/c.toNat=45)
def bH(l:List UInt8):Nat:=(l.takeWhile gz).length
def cn(l:List UInt8):Nat:=(l.takeWhile (λc=>decide (c.toNat≠10))).length
def eu:List UInt8->Nat
 | []=>0
 | c :: r=>if c.toNat=10 then 0 else if c.toNat=92 then(match r with
   | []=>1
   | _ :: r'=>2+eu r')else 1+eu r
def ez(l:List UInt8):Bool:=match l.dropWhile gw with
 | []=>true
 | c :: _=>decide (c.toNat=10\/c.toNat=35)
def gi(ps:List Pt)(k:List UInt8):Bool:=ps.any λp=>p.1&&decide (p.2.1=k)
def ed(dE:List UInt8->Nat × Int)(d:List UInt8):Nat->Nat->PS->Except (Nat × Int) PS
 | 0,_,s=>.ok s
 | fuel+1,a,s=>
  if d.length<=a then .ok s else
  if ez (d.drop a)then ed dE d fuel (a+cn (d.drop a)+1) s else
  let n:=bH (d.drop a)
  if n=0\/64<n\/((d.drop (a+n)).head?.map UInt8.toNat)≠some 61 then .error (a,2)else
  if gi s.1 (be d a (a+n))then .error (a,5)else
  let to:=a+n+1+eu (d.drop (a+n+1))
  if(dE (be d (a+n+1) to)).2≠0 then .error (a+n+1+(dE (be d (a+n+1) to)).1,(dE (be d (a+n+1) to)).2)else
  ed dE d fuel (to+1) (bQ d s (a+n+1) to (be d a (a+n)))
def lG(dE:List UInt8->Nat × Int)(d:List UInt8):List Pt × Nat × Int:=
 if 65536<d.length then([],0,3)else
 match ed dE d (d.length+1) 0 ([],0)with
 | .error (a,e)=>([],a,e)
 | .ok s=>(dt d s,0,0)
def dP(d:List UInt8):Except (Nat × Int) PS->List Pt × Nat × Int
 | .error (a,e)=>([],a,e)
 | .ok s=>(dt d s,0,0)
theorem sQ{dE:List UInt8->Nat × Int}{d:List UInt8}(h:¬65536<d.length):lG dE d=dP d (ed dE d (d.length+1) 0 ([],0)):=by
 rw[lG,if_neg h];cases ed dE d (d.length+1) 0 ([],0)<;>rfl
section
variable {dE:List UInt8->Nat × Int} {d:List UInt8} {fuel a:Nat} {s:PS}
theorem mg(h:d.length<=a):ed dE d fuel a s=.ok s:=by
 cases fuel with
 | zero=>rfl
 | succ f=>rw[ed,if_pos h]
theorem kF(e:Nat):ed dE d fuel e s=ed dE d fuel (min e d.length) s:=by
 by_cases h:e<=d.length
 ·rw[Nat.min_eq_left h]
 rw[mg (by omega),mg (by omega)]
theorem kS(h:¬d.length<=a)(h1:ez (d.drop a)=true):ed dE d (fuel+1) a s=ed dE d fuel (min (a+cn (d.drop a)+1) d.length) s:=by
 rw[ed,if_neg h,if_pos h1,kF]
theorem qY(h:¬d.length<=a)(h1:ez (d.drop a)=false)(h2:bH (d.drop a)=0\/64<bH (d.drop a)\/((d.drop (a+bH (d.drop a))).head?.map UInt8.toNat)≠some 61):ed dE d (fuel+1) a s=.error (a,2):=by
 rw[ed,if_neg h,if_neg (by rw[h1];decide)];simp only[];rw[if_pos h2]
theorem qZ(h:¬d.length<=a)(h1:ez (d.drop a)=false)(h2:¬(bH (d.drop a)=0\/64<bH (d.drop a)\/((d.drop (a+bH (d.drop a))).head?.map UInt8.toNat)≠some 61))(h3:gi s.1 (be d a (a+bH (d.drop a)))=true):ed dE d (fuel+1) a s=.error (a,5):=by
 rw[ed,if_neg h,if_neg (by rw[h1];decide)];simp only[];rw[if_neg h2,if_pos h3]
theorem q6(h:¬d.length<=a)(h1:ez (d.drop a)=false)(h2:¬(bH (d.drop a)=0\/64<bH (d.drop a)\/((d.drop (a+bH (d.drop a))).head?.map UInt8.toNat)≠some 61))(h3:gi s.1 (be d a (a+bH (d.drop a)))=false)
  {n b t:Nat} (hn:bH (d.drop a)=n) (hb:a+n+1=b) (ht:b+eu (d.drop b)=t) (h4:(dE (be d b t)).2≠0):ed dE d (fuel+1) a s=.error (b+(dE (be d b t)).1,(dE (be d b t)).2):=by
 subst hn hb ht;rw[ed,if_neg h,if_neg (by rw[h1];decide)];simp only[];rw[if_neg h2,if_neg (by rw[h3];decide),if_pos h4]
theorem o7(h:¬d.length<=a)(h1:ez (d.drop a)=false)(h2:¬(bH (d.drop a)=0\/64<bH (d.drop a)\/((d.drop (a+bH (d.drop a))).head?.map UInt8.toNat)≠some 61))(h3:gi s.1 (be d a (a+bH (d.drop a)))=false)
  {n b t:Nat} (hn:bH (d.drop a)=n) (hb:a+n+1=b) (ht:b+eu (d.drop b)=t) (h4:(dE (be d b t)).2=0):ed dE d (fuel+1) a s=ed dE d fuel (min (t+1) d.length) (bQ d s b t (be d a (a+n))):=by
 subst hn hb ht;rw[ed,if_neg h,if_neg (by rw[h1];decide)];simp only[];rw[if_neg h2,if_neg (by rw[h3];decide),if_neg (by rw[h4];decide),kF]
end
theorem Df(l:List UInt8):bH l<=l.length:=(List.takeWhile_prefix _).length_le
theorem kD(l:List UInt8):cn l<=l.length:=(List.takeWhile_prefix _).length_le
theorem kI:∀l:List UInt8,eu l<=l.length
 | []=>by simp[eu]
 | [c]=>by unfold eu;split;simp;split<;>simp[eu]
 | c :: x :: r=>by
  unfold eu;have h1:=kI r;have h2:=kI (x :: r)
  split
  ·simp
  split
  ·simp;omega
  simp at h2 |-;omega
end Go.Proofs.YthoemdibbldndaaGreatDoor.St
namespace Go.Proofs.YthoemdibbldndaaGreatDoor
open Go.RowKit
section
abbrev gZ:TypeId:=129
instance:ue gZ:=⟨by decide⟩
def ou(d:Nat):List Value:=[VD VJ d,VD VJ d]
theorem BV.T1{w:VO}{B b:Nat}{v0 v1 v2 x y u:Value}{its:List St.It}{tx:List UInt8}{cuts:List Nat}(h:BV gZ [x,y] w B b v0 v1 v2 its tx cuts):BV gZ [u,y] (w.setCell ⟨b,3,none⟩ u) B b v0 v1 v2 its tx cuts:=by
 obtain⟨h0,h1,h2,h3,h4⟩:=h;exact⟨h0,heap_setCell_same w b 3 _ _ u h1,aF h2 (aQ h2 h1 (by decide)),aF h3 (aQ h3 h1 (by decide)),aF h4 (aQ h4 h1 (by decide))⟩
theorem BV.T2{w:VO}{B b:Nat}{v0 v1 v2 x y u:Value}{its:List St.It}{tx:List UInt8}{cuts:List Nat}(h:BV gZ [x,y] w B b v0 v1 v2 its tx cuts):BV gZ [x,u] (w.setCell ⟨b,4,none⟩ u) B b v0 v1 v2 its tx cuts:=by
 obtain⟨h0,h1,h2,h3,h4⟩:=h;exact⟨h0,heap_setCell_same w b 4 _ _ u h1,aF h2 (aQ h2 h1 (by decide)),aF h3 (aQ h3 h1 (by decide)),aF h4 (aQ h4 h1 (by decide))⟩
theorem b7.mo{w:VO}{B b d:Nat}{its:List St.It}{tx:List UInt8}{cuts:List Nat}(h:b7 gZ (ou d) w B b its tx cuts)(n:Nat)(m m2:Int)(hm:m=n)(hm2:m2=n):b7 gZ (ou n) ((w.setCell ⟨b,3,none⟩ (VD VJ m)).setCell ⟨b,4,none⟩ (VD VJ m2)) B b its tx cuts:=by
 subst hm hm2;obtain⟨v0,v1,v2,h⟩:=h;exact⟨v0,v1,v2,(BV.T2 (BV.T1 h))⟩
theorem b7.at{d:Nat}{w:VO}{B b:Nat}{its:List St.It}{tx:List UInt8}{cuts:List Nat}(h:b7 gZ (ou d) w B b its tx cuts):w.cell? ⟨b,3,none⟩=some (VD VJ d)/\w.cell? ⟨b,4,none⟩=some (VD VJ d)/\w.frozen? ⟨b,3,none⟩=false/\w.frozen? ⟨b,4,none⟩=false/\b<w.1.size/\B<=b:=by
 obtain⟨v0,v1,v2,h⟩:=h;have hb:=h.2.1;exact⟨ai hb 3,ai hb 4,bg hb 3,bg hb 4,ae hb,h.1⟩
def nM(w:VO)(B b:Nat)(its:List St.It)(tx:List UInt8)(cuts:List Nat)(d:Nat)(l:List UInt8)(a:Nat)(e:Ending)(w':VO):Prop:=
 Below B w w'/\match St.cA l with
  | none=>e=VL (VI #[VD VJ a,VD VJ 2])
  | some (k,t,n)=>if k=0 then e=VL (VI #[VD VJ ((a+n:Nat):Int),VD VJ 0])/\b7 gZ (ou d) w' B b its tx cuts else
    if 512<(St.aV (its++St.b8 tx) (k,t,0)).length\/1024<=cuts.length then e=VL (VI #[VD VJ a,VD VJ 3])else
    e=VL (VI #[VD VJ ((a+n:Nat):Int),VD VJ 0])/\∃fy ja,b7 gZ (ou (a+n)) w' B b fy ja (cuts++[d])/\St.fz fy/\fy++St.b8 ja=St.aV (its++St.b8 tx) (k,t,0)/\ja.length<=cuts.length+1
section
variable {w:VO} {B b:Nat} {its:List St.It} {tx:List UInt8} {cuts:List Nat} {d:Nat} {l:List UInt8} {a:Nat} {w':VO}
theorem p7(h:St.cA l=none)(hb:Below B w w'):nM w B b its tx cuts d l a (VL (VI #[VD VJ a,VD VJ 2])) w':=by
 refine⟨hb,?_⟩;rw[h]
theorem BG{n:Nat}(h:St.cA l=some (0,[],n))(hb:Below B w w')(hB:b7 gZ (ou d) w' B b its tx cuts)(m:Int)(hm:m=((a+n:Nat):Int)):nM w B b its tx cuts d l a (VL (VI #[VD VJ m,VD VJ 0])) w':=by
 subst hm;refine⟨hb,?_⟩;rw[h];exact⟨rfl,hB⟩
theorem BH{n:Nat}{c:UInt8}(h:St.cA l=some (1,[c],n))(hN:St.fz its)(hf:St.aT its.length tx.length cuts.length true=true)(hb:Below B w w') :
  nM w B b its tx cuts d l a (VL (VI #[VD VJ a,VD VJ 3])) w':=by
 refine⟨hb,?_⟩;rw[h];simp only;rw[if_neg (by decide),if_pos ((St.kJ hN c cuts.length).2 hf)];trivial
theorem BF{n:Nat}{c:UInt8}(h:St.cA l=some (1,[c],n))(hN:St.fz its)(hf:St.aT its.length tx.length cuts.length true=false)(hb:Below B w w')
  (hB:b7 gZ (ou (a+n)) w' B b its (tx++[c]) (cuts++[d])) (ht:tx.length<=cuts.length) (m:Int) (hm:m=((a+n:Nat):Int)):nM w B b its tx cuts d l a (VL (VI #[VD VJ m,VD VJ 0])) w':=by
 refine⟨hb,?_⟩;rw[h];simp only;rw[if_neg (by decide),if_neg (λh2=>by rw[(St.kJ hN c cuts.length).1 h2]at hf;cases hf),hm];exact⟨rfl,its,tx++[c],hB,hN,(St.qj hN c).symm,by simp;omega⟩
theorem Ho{n:Nat}{t:List UInt8}(h:St.cA l=some (5,t,n))(hf:St.aT its.length tx.length cuts.length false=true)(hb:Below B w w') :
  nM w B b its tx cuts d l a (VL (VI #[VD VJ a,VD VJ 3])) w':=by
 refine⟨hb,?_⟩;rw[h];simp only;rw[if_neg (by decide),if_pos ((St.jA 5 t cuts.length (by decide)).2 hf)];trivial
theorem JP{n:Nat}{t:List UInt8}(h:St.cA l=some (5,t,n))(hf:St.aT its.length tx.length cuts.length false=false)(hb:Below B w w')
  (hB:b7 gZ (ou (a+n)) w' B b (its++St.b8 tx++[(5,t,0)]) [] (cuts++[d])) (m:Int) (hm:m=((a+n:Nat):Int)):nM w B b its tx cuts d l a (VL (VI #[VD VJ m,VD VJ 0])) w':=by
 refine⟨hb,?_⟩;rw[h];simp only;rw[if_neg (by decide),if_neg (λh2=>by rw[(St.jA 5 t cuts.length (by decide)).1 h2]at hf;cases hf),hm];exact⟨rfl,_,[],hB,St.lx _ 5 t 0 (by decide),by rw[St.qk 5 t (by decide)];simp[St.b8],by simp⟩
end
def po(d:UInt8):Value:=match St.lV d with
 | some c=>VI #[VD .u8 (c.toNat:Int),VG true]
 | none=>VI #[VD .u8 0,VG false]
theorem D9(d:UInt8)(w:VO):Calls Tryz.prog 161 #[VD .u8 (d.toNat:Int)] w λe w'=>e=VL (po d)/\w=w':=by
 have hd:=d.toNat_lt;rcases(show d.toNat=110\/d.toNat=116\/d.toNat=115\/d.toNat=114\/d.toNat=92\/d.toNat=123\/(d.toNat≠110/\d.toNat≠116/\d.toNat≠115/\d.toNat≠114/\d.toNat≠92/\d.toNat≠123)by omega)with h|h|h|h|h|h|⟨h1,h2,h3,h4,h5,h6⟩
 ·obtain rfl:d=(110:UInt8):=by apply UInt8.toNat_inj.1;simpa using h
  have hv:po 110=VI #[VD .u8 10,VG true]:=rfl;rw[hv]
  show Calls Tryz.prog 161 #[VD .u8 110] w _
  clear hv h hd;go_enter Tryz.func161,Tryz.ntmps161;go_wp2;go_ret2;exact⟨rfl,rfl⟩
 ·obtain rfl:d=(116:UInt8):=by apply UInt8.toNat_inj.1;simpa using h
  have hv:po 116=VI #[VD .u8 9,VG true]:=rfl;rw[hv]
  show Calls Tryz.prog 161 #[VD .u8 116] w _
  clear hv h hd;go_enter Tryz.func161,Tryz.ntmps161;go_wp2;go_ret2;exact⟨rfl,rfl⟩
 ·obtain rfl:d=(115:UInt8):=by apply UInt8.toNat_inj.1;simpa using h
  have hv:po 115=VI #[VD .u8 32,VG true]:=rfl;rw[hv]
  show Calls Tryz.prog 161 #[VD .u8 115] w _
  clear hv h hd;go_enter Tryz.func161,Tryz.ntmps161;go_wp2;go_ret2;exact⟨rfl,rfl⟩
 ·obtain rfl:d=(114:UInt8):=by apply UInt8.toNat_inj.1;simpa using h
  have hv:po 114=VI #[VD .u8 13,VG true]:=rfl;rw[hv]
  show Calls Tryz.prog 161 #[VD .u8 114] w _
  clear hv h hd;go_enter Tryz.func161,Tryz.ntmps161;go_wp2;go_ret2;exact⟨rfl,rfl⟩
 ·obtain rfl:d=(92:UInt8):=by apply UInt8.toNat_inj.1;simpa using h
  have hv:po 92=VI #[VD .u8 92,VG true]:=rfl;rw[hv]
  show Calls Tryz.prog 161 #[VD .u8 92] w _
  clear hv h hd;go_enter Tryz.func161,Tryz.ntmps161;go_wp2;go_ret2;exact⟨rfl,rfl⟩
 ·obtain rfl:d=(123:UInt8):=by apply UInt8.toNat_inj.1;simpa using h
  have hv:po 123=VI #[VD .u8 123,VG true]:=rfl;rw[hv]
  show Calls Tryz.prog 161 #[VD .u8 123] w _
  clear hv h hd;go_enter Tryz.func161,Tryz.ntmps161;go_wp2;go_ret2;exact⟨rfl,rfl⟩
 have hv:po d=VI #[VD .u8 0,VG false]:=by unfold po St.lV;simp[h1,h2,h3,h4,h5,h6]
 rw[hv];have e1:((d.toNat:Int)==110)=false:=by simp;omega
 have e2:((d.toNat:Int)==116)=false:=by simp;omega
 have e3:((d.toNat:Int)==115)=false:=by simp;omega
 have e4:((d.toNat:Int)==114)=false:=by simp;omega
 have e5:((d.toNat:Int)==92)=false:=by simp;omega
 have e6:((d.toNat:Int)==123)=false:=by simp;omega
 clear hv h1 h2 h3 h4 h5 h6 hd;go_enter Tryz.func161,Tryz.ntmps161;go_wp2;go_ret2;exact⟨rfl,rfl⟩
end
section
theorem mv{P:Program}{ops:Array Oper}{o:Oper}{a:Act}{w:VO}{K:Act->VO->Prop}{Q:Exit->Act->VO->Prop}{E:Prop}
  (hg:o.guard=none) (f:FuncId) (args:Array Value) (Post:Ending->VO->Prop) (hc:Calls P f args w Post)
  (hrun:(execOp a.eval o).run P w=.ok (.enter f args) w) (hK:∀e w',Post e w'->∃v,e=VL v/\K (a.put o.dst v) w') :
  if Region.wanted o (yielded ops a.tmps)=true then Oper.wp P o a w K Q else E:=by
 have hw:Region.wanted o (yielded ops a.tmps)=true:=by simp[Region.wanted,hg]
 rw[if_pos hw];unfold Oper.wp;rw[hrun];refine hc.mono ?_;intro e w' h;obtain⟨v,rfl,hk⟩:=hK e w' h;exact hk
theorem F5(c:UInt8)(w:VO):Calls Tryz.prog 160 #[VD .u8 (c.toNat:Int)] w λe w'=>e=VL (VG (St.gw c))/\w=w':=by
 by_cases h:c.toNat=32
 ·have hb:St.gw c=true:=decide_eq_true (Or.inl h);have e1:((c.toNat:Int)==32)=true:=by simp;omega
  rw[hb];clear h hb;go_enter Tryz.func160,Tryz.ntmps160;go_wp2;go_ret;exact⟨rfl,rfl⟩
 have e1:((c.toNat:Int)==32)=false:=by simp;omega
 have hb:St.gw c=((c.toNat:Int)==9):=by
  unfold St.gw;rw[Bool.eq_iff_iff];simp;omega
 rw[hb];cases hq:((c.toNat:Int)==9)
 all_goals
  clear h hb;go_enter Tryz.func160,Tryz.ntmps160;go_wp2;go_ret;exact⟨rfl,rfl⟩
def O6(w:VO)(au:ByteArray)(a:Nat)(cW:Value)(wr:VO):Prop:=∃k:Nat,cW=VD VJ k/\a+2<=k/\k<=au.size/\a+2+St.eD (au.1.1.drop (a+2))=k+St.eD (au.1.1.drop k)/\wr=w
theorem kg(w:VO)(B b:Nat)(its:List St.It)(tx:List UInt8)(cuts:List Nat)(d:Nat)(au:ByteArray)(a:Nat)(h:b7 gZ (ou d) w B b its tx cuts)(hN:St.fz its)(h1:its.length<=512)(h2:cuts.length<=1024)(h3:tx.length<=cuts.length)(hBw:B<=w.1.size)
  (ha:a<au.size) (hr:au.size<=4611686018427387904) :
  Calls Tryz.prog 120 #[VH (some ⟨b,0,none⟩),VE au,VD VJ a] w (nM w B b its tx cuts d (au.1.1.drop a) a):=by
 obtain⟨s,hE⟩:∃s,au.extract a au.size=s:=⟨_,rfl⟩;have hsz:s.size=au.size-a:=by rw[<-hE];simp
 have hs0:0<s.size:=by omega
 have hl:s.1.1=au.1.1.drop a:=by rw[<-hE];simp;exact List.take_of_length_le (by simp)
 have hcr:s.1.1=s[0] :: s.1.1.drop 1:=St.ft s hs0;have ha1:(a:Int)<=au.size:=by omega
 have ha2:¬au.size<a:=by omega
 have hN':=aa hN;obtain⟨g3,g4,gf3,gf4,hblt,hBb0⟩:=h.at;haveI:af b w:=af.of hblt;have lI:=aa (show Below B w w.drew from(Below.refl B w).drew);have N3:=aa (λc=>nP w.drew B b its tx cuts c d (h.ah (ac.refl w).drew) (by omega) (by omega) (by omega) (by simpa using hBw));have Sc:=aa (λx=>kB w.drew B b its tx cuts 5 0 x d (h.ah (ac.refl w).drew) (by omega) (by omega) (by omega) (by simpa using hBw));have H:=aa h;clear h hN
 by_cases bl:s[0].toNat=10
 ·have br:=aa (St.p8 (r:=s.1.1.drop 1) bl);rw[<-hcr,hl]at br;have e10:((s[0].toNat:Int)==10)=true:=by simp;omega
  clear hcr hl;go_enter Tryz.func120,Tryz.ntmps120;go_wp2;go_ret2;exact p7 br.out (Below.refl _ _)
 have e10:((s[0].toNat:Int)==10)=false:=by simp;omega
 by_cases iA:s[0].toNat=92
 ·have xO:((s[0].toNat:Int)==92)=true:=by simp;omega
  by_cases z1:s.size=1
  ·have hnil:s.1.1.drop 1=[]:=List.drop_of_length_le (by simp;omega);have hsl:=St.nB iA;rw[hnil]at hcr;rw[<-hcr,hl]at hsl;have br:=aa hsl;have y1:¬(1:Int)<s.size:=by omega
   have y2:(s.size:Int)<2:=by omega
   clear hcr hl hnil hsl;go_enter Tryz.func120,Tryz.ntmps120;go_wp2;go_ret2;exact p7 br.out (Below.refl _ _)
  have hs1:1<s.size:=by omega
  have uw:s.1.1.drop 1=s[1] :: s.1.1.drop 2:=St.drop_at s 1 hs1;have y1:(1:Int)<s.size:=by omega
  have y2:¬(s.size:Int)<2:=by omega
  rw[uw]at hcr
  by_cases d10:s[1].toNat=10
  ·have f10:((s[1].toNat:Int)==10)=true:=by simp;omega
   have hsl:=St.kG (r:=s.1.1.drop 2) iA d10;rw[<-hcr,hl]at hsl;have hdd:(au.1.1.drop a).drop 2=au.1.1.drop (a+2):=by rw[List.drop_drop]
   rw[hdd]at hsl;have br:=aa hsl;have hrs:a+2<=au.size:=by omega
   clear hcr uw hl hdd hsl;go_enter Tryz.func120,Tryz.ntmps120;go_wp2_with fail;go_loopw [10] (λcW wr=>O6 w au a cW wr) (λcW _=>au.size-(intOf cW).toNat)
   case atStart=>exact⟨a+2,congrArg (VD VJ) (by omega),by omega,hrs,rfl,rfl⟩
   case round=>
    obtain⟨k,rfl,hk1,hk2,hk3,rfl⟩:=hrel;have HK:=aa hk3;clear hk3
    by_cases hlt:k<au.size
    ·have z:(k:Int)<au.size:=by omega
     have aw:=St.drop_at au k hlt;have hbk:=λW=>F5 au[k] W
     cases hq:St.gw au[k]
     ·have hn:St.eD (au.1.1.drop k)=0:=by rw[aw];unfold St.eD;rw[List.takeWhile_cons_of_neg (by simp[hq])];rfl
      rw[hq]at hbk;have jg:=aa hbk;have HE:=aa (show a+2+St.eD (au.1.1.drop (a+2))=k by rw[HK.out,hn];omega);clear aw hbk hq hn;go_wp2_with (go_at_call 160;refine(jg.out _).mono ?_;rintro e w' ⟨rfl,rfl⟩);go_ret2;exact BG br.out (Below.refl _ _) H.out _ (by have:=HE.out;omega)
     have hn:St.eD (au.1.1.drop k)=1+St.eD (au.1.1.drop (k+1)):=by rw[aw];unfold St.eD;rw[List.takeWhile_cons_of_pos hq];simp;omega
     rw[hq]at hbk;have jg:=aa hbk;have HE:=aa hn;clear aw hbk hq hn;go_wp2_with (go_at_call 160;refine(jg.out _).mono ?_;rintro e w' ⟨rfl,rfl⟩);exact⟨⟨k+1,congrArg (VD VJ) (by omega),by omega,by omega,by rw[HK.out,HE.out];omega,rfl⟩,by simp[intOf];omega⟩
    obtain rfl:k=au.size:=by omega
    have hn:St.eD (au.1.1.drop au.size)=0:=by rw[List.drop_of_length_le (by simp)];rfl
    have HE:=aa (show a+2+St.eD (au.1.1.drop (a+2))=au.size by rw[HK.out,hn];omega);clear hn hlt;go_wp2;go_ret2;exact BG br.out (Below.refl _ _) H.out _ (by have:=HE.out;omega)
  have f10:((s[1].toNat:Int)==10)=false:=by simp;omega
  have hsl:=St.mi (r:=s.1.1.drop 2) iA d10;rw[<-hcr,hl]at hsl;have dH:=λW=>D9 s[1] W
  unfold po at dH;cases hq:St.lV s[1]with
  | none=>
   rw[hq]at hsl dH;have br:=aa hsl;have rI:=aa dH;clear hcr uw hl hsl dH hq;go_enter Tryz.func120,Tryz.ntmps120;go_wp2_with (go_at_call 161;refine(rI.out _).mono ?_;rintro e w' ⟨rfl,rfl⟩);go_ret2;exact p7 br.out (Below.refl _ _)
  | some c=>
   rw[hq]at hsl dH;simp only[Option.map_some]at hsl;have br:=aa hsl;have rI:=aa dH;have u0:=aa (N3.out c);clear hcr uw hl hsl dH hq;go_enter Tryz.func120,Tryz.ntmps120;go_wp2_with (go_at_call 161;refine(rI.out _).mono ?_;rintro e w' ⟨rfl,rfl⟩);refine bt (λ_ _=>True) (λL W=>if L 8=true then(St.aT its.length tx.length cuts.length true=false->b7 gZ (ou d) W B b its (tx++[c]) (cuts++[d]))/\Below B w.drew W else W=w.drew) ([λv _=>v=VH (some ⟨b,0,none⟩),λv _=>v=VH (some ⟨b,0,none⟩),λv _=>v=VH (some ⟨b,0,none⟩),λv _=>v=VD .u8 (c.toNat:Int),λv _=>v=VH (some ⟨b,0,none⟩),λv _=>v=VH (some ⟨b,0,none⟩),λv _=>v=VH (some ⟨b,3,none⟩),λv _=>v=VD VJ d,λv _=>v=VG (!St.aT its.length tx.length cuts.length true),λv _=>v=VD VJ a,λv _=>v=VD VJ ((a:Int)+2),λv _=>v=VG (!St.aT its.length tx.length cuts.length true),λv _=>v=VD VJ ((a:Int)+2)]) (λ_=>trivial) (λ_ _ _ _ _=>trivial) (by kernel_rfl) (by rfl) (by kernel_rfl) (by kernel_rfl) ?frA ?hfrA ?hIA ?hobA ?hendA
   case hfrA=>
    intro ρ;simp only[bP,Act.put,ap,ak,aq,Nat.zero_add,Nat.reduceAdd];exact rfl
   case hIA=>simp
   case hobA=>
    refine aj.cons (λρ L W hR hI hL hD hO hF K hK=>?_) ?_
    ·clear hF hD hO hR;simp only[Act.put,ap,ak,aq]at hK |-;go_simp;refine hK _ _ trivial (by simpa[ar]using hI) (λ_ _=>?_);rfl
    refine aj.cons (λρ L W hR hI hL hD hO hF K hK=>?_) ?_
    ·have f0:=ag hF (j:=0) (by decide);clear hF hD hO hR;simp only[Act.put,ap,ak,aq]at hK |-;have e0:ρ 0=VH (some ⟨b,0,none⟩):=f0;rw[e0]at hK |-;go_simp;refine hK _ _ trivial (by simpa[ar]using hI) (λ_ _=>?_);rfl
    refine aj.cons (λρ L W hR hI hL hD hO hF K hK=>?_) ?_
    ·have f1:=ag hF (j:=1) (by decide);clear hF hD hO hR;simp only[Act.put,ap,ak,aq]at hK |-;have e1:ρ 1=VH (some ⟨b,0,none⟩):=f1;rw[e1]at hK |-;go_simp;refine hK _ _ trivial (by simpa[ar]using hI) (λ_ _=>?_);rfl
    refine aj.cons (λρ L W hR hI hL hD hO hF K hK=>?_) ?_
    ·clear hF hD hO hR;simp only[Act.put,ap,ak,aq]at hK |-;go_simp;refine hK _ _ trivial (by simpa[ar]using hI) (λ_ _=>?_);rfl
    refine aj.cons (λρ L W hR hI hL hD hO hF K hK=>?_) ?_
    ·clear hF hD hO hR;simp only[Act.put,ap,ak,aq]at hK |-;go_simp;refine hK _ _ trivial (by simpa[ar]using hI) (λ_ _=>?_);rfl
    refine aj.cons (λρ L W hR hI hL hD hO hF K hK=>?_) ?_
    ·have f4:=ag hF (j:=4) (by decide);clear hF hD hO hR;simp only[Act.put,ap,ak,aq]at hK |-;have e4:ρ 4=VH (some ⟨b,0,none⟩):=f4;rw[e4]at hK |-;go_simp;refine hK _ _ trivial (by simpa[ar]using hI) (λ_ _=>?_);rfl
    refine aj.cons (λρ L W hR hI hL hD hO hF K hK=>?_) ?_
    ·have f5:=ag hF (j:=5) (by decide);clear hF hD hO hR;simp only[Act.put,ap,ak,aq]at hK |-;have e5:ρ 5=VH (some ⟨b,0,none⟩):=f5;rw[e5]at hK |-;go_simp;refine hK _ _ trivial (by simpa[ar]using hI) (λ_ _=>?_);rfl
    refine aj.cons (λρ L W hR hI hL hD hO hF K hK=>?_) ?_
    ·have f6:=ag hF (j:=6) (by decide);have jB:L 8=false:=hD.not (p:=8) rfl (by decide) hL;rw[if_neg (by rw[jB];decide)]at hI;subst hI;clear hF hD hO hR;simp only[Act.put,ap,ak,aq]at hK |-;have e6:ρ 6=VH (some ⟨b,3,none⟩):=f6;rw[e6]at hK |-;go_simp;refine hK _ _ trivial (by simp[ar,jB]) (λ_ _=>?_);rfl
    refine aj.cons (λρ L W hR hI hL hD hO hF K hK=>?_) ?_
    ·have f2:=ag hF (j:=2) (by decide);have f3:=ag hF (j:=3) (by decide);have f7:=ag hF (j:=7) (by decide);rw[if_neg (by rw[hL];decide)]at hI;subst hI;clear hF hD hO hR;simp only[Act.put,ap,ak,aq]at hK |-;have e2:ρ 2=VH (some ⟨b,0,none⟩):=f2;have e3:ρ 3=VD .u8 (c.toNat:Int):=f3;have e7:ρ 7=VD VJ d:=f7;rw[e2,e3,e7]at hK |-;refine mv (o:=⟨some 88,_,_,_,_,_⟩) rfl 162 #[VH (some ⟨b,0,none⟩),VD .u8 c.toNat,VD VJ d] _ u0.out ?_ ?_
     ·go_simp
     rintro e W2 ⟨rfl,h1,h2⟩;exact⟨_,rfl,hK _ _ trivial (by simp only[ar,if_true];exact⟨h1,h2⟩) (λ_ _=>rfl)⟩
    refine aj.cons (λρ L W hR hI hL hD hO hF K hK=>?_) ?_
    ·clear hF hD hO hR;simp only[Act.put,ap,ak,aq]at hK |-;go_simp;refine hK _ _ trivial (by simpa[ar]using hI) (λ_ _=>?_);rfl
    refine aj.cons (λρ L W hR hI hL hD hO hF K hK=>?_) ?_
    ·have f9:=ag hF (j:=9) (by decide);clear hF hD hO hR;simp only[Act.put,ap,ak,aq]at hK |-;have e9:ρ 9=VD VJ a:=f9;rw[e9]at hK |-;go_simp;refine hK _ _ trivial (by simpa[ar]using hI) (λ_ _=>?_);exact congrArg (VD VJ) ((IntWalk.i64_in _ (by omega)).trans (by omega))
    refine aj.cons (λρ L W hR hI hL hD hO hF K hK=>?_) ?_
    ·have f8:=ag hF (j:=8) (by decide);clear hF hD hO hR;simp only[Act.put,ap,ak,aq]at hK |-;have e8:ρ 8=VG (!St.aT its.length tx.length cuts.length true):=f8;rw[e8]at hK |-;go_simp;refine hK _ _ trivial (by simpa[ar]using hI) (λ_ _=>?_);rfl
    refine aj.cons (λρ L W hR hI hL hD hO hF K hK=>?_) ?_
    ·have f10:=ag hF (j:=10) (by decide);clear hF hD hO hR;simp only[Act.put,ap,ak,aq]at hK |-;have e10:ρ 10=VD VJ ((a:Int)+2):=f10;rw[e10]at hK |-;go_simp;refine hK _ _ trivial (by simpa[ar]using hI) (λ_ _=>?_);rfl
    exact aj.nil
   case hendA=>
    intro ρ L W hR hI hL hF;rw[if_pos (hL 8 (by decide))]at hI;obtain⟨_,_,_,_,_,_,_,_,_,_,_,g11,g12,_⟩:=hF;have g11:ρ 11=VG (!St.aT its.length tx.length cuts.length true):=g11;have g12:ρ 12=VD VJ ((a:Int)+2):=g12;rw[g11,g12];clear g11 g12 hR hL;obtain⟨eO,hbl⟩:=hI;have n5:Below B w W:=Below.trans lI.out hbl;have cX:=aa n5;have iq:=aa eO;clear eO hbl n5;cases hfu:St.aT its.length tx.length cuts.length true
    ·obtain⟨c3,c4,f3,f4,hlt,hBb⟩:=(iq.out hfu).at;haveI:af b W:=af.of hlt;have FC:=aa ((iq.out hfu).mo (a+2) ((a:Int)+2) ((a:Int)+2) (by omega) (by omega));have oE:=aa hBb;have ck:=aa hfu;clear hfu hBb;go_wp2;go_ret2;exact BF br.out hN'.out ck.out ((cX.out.setCell (p:=⟨b,3,none⟩) oE.out _).setCell (p:=⟨b,4,none⟩) oE.out _) FC.out h3 _ (by omega)
    have ck:=aa hfu;clear hfu;go_wp2;go_ret2;exact BH br.out hN'.out ck.out cX.out
 have xO:((s[0].toNat:Int)==92)=false:=by simp;omega
 by_cases da:s[0].toNat=123
 ·have r6:((s[0].toNat:Int)==123)=true:=by simp;omega
  have hsl:=St.mh (r:=s.1.1.drop 1) da;rw[<-hcr]at hsl;have bK:=λW=>Tryz.strings_IndexByte s 125 W
  have ld:(125:Int).toNat.toUInt8=125:=rfl;rw[ld,hcr]at bK;rcases St.qd (r:=s.1.1.drop 1) da with⟨hi,hs⟩|⟨n,hi,hn,eW,hs⟩
  ·rw[hi]at bK;rw[<-hcr]at hs;rw[hs,hl]at hsl;have br:=aa hsl;have dQ:=aa bK;clear hsl hcr hl bK hi hs ld;go_enter Tryz.func120,Tryz.ntmps120;go_wp2_with fail;refine(dQ.out _).mono ?_;rintro e w' ⟨rfl,rfl⟩;go_wp2;go_ret2;exact p7 br.out (Below.refl _ _)
  rw[hi]at bK;have hns:n+1<s.size:=by rw[<-hcr]at hn;simpa using hn
  obtain⟨x,hX⟩:∃x,s.extract 1 (n+1)=x:=⟨_,rfl⟩;have hxl:x.1.1=(s.1.1.drop 1).take n:=by rw[<-hX];simp
  have hxs:x.size<=s.size:=by rw[<-hX];simp;omega
  have aZ:=λW=>jV x W (by omega)
  rw[<-hcr,<-hxl]at hs;have z1:(1:Int)<=(n:Int)+1:=by omega
  have z2:(n:Int)+1<=s.size:=by omega
  have z3:¬(n:Int)+1<0:=by omega
  cases hnb:St.aS x.1.1
  ·rw[hnb]at hs aZ;simp only[Bool.false_eq_true,if_false]at hs;rw[hs,hl]at hsl;have br:=aa hsl;have dQ:=aa bK;have bk:=aa aZ;clear hsl hcr hl bK hi hs ld hn eW aZ hnb hxl;go_enter Tryz.func120,Tryz.ntmps120;go_wp2_with fail;refine(dQ.out _).mono ?_;rintro e w' ⟨rfl,rfl⟩;go_wp2_with fail;refine(bk.out _).mono ?_;rintro e w' ⟨rfl,rfl⟩;go_wp2;go_ret2;exact p7 br.out (Below.refl _ _)
  rw[hnb]at hs aZ;simp only[if_true]at hs;rw[hs,hl]at hsl;simp only[Option.map_some]at hsl;have br:=aa hsl;have dQ:=aa bK;have bk:=aa aZ;have HIT:=aa (Sc.out x);clear hsl hcr hl bK hi hs ld hn eW aZ hnb hxl;go_enter Tryz.func120,Tryz.ntmps120;go_wp2_with fail;refine(dQ.out _).mono ?_;rintro e w ⟨rfl,rfl⟩;go_wp2_with fail;refine(bk.out _).mono ?_;rintro e w ⟨rfl,rfl⟩;go_wp2_with fail;refine bt (λ_ _=>True) (λL W=>if L 11=true then(St.aT its.length tx.length cuts.length false=false->b7 gZ (ou d) W B b (its++St.b8 tx++[(5,x.1.1,0)]) [] (cuts++[d]))/\Below B w.drew W else W=w.drew) ([λv _=>v=VH (some ⟨b,0,none⟩),λv _=>v=VH (some ⟨b,0,none⟩),λv _=>v=VH (some ⟨b,0,none⟩),λv _=>v=VE s,λv _=>v=VD VJ ((n+1:Nat):Int),λv _=>v=VE x,λv _=>v=.agg #[VD VJ 5,VE x,VD VJ 0],λv _=>v=VH (some ⟨b,0,none⟩),λv _=>v=VH (some ⟨b,0,none⟩),λv _=>v=VH (some ⟨b,3,none⟩),λv _=>v=VD VJ d,λv _=>v=VG (!St.aT its.length tx.length cuts.length false),λv _=>v=VD VJ a,λv _=>v=VD VJ ((n+1:Nat):Int),λv _=>v=VD VJ ((a:Int)+((n+1:Nat):Int)),λv _=>v=VD VJ ((a:Int)+((n+1:Nat):Int)+1),λv _=>v=VG (!St.aT its.length tx.length cuts.length false),λv _=>v=VD VJ ((a:Int)+((n+1:Nat):Int)+1)]) (λ_=>trivial) (λ_ _ _ _ _=>trivial) (by kernel_rfl) (by rfl) (by kernel_rfl) (by kernel_rfl) ?frC ?hfrC ?hIC ?hobC ?hendC
  case hfrC=>
   intro ρ;simp only[bP,Act.put,ap,ak,aq,Nat.zero_add,Nat.reduceAdd];exact rfl
  case hIC=>simp
  case hobC=>
   refine aj.cons (λρ L W hR hI hL hD hO hF K hK=>?_) ?_
   ·clear hF hD hO hR;simp only[Act.put,ap,ak,aq]at hK |-;go_simp;refine hK _ _ trivial (by simpa[ar]using hI) (λ_ _=>?_);rfl
   refine aj.cons (λρ L W hR hI hL hD hO hF K hK=>?_) ?_
   ·have f0:=ag hF (j:=0) (by decide);clear hF hD hO hR;simp only[Act.put,ap,ak,aq]at hK |-;have e0:ρ 0=VH (some ⟨b,0,none⟩):=f0;rw[e0]at hK |-;go_simp;refine hK _ _ trivial (by simpa[ar]using hI) (λ_ _=>?_);rfl
   refine aj.cons (λρ L W hR hI hL hD hO hF K hK=>?_) ?_
   ·have f1:=ag hF (j:=1) (by decide);clear hF hD hO hR;simp only[Act.put,ap,ak,aq]at hK |-;have e1:ρ 1=VH (some ⟨b,0,none⟩):=f1;rw[e1]at hK |-;go_simp;refine hK _ _ trivial (by simpa[ar]using hI) (λ_ _=>?_);rfl
   refine aj.cons (λρ L W hR hI hL hD hO hF K hK=>?_) ?_
   ·clear hF hD hO hR;simp only[Act.put,ap,ak,aq]at hK |-;go_simp;refine hK _ _ trivial (by simpa[ar]using hI) (λ_ _=>?_);rfl
   refine aj.cons (λρ L W hR hI hL hD hO hF K hK=>?_) ?_
   ·clear hF hD hO hR;simp only[Act.put,ap,ak,aq]at hK |-;go_simp;refine hK _ _ trivial (by simpa[ar]using hI) (λ_ _=>?_);rfl
   refine aj.cons (λρ L W hR hI hL hD hO hF K hK=>?_) ?_
   ·have f3:=ag hF (j:=3) (by decide);have f4:=ag hF (j:=4) (by decide);clear hF hD hO hR;simp only[Act.put,ap,ak,aq]at hK |-;have e3:ρ 3=VE s:=f3;have e4:ρ 4=VD VJ ((n+1:Nat):Int):=f4;rw[e3,e4]at hK |-;go_simp;refine hK _ _ trivial (by simpa[ar]using hI) (λ_ _=>?_);rfl
   refine aj.cons (λρ L W hR hI hL hD hO hF K hK=>?_) ?_
   ·have f5:=ag hF (j:=5) (by decide);clear hF hD hO hR;simp only[Act.put,ap,ak,aq]at hK |-;have e5:ρ 5=VE x:=f5;rw[e5]at hK |-;go_simp;refine hK _ _ trivial (by simpa[ar]using hI) (λ_ _=>?_);rfl
   refine aj.cons (λρ L W hR hI hL hD hO hF K hK=>?_) ?_
   ·clear hF hD hO hR;simp only[Act.put,ap,ak,aq]at hK |-;go_simp;refine hK _ _ trivial (by simpa[ar]using hI) (λ_ _=>?_);rfl
   refine aj.cons (λρ L W hR hI hL hD hO hF K hK=>?_) ?_
   ·have f7:=ag hF (j:=7) (by decide);clear hF hD hO hR;simp only[Act.put,ap,ak,aq]at hK |-;have e7:ρ 7=VH (some ⟨b,0,none⟩):=f7;rw[e7]at hK |-;go_simp;refine hK _ _ trivial (by simpa[ar]using hI) (λ_ _=>?_);rfl
   refine aj.cons (λρ L W hR hI hL hD hO hF K hK=>?_) ?_
   ·have f8:=ag hF (j:=8) (by decide);clear hF hD hO hR;simp only[Act.put,ap,ak,aq]at hK |-;have e8:ρ 8=VH (some ⟨b,0,none⟩):=f8;rw[e8]at hK |-;go_simp;refine hK _ _ trivial (by simpa[ar]using hI) (λ_ _=>?_);rfl
   refine aj.cons (λρ L W hR hI hL hD hO hF K hK=>?_) ?_
   ·have f9:=ag hF (j:=9) (by decide);have jB:L 11=false:=hD.not (p:=11) rfl (by decide) hL;rw[if_neg (by rw[jB];decide)]at hI;subst hI;clear hF hD hO hR;simp only[Act.put,ap,ak,aq]at hK |-;have e9:ρ 9=VH (some ⟨b,3,none⟩):=f9;rw[e9]at hK |-;go_simp;refine hK _ _ trivial (by simp[ar,jB]) (λ_ _=>?_);rfl
   refine aj.cons (λρ L W hR hI hL hD hO hF K hK=>?_) ?_
   ·have f2:=ag hF (j:=2) (by decide);have f6:=ag hF (j:=6) (by decide);have f10:=ag hF (j:=10) (by decide);rw[if_neg (by rw[hL];decide)]at hI;subst hI;clear hF hD hO hR;simp only[Act.put,ap,ak,aq]at hK |-;have e2:ρ 2=VH (some ⟨b,0,none⟩):=f2;have e6:ρ 6=.agg #[VD VJ 5,VE x,VD VJ 0]:=f6;have e10:ρ 10=VD VJ d:=f10;rw[e2,e6,e10]at hK |-;refine mv (o:=⟨some 118,_,_,_,_,_⟩) rfl 164 #[VH (some ⟨b,0,none⟩),.agg #[VD VJ 5,VE x,VD VJ 0],VD VJ d] _ HIT.out ?_ ?_
    ·go_simp
    rintro e W2 ⟨rfl,h1,h2⟩;exact⟨_,rfl,hK _ _ trivial (by simp only[ar,if_true];exact⟨h1,h2⟩) (λ_ _=>rfl)⟩
   refine aj.cons (λρ L W hR hI hL hD hO hF K hK=>?_) ?_
   ·clear hF hD hO hR;simp only[Act.put,ap,ak,aq]at hK |-;go_simp;refine hK _ _ trivial (by simpa[ar]using hI) (λ_ _=>?_);rfl
   refine aj.cons (λρ L W hR hI hL hD hO hF K hK=>?_) ?_
   ·clear hF hD hO hR;simp only[Act.put,ap,ak,aq]at hK |-;go_simp;refine hK _ _ trivial (by simpa[ar]using hI) (λ_ _=>?_);rfl
   refine aj.cons (λρ L W hR hI hL hD hO hF K hK=>?_) ?_
   ·have f12:=ag hF (j:=12) (by decide);have f13:=ag hF (j:=13) (by decide);clear hF hD hO hR;simp only[Act.put,ap,ak,aq]at hK |-;have e12:ρ 12=VD VJ a:=f12;have Gg:ρ 13=VD VJ ((n+1:Nat):Int):=f13;rw[e12,Gg]at hK |-;go_simp;refine hK _ _ trivial (by simpa[ar]using hI) (λ_ _=>?_);exact congrArg (VD VJ) ((IntWalk.i64_in _ (by omega)).trans (by omega))
   refine aj.cons (λρ L W hR hI hL hD hO hF K hK=>?_) ?_
   ·have f14:=ag hF (j:=14) (by decide);clear hF hD hO hR;simp only[Act.put,ap,ak,aq]at hK |-;have Ak:ρ 14=VD VJ ((a:Int)+((n+1:Nat):Int)):=f14;rw[Ak]at hK |-;go_simp;refine hK _ _ trivial (by simpa[ar]using hI) (λ_ _=>?_);exact congrArg (VD VJ) ((IntWalk.i64_in _ (by omega)).trans (by omega))
   refine aj.cons (λρ L W hR hI hL hD hO hF K hK=>?_) ?_
   ·have f11:=ag hF (j:=11) (by decide);clear hF hD hO hR;simp only[Act.put,ap,ak,aq]at hK |-;have e11:ρ 11=VG (!St.aT its.length tx.length cuts.length false):=f11;rw[e11]at hK |-;go_simp;refine hK _ _ trivial (by simpa[ar]using hI) (λ_ _=>?_);rfl
   refine aj.cons (λρ L W hR hI hL hD hO hF K hK=>?_) ?_
   ·have f15:=ag hF (j:=15) (by decide);clear hF hD hO hR;simp only[Act.put,ap,ak,aq]at hK |-;have Gh:ρ 15=VD VJ ((a:Int)+((n+1:Nat):Int)+1):=f15;rw[Gh]at hK |-;go_simp;refine hK _ _ trivial (by simpa[ar]using hI) (λ_ _=>?_);rfl
   exact aj.nil
  case hendC=>
   intro ρ L W hR hI hL hF;rw[if_pos (hL 11 (by decide))]at hI;obtain⟨_,_,_,_,_,_,_,_,_,_,_,_,_,_,_,_,g16,g17,_⟩:=hF;have g16:ρ 16=VG (!St.aT its.length tx.length cuts.length false):=g16;have g17:ρ 17=VD VJ ((a:Int)+((n+1:Nat):Int)+1):=g17;rw[g16,g17];clear g16 g17 hR hL;obtain⟨eO,hbl⟩:=hI;have n5:Below B w W:=Below.trans lI.out hbl;have cX:=aa n5;have iq:=aa eO;clear eO hbl n5;cases hfu:St.aT its.length tx.length cuts.length false
   ·obtain⟨c3,c4,f3,f4,hlt,hBb⟩:=(iq.out hfu).at;haveI:af b W:=af.of hlt;have FC:=aa ((iq.out hfu).mo (a+(n+2)) ((a:Int)+((n+1:Nat):Int)+1) ((a:Int)+((n+1:Nat):Int)+1) (by omega) (by omega));have oE:=aa hBb;have ck:=aa hfu;clear hfu hBb;go_wp2;go_ret2;exact JP br.out ck.out ((cX.out.setCell (p:=⟨b,3,none⟩) oE.out _).setCell (p:=⟨b,4,none⟩) oE.out _) FC.out _ (by omega)
   have ck:=aa hfu;clear hfu;go_wp2;go_ret2;exact Ho br.out ck.out cX.out
 have r6:((s[0].toNat:Int)==123)=false:=by simp;omega
 have hsl:=St.kH (r:=s.1.1.drop 1) bl iA da;rw[<-hcr,hl]at hsl;obtain⟨c,hc⟩:∃c,s[0]=c:=⟨_,rfl⟩;rw[hc]at hsl e10 xO r6;have br:=aa hsl;have u0:=aa (N3.out c);clear hcr hl hsl bl iA da;go_enter Tryz.func120,Tryz.ntmps120;go_wp2_with fail;refine bt (λ_ _=>True) (λL W=>if L 9=true then(St.aT its.length tx.length cuts.length true=false->b7 gZ (ou d) W B b its (tx++[c]) (cuts++[d]))/\Below B w.drew W else W=w.drew) ([λv _=>v=VH (some ⟨b,0,none⟩),λv _=>v=VH (some ⟨b,0,none⟩),λv _=>v=VH (some ⟨b,0,none⟩),λv _=>v=VE s,λv _=>v=VD .u8 (c.toNat:Int),λv _=>v=VH (some ⟨b,0,none⟩),λv _=>v=VH (some ⟨b,0,none⟩),λv _=>v=VH (some ⟨b,3,none⟩),λv _=>v=VD VJ d,λv _=>v=VG (!St.aT its.length tx.length cuts.length true),λv _=>v=VG (!St.aT its.length tx.length cuts.length true)]) (λ_=>trivial) (λ_ _ _ _ _=>trivial) (by kernel_rfl) (by rfl) (by kernel_rfl) (by kernel_rfl) ?frD ?hfrD ?hID ?hobD ?hendD
 case hfrD=>
  intro ρ;simp only[bP,Act.put,ap,ak,aq,Nat.zero_add,Nat.reduceAdd];exact rfl
 case hID=>simp
 case hobD=>
  refine aj.cons (λρ L W hR hI hL hD hO hF K hK=>?_) ?_
  ·clear hF hD hO hR;simp only[Act.put,ap,ak,aq]at hK |-;go_simp;refine hK _ _ trivial (by simpa[ar]using hI) (λ_ _=>?_);rfl
  refine aj.cons (λρ L W hR hI hL hD hO hF K hK=>?_) ?_
  ·have f0:=ag hF (j:=0) (by decide);clear hF hD hO hR;simp only[Act.put,ap,ak,aq]at hK |-;have e0:ρ 0=VH (some ⟨b,0,none⟩):=f0;rw[e0]at hK |-;go_simp;refine hK _ _ trivial (by simpa[ar]using hI) (λ_ _=>?_);rfl
  refine aj.cons (λρ L W hR hI hL hD hO hF K hK=>?_) ?_
  ·have f1:=ag hF (j:=1) (by decide);clear hF hD hO hR;simp only[Act.put,ap,ak,aq]at hK |-;have e1:ρ 1=VH (some ⟨b,0,none⟩):=f1;rw[e1]at hK |-;go_simp;refine hK _ _ trivial (by simpa[ar]using hI) (λ_ _=>?_);rfl
  refine aj.cons (λρ L W hR hI hL hD hO hF K hK=>?_) ?_
  ·clear hF hD hO hR;simp only[Act.put,ap,ak,aq]at hK |-;go_simp;refine hK _ _ trivial (by simpa[ar]using hI) (λ_ _=>?_);rfl
  refine aj.cons (λρ L W hR hI hL hD hO hF K hK=>?_) ?_
  ·have f3:=ag hF (j:=3) (by decide);clear hF hD hO hR;simp only[Act.put,ap,ak,aq]at hK |-;have e3:ρ 3=VE s:=f3;rw[e3]at hK |-;have y0:0<au.size-a:=by omega
   go_simp;refine hK _ _ trivial (by simpa[ar]using hI) (λ_ _=>?_);rfl
  refine aj.cons (λρ L W hR hI hL hD hO hF K hK=>?_) ?_
  ·clear hF hD hO hR;simp only[Act.put,ap,ak,aq]at hK |-;go_simp;refine hK _ _ trivial (by simpa[ar]using hI) (λ_ _=>?_);rfl
  refine aj.cons (λρ L W hR hI hL hD hO hF K hK=>?_) ?_
  ·have f5:=ag hF (j:=5) (by decide);clear hF hD hO hR;simp only[Act.put,ap,ak,aq]at hK |-;have e5:ρ 5=VH (some ⟨b,0,none⟩):=f5;rw[e5]at hK |-;go_simp;refine hK _ _ trivial (by simpa[ar]using hI) (λ_ _=>?_);rfl
  refine aj.cons (λρ L W hR hI hL hD hO hF K hK=>?_) ?_
  ·have f6:=ag hF (j:=6) (by decide);clear hF hD hO hR;simp only[Act.put,ap,ak,aq]at hK |-;have e6:ρ 6=VH (some ⟨b,0,none⟩):=f6;rw[e6]at hK |-;go_simp;refine hK _ _ trivial (by simpa[ar]using hI) (λ_ _=>?_);rfl
  refine aj.cons (λρ L W hR hI hL hD hO hF K hK=>?_) ?_
  ·have f7:=ag hF (j:=7) (by decide);have jB:L 9=false:=hD.not (p:=9) rfl (by decide) hL;rw[if_neg (by rw[jB];decide)]at hI;subst hI;clear hF hD hO hR;simp only[Act.put,ap,ak,aq]at hK |-;have e7:ρ 7=VH (some ⟨b,3,none⟩):=f7;rw[e7]at hK |-;go_simp;refine hK _ _ trivial (by simp[ar,jB]) (λ_ _=>?_);rfl
  refine aj.cons (λρ L W hR hI hL hD hO hF K hK=>?_) ?_
  ·have f2:=ag hF (j:=2) (by decide);have f4:=ag hF (j:=4) (by decide);have f8:=ag hF (j:=8) (by decide);rw[if_neg (by rw[hL];decide)]at hI;subst hI;clear hF hD hO hR;simp only[Act.put,ap,ak,aq]at hK |-;have e2:ρ 2=VH (some ⟨b,0,none⟩):=f2;have e4:ρ 4=VD .u8 (c.toNat:Int):=f4;have e8:ρ 8=VD VJ d:=f8;rw[e2,e4,e8]at hK |-;refine mv (o:=⟨some 28,_,_,_,_,_⟩) rfl 162 #[VH (some ⟨b,0,none⟩),VD .u8 c.toNat,VD VJ d] _ u0.out ?_ ?_
   ·go_simp
   rintro e W2 ⟨rfl,h1,h2⟩;exact⟨_,rfl,hK _ _ trivial (by simp only[ar,if_true];exact⟨h1,h2⟩) (λ_ _=>rfl)⟩
  refine aj.cons (λρ L W hR hI hL hD hO hF K hK=>?_) ?_
  ·have f9:=ag hF (j:=9) (by decide);clear hF hD hO hR;simp only[Act.put,ap,ak,aq]at hK |-;have e9:ρ 9=VG (!St.aT its.length tx.length cuts.length true):=f9;rw[e9]at hK |-;go_simp;refine hK _ _ trivial (by simpa[ar]using hI) (λ_ _=>?_);rfl
  exact aj.nil
 case hendD=>
  intro ρ L W hR hI hL hF;rw[if_pos (hL 9 (by decide))]at hI;obtain⟨_,_,_,_,_,_,_,_,_,_,g10,_⟩:=hF;have g10:ρ 10=VG (!St.aT its.length tx.length cuts.length true):=g10;rw[g10];clear g10 hR hL;obtain⟨eO,hbl⟩:=hI;have n5:Below B w W:=Below.trans lI.out hbl;have cX:=aa n5;have iq:=aa eO;clear eO hbl n5;cases hfu:St.aT its.length tx.length cuts.length true
  ·obtain⟨c3,c4,f3,f4,hlt,hBb⟩:=(iq.out hfu).at;haveI:af b W:=af.of hlt;have FC:=aa ((iq.out hfu).mo (a+1) ((a:Int)+1) ((a:Int)+1) (by omega) (by omega));have oE:=aa hBb;have ck:=aa hfu;clear hfu hBb;go_wp2;go_ret2;exact BF br.out hN'.out ck.out ((cX.out.setCell (p:=⟨b,3,none⟩) oE.out _).setCell (p:=⟨b,4,none⟩) oE.out _) FC.out h3 _ (by omega)
  have ck:=aa hfu;clear hfu;go_wp2;go_ret2;exact BH br.out hN'.out ck.out cX.out
end
section
def iH(au:ByteArray):List St.It × List Nat × Nat × Int:=St.dec St.cA au.size au.1.1 0 0 [] []
def pH(au:ByteArray)(w:VO)(e:Ending)(w':VO):Prop:=
 ac w w'/\((∃its tx cuts d,e=VL (VI #[VH (some ⟨w.1.size,0,none⟩),VD VJ 0,VD VJ 0])/\b7 gZ (ou d) w' w.1.size w.1.size its tx cuts/\its.length<=512/\cuts.length<=1024/\tx.length<=cuts.length/\iH au=(its++St.b8 tx,cuts++[d],0,0))\/
  ∃(a:Nat) (er:Int),er≠0/\e=VL (VI #[VH none,VD VJ a,VD VJ er])/\iH au=([],[],a,er))
def DR(w:VO)(au:ByteArray)(s6:Value)(wr:VO):Prop:=
 ∃(a d:Nat) (its:List St.It) (tx:List UInt8) (cuts:List Nat) (fuel:Nat),s6=VD VJ a/\a<=au.size/\au.size-a<=fuel/\b7 gZ (ou d) wr w.1.size w.1.size its tx cuts/\St.fz its/\its.length<=512/\cuts.length<=1024/\tx.length<=cuts.length /\
  iH au=St.dec St.cA fuel (au.1.1.drop a) a d (its++St.b8 tx) cuts/\ac w wr
theorem b7.fresh(w:VO):b7 gZ (ou 0) (w.alloc (.cells #[VF none 0 0,VF none 0 0,VF none 0 0,VD VJ 0,VD VJ 0] 129)) w.1.size w.1.size [] [] []:=
 ⟨_,_,_,Nat.le_refl _,heap_alloc_new w _,World.ownsRow_nil _ _ _ _,World.ownsRow_nil _ _ _ _,World.ownsRow_nil _ _ _ _⟩
theorem jM(au:ByteArray)(w:VO)(hr:au.size<=4611686018427387904):Calls Tryz.prog 81 #[VE au] w (pH au w):=by
 have mT:=aa (b7.fresh w);go_enter Tryz.func81,Tryz.ntmps81;go_wp2;go_loopw [6] (λs6 wr=>DR w au s6 wr) (λs6 _=>au.size+1-(intOf s6).toNat)
 case atStart=>exact⟨0,0,[],[],[],au.size,rfl,by omega,by omega,mT.out,St.o5,by simp,by simp,by simp,by simp[iH,St.b8],uZ⟩
 case round=>
  obtain⟨a,d,its,tx,cuts,fuel,rfl,ha,hfu,hB,hN,h1,h2,h3,hD,hu⟩:=hrel;clear mT
  by_cases hlt:a<au.size
  ·have hel:=kg wr w.1.size w.1.size its tx cuts d au a hB hN h1 h2 h3 hu.size hlt hr;have jk:=aa hel;have HD:=aa hD;have HU:=aa hu;have HN:=aa hN
   have h0:au.1.1.drop a≠[]:=by
    intro e;have:=congrArg List.length e
    simp at this;omega
   obtain⟨fuel,rfl⟩:∃m,fuel=m+1:=⟨fuel-1,by omega⟩;clear hel hB hN hD hu;go_wp2_with fail;refine jk.out.mono ?_;rintro e w2 ⟨hbl,hm⟩;have hu2:ac w w2:=ac.cm (Below.trans HU.out.below hbl);have aW:=aa hu2;clear hbl hu2;cases hs:St.cA (au.1.1.drop a)with
   | none=>
    rw[hs]at hm;subst hm;have hd2:=HD.out.trans (St.nV fuel a d _ cuts h0 hs);have bJ:=aa hd2;clear hd2 hs h0;go_wp2;go_ret3;exact⟨aW.out,.inr ⟨a,2,by decide,rfl,bJ.out⟩⟩
   | some x=>
    obtain⟨k,t,n⟩:=x;rw[hs]at hm;simp only at hm;obtain⟨_,fZ,eV,_⟩:=St.jY hs;have mW:a+n<=au.size:=by simp at eV;omega
    have iX:(au.1.1.drop a).drop n=au.1.1.drop (a+n):=by rw[List.drop_drop]
    by_cases gV:k=0
    ·rw[if_pos gV]at hm;obtain⟨rfl,hB'⟩:=hm;subst gV;have hd2:=HD.out.trans (St.uj fuel a d _ cuts h0 hs);rw[iX]at hd2;have HE:=aa (And.intro hd2 (And.intro hB' HN.out));clear hd2 hB' hs h0 iX jk HD HU HN;go_wp2;exact⟨⟨a+n,d,its,tx,cuts,fuel,congrArg (VD VJ) (by omega),mW,by omega,HE.out.2.1,HE.out.2.2,h1,h2,h3,HE.out.1,aW.out⟩,by simp[intOf];omega⟩
    rw[if_neg gV]at hm
    split at hm
    ·rename_i hf
     subst hm;have hd2:=HD.out.trans (St.nU fuel a d _ cuts h0 hs gV hf);have bJ:=aa hd2;clear hd2 hs h0 hf iX;go_wp2;go_ret3;exact⟨aW.out,.inr ⟨a,3,by decide,rfl,bJ.out⟩⟩
    rename_i hf
    obtain⟨rfl,fy,ja,hB',hN',hadd,ht'⟩:=hm;have hd2:=HD.out.trans (St.nW fuel a d _ cuts h0 hs gV hf);rw[<-hadd]at hd2 hf;rw[iX]at hd2;have C8:fy.length<=512:=by have:=(not_or.1 hf).1;simp at this;omega
    have QY:cuts.length+1<=1024:=by have:=(not_or.1 hf).2;omega
    have HE:=aa (And.intro hd2 (And.intro hB' hN'));clear hd2 hB' hN' hadd hf hs h0 iX jk HD HU;go_wp2;exact⟨⟨a+n,a+n,fy,ja,cuts++[d],fuel,congrArg (VD VJ) (by omega),mW,by omega,HE.out.2.1,HE.out.2.2,C8,by simp;omega,by simp;omega,HE.out.1,aW.out⟩,by simp[intOf];omega⟩
  have vy:a=au.size:=by omega
  subst vy;have hnil:au.1.1.drop au.size=[]:=List.drop_of_length_le (by simp);rw[hnil,St.pM]at hD;have HE:=aa (And.intro hu (And.intro hB hD));clear hlt hB hN hD hu hnil;go_wp2;go_ret3;exact⟨HE.out.1,.inl ⟨its,tx,cuts,d,rfl,HE.out.2.1,h1,h2,h3,HE.out.2.2⟩⟩
def ju(R:List St.It × List Nat × Nat × Int)(w:VO)(e:Ending)(w':VO):Prop:=
 ∃(A:Option Addr) (c:Nat),e=VL (VI #[VF A R.1.length c,VD VJ (R.2.2.1:Int),VD VJ R.2.2.2])/\aE w' A R.1/\R.1.length<=c/\c<=9223372036854775807/\ac w w'
def eR(R:List St.It × List Nat × Nat × Int)(w:VO)(e:Ending)(w':VO):Prop:=
 ∃(A:Option Addr) (c:Nat),e=VL (VI #[VF A R.2.1.length c,VD VJ R.2.2.2])/\iz w' A R.2.1/\R.2.1.length<=c/\c<=9223372036854775807/\ac w w'
theorem tY(au:ByteArray)(w:VO)(hr:au.size<=4611686018427387904):Calls Tryz.prog 43 #[VE au] w (ju (iH au) w):=by
 have HR:=aa (jM au w hr);go_enter Tryz.func43,Tryz.ntmps43;go_wp2_with fail;refine HR.out.mono ?_;rintro e w2 ⟨hu,⟨its,tx,cuts,d,rfl,hB,h1,h2,h3,hD⟩|⟨a,er,her,rfl,hD⟩⟩
 ·have HI:=aa (oX w2 w.1.size w.1.size its tx cuts hB (by omega) (by omega) hu.size);have HU:=aa hu;have HD:=aa hD;clear hu hB hD HR;go_wp2_with fail;refine HI.out.mono ?_;rintro e w3 ⟨A,c,rfl,hI,hc1,hc2,hbl⟩;have HE:=aa (And.intro hI (ac.cm (Below.trans HU.out.below hbl)));have n8:=aa hc1;clear hI hbl hc1;go_wp2;go_ret3;unfold ju;rw[HD.out];exact⟨A,c,by simp only[List.length_append];rfl,HE.out.1,n8.out,hc2,HE.out.2⟩
 have hb:(er==0)=false:=by simpa using her
 have HU:=aa hu;have HD:=aa hD;clear hu hD HR;go_wp2;go_ret3;unfold ju;rw[HD.out];exact⟨none,0,rfl,λh=>absurd h (by simp),by simp,by omega,HU.out⟩
theorem Ir(au:ByteArray)(w:VO)(hr:au.size<=4611686018427387904):Calls Tryz.prog 71 #[VE au] w (eR (iH au) w):=by
 have HR:=aa (jM au w hr);go_enter Tryz.func71,Tryz.ntmps71;go_wp2_with fail;refine HR.out.mono ?_;rintro e w2 ⟨hu,⟨its,tx,cuts,d,rfl,hB,h1,h2,h3,hD⟩|⟨a,er,her,rfl,hD⟩⟩
 ·have HI:=aa (oL w2.drew w.1.size w.1.size its tx cuts d (hB.ah (ac.refl w2).drew) (by omega) (by simpa using hu.size));have HU:=aa hu;have HD:=aa hD;obtain⟨c3,c4,f3,f4,hlt,hBb⟩:=hB.at;haveI:af w.1.size w2:=af.of hlt;have vD:Below w.1.size w2 w2.drew:=(Below.refl _ w2).drew;clear hu hB hD HR;go_wp2_with fail;go_region_law (refine mv rfl 112 #[VH (some ⟨w.1.size,0,none⟩),VD VJ d] _ HI.out ?_ ?_;(· go_simp);rintro e w3 ⟨A,c,rfl,hI,hc1,hc2,hbl⟩;refine⟨_,rfl,?_⟩)
  all_goals
   have HE:=aa (And.intro hI (ac.cm (Below.trans (Below.trans HU.out.below vD) hbl)));have n8:=aa hc1;clear hI hbl hc1;go_wp2;refine bodyPost_ret (v:=VI #[VF A (cuts.length+1) c,VD VJ 0]) (by simp[results,Tryz.results71,go_sem]<;>exact⟨rfl,rfl⟩) rfl ?_;unfold eR;rw[HD.out];exact⟨A,c,by simp,HE.out.1,by simpa using n8.out,hc2,HE.out.2⟩
 have hb:(er==0)=false:=by simpa using her
 have HU:=aa hu;have HD:=aa hD;clear hu hD HR;go_wp2;go_ret2;unfold eR;rw[HD.out];exact⟨none,0,rfl,λh=>absurd h (by simp),by simp,by omega,HU.out⟩
def dE(l:List UInt8):Nat × Int:=((St.dec St.cA l.length l 0 0 [] []).2.2.1,(St.dec St.cA l.length l 0 0 [] []).2.2.2)
theorem kr(x:ByteArray):dE x.1.1=((iH x).2.2.1,(iH x).2.2.2):=by
 unfold dE iH;rw[St.aD]
theorem pL:∀(fuel:Nat) (l:List UInt8) (a d:Nat) (f:List St.It) (cuts:List Nat),(St.dec St.cA fuel l a d f cuts).2.2.1<=a+l.length
 | 0,l,a,d,f,cuts=>by simp[St.dec]
 | fuel+1,l,a,d,f,cuts=>by
  by_cases h0:l=[]
  ·subst h0;rw[St.pM];simp
  cases hs:St.cA l with
  | none=>rw[St.nV fuel a d f cuts h0 hs];simp
  | some x=>
   obtain⟨k,t,n⟩:=x;obtain⟨_,fZ,eV,_⟩:=St.jY hs
   by_cases hk:k=0
   ·subst hk;rw[St.uj fuel a d f cuts h0 hs];have h:=pL fuel (l.drop n) (a+n) d f cuts;rw[List.length_drop]at h;omega
   by_cases hf:512<(St.aV f (k,t,0)).length\/1024<=cuts.length
   ·rw[St.nU fuel a d f cuts h0 hs (by omega) hf];simp
   rw[St.nW fuel a d f cuts h0 hs (by omega) hf];have h:=pL fuel (l.drop n) (a+n) (a+n) (St.aV f (k,t,0)) (cuts++[d]);rw[List.length_drop]at h;omega
theorem xg(x:ByteArray):(iH x).2.2.1<=x.size:=by
 have:=pL x.size x.1.1 0 0 [] []
 rw[St.aD]at this;unfold iH;omega
end
section
namespace St
theorem Bg:∀l:List UInt8,Lib.indexByte l 10=if cn l<l.length then(cn l:Int)else -1
 | []=>rfl
 | c :: l=>by
  unfold Lib.indexByte
  by_cases h:c.toNat=10
  ·have h2:c=10:=by apply UInt8.toNat_inj.1;simpa using h
   subst h2;simp[cn]
  have h2:¬c=10:=λe=>h (by rw[e];rfl)
  have h3:(c==10)=false:=by simpa using h2
  have e:cn (c :: l)=cn l+1:=by unfold cn;rw[List.takeWhile_cons_of_pos (by simpa using h),List.length_cons]
  rw[h3,Bg l,e];simp only[List.length_cons,Bool.false_eq_true,if_false]
  by_cases h4:cn l<l.length
  ·rw[if_pos h4,if_neg (by simp<;>omega),if_pos (by omega)];try simp
  rw[if_neg h4,if_pos (by simp),if_neg (by omega)]
theorem Fc(l:List UInt8):ez l=(match (l.take (cn l)).dropWhile gw with | []=>true|c :: _=>decide (c.toNat=35)):=by
 have e:l.take (cn l)=l.takeWhile (λc=>decide (c.toNat≠10)):=(List.prefix_iff_eq_take.1 (List.takeWhile_prefix _)).symm;rw[e];clear e
 induction l with
 | nil=>rfl
 | cons c l ih=>
  unfold ez at ih |-
  by_cases h10:c.toNat=10
  ·have hb:gw c=false:=by unfold gw;exact decide_eq_false (by omega)
   rw[List.takeWhile_cons_of_neg (by simp[h10]),List.dropWhile_cons_of_neg (by simp[hb])];simp[h10]
  rw[List.takeWhile_cons_of_pos (by simpa using h10)]
  by_cases hb:gw c=true
  ·rw[List.dropWhile_cons_of_pos hb,List.dropWhile_cons_of_pos hb];exact ih
  rw[List.dropWhile_cons_of_neg hb,List.dropWhile_cons_of_neg hb];simp[h10]
end St
theorem GZ(s:ByteArray)(w:VO):Calls Tryz.prog 167 #[VE s,VE ⟨#[10]⟩] w λe w'=>e=VL (VD VJ (Lib.indexByte s.1.1 10))/\w'=w:=Tryz.stringslite_Index_one s 10 w
theorem IP(s:ByteArray)(w:VO)(hs:s.size<=4611686018427387904):Calls Tryz.prog 155 #[VE s,VE ⟨#[10]⟩] w λe w'=>∃(x y:ByteArray) (f:Bool),e=VL (VI #[VE x,VE y,VG f])/\x.1.1=s.1.1.take (St.cn s.1.1)/\ac w w':=by
 have bK:=λW=>GZ s W
 rw[St.Bg]at bK;have hle:=St.kD s.1.1;rw[St.aD]at hle
 by_cases h:St.cn s.1.1<s.1.1.length
 ·rw[if_pos h]at bK;have h2:St.cn s.1.1<s.size:=by rw[St.aD]at h;exact h
  have hx:(s.extract 0 (St.cn s.1.1)).1.1=s.1.1.take (St.cn s.1.1):=by rw[Lib.extract_data];simp
  generalize St.cn s.1.1=n at *;have HX:=aa hx;have dQ:=aa bK;have y1:(n:Int)<=s.size:=by omega
  have y2:(n:Int)+1<=s.size:=by omega
  clear hx bK h hle;go_enter Tryz.func155,Tryz.ntmps155;go_wp2_with (go_at_call 167;refine(dQ.out _).mono ?_;rintro e w' ⟨rfl,rfl⟩);go_quiet (fail);go_wp2;go_ret3;exact⟨_,_,_,rfl,HX.out,(ac.refl _).drewN _⟩
 rw[if_neg h]at bK;have hx:s.1.1=s.1.1.take (St.cn s.1.1):=(List.take_of_length_le (by omega)).symm;generalize St.cn s.1.1=n at *;have HX:=aa hx;have dQ:=aa bK;clear hx bK h hle;go_enter Tryz.func155,Tryz.ntmps155;go_wp2_with (go_at_call 167;refine(dQ.out _).mono ?_;rintro e w' ⟨rfl,rfl⟩);go_ret3;exact⟨_,_,_,rfl,HX.out,ac.refl _⟩
theorem Lu(s:ByteArray)(w:VO)(hs:s.size<=4611686018427387904):Calls Tryz.prog 118 #[VE s,VE ⟨#[10]⟩] w λe w'=>∃(x y:ByteArray) (f:Bool),e=VL (VI #[VE x,VE y,VG f])/\x.1.1=s.1.1.take (St.cn s.1.1)/\ac w w':=by
 have HC:=aa (IP s w hs);go_enter Tryz.func118,Tryz.ntmps118;go_wp2_with fail;refine HC.out.mono ?_;rintro e w' ⟨x,y,f,rfl,hx,hu⟩;have HX:=aa hx;have HU:=aa hu;clear hu;clear hx;go_wp2
 first|go_ret|go_ret3
 exact⟨x,y,f,rfl,HX.out,HU.out⟩
theorem J9(s:ByteArray)(w:VO):Calls Tryz.prog 119 #[VE s,VE ⟨#[32,9]⟩] w λe w'=>∃x:ByteArray,e=VL (VE x)/\x.1.1=s.1.1.dropWhile St.gw/\ac w w':=by
 have h:=Any.strings_TrimLeft_laid Tryz.LL (by kernel_rfl) s ⟨#[32,9]⟩ w (by decide) (ascii_of_all (by decide));refine Calls.mono (show Calls Tryz.prog 119 _ _ _ from h) ?_;rintro e w' ⟨rfl,hb⟩;refine⟨_,rfl,?_,ac.cm hb⟩
 have e:(λc:UInt8=>([32,9]:List UInt8).contains c)=St.gw:=by
  funext c
  unfold St.gw;rw[Bool.eq_iff_iff];simp only[List.contains_iff_mem,List.mem_cons,List.not_mem_nil,or_false,decide_eq_true_eq];constructor
  ·rintro (rfl|rfl)<;>simp
  rintro (h|h)
  ·exact .inl (by apply UInt8.toNat_inj.1;simpa using h)
  exact .inr (by apply UInt8.toNat_inj.1;simpa using h)
 show Lib.trimLeftS s.1.1 [32,9]=_
 unfold Lib.trimLeftS;exact congrArg (λp=>s.1.1.dropWhile p) e
theorem CC(d:ByteArray)(a:Nat)(w:VO)(ha:a<=d.size)(hd:d.size<=4611686018427387904) :
  Calls Tryz.prog 76 #[VE d,VD VJ a] w λe w'=>e=VL (VI #[VD VJ ((min (a+St.cn (d.1.1.drop a)+1) d.size:Nat):Int),VG (St.ez (d.1.1.drop a))])/\ac w w':=by
 obtain⟨s,hE⟩:∃s,d.extract a d.size=s:=⟨_,rfl⟩;have hsz:s.size=d.size-a:=by rw[<-hE];simp
 have hl:s.1.1=d.1.1.drop a:=by rw[<-hE];simp;exact List.take_of_length_le (by simp)
 have y1:(a:Int)<=d.size:=by omega
 have xp:=aa (Lu s w (by omega));rw[<-hl];clear hl;go_enter Tryz.func76,Tryz.ntmps76;go_wp2_with fail;refine xp.out.mono ?_;rintro e w1 ⟨x,y,f,rfl,hx,hu0⟩;have fR:=aa hu0;clear hu0
 have hxs:x.size=St.cn s.1.1:=by
  rw[<-St.aD,hx,List.length_take];have:=St.kD s.1.1
  omega
 have hle:=St.kD s.1.1;rw[St.aD,<-hxs]at hle;have Nc:=aa (J9 x w1);have hsk:=St.Fc s.1.1;rw[<-hx]at hsk;have QB:=aa hxs;have xC:=aa hsk;clear hx hxs hsk xp;go_wp2_with fail;refine Nc.out.mono ?_;rintro e w2 ⟨t,rfl,ht,hu⟩;have HU:=aa (fR.out.trans hu);rw[<-ht]at xC;have y2:¬9223372036854775807<x.size:=by omega
 have y3:(min (a+x.size+1) d.size:Nat)=min ((a:Int)+x.size+1) d.size:=by omega
 have QC:=aa y3
 by_cases h0:t.size=0
 ·have hnil:t.1.1=[]:=List.eq_nil_of_length_eq_zero (by rw[St.aD];exact h0);have mX:St.ez s.1.1=true:=by rw[xC.out,hnil]
  have e0:(t.toList==([]:List UInt8))=true:=by rw[Lib.toList_data,hnil];rfl
  have xB:=aa mX;clear hu ht hnil mX Nc xC y3 h0;go_wp2_with fail;go_quiet (fail);go_wp2;refine bodyPost_ret (v:=VI #[VD VJ (min ((a:Int)+x.size+1) d.size),VG true]) (by simp[results,Tryz.results76,go_sem]) rfl ⟨?_,HU.out.drewN _⟩;rw[<-QB.out,xB.out,QC.out]
 have hcr:=St.ft t (by omega);have e0:(t.toList==([]:List UInt8))=false:=by rw[Lib.toList_data,hcr];rfl
 have z0:0<t.size:=by omega
 have mX:St.ez s.1.1=((t[0].toNat:Int)==35):=by
  rw[xC.out,hcr,Bool.eq_iff_iff];simp;omega
 have xB:=aa mX;clear hu ht hcr mX Nc xC y3 h0;cases hq:((t[0].toNat:Int)==35)
 all_goals
  rw[hq]at xB;go_wp2_with fail;go_quiet (fail);go_wp2;refine bodyPost_ret (v:=VI #[VD VJ (min ((a:Int)+x.size+1) d.size),VG _]) (by simp[results,Tryz.results76,go_sem];rfl) rfl ⟨?_,HU.out.drewN _⟩;rw[<-QB.out,xB.out,QC.out]
end
section
namespace St
theorem Bl:bH []=0:=rfl
theorem pX{c:UInt8}{r:List UInt8}(h:gz c=false):bH (c :: r)=0:=by unfold bH;rw[List.takeWhile_cons_of_neg (by simp[h])];rfl
theorem kC{c:UInt8}{r:List UInt8}(h:gz c=true):bH (c :: r)=1+bH r:=by unfold bH;rw[List.takeWhile_cons_of_pos h,List.length_cons];omega
theorem CZ{c:UInt8}{r:List UInt8}(h:c.toNat=10):eu (c :: r)=0:=by rw[eu.eq_def];simp only[];rw[if_pos h]
theorem Gj{c:UInt8}(h:c.toNat=92):eu [c]=1:=by rw[eu.eq_def];simp only[];rw[if_neg (by omega),if_pos h]
theorem Gk{c x:UInt8}{r:List UInt8}(h:c.toNat=92):eu (c :: x :: r)=2+eu r:=by rw[eu.eq_def];simp only[];rw[if_neg (by omega),if_pos h]
theorem Gl{c:UInt8}{r:List UInt8}(h:c.toNat≠10)(h2:c.toNat≠92):eu (c :: r)=1+eu r:=by rw[eu.eq_def];simp only[];rw[if_neg h,if_neg h2]
theorem JA{c:UInt8}{r:List UInt8}(h:c.toNat=10):cn (c :: r)=0:=by unfold cn;rw[List.takeWhile_cons_of_neg (by simp[h])];rfl
theorem xa{c:UInt8}{r:List UInt8}(h:c.toNat≠10):cn (c :: r)=1+cn r:=by unfold cn;rw[List.takeWhile_cons_of_pos (by simpa using h),List.length_cons];omega
end St
def Py(s:ByteArray)(s3:Value):Prop:=∃k:Nat,s3=VD VJ k/\k<=65/\k<=s.size/\St.bH s.1.1=k+St.bH (s.1.1.drop k)
theorem LH(s:ByteArray)(w:VO)(hs:s.size<=4611686018427387904):Calls Tryz.prog 77 #[VE s] w λe w'=>e=VL (VD VJ ((min (St.bH s.1.1) 65:Nat):Int))/\w=w':=by
 go_enter Tryz.func77,Tryz.ntmps77;go_wp2;go_loop [3] (λi=>Py s i) (λi=>66-(intOf i).toNat)
 case atStart=>exact⟨0,rfl,by omega,by omega,by simp⟩
 case round=>
  obtain⟨k,rfl,h1,h2,h3⟩:=hrel;have HK:=aa h3;clear h3
  by_cases hlt:k<s.size
  ·have z:(k:Int)<s.size:=by omega
   by_cases To:k<65
   ·have z2:(k:Int)<65:=by omega
    have aw:=St.drop_at s k hlt;rcases(show(97<=s[k].toNat/\s[k].toNat<=122)\/(48<=s[k].toNat/\s[k].toNat<=57)\/(s[k].toNat=46)\/(s[k].toNat=95)\/(s[k].toNat=45)\/(s[k].toNat<45\/s[k].toNat=47)\/(58<=s[k].toNat/\s[k].toNat<97/\s[k].toNat≠95)\/(122<s[k].toNat)by omega)with hc|hc|hc|hc|hc|hc|hc|hc
    ·have hk:St.gz s[k]=true:=decide_eq_true (by omega);have y0:97<=(s[k].toNat:Int):=by omega
     have y1:(s[k].toNat:Int)<=122:=by omega
     clear hc;have HE:=aa (show St.bH s.1.1=k+1+St.bH (s.1.1.drop (k+1))by rw[HK.out,aw,St.kC hk];omega);clear aw hk;go_wp2;go_round
     case rel=>exact⟨k+1,by go_num,by omega,by omega,HE.out⟩
     case measure=>simp[intOf];omega
    ·have hk:St.gz s[k]=true:=decide_eq_true (by omega);have y0:¬97<=(s[k].toNat:Int):=by omega
     have y1:48<=(s[k].toNat:Int):=by omega
     have y2:(s[k].toNat:Int)<=57:=by omega
     clear hc;have HE:=aa (show St.bH s.1.1=k+1+St.bH (s.1.1.drop (k+1))by rw[HK.out,aw,St.kC hk];omega);clear aw hk;go_wp2;go_round
     case rel=>exact⟨k+1,by go_num,by omega,by omega,HE.out⟩
     case measure=>simp[intOf];omega
    ·have hk:St.gz s[k]=true:=decide_eq_true (by omega);have y0:¬97<=(s[k].toNat:Int):=by omega
     have y1:¬48<=(s[k].toNat:Int):=by omega
     have y2:((s[k].toNat:Int)==46)=true:=by simp;omega
     clear hc;have HE:=aa (show St.bH s.1.1=k+1+St.bH (s.1.1.drop (k+1))by rw[HK.out,aw,St.kC hk];omega);clear aw hk;go_wp2;go_round
     case rel=>exact⟨k+1,by go_num,by omega,by omega,HE.out⟩
     case measure=>simp[intOf];omega
    ·have hk:St.gz s[k]=true:=decide_eq_true (by omega);have y0:¬97<=(s[k].toNat:Int):=by omega
     have y1:48<=(s[k].toNat:Int):=by omega
     have y2:¬(s[k].toNat:Int)<=57:=by omega
     have y3:((s[k].toNat:Int)==46)=false:=by simp;omega
     have y4:((s[k].toNat:Int)==95)=true:=by simp;omega
     clear hc;have HE:=aa (show St.bH s.1.1=k+1+St.bH (s.1.1.drop (k+1))by rw[HK.out,aw,St.kC hk];omega);clear aw hk;go_wp2;go_round
     case rel=>exact⟨k+1,by go_num,by omega,by omega,HE.out⟩
     case measure=>simp[intOf];omega
    ·have hk:St.gz s[k]=true:=decide_eq_true (by omega);have y0:¬97<=(s[k].toNat:Int):=by omega
     have y1:¬48<=(s[k].toNat:Int):=by omega
     have y2:((s[k].toNat:Int)==46)=false:=by simp;omega
     have y3:((s[k].toNat:Int)==95)=false:=by simp;omega
     have y4:((s[k].toNat:Int)==45)=true:=by simp;omega
     clear hc;have HE:=aa (show St.bH s.1.1=k+1+St.bH (s.1.1.drop (k+1))by rw[HK.out,aw,St.kC hk];omega);clear aw hk;go_wp2;go_round
     case rel=>exact⟨k+1,by go_num,by omega,by omega,HE.out⟩
     case measure=>simp[intOf];omega
    ·have hk:St.gz s[k]=false:=decide_eq_false (by omega);have y0:¬97<=(s[k].toNat:Int):=by omega
     have y1:¬48<=(s[k].toNat:Int):=by omega
     have y2:((s[k].toNat:Int)==46)=false:=by simp;omega
     have y3:((s[k].toNat:Int)==95)=false:=by simp;omega
     have y4:((s[k].toNat:Int)==45)=false:=by simp;omega
     clear hc;have HE:=aa (show min (St.bH s.1.1) 65=k by rw[HK.out,aw,St.pX hk];omega);clear aw hk;go_wp2;go_ret;exact⟨bc (by rw[HE.out]),rfl⟩
    ·have hk:St.gz s[k]=false:=decide_eq_false (by omega);have y0:¬97<=(s[k].toNat:Int):=by omega
     have y1:48<=(s[k].toNat:Int):=by omega
     have y2:¬(s[k].toNat:Int)<=57:=by omega
     have y3:((s[k].toNat:Int)==46)=false:=by simp;omega
     have y4:((s[k].toNat:Int)==95)=false:=by simp;omega
     have y5:((s[k].toNat:Int)==45)=false:=by simp;omega
     clear hc;have HE:=aa (show min (St.bH s.1.1) 65=k by rw[HK.out,aw,St.pX hk];omega);clear aw hk;go_wp2;go_ret;exact⟨bc (by rw[HE.out]),rfl⟩
    have hk:St.gz s[k]=false:=decide_eq_false (by omega);have y0:97<=(s[k].toNat:Int):=by omega
    have y1:¬(s[k].toNat:Int)<=122:=by omega
    have y2:48<=(s[k].toNat:Int):=by omega
    have y3:¬(s[k].toNat:Int)<=57:=by omega
    have y4:((s[k].toNat:Int)==46)=false:=by simp;omega
    have y5:((s[k].toNat:Int)==95)=false:=by simp;omega
    have y6:((s[k].toNat:Int)==45)=false:=by simp;omega
    clear hc;have HE:=aa (show min (St.bH s.1.1) 65=k by rw[HK.out,aw,St.pX hk];omega);clear aw hk;go_wp2;go_ret;exact⟨bc (by rw[HE.out]),rfl⟩
   obtain rfl:k=65:=by omega
   have HE:=aa (show min (St.bH s.1.1) 65=65 by rw[HK.out];omega);clear To;go_wp2;go_ret;exact⟨bc (by rw[HE.out];rfl),rfl⟩
  obtain rfl:k=s.size:=by omega
  have HE:=aa (show min (St.bH s.1.1) 65=s.size by rw[HK.out,List.drop_of_length_le (by simp),St.Bl];omega);clear hlt;go_wp2;go_ret;exact⟨bc (by rw[HE.out]),rfl⟩
def Kk(d:ByteArray)(T:Nat)(s1:Value):Prop:=∃k:Nat,s1=VD VJ k/\((k<=d.size/\k+St.eu (d.1.1.drop k)=T)\/(k=d.size+1/\T=d.size))
theorem Lx(d:ByteArray)(a:Nat)(w:VO)(hd:d.size<=4611686018427387904)(ha:a<=d.size):Calls Tryz.prog 78 #[VE d,VD VJ a] w λe w'=>e=VL (VD VJ ((a+St.eu (d.1.1.drop a):Nat):Int))/\w=w':=by
 obtain⟨T,hT⟩:∃T,a+St.eu (d.1.1.drop a)=T:=⟨_,rfl⟩;have NP:T<=d.size:=by have:=St.kI (d.1.1.drop a);simp at this;omega
 rw[hT];go_enter Tryz.func78,Tryz.ntmps78;go_wp2;go_loop [1] (λi=>Kk d T i) (λi=>d.size+2-(intOf i).toNat)
 case atStart=>exact⟨a,rfl,.inl ⟨ha,hT⟩⟩
 case round=>
  clear hT;obtain⟨k,rfl,⟨hk,h3⟩|⟨rfl,rfl⟩⟩:=hrel
  ·have HK:=aa h3;clear h3
   by_cases hlt:k<d.size
   ·have z:(k:Int)<d.size:=by omega
    have aw:=St.drop_at d k hlt
    by_cases bl:d[k].toNat=10
    ·have e10:((d[k].toNat:Int)==10)=true:=by simp;omega
     have f10:((d[k].toNat:Int) != 10)=false:=by simp;omega
     have HE:=aa (show T=k by have:=HK.out;rw[aw,St.CZ bl]at this;omega);clear aw bl;go_wp2;go_ret;exact⟨bc (by have:=HE.out;omega),rfl⟩
    have e10:((d[k].toNat:Int)==10)=false:=by simp;omega
    have f10:((d[k].toNat:Int) != 10)=true:=by simp;omega
    by_cases iA:d[k].toNat=92
    ·have xO:((d[k].toNat:Int)==92)=true:=by simp;omega
     by_cases GH:k+1<d.size
     ·have hc2:=St.drop_at d (k+1) GH;have HE:=aa (show k+2+St.eu (d.1.1.drop (k+1+1))=T by have:=HK.out;rw[aw,hc2,St.Gk iA]at this;omega);clear aw hc2 bl iA;go_wp2;go_round
      case rel=>exact⟨k+2,congrArg (VD VJ) (by omega),.inl ⟨by omega,HE.out⟩⟩
      case measure=>simp[intOf];omega
     have hc2:d.1.1.drop (k+1)=[]:=List.drop_of_length_le (by simp;omega);have HE:=aa (show T=d.size by have:=HK.out;rw[aw,hc2,St.Gj iA]at this;omega);clear aw hc2 bl iA;go_wp2;go_round
     case rel=>exact⟨d.size+1,congrArg (VD VJ) (by omega),.inr ⟨rfl,HE.out⟩⟩
     case measure=>simp[intOf];omega
    have xO:((d[k].toNat:Int)==92)=false:=by simp;omega
    have HE:=aa (show k+1+St.eu (d.1.1.drop (k+1))=T by have:=HK.out;rw[aw,St.Gl bl iA]at this;omega);clear aw bl iA;go_wp2;go_round
    case rel=>exact⟨k+1,congrArg (VD VJ) (by omega),.inl ⟨by omega,HE.out⟩⟩
    case measure=>simp[intOf];omega
   obtain rfl:k=d.size:=by omega
   have HE:=aa (show T=d.size by have:=HK.out;rw[List.drop_of_length_le (by simp)]at this;exact this.symm);clear hlt;go_wp2;go_ret;exact⟨bc (by have:=HE.out;omega),rfl⟩
  have z:¬((d.size+1:Nat):Int)<d.size:=by omega
  go_wp2;go_ret;exact⟨bc (by omega),rfl⟩
theorem yI(d:ByteArray)(a:Nat)(w:VO)(hd:d.size<=4611686018427387904)(ha:a<=d.size):Calls Tryz.prog 140 #[VE d,VD VJ a,VG true] w λe w'=>e=VL (VD VJ ((a+St.eu (d.1.1.drop a):Nat):Int))/\w=w':=by
 obtain⟨T,hT⟩:∃T,a+St.eu (d.1.1.drop a)=T:=⟨_,rfl⟩;have NP:T<=d.size:=by have:=St.kI (d.1.1.drop a);simp at this;omega
 rw[hT];go_enter Tryz.func140,Tryz.ntmps140;go_wp2;go_loop [1] (λi=>Kk d T i) (λi=>d.size+2-(intOf i).toNat)
 case atStart=>exact⟨a,rfl,.inl ⟨ha,hT⟩⟩
 case round=>
  clear hT;obtain⟨k,rfl,⟨hk,h3⟩|⟨rfl,rfl⟩⟩:=hrel
  ·have HK:=aa h3;clear h3
   by_cases hlt:k<d.size
   ·have z:(k:Int)<d.size:=by omega
    have aw:=St.drop_at d k hlt
    by_cases bl:d[k].toNat=10
    ·have e10:((d[k].toNat:Int)==10)=true:=by simp;omega
     have f10:((d[k].toNat:Int) != 10)=false:=by simp;omega
     have HE:=aa (show T=k by have:=HK.out;rw[aw,St.CZ bl]at this;omega);clear aw bl;go_wp2;go_ret;exact⟨bc (by have:=HE.out;omega),rfl⟩
    have e10:((d[k].toNat:Int)==10)=false:=by simp;omega
    have f10:((d[k].toNat:Int) != 10)=true:=by simp;omega
    by_cases iA:d[k].toNat=92
    ·have xO:((d[k].toNat:Int)==92)=true:=by simp;omega
     by_cases GH:k+1<d.size
     ·have hc2:=St.drop_at d (k+1) GH;have HE:=aa (show k+2+St.eu (d.1.1.drop (k+1+1))=T by have:=HK.out;rw[aw,hc2,St.Gk iA]at this;omega);clear aw hc2 bl iA;go_wp2;go_round
      case rel=>exact⟨k+2,congrArg (VD VJ) (by omega),.inl ⟨by omega,HE.out⟩⟩
      case measure=>simp[intOf];omega
     have hc2:d.1.1.drop (k+1)=[]:=List.drop_of_length_le (by simp;omega);have HE:=aa (show T=d.size by have:=HK.out;rw[aw,hc2,St.Gj iA]at this;omega);clear aw hc2 bl iA;go_wp2;go_round
     case rel=>exact⟨d.size+1,congrArg (VD VJ) (by omega),.inr ⟨rfl,HE.out⟩⟩
     case measure=>simp[intOf];omega
    have xO:((d[k].toNat:Int)==92)=false:=by simp;omega
    have HE:=aa (show k+1+St.eu (d.1.1.drop (k+1))=T by have:=HK.out;rw[aw,St.Gl bl iA]at this;omega);clear aw bl iA;go_wp2;go_round
    case rel=>exact⟨k+1,congrArg (VD VJ) (by omega),.inl ⟨by omega,HE.out⟩⟩
    case measure=>simp[intOf];omega
   obtain rfl:k=d.size:=by omega
   have HE:=aa (show T=d.size by have:=HK.out;rw[List.drop_of_length_le (by simp)]at this;exact this.symm);clear hlt;go_wp2;go_ret;exact⟨bc (by have:=HE.out;omega),rfl⟩
  have z:¬((d.size+1:Nat):Int)<d.size:=by omega
  go_wp2;go_ret;exact⟨bc (by omega),rfl⟩
def Nl(d:ByteArray)(T:Nat)(s1:Value):Prop:=∃k:Nat,s1=VD VJ k/\k<=d.size/\k+St.cn (d.1.1.drop k)=T
theorem yJ(d:ByteArray)(a:Nat)(w:VO)(hd:d.size<=4611686018427387904)(ha:a<=d.size):Calls Tryz.prog 140 #[VE d,VD VJ a,VG false] w λe w'=>e=VL (VD VJ ((a+St.cn (d.1.1.drop a):Nat):Int))/\w=w':=by
 obtain⟨T,hT⟩:∃T,a+St.cn (d.1.1.drop a)=T:=⟨_,rfl⟩;have NP:T<=d.size:=by have:=St.kD (d.1.1.drop a);simp at this;omega
 rw[hT];go_enter Tryz.func140,Tryz.ntmps140;go_wp2;go_loop [1] (λi=>Nl d T i) (λi=>d.size+2-(intOf i).toNat)
 case atStart=>exact⟨a,rfl,ha,hT⟩
 case round=>
  clear hT;obtain⟨k,rfl,hk,h3⟩:=hrel;have HK:=aa h3;clear h3
  by_cases hlt:k<d.size
  ·have z:(k:Int)<d.size:=by omega
   have aw:=St.drop_at d k hlt
   by_cases bl:d[k].toNat=10
   ·have e10:((d[k].toNat:Int)==10)=true:=by simp;omega
    have f10:((d[k].toNat:Int) != 10)=false:=by simp;omega
    have HE:=aa (show T=k by have:=HK.out;rw[aw,St.JA bl]at this;omega);clear aw bl;go_wp2;go_ret;exact⟨bc (by have:=HE.out;omega),rfl⟩
   have e10:((d[k].toNat:Int)==10)=false:=by simp;omega
   have f10:((d[k].toNat:Int) != 10)=true:=by simp;omega
   have HE:=aa (show k+1+St.cn (d.1.1.drop (k+1))=T by have:=HK.out;rw[aw,St.xa bl]at this;omega);clear aw bl;go_wp2;go_round
   case rel=>exact⟨k+1,congrArg (VD VJ) (by omega),by omega,HE.out⟩
   case measure=>simp[intOf];omega
  obtain rfl:k=d.size:=by omega
  have HE:=aa (show T=d.size by have:=HK.out;rw[List.drop_of_length_le (by simp)]at this;exact this.symm);clear hlt;go_wp2;go_ret;exact⟨bc (by have:=HE.out;omega),rfl⟩
theorem Cg(c:UInt8)(w:VO):Calls Tryz.prog 141 #[VD .u8 (c.toNat:Int)] w λe w'=>e=VL (VG (St.gz c))/\w=w':=by
 rcases(show(97<=c.toNat/\c.toNat<=122)\/(48<=c.toNat/\c.toNat<=57)\/(c.toNat=46)\/(c.toNat=95)\/(c.toNat=45)\/(c.toNat<45\/c.toNat=47)\/(58<=c.toNat/\c.toNat<97/\c.toNat≠95)\/(122<c.toNat)by omega)with hc|hc|hc|hc|hc|hc|hc|hc
 ·have hk:St.gz c=true:=decide_eq_true (by omega);have y0:97<=(c.toNat:Int):=by omega
  have y1:(c.toNat:Int)<=122:=by omega
  clear hc;rw[hk];clear hk;go_enter Tryz.func141,Tryz.ntmps141;go_wp2;go_ret;exact⟨rfl,rfl⟩
 ·have hk:St.gz c=true:=decide_eq_true (by omega);have y0:¬97<=(c.toNat:Int):=by omega
  have y1:48<=(c.toNat:Int):=by omega
  have y2:(c.toNat:Int)<=57:=by omega
  clear hc;rw[hk];clear hk;go_enter Tryz.func141,Tryz.ntmps141;go_wp2;go_ret;exact⟨rfl,rfl⟩
 ·have hk:St.gz c=true:=decide_eq_true (by omega);have y0:¬97<=(c.toNat:Int):=by omega
  have y1:¬48<=(c.toNat:Int):=by omega
  have y2:((c.toNat:Int)==46)=true:=by simp;omega
  clear hc;rw[hk];clear hk;go_enter Tryz.func141,Tryz.ntmps141;go_wp2;go_ret;exact⟨rfl,rfl⟩
 ·have hk:St.gz c=true:=decide_eq_true (by omega);have y0:¬97<=(c.toNat:Int):=by omega
  have y1:48<=(c.toNat:Int):=by omega
  have y2:¬(c.toNat:Int)<=57:=by omega
  have y3:((c.toNat:Int)==46)=false:=by simp;omega
  have y4:((c.toNat:Int)==95)=true:=by simp;omega
  clear hc;rw[hk];clear hk;go_enter Tryz.func141,Tryz.ntmps141;go_wp2;go_ret;exact⟨rfl,rfl⟩
 ·have hk:St.gz c=true:=decide_eq_true (by omega);have y0:¬97<=(c.toNat:Int):=by omega
  have y1:¬48<=(c.toNat:Int):=by omega
  have y2:((c.toNat:Int)==46)=false:=by simp;omega
  have y3:((c.toNat:Int)==95)=false:=by simp;omega
  have y4:((c.toNat:Int)==45)=true:=by simp;omega
  clear hc;rw[hk];clear hk;go_enter Tryz.func141,Tryz.ntmps141;go_wp2;go_ret;exact⟨rfl,rfl⟩
 ·have hk:St.gz c=false:=decide_eq_false (by omega);have y0:¬97<=(c.toNat:Int):=by omega
  have y1:¬48<=(c.toNat:Int):=by omega
  have y2:((c.toNat:Int)==46)=false:=by simp;omega
  have y3:((c.toNat:Int)==95)=false:=by simp;omega
  have y4:((c.toNat:Int)==45)=false:=by simp;omega
  clear hc;rw[hk];clear hk;go_enter Tryz.func141,Tryz.ntmps141;go_wp2;go_ret;exact⟨rfl,rfl⟩
 ·have hk:St.gz c=false:=decide_eq_false (by omega);have y0:¬97<=(c.toNat:Int):=by omega
  have y1:48<=(c.toNat:Int):=by omega
  have y2:¬(c.toNat:Int)<=57:=by omega
  have y3:((c.toNat:Int)==46)=false:=by simp;omega
  have y4:((c.toNat:Int)==95)=false:=by simp;omega
  have y5:((c.toNat:Int)==45)=false:=by simp;omega
  clear hc;rw[hk];clear hk;go_enter Tryz.func141,Tryz.ntmps141;go_wp2;go_ret;exact⟨rfl,rfl⟩
 have hk:St.gz c=false:=decide_eq_false (by omega);have y0:97<=(c.toNat:Int):=by omega
 have y1:¬(c.toNat:Int)<=122:=by omega
 have y2:48<=(c.toNat:Int):=by omega
 have y3:¬(c.toNat:Int)<=57:=by omega
 have y4:((c.toNat:Int)==46)=false:=by simp;omega
 have y5:((c.toNat:Int)==95)=false:=by simp;omega
 have y6:((c.toNat:Int)==45)=false:=by simp;omega
 clear hc;rw[hk];clear hk;go_enter Tryz.func141,Tryz.ntmps141;go_wp2;go_ret;exact⟨rfl,rfl⟩
def Ps(l:List St.Pt)(k:List UInt8)(i:Value):Prop:=∃j:Nat,i=VD VJ j/\j<=l.length/\St.gi l k=St.gi (l.drop j) k
theorem GC(p:St.Pt)(l:List St.Pt)(k:List UInt8):St.gi (p :: l) k=((p.1&&decide (p.2.1=k)) || St.gi l k):=by unfold St.gi;rw[List.any_cons]
theorem nl(A:Option Addr)(n c:Nat)(l:List St.Pt)(k:ByteArray)(w:VO)(hn:l.length=n)(hnc:n<=c)(hc:c<=9223372036854775807)(h:aY w A l):Calls Tryz.prog 142 #[VF A n c,VE k] w λe w'=>e=VL (VG (St.gi l k.1.1))/\w=w':=by
 have HP:=aa h;clear h;go_enter Tryz.func142,Tryz.ntmps142;go_wp2;go_loop [8] (λi=>Ps l k.1.1 i) (λi=>l.length+1-(intOf i).toNat)
 case atStart=>exact⟨0,rfl,by omega,by simp⟩
 case round=>
  obtain⟨j,rfl,hj,h3⟩:=hrel;have HK:=aa h3;clear h3
  by_cases hlt:j<l.length
  ·have z:(j:Int)<n:=by omega
   obtain⟨b,o,rfl,hb,hcl⟩:=HP.out (by omega);obtain⟨x1,x2,x3⟩:=hcl j hlt;haveI:af b w:=af.of hb;have aw:l.drop j=l[j] :: l.drop (j+1):=List.drop_eq_getElem_cons hlt;generalize l[j]=p at x1 x2 x3 aw;obtain⟨p1,p2,p3⟩:=p;simp only at x1 x2 x3;obtain⟨ky,oS⟩:∃ky:ByteArray,ky=⟨p2.toArray⟩:=⟨_,rfl⟩;rw[<-oS]at x2;have hkl:ky.toList=p2:=by rw[Lib.toList_data,oS]
   have hst:=HK.out;rw[aw,GC]at hst;clear hcl aw x3 oS;cases p1
   ·have HE:=aa (show St.gi l k.1.1=St.gi (l.drop (j+1)) k.1.1 by rw[hst];simp);clear hst hkl;go_wp2;exact⟨⟨j+1,by simp,by omega,HE.out⟩,by simp[intOf];omega⟩
   by_cases hq:p2=k.1.1
   ·have e1:(ky.toList==k.toList)=true:=by rw[hkl,Lib.toList_data,hq];simp
    have HE:=aa (show St.gi l k.1.1=true by rw[hst];simp[hq]);clear hst hq hkl;go_wp2;go_ret;exact⟨ay HE.out.symm,rfl⟩
   have e1:(ky.toList==k.toList)=false:=by rw[hkl,Lib.toList_data];simpa using hq
   have HE:=aa (show St.gi l k.1.1=St.gi (l.drop (j+1)) k.1.1 by rw[hst];simp[hq]);clear hst hq hkl;go_wp2;exact⟨⟨j+1,by simp,by omega,HE.out⟩,by simp[intOf];omega⟩
  obtain rfl:j=l.length:=by omega
  have z:¬(l.length:Int)<n:=by omega
  have HE:=aa (show St.gi l k.1.1=false by rw[HK.out];simp[St.gi]);clear hlt;go_wp2;go_ret;exact⟨ay HE.out.symm,rfl⟩
end
section
def l7:Nat->List (List UInt8)->List MapEntry
 | _,[]=>[]
 | n,p :: l=>{ key:=VE ⟨p.toArray⟩,val:=VG true,born:=n } :: l7 (n+1) l
theorem yu(k:List UInt8):∀(l:List (List UInt8)) (n:Nat),l7 n (l++[k])=l7 n l++[{ key:=VE ⟨k.toArray⟩,val:=VG true,born:=n+l.length }]
 | [],n=>by simp[l7]
 | p :: l,n=>by
  simp only[List.cons_append,l7,yu k l (n+1),List.length_cons];rw[show n+1+l.length=n+(l.length+1)by omega]
def MV(w:VO)(B mb:Nat)(l:List (List UInt8)):Prop:=B<=mb/\w.1[mb]?=some (.map (l7 0 l).toArray l.length)
def lE(w:VO)(mb:Nat)(l:List (List UInt8)):VO:={ w with heap:=w.heap.setIfInBounds mb (.map (l7 0 l).toArray l.length) }
theorem MV.ah{a c:VO}{B mb:Nat}{l:List (List UInt8)}(h:MV a B mb l)(u:ac a c):MV c B mb l:=⟨h.1,(u.below.block mb (ae h.2)).trans h.2⟩
theorem MV.put{w:VO}{B mb:Nat}{l l':List (List UInt8)}(h:MV w B mb l):MV (lE w mb l') B mb l':=by
 refine⟨h.1,?_⟩;have:=ae h.2
 unfold lE;simp[this]
theorem yL(w:VO)(mb:Nat)(l:List (List UInt8)):w.grownBy (lE w mb l) (some mb):=by
 refine⟨rfl,rfl,rfl,by simp[lE],λk hk hne=>?_⟩;unfold lE;simp only;rw[Array.getElem?_setIfInBounds_ne (by intro e;exact hne (by rw[e]))]
theorem uQ(k p:List UInt8):Instr.sameNow .string (.string ⟨k.toArray⟩) (.string ⟨p.toArray⟩)=some (decide (k=p)):=by
 unfold Instr.sameNow;have e:((⟨k.toArray⟩:ByteArray)==⟨p.toArray⟩)=(k.toArray==p.toArray):=rfl;simp only[e];congr 1;rw[Bool.eq_iff_iff];simp
theorem qw(k:List UInt8):∀(l:List (List UInt8)) (n i:Nat),k ∉ l->Instr.findNow .string (.string ⟨k.toArray⟩) (l7 n l) i=some none
 | [],n,i,_=>rfl
 | p :: l,n,i,h=>by
  simp only[List.mem_cons,not_or]at h;simp only[l7,Instr.findNow,uQ,decide_eq_false h.1];exact qw k l _ _ h.2
theorem vr(k:List UInt8):∀(l:List (List UInt8)) (n i:Nat),k∈l->∃j,Instr.findNow .string (.string ⟨k.toArray⟩) (l7 n l) i=some (some (j,.bool true))
 | [],n,i,h=>by cases h
 | p :: l,n,i,h=>by
  by_cases e:k=p
  ·exact⟨i,by simp only[l7,Instr.findNow,uQ,decide_eq_true e]⟩
  obtain⟨j,hj⟩:=vr k l (n+1) (i+1) (by simpa[e]using h);exact⟨j,by simp only[l7,Instr.findNow,uQ,decide_eq_false e];exact hj⟩
theorem JX(w:VO)(B mb:Nat)(l:List (List UInt8))(k:List UInt8)(h:MV w B mb l) :
  (Instr.lookup 115 (.map (some mb)) (VE ⟨k.toArray⟩) false).run Tryz.prog w=.ok (VG (decide (k∈l))) w:=by
 have hm:Tryz.prog.underlying 115=some (.map 9 4):=by kernel_rfl
 have hd:Tryz.prog.underlying 9=some .string:=by kernel_rfl
 have hb:=h.2;have hk:MapKept.IsKey .string (.string ⟨k.toArray⟩):=by simp[MapKept.IsKey]
 have hz:(zeroValue 4).run Tryz.prog w=.ok (VG false) w:=by go_simp
 by_cases hkl:k∈l
 ·obtain⟨j,hf⟩:=vr k l 0 0 hkl;simp[Instr.lookup,run_underlying hm,MapKept.run_getObj_map hb,MapKept.run_checkKey hd hk,MapKept.run_findKey hd hf,Result.andThen,hkl]
 have hf:=qw k l 0 0 hkl;simp[Instr.lookup,run_underlying hm,MapKept.run_getObj_map hb,MapKept.run_checkKey hd hk,MapKept.run_findKey hd hf,hz,Result.andThen,hkl]
theorem JY(w:VO)(B mb:Nat)(l:List (List UInt8))(k:List UInt8)(h:MV w B mb l)(hkl:k ∉ l) :
  (Instr.mapUpdate 115 (.map (some mb)) (VE ⟨k.toArray⟩) (VG true)).run Tryz.prog w=.ok () (lE w mb (l++[k])):=by
 have hm:Tryz.prog.underlying 115=some (.map 9 4):=by kernel_rfl
 have hd:Tryz.prog.underlying 9=some .string:=by kernel_rfl
 have hb:=h.2;have hk:MapKept.IsKey .string (.string ⟨k.toArray⟩):=by simp[MapKept.IsKey]
 have hf:=qw k l 0 0 hkl;simp[Instr.mapUpdate,run_underlying hm,MapKept.run_getObj_map hb,MapKept.run_checkKey hd hk,MapKept.run_findKey hd hf,MapKept.run_setObj_map _ hb,Result.andThen];simp[lE,yu]
end
section
theorem jI(d:ByteArray)(w:VO):Calls Tryz.prog 75 #[VE d] w λe w'=>e=VL (VH (some ⟨w.1.size,0,none⟩))/\w'=w.alloc (.cells #[VE d,VD VJ 0,VF none 0 0] 161):=by
 go_enter Tryz.func75,Tryz.ntmps75;go_wp2;go_ret;exact⟨rfl,rfl⟩
def je(d:ByteArray):List St.Pt × Nat × Int:=St.lG dE d.1.1
def aH(R:List St.Pt × Nat × Int)(w:VO)(e:Ending)(w':VO):Prop:=
 ∃(A:Option Addr) (c:Nat),e=VL (VI #[VF A R.1.length c,VD VJ (R.2.1:Int),VD VJ R.2.2])/\aY w' A R.1/\R.1.length<=c/\c<=9223372036854775807/\ac w w'
theorem aH.err{R:List St.Pt × Nat × Int}{w w':VO}{a:Nat}{er:Int}(h:R=([],a,er))(u:ac w w')(m:Int)(hm:m=a):aH R w (VL (VI #[VF none 0 0,VD VJ m,VD VJ er])) w':=by
 subst h hm;exact⟨none,0,rfl,λh=>absurd h (by simp),by simp,by omega,u⟩
def gW(ps:List St.Pt):List (List UInt8):=ps.filterMap λp=>if p.1 then some p.2.1 else none
theorem ya(ps:List St.Pt)(k:List UInt8):St.gi ps k=decide (k∈gW ps):=by
 rw[Bool.eq_iff_iff];unfold St.gi gW;simp only[List.any_eq_true,Bool.and_eq_true,decide_eq_true_eq,List.mem_filterMap];constructor
 ·rintro ⟨p,hp,h1,h2⟩;exact⟨p,hp,by rw[if_pos h1,h2]⟩
 rintro ⟨p,hp,h⟩
 split at h
 ·rename_i h1;exact⟨p,hp,h1,by simpa using h⟩
 cases h
theorem EL(d:List UInt8)(s:St.PS)(a b:Nat)(k:List UInt8):gW (St.bQ d s a b k).1=gW s.1++[k]:=by
 unfold St.bQ gW;simp
def PO(w:VO)(d:ByteArray)(s3:Value)(wr:VO):Prop:=
 ∃(a fuel:Nat) (s:St.PS),s3=VD VJ a/\a<=d.size/\d.size-a<fuel/\s.2<=a/\s.1.length<=2*a/\PV wr w.1.size w.1.size d s/\MV wr w.1.size (w.1.size+1) (gW s.1)/\je d=St.dP d.1.1 (St.ed dE d.1.1 fuel a s)/\ac w wr
theorem Fo(w:VO)(o p:Obj):ac w ((w.alloc o).alloc p):=uZ
theorem MV.kept{a c:VO}{B mb:Nat}{l:List (List UInt8)}(h:MV a B mb l)(k:mn a c):MV c B mb l:=⟨h.1,k _ _ _ h.2⟩
theorem PV.map{a:VO}{B pb mb:Nat}{d:ByteArray}{s:St.PS}{l l':List (List UInt8)}(h:PV a B pb d s)(hm:MV a B mb l):PV (lE a mb l') B pb d s:=by
 obtain⟨h0,v,h1,h2⟩:=h;have g:=yL a mb l'
 have hne:∀ {cs T fr},a.1[pb]?=some (Obj.cells cs T fr)->pb≠mb:=λhp e=>by
  subst e;rw[hm.2]at hp;cases hp
 refine⟨h0,v,(g.block pb (ae h1) (by simpa using hne h1)).trans h1,h2.kept g ?_⟩;cases hv:v.ownBlock with
 | none=>exact .inl rfl
 | some x=>
  refine .inr λe=>?_
  obtain⟨cs,T,fr,hx,_⟩:=iU h2 [64] (by simp) x hv;simp only[Option.some.injEq]at e;subst e;rw[hm.2]at hx;cases hx
theorem Fu(d:ByteArray)(w:VO)(fe:d.size<=4611686018427387904):Calls Tryz.prog 42 #[VE d] w (aH (je d) w):=by
 have hlen:=St.aD d
 by_cases hbig:65536<d.size
 ·have hR:je d=([],0,3):=by unfold je St.lG;rw[if_pos (by omega)]
  have HR:=aa hR;have hb:(65536:Int)<d.size:=by omega
  clear hR hlen;go_enter Tryz.func42,Tryz.ntmps42;go_wp2;go_ret3;exact aH.err HR.out (ac.refl _) _ rfl
 have hb:¬(65536:Int)<d.size:=by omega
 have hd:d.size<=65536:=by omega
 have hmk:∀W,(Instr.makeMap 115 none).run Tryz.prog W=.ok (.map (some W.1.size)) (W.alloc (.map #[] 0)):=λ_=>rfl
 have kK:PV ((w.alloc (.cells #[VE d,VD VJ 0,VF none 0 0] 161)).alloc (.map #[] 0)) w.1.size w.1.size d ([],0):=
  PV.ah ⟨Nat.le_refl _,VF none 0 0,heap_alloc_new w _,World.ownsRow_nil _ _ _ _⟩ ((ac.refl _).alloc _)
 have QP:MV ((w.alloc (.cells #[VE d,VD VJ 0,VF none 0 0] 161)).alloc (.map #[] 0)) w.1.size (w.1.size+1) (gW []):=by
  refine⟨Nat.le_succ _,?_⟩;have:=heap_alloc_new (w.alloc (.cells #[VE d,VD VJ 0,VF none 0 0] 161)) (.map #[] 0)
  simpa[gW,l7]using this
 have sc:je d=St.dP d.1.1 (St.ed dE d.1.1 (d.size+1) 0 ([],0)):=by
  unfold je;rw[St.sQ (by omega),hlen]
 have jj:=aa (And.intro kK (And.intro QP (And.intro sc (Fo w (.cells #[VE d,VD VJ 0,VF none 0 0] 161) (.map #[] 0)))));have HLEN:=aa hlen;clear kK QP sc hlen;go_enter Tryz.func42,Tryz.ntmps42;go_wp2_with (go_at_call 75;refine(jI d _).mono ?_;rintro e w' ⟨rfl,rfl⟩);go_loopw [3] (λs3 wr=>PO w d s3 wr) (λs3 _=>d.size+1-(intOf s3).toNat)
 case atStart=>exact⟨0,d.size+1,([],0),rfl,by omega,by omega,by simp,by simp,jj.out.1,jj.out.2.1,jj.out.2.2.1,jj.out.2.2.2⟩
 case round=>
  obtain⟨a,fuel,s,rfl,ha,hfu,hs2,hs1,hP,hM,hS,hu⟩:=hrel;have HP:=aa hP;have HM:=aa hM;have HS:=aa hS;have HU:=aa hu;have hsz:=hu.size;clear hP hM hS hu jj
  by_cases hlt:a<d.size
  ·obtain⟨fuel,rfl⟩:∃m,fuel=m+1:=⟨fuel-1,by omega⟩;have eA:=aa (show ¬d.1.1.length<=a by rw[HLEN.out];omega);have z:(a:Int)<d.size:=by omega
   have xC:=aa (CC d a wr ha fe);go_wp2_with fail;refine xC.out.mono ?_;rintro e w2 ⟨rfl,hu2⟩;have aW:=aa (HU.out.trans hu2);have gL:=aa (HP.out.ah hu2);have oH:=aa (HM.out.ah hu2);have kc:=hu2.size;clear hu2 HP HM HU xC;cases hk:St.ez (d.1.1.drop a)with
   | true=>
    have hst:=St.kS (dE:=dE) (fuel:=fuel) (s:=s) eA.out hk;have jG:=HS.out.trans (congrArg (St.dP d.1.1) hst);rw[HLEN.out]at jG;have HST:=aa jG;generalize St.cn (d.1.1.drop a)=n at HST;clear hst jG hk;go_wp2;exact⟨⟨min (a+n+1) d.size,fuel,s,congrArg (VD VJ) (by omega),by omega,by omega,by omega,by omega,gL.out,oH.out,HST.out,aW.out⟩,by simp[intOf];omega⟩
   | false=>
    obtain⟨x,hE⟩:∃x,d.extract a d.size=x:=⟨_,rfl⟩;have hxl:x.1.1=d.1.1.drop a:=by rw[<-hE];simp;exact List.take_of_length_le (by simp)
    have hxs:x.size=d.size-a:=by rw[<-hE];simp
    have oS:=λW=>LH x W (by omega)
    have hkl:=St.Df (d.1.1.drop a);rw[List.length_drop,HLEN.out]at hkl;have hbad:=λh2=>St.qY (dE:=dE) (fuel:=fuel) (s:=s) eA.out hk h2
    have ka:=λh2 h3=>St.qZ (dE:=dE) (fuel:=fuel) (s:=s) eA.out hk h2 h3
    have fM:=λh2 h3 b t hb ht h4=>St.q6 (dE:=dE) (fuel:=fuel) (s:=s) eA.out hk h2 h3 (b:=b) (t:=t) rfl hb ht h4
    have ix:=λh2 h3 b t hb ht h4=>St.o7 (dE:=dE) (fuel:=fuel) (s:=s) eA.out hk h2 h3 (b:=b) (t:=t) rfl hb ht h4
    rw[hxl]at oS;generalize hn:St.bH (d.1.1.drop a)=n at oS hkl hbad ka fM ix;have iy:=aa hbad;have DM:=aa ka;have DN:=aa fM;have ze:=aa ix;have y1:(a:Int)<=d.size:=by omega
    clear hbad ka fM ix hn hxl hk
    by_cases n0:n=0
    ·subst n0;have HR:=aa (HS.out.trans (congrArg (St.dP d.1.1) (iy.out (.inl rfl))));have xw:=aa oS;clear oS;go_wp2_with fail;refine(xw.out _).mono ?_;rintro e w3 ⟨rfl,rfl⟩;go_wp2;go_ret3;exact aH.err HR.out aW.out _ rfl
    by_cases T3:64<n
    ·have yh:min n 65=65:=by omega
     rw[yh]at oS;have HR:=aa (HS.out.trans (congrArg (St.dP d.1.1) (iy.out (.inr (.inl T3)))));have xw:=aa oS;clear oS;go_wp2_with fail;refine(xw.out _).mono ?_;rintro e w3 ⟨rfl,rfl⟩;go_wp2;go_ret3;exact aH.err HR.out aW.out _ rfl
    have yh:min n 65=n:=by omega
    rw[yh]at oS;have xw:=aa oS;have y2:¬(n:Int)<1:=by omega
    have y3:¬(64:Int)<n:=by omega
    clear oS yh
    by_cases Tz:d.size<=a+n
    ·have y4:(d.size:Int)<=(a:Int)+n:=by omega
     have HR:=aa (HS.out.trans (congrArg (St.dP d.1.1) (iy.out (.inr (.inr (by rw[List.drop_of_length_le (by rw[HLEN.out];exact Tz)];simp))))));go_wp2_with fail;refine(xw.out _).mono ?_;rintro e w3 ⟨rfl,rfl⟩;go_wp2;go_ret3;exact aH.err HR.out aW.out _ rfl
    have y4:¬(d.size:Int)<=(a:Int)+n:=by omega
    have hal:a+n<d.size:=by omega
    have y5:((a:Int)+n).toNat=a+n:=by omega
    have aw:=St.drop_at d (a+n) hal
    by_cases vk:d[a+n].toNat=61
    ·have CX:((d[a+n].toNat:Int)==61)=true:=by simp;omega
     have f61:((d[a+n].toNat:Int) != 61)=false:=by simp;omega
     have fT:¬(n=0\/64<n\/((d.1.1.drop (a+n)).head?.map UInt8.toNat)≠some 61):=by rw[aw];simp;omega
     obtain⟨ky,hkyE⟩:∃ky,d.extract a (a+n)=ky:=⟨_,rfl⟩;have hkc:St.be d.1.1 a (a+n)=ky.1.1:=by rw[<-hkyE,dU]
     have hget:=λW (h:MV W w.1.size (w.1.size+1) (gW s.1))=>JX W w.1.size (w.1.size+1) (gW s.1) ky.1.1 h
     rw[aX]at hget;have y6:(a:Int)<=(a:Int)+n:=by omega
     have y7:(a:Int)+n<=d.size:=by omega
     cases hin:decide (ky.1.1∈gW s.1)with
     | true=>
      rw[hin]at hget;have HR:=aa (HS.out.trans (congrArg (St.dP d.1.1) (DM.out fT (by rw[hkc,ya];exact hin))));have hg2:=hget _ oH.out;have HG:=aa hget;clear hget aw vk fT hkc hin;go_wp2_with fail;refine(xw.out _).mono ?_;rintro e w3 ⟨rfl,rfl⟩;go_wp2;go_ret3;exact aH.err HR.out aW.out _ rfl
     | false=>
      rw[hin]at hget;have hkn:ky.1.1 ∉ gW s.1:=of_decide_eq_false hin;have hput:=JY w2 w.1.size (w.1.size+1) (gW s.1) ky.1.1 oH.out hkn;rw[aX]at hput;have hno:St.gi s.1 (St.be d.1.1 a (a+n))=false:=by rw[hkc,ya];exact hin
      have hg2:=hget _ oH.out;have hgb:=yL w2 (w.1.size+1) (gW s.1++[ky.1.1]);have xz:=aa (gL.out.map (l':=gW s.1++[ky.1.1]) oH.out);have MP:=aa (oH.out.put (l':=gW s.1++[ky.1.1]));have ba:=aa (aW.out.tr hgb (λg e=>by cases e;exact Nat.le_succ _));obtain⟨w3,hw3⟩:∃w3,lE w2 (w.1.size+1) (gW s.1++[ky.1.1])=w3:=⟨_,rfl⟩;rw[hw3]at hput xz MP ba;obtain⟨b,hb'⟩:∃b,a+n+1=b:=⟨_,rfl⟩;have hen:=λW=>Lx d b W fe (by omega)
      obtain⟨t,ht⟩:∃t,b+St.eu (d.1.1.drop b)=t:=⟨_,rfl⟩;have htl:t<=d.size:=by have:=St.kI (d.1.1.drop b);simp at this;omega
      have kh:b<=t:=by omega
      rw[ht]at hen;have r8:=DN.out fT hno b t hb' ht;have rp:=ze.out fT hno b t hb' ht;rw[hkc]at rp;obtain⟨x2,hx2⟩:∃x2,d.extract b t=x2:=⟨_,rfl⟩;have hc2:St.be d.1.1 b t=x2.1.1:=by rw[<-hx2,dU]
      rw[hc2,kr]at r8 rp;have EF:x2.size<=d.size:=by rw[<-hx2];simp;omega
      have eK:=λW=>tY x2 W (by omega)
      have mH:=xg x2;have hun:=λW (hp:PV W w.1.size w.1.size d s) (hw:w.1.size<=W.1.size)=>uU W w.1.size w.1.size d ky s b t hp (by omega) kh htl fe (by omega) hw
      have hbz:((b:Nat):Int)=(a:Int)+n+1:=by omega
      have rH:=aa hen;have HH:=aa (And.intro r8 rp);have jm:=aa hun;have b1:(b:Int)<=(t:Int):=by omega
      have b2:(t:Int)<=d.size:=by omega
      generalize iH x2=R at eK HH mH;obtain⟨rf,rc,dS,re⟩:=R;simp only at HH mH;have iL:=aa eK;have SO:=aa (EL d.1.1 s b t ky.1.1);clear hget aw vk fT hkc hin hno hen ht hc2 r8 rp eK hun hgb hw3 hkn;rw[hbz]at rH jm;go_wp2_with fail;refine(xw.out _).mono ?_;rintro e w4 ⟨rfl,rfl⟩;go_wp2_with fail;refine(rH.out _).mono ?_;rintro e w5 ⟨rfl,rfl⟩;go_wp2_with fail;refine(iL.out _).mono ?_;rintro e w6 ⟨A6,c6,rfl,_,_,_,dz⟩;have dO:=aa (ba.out.trans dz);have lK:=aa (xz.out.ah dz);have Qi:=aa (MP.out.ah dz);have AZ:=dO.out.size;clear dz ba xz MP iL hput hg2
      by_cases hre:re=0
      ·subst hre;go_wp2_with fail;refine(jm.out _ lK.out AZ).mono ?_;rintro e w7 ⟨rfl,hp7,hbl7,_,hmk7⟩;have xA:=aa hp7;have SR:=aa (Qi.out.kept hmk7);have iN:=aa (ac.cm (Below.trans dO.out.below hbl7));have jG:=HS.out.trans (congrArg (St.dP d.1.1) (HH.out.2 (by first|trivial|rfl)));rw[HLEN.out]at jG;have HST:=aa jG;clear hp7 hbl7 hmk7 jG jm lK Qi dO;go_wp2;exact⟨⟨min (t+1) d.size,fuel,_,congrArg (VD VJ) (by omega),by omega,by omega,by simp[St.bQ];omega,by simp[St.bQ];omega,xA.out,by rw[SO.out];exact SR.out,HST.out,iN.out⟩,by simp[intOf];omega⟩
      have Db:(re==0)=false:=by simpa using hre
      have HR:=aa (HS.out.trans (congrArg (St.dP d.1.1) (HH.out.1 hre)));go_wp2;go_ret3;exact aH.err HR.out dO.out _ (by omega)
    have CX:((d[a+n].toNat:Int)==61)=false:=by simp;omega
    have f61:((d[a+n].toNat:Int) != 61)=true:=by simp;omega
    have HR:=aa (HS.out.trans (congrArg (St.dP d.1.1) (iy.out (.inr (.inr (by rw[aw];simp;omega))))));clear aw vk;go_wp2_with fail;refine(xw.out _).mono ?_;rintro e w3 ⟨rfl,rfl⟩;go_wp2;go_ret3;exact aH.err HR.out aW.out _ rfl
  have GA:a=d.size:=by omega
  have HL:=aa (uG wr w.1.size w.1.size d s HP.out (by omega) (by omega) (by omega) hsz);have HR:=aa (HS.out.trans (show St.dP d.1.1 (St.ed dE d.1.1 fuel a s)=(St.dt d.1.1 s,0,0)by rw[St.mg (by rw[HLEN.out];omega)];rfl));have z:¬(a:Int)<d.size:=by omega
  go_wp2_with fail;refine HL.out.mono ?_;rintro e w3 ⟨A,c,rfl,kL,hq1,hq2,hbl⟩;have HE:=aa (And.intro kL (ac.cm (Below.trans HU.out.below hbl)));have lY:=aa hq1;clear kL hbl hq1 HL;go_wp2;go_ret3;unfold aH;rw[HR.out];exact⟨A,c,by simp[St.dt],HE.out.1,by simpa[St.dt]using lY.out,hq2,HE.out.2⟩
end
section
end
