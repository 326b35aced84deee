/- Plain: the elements of a resource's raw value, and the pieces that the maker writes. -/
import Derived.Test.YthoemdibbldndaaGreatDoorShelf
import Derived.Test.YthoemdibbldndaaGreatDoorFct
import Derived.Shelf.Strings.SlTrimAscii
import Derived.Lib.IndexBytes
import Derived.BigQuiet
import Derived.IntWalk
import Derived.MapKept
import Derived.Test.YthoemdibbldndaaGreatDoorRefSame
set_option linter.all false
set_option maxHeartbeats 0
set_option maxRecDepth 20000
open Go.Value renaming int->Yh,string->Yi,slice->Yj,bool->Yk,pointer->Yl,tuple->Ym
open Go.IntKind renaming i64->Yn
open Go.Ending renaming returned->Yp
open Go renaming World->Ys
namespace Go.Proofs.YthoemdibbldndaaGreatDoor.St
def mV(d:UInt8):Option UInt8:=
 if d.toNat=110 then some 10 else if d.toNat=116 then some 9 else if d.toNat=115 then some 32 else if d.toNat=114 then some 13 else if d.toNat=92 then some 92 else if d.toNat=123 then some 123 else none
def fR(c:UInt8):Bool:=decide (c.toNat=32\/c.toNat=9)
def dS(l:List UInt8):Nat:=(l.takeWhile fR).length
def LB:List UInt8->El
 | []=>none
 | d :: r'=>if d.toNat=10 then some (0,[],2+dS r')else(mV d).map λe=>(1,[e],2)
def b7:List UInt8->El
 | []=>none
 | c :: r=>
  if c.toNat=10 then none else
  if c.toNat=92 then LB r else
  if c.toNat=123 then(cM (c :: r)).map λx=>(5,x.1,x.2)else some (1,[c],1)
theorem rp{c:UInt8}{r:List UInt8}(h:c.toNat=10):b7 (c :: r)=none:=by rw[b7,if_pos h]
theorem oC{c:UInt8}(h:c.toNat=92):b7 [c]=none:=by rw[b7,if_neg (by omega),if_pos h];rfl
theorem ku{c d:UInt8}{r:List UInt8}(h:c.toNat=92)(h2:d.toNat=10):b7 (c :: d :: r)=some (0,[],2+dS r):=by rw[b7,if_neg (by omega),if_pos h,LB,if_pos h2]
theorem nl{c d:UInt8}{r:List UInt8}(h:c.toNat=92)(h2:d.toNat≠10):b7 (c :: d :: r)=(mV d).map λe=>(1,[e],2):=by rw[b7,if_neg (by omega),if_pos h,LB,if_neg h2]
theorem nk{c:UInt8}{r:List UInt8}(h:c.toNat=123):b7 (c :: r)=(cM (c :: r)).map λx=>(5,x.1,x.2):=by rw[b7,if_neg (by omega),if_neg (by omega),if_pos h]
theorem kv{c:UInt8}{r:List UInt8}(h:c.toNat≠10)(h2:c.toNat≠92)(h3:c.toNat≠123):b7 (c :: r)=some (1,[c],1):=by rw[b7,if_neg h,if_neg h2,if_neg h3]
theorem Ol(l:List UInt8):dS l<=l.length:=(List.takeWhile_prefix _).length_le
theorem Pr{c:UInt8}{r:List UInt8}{k:Int}{t:List UInt8}{n:Nat}(hc:c.toNat=123)(h:(cM (c :: r)).map (λx=>((5:Int),x.1,x.2))=some (k,t,n)):k=5/\1<=n/\n<=(c :: r).length/\t.length<=n:=by
 rcases ru (r:=r) hc with⟨_,hs⟩|⟨m,_,hm,_,hs⟩
 ·rw[hs]at h;cases h
 rw[hs]at h
 split at h
 ·simp only[Option.map_some,Option.some.injEq,Prod.mk.injEq]at h;obtain⟨rfl,rfl,rfl⟩:=h;exact⟨rfl,by omega,by omega,by simp;omega⟩
 cases h
theorem iZ{l:List UInt8}{k:Int}{t:List UInt8}{n:Nat}(h:b7 l=some (k,t,n)):(k=0\/k=1\/k=5)/\1<=n/\n<=l.length/\t.length<=n:=by
 match l,h with
 | c :: r,h=>
  by_cases h10:c.toNat=10
  ·rw[rp h10]at h;cases h
  by_cases hU:c.toNat=92
  ·match r,h with
   | [],h=>rw[oC hU]at h;cases h
   | d :: r',h=>
    by_cases hd:d.toNat=10
    ·rw[ku hU hd]at h;simp only[Option.some.injEq,Prod.mk.injEq]at h;obtain⟨rfl,rfl,rfl⟩:=h;have:=Ol r'
     exact⟨.inl rfl,by omega,by simp;omega,by simp⟩
    rw[nl hU hd]at h;cases he:mV d with
    | none=>rw[he]at h;cases h
    | some e=>
     rw[he]at h;simp only[Option.map_some,Option.some.injEq,Prod.mk.injEq]at h;obtain⟨rfl,rfl,rfl⟩:=h;exact⟨.inr (.inl rfl),by omega,by simp,by simp⟩
  by_cases cV:c.toNat=123
  ·rw[nk cV]at h;obtain⟨rfl,h1,h2,h3⟩:=Pr cV h;exact⟨.inr (.inr rfl),h1,h2,h3⟩
  rw[kv h10 hU cV]at h;simp only[Option.some.injEq,Prod.mk.injEq]at h;obtain⟨rfl,rfl,rfl⟩:=h;exact⟨.inr (.inl rfl),by omega,by simp,by simp⟩
theorem DN:ur b7:=λ_ _ _ _ h=>⟨(iZ h).2.1,(iZ h).2.2.1⟩
end Go.Proofs.YthoemdibbldndaaGreatDoor.St
namespace Go.Proofs.YthoemdibbldndaaGreatDoor.St
def gj(c:UInt8):Bool:=decide ((97<=c.toNat/\c.toNat<=122)\/(48<=c.toNat/\c.toNat<=57)\/c.toNat=46\/c.toNat=95\/c.toNat=45)
def bI(l:List UInt8):Nat:=(l.takeWhile gj).length
def ck(l:List UInt8):Nat:=(l.takeWhile (λc=>decide (c.toNat≠10))).length
def dk:List UInt8->Nat
 | []=>0
 | c :: r=>if c.toNat=10 then 0 else if c.toNat=92 then(match r with
   | []=>1
   | _ :: r'=>2+dk r')else 1+dk r
def dQ(l:List UInt8):Bool:=match l.dropWhile fR with
 | []=>true
 | c :: _=>decide (c.toNat=10\/c.toNat=35)
def eC(ps:List Pt)(k:List UInt8):Bool:=ps.any λp=>p.1&&decide (p.2.1=k)
def de(dE:List UInt8->Nat × Int)(d:List UInt8):Nat->Nat->PS->Except (Nat × Int) PS
 | 0,_,s=>.ok s
 | fuel+1,a,s=>
  if d.length<=a then .ok s else
  if dQ (d.drop a)then de dE d fuel (a+ck (d.drop a)+1) s else
  let n:=bI (d.drop a)
  if n=0\/64<n\/((d.drop (a+n)).head?.map UInt8.toNat)≠some 61 then .error (a,2)else
  if eC s.1 (a6 d a (a+n))then .error (a,5)else
  let to:=a+n+1+dk (d.drop (a+n+1))
  if(dE (a6 d (a+n+1) to)).2≠0 then .error (a+n+1+(dE (a6 d (a+n+1) to)).1,(dE (a6 d (a+n+1) to)).2)else
  de dE d fuel (to+1) (bi d s (a+n+1) to (a6 d a (a+n)))
def lc(dE:List UInt8->Nat × Int)(d:List UInt8):List Pt × Nat × Int:=
 if 65536<d.length then([],0,3)else
 match de dE d (d.length+1) 0 ([],0)with
 | .error (a,e)=>([],a,e)
 | .ok s=>(cI d s,0,0)
def dP(d:List UInt8):Except (Nat × Int) PS->List Pt × Nat × Int
 | .error (a,e)=>([],a,e)
 | .ok s=>(cI d s,0,0)
theorem qj{dE:List UInt8->Nat × Int}{d:List UInt8}(h:¬65536<d.length):lc dE d=dP d (de dE d (d.length+1) 0 ([],0)):=by
 rw[lc,if_neg h];cases de dE d (d.length+1) 0 ([],0)<;>rfl
section
variable {dE:List UInt8->Nat × Int} {d:List UInt8} {fuel a:Nat} {s:PS}
theorem lA(h:d.length<=a):de dE d fuel a s=.ok s:=by
 cases fuel with
 | zero=>rfl
 | succ f=>rw[de,if_pos h]
theorem lB(e:Nat):de dE d fuel e s=de dE d fuel (min e d.length) s:=by
 by_cases h:e<=d.length
 ·rw[Nat.min_eq_left h]
 rw[lA (by omega),lA (by omega)]
theorem kt(h:¬d.length<=a)(h1:dQ (d.drop a)=true):de dE d (fuel+1) a s=de dE d fuel (min (a+ck (d.drop a)+1) d.length) s:=by
 rw[de,if_neg h,if_pos h1,lB]
theorem si(h:¬d.length<=a)(h1:dQ (d.drop a)=false)(h2:bI (d.drop a)=0\/64<bI (d.drop a)\/((d.drop (a+bI (d.drop a))).head?.map UInt8.toNat)≠some 61):de dE d (fuel+1) a s=.error (a,2):=by
 rw[de,if_neg h,if_neg (by rw[h1];decide)];simp only[];rw[if_pos h2]
theorem sj(h:¬d.length<=a)(h1:dQ (d.drop a)=false)(h2:¬(bI (d.drop a)=0\/64<bI (d.drop a)\/((d.drop (a+bI (d.drop a))).head?.map UInt8.toNat)≠some 61))(h3:eC s.1 (a6 d a (a+bI (d.drop a)))=true):de dE d (fuel+1) a s=.error (a,5):=by
 rw[de,if_neg h,if_neg (by rw[h1];decide)];simp only[];rw[if_neg h2,if_pos h3]
theorem sk(h:¬d.length<=a)(h1:dQ (d.drop a)=false)(h2:¬(bI (d.drop a)=0\/64<bI (d.drop a)\/((d.drop (a+bI (d.drop a))).head?.map UInt8.toNat)≠some 61))(h3:eC s.1 (a6 d a (a+bI (d.drop a)))=false)
  {n b t:Nat} (hn:bI (d.drop a)=n) (hb:a+n+1=b) (ht:b+dk (d.drop b)=t) (h4:(dE (a6 d b t)).2≠0):de dE d (fuel+1) a s=.error (b+(dE (a6 d b t)).1,(dE (a6 d b t)).2):=by
 subst hn hb ht;rw[de,if_neg h,if_neg (by rw[h1];decide)];simp only[];rw[if_neg h2,if_neg (by rw[h3];decide),if_pos h4]
theorem nS(h:¬d.length<=a)(h1:dQ (d.drop a)=false)(h2:¬(bI (d.drop a)=0\/64<bI (d.drop a)\/((d.drop (a+bI (d.drop a))).head?.map UInt8.toNat)≠some 61))(h3:eC s.1 (a6 d a (a+bI (d.drop a)))=false)
  {n b t:Nat} (hn:bI (d.drop a)=n) (hb:a+n+1=b) (ht:b+dk (d.drop b)=t) (h4:(dE (a6 d b t)).2=0):de dE d (fuel+1) a s=de dE d fuel (min (t+1) d.length) (bi d s b t (a6 d a (a+n))):=by
 subst hn hb ht;rw[de,if_neg h,if_neg (by rw[h1];decide)];simp only[];rw[if_neg h2,if_neg (by rw[h3];decide),if_neg (by rw[h4];decide),lB]
end
theorem FC(l:List UInt8):bI l<=l.length:=(List.takeWhile_prefix _).length_le
theorem lr(l:List UInt8):ck l<=l.length:=(List.takeWhile_prefix _).length_le
theorem lG:∀l:List UInt8,dk l<=l.length
 | []=>by simp[dk]
 | [c]=>by unfold dk;split;simp;split<;>simp[dk]
 | c :: x :: r=>by
  unfold dk;have h1:=lG r;have h2:=lG (x :: r)
  split
  ·simp
  split
  ·simp;omega
  simp at h2 |-;omega
end Go.Proofs.YthoemdibbldndaaGreatDoor.St
namespace Go.Proofs.YthoemdibbldndaaGreatDoor
open Go.RowKit
section
abbrev ig:TypeId:=129
instance:vi ig:=⟨by decide⟩
def pt(d:Nat):List Value:=[Yh Yn d,Yh Yn d]
theorem BV.WH{w:Ys}{B b:Nat}{v0 v1 v2 x y u:Value}{ah:List St.It}{tx:List UInt8}{cuts:List Nat}(h:BV ig [x,y] w B b v0 v1 v2 ah tx cuts):BV ig [u,y] (w.setCell ⟨b,3,none⟩ u) B b v0 v1 v2 ah tx cuts:=by
 obtain⟨h0,h1,h2,h3,h4⟩:=h;exact⟨h0,heap_setCell_same w b 3 _ _ u h1,aD h2 (aT h2 h1 (by decide)),aD h3 (aT h3 h1 (by decide)),aD h4 (aT h4 h1 (by decide))⟩
theorem BV.WI{w:Ys}{B b:Nat}{v0 v1 v2 x y u:Value}{ah:List St.It}{tx:List UInt8}{cuts:List Nat}(h:BV ig [x,y] w B b v0 v1 v2 ah tx cuts):BV ig [x,u] (w.setCell ⟨b,4,none⟩ u) B b v0 v1 v2 ah tx cuts:=by
 obtain⟨h0,h1,h2,h3,h4⟩:=h;exact⟨h0,heap_setCell_same w b 4 _ _ u h1,aD h2 (aT h2 h1 (by decide)),aD h3 (aT h3 h1 (by decide)),aD h4 (aT h4 h1 (by decide))⟩
theorem b8.mo{w:Ys}{B b d:Nat}{ah:List St.It}{tx:List UInt8}{cuts:List Nat}(h:b8 ig (pt d) w B b ah tx cuts)(n:Nat)(m m2:Int)(hm:m=n)(hm2:m2=n):b8 ig (pt n) ((w.setCell ⟨b,3,none⟩ (Yh Yn m)).setCell ⟨b,4,none⟩ (Yh Yn m2)) B b ah tx cuts:=by
 subst hm hm2;obtain⟨v0,v1,v2,h⟩:=h;exact⟨v0,v1,v2,(BV.WI (BV.WH h))⟩
theorem b8.at{d:Nat}{w:Ys}{B b:Nat}{ah:List St.It}{tx:List UInt8}{cuts:List Nat}(h:b8 ig (pt d) w B b ah tx cuts):w.cell? ⟨b,3,none⟩=some (Yh Yn d)/\w.cell? ⟨b,4,none⟩=some (Yh Yn d)/\w.frozen? ⟨b,3,none⟩=false/\w.frozen? ⟨b,4,none⟩=false/\b<w.1.size/\B<=b:=by
 obtain⟨v0,v1,v2,h⟩:=h;have hb:=h.2.1;exact⟨aj hb 3,aj hb 4,bz hb 3,bz hb 4,ae hb,h.1⟩
def oL(w:Ys)(B b:Nat)(ah:List St.It)(tx:List UInt8)(cuts:List Nat)(d:Nat)(l:List UInt8)(a:Nat)(e:Ending)(w':Ys):Prop:=
 Below B w w'/\match St.b7 l with
  | none=>e=Yp (Ym #[Yh Yn a,Yh Yn 2])
  | some (k,t,n)=>if k=0 then e=Yp (Ym #[Yh Yn ((a+n:Nat):Int),Yh Yn 0])/\b8 ig (pt d) w' B b ah tx cuts else
    if 512<(St.aL (ah++St.ch tx) (k,t,0)).length\/1024<=cuts.length then e=Yp (Ym #[Yh Yn a,Yh Yn 3])else
    e=Yp (Ym #[Yh Yn ((a+n:Nat):Int),Yh Yn 0])/\∃fD jB,b8 ig (pt (a+n)) w' B b fD jB (cuts++[d])/\St.fG fD/\fD++St.ch jB=St.aL (ah++St.ch tx) (k,t,0)/\jB.length<=cuts.length+1
section
variable {w:Ys} {B b:Nat} {ah:List St.It} {tx:List UInt8} {cuts:List Nat} {d:Nat} {l:List UInt8} {a:Nat} {w':Ys}
theorem rn(h:St.b7 l=none)(hb:Below B w w'):oL w B b ah tx cuts d l a (Yp (Ym #[Yh Yn a,Yh Yn 2])) w':=by
 refine⟨hb,?_⟩;rw[h]
theorem DJ{n:Nat}(h:St.b7 l=some (0,[],n))(hb:Below B w w')(hB:b8 ig (pt d) w' B b ah tx cuts)(m:Int)(hm:m=((a+n:Nat):Int)):oL w B b ah tx cuts d l a (Yp (Ym #[Yh Yn m,Yh Yn 0])) w':=by
 subst hm;refine⟨hb,?_⟩;rw[h];exact⟨rfl,hB⟩
theorem DK{n:Nat}{c:UInt8}(h:St.b7 l=some (1,[c],n))(hN:St.fG ah)(hf:St.aU ah.length tx.length cuts.length true=true)(hb:Below B w w') :
  oL w B b ah tx cuts d l a (Yp (Ym #[Yh Yn a,Yh Yn 3])) w':=by
 refine⟨hb,?_⟩;rw[h];simp only;rw[if_neg (by decide),if_pos ((St.lH hN c cuts.length).2 hf)];trivial
theorem DI{n:Nat}{c:UInt8}(h:St.b7 l=some (1,[c],n))(hN:St.fG ah)(hf:St.aU ah.length tx.length cuts.length true=false)(hb:Below B w w')
  (hB:b8 ig (pt (a+n)) w' B b ah (tx++[c]) (cuts++[d])) (ht:tx.length<=cuts.length) (m:Int) (hm:m=((a+n:Nat):Int)):oL w B b ah tx cuts d l a (Yp (Ym #[Yh Yn m,Yh Yn 0])) w':=by
 refine⟨hb,?_⟩;rw[h];simp only;rw[if_neg (by decide),if_neg (λh2=>by rw[(St.lH hN c cuts.length).1 h2]at hf;cases hf),hm];exact⟨rfl,ah,tx++[c],hB,hN,(St.rD hN c).symm,by simp;omega⟩
theorem Ku{n:Nat}{t:List UInt8}(h:St.b7 l=some (5,t,n))(hf:St.aU ah.length tx.length cuts.length false=true)(hb:Below B w w') :
  oL w B b ah tx cuts d l a (Yp (Ym #[Yh Yn a,Yh Yn 3])) w':=by
 refine⟨hb,?_⟩;rw[h];simp only;rw[if_neg (by decide),if_pos ((St.j8 5 t cuts.length (by decide)).2 hf)];trivial
theorem MB{n:Nat}{t:List UInt8}(h:St.b7 l=some (5,t,n))(hf:St.aU ah.length tx.length cuts.length false=false)(hb:Below B w w')
  (hB:b8 ig (pt (a+n)) w' B b (ah++St.ch tx++[(5,t,0)]) [] (cuts++[d])) (m:Int) (hm:m=((a+n:Nat):Int)):oL w B b ah tx cuts d l a (Yp (Ym #[Yh Yn m,Yh Yn 0])) w':=by
 refine⟨hb,?_⟩;rw[h];simp only;rw[if_neg (by decide),if_neg (λh2=>by rw[(St.j8 5 t cuts.length (by decide)).1 h2]at hf;cases hf),hm];exact⟨rfl,_,[],hB,St.mv _ 5 t 0 (by decide),by rw[St.rE 5 t (by decide)];simp[St.ch],by simp⟩
end
def qz(d:UInt8):Value:=match St.mV d with
 | some c=>Ym #[Yh .u8 (c.toNat:Int),Yk true]
 | none=>Ym #[Yh .u8 0,Yk false]
theorem GL(d:UInt8)(w:Ys):Calls Tryz.prog 161 #[Yh .u8 (d.toNat:Int)] w λe w'=>e=Yp (qz d)/\w=w':=by
 have hd:=d.toNat_lt;rcases(show d.toNat=110\/d.toNat=116\/d.toNat=115\/d.toNat=114\/d.toNat=92\/d.toNat=123\/(d.toNat≠110/\d.toNat≠116/\d.toNat≠115/\d.toNat≠114/\d.toNat≠92/\d.toNat≠123)by omega)with h|h|h|h|h|h|⟨h1,h2,h3,h4,h5,h6⟩
 ·obtain rfl:d=(110:UInt8):=by apply UInt8.toNat_inj.1;simpa using h
  have hv:qz 110=Ym #[Yh .u8 10,Yk true]:=rfl;rw[hv]
  show Calls Tryz.prog 161 #[Yh .u8 110] w _
  clear hv h hd;go_enter Tryz.func161,Tryz.ntmps161;go_wp2;go_ret2;exact⟨rfl,rfl⟩
 ·obtain rfl:d=(116:UInt8):=by apply UInt8.toNat_inj.1;simpa using h
  have hv:qz 116=Ym #[Yh .u8 9,Yk true]:=rfl;rw[hv]
  show Calls Tryz.prog 161 #[Yh .u8 116] w _
  clear hv h hd;go_enter Tryz.func161,Tryz.ntmps161;go_wp2;go_ret2;exact⟨rfl,rfl⟩
 ·obtain rfl:d=(115:UInt8):=by apply UInt8.toNat_inj.1;simpa using h
  have hv:qz 115=Ym #[Yh .u8 32,Yk true]:=rfl;rw[hv]
  show Calls Tryz.prog 161 #[Yh .u8 115] w _
  clear hv h hd;go_enter Tryz.func161,Tryz.ntmps161;go_wp2;go_ret2;exact⟨rfl,rfl⟩
 ·obtain rfl:d=(114:UInt8):=by apply UInt8.toNat_inj.1;simpa using h
  have hv:qz 114=Ym #[Yh .u8 13,Yk true]:=rfl;rw[hv]
  show Calls Tryz.prog 161 #[Yh .u8 114] w _
  clear hv h hd;go_enter Tryz.func161,Tryz.ntmps161;go_wp2;go_ret2;exact⟨rfl,rfl⟩
 ·obtain rfl:d=(92:UInt8):=by apply UInt8.toNat_inj.1;simpa using h
  have hv:qz 92=Ym #[Yh .u8 92,Yk true]:=rfl;rw[hv]
  show Calls Tryz.prog 161 #[Yh .u8 92] w _
  clear hv h hd;go_enter Tryz.func161,Tryz.ntmps161;go_wp2;go_ret2;exact⟨rfl,rfl⟩
 ·obtain rfl:d=(123:UInt8):=by apply UInt8.toNat_inj.1;simpa using h
  have hv:qz 123=Ym #[Yh .u8 123,Yk true]:=rfl;rw[hv]
  show Calls Tryz.prog 161 #[Yh .u8 123] w _
  clear hv h hd;go_enter Tryz.func161,Tryz.ntmps161;go_wp2;go_ret2;exact⟨rfl,rfl⟩
 have hv:qz d=Ym #[Yh .u8 0,Yk false]:=by unfold qz St.mV;simp[h1,h2,h3,h4,h5,h6]
 rw[hv];have e1:((d.toNat:Int)==110)=false:=by simp;omega
 have e2:((d.toNat:Int)==116)=false:=by simp;omega
 have e3:((d.toNat:Int)==115)=false:=by simp;omega
 have e4:((d.toNat:Int)==114)=false:=by simp;omega
 have e5:((d.toNat:Int)==92)=false:=by simp;omega
 have e6:((d.toNat:Int)==123)=false:=by simp;omega
 clear hv h1 h2 h3 h4 h5 h6 hd;go_enter Tryz.func161,Tryz.ntmps161;go_wp2;go_ret2;exact⟨rfl,rfl⟩
end
section
theorem nA{P:Program}{ops:Array Oper}{o:Oper}{a:Act}{w:Ys}{K:Act->Ys->Prop}{Q:Exit->Act->Ys->Prop}{E:Prop}
  (hg:o.guard=none) (f:FuncId) (args:Array Value) (Post:Ending->Ys->Prop) (hc:Calls P f args w Post)
  (hrun:(execOp a.eval o).run P w=.ok (.enter f args) w) (hK:∀e w',Post e w'->∃v,e=Yp v/\K (a.put o.dst v) w') :
  if Region.wanted o (yielded ops a.tmps)=true then Oper.wp P o a w K Q else E:=by
 have hw:Region.wanted o (yielded ops a.tmps)=true:=by simp[Region.wanted,hg]
 rw[if_pos hw];unfold Oper.wp;rw[hrun];refine hc.mono ?_;intro e w' h;obtain⟨v,rfl,hk⟩:=hK e w' h;exact hk
theorem I6(c:UInt8)(w:Ys):Calls Tryz.prog 160 #[Yh .u8 (c.toNat:Int)] w λe w'=>e=Yp (Yk (St.fR c))/\w=w':=by
 by_cases h:c.toNat=32
 ·have hb:St.fR c=true:=decide_eq_true (Or.inl h);have e1:((c.toNat:Int)==32)=true:=by simp;omega
  rw[hb];clear h hb;go_enter Tryz.func160,Tryz.ntmps160;go_wp2;go_ret;exact⟨rfl,rfl⟩
 have e1:((c.toNat:Int)==32)=false:=by simp;omega
 have hb:St.fR c=((c.toNat:Int)==9):=by
  unfold St.fR;rw[Bool.eq_iff_iff];simp;omega
 rw[hb];cases hq:((c.toNat:Int)==9)
 all_goals
  clear h hb;go_enter Tryz.func160,Tryz.ntmps160;go_wp2;go_ret;exact⟨rfl,rfl⟩
def Se(w:Ys)(raw:ByteArray)(a:Nat)(db:Value)(wr:Ys):Prop:=∃k:Nat,db=Yh Yn k/\a+2<=k/\k<=raw.size/\a+2+St.dS (raw.1.1.drop (a+2))=k+St.dS (raw.1.1.drop k)/\wr=w
theorem kV(w:Ys)(B b:Nat)(ah:List St.It)(tx:List UInt8)(cuts:List Nat)(d:Nat)(raw:ByteArray)(a:Nat)(h:b8 ig (pt d) w B b ah tx cuts)(hN:St.fG ah)(h1:ah.length<=512)(h2:cuts.length<=1024)(h3:tx.length<=cuts.length)(hBw:B<=w.1.size)
  (ha:a<raw.size) (hr:raw.size<=4611686018427387904) :
  Calls Tryz.prog 120 #[Yl (some ⟨b,0,none⟩),Yi raw,Yh Yn a] w (oL w B b ah tx cuts d (raw.1.1.drop a) a):=by
 obtain⟨s,hE⟩:∃s,raw.extract a raw.size=s:=⟨_,rfl⟩;have hsz:s.size=raw.size-a:=by rw[<-hE];simp
 have hs0:0<s.size:=by omega
 have hl:s.1.1=raw.1.1.drop a:=by rw[<-hE];simp;exact List.take_of_length_le (by simp)
 have hcr:s.1.1=s[0] :: s.1.1.drop 1:=St.fB s hs0;have ha1:(a:Int)<=raw.size:=by omega
 have ha2:¬raw.size<a:=by omega
 have hN':=aa hN;obtain⟨g3,g4,gf3,gf4,hblt,hBb0⟩:=h.at;haveI:af b w:=af.of hblt;have mF:=aa (show Below B w w.drew from(Below.refl B w).drew);have QZ:=aa (λc=>oN w.drew B b ah tx cuts c d (h.ai (ac.refl w).drew) (by omega) (by omega) (by omega) (by simpa using hBw));have U1:=aa (λx=>lp w.drew B b ah tx cuts 5 0 x d (h.ai (ac.refl w).drew) (by omega) (by omega) (by omega) (by simpa using hBw));have H:=aa h;clear h hN
 by_cases bH:s[0].toNat=10
 ·have bm:=aa (St.rp (r:=s.1.1.drop 1) bH);rw[<-hcr,hl]at bm;have e10:((s[0].toNat:Int)==10)=true:=by simp;omega
  clear hcr hl;go_enter Tryz.func120,Tryz.ntmps120;go_wp2;go_ret2;exact rn bm.out (Below.refl _ _)
 have e10:((s[0].toNat:Int)==10)=false:=by simp;omega
 by_cases iL:s[0].toNat=92
 ·have zV:((s[0].toNat:Int)==92)=true:=by simp;omega
  by_cases z1:s.size=1
  ·have hnil:s.1.1.drop 1=[]:=List.drop_of_length_le (by simp;omega);have hsl:=St.oC iL;rw[hnil]at hcr;rw[<-hcr,hl]at hsl;have bm:=aa hsl;have y1:¬(1:Int)<s.size:=by omega
   have y2:(s.size:Int)<2:=by omega
   clear hcr hl hnil hsl;go_enter Tryz.func120,Tryz.ntmps120;go_wp2;go_ret2;exact rn bm.out (Below.refl _ _)
  have hs1:1<s.size:=by omega
  have vy:s.1.1.drop 1=s[1] :: s.1.1.drop 2:=St.drop_at s 1 hs1;have y1:(1:Int)<s.size:=by omega
  have y2:¬(s.size:Int)<2:=by omega
  rw[vy]at hcr
  by_cases d10:s[1].toNat=10
  ·have f10:((s[1].toNat:Int)==10)=true:=by simp;omega
   have hsl:=St.ku (r:=s.1.1.drop 2) iL d10;rw[<-hcr,hl]at hsl;have hdd:(raw.1.1.drop a).drop 2=raw.1.1.drop (a+2):=by rw[List.drop_drop]
   rw[hdd]at hsl;have bm:=aa hsl;have hrs:a+2<=raw.size:=by omega
   clear hcr vy hl hdd hsl;go_enter Tryz.func120,Tryz.ntmps120;go_wp2_with fail;go_loopw [10] (λdb wr=>Se w raw a db wr) (λdb _=>raw.size-(intOf db).toNat)
   case atStart=>exact⟨a+2,congrArg (Yh Yn) (by omega),by omega,hrs,rfl,rfl⟩
   case round=>
    obtain⟨k,rfl,hk1,hk2,hk3,rfl⟩:=hrel;have HK:=aa hk3;clear hk3
    by_cases hlt:k<raw.size
    ·have z:(k:Int)<raw.size:=by omega
     have av:=St.drop_at raw k hlt;have hbk:=λW=>I6 raw[k] W
     cases hq:St.fR raw[k]
     ·have hn:St.dS (raw.1.1.drop k)=0:=by rw[av];unfold St.dS;rw[List.takeWhile_cons_of_neg (by simp[hq])];rfl
      rw[hq]at hbk;have jK:=aa hbk;have HE:=aa (show a+2+St.dS (raw.1.1.drop (a+2))=k by rw[HK.out,hn];omega);clear av hbk hq hn;go_wp2_with (go_at_call 160;refine(jK.out _).mono ?_;rintro e w' ⟨rfl,rfl⟩);go_ret2;exact DJ bm.out (Below.refl _ _) H.out _ (by have:=HE.out;omega)
     have hn:St.dS (raw.1.1.drop k)=1+St.dS (raw.1.1.drop (k+1)):=by rw[av];unfold St.dS;rw[List.takeWhile_cons_of_pos hq];simp;omega
     rw[hq]at hbk;have jK:=aa hbk;have HE:=aa hn;clear av hbk hq hn;go_wp2_with (go_at_call 160;refine(jK.out _).mono ?_;rintro e w' ⟨rfl,rfl⟩);exact⟨⟨k+1,congrArg (Yh Yn) (by omega),by omega,by omega,by rw[HK.out,HE.out];omega,rfl⟩,by simp[intOf];omega⟩
    obtain rfl:k=raw.size:=by omega
    have hn:St.dS (raw.1.1.drop raw.size)=0:=by rw[List.drop_of_length_le (by simp)];rfl
    have HE:=aa (show a+2+St.dS (raw.1.1.drop (a+2))=raw.size by rw[HK.out,hn];omega);clear hn hlt;go_wp2;go_ret2;exact DJ bm.out (Below.refl _ _) H.out _ (by have:=HE.out;omega)
  have f10:((s[1].toNat:Int)==10)=false:=by simp;omega
  have hsl:=St.nl (r:=s.1.1.drop 2) iL d10;rw[<-hcr,hl]at hsl;have dL:=λW=>GL s[1] W
  unfold qz at dL;cases hq:St.mV s[1]with
  | none=>
   rw[hq]at hsl dL;have bm:=aa hsl;have sW:=aa dL;clear hcr vy hl hsl dL hq;go_enter Tryz.func120,Tryz.ntmps120;go_wp2_with (go_at_call 161;refine(sW.out _).mono ?_;rintro e w' ⟨rfl,rfl⟩);go_ret2;exact rn bm.out (Below.refl _ _)
  | some c=>
   rw[hq]at hsl dL;simp only[Option.map_some]at hsl;have bm:=aa hsl;have sW:=aa dL;have BP:=aa (QZ.out c);clear hcr vy hl hsl dL hq;go_enter Tryz.func120,Tryz.ntmps120;go_wp2_with (go_at_call 161;refine(sW.out _).mono ?_;rintro e w' ⟨rfl,rfl⟩);refine bU (λ_ _=>True) (λL W=>if L 8=true then(St.aU ah.length tx.length cuts.length true=false->b8 ig (pt d) W B b ah (tx++[c]) (cuts++[d]))/\Below B w.drew W else W=w.drew) ([λv _=>v=Yl (some ⟨b,0,none⟩),λv _=>v=Yl (some ⟨b,0,none⟩),λv _=>v=Yl (some ⟨b,0,none⟩),λv _=>v=Yh .u8 (c.toNat:Int),λv _=>v=Yl (some ⟨b,0,none⟩),λv _=>v=Yl (some ⟨b,0,none⟩),λv _=>v=Yl (some ⟨b,3,none⟩),λv _=>v=Yh Yn d,λv _=>v=Yk (!St.aU ah.length tx.length cuts.length true),λv _=>v=Yh Yn a,λv _=>v=Yh Yn ((a:Int)+2),λv _=>v=Yk (!St.aU ah.length tx.length cuts.length true),λv _=>v=Yh Yn ((a:Int)+2)]) (λ_=>trivial) (λ_ _ _ _ _=>trivial) (by kernel_rfl) (by rfl) (by kernel_rfl) (by kernel_rfl) ?frA ?hfrA ?hIA ?hobA ?hendA
   case hfrA=>
    intro ρ;simp only[bZ,Act.put,ax,aw,ay,Nat.zero_add,Nat.reduceAdd];exact rfl
   case hIA=>simp
   case hobA=>
    refine aq.cons (λρ L W hR hI hL hD hO hF K hK=>?_) ?_
    ·clear hF hD hO hR;simp only[Act.put,ax,aw,ay]at hK |-;go_simp;refine hK _ _ trivial (by simpa[ar]using hI) (λ_ _=>?_);rfl
    refine aq.cons (λρ L W hR hI hL hD hO hF K hK=>?_) ?_
    ·have f0:=ag hF (j:=0) (by decide);clear hF hD hO hR;simp only[Act.put,ax,aw,ay]at hK |-;have e0:ρ 0=Yl (some ⟨b,0,none⟩):=f0;rw[e0]at hK |-;go_simp;refine hK _ _ trivial (by simpa[ar]using hI) (λ_ _=>?_);rfl
    refine aq.cons (λρ L W hR hI hL hD hO hF K hK=>?_) ?_
    ·have f1:=ag hF (j:=1) (by decide);clear hF hD hO hR;simp only[Act.put,ax,aw,ay]at hK |-;have e1:ρ 1=Yl (some ⟨b,0,none⟩):=f1;rw[e1]at hK |-;go_simp;refine hK _ _ trivial (by simpa[ar]using hI) (λ_ _=>?_);rfl
    refine aq.cons (λρ L W hR hI hL hD hO hF K hK=>?_) ?_
    ·clear hF hD hO hR;simp only[Act.put,ax,aw,ay]at hK |-;go_simp;refine hK _ _ trivial (by simpa[ar]using hI) (λ_ _=>?_);rfl
    refine aq.cons (λρ L W hR hI hL hD hO hF K hK=>?_) ?_
    ·clear hF hD hO hR;simp only[Act.put,ax,aw,ay]at hK |-;go_simp;refine hK _ _ trivial (by simpa[ar]using hI) (λ_ _=>?_);rfl
    refine aq.cons (λρ L W hR hI hL hD hO hF K hK=>?_) ?_
    ·have f4:=ag hF (j:=4) (by decide);clear hF hD hO hR;simp only[Act.put,ax,aw,ay]at hK |-;have e4:ρ 4=Yl (some ⟨b,0,none⟩):=f4;rw[e4]at hK |-;go_simp;refine hK _ _ trivial (by simpa[ar]using hI) (λ_ _=>?_);rfl
    refine aq.cons (λρ L W hR hI hL hD hO hF K hK=>?_) ?_
    ·have f5:=ag hF (j:=5) (by decide);clear hF hD hO hR;simp only[Act.put,ax,aw,ay]at hK |-;have e5:ρ 5=Yl (some ⟨b,0,none⟩):=f5;rw[e5]at hK |-;go_simp;refine hK _ _ trivial (by simpa[ar]using hI) (λ_ _=>?_);rfl
    refine aq.cons (λρ L W hR hI hL hD hO hF K hK=>?_) ?_
    ·have f6:=ag hF (j:=6) (by decide);have j9:L 8=false:=hD.not (p:=8) rfl (by decide) hL;rw[if_neg (by rw[j9];decide)]at hI;subst hI;clear hF hD hO hR;simp only[Act.put,ax,aw,ay]at hK |-;have e6:ρ 6=Yl (some ⟨b,3,none⟩):=f6;rw[e6]at hK |-;go_simp;refine hK _ _ trivial (by simp[ar,j9]) (λ_ _=>?_);rfl
    refine aq.cons (λρ L W hR hI hL hD hO hF K hK=>?_) ?_
    ·have f2:=ag hF (j:=2) (by decide);have f3:=ag hF (j:=3) (by decide);have f7:=ag hF (j:=7) (by decide);rw[if_neg (by rw[hL];decide)]at hI;subst hI;clear hF hD hO hR;simp only[Act.put,ax,aw,ay]at hK |-;have e2:ρ 2=Yl (some ⟨b,0,none⟩):=f2;have e3:ρ 3=Yh .u8 (c.toNat:Int):=f3;have e7:ρ 7=Yh Yn d:=f7;rw[e2,e3,e7]at hK |-;refine nA (o:=⟨some 88,_,_,_,_,_⟩) rfl 162 #[Yl (some ⟨b,0,none⟩),Yh .u8 c.toNat,Yh Yn d] _ BP.out ?_ ?_
     ·go_simp
     rintro e W2 ⟨rfl,h1,h2⟩;exact⟨_,rfl,hK _ _ trivial (by simp only[ar,if_true];exact⟨h1,h2⟩) (λ_ _=>rfl)⟩
    refine aq.cons (λρ L W hR hI hL hD hO hF K hK=>?_) ?_
    ·clear hF hD hO hR;simp only[Act.put,ax,aw,ay]at hK |-;go_simp;refine hK _ _ trivial (by simpa[ar]using hI) (λ_ _=>?_);rfl
    refine aq.cons (λρ L W hR hI hL hD hO hF K hK=>?_) ?_
    ·have f9:=ag hF (j:=9) (by decide);clear hF hD hO hR;simp only[Act.put,ax,aw,ay]at hK |-;have e9:ρ 9=Yh Yn a:=f9;rw[e9]at hK |-;go_simp;refine hK _ _ trivial (by simpa[ar]using hI) (λ_ _=>?_);exact congrArg (Yh Yn) ((IntWalk.i64_in _ (by omega)).trans (by omega))
    refine aq.cons (λρ L W hR hI hL hD hO hF K hK=>?_) ?_
    ·have f8:=ag hF (j:=8) (by decide);clear hF hD hO hR;simp only[Act.put,ax,aw,ay]at hK |-;have e8:ρ 8=Yk (!St.aU ah.length tx.length cuts.length true):=f8;rw[e8]at hK |-;go_simp;refine hK _ _ trivial (by simpa[ar]using hI) (λ_ _=>?_);rfl
    refine aq.cons (λρ L W hR hI hL hD hO hF K hK=>?_) ?_
    ·have f10:=ag hF (j:=10) (by decide);clear hF hD hO hR;simp only[Act.put,ax,aw,ay]at hK |-;have e10:ρ 10=Yh Yn ((a:Int)+2):=f10;rw[e10]at hK |-;go_simp;refine hK _ _ trivial (by simpa[ar]using hI) (λ_ _=>?_);rfl
    exact aq.nil
   case hendA=>
    intro ρ L W hR hI hL hF;rw[if_pos (hL 8 (by decide))]at hI;obtain⟨_,_,_,_,_,_,_,_,_,_,_,g11,g12,_⟩:=hF;have g11:ρ 11=Yk (!St.aU ah.length tx.length cuts.length true):=g11;have g12:ρ 12=Yh Yn ((a:Int)+2):=g12;rw[g11,g12];clear g11 g12 hR hL;obtain⟨eM,hbl⟩:=hI;have oX:Below B w W:=Below.trans mF.out hbl;have df:=aa oX;have iv:=aa eM;clear eM hbl oX;cases hfu:St.aU ah.length tx.length cuts.length true
    ·obtain⟨c3,c4,f3,f4,hlt,hBb⟩:=(iv.out hfu).at;haveI:af b W:=af.of hlt;have IR:=aa ((iv.out hfu).mo (a+2) ((a:Int)+2) ((a:Int)+2) (by omega) (by omega));have sT:=aa hBb;have cy:=aa hfu;clear hfu hBb;go_wp2;go_ret2;exact DI bm.out hN'.out cy.out ((df.out.setCell (p:=⟨b,3,none⟩) sT.out _).setCell (p:=⟨b,4,none⟩) sT.out _) IR.out h3 _ (by omega)
    have cy:=aa hfu;clear hfu;go_wp2;go_ret2;exact DK bm.out hN'.out cy.out df.out
 have zV:((s[0].toNat:Int)==92)=false:=by simp;omega
 by_cases dj:s[0].toNat=123
 ·have tu:((s[0].toNat:Int)==123)=true:=by simp;omega
  have hsl:=St.nk (r:=s.1.1.drop 1) dj;rw[<-hcr]at hsl;have bP:=λW=>Tryz.strings_IndexByte s 125 W
  have l5:(125:Int).toNat.toUInt8=125:=rfl;rw[l5,hcr]at bP;rcases St.ru (r:=s.1.1.drop 1) dj with⟨hi,hs⟩|⟨n,hi,hn,ff,hs⟩
  ·rw[hi]at bP;rw[<-hcr]at hs;rw[hs,hl]at hsl;have bm:=aa hsl;have ep:=aa bP;clear hsl hcr hl bP hi hs l5;go_enter Tryz.func120,Tryz.ntmps120;go_wp2_with fail;refine(ep.out _).mono ?_;rintro e w' ⟨rfl,rfl⟩;go_wp2;go_ret2;exact rn bm.out (Below.refl _ _)
  rw[hi]at bP;have hns:n+1<s.size:=by rw[<-hcr]at hn;simpa using hn
  obtain⟨x,hX⟩:∃x,s.extract 1 (n+1)=x:=⟨_,rfl⟩;have hxl:x.1.1=(s.1.1.drop 1).take n:=by rw[<-hX];simp
  have hxs:x.size<=s.size:=by rw[<-hX];simp;omega
  have be:=λW=>kG x W (by omega)
  rw[<-hcr,<-hxl]at hs;have z1:(1:Int)<=(n:Int)+1:=by omega
  have z2:(n:Int)+1<=s.size:=by omega
  have z3:¬(n:Int)+1<0:=by omega
  cases hnb:St.aE x.1.1
  ·rw[hnb]at hs be;simp only[Bool.false_eq_true,if_false]at hs;rw[hs,hl]at hsl;have bm:=aa hsl;have ep:=aa bP;have bt:=aa be;clear hsl hcr hl bP hi hs l5 hn ff be hnb hxl;go_enter Tryz.func120,Tryz.ntmps120;go_wp2_with fail;refine(ep.out _).mono ?_;rintro e w' ⟨rfl,rfl⟩;go_wp2_with fail;refine(bt.out _).mono ?_;rintro e w' ⟨rfl,rfl⟩;go_wp2;go_ret2;exact rn bm.out (Below.refl _ _)
  rw[hnb]at hs be;simp only[if_true]at hs;rw[hs,hl]at hsl;simp only[Option.map_some]at hsl;have bm:=aa hsl;have ep:=aa bP;have bt:=aa be;have HIT:=aa (U1.out x);clear hsl hcr hl bP hi hs l5 hn ff be hnb hxl;go_enter Tryz.func120,Tryz.ntmps120;go_wp2_with fail;refine(ep.out _).mono ?_;rintro e w ⟨rfl,rfl⟩;go_wp2_with fail;refine(bt.out _).mono ?_;rintro e w ⟨rfl,rfl⟩;go_wp2_with fail;refine bU (λ_ _=>True) (λL W=>if L 11=true then(St.aU ah.length tx.length cuts.length false=false->b8 ig (pt d) W B b (ah++St.ch tx++[(5,x.1.1,0)]) [] (cuts++[d]))/\Below B w.drew W else W=w.drew) ([λv _=>v=Yl (some ⟨b,0,none⟩),λv _=>v=Yl (some ⟨b,0,none⟩),λv _=>v=Yl (some ⟨b,0,none⟩),λv _=>v=Yi s,λv _=>v=Yh Yn ((n+1:Nat):Int),λv _=>v=Yi x,λv _=>v=.agg #[Yh Yn 5,Yi x,Yh Yn 0],λv _=>v=Yl (some ⟨b,0,none⟩),λv _=>v=Yl (some ⟨b,0,none⟩),λv _=>v=Yl (some ⟨b,3,none⟩),λv _=>v=Yh Yn d,λv _=>v=Yk (!St.aU ah.length tx.length cuts.length false),λv _=>v=Yh Yn a,λv _=>v=Yh Yn ((n+1:Nat):Int),λv _=>v=Yh Yn ((a:Int)+((n+1:Nat):Int)),λv _=>v=Yh Yn ((a:Int)+((n+1:Nat):Int)+1),λv _=>v=Yk (!St.aU ah.length tx.length cuts.length false),λv _=>v=Yh Yn ((a:Int)+((n+1:Nat):Int)+1)]) (λ_=>trivial) (λ_ _ _ _ _=>trivial) (by kernel_rfl) (by rfl) (by kernel_rfl) (by kernel_rfl) ?frC ?hfrC ?hIC ?hobC ?hendC
  case hfrC=>
   intro ρ;simp only[bZ,Act.put,ax,aw,ay,Nat.zero_add,Nat.reduceAdd];exact rfl
  case hIC=>simp
  case hobC=>
   refine aq.cons (λρ L W hR hI hL hD hO hF K hK=>?_) ?_
   ·clear hF hD hO hR;simp only[Act.put,ax,aw,ay]at hK |-;go_simp;refine hK _ _ trivial (by simpa[ar]using hI) (λ_ _=>?_);rfl
   refine aq.cons (λρ L W hR hI hL hD hO hF K hK=>?_) ?_
   ·have f0:=ag hF (j:=0) (by decide);clear hF hD hO hR;simp only[Act.put,ax,aw,ay]at hK |-;have e0:ρ 0=Yl (some ⟨b,0,none⟩):=f0;rw[e0]at hK |-;go_simp;refine hK _ _ trivial (by simpa[ar]using hI) (λ_ _=>?_);rfl
   refine aq.cons (λρ L W hR hI hL hD hO hF K hK=>?_) ?_
   ·have f1:=ag hF (j:=1) (by decide);clear hF hD hO hR;simp only[Act.put,ax,aw,ay]at hK |-;have e1:ρ 1=Yl (some ⟨b,0,none⟩):=f1;rw[e1]at hK |-;go_simp;refine hK _ _ trivial (by simpa[ar]using hI) (λ_ _=>?_);rfl
   refine aq.cons (λρ L W hR hI hL hD hO hF K hK=>?_) ?_
   ·clear hF hD hO hR;simp only[Act.put,ax,aw,ay]at hK |-;go_simp;refine hK _ _ trivial (by simpa[ar]using hI) (λ_ _=>?_);rfl
   refine aq.cons (λρ L W hR hI hL hD hO hF K hK=>?_) ?_
   ·clear hF hD hO hR;simp only[Act.put,ax,aw,ay]at hK |-;go_simp;refine hK _ _ trivial (by simpa[ar]using hI) (λ_ _=>?_);rfl
   refine aq.cons (λρ L W hR hI hL hD hO hF K hK=>?_) ?_
   ·have f3:=ag hF (j:=3) (by decide);have f4:=ag hF (j:=4) (by decide);clear hF hD hO hR;simp only[Act.put,ax,aw,ay]at hK |-;have e3:ρ 3=Yi s:=f3;have e4:ρ 4=Yh Yn ((n+1:Nat):Int):=f4;rw[e3,e4]at hK |-;go_simp;refine hK _ _ trivial (by simpa[ar]using hI) (λ_ _=>?_);rfl
   refine aq.cons (λρ L W hR hI hL hD hO hF K hK=>?_) ?_
   ·have f5:=ag hF (j:=5) (by decide);clear hF hD hO hR;simp only[Act.put,ax,aw,ay]at hK |-;have e5:ρ 5=Yi x:=f5;rw[e5]at hK |-;go_simp;refine hK _ _ trivial (by simpa[ar]using hI) (λ_ _=>?_);rfl
   refine aq.cons (λρ L W hR hI hL hD hO hF K hK=>?_) ?_
   ·clear hF hD hO hR;simp only[Act.put,ax,aw,ay]at hK |-;go_simp;refine hK _ _ trivial (by simpa[ar]using hI) (λ_ _=>?_);rfl
   refine aq.cons (λρ L W hR hI hL hD hO hF K hK=>?_) ?_
   ·have f7:=ag hF (j:=7) (by decide);clear hF hD hO hR;simp only[Act.put,ax,aw,ay]at hK |-;have e7:ρ 7=Yl (some ⟨b,0,none⟩):=f7;rw[e7]at hK |-;go_simp;refine hK _ _ trivial (by simpa[ar]using hI) (λ_ _=>?_);rfl
   refine aq.cons (λρ L W hR hI hL hD hO hF K hK=>?_) ?_
   ·have f8:=ag hF (j:=8) (by decide);clear hF hD hO hR;simp only[Act.put,ax,aw,ay]at hK |-;have e8:ρ 8=Yl (some ⟨b,0,none⟩):=f8;rw[e8]at hK |-;go_simp;refine hK _ _ trivial (by simpa[ar]using hI) (λ_ _=>?_);rfl
   refine aq.cons (λρ L W hR hI hL hD hO hF K hK=>?_) ?_
   ·have f9:=ag hF (j:=9) (by decide);have j9:L 11=false:=hD.not (p:=11) rfl (by decide) hL;rw[if_neg (by rw[j9];decide)]at hI;subst hI;clear hF hD hO hR;simp only[Act.put,ax,aw,ay]at hK |-;have e9:ρ 9=Yl (some ⟨b,3,none⟩):=f9;rw[e9]at hK |-;go_simp;refine hK _ _ trivial (by simp[ar,j9]) (λ_ _=>?_);rfl
   refine aq.cons (λρ L W hR hI hL hD hO hF K hK=>?_) ?_
   ·have f2:=ag hF (j:=2) (by decide);have f6:=ag hF (j:=6) (by decide);have f10:=ag hF (j:=10) (by decide);rw[if_neg (by rw[hL];decide)]at hI;subst hI;clear hF hD hO hR;simp only[Act.put,ax,aw,ay]at hK |-;have e2:ρ 2=Yl (some ⟨b,0,none⟩):=f2;have e6:ρ 6=.agg #[Yh Yn 5,Yi x,Yh Yn 0]:=f6;have e10:ρ 10=Yh Yn d:=f10;rw[e2,e6,e10]at hK |-;refine nA (o:=⟨some 118,_,_,_,_,_⟩) rfl 164 #[Yl (some ⟨b,0,none⟩),.agg #[Yh Yn 5,Yi x,Yh Yn 0],Yh Yn d] _ HIT.out ?_ ?_
    ·go_simp
    rintro e W2 ⟨rfl,h1,h2⟩;exact⟨_,rfl,hK _ _ trivial (by simp only[ar,if_true];exact⟨h1,h2⟩) (λ_ _=>rfl)⟩
   refine aq.cons (λρ L W hR hI hL hD hO hF K hK=>?_) ?_
   ·clear hF hD hO hR;simp only[Act.put,ax,aw,ay]at hK |-;go_simp;refine hK _ _ trivial (by simpa[ar]using hI) (λ_ _=>?_);rfl
   refine aq.cons (λρ L W hR hI hL hD hO hF K hK=>?_) ?_
   ·clear hF hD hO hR;simp only[Act.put,ax,aw,ay]at hK |-;go_simp;refine hK _ _ trivial (by simpa[ar]using hI) (λ_ _=>?_);rfl
   refine aq.cons (λρ L W hR hI hL hD hO hF K hK=>?_) ?_
   ·have f12:=ag hF (j:=12) (by decide);have f13:=ag hF (j:=13) (by decide);clear hF hD hO hR;simp only[Act.put,ax,aw,ay]at hK |-;have e12:ρ 12=Yh Yn a:=f12;have Ji:ρ 13=Yh Yn ((n+1:Nat):Int):=f13;rw[e12,Ji]at hK |-;go_simp;refine hK _ _ trivial (by simpa[ar]using hI) (λ_ _=>?_);exact congrArg (Yh Yn) ((IntWalk.i64_in _ (by omega)).trans (by omega))
   refine aq.cons (λρ L W hR hI hL hD hO hF K hK=>?_) ?_
   ·have f14:=ag hF (j:=14) (by decide);clear hF hD hO hR;simp only[Act.put,ax,aw,ay]at hK |-;have Cx:ρ 14=Yh Yn ((a:Int)+((n+1:Nat):Int)):=f14;rw[Cx]at hK |-;go_simp;refine hK _ _ trivial (by simpa[ar]using hI) (λ_ _=>?_);exact congrArg (Yh Yn) ((IntWalk.i64_in _ (by omega)).trans (by omega))
   refine aq.cons (λρ L W hR hI hL hD hO hF K hK=>?_) ?_
   ·have f11:=ag hF (j:=11) (by decide);clear hF hD hO hR;simp only[Act.put,ax,aw,ay]at hK |-;have e11:ρ 11=Yk (!St.aU ah.length tx.length cuts.length false):=f11;rw[e11]at hK |-;go_simp;refine hK _ _ trivial (by simpa[ar]using hI) (λ_ _=>?_);rfl
   refine aq.cons (λρ L W hR hI hL hD hO hF K hK=>?_) ?_
   ·have f15:=ag hF (j:=15) (by decide);clear hF hD hO hR;simp only[Act.put,ax,aw,ay]at hK |-;have Jj:ρ 15=Yh Yn ((a:Int)+((n+1:Nat):Int)+1):=f15;rw[Jj]at hK |-;go_simp;refine hK _ _ trivial (by simpa[ar]using hI) (λ_ _=>?_);rfl
   exact aq.nil
  case hendC=>
   intro ρ L W hR hI hL hF;rw[if_pos (hL 11 (by decide))]at hI;obtain⟨_,_,_,_,_,_,_,_,_,_,_,_,_,_,_,_,g16,g17,_⟩:=hF;have g16:ρ 16=Yk (!St.aU ah.length tx.length cuts.length false):=g16;have g17:ρ 17=Yh Yn ((a:Int)+((n+1:Nat):Int)+1):=g17;rw[g16,g17];clear g16 g17 hR hL;obtain⟨eM,hbl⟩:=hI;have oX:Below B w W:=Below.trans mF.out hbl;have df:=aa oX;have iv:=aa eM;clear eM hbl oX;cases hfu:St.aU ah.length tx.length cuts.length false
   ·obtain⟨c3,c4,f3,f4,hlt,hBb⟩:=(iv.out hfu).at;haveI:af b W:=af.of hlt;have IR:=aa ((iv.out hfu).mo (a+(n+2)) ((a:Int)+((n+1:Nat):Int)+1) ((a:Int)+((n+1:Nat):Int)+1) (by omega) (by omega));have sT:=aa hBb;have cy:=aa hfu;clear hfu hBb;go_wp2;go_ret2;exact MB bm.out cy.out ((df.out.setCell (p:=⟨b,3,none⟩) sT.out _).setCell (p:=⟨b,4,none⟩) sT.out _) IR.out _ (by omega)
   have cy:=aa hfu;clear hfu;go_wp2;go_ret2;exact Ku bm.out cy.out df.out
 have tu:((s[0].toNat:Int)==123)=false:=by simp;omega
 have hsl:=St.kv (r:=s.1.1.drop 1) bH iL dj;rw[<-hcr,hl]at hsl;obtain⟨c,hc⟩:∃c,s[0]=c:=⟨_,rfl⟩;rw[hc]at hsl e10 zV tu;have bm:=aa hsl;have BP:=aa (QZ.out c);clear hcr hl hsl bH iL dj;go_enter Tryz.func120,Tryz.ntmps120;go_wp2_with fail;refine bU (λ_ _=>True) (λL W=>if L 9=true then(St.aU ah.length tx.length cuts.length true=false->b8 ig (pt d) W B b ah (tx++[c]) (cuts++[d]))/\Below B w.drew W else W=w.drew) ([λv _=>v=Yl (some ⟨b,0,none⟩),λv _=>v=Yl (some ⟨b,0,none⟩),λv _=>v=Yl (some ⟨b,0,none⟩),λv _=>v=Yi s,λv _=>v=Yh .u8 (c.toNat:Int),λv _=>v=Yl (some ⟨b,0,none⟩),λv _=>v=Yl (some ⟨b,0,none⟩),λv _=>v=Yl (some ⟨b,3,none⟩),λv _=>v=Yh Yn d,λv _=>v=Yk (!St.aU ah.length tx.length cuts.length true),λv _=>v=Yk (!St.aU ah.length tx.length cuts.length true)]) (λ_=>trivial) (λ_ _ _ _ _=>trivial) (by kernel_rfl) (by rfl) (by kernel_rfl) (by kernel_rfl) ?frD ?hfrD ?hID ?hobD ?hendD
 case hfrD=>
  intro ρ;simp only[bZ,Act.put,ax,aw,ay,Nat.zero_add,Nat.reduceAdd];exact rfl
 case hID=>simp
 case hobD=>
  refine aq.cons (λρ L W hR hI hL hD hO hF K hK=>?_) ?_
  ·clear hF hD hO hR;simp only[Act.put,ax,aw,ay]at hK |-;go_simp;refine hK _ _ trivial (by simpa[ar]using hI) (λ_ _=>?_);rfl
  refine aq.cons (λρ L W hR hI hL hD hO hF K hK=>?_) ?_
  ·have f0:=ag hF (j:=0) (by decide);clear hF hD hO hR;simp only[Act.put,ax,aw,ay]at hK |-;have e0:ρ 0=Yl (some ⟨b,0,none⟩):=f0;rw[e0]at hK |-;go_simp;refine hK _ _ trivial (by simpa[ar]using hI) (λ_ _=>?_);rfl
  refine aq.cons (λρ L W hR hI hL hD hO hF K hK=>?_) ?_
  ·have f1:=ag hF (j:=1) (by decide);clear hF hD hO hR;simp only[Act.put,ax,aw,ay]at hK |-;have e1:ρ 1=Yl (some ⟨b,0,none⟩):=f1;rw[e1]at hK |-;go_simp;refine hK _ _ trivial (by simpa[ar]using hI) (λ_ _=>?_);rfl
  refine aq.cons (λρ L W hR hI hL hD hO hF K hK=>?_) ?_
  ·clear hF hD hO hR;simp only[Act.put,ax,aw,ay]at hK |-;go_simp;refine hK _ _ trivial (by simpa[ar]using hI) (λ_ _=>?_);rfl
  refine aq.cons (λρ L W hR hI hL hD hO hF K hK=>?_) ?_
  ·have f3:=ag hF (j:=3) (by decide);clear hF hD hO hR;simp only[Act.put,ax,aw,ay]at hK |-;have e3:ρ 3=Yi s:=f3;rw[e3]at hK |-;have y0:0<raw.size-a:=by omega
   go_simp;refine hK _ _ trivial (by simpa[ar]using hI) (λ_ _=>?_);rfl
  refine aq.cons (λρ L W hR hI hL hD hO hF K hK=>?_) ?_
  ·clear hF hD hO hR;simp only[Act.put,ax,aw,ay]at hK |-;go_simp;refine hK _ _ trivial (by simpa[ar]using hI) (λ_ _=>?_);rfl
  refine aq.cons (λρ L W hR hI hL hD hO hF K hK=>?_) ?_
  ·have f5:=ag hF (j:=5) (by decide);clear hF hD hO hR;simp only[Act.put,ax,aw,ay]at hK |-;have e5:ρ 5=Yl (some ⟨b,0,none⟩):=f5;rw[e5]at hK |-;go_simp;refine hK _ _ trivial (by simpa[ar]using hI) (λ_ _=>?_);rfl
  refine aq.cons (λρ L W hR hI hL hD hO hF K hK=>?_) ?_
  ·have f6:=ag hF (j:=6) (by decide);clear hF hD hO hR;simp only[Act.put,ax,aw,ay]at hK |-;have e6:ρ 6=Yl (some ⟨b,0,none⟩):=f6;rw[e6]at hK |-;go_simp;refine hK _ _ trivial (by simpa[ar]using hI) (λ_ _=>?_);rfl
  refine aq.cons (λρ L W hR hI hL hD hO hF K hK=>?_) ?_
  ·have f7:=ag hF (j:=7) (by decide);have j9:L 9=false:=hD.not (p:=9) rfl (by decide) hL;rw[if_neg (by rw[j9];decide)]at hI;subst hI;clear hF hD hO hR;simp only[Act.put,ax,aw,ay]at hK |-;have e7:ρ 7=Yl (some ⟨b,3,none⟩):=f7;rw[e7]at hK |-;go_simp;refine hK _ _ trivial (by simp[ar,j9]) (λ_ _=>?_);rfl
  refine aq.cons (λρ L W hR hI hL hD hO hF K hK=>?_) ?_
  ·have f2:=ag hF (j:=2) (by decide);have f4:=ag hF (j:=4) (by decide);have f8:=ag hF (j:=8) (by decide);rw[if_neg (by rw[hL];decide)]at hI;subst hI;clear hF hD hO hR;simp only[Act.put,ax,aw,ay]at hK |-;have e2:ρ 2=Yl (some ⟨b,0,none⟩):=f2;have e4:ρ 4=Yh .u8 (c.toNat:Int):=f4;have e8:ρ 8=Yh Yn d:=f8;rw[e2,e4,e8]at hK |-;refine nA (o:=⟨some 28,_,_,_,_,_⟩) rfl 162 #[Yl (some ⟨b,0,none⟩),Yh .u8 c.toNat,Yh Yn d] _ BP.out ?_ ?_
   ·go_simp
   rintro e W2 ⟨rfl,h1,h2⟩;exact⟨_,rfl,hK _ _ trivial (by simp only[ar,if_true];exact⟨h1,h2⟩) (λ_ _=>rfl)⟩
  refine aq.cons (λρ L W hR hI hL hD hO hF K hK=>?_) ?_
  ·have f9:=ag hF (j:=9) (by decide);clear hF hD hO hR;simp only[Act.put,ax,aw,ay]at hK |-;have e9:ρ 9=Yk (!St.aU ah.length tx.length cuts.length true):=f9;rw[e9]at hK |-;go_simp;refine hK _ _ trivial (by simpa[ar]using hI) (λ_ _=>?_);rfl
  exact aq.nil
 case hendD=>
  intro ρ L W hR hI hL hF;rw[if_pos (hL 9 (by decide))]at hI;obtain⟨_,_,_,_,_,_,_,_,_,_,g10,_⟩:=hF;have g10:ρ 10=Yk (!St.aU ah.length tx.length cuts.length true):=g10;rw[g10];clear g10 hR hL;obtain⟨eM,hbl⟩:=hI;have oX:Below B w W:=Below.trans mF.out hbl;have df:=aa oX;have iv:=aa eM;clear eM hbl oX;cases hfu:St.aU ah.length tx.length cuts.length true
  ·obtain⟨c3,c4,f3,f4,hlt,hBb⟩:=(iv.out hfu).at;haveI:af b W:=af.of hlt;have IR:=aa ((iv.out hfu).mo (a+1) ((a:Int)+1) ((a:Int)+1) (by omega) (by omega));have sT:=aa hBb;have cy:=aa hfu;clear hfu hBb;go_wp2;go_ret2;exact DI bm.out hN'.out cy.out ((df.out.setCell (p:=⟨b,3,none⟩) sT.out _).setCell (p:=⟨b,4,none⟩) sT.out _) IR.out h3 _ (by omega)
  have cy:=aa hfu;clear hfu;go_wp2;go_ret2;exact DK bm.out hN'.out cy.out df.out
end
section
def iY(raw:ByteArray):List St.It × List Nat × Nat × Int:=St.dec St.b7 raw.size raw.1.1 0 0 [] []
def qN(raw:ByteArray)(w:Ys)(e:Ending)(w':Ys):Prop:=
 ac w w'/\((∃ah tx cuts d,e=Yp (Ym #[Yl (some ⟨w.1.size,0,none⟩),Yh Yn 0,Yh Yn 0])/\b8 ig (pt d) w' w.1.size w.1.size ah tx cuts/\ah.length<=512/\cuts.length<=1024/\tx.length<=cuts.length/\iY raw=(ah++St.ch tx,cuts++[d],0,0))\/
  ∃(a:Nat) (er:Int),er≠0/\e=Yp (Ym #[Yl none,Yh Yn a,Yh Yn er])/\iY raw=([],[],a,er))
def Gq(w:Ys)(raw:ByteArray)(s6:Value)(wr:Ys):Prop:=
 ∃(a d:Nat) (ah:List St.It) (tx:List UInt8) (cuts:List Nat) (fuel:Nat),s6=Yh Yn a/\a<=raw.size/\raw.size-a<=fuel/\b8 ig (pt d) wr w.1.size w.1.size ah tx cuts/\St.fG ah/\ah.length<=512/\cuts.length<=1024/\tx.length<=cuts.length /\
  iY raw=St.dec St.b7 fuel (raw.1.1.drop a) a d (ah++St.ch tx) cuts/\ac w wr
theorem b8.fresh(w:Ys):b8 ig (pt 0) (w.alloc (.cells #[Yj none 0 0,Yj none 0 0,Yj none 0 0,Yh Yn 0,Yh Yn 0] 129)) w.1.size w.1.size [] [] []:=
 ⟨_,_,_,Nat.le_refl _,heap_alloc_new w _,World.ownsRow_nil _ _ _ _,World.ownsRow_nil _ _ _ _,World.ownsRow_nil _ _ _ _⟩
theorem ks(raw:ByteArray)(w:Ys)(hr:raw.size<=4611686018427387904):Calls Tryz.prog 81 #[Yi raw] w (qN raw w):=by
 have nZ:=aa (b8.fresh w);go_enter Tryz.func81,Tryz.ntmps81;go_wp2;go_loopw [6] (λs6 wr=>Gq w raw s6 wr) (λs6 _=>raw.size+1-(intOf s6).toNat)
 case atStart=>exact⟨0,0,[],[],[],raw.size,rfl,by omega,by omega,nZ.out,St.qc,by simp,by simp,by simp,by simp[iY,St.ch],uZ⟩
 case round=>
  obtain⟨a,d,ah,tx,cuts,fuel,rfl,ha,hfu,hB,hN,h1,h2,h3,hD,hu⟩:=hrel;clear nZ
  by_cases hlt:a<raw.size
  ·have hel:=kV wr w.1.size w.1.size ah tx cuts d raw a hB hN h1 h2 h3 hu.size hlt hr;have jN:=aa hel;have HD:=aa hD;have HU:=aa hu;have HN:=aa hN
   have h0:raw.1.1.drop a≠[]:=by
    intro e;have:=congrArg List.length e
    simp at this;omega
   obtain⟨fuel,rfl⟩:∃m,fuel=m+1:=⟨fuel-1,by omega⟩;clear hel hB hN hD hu;go_wp2_with fail;refine jN.out.mono ?_;rintro e w2 ⟨hbl,hm⟩;have hu2:ac w w2:=ac.cn (Below.trans HU.out.below hbl);have aX:=aa hu2;clear hbl hu2;cases hs:St.b7 (raw.1.1.drop a)with
   | none=>
    rw[hs]at hm;subst hm;have hd2:=HD.out.trans (St.oT fuel a d _ cuts h0 hs);have dt:=aa hd2;clear hd2 hs h0;go_wp2;go_ret3;exact⟨aX.out,.inr ⟨a,2,by decide,rfl,dt.out⟩⟩
   | some x=>
    obtain⟨k,t,n⟩:=x;rw[hs]at hm;simp only at hm;obtain⟨_,gu,fe,_⟩:=St.iZ hs;have pa:a+n<=raw.size:=by simp at fe;omega
    have jf:(raw.1.1.drop a).drop n=raw.1.1.drop (a+n):=by rw[List.drop_drop]
    by_cases gU:k=0
    ·rw[if_pos gU]at hm;obtain⟨rfl,hB'⟩:=hm;subst gU;have hd2:=HD.out.trans (St.vo fuel a d _ cuts h0 hs);rw[jf]at hd2;have HE:=aa (And.intro hd2 (And.intro hB' HN.out));clear hd2 hB' hs h0 jf jN HD HU HN;go_wp2;exact⟨⟨a+n,d,ah,tx,cuts,fuel,congrArg (Yh Yn) (by omega),pa,by omega,HE.out.2.1,HE.out.2.2,h1,h2,h3,HE.out.1,aX.out⟩,by simp[intOf];omega⟩
    rw[if_neg gU]at hm
    split at hm
    ·rename_i hf
     subst hm;have hd2:=HD.out.trans (St.oS fuel a d _ cuts h0 hs gU hf);have dt:=aa hd2;clear hd2 hs h0 hf jf;go_wp2;go_ret3;exact⟨aX.out,.inr ⟨a,3,by decide,rfl,dt.out⟩⟩
    rename_i hf
    obtain⟨rfl,fD,jB,hB',hN',hadd,ht'⟩:=hm;have hd2:=HD.out.trans (St.oU fuel a d _ cuts h0 hs gU hf);rw[<-hadd]at hd2 hf;rw[jf]at hd2;have Fu:fD.length<=512:=by have:=(not_or.1 hf).1;simp at this;omega
    have T1:cuts.length+1<=1024:=by have:=(not_or.1 hf).2;omega
    have HE:=aa (And.intro hd2 (And.intro hB' hN'));clear hd2 hB' hN' hadd hf hs h0 jf jN HD HU;go_wp2;exact⟨⟨a+n,a+n,fD,jB,cuts++[d],fuel,congrArg (Yh Yn) (by omega),pa,by omega,HE.out.2.1,HE.out.2.2,Fu,by simp;omega,by simp;omega,HE.out.1,aX.out⟩,by simp[intOf];omega⟩
  have xo:a=raw.size:=by omega
  subst xo;have hnil:raw.1.1.drop raw.size=[]:=List.drop_of_length_le (by simp);rw[hnil,St.qR]at hD;have HE:=aa (And.intro hu (And.intro hB hD));clear hlt hB hN hD hu hnil;go_wp2;go_ret3;exact⟨HE.out.1,.inl ⟨ah,tx,cuts,d,rfl,HE.out.2.1,h1,h2,h3,HE.out.2.2⟩⟩
def jX(R:List St.It × List Nat × Nat × Int)(w:Ys)(e:Ending)(w':Ys):Prop:=
 ∃(A:Option Addr) (c:Nat),e=Yp (Ym #[Yj A R.1.length c,Yh Yn (R.2.2.1:Int),Yh Yn R.2.2.2])/\aH w' A R.1/\R.1.length<=c/\c<=9223372036854775807/\ac w w'
def eV(R:List St.It × List Nat × Nat × Int)(w:Ys)(e:Ending)(w':Ys):Prop:=
 ∃(A:Option Addr) (c:Nat),e=Yp (Ym #[Yj A R.2.1.length c,Yh Yn R.2.2.2])/\iJ w' A R.2.1/\R.2.1.length<=c/\c<=9223372036854775807/\ac w w'
theorem va(raw:ByteArray)(w:Ys)(hr:raw.size<=4611686018427387904):Calls Tryz.prog 43 #[Yi raw] w (jX (iY raw) w):=by
 have HR:=aa (ks raw w hr);go_enter Tryz.func43,Tryz.ntmps43;go_wp2_with fail;refine HR.out.mono ?_;rintro e w2 ⟨hu,⟨ah,tx,cuts,d,rfl,hB,h1,h2,h3,hD⟩|⟨a,er,her,rfl,hD⟩⟩
 ·have HI:=aa (pZ w2 w.1.size w.1.size ah tx cuts hB (by omega) (by omega) hu.size);have HU:=aa hu;have HD:=aa hD;clear hu hB hD HR;go_wp2_with fail;refine HI.out.mono ?_;rintro e w3 ⟨A,c,rfl,hI,hc1,hc2,hbl⟩;have HE:=aa (And.intro hI (ac.cn (Below.trans HU.out.below hbl)));have o0:=aa hc1;clear hI hbl hc1;go_wp2;go_ret3;unfold jX;rw[HD.out];exact⟨A,c,by simp only[List.length_append];rfl,HE.out.1,o0.out,hc2,HE.out.2⟩
 have hb:(er==0)=false:=by simpa using her
 have HU:=aa hu;have HD:=aa hD;clear hu hD HR;go_wp2;go_ret3;unfold jX;rw[HD.out];exact⟨none,0,rfl,λh=>absurd h (by simp),by simp,by omega,HU.out⟩
theorem K7(raw:ByteArray)(w:Ys)(hr:raw.size<=4611686018427387904):Calls Tryz.prog 71 #[Yi raw] w (eV (iY raw) w):=by
 have HR:=aa (ks raw w hr);go_enter Tryz.func71,Tryz.ntmps71;go_wp2_with fail;refine HR.out.mono ?_;rintro e w2 ⟨hu,⟨ah,tx,cuts,d,rfl,hB,h1,h2,h3,hD⟩|⟨a,er,her,rfl,hD⟩⟩
 ·have HI:=aa (pO w2.drew w.1.size w.1.size ah tx cuts d (hB.ai (ac.refl w2).drew) (by omega) (by simpa using hu.size));have HU:=aa hu;have HD:=aa hD;obtain⟨c3,c4,f3,f4,hlt,hBb⟩:=hB.at;haveI:af w.1.size w2:=af.of hlt;have xv:Below w.1.size w2 w2.drew:=(Below.refl _ w2).drew;clear hu hB hD HR;go_wp2_with fail;go_region_law (refine nA rfl 112 #[Yl (some ⟨w.1.size,0,none⟩),Yh Yn d] _ HI.out ?_ ?_;(· go_simp);rintro e w3 ⟨A,c,rfl,hI,hc1,hc2,hbl⟩;refine⟨_,rfl,?_⟩)
  all_goals
   have HE:=aa (And.intro hI (ac.cn (Below.trans (Below.trans HU.out.below xv) hbl)));have o0:=aa hc1;clear hI hbl hc1;go_wp2;refine bodyPost_ret (v:=Ym #[Yj A (cuts.length+1) c,Yh Yn 0]) (by simp[results,Tryz.results71,go_sem]<;>exact⟨rfl,rfl⟩) rfl ?_;unfold eV;rw[HD.out];exact⟨A,c,by simp,HE.out.1,by simpa using o0.out,hc2,HE.out.2⟩
 have hb:(er==0)=false:=by simpa using her
 have HU:=aa hu;have HD:=aa hD;clear hu hD HR;go_wp2;go_ret2;unfold eV;rw[HD.out];exact⟨none,0,rfl,λh=>absurd h (by simp),by simp,by omega,HU.out⟩
def dE(l:List UInt8):Nat × Int:=((St.dec St.b7 l.length l 0 0 [] []).2.2.1,(St.dec St.b7 l.length l 0 0 [] []).2.2.2)
theorem lf(x:ByteArray):dE x.1.1=((iY x).2.2.1,(iY x).2.2.2):=by
 unfold dE iY;rw[St.aC]
theorem qQ:∀(fuel:Nat) (l:List UInt8) (a d:Nat) (f:List St.It) (cuts:List Nat),(St.dec St.b7 fuel l a d f cuts).2.2.1<=a+l.length
 | 0,l,a,d,f,cuts=>by simp[St.dec]
 | fuel+1,l,a,d,f,cuts=>by
  by_cases h0:l=[]
  ·subst h0;rw[St.qR];simp
  cases hs:St.b7 l with
  | none=>rw[St.oT fuel a d f cuts h0 hs];simp
  | some x=>
   obtain⟨k,t,n⟩:=x;obtain⟨_,gu,fe,_⟩:=St.iZ hs
   by_cases hk:k=0
   ·subst hk;rw[St.vo fuel a d f cuts h0 hs];have h:=qQ fuel (l.drop n) (a+n) d f cuts;rw[List.length_drop]at h;omega
   by_cases hf:512<(St.aL f (k,t,0)).length\/1024<=cuts.length
   ·rw[St.oS fuel a d f cuts h0 hs (by omega) hf];simp
   rw[St.oU fuel a d f cuts h0 hs (by omega) hf];have h:=qQ fuel (l.drop n) (a+n) (a+n) (St.aL f (k,t,0)) (cuts++[d]);rw[List.length_drop]at h;omega
theorem yX(x:ByteArray):(iY x).2.2.1<=x.size:=by
 have:=qQ x.size x.1.1 0 0 [] []
 rw[St.aC]at this;unfold iY;omega
end
section
namespace St
theorem C5:∀l:List UInt8,Lib.indexByte l 10=if ck l<l.length then(ck l:Int)else -1
 | []=>rfl
 | c :: l=>by
  unfold Lib.indexByte
  by_cases h:c.toNat=10
  ·have h2:c=10:=by apply UInt8.toNat_inj.1;simpa using h
   subst h2;simp[ck]
  have h2:¬c=10:=λe=>h (by rw[e];rfl)
  have h3:(c==10)=false:=by simpa using h2
  have e:ck (c :: l)=ck l+1:=by unfold ck;rw[List.takeWhile_cons_of_pos (by simpa using h),List.length_cons]
  rw[h3,C5 l,e];simp only[List.length_cons,Bool.false_eq_true,if_false]
  by_cases h4:ck l<l.length
  ·rw[if_pos h4,if_neg (by simp<;>omega),if_pos (by omega)];try simp
  rw[if_neg h4,if_pos (by simp),if_neg (by omega)]
theorem Iq(l:List UInt8):dQ l=(match (l.take (ck l)).dropWhile fR with | []=>true|c :: _=>decide (c.toNat=35)):=by
 have e:l.take (ck l)=l.takeWhile (λc=>decide (c.toNat≠10)):=(List.prefix_iff_eq_take.1 (List.takeWhile_prefix _)).symm;rw[e];clear e
 induction l with
 | nil=>rfl
 | cons c l ih=>
  unfold dQ at ih |-
  by_cases h10:c.toNat=10
  ·have hb:fR c=false:=by unfold fR;exact decide_eq_false (by omega)
   rw[List.takeWhile_cons_of_neg (by simp[h10]),List.dropWhile_cons_of_neg (by simp[hb])];simp[h10]
  rw[List.takeWhile_cons_of_pos (by simpa using h10)]
  by_cases hb:fR c=true
  ·rw[List.dropWhile_cons_of_pos hb,List.dropWhile_cons_of_pos hb];exact ih
  rw[List.dropWhile_cons_of_neg hb,List.dropWhile_cons_of_neg hb];simp[h10]
end St
theorem J8(s:ByteArray)(w:Ys):Calls Tryz.prog 167 #[Yi s,Yi ⟨#[10]⟩] w λe w'=>e=Yp (Yh Yn (Lib.indexByte s.1.1 10))/\w'=w:=Tryz.stringslite_Index_one s 10 w
theorem Lt(s:ByteArray)(w:Ys)(hs:s.size<=4611686018427387904):Calls Tryz.prog 155 #[Yi s,Yi ⟨#[10]⟩] w λe w'=>∃(x y:ByteArray) (f:Bool),e=Yp (Ym #[Yi x,Yi y,Yk f])/\x.1.1=s.1.1.take (St.ck s.1.1)/\ac w w':=by
 have bP:=λW=>J8 s W
 rw[St.C5]at bP;have hle:=St.lr s.1.1;rw[St.aC]at hle
 by_cases h:St.ck s.1.1<s.1.1.length
 ·rw[if_pos h]at bP;have h2:St.ck s.1.1<s.size:=by rw[St.aC]at h;exact h
  have hx:(s.extract 0 (St.ck s.1.1)).1.1=s.1.1.take (St.ck s.1.1):=by rw[Lib.extract_data];simp
  generalize St.ck s.1.1=n at *;have HX:=aa hx;have ep:=aa bP;have y1:(n:Int)<=s.size:=by omega
  have y2:(n:Int)+1<=s.size:=by omega
  clear hx bP h hle;go_enter Tryz.func155,Tryz.ntmps155;go_wp2_with (go_at_call 167;refine(ep.out _).mono ?_;rintro e w' ⟨rfl,rfl⟩);go_quiet (fail);go_wp2;go_ret3;exact⟨_,_,_,rfl,HX.out,(ac.refl _).drewN _⟩
 rw[if_neg h]at bP;have hx:s.1.1=s.1.1.take (St.ck s.1.1):=(List.take_of_length_le (by omega)).symm;generalize St.ck s.1.1=n at *;have HX:=aa hx;have ep:=aa bP;clear hx bP h hle;go_enter Tryz.func155,Tryz.ntmps155;go_wp2_with (go_at_call 167;refine(ep.out _).mono ?_;rintro e w' ⟨rfl,rfl⟩);go_ret3;exact⟨_,_,_,rfl,HX.out,ac.refl _⟩
theorem Ou(s:ByteArray)(w:Ys)(hs:s.size<=4611686018427387904):Calls Tryz.prog 118 #[Yi s,Yi ⟨#[10]⟩] w λe w'=>∃(x y:ByteArray) (f:Bool),e=Yp (Ym #[Yi x,Yi y,Yk f])/\x.1.1=s.1.1.take (St.ck s.1.1)/\ac w w':=by
 have HC:=aa (Lt s w hs);go_enter Tryz.func118,Tryz.ntmps118;go_wp2_with fail;refine HC.out.mono ?_;rintro e w' ⟨x,y,f,rfl,hx,hu⟩;have HX:=aa hx;have HU:=aa hu;clear hu;clear hx;go_wp2
 first|go_ret|go_ret3
 exact⟨x,y,f,rfl,HX.out,HU.out⟩
theorem M2(s:ByteArray)(w:Ys):Calls Tryz.prog 119 #[Yi s,Yi ⟨#[32,9]⟩] w λe w'=>∃x:ByteArray,e=Yp (Yi x)/\x.1.1=s.1.1.dropWhile St.fR/\ac w w':=by
 have h:=Any.strings_TrimLeft_laid Tryz.OR (by kernel_rfl) s ⟨#[32,9]⟩ w (by decide) (ascii_of_all (by decide));refine Calls.mono (show Calls Tryz.prog 119 _ _ _ from h) ?_;rintro e w' ⟨rfl,hb⟩;refine⟨_,rfl,?_,ac.cn hb⟩
 have e:(λc:UInt8=>([32,9]:List UInt8).contains c)=St.fR:=by
  funext c
  unfold St.fR;rw[Bool.eq_iff_iff];simp only[List.contains_iff_mem,List.mem_cons,List.not_mem_nil,or_false,decide_eq_true_eq];constructor
  ·rintro (rfl|rfl)<;>simp
  rintro (h|h)
  ·exact .inl (by apply UInt8.toNat_inj.1;simpa using h)
  exact .inr (by apply UInt8.toNat_inj.1;simpa using h)
 show Lib.trimLeftS s.1.1 [32,9]=_
 unfold Lib.trimLeftS;exact congrArg (λp=>s.1.1.dropWhile p) e
theorem EI(d:ByteArray)(a:Nat)(w:Ys)(ha:a<=d.size)(hd:d.size<=4611686018427387904) :
  Calls Tryz.prog 76 #[Yi d,Yh Yn a] w λe w'=>e=Yp (Ym #[Yh Yn ((min (a+St.ck (d.1.1.drop a)+1) d.size:Nat):Int),Yk (St.dQ (d.1.1.drop a))])/\ac w w':=by
 obtain⟨s,hE⟩:∃s,d.extract a d.size=s:=⟨_,rfl⟩;have hsz:s.size=d.size-a:=by rw[<-hE];simp
 have hl:s.1.1=d.1.1.drop a:=by rw[<-hE];simp;exact List.take_of_length_le (by simp)
 have y1:(a:Int)<=d.size:=by omega
 have zm:=aa (Ou s w (by omega));rw[<-hl];clear hl;go_enter Tryz.func76,Tryz.ntmps76;go_wp2_with fail;refine zm.out.mono ?_;rintro e w1 ⟨x,y,f,rfl,hx,hu0⟩;have fY:=aa hu0;clear hu0
 have hxs:x.size=St.ck s.1.1:=by
  rw[<-St.aC,hx,List.length_take];have:=St.lr s.1.1
  omega
 have hle:=St.lr s.1.1;rw[St.aC,<-hxs]at hle;have Qc:=aa (M2 x w1);have hsk:=St.Iq s.1.1;rw[<-hx]at hsk;have TA:=aa hxs;have zE:=aa hsk;clear hx hxs hsk zm;go_wp2_with fail;refine Qc.out.mono ?_;rintro e w2 ⟨t,rfl,ht,hu⟩;have HU:=aa (fY.out.trans hu);rw[<-ht]at zE;have y2:¬9223372036854775807<x.size:=by omega
 have y3:(min (a+x.size+1) d.size:Nat)=min ((a:Int)+x.size+1) d.size:=by omega
 have TB:=aa y3
 by_cases h0:t.size=0
 ·have hnil:t.1.1=[]:=List.eq_nil_of_length_eq_zero (by rw[St.aC];exact h0);have n5:St.dQ s.1.1=true:=by rw[zE.out,hnil]
  have e0:(t.toList==([]:List UInt8))=true:=by rw[Lib.toList_data,hnil];rfl
  have zD:=aa n5;clear hu ht hnil n5 Qc zE y3 h0;go_wp2_with fail;go_quiet (fail);go_wp2;refine bodyPost_ret (v:=Ym #[Yh Yn (min ((a:Int)+x.size+1) d.size),Yk true]) (by simp[results,Tryz.results76,go_sem]) rfl ⟨?_,HU.out.drewN _⟩;rw[<-TA.out,zD.out,TB.out]
 have hcr:=St.fB t (by omega);have e0:(t.toList==([]:List UInt8))=false:=by rw[Lib.toList_data,hcr];rfl
 have z0:0<t.size:=by omega
 have n5:St.dQ s.1.1=((t[0].toNat:Int)==35):=by
  rw[zE.out,hcr,Bool.eq_iff_iff];simp;omega
 have zD:=aa n5;clear hu ht hcr n5 Qc zE y3 h0;cases hq:((t[0].toNat:Int)==35)
 all_goals
  rw[hq]at zD;go_wp2_with fail;go_quiet (fail);go_wp2;refine bodyPost_ret (v:=Ym #[Yh Yn (min ((a:Int)+x.size+1) d.size),Yk _]) (by simp[results,Tryz.results76,go_sem];rfl) rfl ⟨?_,HU.out.drewN _⟩;rw[<-TA.out,zD.out,TB.out]
end
section
namespace St
theorem Dc:bI []=0:=rfl
theorem ra{c:UInt8}{r:List UInt8}(h:gj c=false):bI (c :: r)=0:=by unfold bI;rw[List.takeWhile_cons_of_neg (by simp[h])];rfl
theorem lq{c:UInt8}{r:List UInt8}(h:gj c=true):bI (c :: r)=1+bI r:=by unfold bI;rw[List.takeWhile_cons_of_pos h,List.length_cons];omega
theorem Ff{c:UInt8}{r:List UInt8}(h:c.toNat=10):dk (c :: r)=0:=by rw[dk.eq_def];simp only[];rw[if_pos h]
theorem Jl{c:UInt8}(h:c.toNat=92):dk [c]=1:=by rw[dk.eq_def];simp only[];rw[if_neg (by omega),if_pos h]
theorem Jm{c x:UInt8}{r:List UInt8}(h:c.toNat=92):dk (c :: x :: r)=2+dk r:=by rw[dk.eq_def];simp only[];rw[if_neg (by omega),if_pos h]
theorem Jn{c:UInt8}{r:List UInt8}(h:c.toNat≠10)(h2:c.toNat≠92):dk (c :: r)=1+dk r:=by rw[dk.eq_def];simp only[];rw[if_neg h,if_neg h2]
theorem Mg{c:UInt8}{r:List UInt8}(h:c.toNat=10):ck (c :: r)=0:=by unfold ck;rw[List.takeWhile_cons_of_neg (by simp[h])];rfl
theorem yS{c:UInt8}{r:List UInt8}(h:c.toNat≠10):ck (c :: r)=1+ck r:=by unfold ck;rw[List.takeWhile_cons_of_pos (by simpa using h),List.length_cons];omega
end St
def SE(s:ByteArray)(s3:Value):Prop:=∃k:Nat,s3=Yh Yn k/\k<=65/\k<=s.size/\St.bI s.1.1=k+St.bI (s.1.1.drop k)
theorem ON(s:ByteArray)(w:Ys)(hs:s.size<=4611686018427387904):Calls Tryz.prog 77 #[Yi s] w λe w'=>e=Yp (Yh Yn ((min (St.bI s.1.1) 65:Nat):Int))/\w=w':=by
 go_enter Tryz.func77,Tryz.ntmps77;go_wp2;go_loop [3] (λi=>SE s i) (λi=>66-(intOf i).toNat)
 case atStart=>exact⟨0,rfl,by omega,by omega,by simp⟩
 case round=>
  obtain⟨k,rfl,h1,h2,h3⟩:=hrel;have HK:=aa h3;clear h3
  by_cases hlt:k<s.size
  ·have z:(k:Int)<s.size:=by omega
   by_cases V7:k<65
   ·have z2:(k:Int)<65:=by omega
    have av:=St.drop_at s k hlt;rcases(show(97<=s[k].toNat/\s[k].toNat<=122)\/(48<=s[k].toNat/\s[k].toNat<=57)\/(s[k].toNat=46)\/(s[k].toNat=95)\/(s[k].toNat=45)\/(s[k].toNat<45\/s[k].toNat=47)\/(58<=s[k].toNat/\s[k].toNat<97/\s[k].toNat≠95)\/(122<s[k].toNat)by omega)with hc|hc|hc|hc|hc|hc|hc|hc
    ·have hk:St.gj s[k]=true:=decide_eq_true (by omega);have y0:97<=(s[k].toNat:Int):=by omega
     have y1:(s[k].toNat:Int)<=122:=by omega
     clear hc;have HE:=aa (show St.bI s.1.1=k+1+St.bI (s.1.1.drop (k+1))by rw[HK.out,av,St.lq hk];omega);clear av hk;go_wp2;go_round
     case rel=>exact⟨k+1,by go_num,by omega,by omega,HE.out⟩
     case measure=>simp[intOf];omega
    ·have hk:St.gj s[k]=true:=decide_eq_true (by omega);have y0:¬97<=(s[k].toNat:Int):=by omega
     have y1:48<=(s[k].toNat:Int):=by omega
     have y2:(s[k].toNat:Int)<=57:=by omega
     clear hc;have HE:=aa (show St.bI s.1.1=k+1+St.bI (s.1.1.drop (k+1))by rw[HK.out,av,St.lq hk];omega);clear av hk;go_wp2;go_round
     case rel=>exact⟨k+1,by go_num,by omega,by omega,HE.out⟩
     case measure=>simp[intOf];omega
    ·have hk:St.gj s[k]=true:=decide_eq_true (by omega);have y0:¬97<=(s[k].toNat:Int):=by omega
     have y1:¬48<=(s[k].toNat:Int):=by omega
     have y2:((s[k].toNat:Int)==46)=true:=by simp;omega
     clear hc;have HE:=aa (show St.bI s.1.1=k+1+St.bI (s.1.1.drop (k+1))by rw[HK.out,av,St.lq hk];omega);clear av hk;go_wp2;go_round
     case rel=>exact⟨k+1,by go_num,by omega,by omega,HE.out⟩
     case measure=>simp[intOf];omega
    ·have hk:St.gj s[k]=true:=decide_eq_true (by omega);have y0:¬97<=(s[k].toNat:Int):=by omega
     have y1:48<=(s[k].toNat:Int):=by omega
     have y2:¬(s[k].toNat:Int)<=57:=by omega
     have y3:((s[k].toNat:Int)==46)=false:=by simp;omega
     have y4:((s[k].toNat:Int)==95)=true:=by simp;omega
     clear hc;have HE:=aa (show St.bI s.1.1=k+1+St.bI (s.1.1.drop (k+1))by rw[HK.out,av,St.lq hk];omega);clear av hk;go_wp2;go_round
     case rel=>exact⟨k+1,by go_num,by omega,by omega,HE.out⟩
     case measure=>simp[intOf];omega
    ·have hk:St.gj s[k]=true:=decide_eq_true (by omega);have y0:¬97<=(s[k].toNat:Int):=by omega
     have y1:¬48<=(s[k].toNat:Int):=by omega
     have y2:((s[k].toNat:Int)==46)=false:=by simp;omega
     have y3:((s[k].toNat:Int)==95)=false:=by simp;omega
     have y4:((s[k].toNat:Int)==45)=true:=by simp;omega
     clear hc;have HE:=aa (show St.bI s.1.1=k+1+St.bI (s.1.1.drop (k+1))by rw[HK.out,av,St.lq hk];omega);clear av hk;go_wp2;go_round
     case rel=>exact⟨k+1,by go_num,by omega,by omega,HE.out⟩
     case measure=>simp[intOf];omega
    ·have hk:St.gj s[k]=false:=decide_eq_false (by omega);have y0:¬97<=(s[k].toNat:Int):=by omega
     have y1:¬48<=(s[k].toNat:Int):=by omega
     have y2:((s[k].toNat:Int)==46)=false:=by simp;omega
     have y3:((s[k].toNat:Int)==95)=false:=by simp;omega
     have y4:((s[k].toNat:Int)==45)=false:=by simp;omega
     clear hc;have HE:=aa (show min (St.bI s.1.1) 65=k by rw[HK.out,av,St.ra hk];omega);clear av hk;go_wp2;go_ret;exact⟨ba (by rw[HE.out]),rfl⟩
    ·have hk:St.gj s[k]=false:=decide_eq_false (by omega);have y0:¬97<=(s[k].toNat:Int):=by omega
     have y1:48<=(s[k].toNat:Int):=by omega
     have y2:¬(s[k].toNat:Int)<=57:=by omega
     have y3:((s[k].toNat:Int)==46)=false:=by simp;omega
     have y4:((s[k].toNat:Int)==95)=false:=by simp;omega
     have y5:((s[k].toNat:Int)==45)=false:=by simp;omega
     clear hc;have HE:=aa (show min (St.bI s.1.1) 65=k by rw[HK.out,av,St.ra hk];omega);clear av hk;go_wp2;go_ret;exact⟨ba (by rw[HE.out]),rfl⟩
    have hk:St.gj s[k]=false:=decide_eq_false (by omega);have y0:97<=(s[k].toNat:Int):=by omega
    have y1:¬(s[k].toNat:Int)<=122:=by omega
    have y2:48<=(s[k].toNat:Int):=by omega
    have y3:¬(s[k].toNat:Int)<=57:=by omega
    have y4:((s[k].toNat:Int)==46)=false:=by simp;omega
    have y5:((s[k].toNat:Int)==95)=false:=by simp;omega
    have y6:((s[k].toNat:Int)==45)=false:=by simp;omega
    clear hc;have HE:=aa (show min (St.bI s.1.1) 65=k by rw[HK.out,av,St.ra hk];omega);clear av hk;go_wp2;go_ret;exact⟨ba (by rw[HE.out]),rfl⟩
   obtain rfl:k=65:=by omega
   have HE:=aa (show min (St.bI s.1.1) 65=65 by rw[HK.out];omega);clear V7;go_wp2;go_ret;exact⟨ba (by rw[HE.out];rfl),rfl⟩
  obtain rfl:k=s.size:=by omega
  have HE:=aa (show min (St.bI s.1.1) 65=s.size by rw[HK.out,List.drop_of_length_le (by simp),St.Dc];omega);clear hlt;go_wp2;go_ret;exact⟨ba (by rw[HE.out]),rfl⟩
def Nc(d:ByteArray)(T:Nat)(s1:Value):Prop:=∃k:Nat,s1=Yh Yn k/\((k<=d.size/\k+St.dk (d.1.1.drop k)=T)\/(k=d.size+1/\T=d.size))
theorem OC(d:ByteArray)(a:Nat)(w:Ys)(hd:d.size<=4611686018427387904)(ha:a<=d.size):Calls Tryz.prog 78 #[Yi d,Yh Yn a] w λe w'=>e=Yp (Yh Yn ((a+St.dk (d.1.1.drop a):Nat):Int))/\w=w':=by
 obtain⟨T,hT⟩:∃T,a+St.dk (d.1.1.drop a)=T:=⟨_,rfl⟩;have QP:T<=d.size:=by have:=St.lG (d.1.1.drop a);simp at this;omega
 rw[hT];go_enter Tryz.func78,Tryz.ntmps78;go_wp2;go_loop [1] (λi=>Nc d T i) (λi=>d.size+2-(intOf i).toNat)
 case atStart=>exact⟨a,rfl,.inl ⟨ha,hT⟩⟩
 case round=>
  clear hT;obtain⟨k,rfl,⟨hk,h3⟩|⟨rfl,rfl⟩⟩:=hrel
  ·have HK:=aa h3;clear h3
   by_cases hlt:k<d.size
   ·have z:(k:Int)<d.size:=by omega
    have av:=St.drop_at d k hlt
    by_cases bH:d[k].toNat=10
    ·have e10:((d[k].toNat:Int)==10)=true:=by simp;omega
     have f10:((d[k].toNat:Int) != 10)=false:=by simp;omega
     have HE:=aa (show T=k by have:=HK.out;rw[av,St.Ff bH]at this;omega);clear av bH;go_wp2;go_ret;exact⟨ba (by have:=HE.out;omega),rfl⟩
    have e10:((d[k].toNat:Int)==10)=false:=by simp;omega
    have f10:((d[k].toNat:Int) != 10)=true:=by simp;omega
    by_cases iL:d[k].toNat=92
    ·have zV:((d[k].toNat:Int)==92)=true:=by simp;omega
     by_cases JS:k+1<d.size
     ·have hc2:=St.drop_at d (k+1) JS;have HE:=aa (show k+2+St.dk (d.1.1.drop (k+1+1))=T by have:=HK.out;rw[av,hc2,St.Jm iL]at this;omega);clear av hc2 bH iL;go_wp2;go_round
      case rel=>exact⟨k+2,congrArg (Yh Yn) (by omega),.inl ⟨by omega,HE.out⟩⟩
      case measure=>simp[intOf];omega
     have hc2:d.1.1.drop (k+1)=[]:=List.drop_of_length_le (by simp;omega);have HE:=aa (show T=d.size by have:=HK.out;rw[av,hc2,St.Jl iL]at this;omega);clear av hc2 bH iL;go_wp2;go_round
     case rel=>exact⟨d.size+1,congrArg (Yh Yn) (by omega),.inr ⟨rfl,HE.out⟩⟩
     case measure=>simp[intOf];omega
    have zV:((d[k].toNat:Int)==92)=false:=by simp;omega
    have HE:=aa (show k+1+St.dk (d.1.1.drop (k+1))=T by have:=HK.out;rw[av,St.Jn bH iL]at this;omega);clear av bH iL;go_wp2;go_round
    case rel=>exact⟨k+1,congrArg (Yh Yn) (by omega),.inl ⟨by omega,HE.out⟩⟩
    case measure=>simp[intOf];omega
   obtain rfl:k=d.size:=by omega
   have HE:=aa (show T=d.size by have:=HK.out;rw[List.drop_of_length_le (by simp)]at this;exact this.symm);clear hlt;go_wp2;go_ret;exact⟨ba (by have:=HE.out;omega),rfl⟩
  have z:¬((d.size+1:Nat):Int)<d.size:=by omega
  go_wp2;go_ret;exact⟨ba (by omega),rfl⟩
theorem AX(d:ByteArray)(a:Nat)(w:Ys)(hd:d.size<=4611686018427387904)(ha:a<=d.size):Calls Tryz.prog 140 #[Yi d,Yh Yn a,Yk true] w λe w'=>e=Yp (Yh Yn ((a+St.dk (d.1.1.drop a):Nat):Int))/\w=w':=by
 obtain⟨T,hT⟩:∃T,a+St.dk (d.1.1.drop a)=T:=⟨_,rfl⟩;have QP:T<=d.size:=by have:=St.lG (d.1.1.drop a);simp at this;omega
 rw[hT];go_enter Tryz.func140,Tryz.ntmps140;go_wp2;go_loop [1] (λi=>Nc d T i) (λi=>d.size+2-(intOf i).toNat)
 case atStart=>exact⟨a,rfl,.inl ⟨ha,hT⟩⟩
 case round=>
  clear hT;obtain⟨k,rfl,⟨hk,h3⟩|⟨rfl,rfl⟩⟩:=hrel
  ·have HK:=aa h3;clear h3
   by_cases hlt:k<d.size
   ·have z:(k:Int)<d.size:=by omega
    have av:=St.drop_at d k hlt
    by_cases bH:d[k].toNat=10
    ·have e10:((d[k].toNat:Int)==10)=true:=by simp;omega
     have f10:((d[k].toNat:Int) != 10)=false:=by simp;omega
     have HE:=aa (show T=k by have:=HK.out;rw[av,St.Ff bH]at this;omega);clear av bH;go_wp2;go_ret;exact⟨ba (by have:=HE.out;omega),rfl⟩
    have e10:((d[k].toNat:Int)==10)=false:=by simp;omega
    have f10:((d[k].toNat:Int) != 10)=true:=by simp;omega
    by_cases iL:d[k].toNat=92
    ·have zV:((d[k].toNat:Int)==92)=true:=by simp;omega
     by_cases JS:k+1<d.size
     ·have hc2:=St.drop_at d (k+1) JS;have HE:=aa (show k+2+St.dk (d.1.1.drop (k+1+1))=T by have:=HK.out;rw[av,hc2,St.Jm iL]at this;omega);clear av hc2 bH iL;go_wp2;go_round
      case rel=>exact⟨k+2,congrArg (Yh Yn) (by omega),.inl ⟨by omega,HE.out⟩⟩
      case measure=>simp[intOf];omega
     have hc2:d.1.1.drop (k+1)=[]:=List.drop_of_length_le (by simp;omega);have HE:=aa (show T=d.size by have:=HK.out;rw[av,hc2,St.Jl iL]at this;omega);clear av hc2 bH iL;go_wp2;go_round
     case rel=>exact⟨d.size+1,congrArg (Yh Yn) (by omega),.inr ⟨rfl,HE.out⟩⟩
     case measure=>simp[intOf];omega
    have zV:((d[k].toNat:Int)==92)=false:=by simp;omega
    have HE:=aa (show k+1+St.dk (d.1.1.drop (k+1))=T by have:=HK.out;rw[av,St.Jn bH iL]at this;omega);clear av bH iL;go_wp2;go_round
    case rel=>exact⟨k+1,congrArg (Yh Yn) (by omega),.inl ⟨by omega,HE.out⟩⟩
    case measure=>simp[intOf];omega
   obtain rfl:k=d.size:=by omega
   have HE:=aa (show T=d.size by have:=HK.out;rw[List.drop_of_length_le (by simp)]at this;exact this.symm);clear hlt;go_wp2;go_ret;exact⟨ba (by have:=HE.out;omega),rfl⟩
  have z:¬((d.size+1:Nat):Int)<d.size:=by omega
  go_wp2;go_ret;exact⟨ba (by omega),rfl⟩
def Qj(d:ByteArray)(T:Nat)(s1:Value):Prop:=∃k:Nat,s1=Yh Yn k/\k<=d.size/\k+St.ck (d.1.1.drop k)=T
theorem Ba(d:ByteArray)(a:Nat)(w:Ys)(hd:d.size<=4611686018427387904)(ha:a<=d.size):Calls Tryz.prog 140 #[Yi d,Yh Yn a,Yk false] w λe w'=>e=Yp (Yh Yn ((a+St.ck (d.1.1.drop a):Nat):Int))/\w=w':=by
 obtain⟨T,hT⟩:∃T,a+St.ck (d.1.1.drop a)=T:=⟨_,rfl⟩;have QP:T<=d.size:=by have:=St.lr (d.1.1.drop a);simp at this;omega
 rw[hT];go_enter Tryz.func140,Tryz.ntmps140;go_wp2;go_loop [1] (λi=>Qj d T i) (λi=>d.size+2-(intOf i).toNat)
 case atStart=>exact⟨a,rfl,ha,hT⟩
 case round=>
  clear hT;obtain⟨k,rfl,hk,h3⟩:=hrel;have HK:=aa h3;clear h3
  by_cases hlt:k<d.size
  ·have z:(k:Int)<d.size:=by omega
   have av:=St.drop_at d k hlt
   by_cases bH:d[k].toNat=10
   ·have e10:((d[k].toNat:Int)==10)=true:=by simp;omega
    have f10:((d[k].toNat:Int) != 10)=false:=by simp;omega
    have HE:=aa (show T=k by have:=HK.out;rw[av,St.Mg bH]at this;omega);clear av bH;go_wp2;go_ret;exact⟨ba (by have:=HE.out;omega),rfl⟩
   have e10:((d[k].toNat:Int)==10)=false:=by simp;omega
   have f10:((d[k].toNat:Int) != 10)=true:=by simp;omega
   have HE:=aa (show k+1+St.ck (d.1.1.drop (k+1))=T by have:=HK.out;rw[av,St.yS bH]at this;omega);clear av bH;go_wp2;go_round
   case rel=>exact⟨k+1,congrArg (Yh Yn) (by omega),by omega,HE.out⟩
   case measure=>simp[intOf];omega
  obtain rfl:k=d.size:=by omega
  have HE:=aa (show T=d.size by have:=HK.out;rw[List.drop_of_length_le (by simp)]at this;exact this.symm);clear hlt;go_wp2;go_ret;exact⟨ba (by have:=HE.out;omega),rfl⟩
theorem Ek(c:UInt8)(w:Ys):Calls Tryz.prog 141 #[Yh .u8 (c.toNat:Int)] w λe w'=>e=Yp (Yk (St.gj c))/\w=w':=by
 rcases(show(97<=c.toNat/\c.toNat<=122)\/(48<=c.toNat/\c.toNat<=57)\/(c.toNat=46)\/(c.toNat=95)\/(c.toNat=45)\/(c.toNat<45\/c.toNat=47)\/(58<=c.toNat/\c.toNat<97/\c.toNat≠95)\/(122<c.toNat)by omega)with hc|hc|hc|hc|hc|hc|hc|hc
 ·have hk:St.gj c=true:=decide_eq_true (by omega);have y0:97<=(c.toNat:Int):=by omega
  have y1:(c.toNat:Int)<=122:=by omega
  clear hc;rw[hk];clear hk;go_enter Tryz.func141,Tryz.ntmps141;go_wp2;go_ret;exact⟨rfl,rfl⟩
 ·have hk:St.gj c=true:=decide_eq_true (by omega);have y0:¬97<=(c.toNat:Int):=by omega
  have y1:48<=(c.toNat:Int):=by omega
  have y2:(c.toNat:Int)<=57:=by omega
  clear hc;rw[hk];clear hk;go_enter Tryz.func141,Tryz.ntmps141;go_wp2;go_ret;exact⟨rfl,rfl⟩
 ·have hk:St.gj c=true:=decide_eq_true (by omega);have y0:¬97<=(c.toNat:Int):=by omega
  have y1:¬48<=(c.toNat:Int):=by omega
  have y2:((c.toNat:Int)==46)=true:=by simp;omega
  clear hc;rw[hk];clear hk;go_enter Tryz.func141,Tryz.ntmps141;go_wp2;go_ret;exact⟨rfl,rfl⟩
 ·have hk:St.gj c=true:=decide_eq_true (by omega);have y0:¬97<=(c.toNat:Int):=by omega
  have y1:48<=(c.toNat:Int):=by omega
  have y2:¬(c.toNat:Int)<=57:=by omega
  have y3:((c.toNat:Int)==46)=false:=by simp;omega
  have y4:((c.toNat:Int)==95)=true:=by simp;omega
  clear hc;rw[hk];clear hk;go_enter Tryz.func141,Tryz.ntmps141;go_wp2;go_ret;exact⟨rfl,rfl⟩
 ·have hk:St.gj c=true:=decide_eq_true (by omega);have y0:¬97<=(c.toNat:Int):=by omega
  have y1:¬48<=(c.toNat:Int):=by omega
  have y2:((c.toNat:Int)==46)=false:=by simp;omega
  have y3:((c.toNat:Int)==95)=false:=by simp;omega
  have y4:((c.toNat:Int)==45)=true:=by simp;omega
  clear hc;rw[hk];clear hk;go_enter Tryz.func141,Tryz.ntmps141;go_wp2;go_ret;exact⟨rfl,rfl⟩
 ·have hk:St.gj c=false:=decide_eq_false (by omega);have y0:¬97<=(c.toNat:Int):=by omega
  have y1:¬48<=(c.toNat:Int):=by omega
  have y2:((c.toNat:Int)==46)=false:=by simp;omega
  have y3:((c.toNat:Int)==95)=false:=by simp;omega
  have y4:((c.toNat:Int)==45)=false:=by simp;omega
  clear hc;rw[hk];clear hk;go_enter Tryz.func141,Tryz.ntmps141;go_wp2;go_ret;exact⟨rfl,rfl⟩
 ·have hk:St.gj c=false:=decide_eq_false (by omega);have y0:¬97<=(c.toNat:Int):=by omega
  have y1:48<=(c.toNat:Int):=by omega
  have y2:¬(c.toNat:Int)<=57:=by omega
  have y3:((c.toNat:Int)==46)=false:=by simp;omega
  have y4:((c.toNat:Int)==95)=false:=by simp;omega
  have y5:((c.toNat:Int)==45)=false:=by simp;omega
  clear hc;rw[hk];clear hk;go_enter Tryz.func141,Tryz.ntmps141;go_wp2;go_ret;exact⟨rfl,rfl⟩
 have hk:St.gj c=false:=decide_eq_false (by omega);have y0:97<=(c.toNat:Int):=by omega
 have y1:¬(c.toNat:Int)<=122:=by omega
 have y2:48<=(c.toNat:Int):=by omega
 have y3:¬(c.toNat:Int)<=57:=by omega
 have y4:((c.toNat:Int)==46)=false:=by simp;omega
 have y5:((c.toNat:Int)==95)=false:=by simp;omega
 have y6:((c.toNat:Int)==45)=false:=by simp;omega
 clear hc;rw[hk];clear hk;go_enter Tryz.func141,Tryz.ntmps141;go_wp2;go_ret;exact⟨rfl,rfl⟩
def Sz(l:List St.Pt)(k:List UInt8)(i:Value):Prop:=∃j:Nat,i=Yh Yn j/\j<=l.length/\St.eC l k=St.eC (l.drop j) k
theorem JK(p:St.Pt)(l:List St.Pt)(k:List UInt8):St.eC (p :: l) k=((p.1&&decide (p.2.1=k)) || St.eC l k):=by unfold St.eC;rw[List.any_cons]
theorem og(A:Option Addr)(n c:Nat)(l:List St.Pt)(k:ByteArray)(w:Ys)(hn:l.length=n)(hnc:n<=c)(hc:c<=9223372036854775807)(h:bk w A l):Calls Tryz.prog 142 #[Yj A n c,Yi k] w λe w'=>e=Yp (Yk (St.eC l k.1.1))/\w=w':=by
 have HP:=aa h;clear h;go_enter Tryz.func142,Tryz.ntmps142;go_wp2;go_loop [8] (λi=>Sz l k.1.1 i) (λi=>l.length+1-(intOf i).toNat)
 case atStart=>exact⟨0,rfl,by omega,by simp⟩
 case round=>
  obtain⟨j,rfl,hj,h3⟩:=hrel;have HK:=aa h3;clear h3
  by_cases hlt:j<l.length
  ·have z:(j:Int)<n:=by omega
   obtain⟨b,o,rfl,hb,hcl⟩:=HP.out (by omega);obtain⟨x1,x2,x3⟩:=hcl j hlt;haveI:af b w:=af.of hb;have av:l.drop j=l[j] :: l.drop (j+1):=List.drop_eq_getElem_cons hlt;generalize l[j]=p at x1 x2 x3 av;obtain⟨p1,p2,p3⟩:=p;simp only at x1 x2 x3;obtain⟨ky,nN⟩:∃ky:ByteArray,ky=⟨p2.toArray⟩:=⟨_,rfl⟩;rw[<-nN]at x2;have hkl:ky.toList=p2:=by rw[Lib.toList_data,nN]
   have hst:=HK.out;rw[av,JK]at hst;clear hcl av x3 nN;cases p1
   ·have HE:=aa (show St.eC l k.1.1=St.eC (l.drop (j+1)) k.1.1 by rw[hst];simp);clear hst hkl;go_wp2;exact⟨⟨j+1,by simp,by omega,HE.out⟩,by simp[intOf];omega⟩
   by_cases hq:p2=k.1.1
   ·have e1:(ky.toList==k.toList)=true:=by rw[hkl,Lib.toList_data,hq];simp
    have HE:=aa (show St.eC l k.1.1=true by rw[hst];simp[hq]);clear hst hq hkl;go_wp2;go_ret;exact⟨az HE.out.symm,rfl⟩
   have e1:(ky.toList==k.toList)=false:=by rw[hkl,Lib.toList_data];simpa using hq
   have HE:=aa (show St.eC l k.1.1=St.eC (l.drop (j+1)) k.1.1 by rw[hst];simp[hq]);clear hst hq hkl;go_wp2;exact⟨⟨j+1,by simp,by omega,HE.out⟩,by simp[intOf];omega⟩
  obtain rfl:j=l.length:=by omega
  have z:¬(l.length:Int)<n:=by omega
  have HE:=aa (show St.eC l k.1.1=false by rw[HK.out];simp[St.eC]);clear hlt;go_wp2;go_ret;exact⟨az HE.out.symm,rfl⟩
end
section
def mY:Nat->List (List UInt8)->List MapEntry
 | _,[]=>[]
 | n,p :: l=>{ key:=Yi ⟨p.toArray⟩,val:=Yk true,born:=n } :: mY (n+1) l
theorem AE(k:List UInt8):∀(l:List (List UInt8)) (n:Nat),mY n (l++[k])=mY n l++[{ key:=Yi ⟨k.toArray⟩,val:=Yk true,born:=n+l.length }]
 | [],n=>by simp[mY]
 | p :: l,n=>by
  simp only[List.cons_append,mY,AE k l (n+1),List.length_cons];rw[show n+1+l.length=n+(l.length+1)by omega]
def MV(w:Ys)(B mb:Nat)(l:List (List UInt8)):Prop:=B<=mb/\w.1[mb]?=some (.map (mY 0 l).toArray l.length)
def mB(w:Ys)(mb:Nat)(l:List (List UInt8)):Ys:={ w with heap:=w.heap.setIfInBounds mb (.map (mY 0 l).toArray l.length) }
theorem MV.ai{a c:Ys}{B mb:Nat}{l:List (List UInt8)}(h:MV a B mb l)(u:ac a c):MV c B mb l:=⟨h.1,(u.below.block mb (ae h.2)).trans h.2⟩
theorem MV.put{w:Ys}{B mb:Nat}{l l':List (List UInt8)}(h:MV w B mb l):MV (mB w mb l') B mb l':=by
 refine⟨h.1,?_⟩;have:=ae h.2
 unfold mB;simp[this]
theorem Bc(w:Ys)(mb:Nat)(l:List (List UInt8)):w.grownBy (mB w mb l) (some mb):=by
 refine⟨rfl,rfl,rfl,by simp[mB],λk hk hne=>?_⟩;unfold mB;simp only;rw[Array.getElem?_setIfInBounds_ne (by intro e;exact hne (by rw[e]))]
theorem vZ(k p:List UInt8):Instr.sameNow .string (.string ⟨k.toArray⟩) (.string ⟨p.toArray⟩)=some (decide (k=p)):=by
 unfold Instr.sameNow;have e:((⟨k.toArray⟩:ByteArray)==⟨p.toArray⟩)=(k.toArray==p.toArray):=rfl;simp only[e];congr 1;rw[Bool.eq_iff_iff];simp
theorem rN(k:List UInt8):∀(l:List (List UInt8)) (n i:Nat),k ∉ l->Instr.findNow .string (.string ⟨k.toArray⟩) (mY n l) i=some none
 | [],n,i,_=>rfl
 | p :: l,n,i,h=>by
  simp only[List.mem_cons,not_or]at h;simp only[mY,Instr.findNow,vZ,decide_eq_false h.1];exact rN k l _ _ h.2
theorem xc(k:List UInt8):∀(l:List (List UInt8)) (n i:Nat),k∈l->∃j,Instr.findNow .string (.string ⟨k.toArray⟩) (mY n l) i=some (some (j,.bool true))
 | [],n,i,h=>by cases h
 | p :: l,n,i,h=>by
  by_cases e:k=p
  ·exact⟨i,by simp only[mY,Instr.findNow,vZ,decide_eq_true e]⟩
  obtain⟨j,hj⟩:=xc k l (n+1) (i+1) (by simpa[e]using h);exact⟨j,by simp only[mY,Instr.findNow,vZ,decide_eq_false e];exact hj⟩
theorem MM(w:Ys)(B mb:Nat)(l:List (List UInt8))(k:List UInt8)(h:MV w B mb l) :
  (Instr.lookup 115 (.map (some mb)) (Yi ⟨k.toArray⟩) false).run Tryz.prog w=.ok (Yk (decide (k∈l))) w:=by
 have hm:Tryz.prog.underlying 115=some (.map 9 4):=by kernel_rfl
 have hd:Tryz.prog.underlying 9=some .string:=by kernel_rfl
 have hb:=h.2;have hk:MapKept.IsKey .string (.string ⟨k.toArray⟩):=by simp[MapKept.IsKey]
 have hz:(zeroValue 4).run Tryz.prog w=.ok (Yk false) w:=by go_simp
 by_cases hkl:k∈l
 ·obtain⟨j,hf⟩:=xc k l 0 0 hkl;simp[Instr.lookup,run_underlying hm,MapKept.run_getObj_map hb,MapKept.run_checkKey hd hk,MapKept.run_findKey hd hf,Result.andThen,hkl]
 have hf:=rN k l 0 0 hkl;simp[Instr.lookup,run_underlying hm,MapKept.run_getObj_map hb,MapKept.run_checkKey hd hk,MapKept.run_findKey hd hf,hz,Result.andThen,hkl]
theorem MN(w:Ys)(B mb:Nat)(l:List (List UInt8))(k:List UInt8)(h:MV w B mb l)(hkl:k ∉ l) :
  (Instr.mapUpdate 115 (.map (some mb)) (Yi ⟨k.toArray⟩) (Yk true)).run Tryz.prog w=.ok () (mB w mb (l++[k])):=by
 have hm:Tryz.prog.underlying 115=some (.map 9 4):=by kernel_rfl
 have hd:Tryz.prog.underlying 9=some .string:=by kernel_rfl
 have hb:=h.2;have hk:MapKept.IsKey .string (.string ⟨k.toArray⟩):=by simp[MapKept.IsKey]
 have hf:=rN k l 0 0 hkl;simp[Instr.mapUpdate,run_underlying hm,MapKept.run_getObj_map hb,MapKept.run_checkKey hd hk,MapKept.run_findKey hd hf,MapKept.run_setObj_map _ hb,Result.andThen];simp[mB,AE]
end
section
theorem kk(d:ByteArray)(w:Ys):Calls Tryz.prog 75 #[Yi d] w λe w'=>e=Yp (Yl (some ⟨w.1.size,0,none⟩))/\w'=w.alloc (.cells #[Yi d,Yh Yn 0,Yj none 0 0] 161):=by
 go_enter Tryz.func75,Tryz.ntmps75;go_wp2;go_ret;exact⟨rfl,rfl⟩
def jJ(d:ByteArray):List St.Pt × Nat × Int:=St.lc dE d.1.1
def aG(R:List St.Pt × Nat × Int)(w:Ys)(e:Ending)(w':Ys):Prop:=
 ∃(A:Option Addr) (c:Nat),e=Yp (Ym #[Yj A R.1.length c,Yh Yn (R.2.1:Int),Yh Yn R.2.2])/\bk w' A R.1/\R.1.length<=c/\c<=9223372036854775807/\ac w w'
theorem aG.err{R:List St.Pt × Nat × Int}{w w':Ys}{a:Nat}{er:Int}(h:R=([],a,er))(u:ac w w')(m:Int)(hm:m=a):aG R w (Yp (Ym #[Yj none 0 0,Yh Yn m,Yh Yn er])) w':=by
 subst h hm;exact⟨none,0,rfl,λh=>absurd h (by simp),by simp,by omega,u⟩
def ia(ps:List St.Pt):List (List UInt8):=ps.filterMap λp=>if p.1 then some p.2.1 else none
theorem Aj(ps:List St.Pt)(k:List UInt8):St.eC ps k=decide (k∈ia ps):=by
 rw[Bool.eq_iff_iff];unfold St.eC ia;simp only[List.any_eq_true,Bool.and_eq_true,decide_eq_true_eq,List.mem_filterMap];constructor
 ·rintro ⟨p,hp,h1,h2⟩;exact⟨p,hp,by rw[if_pos h1,h2]⟩
 rintro ⟨p,hp,h⟩
 split at h
 ·rename_i h1;exact⟨p,hp,h1,by simpa using h⟩
 cases h
theorem Hp(d:List UInt8)(s:St.PS)(a b:Nat)(k:List UInt8):ia (St.bi d s a b k).1=ia s.1++[k]:=by
 unfold St.bi ia;simp
def SU(w:Ys)(d:ByteArray)(s3:Value)(wr:Ys):Prop:=
 ∃(a fuel:Nat) (s:St.PS),s3=Yh Yn a/\a<=d.size/\d.size-a<fuel/\s.2<=a/\s.1.length<=2*a/\PV wr w.1.size w.1.size d s/\MV wr w.1.size (w.1.size+1) (ia s.1)/\jJ d=St.dP d.1.1 (St.de dE d.1.1 fuel a s)/\ac w wr
theorem IF(w:Ys)(o p:Obj):ac w ((w.alloc o).alloc p):=uZ
theorem MV.kept{a c:Ys}{B mb:Nat}{l:List (List UInt8)}(h:MV a B mb l)(k:nv a c):MV c B mb l:=⟨h.1,k _ _ _ h.2⟩
theorem PV.map{a:Ys}{B pb mb:Nat}{d:ByteArray}{s:St.PS}{l l':List (List UInt8)}(h:PV a B pb d s)(hm:MV a B mb l):PV (mB a mb l') B pb d s:=by
 obtain⟨h0,v,h1,h2⟩:=h;have g:=Bc a mb l'
 have hne:∀ {cs T fr},a.1[pb]?=some (Obj.cells cs T fr)->pb≠mb:=λhp e=>by
  subst e;rw[hm.2]at hp;cases hp
 refine⟨h0,v,(g.block pb (ae h1) (by simpa using hne h1)).trans h1,h2.kept g ?_⟩;cases hv:v.ownBlock with
 | none=>exact .inl rfl
 | some x=>
  refine .inr λe=>?_
  obtain⟨cs,T,fr,hx,_⟩:=jt h2 [64] (by simp) x hv;simp only[Option.some.injEq]at e;subst e;rw[hm.2]at hx;cases hx
theorem IJ(d:ByteArray)(w:Ys)(fU:d.size<=4611686018427387904):Calls Tryz.prog 42 #[Yi d] w (aG (jJ d) w):=by
 have hlen:=St.aC d
 by_cases hbig:65536<d.size
 ·have hR:jJ d=([],0,3):=by unfold jJ St.lc;rw[if_pos (by omega)]
  have HR:=aa hR;have hb:(65536:Int)<d.size:=by omega
  clear hR hlen;go_enter Tryz.func42,Tryz.ntmps42;go_wp2;go_ret3;exact aG.err HR.out (ac.refl _) _ rfl
 have hb:¬(65536:Int)<d.size:=by omega
 have hd:d.size<=65536:=by omega
 have hmk:∀W,(Instr.makeMap 115 none).run Tryz.prog W=.ok (.map (some W.1.size)) (W.alloc (.map #[] 0)):=λ_=>rfl
 have lJ:PV ((w.alloc (.cells #[Yi d,Yh Yn 0,Yj none 0 0] 161)).alloc (.map #[] 0)) w.1.size w.1.size d ([],0):=
  PV.ai ⟨Nat.le_refl _,Yj none 0 0,heap_alloc_new w _,World.ownsRow_nil _ _ _ _⟩ ((ac.refl _).alloc _)
 have TR:MV ((w.alloc (.cells #[Yi d,Yh Yn 0,Yj none 0 0] 161)).alloc (.map #[] 0)) w.1.size (w.1.size+1) (ia []):=by
  refine⟨Nat.le_succ _,?_⟩;have:=heap_alloc_new (w.alloc (.cells #[Yi d,Yh Yn 0,Yj none 0 0] 161)) (.map #[] 0)
  simpa[ia,mY]using this
 have tF:jJ d=St.dP d.1.1 (St.de dE d.1.1 (d.size+1) 0 ([],0)):=by
  unfold jJ;rw[St.qj (by omega),hlen]
 have jM:=aa (And.intro lJ (And.intro TR (And.intro tF (IF w (.cells #[Yi d,Yh Yn 0,Yj none 0 0] 161) (.map #[] 0)))));have HLEN:=aa hlen;clear lJ TR tF hlen;go_enter Tryz.func42,Tryz.ntmps42;go_wp2_with (go_at_call 75;refine(kk d _).mono ?_;rintro e w' ⟨rfl,rfl⟩);go_loopw [3] (λs3 wr=>SU w d s3 wr) (λs3 _=>d.size+1-(intOf s3).toNat)
 case atStart=>exact⟨0,d.size+1,([],0),rfl,by omega,by omega,by simp,by simp,jM.out.1,jM.out.2.1,jM.out.2.2.1,jM.out.2.2.2⟩
 case round=>
  obtain⟨a,fuel,s,rfl,ha,hfu,hs2,hs1,hP,hM,hS,hu⟩:=hrel;have HP:=aa hP;have HM:=aa hM;have HS:=aa hS;have HU:=aa hu;have hsz:=hu.size;clear hP hM hS hu jM
  by_cases hlt:a<d.size
  ·obtain⟨fuel,rfl⟩:∃m,fuel=m+1:=⟨fuel-1,by omega⟩;have ek:=aa (show ¬d.1.1.length<=a by rw[HLEN.out];omega);have z:(a:Int)<d.size:=by omega
   have zE:=aa (EI d a wr ha fU);go_wp2_with fail;refine zE.out.mono ?_;rintro e w2 ⟨rfl,hu2⟩;have aX:=aa (HU.out.trans hu2);have gR:=aa (HP.out.ai hu2);have zy:=aa (HM.out.ai hu2);have kS:=hu2.size;clear hu2 HP HM HU zE;cases hk:St.dQ (d.1.1.drop a)with
   | true=>
    have hst:=St.kt (dE:=dE) (fuel:=fuel) (s:=s) ek.out hk;have iQ:=HS.out.trans (congrArg (St.dP d.1.1) hst);rw[HLEN.out]at iQ;have HST:=aa iQ;generalize St.ck (d.1.1.drop a)=n at HST;clear hst iQ hk;go_wp2;exact⟨⟨min (a+n+1) d.size,fuel,s,congrArg (Yh Yn) (by omega),by omega,by omega,by omega,by omega,gR.out,zy.out,HST.out,aX.out⟩,by simp[intOf];omega⟩
   | false=>
    obtain⟨x,hE⟩:∃x,d.extract a d.size=x:=⟨_,rfl⟩;have hxl:x.1.1=d.1.1.drop a:=by rw[<-hE];simp;exact List.take_of_length_le (by simp)
    have hxs:x.size=d.size-a:=by rw[<-hE];simp
    have nN:=λW=>ON x W (by omega)
    have hkl:=St.FC (d.1.1.drop a);rw[List.length_drop,HLEN.out]at hkl;have hbad:=λh2=>St.si (dE:=dE) (fuel:=fuel) (s:=s) ek.out hk h2
    have kR:=λh2 h3=>St.sj (dE:=dE) (fuel:=fuel) (s:=s) ek.out hk h2 h3
    have fV:=λh2 h3 b t hb ht h4=>St.sk (dE:=dE) (fuel:=fuel) (s:=s) ek.out hk h2 h3 (b:=b) (t:=t) rfl hb ht h4
    have iF:=λh2 h3 b t hb ht h4=>St.nS (dE:=dE) (fuel:=fuel) (s:=s) ek.out hk h2 h3 (b:=b) (t:=t) rfl hb ht h4
    rw[hxl]at nN;generalize hn:St.bI (d.1.1.drop a)=n at nN hkl hbad kR fV iF;have iH:=aa hbad;have Gh:=aa kR;have Gj:=aa fV;have BC:=aa iF;have y1:(a:Int)<=d.size:=by omega
    clear hbad kR fV iF hn hxl hk
    by_cases n0:n=0
    ·subst n0;have HR:=aa (HS.out.trans (congrArg (St.dP d.1.1) (iH.out (.inl rfl))));have zw:=aa nN;clear nN;go_wp2_with fail;refine(zw.out _).mono ?_;rintro e w3 ⟨rfl,rfl⟩;go_wp2;go_ret3;exact aG.err HR.out aX.out _ rfl
    by_cases WJ:64<n
    ·have Aq:min n 65=65:=by omega
     rw[Aq]at nN;have HR:=aa (HS.out.trans (congrArg (St.dP d.1.1) (iH.out (.inr (.inl WJ)))));have zw:=aa nN;clear nN;go_wp2_with fail;refine(zw.out _).mono ?_;rintro e w3 ⟨rfl,rfl⟩;go_wp2;go_ret3;exact aG.err HR.out aX.out _ rfl
    have Aq:min n 65=n:=by omega
    rw[Aq]at nN;have zw:=aa nN;have y2:¬(n:Int)<1:=by omega
    have y3:¬(64:Int)<n:=by omega
    clear nN Aq
    by_cases Wi:d.size<=a+n
    ·have y4:(d.size:Int)<=(a:Int)+n:=by omega
     have HR:=aa (HS.out.trans (congrArg (St.dP d.1.1) (iH.out (.inr (.inr (by rw[List.drop_of_length_le (by rw[HLEN.out];exact Wi)];simp))))));go_wp2_with fail;refine(zw.out _).mono ?_;rintro e w3 ⟨rfl,rfl⟩;go_wp2;go_ret3;exact aG.err HR.out aX.out _ rfl
    have y4:¬(d.size:Int)<=(a:Int)+n:=by omega
    have hal:a+n<d.size:=by omega
    have y5:((a:Int)+n).toNat=a+n:=by omega
    have av:=St.drop_at d (a+n) hal
    by_cases wQ:d[a+n].toNat=61
    ·have Fb:((d[a+n].toNat:Int)==61)=true:=by simp;omega
     have f61:((d[a+n].toNat:Int) != 61)=false:=by simp;omega
     have fP:¬(n=0\/64<n\/((d.1.1.drop (a+n)).head?.map UInt8.toNat)≠some 61):=by rw[av];simp;omega
     obtain⟨ky,hkyE⟩:∃ky,d.extract a (a+n)=ky:=⟨_,rfl⟩;have hkc:St.a6 d.1.1 a (a+n)=ky.1.1:=by rw[<-hkyE,eR]
     have hget:=λW (h:MV W w.1.size (w.1.size+1) (ia s.1))=>MM W w.1.size (w.1.size+1) (ia s.1) ky.1.1 h
     rw[bn]at hget;have y6:(a:Int)<=(a:Int)+n:=by omega
     have y7:(a:Int)+n<=d.size:=by omega
     cases hin:decide (ky.1.1∈ia s.1)with
     | true=>
      rw[hin]at hget;have HR:=aa (HS.out.trans (congrArg (St.dP d.1.1) (Gh.out fP (by rw[hkc,Aj];exact hin))));have hg2:=hget _ zy.out;have HG:=aa hget;clear hget av wQ fP hkc hin;go_wp2_with fail;refine(zw.out _).mono ?_;rintro e w3 ⟨rfl,rfl⟩;go_wp2;go_ret3;exact aG.err HR.out aX.out _ rfl
     | false=>
      rw[hin]at hget;have hkn:ky.1.1 ∉ ia s.1:=of_decide_eq_false hin;have hput:=MN w2 w.1.size (w.1.size+1) (ia s.1) ky.1.1 zy.out hkn;rw[bn]at hput;have hno:St.eC s.1 (St.a6 d.1.1 a (a+n))=false:=by rw[hkc,Aj];exact hin
      have hg2:=hget _ zy.out;have hgb:=Bc w2 (w.1.size+1) (ia s.1++[ky.1.1]);have zB:=aa (gR.out.map (l':=ia s.1++[ky.1.1]) zy.out);have PU:=aa (zy.out.put (l':=ia s.1++[ky.1.1]));have a7:=aa (aX.out.uG hgb (λg e=>by cases e;exact Nat.le_succ _));obtain⟨w3,hw3⟩:∃w3,mB w2 (w.1.size+1) (ia s.1++[ky.1.1])=w3:=⟨_,rfl⟩;rw[hw3]at hput zB PU a7;obtain⟨b,hb'⟩:∃b,a+n+1=b:=⟨_,rfl⟩;have hen:=λW=>OC d b W fU (by omega)
      obtain⟨t,ht⟩:∃t,b+St.dk (d.1.1.drop b)=t:=⟨_,rfl⟩;have htl:t<=d.size:=by have:=St.lG (d.1.1.drop b);simp at this;omega
      have kW:b<=t:=by omega
      rw[ht]at hen;have tC:=Gj.out fP hno b t hb' ht;have sH:=BC.out fP hno b t hb' ht;rw[hkc]at sH;obtain⟨x2,hx2⟩:∃x2,d.extract b t=x2:=⟨_,rfl⟩;have hc2:St.a6 d.1.1 b t=x2.1.1:=by rw[<-hx2,eR]
      rw[hc2,lf]at tC sH;have Hi:x2.size<=d.size:=by rw[<-hx2];simp;omega
      have eG:=λW=>va x2 W (by omega)
      have nO:=yX x2;have hun:=λW (hp:PV W w.1.size w.1.size d s) (hw:w.1.size<=W.1.size)=>wk W w.1.size w.1.size d ky s b t hp (by omega) kW htl fU (by omega) hw
      have hbz:((b:Nat):Int)=(a:Int)+n+1:=by omega
      have sV:=aa hen;have HH:=aa (And.intro tC sH);have iI:=aa hun;have b1:(b:Int)<=(t:Int):=by omega
      have b2:(t:Int)<=d.size:=by omega
      generalize iY x2=R at eG HH nO;obtain⟨rf,rc,iD,re⟩:=R;simp only at HH nO;have jd:=aa eG;have PO:=aa (Hp d.1.1 s b t ky.1.1);clear hget av wQ fP hkc hin hno hen ht hc2 tC sH eG hun hgb hw3 hkn;rw[hbz]at sV iI;go_wp2_with fail;refine(zw.out _).mono ?_;rintro e w4 ⟨rfl,rfl⟩;go_wp2_with fail;refine(sV.out _).mono ?_;rintro e w5 ⟨rfl,rfl⟩;go_wp2_with fail;refine(jd.out _).mono ?_;rintro e w6 ⟨A6,c6,rfl,_,_,_,dD⟩;have eu:=aa (a7.out.trans dD);have sy:=aa (zB.out.ai dD);have Ti:=aa (PU.out.ai dD);have C0:=eu.out.size;clear dD a7 zB PU jd hput hg2
      by_cases hre:re=0
      ·subst hre;go_wp2_with fail;refine(iI.out _ sy.out C0).mono ?_;rintro e w7 ⟨rfl,hp7,hbl7,_,hmk7⟩;have zC:=aa hp7;have VH:=aa (Ti.out.kept hmk7);have lE:=aa (ac.cn (Below.trans eu.out.below hbl7));have iQ:=HS.out.trans (congrArg (St.dP d.1.1) (HH.out.2 (by first|trivial|rfl)));rw[HLEN.out]at iQ;have HST:=aa iQ;clear hp7 hbl7 hmk7 iQ iI sy Ti eu;go_wp2;exact⟨⟨min (t+1) d.size,fuel,_,congrArg (Yh Yn) (by omega),by omega,by omega,by simp[St.bi];omega,by simp[St.bi];omega,zC.out,by rw[PO.out];exact VH.out,HST.out,lE.out⟩,by simp[intOf];omega⟩
      have Fw:(re==0)=false:=by simpa using hre
      have HR:=aa (HS.out.trans (congrArg (St.dP d.1.1) (HH.out.1 hre)));go_wp2;go_ret3;exact aG.err HR.out eu.out _ (by omega)
    have Fb:((d[a+n].toNat:Int)==61)=false:=by simp;omega
    have f61:((d[a+n].toNat:Int) != 61)=true:=by simp;omega
    have HR:=aa (HS.out.trans (congrArg (St.dP d.1.1) (iH.out (.inr (.inr (by rw[av];simp;omega))))));clear av wQ;go_wp2_with fail;refine(zw.out _).mono ?_;rintro e w3 ⟨rfl,rfl⟩;go_wp2;go_ret3;exact aG.err HR.out aX.out _ rfl
  have JI:a=d.size:=by omega
  have HL:=aa (vI wr w.1.size w.1.size d s HP.out (by omega) (by omega) (by omega) hsz);have HR:=aa (HS.out.trans (show St.dP d.1.1 (St.de dE d.1.1 fuel a s)=(St.cI d.1.1 s,0,0)by rw[St.lA (by rw[HLEN.out];omega)];rfl));have z:¬(a:Int)<d.size:=by omega
  go_wp2_with fail;refine HL.out.mono ?_;rintro e w3 ⟨A,c,rfl,lK,hq1,hq2,hbl⟩;have HE:=aa (And.intro lK (ac.cn (Below.trans HU.out.below hbl)));have mW:=aa hq1;clear lK hbl hq1 HL;go_wp2;go_ret3;unfold aG;rw[HR.out];exact⟨A,c,by simp[St.cI],HE.out.1,by simpa[St.cI]using mW.out,hq2,HE.out.2⟩
end
section
end
