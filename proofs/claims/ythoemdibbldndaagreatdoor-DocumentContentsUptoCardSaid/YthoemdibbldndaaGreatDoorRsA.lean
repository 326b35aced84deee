/- Plain: the elements of a resource's raw value, and the pieces that the maker writes. -/
import Derived.Test.YthoemdibbldndaaGreatDoorShelf
import Derived.Test.YthoemdibbldndaaGreatDoorFacts
import Derived.Shelf.Strings.SlTrimAscii
import Derived.Lib.IndexBytes
import Derived.BigQuiet
import Derived.IntWalk
import Derived.MapKept
import Derived.Test.YthoemdibbldndaaGreatDoorRefSame
set_option linter.unusedVariables false
set_option linter.unusedSimpArgs false
set_option maxHeartbeats 12800000
set_option maxRecDepth 20000
namespace Go.Proofs.YthoemdibbldndaaGreatDoor.St
def escL(d:UInt8):Option UInt8:=
 if d.toNat=110 then some 10 else if d.toNat=116 then some 9 else if d.toNat=115 then some 32 else if d.toNat=114 then some 13 else if d.toNat=92 then some 92 else if d.toNat=123 then some 123 else none
def blkC(c:UInt8):Bool:=decide (c.toNat=32∨c.toNat=9)
def blkN(l:List UInt8):Nat:=(l.takeWhile blkC).length
def escN:List UInt8->El
 | []=>none
 | d :: r'=>if d.toNat=10 then some (0,[],2+blkN r') else (escL d).map fun e=>(1,[e],2)
def resL:List UInt8->El
 | []=>none
 | c :: r=>
  if c.toNat=10 then none else
  if c.toNat=92 then escN r else
  if c.toNat=123 then (slotL (c :: r)).map fun x=>(5,x.1,x.2) else some (1,[c],1)
theorem res_10{c:UInt8}{r:List UInt8}(h:c.toNat=10):resL (c :: r)=none:=by rw[resL,if_pos h]
theorem res_end{c:UInt8}(h:c.toNat=92):resL [c]=none:=by rw[resL,if_neg (by omega),if_pos h];rfl
theorem res_cont{c d:UInt8}{r:List UInt8}(h:c.toNat=92)(h2:d.toNat=10):resL (c :: d :: r)=some (0,[],2+blkN r):=by rw[resL,if_neg (by omega),if_pos h,escN,if_pos h2]
theorem res_esc{c d:UInt8}{r:List UInt8}(h:c.toNat=92)(h2:d.toNat ≠ 10):resL (c :: d :: r)=(escL d).map fun e=>(1,[e],2):=by rw[resL,if_neg (by omega),if_pos h,escN,if_neg h2]
theorem res_123{c:UInt8}{r:List UInt8}(h:c.toNat=123):resL (c :: r)=(slotL (c :: r)).map fun x=>(5,x.1,x.2):=by rw[resL,if_neg (by omega),if_neg (by omega),if_pos h]
theorem res_else{c:UInt8}{r:List UInt8}(h:c.toNat ≠ 10)(h2:c.toNat ≠ 92)(h3:c.toNat ≠ 123):resL (c :: r)=some (1,[c],1):=by rw[resL,if_neg h,if_neg h2,if_neg h3]
theorem blkN_le(l:List UInt8):blkN l<=l.length:=(List.takeWhile_prefix _).length_le
theorem slot_ok{c:UInt8}{r:List UInt8}{k:Int}{t:List UInt8}{n:Nat}(hc:c.toNat=123)(h:(slotL (c :: r)).map (fun x=>((5:Int),x.1,x.2))=some (k,t,n)):k=5/\1<=n/\n<=(c :: r).length/\t.length<=n:=by
 rcases slot_of (r:=r) hc with ⟨_,hs⟩|⟨m,_,hm,_,hs⟩
 ·rw[hs] at h;cases h
 ·rw[hs] at h
  split at h
  ·simp only[Option.map_some,Option.some.injEq,Prod.mk.injEq] at h
   obtain⟨rfl,rfl,rfl⟩:=h;exact⟨rfl,by omega,by omega,by simp;omega⟩
  ·cases h
theorem res_len{l:List UInt8}{k:Int}{t:List UInt8}{n:Nat}(h:resL l=some (k,t,n)):(k=0∨k=1∨k=5)/\1<=n/\n<=l.length/\t.length<=n:=by
 match l,h with
 | c :: r,h=>
  by_cases h10:c.toNat=10
  ·rw[res_10 h10] at h;cases h
  by_cases h92:c.toNat=92
  ·match r,h with
   | [],h=>rw[res_end h92] at h;cases h
   | d :: r',h=>
    by_cases hd:d.toNat=10
    ·rw[res_cont h92 hd] at h
     simp only[Option.some.injEq,Prod.mk.injEq] at h;obtain⟨rfl,rfl,rfl⟩:=h;have:=blkN_le r'
     exact⟨.inl rfl,by omega,by simp;omega,by simp⟩
    ·rw[res_esc h92 hd] at h
     cases he:escL d with
     | none=>rw[he] at h;cases h
     | some e=>
      rw[he] at h;simp only[Option.map_some,Option.some.injEq,Prod.mk.injEq] at h;obtain⟨rfl,rfl,rfl⟩:=h;exact⟨.inr (.inl rfl),by omega,by simp,by simp⟩
  by_cases h123:c.toNat=123
  ·rw[res_123 h123] at h
   obtain⟨rfl,h1,h2,h3⟩:=slot_ok h123 h;exact⟨.inr (.inr rfl),h1,h2,h3⟩
  ·rw[res_else h10 h92 h123] at h
   simp only[Option.some.injEq,Prod.mk.injEq] at h;obtain⟨rfl,rfl,rfl⟩:=h;exact⟨.inr (.inl rfl),by omega,by simp,by simp⟩
end Go.Proofs.YthoemdibbldndaaGreatDoor.St
namespace Go.Proofs.YthoemdibbldndaaGreatDoor.St
def keyC(c:UInt8):Bool:=decide ((97<=c.toNat/\c.toNat<=122)∨(48<=c.toNat/\c.toNat<=57)∨c.toNat=46∨c.toNat=95∨c.toNat=45)
def keyN(l:List UInt8):Nat:=(l.takeWhile keyC).length
def lineN(l:List UInt8):Nat:=(l.takeWhile (fun c=>decide (c.toNat ≠ 10))).length
def endN:List UInt8->Nat
 | []=>0
 | c :: r=>if c.toNat=10 then 0 else if c.toNat=92 then (match r with
   | []=>1
   | _ :: r'=>2+endN r') else 1+endN r
def skipB(l:List UInt8):Bool:=match l.dropWhile blkC with
 | []=>true
 | c :: _=>decide (c.toNat=10∨c.toNat=35)
def hasK(ps:List Pt)(k:List UInt8):Bool:=ps.any fun p=>p.1 && decide (p.2.1=k)
def resS(dE:List UInt8->Nat × Int)(d:List UInt8):Nat->Nat->PS->Except (Nat × Int) PS
 | 0,_,s=>.ok s
 | fuel+1,a,s=>
  if d.length<=a then .ok s else
  if skipB (d.drop a) then resS dE d fuel (a+lineN (d.drop a)+1) s else
  let n:=keyN (d.drop a)
  if n=0∨64<n∨((d.drop (a+n)).head?.map UInt8.toNat) ≠ some 61 then .error (a,2) else
  if hasK s.1 (cutL d a (a+n)) then .error (a,5) else
  let to:=a+n+1+endN (d.drop (a+n+1))
  if (dE (cutL d (a+n+1) to)).2 ≠ 0 then .error (a+n+1+(dE (cutL d (a+n+1) to)).1,(dE (cutL d (a+n+1) to)).2) else
  resS dE d fuel (to+1) (unitS d s (a+n+1) to (cutL d a (a+n)))
def splitR(dE:List UInt8->Nat × Int)(d:List UInt8):List Pt × Nat × Int:=
 if 65536<d.length then ([],0,3) else
 match resS dE d (d.length+1) 0 ([],0) with
 | .error (a,e)=>([],a,e)
 | .ok s=>(endS d s,0,0)
def endR'(d:List UInt8):Except (Nat × Int) PS->List Pt × Nat × Int
 | .error (a,e)=>([],a,e)
 | .ok s=>(endS d s,0,0)
theorem splitR_ok{dE:List UInt8->Nat × Int}{d:List UInt8}(h:¬ 65536<d.length):splitR dE d=endR' d (resS dE d (d.length+1) 0 ([],0)):=by
 rw[splitR,if_neg h];cases resS dE d (d.length+1) 0 ([],0) <;> rfl
section
variable {dE:List UInt8->Nat × Int} {d:List UInt8} {fuel a:Nat} {s:PS}
theorem resS_end(h:d.length<=a):resS dE d fuel a s=.ok s:=by
 cases fuel with
 | zero=>rfl
 | succ f=>rw[resS,if_pos h]
theorem resS_min(e:Nat):resS dE d fuel e s=resS dE d fuel (min e d.length) s:=by
 by_cases h:e<=d.length
 ·rw[Nat.min_eq_left h]
 ·rw[resS_end (by omega),resS_end (by omega)]
theorem resS_skip(h:¬ d.length<=a)(h1:skipB (d.drop a)=true):resS dE d (fuel+1) a s=resS dE d fuel (min (a+lineN (d.drop a)+1) d.length) s:=by
 rw[resS,if_neg h,if_pos h1,resS_min]
theorem resS_bad(h:¬ d.length<=a)(h1:skipB (d.drop a)=false)(h2:keyN (d.drop a)=0∨64<keyN (d.drop a)∨((d.drop (a+keyN (d.drop a))).head?.map UInt8.toNat) ≠ some 61):resS dE d (fuel+1) a s=.error (a,2):=by
 rw[resS,if_neg h,if_neg (by rw[h1];decide)];simp only[];rw[if_pos h2]
theorem resS_dup(h:¬ d.length<=a)(h1:skipB (d.drop a)=false)(h2:¬ (keyN (d.drop a)=0∨64<keyN (d.drop a)∨((d.drop (a+keyN (d.drop a))).head?.map UInt8.toNat) ≠ some 61))(h3:hasK s.1 (cutL d a (a+keyN (d.drop a)))=true):resS dE d (fuel+1) a s=.error (a,5):=by
 rw[resS,if_neg h,if_neg (by rw[h1];decide)];simp only[];rw[if_neg h2,if_pos h3]
theorem resS_err(h:¬ d.length<=a)(h1:skipB (d.drop a)=false)(h2:¬ (keyN (d.drop a)=0∨64<keyN (d.drop a)∨((d.drop (a+keyN (d.drop a))).head?.map UInt8.toNat) ≠ some 61))(h3:hasK s.1 (cutL d a (a+keyN (d.drop a)))=false)
  {n b t:Nat} (hn:keyN (d.drop a)=n) (hb:a+n+1=b) (ht:b+endN (d.drop b)=t) (h4:(dE (cutL d b t)).2 ≠ 0):resS dE d (fuel+1) a s=.error (b+(dE (cutL d b t)).1,(dE (cutL d b t)).2):=by
 subst hn hb ht;rw[resS,if_neg h,if_neg (by rw[h1];decide)];simp only[];rw[if_neg h2,if_neg (by rw[h3];decide),if_pos h4]
theorem resS_unit(h:¬ d.length<=a)(h1:skipB (d.drop a)=false)(h2:¬ (keyN (d.drop a)=0∨64<keyN (d.drop a)∨((d.drop (a+keyN (d.drop a))).head?.map UInt8.toNat) ≠ some 61))(h3:hasK s.1 (cutL d a (a+keyN (d.drop a)))=false)
  {n b t:Nat} (hn:keyN (d.drop a)=n) (hb:a+n+1=b) (ht:b+endN (d.drop b)=t) (h4:(dE (cutL d b t)).2=0):resS dE d (fuel+1) a s=resS dE d fuel (min (t+1) d.length) (unitS d s b t (cutL d a (a+n))):=by
 subst hn hb ht;rw[resS,if_neg h,if_neg (by rw[h1];decide)];simp only[];rw[if_neg h2,if_neg (by rw[h3];decide),if_neg (by rw[h4];decide),resS_min]
end
theorem keyN_le(l:List UInt8):keyN l<=l.length:=(List.takeWhile_prefix _).length_le
theorem lineN_le(l:List UInt8):lineN l<=l.length:=(List.takeWhile_prefix _).length_le
theorem endN_le:∀ l:List UInt8,endN l<=l.length
 | []=>by simp[endN]
 | [c]=>by unfold endN;split;simp;split <;> simp[endN]
 | c :: x :: r=>by
  unfold endN;have h1:=endN_le r;have h2:=endN_le (x :: r)
  split
  ·simp
  ·split
   ·simp;omega
   ·simp at h2 ⊢;omega
end Go.Proofs.YthoemdibbldndaaGreatDoor.St
namespace Go.Proofs.YthoemdibbldndaaGreatDoor
open Go.RowKit
section
abbrev rdT:TypeId:=129
instance:RdOk rdT:=⟨by decide⟩
def mo2(d:Nat):List Value:=[.int .i64 d,.int .i64 d]
theorem BV.mo3{w:World}{B b:Nat}{v0 v1 v2 x y u:Value}{its:List St.It}{tx:List UInt8}{cuts:List Nat}(h:BV rdT [x,y] w B b v0 v1 v2 its tx cuts):BV rdT [u,y] (w.setCell ⟨b,3,none⟩ u) B b v0 v1 v2 its tx cuts:=by
 obtain⟨h0,h1,h2,h3,h4⟩:=h;exact⟨h0,heap_setCell_same w b 3 _ _ u h1,own_set h2 (own_ne h2 h1 (by decide)),own_set h3 (own_ne h3 h1 (by decide)),own_set h4 (own_ne h4 h1 (by decide))⟩
theorem BV.mo4{w:World}{B b:Nat}{v0 v1 v2 x y u:Value}{its:List St.It}{tx:List UInt8}{cuts:List Nat}(h:BV rdT [x,y] w B b v0 v1 v2 its tx cuts):BV rdT [x,u] (w.setCell ⟨b,4,none⟩ u) B b v0 v1 v2 its tx cuts:=by
 obtain⟨h0,h1,h2,h3,h4⟩:=h;exact⟨h0,heap_setCell_same w b 4 _ _ u h1,own_set h2 (own_ne h2 h1 (by decide)),own_set h3 (own_ne h3 h1 (by decide)),own_set h4 (own_ne h4 h1 (by decide))⟩
theorem BAt.mo{w:World}{B b d:Nat}{its:List St.It}{tx:List UInt8}{cuts:List Nat}(h:BAt rdT (mo2 d) w B b its tx cuts)(n:Nat)(m m2:Int)(hm:m=n)(hm2:m2=n):BAt rdT (mo2 n) ((w.setCell ⟨b,3,none⟩ (.int .i64 m)).setCell ⟨b,4,none⟩ (.int .i64 m2)) B b its tx cuts:=by
 subst hm hm2;obtain⟨v0,v1,v2,h⟩:=h;exact⟨v0,v1,v2,(BV.mo4 (BV.mo3 h))⟩
theorem BAt.at{d:Nat}{w:World}{B b:Nat}{its:List St.It}{tx:List UInt8}{cuts:List Nat}(h:BAt rdT (mo2 d) w B b its tx cuts):w.cell? ⟨b,3,none⟩=some (.int .i64 d)/\w.cell? ⟨b,4,none⟩=some (.int .i64 d)/\w.frozen? ⟨b,3,none⟩=false/\w.frozen? ⟨b,4,none⟩=false/\b<w.heap.size/\B<=b:=by
 obtain⟨v0,v1,v2,h⟩:=h;have hb:=h.2.1;exact⟨zcH hb 3,zcH hb 4,zfH hb 3,zfH hb 4,lt_of_heap hb,h.1⟩
def RElEnd(w:World)(B b:Nat)(its:List St.It)(tx:List UInt8)(cuts:List Nat)(d:Nat)(l:List UInt8)(a:Nat)(e:Ending)(w':World):Prop:=
 Below B w w'/\match St.resL l with
  | none=>e=.returned (.tuple #[.int .i64 a,.int .i64 2])
  | some (k,t,n)=>if k=0 then e=.returned (.tuple #[.int .i64 ((a+n:Nat):Int),.int .i64 0])/\BAt rdT (mo2 d) w' B b its tx cuts else
    if 512<(St.addI (its++St.txt tx) (k,t,0)).length∨1024<=cuts.length then e=.returned (.tuple #[.int .i64 a,.int .i64 3]) else
    e=.returned (.tuple #[.int .i64 ((a+n:Nat):Int),.int .i64 0])/\∃ its' tx',BAt rdT (mo2 (a+n)) w' B b its' tx' (cuts++[d])/\St.NoTxt its'/\its'++St.txt tx'=St.addI (its++St.txt tx) (k,t,0)/\tx'.length<=cuts.length+1
section
variable {w:World} {B b:Nat} {its:List St.It} {tx:List UInt8} {cuts:List Nat} {d:Nat} {l:List UInt8} {a:Nat} {w':World}
theorem rel_err(h:St.resL l=none)(hb:Below B w w'):RElEnd w B b its tx cuts d l a (.returned (.tuple #[.int .i64 a,.int .i64 2])) w':=by
 refine⟨hb,?_⟩;rw[h]
theorem rel_cont{n:Nat}(h:St.resL l=some (0,[],n))(hb:Below B w w')(hB:BAt rdT (mo2 d) w' B b its tx cuts)(m:Int)(hm:m=((a+n:Nat):Int)):RElEnd w B b its tx cuts d l a (.returned (.tuple #[.int .i64 m,.int .i64 0])) w':=by
 subst hm;refine⟨hb,?_⟩;rw[h];exact⟨rfl,hB⟩
theorem rel_full{n:Nat}{c:UInt8}(h:St.resL l=some (1,[c],n))(hN:St.NoTxt its)(hf:St.fullB its.length tx.length cuts.length true=true)(hb:Below B w w') :
  RElEnd w B b its tx cuts d l a (.returned (.tuple #[.int .i64 a,.int .i64 3])) w':=by
 refine⟨hb,?_⟩;rw[h];simp only;rw[if_neg (by decide),if_pos ((St.full_byte hN c cuts.length).2 hf)];trivial
theorem rel_byte{n:Nat}{c:UInt8}(h:St.resL l=some (1,[c],n))(hN:St.NoTxt its)(hf:St.fullB its.length tx.length cuts.length true=false)(hb:Below B w w')
  (hB:BAt rdT (mo2 (a+n)) w' B b its (tx++[c]) (cuts++[d])) (ht:tx.length<=cuts.length) (m:Int) (hm:m=((a+n:Nat):Int)):RElEnd w B b its tx cuts d l a (.returned (.tuple #[.int .i64 m,.int .i64 0])) w':=by
 refine⟨hb,?_⟩;rw[h];simp only;rw[if_neg (by decide),if_neg (fun h2=>by rw[(St.full_byte hN c cuts.length).1 h2] at hf;cases hf),hm];exact⟨rfl,its,tx++[c],hB,hN,(St.add_byte hN c).symm,by simp;omega⟩
theorem rel_full5{n:Nat}{t:List UInt8}(h:St.resL l=some (5,t,n))(hf:St.fullB its.length tx.length cuts.length false=true)(hb:Below B w w') :
  RElEnd w B b its tx cuts d l a (.returned (.tuple #[.int .i64 a,.int .i64 3])) w':=by
 refine⟨hb,?_⟩;rw[h];simp only;rw[if_neg (by decide),if_pos ((St.full_item 5 t cuts.length (by decide)).2 hf)];trivial
theorem rel_item{n:Nat}{t:List UInt8}(h:St.resL l=some (5,t,n))(hf:St.fullB its.length tx.length cuts.length false=false)(hb:Below B w w')
  (hB:BAt rdT (mo2 (a+n)) w' B b (its++St.txt tx++[(5,t,0)]) [] (cuts++[d])) (m:Int) (hm:m=((a+n:Nat):Int)):RElEnd w B b its tx cuts d l a (.returned (.tuple #[.int .i64 m,.int .i64 0])) w':=by
 refine⟨hb,?_⟩;rw[h];simp only;rw[if_neg (by decide),if_neg (fun h2=>by rw[(St.full_item 5 t cuts.length (by decide)).1 h2] at hf;cases hf),hm];exact⟨rfl,_,[],hB,St.noTxt_snoc _ 5 t 0 (by decide),by rw[St.add_item 5 t (by decide)];simp[St.txt],by simp⟩
end
def escV(d:UInt8):Value:=match St.escL d with
 | some c=>.tuple #[.int .u8 (c.toNat:Int),.bool true]
 | none=>.tuple #[.int .u8 0,.bool false]
theorem escape_any(d:UInt8)(w:World):Calls Tryz.prog 161 #[.int .u8 (d.toNat:Int)] w fun e w'=>e=.returned (escV d)/\w=w':=by
 have hd:=d.toNat_lt;rcases(show d.toNat=110∨d.toNat=116∨d.toNat=115∨d.toNat=114∨d.toNat=92∨d.toNat=123∨(d.toNat ≠ 110/\d.toNat ≠ 116/\d.toNat ≠ 115/\d.toNat ≠ 114/\d.toNat ≠ 92/\d.toNat ≠ 123) by omega) with h|h|h|h|h|h|⟨h1,h2,h3,h4,h5,h6⟩
 ·obtain rfl:d=(110:UInt8):=by apply UInt8.toNat_inj.1;simpa using h
  have hv:escV 110=.tuple #[.int .u8 10,.bool true]:=rfl;rw[hv]
  show Calls Tryz.prog 161 #[.int .u8 110] w _
  clear hv h hd;go_enter Tryz.func161,Tryz.ntmps161;go_wp2;go_ret2;exact⟨rfl,rfl⟩
 ·obtain rfl:d=(116:UInt8):=by apply UInt8.toNat_inj.1;simpa using h
  have hv:escV 116=.tuple #[.int .u8 9,.bool true]:=rfl;rw[hv]
  show Calls Tryz.prog 161 #[.int .u8 116] w _
  clear hv h hd;go_enter Tryz.func161,Tryz.ntmps161;go_wp2;go_ret2;exact⟨rfl,rfl⟩
 ·obtain rfl:d=(115:UInt8):=by apply UInt8.toNat_inj.1;simpa using h
  have hv:escV 115=.tuple #[.int .u8 32,.bool true]:=rfl;rw[hv]
  show Calls Tryz.prog 161 #[.int .u8 115] w _
  clear hv h hd;go_enter Tryz.func161,Tryz.ntmps161;go_wp2;go_ret2;exact⟨rfl,rfl⟩
 ·obtain rfl:d=(114:UInt8):=by apply UInt8.toNat_inj.1;simpa using h
  have hv:escV 114=.tuple #[.int .u8 13,.bool true]:=rfl;rw[hv]
  show Calls Tryz.prog 161 #[.int .u8 114] w _
  clear hv h hd;go_enter Tryz.func161,Tryz.ntmps161;go_wp2;go_ret2;exact⟨rfl,rfl⟩
 ·obtain rfl:d=(92:UInt8):=by apply UInt8.toNat_inj.1;simpa using h
  have hv:escV 92=.tuple #[.int .u8 92,.bool true]:=rfl;rw[hv]
  show Calls Tryz.prog 161 #[.int .u8 92] w _
  clear hv h hd;go_enter Tryz.func161,Tryz.ntmps161;go_wp2;go_ret2;exact⟨rfl,rfl⟩
 ·obtain rfl:d=(123:UInt8):=by apply UInt8.toNat_inj.1;simpa using h
  have hv:escV 123=.tuple #[.int .u8 123,.bool true]:=rfl;rw[hv]
  show Calls Tryz.prog 161 #[.int .u8 123] w _
  clear hv h hd;go_enter Tryz.func161,Tryz.ntmps161;go_wp2;go_ret2;exact⟨rfl,rfl⟩
 ·have hv:escV d=.tuple #[.int .u8 0,.bool false]:=by unfold escV St.escL;simp[h1,h2,h3,h4,h5,h6]
  rw[hv];have e1:((d.toNat:Int)==110)=false:=by simp;omega
  have e2:((d.toNat:Int)==116)=false:=by simp;omega
  have e3:((d.toNat:Int)==115)=false:=by simp;omega
  have e4:((d.toNat:Int)==114)=false:=by simp;omega
  have e5:((d.toNat:Int)==92)=false:=by simp;omega
  have e6:((d.toNat:Int)==123)=false:=by simp;omega
  clear hv h1 h2 h3 h4 h5 h6 hd;go_enter Tryz.func161,Tryz.ntmps161;go_wp2;go_ret2;exact⟨rfl,rfl⟩
end
section
theorem step_callE2{P:Program}{ops:Array Oper}{o:Oper}{a:Act}{w:World}{K:Act->World->Prop}{Q:Exit->Act->World->Prop}{E:Prop}
  (hg:o.guard=none) (f:FuncId) (args:Array Value) (Post:Ending->World->Prop) (hc:Calls P f args w Post)
  (hrun:(execOp a.eval o).run P w=.ok (.enter f args) w) (hK:∀ e w',Post e w'->∃ v,e=.returned v/\K (a.put o.dst v) w') :
  if Region.wanted o (yielded ops a.tmps)=true then Oper.wp P o a w K Q else E:=by
 have hw:Region.wanted o (yielded ops a.tmps)=true:=by simp[Region.wanted,hg]
 rw[if_pos hw];unfold Oper.wp;rw[hrun];refine hc.mono ?_;intro e w' h;obtain⟨v,rfl,hk⟩:=hK e w' h;exact hk
theorem blank_any(c:UInt8)(w:World):Calls Tryz.prog 160 #[.int .u8 (c.toNat:Int)] w fun e w'=>e=.returned (.bool (St.blkC c))/\w=w':=by
 by_cases h:c.toNat=32
 ·have hb:St.blkC c=true:=decide_eq_true (Or.inl h)
  have e1:((c.toNat:Int)==32)=true:=by simp;omega
  rw[hb];clear h hb;go_enter Tryz.func160,Tryz.ntmps160;go_wp2;go_ret;exact⟨rfl,rfl⟩
 ·have e1:((c.toNat:Int)==32)=false:=by simp;omega
  have hb:St.blkC c=((c.toNat:Int)==9):=by
   unfold St.blkC;rw[Bool.eq_iff_iff];simp;omega
  rw[hb];cases hq:((c.toNat:Int)==9)
  all_goals
   clear h hb;go_enter Tryz.func160,Tryz.ntmps160;go_wp2;go_ret;exact⟨rfl,rfl⟩
def BkRel(w:World)(raw:ByteArray)(a:Nat)(s10:Value)(wr:World):Prop:=∃ k:Nat,s10=.int .i64 k/\a+2<=k/\k<=raw.size/\a+2+St.blkN (raw.data.toList.drop (a+2))=k+St.blkN (raw.data.toList.drop k)/\wr=w
theorem element_any(w:World)(B b:Nat)(its:List St.It)(tx:List UInt8)(cuts:List Nat)(d:Nat)(raw:ByteArray)(a:Nat)(h:BAt rdT (mo2 d) w B b its tx cuts)(hN:St.NoTxt its)(h1:its.length<=512)(h2:cuts.length<=1024)(h3:tx.length<=cuts.length)(hBw:B<=w.heap.size)
  (ha:a<raw.size) (hr:raw.size<=4611686018427387904) :
  Calls Tryz.prog 120 #[.pointer (some ⟨b,0,none⟩),.string raw,.int .i64 a] w (RElEnd w B b its tx cuts d (raw.data.toList.drop a) a):=by
 obtain⟨s,hE⟩:∃ s,raw.extract a raw.size=s:=⟨_,rfl⟩;have hsz:s.size=raw.size-a:=by rw[<- hE];simp
 have hs0:0<s.size:=by omega
 have hl:s.data.toList=raw.data.toList.drop a:=by rw[<- hE];simp;exact List.take_of_length_le (by simp)
 have hcr:s.data.toList=s[0] :: s.data.toList.drop 1:=St.list_zero s hs0;have ha1:(a:Int)<=raw.size:=by omega
 have ha2:¬ raw.size<a:=by omega
 have hN':=hid hN;obtain⟨g3,g4,gf3,gf4,hblt,hBb0⟩:=h.at;haveI:LtW b w:=LtW.of hblt;have HB0:=hid (show Below B w w.drew from(Below.refl B w).drew);have hby0:=hid (fun c=>byte_any w.drew B b its tx cuts c d (h.und (Und.refl w).drew) (by omega) (by omega) (by omega) (by simpa using hBw));have hit0:=hid (fun x=>item_any w.drew B b its tx cuts 5 0 x d (h.und (Und.refl w).drew) (by omega) (by omega) (by omega) (by simpa using hBw));have H:=hid h;clear h hN
 by_cases c10:s[0].toNat=10
 ·have HSL:=hid (St.res_10 (r:=s.data.toList.drop 1) c10)
  rw[<- hcr,hl] at HSL;have e10:((s[0].toNat:Int)==10)=true:=by simp;omega
  clear hcr hl;go_enter Tryz.func120,Tryz.ntmps120;go_wp2;go_ret2;exact rel_err HSL.out (Below.refl _ _)
 have e10:((s[0].toNat:Int)==10)=false:=by simp;omega
 by_cases c92:s[0].toNat=92
 ·have e92:((s[0].toNat:Int)==92)=true:=by simp;omega
  by_cases z1:s.size=1
  ·have hnil:s.data.toList.drop 1=[]:=List.drop_of_length_le (by simp;omega)
   have hsl:=St.res_end c92;rw[hnil] at hcr;rw[<- hcr,hl] at hsl;have HSL:=hid hsl;have y1:¬ (1:Int)<s.size:=by omega
   have y2:(s.size:Int)<2:=by omega
   clear hcr hl hnil hsl;go_enter Tryz.func120,Tryz.ntmps120;go_wp2;go_ret2;exact rel_err HSL.out (Below.refl _ _)
  have hs1:1<s.size:=by omega
  have hcr1:s.data.toList.drop 1=s[1] :: s.data.toList.drop 2:=St.drop_at s 1 hs1;have y1:(1:Int)<s.size:=by omega
  have y2:¬ (s.size:Int)<2:=by omega
  rw[hcr1] at hcr
  by_cases d10:s[1].toNat=10
  ·have f10:((s[1].toNat:Int)==10)=true:=by simp;omega
   have hsl:=St.res_cont (r:=s.data.toList.drop 2) c92 d10;rw[<- hcr,hl] at hsl;have hdd:(raw.data.toList.drop a).drop 2=raw.data.toList.drop (a+2):=by rw[List.drop_drop]
   rw[hdd] at hsl;have HSL:=hid hsl;have hrs:a+2<=raw.size:=by omega
   clear hcr hcr1 hl hdd hsl;go_enter Tryz.func120,Tryz.ntmps120;go_wp2_with fail;go_loopw [10] (fun s10 wr=>BkRel w raw a s10 wr) (fun s10 _=>raw.size-(intOf s10).toNat)
   case atStart=>exact⟨a+2,congrArg (Value.int .i64) (by omega),by omega,hrs,rfl,rfl⟩
   case round=>
    obtain⟨k,rfl,hk1,hk2,hk3,rfl⟩:=hrel;have HK:=hid hk3;clear hk3
    by_cases hlt:k<raw.size
    ·have z:(k:Int)<raw.size:=by omega
     have hcons:=St.drop_at raw k hlt;have hbk:=fun W=>blank_any raw[k] W
     cases hq:St.blkC raw[k]
     ·have hn:St.blkN (raw.data.toList.drop k)=0:=by rw[hcons];unfold St.blkN;rw[List.takeWhile_cons_of_neg (by simp[hq])];rfl
      rw[hq] at hbk;have HBK:=hid hbk;have HE:=hid (show a+2+St.blkN (raw.data.toList.drop (a+2))=k by rw[HK.out,hn];omega);clear hcons hbk hq hn;go_wp2_with (go_at_call 160;refine(HBK.out _).mono ?_;rintro e w' ⟨rfl,rfl⟩);go_ret2;exact rel_cont HSL.out (Below.refl _ _) H.out _ (by have:=HE.out;omega)
     ·have hn:St.blkN (raw.data.toList.drop k)=1+St.blkN (raw.data.toList.drop (k+1)):=by rw[hcons];unfold St.blkN;rw[List.takeWhile_cons_of_pos hq];simp;omega
      rw[hq] at hbk;have HBK:=hid hbk;have HE:=hid hn;clear hcons hbk hq hn;go_wp2_with (go_at_call 160;refine(HBK.out _).mono ?_;rintro e w' ⟨rfl,rfl⟩);exact⟨⟨k+1,congrArg (Value.int .i64) (by omega),by omega,by omega,by rw[HK.out,HE.out];omega,rfl⟩,by simp[intOf];omega⟩
    ·obtain rfl:k=raw.size:=by omega
     have hn:St.blkN (raw.data.toList.drop raw.size)=0:=by rw[List.drop_of_length_le (by simp)];rfl
     have HE:=hid (show a+2+St.blkN (raw.data.toList.drop (a+2))=raw.size by rw[HK.out,hn];omega);clear hn hlt;go_wp2;go_ret2;exact rel_cont HSL.out (Below.refl _ _) H.out _ (by have:=HE.out;omega)
  ·have f10:((s[1].toNat:Int)==10)=false:=by simp;omega
   have hsl:=St.res_esc (r:=s.data.toList.drop 2) c92 d10;rw[<- hcr,hl] at hsl;have hesc:=fun W=>escape_any s[1] W
   unfold escV at hesc;cases hq:St.escL s[1] with
   | none=>
    rw[hq] at hsl hesc;have HSL:=hid hsl;have HES:=hid hesc;clear hcr hcr1 hl hsl hesc hq;go_enter Tryz.func120,Tryz.ntmps120;go_wp2_with (go_at_call 161;refine(HES.out _).mono ?_;rintro e w' ⟨rfl,rfl⟩);go_ret2;exact rel_err HSL.out (Below.refl _ _)
   | some c=>
    rw[hq] at hsl hesc;simp only[Option.map_some] at hsl;have HSL:=hid hsl;have HES:=hid hesc;have HBY:=hid (hby0.out c);clear hcr hcr1 hl hsl hesc hq;go_enter Tryz.func120,Tryz.ntmps120;go_wp2_with (go_at_call 161;refine(HES.out _).mono ?_;rintro e w' ⟨rfl,rfl⟩);refine wp_region_facts (fun _ _=>True) (fun L W=>if L 8=true then (St.fullB its.length tx.length cuts.length true=false->BAt rdT (mo2 d) W B b its (tx++[c]) (cuts++[d]))/\Below B w.drew W else W=w.drew) ([fun v _=>v=.pointer (some ⟨b,0,none⟩),fun v _=>v=.pointer (some ⟨b,0,none⟩),fun v _=>v=.pointer (some ⟨b,0,none⟩),fun v _=>v=.int .u8 (c.toNat:Int),fun v _=>v=.pointer (some ⟨b,0,none⟩),fun v _=>v=.pointer (some ⟨b,0,none⟩),fun v _=>v=.pointer (some ⟨b,3,none⟩),fun v _=>v=.int .i64 d,fun v _=>v=.bool (!St.fullB its.length tx.length cuts.length true),fun v _=>v=.int .i64 a,fun v _=>v=.int .i64 ((a:Int)+2),fun v _=>v=.bool (!St.fullB its.length tx.length cuts.length true),fun v _=>v=.int .i64 ((a:Int)+2)]) (fun _=>trivial) (fun _ _ _ _ _=>trivial) (by kernel_rfl) (by rfl) (by kernel_rfl) (by kernel_rfl) ?frA ?hfrA ?hIA ?hobA ?hendA
    case hfrA=>
     intro ρ;simp only[putAll,Act.put,zsA,zsB,zsC,Nat.zero_add,Nat.reduceAdd];exact rfl
    case hIA=>simp
    case hobA=>
     refine ObsF.cons (fun ρ L W hR hI hL hD hO hF K hK=>?_) ?_
     ·skip
      clear hF hD hO hR;simp only[Act.put,zsA,zsB,zsC] at hK ⊢;go_simp;refine hK _ _ trivial (by simpa [updB] using hI) (fun _ _=>?_);rfl
     refine ObsF.cons (fun ρ L W hR hI hL hD hO hF K hK=>?_) ?_
     ·skip
      have f0:=allF_get hF (j:=0) (by decide);clear hF hD hO hR;simp only[Act.put,zsA,zsB,zsC] at hK ⊢;have e0:ρ 0=.pointer (some ⟨b,0,none⟩):=f0;rw[e0] at hK ⊢;go_simp;refine hK _ _ trivial (by simpa [updB] using hI) (fun _ _=>?_);rfl
     refine ObsF.cons (fun ρ L W hR hI hL hD hO hF K hK=>?_) ?_
     ·skip
      have f1:=allF_get hF (j:=1) (by decide);clear hF hD hO hR;simp only[Act.put,zsA,zsB,zsC] at hK ⊢;have e1:ρ 1=.pointer (some ⟨b,0,none⟩):=f1;rw[e1] at hK ⊢;go_simp;refine hK _ _ trivial (by simpa [updB] using hI) (fun _ _=>?_);rfl
     refine ObsF.cons (fun ρ L W hR hI hL hD hO hF K hK=>?_) ?_
     ·skip
      clear hF hD hO hR;simp only[Act.put,zsA,zsB,zsC] at hK ⊢;go_simp;refine hK _ _ trivial (by simpa [updB] using hI) (fun _ _=>?_);rfl
     refine ObsF.cons (fun ρ L W hR hI hL hD hO hF K hK=>?_) ?_
     ·skip
      clear hF hD hO hR;simp only[Act.put,zsA,zsB,zsC] at hK ⊢;go_simp;refine hK _ _ trivial (by simpa [updB] using hI) (fun _ _=>?_);rfl
     refine ObsF.cons (fun ρ L W hR hI hL hD hO hF K hK=>?_) ?_
     ·skip
      have f4:=allF_get hF (j:=4) (by decide);clear hF hD hO hR;simp only[Act.put,zsA,zsB,zsC] at hK ⊢;have e4:ρ 4=.pointer (some ⟨b,0,none⟩):=f4;rw[e4] at hK ⊢;go_simp;refine hK _ _ trivial (by simpa [updB] using hI) (fun _ _=>?_);rfl
     refine ObsF.cons (fun ρ L W hR hI hL hD hO hF K hK=>?_) ?_
     ·skip
      have f5:=allF_get hF (j:=5) (by decide);clear hF hD hO hR;simp only[Act.put,zsA,zsB,zsC] at hK ⊢;have e5:ρ 5=.pointer (some ⟨b,0,none⟩):=f5;rw[e5] at hK ⊢;go_simp;refine hK _ _ trivial (by simpa [updB] using hI) (fun _ _=>?_);rfl
     refine ObsF.cons (fun ρ L W hR hI hL hD hO hF K hK=>?_) ?_
     ·skip
      have f6:=allF_get hF (j:=6) (by decide);have hLc:L 8=false:=hD.not (p:=8) rfl (by decide) hL;rw[if_neg (by rw[hLc];decide)] at hI;subst hI;clear hF hD hO hR;simp only[Act.put,zsA,zsB,zsC] at hK ⊢;have e6:ρ 6=.pointer (some ⟨b,3,none⟩):=f6;rw[e6] at hK ⊢;go_simp;refine hK _ _ trivial (by simp[updB,hLc]) (fun _ _=>?_);rfl
     refine ObsF.cons (fun ρ L W hR hI hL hD hO hF K hK=>?_) ?_
     ·skip
      have f2:=allF_get hF (j:=2) (by decide);have f3:=allF_get hF (j:=3) (by decide);have f7:=allF_get hF (j:=7) (by decide);rw[if_neg (by rw[hL];decide)] at hI;subst hI;clear hF hD hO hR;simp only[Act.put,zsA,zsB,zsC] at hK ⊢;have e2:ρ 2=.pointer (some ⟨b,0,none⟩):=f2;have e3:ρ 3=.int .u8 (c.toNat:Int):=f3;have e7:ρ 7=.int .i64 d:=f7;rw[e2,e3,e7] at hK ⊢;refine step_callE2 (o:=⟨some 88,_,_,_,_,_⟩) rfl 162 #[.pointer (some ⟨b,0,none⟩),.int .u8 c.toNat,.int .i64 d] _ HBY.out ?_ ?_
      ·go_simp
      rintro e W2 ⟨rfl,h1,h2⟩;exact⟨_,rfl,hK _ _ trivial (by simp only[updB,if_true];exact⟨h1,h2⟩) (fun _ _=>rfl)⟩
     refine ObsF.cons (fun ρ L W hR hI hL hD hO hF K hK=>?_) ?_
     ·skip
      clear hF hD hO hR;simp only[Act.put,zsA,zsB,zsC] at hK ⊢;go_simp;refine hK _ _ trivial (by simpa [updB] using hI) (fun _ _=>?_);rfl
     refine ObsF.cons (fun ρ L W hR hI hL hD hO hF K hK=>?_) ?_
     ·skip
      have f9:=allF_get hF (j:=9) (by decide);clear hF hD hO hR;simp only[Act.put,zsA,zsB,zsC] at hK ⊢;have e9:ρ 9=.int .i64 a:=f9;rw[e9] at hK ⊢;go_simp;refine hK _ _ trivial (by simpa [updB] using hI) (fun _ _=>?_);exact congrArg (Value.int .i64) ((IntWalk.i64_in _ (by omega)).trans (by omega))
     refine ObsF.cons (fun ρ L W hR hI hL hD hO hF K hK=>?_) ?_
     ·skip
      have f8:=allF_get hF (j:=8) (by decide);clear hF hD hO hR;simp only[Act.put,zsA,zsB,zsC] at hK ⊢;have e8:ρ 8=.bool (!St.fullB its.length tx.length cuts.length true):=f8;rw[e8] at hK ⊢;go_simp;refine hK _ _ trivial (by simpa [updB] using hI) (fun _ _=>?_);rfl
     refine ObsF.cons (fun ρ L W hR hI hL hD hO hF K hK=>?_) ?_
     ·skip
      have f10:=allF_get hF (j:=10) (by decide);clear hF hD hO hR;simp only[Act.put,zsA,zsB,zsC] at hK ⊢;have e10:ρ 10=.int .i64 ((a:Int)+2):=f10;rw[e10] at hK ⊢;go_simp;refine hK _ _ trivial (by simpa [updB] using hI) (fun _ _=>?_);rfl
     exact ObsF.nil
    case hendA=>
     intro ρ L W hR hI hL hF;rw[if_pos (hL 8 (by decide))] at hI;obtain⟨_,_,_,_,_,_,_,_,_,_,_,g11,g12,_⟩:=hF;have g11:ρ 11=.bool (!St.fullB its.length tx.length cuts.length true):=g11;have g12:ρ 12=.int .i64 ((a:Int)+2):=g12;rw[g11,g12];clear g11 g12 hR hL;obtain⟨hba,hbl⟩:=hI;have hbl2:Below B w W:=Below.trans HB0.out hbl;have HBL:=hid hbl2;have HBA:=hid hba;clear hba hbl hbl2;cases hfu:St.fullB its.length tx.length cuts.length true
     ·obtain⟨c3,c4,f3,f4,hlt,hBb⟩:=(HBA.out hfu).at
      haveI:LtW b W:=LtW.of hlt;have HBN:=hid ((HBA.out hfu).mo (a+2) ((a:Int)+2) ((a:Int)+2) (by omega) (by omega));have HBB:=hid hBb;have HFU:=hid hfu;clear hfu hBb;go_wp2;go_ret2;exact rel_byte HSL.out hN'.out HFU.out ((HBL.out.setCell (p:=⟨b,3,none⟩) HBB.out _).setCell (p:=⟨b,4,none⟩) HBB.out _) HBN.out h3 _ (by omega)
     ·have HFU:=hid hfu
      clear hfu;go_wp2;go_ret2;exact rel_full HSL.out hN'.out HFU.out HBL.out
 have e92:((s[0].toNat:Int)==92)=false:=by simp;omega
 by_cases c123:s[0].toNat=123
 ·have e123:((s[0].toNat:Int)==123)=true:=by simp;omega
  have hsl:=St.res_123 (r:=s.data.toList.drop 1) c123;rw[<- hcr] at hsl;have hix:=fun W=>Tryz.strings_IndexByte s 125 W
  have h125:(125:Int).toNat.toUInt8=125:=rfl;rw[h125,hcr] at hix;rcases St.slot_of (r:=s.data.toList.drop 1) c123 with ⟨hi,hs⟩|⟨n,hi,hn,htw,hs⟩
  ·rw[hi] at hix
   rw[<- hcr] at hs;rw[hs,hl] at hsl;have HSL:=hid hsl;have HIX:=hid hix;clear hsl hcr hl hix hi hs h125;go_enter Tryz.func120,Tryz.ntmps120;go_wp2_with fail;refine(HIX.out _).mono ?_;rintro e w' ⟨rfl,rfl⟩;go_wp2;go_ret2;exact rel_err HSL.out (Below.refl _ _)
  ·rw[hi] at hix
   have hns:n+1<s.size:=by rw[<- hcr] at hn;simpa using hn
   obtain⟨x,hX⟩:∃ x,s.extract 1 (n+1)=x:=⟨_,rfl⟩;have hxl:x.data.toList=(s.data.toList.drop 1).take n:=by rw[<- hX];simp
   have hxs:x.size<=s.size:=by rw[<- hX];simp;omega
   have hnm:=fun W=>isname_any x W (by omega)
   rw[<- hcr,<- hxl] at hs;have z1:(1:Int)<=(n:Int)+1:=by omega
   have z2:(n:Int)+1<=s.size:=by omega
   have z3:¬ (n:Int)+1<0:=by omega
   cases hnb:St.isNameL x.data.toList
   ·rw[hnb] at hs hnm
    simp only[Bool.false_eq_true,if_false] at hs;rw[hs,hl] at hsl;have HSL:=hid hsl;have HIX:=hid hix;have HNM:=hid hnm;clear hsl hcr hl hix hi hs h125 hn htw hnm hnb hxl;go_enter Tryz.func120,Tryz.ntmps120;go_wp2_with fail;refine(HIX.out _).mono ?_;rintro e w' ⟨rfl,rfl⟩;go_wp2_with fail;refine(HNM.out _).mono ?_;rintro e w' ⟨rfl,rfl⟩;go_wp2;go_ret2;exact rel_err HSL.out (Below.refl _ _)
   ·rw[hnb] at hs hnm
    simp only[if_true] at hs;rw[hs,hl] at hsl;simp only[Option.map_some] at hsl;have HSL:=hid hsl;have HIX:=hid hix;have HNM:=hid hnm;have HIT:=hid (hit0.out x);clear hsl hcr hl hix hi hs h125 hn htw hnm hnb hxl;go_enter Tryz.func120,Tryz.ntmps120;go_wp2_with fail;refine(HIX.out _).mono ?_;rintro e w ⟨rfl,rfl⟩;go_wp2_with fail;refine(HNM.out _).mono ?_;rintro e w ⟨rfl,rfl⟩;go_wp2_with fail;refine wp_region_facts (fun _ _=>True) (fun L W=>if L 11=true then (St.fullB its.length tx.length cuts.length false=false->BAt rdT (mo2 d) W B b (its++St.txt tx++[(5,x.data.toList,0)]) [] (cuts++[d]))/\Below B w.drew W else W=w.drew) ([fun v _=>v=.pointer (some ⟨b,0,none⟩),fun v _=>v=.pointer (some ⟨b,0,none⟩),fun v _=>v=.pointer (some ⟨b,0,none⟩),fun v _=>v=.string s,fun v _=>v=.int .i64 ((n+1:Nat):Int),fun v _=>v=.string x,fun v _=>v=.agg #[.int .i64 5,.string x,.int .i64 0],fun v _=>v=.pointer (some ⟨b,0,none⟩),fun v _=>v=.pointer (some ⟨b,0,none⟩),fun v _=>v=.pointer (some ⟨b,3,none⟩),fun v _=>v=.int .i64 d,fun v _=>v=.bool (!St.fullB its.length tx.length cuts.length false),fun v _=>v=.int .i64 a,fun v _=>v=.int .i64 ((n+1:Nat):Int),fun v _=>v=.int .i64 ((a:Int)+((n+1:Nat):Int)),fun v _=>v=.int .i64 ((a:Int)+((n+1:Nat):Int)+1),fun v _=>v=.bool (!St.fullB its.length tx.length cuts.length false),fun v _=>v=.int .i64 ((a:Int)+((n+1:Nat):Int)+1)]) (fun _=>trivial) (fun _ _ _ _ _=>trivial) (by kernel_rfl) (by rfl) (by kernel_rfl) (by kernel_rfl) ?frC ?hfrC ?hIC ?hobC ?hendC
    case hfrC=>
     intro ρ;simp only[putAll,Act.put,zsA,zsB,zsC,Nat.zero_add,Nat.reduceAdd];exact rfl
    case hIC=>simp
    case hobC=>
     refine ObsF.cons (fun ρ L W hR hI hL hD hO hF K hK=>?_) ?_
     ·skip
      clear hF hD hO hR;simp only[Act.put,zsA,zsB,zsC] at hK ⊢;go_simp;refine hK _ _ trivial (by simpa [updB] using hI) (fun _ _=>?_);rfl
     refine ObsF.cons (fun ρ L W hR hI hL hD hO hF K hK=>?_) ?_
     ·skip
      have f0:=allF_get hF (j:=0) (by decide);clear hF hD hO hR;simp only[Act.put,zsA,zsB,zsC] at hK ⊢;have e0:ρ 0=.pointer (some ⟨b,0,none⟩):=f0;rw[e0] at hK ⊢;go_simp;refine hK _ _ trivial (by simpa [updB] using hI) (fun _ _=>?_);rfl
     refine ObsF.cons (fun ρ L W hR hI hL hD hO hF K hK=>?_) ?_
     ·skip
      have f1:=allF_get hF (j:=1) (by decide);clear hF hD hO hR;simp only[Act.put,zsA,zsB,zsC] at hK ⊢;have e1:ρ 1=.pointer (some ⟨b,0,none⟩):=f1;rw[e1] at hK ⊢;go_simp;refine hK _ _ trivial (by simpa [updB] using hI) (fun _ _=>?_);rfl
     refine ObsF.cons (fun ρ L W hR hI hL hD hO hF K hK=>?_) ?_
     ·skip
      clear hF hD hO hR;simp only[Act.put,zsA,zsB,zsC] at hK ⊢;go_simp;refine hK _ _ trivial (by simpa [updB] using hI) (fun _ _=>?_);rfl
     refine ObsF.cons (fun ρ L W hR hI hL hD hO hF K hK=>?_) ?_
     ·skip
      clear hF hD hO hR;simp only[Act.put,zsA,zsB,zsC] at hK ⊢;go_simp;refine hK _ _ trivial (by simpa [updB] using hI) (fun _ _=>?_);rfl
     refine ObsF.cons (fun ρ L W hR hI hL hD hO hF K hK=>?_) ?_
     ·skip
      have f3:=allF_get hF (j:=3) (by decide);have f4:=allF_get hF (j:=4) (by decide);clear hF hD hO hR;simp only[Act.put,zsA,zsB,zsC] at hK ⊢;have e3:ρ 3=.string s:=f3;have e4:ρ 4=.int .i64 ((n+1:Nat):Int):=f4;rw[e3,e4] at hK ⊢;go_simp;refine hK _ _ trivial (by simpa [updB] using hI) (fun _ _=>?_);rfl
     refine ObsF.cons (fun ρ L W hR hI hL hD hO hF K hK=>?_) ?_
     ·skip
      have f5:=allF_get hF (j:=5) (by decide);clear hF hD hO hR;simp only[Act.put,zsA,zsB,zsC] at hK ⊢;have e5:ρ 5=.string x:=f5;rw[e5] at hK ⊢;go_simp;refine hK _ _ trivial (by simpa [updB] using hI) (fun _ _=>?_);rfl
     refine ObsF.cons (fun ρ L W hR hI hL hD hO hF K hK=>?_) ?_
     ·skip
      clear hF hD hO hR;simp only[Act.put,zsA,zsB,zsC] at hK ⊢;go_simp;refine hK _ _ trivial (by simpa [updB] using hI) (fun _ _=>?_);rfl
     refine ObsF.cons (fun ρ L W hR hI hL hD hO hF K hK=>?_) ?_
     ·skip
      have f7:=allF_get hF (j:=7) (by decide);clear hF hD hO hR;simp only[Act.put,zsA,zsB,zsC] at hK ⊢;have e7:ρ 7=.pointer (some ⟨b,0,none⟩):=f7;rw[e7] at hK ⊢;go_simp;refine hK _ _ trivial (by simpa [updB] using hI) (fun _ _=>?_);rfl
     refine ObsF.cons (fun ρ L W hR hI hL hD hO hF K hK=>?_) ?_
     ·skip
      have f8:=allF_get hF (j:=8) (by decide);clear hF hD hO hR;simp only[Act.put,zsA,zsB,zsC] at hK ⊢;have e8:ρ 8=.pointer (some ⟨b,0,none⟩):=f8;rw[e8] at hK ⊢;go_simp;refine hK _ _ trivial (by simpa [updB] using hI) (fun _ _=>?_);rfl
     refine ObsF.cons (fun ρ L W hR hI hL hD hO hF K hK=>?_) ?_
     ·skip
      have f9:=allF_get hF (j:=9) (by decide);have hLc:L 11=false:=hD.not (p:=11) rfl (by decide) hL;rw[if_neg (by rw[hLc];decide)] at hI;subst hI;clear hF hD hO hR;simp only[Act.put,zsA,zsB,zsC] at hK ⊢;have e9:ρ 9=.pointer (some ⟨b,3,none⟩):=f9;rw[e9] at hK ⊢;go_simp;refine hK _ _ trivial (by simp[updB,hLc]) (fun _ _=>?_);rfl
     refine ObsF.cons (fun ρ L W hR hI hL hD hO hF K hK=>?_) ?_
     ·skip
      have f2:=allF_get hF (j:=2) (by decide);have f6:=allF_get hF (j:=6) (by decide);have f10:=allF_get hF (j:=10) (by decide);rw[if_neg (by rw[hL];decide)] at hI;subst hI;clear hF hD hO hR;simp only[Act.put,zsA,zsB,zsC] at hK ⊢;have e2:ρ 2=.pointer (some ⟨b,0,none⟩):=f2;have e6:ρ 6=.agg #[.int .i64 5,.string x,.int .i64 0]:=f6;have e10:ρ 10=.int .i64 d:=f10;rw[e2,e6,e10] at hK ⊢;refine step_callE2 (o:=⟨some 118,_,_,_,_,_⟩) rfl 164 #[.pointer (some ⟨b,0,none⟩),.agg #[.int .i64 5,.string x,.int .i64 0],.int .i64 d] _ HIT.out ?_ ?_
      ·go_simp
      rintro e W2 ⟨rfl,h1,h2⟩;exact⟨_,rfl,hK _ _ trivial (by simp only[updB,if_true];exact⟨h1,h2⟩) (fun _ _=>rfl)⟩
     refine ObsF.cons (fun ρ L W hR hI hL hD hO hF K hK=>?_) ?_
     ·skip
      clear hF hD hO hR;simp only[Act.put,zsA,zsB,zsC] at hK ⊢;go_simp;refine hK _ _ trivial (by simpa [updB] using hI) (fun _ _=>?_);rfl
     refine ObsF.cons (fun ρ L W hR hI hL hD hO hF K hK=>?_) ?_
     ·skip
      clear hF hD hO hR;simp only[Act.put,zsA,zsB,zsC] at hK ⊢;go_simp;refine hK _ _ trivial (by simpa [updB] using hI) (fun _ _=>?_);rfl
     refine ObsF.cons (fun ρ L W hR hI hL hD hO hF K hK=>?_) ?_
     ·skip
      have f12:=allF_get hF (j:=12) (by decide);have f13:=allF_get hF (j:=13) (by decide);clear hF hD hO hR;simp only[Act.put,zsA,zsB,zsC] at hK ⊢;have e12:ρ 12=.int .i64 a:=f12;have e13:ρ 13=.int .i64 ((n+1:Nat):Int):=f13;rw[e12,e13] at hK ⊢;go_simp;refine hK _ _ trivial (by simpa [updB] using hI) (fun _ _=>?_);exact congrArg (Value.int .i64) ((IntWalk.i64_in _ (by omega)).trans (by omega))
     refine ObsF.cons (fun ρ L W hR hI hL hD hO hF K hK=>?_) ?_
     ·skip
      have f14:=allF_get hF (j:=14) (by decide);clear hF hD hO hR;simp only[Act.put,zsA,zsB,zsC] at hK ⊢;have e14:ρ 14=.int .i64 ((a:Int)+((n+1:Nat):Int)):=f14;rw[e14] at hK ⊢;go_simp;refine hK _ _ trivial (by simpa [updB] using hI) (fun _ _=>?_);exact congrArg (Value.int .i64) ((IntWalk.i64_in _ (by omega)).trans (by omega))
     refine ObsF.cons (fun ρ L W hR hI hL hD hO hF K hK=>?_) ?_
     ·skip
      have f11:=allF_get hF (j:=11) (by decide);clear hF hD hO hR;simp only[Act.put,zsA,zsB,zsC] at hK ⊢;have e11:ρ 11=.bool (!St.fullB its.length tx.length cuts.length false):=f11;rw[e11] at hK ⊢;go_simp;refine hK _ _ trivial (by simpa [updB] using hI) (fun _ _=>?_);rfl
     refine ObsF.cons (fun ρ L W hR hI hL hD hO hF K hK=>?_) ?_
     ·skip
      have f15:=allF_get hF (j:=15) (by decide);clear hF hD hO hR;simp only[Act.put,zsA,zsB,zsC] at hK ⊢;have e15:ρ 15=.int .i64 ((a:Int)+((n+1:Nat):Int)+1):=f15;rw[e15] at hK ⊢;go_simp;refine hK _ _ trivial (by simpa [updB] using hI) (fun _ _=>?_);rfl
     exact ObsF.nil
    case hendC=>
     intro ρ L W hR hI hL hF;rw[if_pos (hL 11 (by decide))] at hI;obtain⟨_,_,_,_,_,_,_,_,_,_,_,_,_,_,_,_,g16,g17,_⟩:=hF;have g16:ρ 16=.bool (!St.fullB its.length tx.length cuts.length false):=g16;have g17:ρ 17=.int .i64 ((a:Int)+((n+1:Nat):Int)+1):=g17;rw[g16,g17];clear g16 g17 hR hL;obtain⟨hba,hbl⟩:=hI;have hbl2:Below B w W:=Below.trans HB0.out hbl;have HBL:=hid hbl2;have HBA:=hid hba;clear hba hbl hbl2;cases hfu:St.fullB its.length tx.length cuts.length false
     ·obtain⟨c3,c4,f3,f4,hlt,hBb⟩:=(HBA.out hfu).at
      haveI:LtW b W:=LtW.of hlt;have HBN:=hid ((HBA.out hfu).mo (a+(n+2)) ((a:Int)+((n+1:Nat):Int)+1) ((a:Int)+((n+1:Nat):Int)+1) (by omega) (by omega));have HBB:=hid hBb;have HFU:=hid hfu;clear hfu hBb;go_wp2;go_ret2;exact rel_item HSL.out HFU.out ((HBL.out.setCell (p:=⟨b,3,none⟩) HBB.out _).setCell (p:=⟨b,4,none⟩) HBB.out _) HBN.out _ (by omega)
     ·have HFU:=hid hfu
      clear hfu;go_wp2;go_ret2;exact rel_full5 HSL.out HFU.out HBL.out
 ·have e123:((s[0].toNat:Int)==123)=false:=by simp;omega
  have hsl:=St.res_else (r:=s.data.toList.drop 1) c10 c92 c123;rw[<- hcr,hl] at hsl;obtain⟨c,hc⟩:∃ c,s[0]=c:=⟨_,rfl⟩;rw[hc] at hsl e10 e92 e123;have HSL:=hid hsl;have HBY:=hid (hby0.out c);clear hcr hl hsl c10 c92 c123;go_enter Tryz.func120,Tryz.ntmps120;go_wp2_with fail;refine wp_region_facts (fun _ _=>True) (fun L W=>if L 9=true then (St.fullB its.length tx.length cuts.length true=false->BAt rdT (mo2 d) W B b its (tx++[c]) (cuts++[d]))/\Below B w.drew W else W=w.drew) ([fun v _=>v=.pointer (some ⟨b,0,none⟩),fun v _=>v=.pointer (some ⟨b,0,none⟩),fun v _=>v=.pointer (some ⟨b,0,none⟩),fun v _=>v=.string s,fun v _=>v=.int .u8 (c.toNat:Int),fun v _=>v=.pointer (some ⟨b,0,none⟩),fun v _=>v=.pointer (some ⟨b,0,none⟩),fun v _=>v=.pointer (some ⟨b,3,none⟩),fun v _=>v=.int .i64 d,fun v _=>v=.bool (!St.fullB its.length tx.length cuts.length true),fun v _=>v=.bool (!St.fullB its.length tx.length cuts.length true)]) (fun _=>trivial) (fun _ _ _ _ _=>trivial) (by kernel_rfl) (by rfl) (by kernel_rfl) (by kernel_rfl) ?frD ?hfrD ?hID ?hobD ?hendD
  case hfrD=>
   intro ρ;simp only[putAll,Act.put,zsA,zsB,zsC,Nat.zero_add,Nat.reduceAdd];exact rfl
  case hID=>simp
  case hobD=>
   refine ObsF.cons (fun ρ L W hR hI hL hD hO hF K hK=>?_) ?_
   ·skip
    clear hF hD hO hR;simp only[Act.put,zsA,zsB,zsC] at hK ⊢;go_simp;refine hK _ _ trivial (by simpa [updB] using hI) (fun _ _=>?_);rfl
   refine ObsF.cons (fun ρ L W hR hI hL hD hO hF K hK=>?_) ?_
   ·skip
    have f0:=allF_get hF (j:=0) (by decide);clear hF hD hO hR;simp only[Act.put,zsA,zsB,zsC] at hK ⊢;have e0:ρ 0=.pointer (some ⟨b,0,none⟩):=f0;rw[e0] at hK ⊢;go_simp;refine hK _ _ trivial (by simpa [updB] using hI) (fun _ _=>?_);rfl
   refine ObsF.cons (fun ρ L W hR hI hL hD hO hF K hK=>?_) ?_
   ·skip
    have f1:=allF_get hF (j:=1) (by decide);clear hF hD hO hR;simp only[Act.put,zsA,zsB,zsC] at hK ⊢;have e1:ρ 1=.pointer (some ⟨b,0,none⟩):=f1;rw[e1] at hK ⊢;go_simp;refine hK _ _ trivial (by simpa [updB] using hI) (fun _ _=>?_);rfl
   refine ObsF.cons (fun ρ L W hR hI hL hD hO hF K hK=>?_) ?_
   ·skip
    clear hF hD hO hR;simp only[Act.put,zsA,zsB,zsC] at hK ⊢;go_simp;refine hK _ _ trivial (by simpa [updB] using hI) (fun _ _=>?_);rfl
   refine ObsF.cons (fun ρ L W hR hI hL hD hO hF K hK=>?_) ?_
   ·skip
    have f3:=allF_get hF (j:=3) (by decide);clear hF hD hO hR;simp only[Act.put,zsA,zsB,zsC] at hK ⊢;have e3:ρ 3=.string s:=f3;rw[e3] at hK ⊢;have y0:0<raw.size-a:=by omega
    go_simp;refine hK _ _ trivial (by simpa [updB] using hI) (fun _ _=>?_);rfl
   refine ObsF.cons (fun ρ L W hR hI hL hD hO hF K hK=>?_) ?_
   ·skip
    clear hF hD hO hR;simp only[Act.put,zsA,zsB,zsC] at hK ⊢;go_simp;refine hK _ _ trivial (by simpa [updB] using hI) (fun _ _=>?_);rfl
   refine ObsF.cons (fun ρ L W hR hI hL hD hO hF K hK=>?_) ?_
   ·skip
    have f5:=allF_get hF (j:=5) (by decide);clear hF hD hO hR;simp only[Act.put,zsA,zsB,zsC] at hK ⊢;have e5:ρ 5=.pointer (some ⟨b,0,none⟩):=f5;rw[e5] at hK ⊢;go_simp;refine hK _ _ trivial (by simpa [updB] using hI) (fun _ _=>?_);rfl
   refine ObsF.cons (fun ρ L W hR hI hL hD hO hF K hK=>?_) ?_
   ·skip
    have f6:=allF_get hF (j:=6) (by decide);clear hF hD hO hR;simp only[Act.put,zsA,zsB,zsC] at hK ⊢;have e6:ρ 6=.pointer (some ⟨b,0,none⟩):=f6;rw[e6] at hK ⊢;go_simp;refine hK _ _ trivial (by simpa [updB] using hI) (fun _ _=>?_);rfl
   refine ObsF.cons (fun ρ L W hR hI hL hD hO hF K hK=>?_) ?_
   ·skip
    have f7:=allF_get hF (j:=7) (by decide);have hLc:L 9=false:=hD.not (p:=9) rfl (by decide) hL;rw[if_neg (by rw[hLc];decide)] at hI;subst hI;clear hF hD hO hR;simp only[Act.put,zsA,zsB,zsC] at hK ⊢;have e7:ρ 7=.pointer (some ⟨b,3,none⟩):=f7;rw[e7] at hK ⊢;go_simp;refine hK _ _ trivial (by simp[updB,hLc]) (fun _ _=>?_);rfl
   refine ObsF.cons (fun ρ L W hR hI hL hD hO hF K hK=>?_) ?_
   ·skip
    have f2:=allF_get hF (j:=2) (by decide);have f4:=allF_get hF (j:=4) (by decide);have f8:=allF_get hF (j:=8) (by decide);rw[if_neg (by rw[hL];decide)] at hI;subst hI;clear hF hD hO hR;simp only[Act.put,zsA,zsB,zsC] at hK ⊢;have e2:ρ 2=.pointer (some ⟨b,0,none⟩):=f2;have e4:ρ 4=.int .u8 (c.toNat:Int):=f4;have e8:ρ 8=.int .i64 d:=f8;rw[e2,e4,e8] at hK ⊢;refine step_callE2 (o:=⟨some 28,_,_,_,_,_⟩) rfl 162 #[.pointer (some ⟨b,0,none⟩),.int .u8 c.toNat,.int .i64 d] _ HBY.out ?_ ?_
    ·go_simp
    rintro e W2 ⟨rfl,h1,h2⟩;exact⟨_,rfl,hK _ _ trivial (by simp only[updB,if_true];exact⟨h1,h2⟩) (fun _ _=>rfl)⟩
   refine ObsF.cons (fun ρ L W hR hI hL hD hO hF K hK=>?_) ?_
   ·skip
    have f9:=allF_get hF (j:=9) (by decide);clear hF hD hO hR;simp only[Act.put,zsA,zsB,zsC] at hK ⊢;have e9:ρ 9=.bool (!St.fullB its.length tx.length cuts.length true):=f9;rw[e9] at hK ⊢;go_simp;refine hK _ _ trivial (by simpa [updB] using hI) (fun _ _=>?_);rfl
   exact ObsF.nil
  case hendD=>
   intro ρ L W hR hI hL hF;rw[if_pos (hL 9 (by decide))] at hI;obtain⟨_,_,_,_,_,_,_,_,_,_,g10,_⟩:=hF;have g10:ρ 10=.bool (!St.fullB its.length tx.length cuts.length true):=g10;rw[g10];clear g10 hR hL;obtain⟨hba,hbl⟩:=hI;have hbl2:Below B w W:=Below.trans HB0.out hbl;have HBL:=hid hbl2;have HBA:=hid hba;clear hba hbl hbl2;cases hfu:St.fullB its.length tx.length cuts.length true
   ·obtain⟨c3,c4,f3,f4,hlt,hBb⟩:=(HBA.out hfu).at
    haveI:LtW b W:=LtW.of hlt;have HBN:=hid ((HBA.out hfu).mo (a+1) ((a:Int)+1) ((a:Int)+1) (by omega) (by omega));have HBB:=hid hBb;have HFU:=hid hfu;clear hfu hBb;go_wp2;go_ret2;exact rel_byte HSL.out hN'.out HFU.out ((HBL.out.setCell (p:=⟨b,3,none⟩) HBB.out _).setCell (p:=⟨b,4,none⟩) HBB.out _) HBN.out h3 _ (by omega)
   ·have HFU:=hid hfu
    clear hfu;go_wp2;go_ret2;exact rel_full HSL.out hN'.out HFU.out HBL.out
end
section
def resD(raw:ByteArray):List St.It × List Nat × Nat × Int:=St.dec St.resL raw.size raw.data.toList 0 0 [] []
def ReadEnd(raw:ByteArray)(w:World)(e:Ending)(w':World):Prop:=
 Und w w'/\((∃ its tx cuts d,e=.returned (.tuple #[.pointer (some ⟨w.heap.size,0,none⟩),.int .i64 0,.int .i64 0])/\BAt rdT (mo2 d) w' w.heap.size w.heap.size its tx cuts/\its.length<=512/\cuts.length<=1024/\tx.length<=cuts.length/\resD raw=(its++St.txt tx,cuts++[d],0,0)) ∨
  ∃ (a:Nat) (er:Int),er ≠ 0/\e=.returned (.tuple #[.pointer none,.int .i64 a,.int .i64 er])/\resD raw=([],[],a,er))
def RdRel(w:World)(raw:ByteArray)(s6:Value)(wr:World):Prop:=
 ∃ (a d:Nat) (its:List St.It) (tx:List UInt8) (cuts:List Nat) (fuel:Nat),s6=.int .i64 a/\a<=raw.size/\raw.size-a<=fuel/\BAt rdT (mo2 d) wr w.heap.size w.heap.size its tx cuts/\St.NoTxt its/\its.length<=512/\cuts.length<=1024/\tx.length<=cuts.length /\
  resD raw=St.dec St.resL fuel (raw.data.toList.drop a) a d (its++St.txt tx) cuts/\Und w wr
theorem BAt.fresh(w:World):BAt rdT (mo2 0) (w.alloc (.cells #[.slice none 0 0,.slice none 0 0,.slice none 0 0,.int .i64 0,.int .i64 0] 129)) w.heap.size w.heap.size [] [] []:=
 ⟨_,_,_,Nat.le_refl _,heap_alloc_new w _,World.ownsRow_nil _ _ _ _,World.ownsRow_nil _ _ _ _,World.ownsRow_nil _ _ _ _⟩
theorem read_any(raw:ByteArray)(w:World)(hr:raw.size<=4611686018427387904):Calls Tryz.prog 81 #[.string raw] w (ReadEnd raw w):=by
 have hB0:=hid (BAt.fresh w);go_enter Tryz.func81,Tryz.ntmps81;go_wp2;go_loopw [6] (fun s6 wr=>RdRel w raw s6 wr) (fun s6 _=>raw.size+1-(intOf s6).toNat)
 case atStart=>exact⟨0,0,[],[],[],raw.size,rfl,by omega,by omega,hB0.out,St.noTxt_nil,by simp,by simp,by simp,by simp[resD,St.txt],(by apply_rules[uUe,uUa,uUb,uUc,uUd])⟩
 case round=>
  obtain⟨a,d,its,tx,cuts,fuel,rfl,ha,hfu,hB,hN,h1,h2,h3,hD,hu⟩:=hrel;clear hB0
  by_cases hlt:a<raw.size
  ·have hel:=element_any wr w.heap.size w.heap.size its tx cuts d raw a hB hN h1 h2 h3 hu.size hlt hr
   have HEL:=hid hel;have HD:=hid hD;have HU:=hid hu;have HN:=hid hN
   have h0:raw.data.toList.drop a ≠ []:=by
    intro e;have:=congrArg List.length e
    simp at this;omega
   obtain⟨fuel,rfl⟩:∃ m,fuel=m+1:=⟨fuel-1,by omega⟩;clear hel hB hN hD hu;go_wp2_with fail;refine HEL.out.mono ?_;rintro e w2 ⟨hbl,hm⟩;have hu2:Und w w2:=Und.of_below (Below.trans HU.out.below hbl);have HU2:=hid hu2;clear hbl hu2;cases hs:St.resL (raw.data.toList.drop a) with
   | none=>
    rw[hs] at hm;subst hm;have hd2:=HD.out.trans (St.dec_none fuel a d _ cuts h0 hs);have HD2:=hid hd2;clear hd2 hs h0;go_wp2;go_ret3;exact⟨HU2.out,.inr ⟨a,2,by decide,rfl,HD2.out⟩⟩
   | some x=>
    obtain⟨k,t,n⟩:=x;rw[hs] at hm;simp only at hm;obtain⟨_,hn1,hn2,_⟩:=St.res_len hs;have hn3:a+n<=raw.size:=by simp at hn2;omega
    have hdl:(raw.data.toList.drop a).drop n=raw.data.toList.drop (a+n):=by rw[List.drop_drop]
    by_cases hk0:k=0
    ·rw[if_pos hk0] at hm
     obtain⟨rfl,hB'⟩:=hm;subst hk0;have hd2:=HD.out.trans (St.dec_skip fuel a d _ cuts h0 hs);rw[hdl] at hd2;have HE:=hid (And.intro hd2 (And.intro hB' HN.out));clear hd2 hB' hs h0 hdl HEL HD HU HN;go_wp2;exact⟨⟨a+n,d,its,tx,cuts,fuel,congrArg (Value.int .i64) (by omega),hn3,by omega,HE.out.2.1,HE.out.2.2,h1,h2,h3,HE.out.1,HU2.out⟩,by simp[intOf];omega⟩
    rw[if_neg hk0] at hm
    split at hm
    ·rename_i hf
     subst hm;have hd2:=HD.out.trans (St.dec_full fuel a d _ cuts h0 hs hk0 hf);have HD2:=hid hd2;clear hd2 hs h0 hf hdl;go_wp2;go_ret3;exact⟨HU2.out,.inr ⟨a,3,by decide,rfl,HD2.out⟩⟩
    ·rename_i hf
     obtain⟨rfl,its',tx',hB',hN',hadd,ht'⟩:=hm;have hd2:=HD.out.trans (St.dec_step fuel a d _ cuts h0 hs hk0 hf);rw[<- hadd] at hd2 hf;rw[hdl] at hd2;have hl5:its'.length<=512:=by have:=(not_or.1 hf).1;simp at this;omega
     have hl6:cuts.length+1<=1024:=by have:=(not_or.1 hf).2;omega
     have HE:=hid (And.intro hd2 (And.intro hB' hN'));clear hd2 hB' hN' hadd hf hs h0 hdl HEL HD HU;go_wp2;exact⟨⟨a+n,a+n,its',tx',cuts++[d],fuel,congrArg (Value.int .i64) (by omega),hn3,by omega,HE.out.2.1,HE.out.2.2,hl5,by simp;omega,by simp;omega,HE.out.1,HU2.out⟩,by simp[intOf];omega⟩
  ·have haz:a=raw.size:=by omega
   subst haz;have hnil:raw.data.toList.drop raw.size=[]:=List.drop_of_length_le (by simp);rw[hnil,St.dec_nil] at hD;have HE:=hid (And.intro hu (And.intro hB hD));clear hlt hB hN hD hu hnil;go_wp2;go_ret3;exact⟨HE.out.1,.inl ⟨its,tx,cuts,d,rfl,HE.out.2.1,h1,h2,h3,HE.out.2.2⟩⟩
def DecEnd(R:List St.It × List Nat × Nat × Int)(w:World)(e:Ending)(w':World):Prop:=
 ∃ (A:Option Addr) (c:Nat),e=.returned (.tuple #[.slice A R.1.length c,.int .i64 (R.2.2.1:Int),.int .i64 R.2.2.2])/\ItemsAt w' A R.1/\R.1.length<=c/\c<=9223372036854775807/\Und w w'
theorem xdecode_any(raw:ByteArray)(w:World)(hr:raw.size<=4611686018427387904):Calls Tryz.prog 43 #[.string raw] w (DecEnd (resD raw) w):=by
 have HR:=hid (read_any raw w hr);go_enter Tryz.func43,Tryz.ntmps43;go_wp2_with fail;refine HR.out.mono ?_;rintro e w2 ⟨hu,⟨its,tx,cuts,d,rfl,hB,h1,h2,h3,hD⟩|⟨a,er,her,rfl,hD⟩⟩
 ·have HI:=hid (items_any w2 w.heap.size w.heap.size its tx cuts hB (by omega) (by omega) hu.size)
  have HU:=hid hu;have HD:=hid hD;clear hu hB hD HR;go_wp2_with fail;refine HI.out.mono ?_;rintro e w3 ⟨A,c,rfl,hI,hc1,hc2,hbl⟩;have HE:=hid (And.intro hI (Und.of_below (Below.trans HU.out.below hbl)));have hc1':=hid hc1;clear hI hbl hc1;go_wp2;go_ret3;unfold DecEnd;rw[HD.out];exact⟨A,c,by simp only[List.length_append];rfl,HE.out.1,hc1'.out,hc2,HE.out.2⟩
 ·have hb:(er==0)=false:=by simpa using her
  have HU:=hid hu;have HD:=hid hD;clear hu hD HR;go_wp2;go_ret3;unfold DecEnd;rw[HD.out];exact⟨none,0,rfl,fun h=>absurd h (by simp),by simp,by omega,HU.out⟩
def dE(l:List UInt8):Nat × Int:=((St.dec St.resL l.length l 0 0 [] []).2.2.1,(St.dec St.resL l.length l 0 0 [] []).2.2.2)
theorem dE_of(x:ByteArray):dE x.data.toList=((resD x).2.2.1,(resD x).2.2.2):=by
 unfold dE resD;rw[St.len_list]
theorem dec_at:∀ (fuel:Nat) (l:List UInt8) (a d:Nat) (f:List St.It) (cuts:List Nat),(St.dec St.resL fuel l a d f cuts).2.2.1<=a+l.length
 | 0,l,a,d,f,cuts=>by simp[St.dec]
 | fuel+1,l,a,d,f,cuts=>by
  by_cases h0:l=[]
  ·subst h0;rw[St.dec_nil];simp
  ·cases hs:St.resL l with
   | none=>rw[St.dec_none fuel a d f cuts h0 hs];simp
   | some x=>
    obtain⟨k,t,n⟩:=x;obtain⟨_,hn1,hn2,_⟩:=St.res_len hs
    by_cases hk:k=0
    ·subst hk
     rw[St.dec_skip fuel a d f cuts h0 hs];have h:=dec_at fuel (l.drop n) (a+n) d f cuts;rw[List.length_drop] at h;omega
    by_cases hf:512<(St.addI f (k,t,0)).length∨1024<=cuts.length
    ·rw[St.dec_full fuel a d f cuts h0 hs (by omega) hf];simp
    ·rw[St.dec_step fuel a d f cuts h0 hs (by omega) hf]
     have h:=dec_at fuel (l.drop n) (a+n) (a+n) (St.addI f (k,t,0)) (cuts++[d]);rw[List.length_drop] at h;omega
theorem resD_at(x:ByteArray):(resD x).2.2.1<=x.size:=by
 have:=dec_at x.size x.data.toList 0 0 [] []
 rw[St.len_list] at this;unfold resD;omega
end
section
namespace St
end St
end
section
namespace St
theorem keyN_nil:keyN []=0:=rfl
theorem keyN_no{c:UInt8}{r:List UInt8}(h:keyC c=false):keyN (c :: r)=0:=by unfold keyN;rw[List.takeWhile_cons_of_neg (by simp[h])];rfl
theorem keyN_yes{c:UInt8}{r:List UInt8}(h:keyC c=true):keyN (c :: r)=1+keyN r:=by unfold keyN;rw[List.takeWhile_cons_of_pos h,List.length_cons];omega
theorem endN_10{c:UInt8}{r:List UInt8}(h:c.toNat=10):endN (c :: r)=0:=by rw[endN.eq_def];simp only[];rw[if_pos h]
theorem endN_1{c:UInt8}(h:c.toNat=92):endN [c]=1:=by rw[endN.eq_def];simp only[];rw[if_neg (by omega),if_pos h]
theorem endN_2{c x:UInt8}{r:List UInt8}(h:c.toNat=92):endN (c :: x :: r)=2+endN r:=by rw[endN.eq_def];simp only[];rw[if_neg (by omega),if_pos h]
theorem endN_e{c:UInt8}{r:List UInt8}(h:c.toNat ≠ 10)(h2:c.toNat ≠ 92):endN (c :: r)=1+endN r:=by rw[endN.eq_def];simp only[];rw[if_neg h,if_neg h2]
theorem lineN_10{c:UInt8}{r:List UInt8}(h:c.toNat=10):lineN (c :: r)=0:=by unfold lineN;rw[List.takeWhile_cons_of_neg (by simp[h])];rfl
theorem lineN_e{c:UInt8}{r:List UInt8}(h:c.toNat ≠ 10):lineN (c :: r)=1+lineN r:=by unfold lineN;rw[List.takeWhile_cons_of_pos (by simpa using h),List.length_cons];omega
end St
def EdRel(d:ByteArray)(T:Nat)(s1:Value):Prop:=∃ k:Nat,s1=.int .i64 k/\((k<=d.size/\k+St.endN (d.data.toList.drop k)=T)∨(k=d.size+1/\T=d.size))
theorem rend2_any(d:ByteArray)(a:Nat)(w:World)(hd:d.size<=4611686018427387904)(ha:a<=d.size):Calls Tryz.prog 140 #[.string d,.int .i64 a,.bool true] w fun e w'=>e=.returned (.int .i64 ((a+St.endN (d.data.toList.drop a):Nat):Int))/\w=w':=by
 obtain⟨T,hT⟩:∃ T,a+St.endN (d.data.toList.drop a)=T:=⟨_,rfl⟩;have hTl:T<=d.size:=by have:=St.endN_le (d.data.toList.drop a);simp at this;omega
 rw[hT];go_enter Tryz.func140,Tryz.ntmps140;go_wp2;go_loop [1] (fun i=>EdRel d T i) (fun i=>d.size+2-(intOf i).toNat)
 case atStart=>exact⟨a,rfl,.inl ⟨ha,hT⟩⟩
 case round=>
  clear hT;obtain⟨k,rfl,⟨hk,h3⟩|⟨rfl,rfl⟩⟩:=hrel
  ·have HK:=hid h3
   clear h3
   by_cases hlt:k<d.size
   ·have z:(k:Int)<d.size:=by omega
    have hcons:=St.drop_at d k hlt
    by_cases c10:d[k].toNat=10
    ·have e10:((d[k].toNat:Int)==10)=true:=by simp;omega
     have f10:((d[k].toNat:Int) != 10)=false:=by simp;omega
     have HE:=hid (show T=k by have:=HK.out;rw[hcons,St.endN_10 c10] at this;omega);clear hcons c10;go_wp2;go_ret;exact⟨ret_int (by have:=HE.out;omega),rfl⟩
    ·have e10:((d[k].toNat:Int)==10)=false:=by simp;omega
     have f10:((d[k].toNat:Int) != 10)=true:=by simp;omega
     by_cases c92:d[k].toNat=92
     ·have e92:((d[k].toNat:Int)==92)=true:=by simp;omega
      by_cases hl1:k+1<d.size
      ·have hc2:=St.drop_at d (k+1) hl1
       have HE:=hid (show k+2+St.endN (d.data.toList.drop (k+1+1))=T by have:=HK.out;rw[hcons,hc2,St.endN_2 c92] at this;omega);clear hcons hc2 c10 c92;go_wp2;go_round
       case rel=>exact⟨k+2,congrArg (Value.int .i64) (by omega),.inl ⟨by omega,HE.out⟩⟩
       case measure=>simp[intOf];omega
      ·have hc2:d.data.toList.drop (k+1)=[]:=List.drop_of_length_le (by simp;omega)
       have HE:=hid (show T=d.size by have:=HK.out;rw[hcons,hc2,St.endN_1 c92] at this;omega);clear hcons hc2 c10 c92;go_wp2;go_round
       case rel=>exact⟨d.size+1,congrArg (Value.int .i64) (by omega),.inr ⟨rfl,HE.out⟩⟩
       case measure=>simp[intOf];omega
     ·have e92:((d[k].toNat:Int)==92)=false:=by simp;omega
      have HE:=hid (show k+1+St.endN (d.data.toList.drop (k+1))=T by have:=HK.out;rw[hcons,St.endN_e c10 c92] at this;omega);clear hcons c10 c92;go_wp2;go_round
      case rel=>exact⟨k+1,congrArg (Value.int .i64) (by omega),.inl ⟨by omega,HE.out⟩⟩
      case measure=>simp[intOf];omega
   ·obtain rfl:k=d.size:=by omega
    have HE:=hid (show T=d.size by have:=HK.out;rw[List.drop_of_length_le (by simp)] at this;exact this.symm);clear hlt;go_wp2;go_ret;exact⟨ret_int (by have:=HE.out;omega),rfl⟩
  ·have z:¬ ((d.size+1:Nat):Int)<d.size:=by omega
   go_wp2;go_ret;exact⟨ret_int (by omega),rfl⟩
def LeRel2(d:ByteArray)(T:Nat)(s1:Value):Prop:=∃ k:Nat,s1=.int .i64 k/\k<=d.size/\k+St.lineN (d.data.toList.drop k)=T
theorem rline_any(d:ByteArray)(a:Nat)(w:World)(hd:d.size<=4611686018427387904)(ha:a<=d.size):Calls Tryz.prog 140 #[.string d,.int .i64 a,.bool false] w fun e w'=>e=.returned (.int .i64 ((a+St.lineN (d.data.toList.drop a):Nat):Int))/\w=w':=by
 obtain⟨T,hT⟩:∃ T,a+St.lineN (d.data.toList.drop a)=T:=⟨_,rfl⟩;have hTl:T<=d.size:=by have:=St.lineN_le (d.data.toList.drop a);simp at this;omega
 rw[hT];go_enter Tryz.func140,Tryz.ntmps140;go_wp2;go_loop [1] (fun i=>LeRel2 d T i) (fun i=>d.size+2-(intOf i).toNat)
 case atStart=>exact⟨a,rfl,ha,hT⟩
 case round=>
  clear hT;obtain⟨k,rfl,hk,h3⟩:=hrel;have HK:=hid h3;clear h3
  by_cases hlt:k<d.size
  ·have z:(k:Int)<d.size:=by omega
   have hcons:=St.drop_at d k hlt
   by_cases c10:d[k].toNat=10
   ·have e10:((d[k].toNat:Int)==10)=true:=by simp;omega
    have f10:((d[k].toNat:Int) != 10)=false:=by simp;omega
    have HE:=hid (show T=k by have:=HK.out;rw[hcons,St.lineN_10 c10] at this;omega);clear hcons c10;go_wp2;go_ret;exact⟨ret_int (by have:=HE.out;omega),rfl⟩
   ·have e10:((d[k].toNat:Int)==10)=false:=by simp;omega
    have f10:((d[k].toNat:Int) != 10)=true:=by simp;omega
    have HE:=hid (show k+1+St.lineN (d.data.toList.drop (k+1))=T by have:=HK.out;rw[hcons,St.lineN_e c10] at this;omega);clear hcons c10;go_wp2;go_round
    case rel=>exact⟨k+1,congrArg (Value.int .i64) (by omega),by omega,HE.out⟩
    case measure=>simp[intOf];omega
  ·obtain rfl:k=d.size:=by omega
   have HE:=hid (show T=d.size by have:=HK.out;rw[List.drop_of_length_le (by simp)] at this;exact this.symm);clear hlt;go_wp2;go_ret;exact⟨ret_int (by have:=HE.out;omega),rfl⟩
theorem keyByte_any(c:UInt8)(w:World):Calls Tryz.prog 141 #[.int .u8 (c.toNat:Int)] w fun e w'=>e=.returned (.bool (St.keyC c))/\w=w':=by
 rcases(show (97<=c.toNat/\c.toNat<=122)∨(48<=c.toNat/\c.toNat<=57)∨(c.toNat=46)∨(c.toNat=95)∨(c.toNat=45)∨(c.toNat<45∨c.toNat=47)∨(58<=c.toNat/\c.toNat<97/\c.toNat ≠ 95)∨(122<c.toNat) by omega) with hc|hc|hc|hc|hc|hc|hc|hc
 ·have hk:St.keyC c=true:=decide_eq_true (by omega)
  have y0:97<=(c.toNat:Int):=by omega
  have y1:(c.toNat:Int)<=122:=by omega
  clear hc;rw[hk];clear hk;go_enter Tryz.func141,Tryz.ntmps141;go_wp2;go_ret;exact⟨rfl,rfl⟩
 ·have hk:St.keyC c=true:=decide_eq_true (by omega)
  have y0:¬ 97<=(c.toNat:Int):=by omega
  have y1:48<=(c.toNat:Int):=by omega
  have y2:(c.toNat:Int)<=57:=by omega
  clear hc;rw[hk];clear hk;go_enter Tryz.func141,Tryz.ntmps141;go_wp2;go_ret;exact⟨rfl,rfl⟩
 ·have hk:St.keyC c=true:=decide_eq_true (by omega)
  have y0:¬ 97<=(c.toNat:Int):=by omega
  have y1:¬ 48<=(c.toNat:Int):=by omega
  have y2:((c.toNat:Int)==46)=true:=by simp;omega
  clear hc;rw[hk];clear hk;go_enter Tryz.func141,Tryz.ntmps141;go_wp2;go_ret;exact⟨rfl,rfl⟩
 ·have hk:St.keyC c=true:=decide_eq_true (by omega)
  have y0:¬ 97<=(c.toNat:Int):=by omega
  have y1:48<=(c.toNat:Int):=by omega
  have y2:¬ (c.toNat:Int)<=57:=by omega
  have y3:((c.toNat:Int)==46)=false:=by simp;omega
  have y4:((c.toNat:Int)==95)=true:=by simp;omega
  clear hc;rw[hk];clear hk;go_enter Tryz.func141,Tryz.ntmps141;go_wp2;go_ret;exact⟨rfl,rfl⟩
 ·have hk:St.keyC c=true:=decide_eq_true (by omega)
  have y0:¬ 97<=(c.toNat:Int):=by omega
  have y1:¬ 48<=(c.toNat:Int):=by omega
  have y2:((c.toNat:Int)==46)=false:=by simp;omega
  have y3:((c.toNat:Int)==95)=false:=by simp;omega
  have y4:((c.toNat:Int)==45)=true:=by simp;omega
  clear hc;rw[hk];clear hk;go_enter Tryz.func141,Tryz.ntmps141;go_wp2;go_ret;exact⟨rfl,rfl⟩
 ·have hk:St.keyC c=false:=decide_eq_false (by omega)
  have y0:¬ 97<=(c.toNat:Int):=by omega
  have y1:¬ 48<=(c.toNat:Int):=by omega
  have y2:((c.toNat:Int)==46)=false:=by simp;omega
  have y3:((c.toNat:Int)==95)=false:=by simp;omega
  have y4:((c.toNat:Int)==45)=false:=by simp;omega
  clear hc;rw[hk];clear hk;go_enter Tryz.func141,Tryz.ntmps141;go_wp2;go_ret;exact⟨rfl,rfl⟩
 ·have hk:St.keyC c=false:=decide_eq_false (by omega)
  have y0:¬ 97<=(c.toNat:Int):=by omega
  have y1:48<=(c.toNat:Int):=by omega
  have y2:¬ (c.toNat:Int)<=57:=by omega
  have y3:((c.toNat:Int)==46)=false:=by simp;omega
  have y4:((c.toNat:Int)==95)=false:=by simp;omega
  have y5:((c.toNat:Int)==45)=false:=by simp;omega
  clear hc;rw[hk];clear hk;go_enter Tryz.func141,Tryz.ntmps141;go_wp2;go_ret;exact⟨rfl,rfl⟩
 ·have hk:St.keyC c=false:=decide_eq_false (by omega)
  have y0:97<=(c.toNat:Int):=by omega
  have y1:¬ (c.toNat:Int)<=122:=by omega
  have y2:48<=(c.toNat:Int):=by omega
  have y3:¬ (c.toNat:Int)<=57:=by omega
  have y4:((c.toNat:Int)==46)=false:=by simp;omega
  have y5:((c.toNat:Int)==95)=false:=by simp;omega
  have y6:((c.toNat:Int)==45)=false:=by simp;omega
  clear hc;rw[hk];clear hk;go_enter Tryz.func141,Tryz.ntmps141;go_wp2;go_ret;exact⟨rfl,rfl⟩
def HkRel(l:List St.Pt)(k:List UInt8)(i:Value):Prop:=∃ j:Nat,i=.int .i64 j/\j<=l.length/\St.hasK l k=St.hasK (l.drop j) k
theorem hasK_cons(p:St.Pt)(l:List St.Pt)(k:List UInt8):St.hasK (p :: l) k=((p.1 && decide (p.2.1=k)) || St.hasK l k):=by unfold St.hasK;rw[List.any_cons]
theorem hasKey_any(A:Option Addr)(n c:Nat)(l:List St.Pt)(k:ByteArray)(w:World)(hn:l.length=n)(hnc:n<=c)(hc:c<=9223372036854775807)(h:PartsAt w A l):Calls Tryz.prog 142 #[.slice A n c,.string k] w fun e w'=>e=.returned (.bool (St.hasK l k.data.toList))/\w=w':=by
 have HP:=hid h;clear h;go_enter Tryz.func142,Tryz.ntmps142;go_wp2;go_loop [8] (fun i=>HkRel l k.data.toList i) (fun i=>l.length+1-(intOf i).toNat)
 case atStart=>exact⟨0,rfl,by omega,by simp⟩
 case round=>
  obtain⟨j,rfl,hj,h3⟩:=hrel;have HK:=hid h3;clear h3
  by_cases hlt:j<l.length
  ·have z:(j:Int)<n:=by omega
   obtain⟨b,o,rfl,hb,hcl⟩:=HP.out (by omega);obtain⟨x1,x2,x3⟩:=hcl j hlt;haveI:LtW b w:=LtW.of hb;have hcons:l.drop j=l[j] :: l.drop (j+1):=List.drop_eq_getElem_cons hlt;generalize l[j]=p at x1 x2 x3 hcons;obtain⟨p1,p2,p3⟩:=p;simp only at x1 x2 x3;obtain⟨ky,hky⟩:∃ ky:ByteArray,ky=⟨p2.toArray⟩:=⟨_,rfl⟩;rw[<- hky] at x2;have hkl:ky.toList=p2:=by rw[Lib.toList_data,hky]
   have hst:=HK.out;rw[hcons,hasK_cons] at hst;clear hcl hcons x3 hky;cases p1
   ·have HE:=hid (show St.hasK l k.data.toList=St.hasK (l.drop (j+1)) k.data.toList by rw[hst];simp)
    clear hst hkl;go_wp2;exact⟨⟨j+1,by simp,by omega,HE.out⟩,by simp[intOf];omega⟩
   ·by_cases hq:p2=k.data.toList
    ·have e1:(ky.toList==k.toList)=true:=by rw[hkl,Lib.toList_data,hq];simp
     have HE:=hid (show St.hasK l k.data.toList=true by rw[hst];simp[hq]);clear hst hq hkl;go_wp2;go_ret;exact⟨ret_bool HE.out.symm,rfl⟩
    ·have e1:(ky.toList==k.toList)=false:=by rw[hkl,Lib.toList_data];simpa using hq
     have HE:=hid (show St.hasK l k.data.toList=St.hasK (l.drop (j+1)) k.data.toList by rw[hst];simp[hq]);clear hst hq hkl;go_wp2;exact⟨⟨j+1,by simp,by omega,HE.out⟩,by simp[intOf];omega⟩
  ·obtain rfl:j=l.length:=by omega
   have z:¬ (l.length:Int)<n:=by omega
   have HE:=hid (show St.hasK l k.data.toList=false by rw[HK.out];simp[St.hasK]);clear hlt;go_wp2;go_ret;exact⟨ret_bool HE.out.symm,rfl⟩
end
section
end
section
def resT(d:ByteArray):List St.Pt × Nat × Int:=St.splitR dE d.data.toList
def SplitEnd(R:List St.Pt × Nat × Int)(w:World)(e:Ending)(w':World):Prop:=
 ∃ (A:Option Addr) (c:Nat),e=.returned (.tuple #[.slice A R.1.length c,.int .i64 (R.2.1:Int),.int .i64 R.2.2])/\PartsAt w' A R.1/\R.1.length<=c/\c<=9223372036854775807/\Und w w'
theorem SplitEnd.err{R:List St.Pt × Nat × Int}{w w':World}{a:Nat}{er:Int}(h:R=([],a,er))(u:Und w w')(m:Int)(hm:m=a):SplitEnd R w (.returned (.tuple #[.slice none 0 0,.int .i64 m,.int .i64 er])) w':=by
 subst h hm;exact⟨none,0,rfl,fun h=>absurd h (by simp),by simp,by omega,u⟩
end
section
end
end Go.Proofs.YthoemdibbldndaaGreatDoor
