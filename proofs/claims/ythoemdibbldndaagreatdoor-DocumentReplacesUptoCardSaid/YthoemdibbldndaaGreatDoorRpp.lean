/- Plain: a raw content that is read without an error is pieces, whatever stands behind them. -/
import Derived.Test.YthoemdibbldndaaGreatDoorRsB
import Derived.Test.YthoemdibbldndaaGreatDoorDcD
set_option linter.all false
namespace Go.Proofs.YthoemdibbldndaaGreatDoor.St
structure zd (E:List UInt8->El) (G:Int->List UInt8->Prop):Prop where
 ok:rE E
 elem:∀l k t n,E l=some (k,t,n)->k≠0->G k t/\∀rest,E (l.take n++rest)=some (k,t,n)
 skip:∀l t n,E l=some (0,t,n)->∀c r r',l.drop n=c :: r->E (l.take n++c :: r')=some (0,t,n)
end Go.Proofs.YthoemdibbldndaaGreatDoor.St
namespace Go.Proofs.YthoemdibbldndaaGreatDoor.St
theorem JL(a b:List It):im (a++b)=im a++im b:=by simp[im]
theorem JK(f:List It)(x:It):im (aV f x)=im f++im [x]:=by
 by_cases h:x.1=1
 ·have e:aV f x=aV f (1,x.2.1,0):=by unfold aV;simp[h]
  rw[e,Hl];simp[im,h]
 rw[zW h,JL]
def gD(f:List It):List It:=f.filter λx=>decide (x.1≠1)
theorem qO:∀f:List It,gD (im f)=gD f
 | []=>rfl
 | x :: f=>by
  have e:gD (im (x :: f))=gD (if x.1=1 then x.2.1.map (λc=>((1:Int),[c],(0:Int)))else[x])++gD (im f):=by rw[JM];unfold gD;rw[List.filter_append]
  rw[e,qO f]
  split
  ·rename_i h
   have e1:gD (x.2.1.map (λc=>((1:Int),[c],(0:Int))))=[]:=by
    unfold gD;rw[List.filter_eq_nil_iff];intro y hy;obtain⟨c,_,rfl⟩:=List.mem_map.1 hy;simp
   rw[e1];unfold gD;rw[List.filter_cons_of_neg (by simp[h])];rfl
  rename_i h
  unfold gD;rw[List.filter_cons_of_pos (by simp[h]),List.filter_cons_of_pos (by simp[h])];rfl
theorem qN(a b:List It):gD (a++b)=gD a++gD b:=by unfold gD;rw[List.filter_append]
end Go.Proofs.YthoemdibbldndaaGreatDoor.St
namespace Go.Proofs.YthoemdibbldndaaGreatDoor.St
theorem Gi:∀p:It,RW p->Np ch (cF 3 p) p:=by
 rintro p (⟨c,rfl⟩|⟨t,rfl,ht⟩)
 ·have e:cF 3 (1,[c],0)=bZ 3 c:=by simp[cF]
  rw[e];refine⟨λh0=>by have:=(nX 3 c).1;rw[h0]at this;simp at this,by simp,λrest=>?_⟩
  by_cases Ax:c.toNat=34
  ·obtain rfl:=tE Ax;rfl
  by_cases eE:c.toNat=123
  ·obtain rfl:=tE eE;rfl
  have e2:bZ 3 c=[c]:=by unfold bZ;simp[Ax,eE]
  rw[e2]
  show ch (c :: rest)=_
  rw[ch,if_neg Ax,if_neg eE];rfl
 have e:cF 3 (5,t,0)=123 :: (t++[125]):=by simp[cF]
 rw[e];refine⟨by simp,by simp,λrest=>?_⟩;have e2:123 :: (t++[125])++rest=123 :: (t++125 :: rest):=by simp
 obtain⟨c,r,hc,hc2⟩:=LP ht
 have hp:([123,123]:List UInt8).isPrefixOf (123 :: (t++125 :: rest))=false:=by
  rw[hc];simp only[List.cons_append,List.isPrefixOf]
  have:((123:UInt8)==c)=false:=by
   refine Bool.eq_false_iff.2 λe=>hc2 ?_
   rw[<-eq_of_beq e];rfl
  simp[this]
 rw[e2,ch,if_neg (by decide),if_pos (by decide),hp,yO ht];simp
def P1(fmt:Int):List UInt8->El:=if fmt=1 then cE else if fmt=2 then cA else ch
def Fy(fmt:Int)(k:Int)(t:List UInt8):Prop:=k=1\/(k=5/\aS t=true)\/(fmt=1/\(((k=2\/k=4)/\a7 t=true/\df (nameOf t)=false)\/(k=3/\aS t=true/\df t=false)))
end Go.Proofs.YthoemdibbldndaaGreatDoor.St
namespace Go.Proofs.YthoemdibbldndaaGreatDoor.St
theorem tC(p:UInt8->Bool):∀r:List UInt8,(r.takeWhile p).length<r.length->∃x r',r=r.takeWhile p++x :: r'/\p x=false
 | [],h=>by simp at h
 | c :: r,h=>by
  by_cases hc:p c=true
  ·rw[List.takeWhile_cons_of_pos hc]at h |-;obtain⟨x,r',h1,h2⟩:=tC p r (by simpa using h);exact⟨x,r',by rw[List.cons_append,<-h1],h2⟩
  exact⟨c,r,by rw[List.takeWhile_cons_of_neg hc];rfl,by simpa using hc⟩
theorem Ca(p:UInt8->Bool):∀(r:List UInt8),∀c∈r.takeWhile p,p c=true
 | c :: r,d,h=>by
  by_cases hc:p c=true
  ·rw[List.takeWhile_cons_of_pos hc]at h;rcases List.mem_cons.1 h with rfl|h
   ·exact hc
   exact Ca p r d h
  rw[List.takeWhile_cons_of_neg hc]at h;cases h
theorem sO{c:UInt8}{r:List UInt8}{x:List UInt8 × Nat}(hc:c.toNat=123)(h:cH (c :: r)=some x):(c :: r).take x.2=123 :: (x.1++[125])/\aS x.1=true/\x.2=x.1.length+2:=by
 unfold cH at h;simp only[List.drop_succ_cons,List.drop_zero]at h
 split at h
 ·rename_i hq
  rw[Bool.and_eq_true,decide_eq_true_eq]at hq;simp only[Option.some.injEq]at h;subst h;obtain⟨y,r',h1,h2⟩:=tC (λc=>decide (c.toNat≠125)) r (by simpa using hq.1);have hy:=tE (show y.toNat=125 by simpa using h2);have hc2:=tE hc;refine⟨?_,hq.2,rfl⟩;generalize r.takeWhile (λc=>decide (c.toNat≠125))=u at h1;subst hy hc2;rw[h1];have e:UInt8.ofNat 123 :: (u++UInt8.ofNat 125 :: r')=(UInt8.ofNat 123 :: (u++[UInt8.ofNat 125]))++r':=by simp
  rw[e];exact List.take_left' (by simp)
 cases h
theorem J4{c:UInt8}{r t:List UInt8}{k:Int}{n:Nat}(hc:c.toNat=60)(h:fP (c :: r)=some (k,t,n)):∃u,(c :: r).take n=[60]++u++[62]/\(∀d∈u,d.toNat≠62)/\fY u=some (k,t)/\n=u.length+2:=by
 unfold fP at h
 split at h
 ·rename_i hl
  cases hq:fY (cZ (c :: r))with
  | none=>rw[hq]at h;cases h
  | some x=>
   obtain⟨k',t'⟩:=x;rw[hq]at h;simp only[Option.map_some,Option.some.injEq,Prod.mk.injEq]at h;obtain⟨rfl,rfl,rfl⟩:=h;refine⟨cZ (c :: r),?_,λd hd=>?_,hq,rfl⟩
   ·have hin:cZ (c :: r)=r.takeWhile (λc=>decide (c.toNat≠62)):=rfl;rw[hin]at hl |-;obtain⟨y,r',h1,h2⟩:=tC (λc=>decide (c.toNat≠62)) r (by simpa using hl);have hy:=tE (show y.toNat=62 by simpa using h2);have hc2:=tE hc;generalize r.takeWhile (λc=>decide (c.toNat≠62))=u at h1;subst hy hc2;rw[h1];have e:UInt8.ofNat 60 :: (u++UInt8.ofNat 62 :: r')=([60]++u++[62])++r':=by simp
    rw[e];exact List.take_left' (by simp)
   have:=Ca _ _ d hd
   simpa using this
 cases h
theorem BA{m l:List UInt8}(h:m.isPrefixOf l=true):l.take m.length=m:=(List.prefix_iff_eq_take.1 (List.isPrefixOf_iff_prefix.1 h)).symm
theorem Ih{u t:List UInt8}{k:Int}(h:fY u=some (k,t))(hb:df (nameOf t)=false):Fy 1 k t:=by
 unfold fY at h
 split at h
 ·split at h
  ·rename_i hn
   simp only[Option.some.injEq,Prod.mk.injEq]at h;obtain⟨rfl,rfl⟩:=h;rw[Cr hn]at hb;exact .inr (.inr ⟨rfl,.inr ⟨rfl,hn,hb⟩⟩)
  cases h
 split at h
 ·split at h
  ·rename_i hn
   simp only[Option.some.injEq,Prod.mk.injEq]at h;obtain⟨rfl,rfl⟩:=h;exact .inr (.inr ⟨rfl,.inl ⟨.inr rfl,hn,hb⟩⟩)
  cases h
 split at h
 ·rename_i hn
  simp only[Option.some.injEq,Prod.mk.injEq]at h;obtain⟨rfl,rfl⟩:=h;exact .inr (.inr ⟨rfl,.inl ⟨.inl rfl,hn,hb⟩⟩)
 cases h
theorem JB:zd cE (Fy 1):=by
 refine⟨Dh,λl k t n h hk=>?_,λl t n h=>?_⟩
 ·match l,h with
  | c :: r,h=>
   by_cases nZ:c.toNat=60
   ·rw[nA nZ]at h;unfold sv at h;cases hq:fP (c :: r)with
    | none=>rw[hq]at h;cases h
    | some x=>
     obtain⟨k',t',n'⟩:=x;rw[hq]at h;simp only at h
     split at h
     ·cases h
     rename_i hb
     simp only[Option.some.injEq,Prod.mk.injEq]at h;obtain⟨rfl,rfl,rfl⟩:=h;obtain⟨u,g1,g2,g3,g4⟩:=J4 nZ hq;have hb':df (nameOf t')=false:=by simpa using hb
     refine⟨Ih g3 hb',λrest=>?_⟩;rw[g1,Ox g2 g3 hb',g4]
   by_cases vx:c.toNat=38
   ·rw[nz vx]at h;unfold qX at h
    repeat' split at h
    all_goals first|(simp only[reduceCtorEq]at h;done)|skip
    all_goals
     rename_i hp
     simp only[Option.some.injEq,Prod.mk.injEq]at h;obtain⟨rfl,rfl,rfl⟩:=h;have:=BA hp
     simp only[List.length_cons,List.length_nil,Nat.zero_add,Nat.reduceAdd]at this;refine⟨.inl rfl,λrest=>?_⟩;rw[this]
     show cE (38 :: _)=_
     rw[nz (by rfl)];rfl
   by_cases eE:c.toNat=123
   ·rw[l8 eE]at h;cases hq:cH (c :: r)with
    | none=>rw[hq]at h;cases h
    | some x=>
     rw[hq]at h;simp only[Option.map_some,Option.some.injEq,Prod.mk.injEq]at h;obtain⟨rfl,rfl,rfl⟩:=h;obtain⟨g1,g2,g3⟩:=sO eE hq;refine⟨.inr (.inl ⟨rfl,g2⟩),λrest=>?_⟩;rw[g1]
     show cE (123 :: _)=_
     have:=Fg (rest:=rest) g2
     rw[l8 (by rfl)];have e:([123]++x.1++[125]++rest:List UInt8)=123 :: (x.1++[125]++rest):=by simp
     rw[e]at this;have this:cH (123 :: (x.1++[125]).append rest)=_:=this;rw[this,g3];rfl
   rw[kQ nZ vx eE]at h;simp only[Option.some.injEq,Prod.mk.injEq]at h;obtain⟨rfl,rfl,rfl⟩:=h;exact⟨.inl rfl,λrest=>kQ nZ vx eE⟩
 have:=(oq h).1
 omega
theorem sH:rE cA:=λl k t n h=>by
 obtain⟨_,h1,h2,h3⟩:=jY h;refine⟨h1,h2,h3,?_⟩;rintro rfl
 match l,h with
 | c :: r,h=>
  by_cases h10:c.toNat=10
  ·rw[p8 h10]at h;cases h
  by_cases j5:c.toNat=92
  ·match r,h with
   | [],h=>rw[nB j5]at h;cases h
   | d :: r',h=>
    by_cases hd:d.toNat=10
    ·rw[kG j5 hd]at h;simp at h
    rw[mi j5 hd]at h;cases he:lV d with
    | none=>rw[he]at h;cases h
    | some e=>
     rw[he]at h;simp only[Option.map_some,Option.some.injEq,Prod.mk.injEq]at h;obtain⟨_,rfl,_⟩:=h;rfl
  by_cases eE:c.toNat=123
  ·rw[mh eE]at h;cases hq:cH (c :: r)with
   | none=>rw[hq]at h;cases h
   | some x=>rw[hq]at h;simp at h
  rw[kH h10 j5 eE]at h;simp only[Option.some.injEq,Prod.mk.injEq]at h;obtain⟨_,rfl,_⟩:=h;rfl
theorem LY:zd cA (Fy 2):=by
 refine⟨sH,λl k t n h hk=>?_,λl t n h c r r' hd=>?_⟩
 ·match l,h with
  | c :: r,h=>
   by_cases h10:c.toNat=10
   ·rw[p8 h10]at h;cases h
   by_cases j5:c.toNat=92
   ·match r,h with
    | [],h=>rw[nB j5]at h;cases h
    | d :: r',h=>
     by_cases hd:d.toNat=10
     ·rw[kG j5 hd]at h;simp only[Option.some.injEq,Prod.mk.injEq]at h;exact absurd h.1.symm hk
     rw[mi j5 hd]at h;cases he:lV d with
     | none=>rw[he]at h;cases h
     | some e=>
      rw[he]at h;simp only[Option.map_some,Option.some.injEq,Prod.mk.injEq]at h;obtain⟨rfl,rfl,rfl⟩:=h;refine⟨.inl rfl,λrest=>?_⟩
      show cA (c :: d :: rest)=_
      rw[mi j5 hd,he];rfl
   by_cases eE:c.toNat=123
   ·rw[mh eE]at h;cases hq:cH (c :: r)with
    | none=>rw[hq]at h;cases h
    | some x=>
     rw[hq]at h;simp only[Option.map_some,Option.some.injEq,Prod.mk.injEq]at h;obtain⟨rfl,rfl,rfl⟩:=h;obtain⟨g1,g2,g3⟩:=sO eE hq;refine⟨.inr (.inl ⟨rfl,g2⟩),λrest=>?_⟩;rw[g1,JR g2,g3];simp
   rw[kH h10 j5 eE]at h;simp only[Option.some.injEq,Prod.mk.injEq]at h;obtain⟨rfl,rfl,rfl⟩:=h;exact⟨.inl rfl,λrest=>kH h10 j5 eE⟩
 match l,h with
 | c1 :: r1,h=>
  by_cases h10:c1.toNat=10
  ·rw[p8 h10]at h;cases h
  by_cases j5:c1.toNat=92
  ·match r1,h with
   | [],h=>rw[nB j5]at h;cases h
   | d :: r2,h=>
    by_cases hd2:d.toNat=10
    ·rw[kG j5 hd2]at h;simp only[Option.some.injEq,Prod.mk.injEq]at h;obtain⟨_,rfl,rfl⟩:=h
     have hdr:r2.drop (eD r2)=c :: r:=by
      rw[Nat.add_comm]at hd;simpa using hd
     have hlt:(r2.takeWhile gw).length<r2.length:=by
      have:=congrArg List.length hdr
      simp[eD]at this;omega
     obtain⟨y,r3,g1,g2⟩:=tC gw r2 hlt;have mV:eD r2=(r2.takeWhile gw).length:=rfl;have Q4:=Ca gw r2;generalize r2.takeWhile gw=u at g1 mV hlt Q4
     have hy:y=c:=by
      rw[mV,g1,List.drop_left]at hdr;exact(List.cons.inj hdr).1
     subst hy
     have ht:(c1 :: d :: r2).take (2+eD r2)=c1 :: d :: u:=by
      rw[Nat.add_comm,List.take_succ_cons,List.take_succ_cons,mV];congr 2;rw[g1,List.take_left]
     rw[ht]
     show cA (c1 :: d :: (u++y :: r'))=_
     rw[kG j5 hd2,mV]
     have:eD (u++y :: r')=u.length:=by
      unfold eD;rw[List.takeWhile_append_of_pos Q4,List.takeWhile_cons_of_neg (by simp[g2]),List.append_nil]
     rw[this]
    rw[mi j5 hd2]at h;cases he:lV d with
    | none=>rw[he]at h;cases h
    | some e=>rw[he]at h;simp at h
  by_cases eE:c1.toNat=123
  ·rw[mh eE]at h;cases hq:cH (c1 :: r1)with
   | none=>rw[hq]at h;cases h
   | some x=>rw[hq]at h;simp at h
  rw[kH h10 j5 eE]at h;simp at h
theorem mu{c:UInt8}{r:List UInt8}{k:Int}{t:List UInt8}{n:Nat}(h:ch (c :: r)=some (k,t,n)):(k=1/\t.length=1/\1<=n/\n<=(c :: r).length/\∀rest,ch ((c :: r).take n++rest)=some (k,t,n))\/(k=5/\aS t=true/\n=t.length+2/\n<=(c :: r).length/\∀rest,ch ((c :: r).take n++rest)=some (k,t,n)):=by
 rw[ch]at h
 split at h
 ·rename_i Ax
  split at h
  ·rename_i hp
   have hl:=(List.isPrefixOf_iff_prefix.1 hp).length_le;have ht:=BA hp;simp only[Option.some.injEq,Prod.mk.injEq]at h;obtain⟨rfl,rfl,rfl⟩:=h;refine .inl ⟨rfl,rfl,by omega,by simpa using hl,λrest=>?_⟩;simp only[List.length_cons,List.length_nil,Nat.zero_add,Nat.reduceAdd]at ht;rw[ht];rfl
  cases h
 split at h
 ·rename_i Ax eE
  split at h
  ·rename_i hp
   have hl:=(List.isPrefixOf_iff_prefix.1 hp).length_le;have ht:=BA hp;simp only[Option.some.injEq,Prod.mk.injEq]at h;obtain⟨rfl,rfl,rfl⟩:=h;refine .inl ⟨rfl,rfl,by omega,by simpa using hl,λrest=>?_⟩;simp only[List.length_cons,List.length_nil,Nat.zero_add,Nat.reduceAdd]at ht;rw[ht];rfl
  cases hq:cH (c :: r)with
  | none=>rw[hq]at h;cases h
  | some x=>
   rw[hq]at h;simp only[Option.map_some,Option.some.injEq,Prod.mk.injEq]at h;obtain⟨rfl,rfl,rfl⟩:=h;obtain⟨g1,g2,g3⟩:=sO eE hq;refine .inr ⟨rfl,g2,g3,(B0 hq).2.1,λrest=>?_⟩;have hp2:=(Gi (5,x.1,0) (.inr ⟨x.1,rfl,g2⟩)).2.2 rest;have e:cF 3 (5,x.1,0)=123 :: (x.1++[125]):=by simp[cF]
   rw[e]at hp2;rw[g1,hp2,g3];simp
 rename_i Ax eE
 simp only[Option.some.injEq,Prod.mk.injEq]at h;obtain⟨rfl,rfl,rfl⟩:=h;refine .inl ⟨rfl,rfl,by omega,by simp,λrest=>?_⟩
 show ch (c :: rest)=_
 rw[ch,if_neg Ax,if_neg eE]
theorem Ia:zd ch (Fy 3):=by
 refine⟨λl k t n h=>?_,λl k t n h hk=>?_,λl t n h=>?_⟩
 ·match l,h with
  | c :: r,h=>
   rcases mu h with⟨rfl,h2,h3,h4,_⟩|⟨rfl,h2,h3,h4,_⟩
   ·exact⟨h3,h4,by omega,λ_=>h2⟩
   exact⟨by omega,h4,by omega,λe=>absurd e (by decide)⟩
 ·match l,h with
  | c :: r,h=>
   rcases mu h with⟨rfl,h2,h3,h4,h5⟩|⟨rfl,h2,h3,h4,h5⟩
   ·exact⟨.inl rfl,h5⟩
   exact⟨.inr (.inl ⟨rfl,h2⟩),h5⟩
 match l,h with
 | c :: r,h=>
  rcases mu h with⟨h1,_⟩|⟨h1,_⟩
  ·exact absurd h1 (by decide)
  exact absurd h1 (by decide)
theorem Ly{fmt:Int}(h:fmt=1\/fmt=2\/fmt=3):zd (P1 fmt) (Fy fmt):=by
 rcases h with rfl|rfl|rfl
 ·exact JB
 ·exact LY
 exact Ia
end Go.Proofs.YthoemdibbldndaaGreatDoor.St
