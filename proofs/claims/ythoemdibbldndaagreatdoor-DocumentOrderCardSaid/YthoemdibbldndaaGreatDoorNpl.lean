/- Plain: a unit of the maker's with nothing replaced, with ranges replaced by what they. -/
import Derived.Test.YthoemdibbldndaaGreatDoorHvd
import Derived.Test.YthoemdibbldndaaGreatDoorPcT
set_option linter.all false
namespace Go.Proofs.YthoemdibbldndaaGreatDoor
namespace St
theorem Ee:∀(f g:List It),lN (kJ g) f->f.foldl aK g=g++f
 | [],g,_=>by simp
 | x :: f,g,h=>by
  have hx:aK g x=g++[x]:=by
   by_cases h1:x.1=1
   ·obtain⟨h2,h3,h4⟩:=h.1 h1;obtain⟨k,t,i⟩:=x;simp only at h1 h2 h3;subst h1 h3;rcases cL g with rfl|⟨a,b,rfl⟩
    ·rw[dU,if_pos rfl,if_neg h2];rfl
    have hb:¬b.1=1:=by
     intro e;unfold kJ lp at h4;simp[e]at h4
    rw[cN,if_pos rfl,if_neg h2,if_neg hb]
   exact gO h1
  have hl:kJ (g++[x])=decide (x.1=1):=by unfold kJ lp;simp
  rw[List.foldl_cons,hx,Ee f (g++[x]) (by rw[hl];exact h.2)];simp
theorem PA{g h:List It}(hg:Nm g)(hh:Nm h)(e:aE g=aE h):g=h:=by
 rw[<-lV hg (kL hg),e,lV hh (kL hh)]
theorem Nf{f:List It}(h:Nm f)(a b:Nat):Nm (aR a b 0 f):=by
 show bI _=_
 unfold bI;rw[Ee _ [] (Bu a b f 0 false (uw h))];rfl
def iN(f:List It)(rs:List (Int × Int)):List (List It):=rs.map λr=>aR r.1.toNat r.2.toNat 0 f
theorem uJ(f:List It):∀rs:List (Int × Int),Fits f rs (iN f rs)
 | []=>trivial
 | r :: rs=>⟨rfl,uJ f rs⟩
theorem EL{f:List It}:∀(rs:List (Int × Int)) (a:Nat),bV (aA f) a rs=true->a<=aA f->bL aE (aE f) a rs (iN f rs)=(aE f).drop a
 | [],a,_,_=>by simp[iN,bL]
 | r :: rs,a,h,ha=>by
  rw[bV]at h
  split at h
  ·cases h
  rename_i hn
  obtain⟨p,q⟩:=r;simp only at hn h;obtain⟨p,rfl⟩:∃p':Nat,p=p':=⟨p.toNat,by omega⟩;obtain⟨q,rfl⟩:∃q':Nat,q=q':=⟨q.toNat,by omega⟩;have ih:=EL (f:=f) rs q h (by omega)
  show bL aE (aE f) a (((p:Int),(q:Int)) :: rs) (aR (p:Int).toNat (q:Int).toNat 0 f :: iN f rs)=_
  rw[bL];simp only[Int.toNat_natCast];rw[ih,iu,Nat.sub_zero,Nat.sub_zero]
  have e1:(aE f).drop a=((aE f).take p).drop a++(aE f).drop p:=by
   conv=>lhs;rw[<-List.take_append_drop p (aE f)]
   rw[List.drop_append_of_le_length (by rw[List.length_take,ep];omega)]
  have e2:(aE f).drop p=((aE f).take q).drop p++(aE f).drop q:=by
   conv=>lhs;rw[<-List.take_append_drop q (aE f)]
   rw[List.drop_append_of_le_length (by rw[List.length_take,ep];omega)]
  rw[e1,e2]
theorem Ls{f:List It}(h:Nm f){rs:List (Int × Int)}(ha:bV (aA f) 0 rs=true):cK f rs (iN f rs)=f:=by
 rw[<-lV (kP f rs (iN f rs)) (kL (kP _ _ _)),ku,EL rs 0 ha (Nat.zero_le _),List.drop_zero,lV h (kL h)]
theorem sP(a b:Nat)(f:List It):(aR a b 0 f).length<=f.length/\aA (aR a b 0 f)<=aA f:=by
 refine⟨BP a b f 0,?_⟩;rw[Jb];omega
section
variable {fmt:Int} {p:List UInt8} {us:List Wu} {i:Nat} {f:List It} {qs:List (List UInt8 × It)} {c:Nat}
theorem BN{u:Wu}(h:us[i]?=some u):eK us i u.r=us:=by
 refine List.ext_getElem? λj=>?_
 unfold eK;rw[List.getElem?_modify]
 by_cases hij:i=j
 ·subst hij;rw[h];simp
 simp[hij]
theorem Em(h:gE fmt p us i f qs c)(h10:f.length<=10):eQ (jN fmt) (oQ fmt) (bn fmt) fmt (bc p us) ((2*i+1:Nat):Int) [] []=((fmt,bc p us),0):=by
 obtain⟨u,hu,hf,_⟩:=h.part;have hm:bL (fM fmt) qs 0 [] []=qs:=by simp[bL]
 have hs:eK us i (a6 qs)=us:=by rw[<-hf.flat];exact BN hu
 have hno:(b6 f).length<=200:=Nat.le_trans (List.length_filter_le _ _) (by omega)
 have hl:aA (cK f [] [])<=1024:=by
  have:=ED (f:=f) (rs:=[]) (ts:=[]) (m:=0) rfl (λt ht=>by cases ht)
  have:=hf.pos
  omega
 have hr:=(h.uE (rs:=[]) (ts:=[]) rfl trivial (λt ht=>by cases ht) hno hl (by
  rw[hm,hs];have:=h.size
  rw[List.length_append]at this
  omega)).1
 rw[hm,hs]at hr;exact hr
theorem NA(h:gE fmt p us i f qs c)(h10:f.length<=10)(o0:aY f<=115)(hz:(p++bX us).length<=25000){rs:List (Int × Int)}(ha:bV (aA f) 0 rs=true) :
  ∃GY OS,eQ (jN fmt) (oQ fmt) (bn fmt) fmt (bc p us) ((2*i+1:Nat):Int) rs (iN f rs)=((fmt,bc p GY),0)/\gE fmt p GY i f OS c:=by
 obtain⟨u,hu,hf,_⟩:=h.part;have hll:aA f<=125:=by have:=gv f;omega
 have hno:(b6 f).length<=200:=Nat.le_trans (List.length_filter_le _ _) (by omega);have jE:=Ls hf.hold.nm ha
 have ht:∀t∈iN f rs,Nm t/\t.length<=512/\aA t<=1024:=λt ht=>by
  obtain⟨r,_,rfl⟩:=List.mem_map.1 ht;have:=sP r.1.toNat r.2.toNat f
  exact⟨Nf hf.hold.nm _ _,by omega,by omega⟩
 obtain⟨_,_,_,_,hg⟩:=hf.uE h.kn ha (uJ f rs) ht hno (by rw[jE];omega);have hsz:=hg.size;rw[jE]at hsz;have hb:=tQ us i (a6 (bL (fM fmt) qs 0 rs (iN f rs)));rw[List.length_append]at hz;obtain⟨k1,k2⟩:=h.uE ha (uJ f rs) ht hno (by rw[jE];omega) (by omega);rw[jE]at k2;exact⟨_,_,k1,k2⟩
theorem zA{f:List It}(h10:f.length<=10)(hll:aA f<=125):∀ {rs:List (Int × Int)} {ts:List (List It)},lr f rs ts->∀t∈ts,Nm t/\t.length<=20/\aA t<=245
 | r :: rs,t :: ts,h,x,hx=>by
  rcases List.mem_cons.1 hx with rfl|hx
  ·have h1:=h.1.nm;have h2:=h.1.len;have h3:=h.1.pos;have h4:=sP r.1.toNat r.2.toNat f;exact⟨h1,by omega,by omega⟩
  exact zA h10 hll h.2 x hx
 | [],_ :: _,h,_,_=>h.elim
theorem Pg(h:gE fmt p us i f qs c)(h10:f.length<=10)(o0:aY f<=115)(hz:(p++bX us).length<=25000){rs:List (Int × Int)}{ts:List (List It)}(ha:bV (aA f) 0 rs=true)(hf:lr f rs ts)(h3:rs.length<=3) :
  eQ (jN fmt) (oQ fmt) (bn fmt) fmt (bc p us) ((2*i+1:Nat):Int) rs ts=((fmt,bc p (eK us i (a6 (bL (fM fmt) qs 0 rs ts)))),0)/\gE fmt p (eK us i (a6 (bL (fM fmt) qs 0 rs ts))) i (cK f rs ts) (bL (fM fmt) qs 0 rs ts) c:=by
 obtain⟨u,hu,hfu,_⟩:=h.part;have hll:aA f<=125:=by have:=gv f;omega
 have hno:(b6 f).length<=200:=Nat.le_trans (List.length_filter_le _ _) (by omega);have hb:=zA h10 hll hf
 have ht:∀t∈ts,Nm t/\t.length<=512/\aA t<=1024:=λt ht=>by
  obtain⟨k1,k2,k3⟩:=hb t ht;exact⟨k1,by omega,by omega⟩
 have hlt:=hf.fits.len;have hrl:=ED ha (m:=245) λt ht=>(hb t ht).2.2
 have Xp:aA (cK f rs ts)<=860:=by
  have:245*ts.length<=245*3:=Nat.mul_le_mul_left _ (by omega)
  omega
 obtain⟨_,_,_,_,hg⟩:=hfu.uE h.kn ha hf.fits ht hno (by omega);have hsz:=hg.size;have hbs:=tQ us i (a6 (bL (fM fmt) qs 0 rs ts));rw[List.length_append]at hz;exact h.uE ha hf.fits ht hno (by omega) (by omega)
end
end St
end Go.Proofs.YthoemdibbldndaaGreatDoor
namespace Go.Proofs.YthoemdibbldndaaGreatDoor
namespace St
theorem OX{n:Nat}:∀ {rs:List (Int × Int)} {a b:Int},bV n a rs=true->b<=a->bV n b rs=true
 | [],_,_,_,_=>rfl
 | r :: rs,a,b,h,hb=>by
  rw[bV]at h |-
  split at h
  ·cases h
  rw[if_neg (by omega)];exact h
theorem j6{n:Nat}:∀ {rs:List (Int × Int)} {a:Int} (j:Nat),bV n a rs=true->bV n a (rs.drop j)=true
 | [],_,_,_=>by simp[bV]
 | r :: rs,a,0,h=>h
 | r :: rs,a,j+1,h=>by
  rw[List.drop_succ_cons];rw[bV]at h
  split at h
  ·cases h
  rename_i hn
  exact OX (j6 j h) (by omega)
theorem p8{f:List It}:∀ {rs:List (Int × Int)} {ts:List (List It)} (j:Nat),lr f rs ts->lr f (rs.drop j) (ts.drop j)
 | [],[],_,_=>by simp[lr]
 | r :: rs,t :: ts,0,h=>h
 | r :: rs,t :: ts,j+1,h=>by
  rw[List.drop_succ_cons,List.drop_succ_cons];exact p8 j h.2
 | [],_ :: _,_,h=>h.elim
 | _ :: _,[],_,h=>h.elim
theorem K3{α:Type}(F:List It->List α)(l:List α):∀(rs:List (Int × Int)) (ts:List (List It)) (a q:Nat),bV l.length q rs=true->a<=q->q<=l.length->bL F l a rs ts=(l.take q).drop a++bL F l q rs ts
 | [],ts,a,q,_,h1,h2=>by
  simp only[bL]
  conv=>lhs;rw[<-List.take_append_drop q l]
  rw[List.drop_append_of_le_length (by rw[List.length_take];omega)]
 | r :: rs,[],a,q,_,h1,h2=>by
  simp only[bL]
  conv=>lhs;rw[<-List.take_append_drop q l]
  rw[List.drop_append_of_le_length (by rw[List.length_take];omega)]
 | r :: rs,t :: ts,a,q,h,h1,h2=>by
  rw[bV]at h
  split at h
  ·cases h
  rename_i hn
  rw[bL,bL,<-List.append_assoc ((l.take q).drop a)];congr 1
  have e:l.take r.1.toNat=l.take q++(l.take r.1.toNat).drop q:=by
   conv=>lhs;rw[<-List.take_append_drop q (l.take r.1.toNat)]
   rw[List.take_take,Nat.min_eq_left (by omega)]
  conv=>lhs;rw[e]
  rw[List.drop_append_of_le_length (by rw[List.length_take];omega)]
theorem zQ{α:Type}(F:List It->List α)(l:List α){r:Int × Int}{rs:List (Int × Int)}{t:List It}{ts:List (List It)}(h:bV l.length 0 (r :: rs)=true):bL F (bL F l 0 rs ts) 0 [r] [t]=bL F l 0 (r :: rs) (t :: ts)/\r.2.toNat<=(bL F l 0 rs ts).length/\(bL F l 0 rs ts).take r.2.toNat=l.take r.2.toNat:=by
 rw[bV]at h
 split at h
 ·cases h
 rename_i hn
 obtain⟨p,q⟩:=r;simp only at hn h;obtain⟨p,rfl⟩:∃p':Nat,p=p':=⟨p.toNat,by omega⟩;obtain⟨q,rfl⟩:∃q':Nat,q=q':=⟨q.toNat,by omega⟩;have hm:=K3 F l rs ts 0 q h (Nat.zero_le _) (by omega);rw[List.drop_zero]at hm;have hl:(l.take q).length=q:=by rw[List.length_take];omega
 have ht:(bL F l 0 rs ts).take q=l.take q:=by rw[hm,List.take_left' hl]
 refine⟨?_,?_,ht⟩
 ·have hd:(bL F l 0 rs ts).drop q=bL F l q rs ts:=by rw[hm,List.drop_left' hl]
  have hp:(bL F l 0 rs ts).take p=l.take p:=by
   rw[show p=min p q by omega,<-List.take_take,ht,List.take_take]
  simp only[bL,Int.toNat_natCast];rw[hp,hd]
 simp only[Int.toNat_natCast];rw[hm,List.length_append];omega
theorem Nu{f:List It}{r:Int × Int}{rs:List (Int × Int)}{t:List It}{ts:List (List It)}(h:bV (aA f) 0 (r :: rs)=true):cK (cK f rs ts) [r] [t]=cK f (r :: rs) (t :: ts):=by
 refine PA (kP _ _ _) (kP _ _ _) ?_;rw[ku,ku,ku];exact(zQ aE (aE f) (by rw[ep];exact h)).1
theorem yE(us:List Wu)(i:Nat)(s s':List UInt8):eK (eK us i s) i s'=eK us i s':=by
 refine List.ext_getElem? λj=>?_
 unfold eK;rw[List.getElem?_modify,List.getElem?_modify,List.getElem?_modify]
 by_cases hij:i=j
 ·simp only[hij,if_true];cases us[j]?<;>rfl
 simp only[hij,if_false];cases us[j]?<;>rfl
section
variable {fmt:Int} {p:List UInt8} {us:List Wu} {i:Nat} {f:List It} {qs:List (List UInt8 × It)} {c:Nat}
def lH(fmt:Int)(us:List Wu)(i:Nat)(qs:List (List UInt8 × It))(rs:List (Int × Int))(ts:List (List It))(j:Nat):List Wu:=eK us i (a6 (bL (fM fmt) qs 0 (rs.drop j) (ts.drop j)))
theorem zT(h:gE fmt p us i f qs c)(h10:f.length<=10)(o0:aY f<=115)(hz:(p++bX us).length<=25000){rs:List (Int × Int)}{ts:List (List It)}(ha:bV (aA f) 0 rs=true)(hf:lr f rs ts)(h3:rs.length<=3)(j:Nat) :
  eQ (jN fmt) (oQ fmt) (bn fmt) fmt (bc p us) ((2*i+1:Nat):Int) (rs.drop j) (ts.drop j)=((fmt,bc p (lH fmt us i qs rs ts j)),0)/\gE fmt p (lH fmt us i qs rs ts j) i (cK f (rs.drop j) (ts.drop j)) (bL (fM fmt) qs 0 (rs.drop j) (ts.drop j)) c:=
 Pg h h10 o0 hz (j6 j ha) (p8 j hf) (by rw[List.length_drop];omega)
theorem Nh(h:gE fmt p us i f qs c)(h10:f.length<=10)(o0:aY f<=115)(hz:(p++bX us).length<=25000){rs:List (Int × Int)}{ts:List (List It)}(ha:bV (aA f) 0 rs=true)(hf:lr f rs ts)(h3:rs.length<=3){j:Nat}{r:Int × Int}{t:List It}(hr:rs[j]?=some r)(ht:ts[j]?=some t) :
  eQ (jN fmt) (oQ fmt) (bn fmt) fmt (bc p (lH fmt us i qs rs ts (j+1))) ((2*i+1:Nat):Int) [r] [t]=((fmt,bc p (lH fmt us i qs rs ts j)),0):=by
 have hd:=(zT h h10 o0 hz ha hf h3 (j+1)).2;have hd0:=(zT h h10 o0 hz ha hf h3 j).2;have hll:aA f<=125:=by have:=gv f;omega
 have hdr:rs.drop j=r :: rs.drop (j+1):=List.drop_eq_getElem?_toList_append.trans (by rw[hr];rfl);have n9:ts.drop j=t :: ts.drop (j+1):=List.drop_eq_getElem?_toList_append.trans (by rw[ht];rfl);have Dt:=j6 j ha;have DB:=p8 j hf;rw[hdr]at Dt DB hd0;rw[n9]at DB hd0;obtain⟨u,hu,hfu,_⟩:=h.part;have hb:=zA h10 hll DB;have OI:=zQ (fM fmt) qs (r:=r) (rs:=rs.drop (j+1)) (t:=t) (ts:=ts.drop (j+1)) (by rw[hfu.QO];exact Dt);have hmp:=zQ aE (aE f) (r:=r) (rs:=rs.drop (j+1)) (t:=t) (ts:=ts.drop (j+1)) (by rw[ep];exact Dt);rw[<-ku]at hmp;have WC:=Nu (t:=t) (ts:=ts.drop (j+1)) Dt
 have ha1:bV (aA (cK f (rs.drop (j+1)) (ts.drop (j+1)))) 0 [r]=true:=by
  rw[bV]at Dt
  split at Dt
  ·cases Dt
  rename_i hn
  have:=hmp.2.1
  rw[ep]at this;rw[bV,if_neg (by omega)];rfl
 have hfit:Fits (cK f (rs.drop (j+1)) (ts.drop (j+1))) [r] [t]:=by
  refine⟨?_,trivial⟩;rw[DB.1.fit,<-dX,iu,<-dX (aR _ _ 0 (cK _ _ _)),iu,Nat.sub_zero,Nat.sub_zero,hmp.2.2]
 have hno:(b6 (cK f (rs.drop (j+1)) (ts.drop (j+1)))).length<=200:=by
  rw[uF (p8 (j+1) hf).fits (j6 (j+1) ha)];exact Nat.le_trans (List.length_filter_le _ _) (by omega)
 have hs0:=hd0.size;have gU:=hd0.unit;obtain⟨_,_,hu0⟩:=gU
 have hres:=hd.uE ha1 hfit (λx hx=>by
  simp at hx;subst hx;obtain⟨k1,k2,k3⟩:=hb x (by simp);exact⟨k1,by omega,by omega⟩) hno (by rw[WC];exact hu0.pos) (by
  unfold lH at hs0 |-
  rw[OI.1,yE,<-hdr,<-n9,Nat.add_comm,<-List.length_append];exact hs0)
 have e:eK (lH fmt us i qs rs ts (j+1)) i (a6 (bL (fM fmt) (bL (fM fmt) qs 0 (rs.drop (j+1)) (ts.drop (j+1))) 0 [r] [t]))=lH fmt us i qs rs ts j:=by
  unfold lH;rw[OI.1,yE,<-hdr,<-n9]
 rw[e]at hres;exact hres.1
end
end St
