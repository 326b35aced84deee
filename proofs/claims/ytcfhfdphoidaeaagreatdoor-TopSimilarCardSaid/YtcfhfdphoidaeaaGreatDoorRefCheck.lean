/- The contracts of the reference's IsContent, Check and Validate: what they give is. -/
import Derived.Test.YtcfhfdphoidaeaaGreatDoorGB
set_option linter.unusedVariables false
set_option linter.unusedSimpArgs false
namespace Go.Proofs.YtcfhfdphoidaeaaGreatDoor
open Go.RowKit
theorem rname_u(t:List UInt8)(w:World)(hs:t.length<=4611686018427387904):Calls Tryz.prog 21 #[.string ⟨t.toArray⟩] w fun e w'=>e=.returned (.string ⟨(St.nameOf t).toArray⟩)/\Und w w':=by
 refine(rname_any ⟨t.toArray⟩ w (by show t.toArray.size<=_;simpa using hs)).mono ?_;rintro e w' ⟨u,rfl,hu,rfl⟩;refine⟨?_,Und.refl _⟩;rw[<- ba_eta u,hu]
def CoRel(s:ByteArray)(i:Value):Prop:=∃ k:Nat,i=.int .i64 k/\k<=s.size/\s.data.toList.all St.contentC=(s.data.toList.drop k).all St.contentC
theorem content_no{s:List UInt8}(h:s.all St.contentC=false):St.isContentL s=false:=by unfold St.isContentL;simp[h]
def CkRel(W:World)(f:List St.It)(x:St.It)(n:Nat)(s80:Value)(wr:World):Prop:=∃ j:Nat,j<=n/\s80=.int .i64 j/\(∀ y ∈ f.take j,St.clash x y=false)/\Und W wr
theorem CkRel.und{W:World}{f:List St.It}{x:St.It}{n:Nat}{s80:Value}{wr w':World}(h:CkRel W f x n s80 wr)(u:Und wr w'):CkRel W f x n s80 w':=by
 obtain⟨j,h1,h2,h3,h4⟩:=h;exact⟨j,h1,h2,h3,h4.trans u⟩
theorem ck_step{f:List St.It}{x:St.It}{j:Nat}(h:∀ y ∈ f.take j,St.clash x y=false)(hj:j<f.length)(hc:St.clash x f[j]=false):∀ y ∈ f.take (j+1),St.clash x y=false:=by
 intro y hy;rw[List.take_add_one,List.getElem?_eq_getElem hj] at hy;rcases List.mem_append.1 hy with hy|hy
 ·exact h y hy
 ·simp at hy;subst hy;exact hc
theorem ck_found{f:List St.It}{x:St.It}{j:Nat}(hj:j<f.length)(hc:St.clash x f[j]=true):f.any (St.clash x)=true:=List.any_eq_true.2 ⟨f[j],List.getElem_mem hj,hc⟩
theorem ck_end{f:List St.It}{x:St.It}{n:Nat}(h:∀ y ∈ f.take n,St.clash x y=false)(hn:f.length=n):f.any (St.clash x)=false:=by
 rw[List.take_of_length_le (by omega)] at h;refine Bool.eq_false_iff.2 fun e=>?_
 obtain⟨y,hy,hc⟩:=List.any_eq_true.1 e;rw[h y hy] at hc;cases hc
theorem tot_at(f:List St.It)(j:Nat)(h:j<f.length):f[j].2.1.length<=tot f:=by
 have:=tot_le f (j+1)
 rw[tot_take f j h] at this;omega
theorem valid_from(b r:List St.It)(x:St.It)(h:St.checkL b x=0):St.validFrom b (x :: r)=St.validFrom (b++[x]) r:=by rw[St.validFrom,if_neg (by simp[h])]
theorem valid_stop(b r:List St.It)(x:St.It)(h:St.checkL b x ≠ 0):St.validFrom b (x :: r)=St.checkL b x:=by rw[St.validFrom,if_pos h]
def VaRel(w:World)(f:List St.It)(n:Nat)(s15:Value)(wr:World):Prop:=∃ j:Nat,j<=n/\s15=.int .i64 j/\St.validFrom [] f=St.validFrom (f.take j) (f.drop j)/\Und w wr
theorem items_take{w:World}{A:Option Addr}{f:List St.It}(h:ItemsAt w A f)(j:Nat):ItemsAt w A (f.take j):=by
 intro h0;have h1:f.length > 0:=by simp at h0;omega
 obtain⟨b,off,rfl,hb,hc⟩:=h h1;refine⟨b,off,rfl,hb,fun m hm=>?_⟩;have hm2:m<f.length:=by simp at hm;omega
 have:=hc m hm2
 simpa using this
end Go.Proofs.YtcfhfdphoidaeaaGreatDoor
