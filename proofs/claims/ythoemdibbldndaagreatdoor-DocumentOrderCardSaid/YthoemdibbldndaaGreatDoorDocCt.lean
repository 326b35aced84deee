/- The law DocumentContents: walk. Conditions: the library's tables lie at their places; the. -/
import Derived.Test.YthoemdibbldndaaGreatDoorDcF
import Derived.Test.YthoemdibbldndaaGreatDoorGJ
import Derived.Test.YthoemdibbldndaaGreatDoorGK
import Derived.Deep.CutRange
set_option linter.all false
set_option maxHeartbeats 0
set_option maxRecDepth 20000
namespace Go.Proofs.YthoemdibbldndaaGreatDoor
open Go.RowKit
def Cr(ps:List St.Pt)(k:Int):Nat:=if(jH ps).length=0 then 0 else((jH ps)[(k % ((jH ps).length:Int)).toNat]?).getD 0
theorem yM(fmt:Int)(A:Option Addr)(n c:Nat)(ps:List St.Pt)(k:Int)(w:World)(hn:ps.length=n)(h:a8 w A ps)(hl:n<=4000000000000) :
  Calls Tryz.prog 25 #[.agg #[.int .i64 fmt,.slice A n c],.int .i64 k] w λe w'=>e=.returned (.int .i64 (Cr ps k:Nat))/\ac w w':=by
 have mM:(jH ps).length<=n:=by rw[<-hn];exact B0 ps ps.length
 have Gi:=aa (λW (hW:ac w W)=>I5 fmt A n c ps W hn (h.ai hW) hl);obtain⟨us,jl⟩:∃us,us=jH ps:=⟨_,rfl⟩;have KN:Cr ps k=if us.length=0 then 0 else(us[(k % (us.length:Int)).toNat]?).getD 0:=by rw[jl];rfl
 unfold Hh at Gi;rw[<-jl]at mM Gi;clear h hn jl;obtain⟨m,hm⟩:∃m,m=us.length:=⟨_,rfl⟩;have HM:=aa hm;rw[<-hm]at mM Gi KN;rw[KN]
 by_cases h0:m=0
 ·subst h0;rw[if_pos rfl];clear KN hm;go_enter Tryz.func25,Tryz.ntmps25;go_wp2_with fail;refine(Gi.out _ uZ).mono ?_;rintro e w2 ⟨A2,c2,rfl,hN,h1,h2,hu⟩;have HU:=aa (ac.trans (uZ:ac w (w.alloc (.cells #[.int .i64 fmt,.slice A n c] 25))) hu);clear hu hN;go_wp2;go_ret;exact⟨rfl,HU.out⟩
 rw[if_neg h0];have a1:=Int.emod_nonneg k (show(m:Int)≠0 by omega);have b1:=Int.emod_lt_of_pos k (show(0:Int)<(m:Int)by omega);have hpl:=aa (λW=>ux k (m:Int) W (by omega) (by omega));generalize k % (m:Int)=p at a1 b1 hpl KN |-;obtain⟨j,rfl⟩:∃j:Nat,p=j:=⟨p.toNat,by omega⟩;have hj:j<us.length:=by rw[<-HM.out];omega
 rw[Int.toNat_natCast,List.getElem?_eq_getElem hj,Option.getD_some];have z0:(m==0)=false:=by simp;omega
 have GZ:((m:Int)==0)=false:=by simp;omega
 have y1:(j:Int)<(m:Int):=by omega
 have y0:(0:Int)<=(j:Int):=by omega
 clear KN hm;go_enter Tryz.func25,Tryz.ntmps25;go_wp2_with fail;refine(Gi.out _ uZ).mono ?_;rintro e w2 ⟨A2,c2,rfl,hN,h1,h2,hu⟩;have HU:=aa (ac.trans (uZ:ac w (w.alloc (.cells #[.int .i64 fmt,.slice A n c] 25))) hu);obtain⟨b,off,rfl,hb,hc⟩:=hN (by omega);have c0:=hc j hj;haveI:af b w2:=af.of hb;obtain⟨v,hv⟩:∃v,v=us[j]:=⟨_,rfl⟩;rw[<-hv]at c0;have HJ:=aa hv;clear hv;clear hu hN hc Gi;go_wp2_with fail;refine(hpl.out _).mono ?_;rintro e w3 ⟨rfl,rfl⟩;go_wp2;go_ret;exact⟨ba (congrArg (λz:Nat=>(z:Int)) HJ.out),HU.out⟩
