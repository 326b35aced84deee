/- The law DocumentContents: walk. Conditions: the library's tables lie at their places; the. -/
import Derived.Test.YthoemdibbldndaaGreatDoorDcF
import Derived.Test.YthoemdibbldndaaGreatDoorGJ
import Derived.Test.YthoemdibbldndaaGreatDoorGK
import Derived.Deep.CutRange
set_option linter.all false
set_option maxHeartbeats 0
set_option maxRecDepth 20000
namespace Go.Proofs.YthoemdibbldndaaGreatDoor
open Go.RowKit
def IH(ps:List St.Pt)(k:Int):Nat:=if(jC ps).length=0 then 0 else((jC ps)[(k % ((jC ps).length:Int)).toNat]?).getD 0
theorem IG(fmt:Int)(A:Option Addr)(n c:Nat)(ps:List St.Pt)(k:Int)(w:World)(hn:ps.length=n)(h:bk w A ps)(hl:n<=4000000000000) :
  Calls Tryz.prog 25 #[.agg #[.int .i64 fmt,.slice A n c],.int .i64 k] w λe w'=>e=.returned (.int .i64 (IH ps k:Nat))/\ac w w':=by
 have mN:(jC ps).length<=n:=by rw[<-hn];exact Bn ps ps.length
 have Fy:=aa (λW (hW:ac w W)=>Ik fmt A n c ps W hn (h.ai hW) hl);obtain⟨us,kg⟩:∃us,us=jC ps:=⟨_,rfl⟩;have J3:IH ps k=if us.length=0 then 0 else(us[(k % (us.length:Int)).toNat]?).getD 0:=by rw[kg];rfl
 unfold Gt at Fy;rw[<-kg]at mN Fy;clear h hn kg;obtain⟨m,hm⟩:∃m,m=us.length:=⟨_,rfl⟩;have HM:=aa hm;rw[<-hm]at mN Fy J3;rw[J3]
 by_cases h0:m=0
 ·subst h0;rw[if_pos rfl];clear J3 hm;go_enter Tryz.func25,Tryz.ntmps25;go_wp2_with fail;refine(Fy.out _ uZ).mono ?_;rintro e w2 ⟨A2,c2,rfl,hN,h1,h2,hu⟩;have HU:=aa (ac.trans (uZ:ac w (w.alloc (.cells #[.int .i64 fmt,.slice A n c] 25))) hu);clear hu hN;go_wp2;go_ret;exact⟨rfl,HU.out⟩
 rw[if_neg h0];have a1:=Int.emod_nonneg k (show(m:Int)≠0 by omega);have b1:=Int.emod_lt_of_pos k (show(0:Int)<(m:Int)by omega);have hpl:=aa (λW=>tT k (m:Int) W (by omega) (by omega));generalize k % (m:Int)=p at a1 b1 hpl J3 |-;obtain⟨j,rfl⟩:∃j:Nat,p=j:=⟨p.toNat,by omega⟩;have hj:j<us.length:=by rw[<-HM.out];omega
 rw[Int.toNat_natCast,List.getElem?_eq_getElem hj,Option.getD_some];have z0:(m==0)=false:=by simp;omega
 have Gb:((m:Int)==0)=false:=by simp;omega
 have y1:(j:Int)<(m:Int):=by omega
 have y0:(0:Int)<=(j:Int):=by omega
 clear J3 hm;go_enter Tryz.func25,Tryz.ntmps25;go_wp2_with fail;refine(Fy.out _ uZ).mono ?_;rintro e w2 ⟨A2,c2,rfl,hN,h1,h2,hu⟩;have HU:=aa (ac.trans (uZ:ac w (w.alloc (.cells #[.int .i64 fmt,.slice A n c] 25))) hu);obtain⟨b,off,rfl,hb,hc⟩:=hN (by omega);have c0:=hc j hj;haveI:af b w2:=af.of hb;obtain⟨v,hv⟩:∃v,v=us[j]:=⟨_,rfl⟩;rw[<-hv]at c0;have HJ:=aa hv;clear hv;clear hu hN hc Fy;go_wp2_with fail;refine(hpl.out _).mono ?_;rintro e w3 ⟨rfl,rfl⟩;go_wp2;go_ret;exact⟨ba (congrArg (λz:Nat=>(z:Int)) HJ.out),HU.out⟩
