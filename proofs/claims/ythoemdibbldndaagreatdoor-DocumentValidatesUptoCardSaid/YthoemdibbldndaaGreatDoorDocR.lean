/- The reference's Parse, Bytes, Same and Validate of documents, over its splitting. -/
import Derived.Test.YthoemdibbldndaaGreatDoorDcB
set_option linter.unusedVariables false
set_option linter.unusedSimpArgs false
set_option maxHeartbeats 12800000
set_option maxRecDepth 20000
namespace Go.Proofs.YthoemdibbldndaaGreatDoor
open Go.RowKit
variable {fmt:Int} {S:List UInt8->List St.Pt × Nat × Int}
structure RsAt (fmt:Int) (S:List UInt8->List St.Pt × Nat × Int):Prop where
 kn:fmt=1∨fmt=2∨fmt=3
 spl:∀ (d:ByteArray) (w:World),d.size<=1000000000->Calls Tryz.prog 60 #[.int .i64 fmt,.string d] w fun e w'=>∃ A c,e=.returned (.tuple #[.slice A (S d.data.toList).1.length c,.int .i64 ((S d.data.toList).2.1:Int),.int .i64 (S d.data.toList).2.2])/\PartsAt w' A (S d.data.toList).1/\(S d.data.toList).1.length<=c/\c<=9223372036854775807/\Und w w'
theorem rformat_any(fmt:Int)(w:World)(h:fmt=1∨fmt=2∨fmt=3):Calls Tryz.prog 59 #[.int .i64 fmt] w fun e w'=>e=.returned (.bool true)/\w=w':=by
 rcases h with rfl|rfl|rfl
 all_goals
  go_enter Tryz.func59,Tryz.ntmps59;go_wp2;go_ret;exact⟨rfl,rfl⟩
theorem rformat_bad(fmt:Int)(w:World)(h:¬ (fmt=1∨fmt=2∨fmt=3)):Calls Tryz.prog 59 #[.int .i64 fmt] w fun e w'=>e=.returned (.bool false)/\w=w':=by
 have z1:(fmt==1)=false:=by simp;omega
 have z2:(fmt==2)=false:=by simp;omega
 have z3:(fmt==3)=false:=by simp;omega
 go_enter Tryz.func59,Tryz.ntmps59;go_wp2;go_ret;exact⟨rfl,rfl⟩
theorem dknown_bad(fmt:Int)(w:World)(h:¬ (fmt=1∨fmt=2∨fmt=3)):Calls Tryz.prog 45 #[.int .i64 fmt] w fun e w'=>e=.returned (.bool false)/\w=w':=by
 have z1:(fmt==1)=false:=by simp;omega
 have z2:(fmt==2)=false:=by simp;omega
 have z3:(fmt==3)=false:=by simp;omega
 go_enter Tryz.func45,Tryz.ntmps45;go_wp2;go_ret;exact⟨rfl,rfl⟩
theorem rparse_sp(d:ByteArray)(w:World)(hF:RsAt fmt S)(hd:d.size<=1000000000):Calls Tryz.prog 21 #[.int .i64 fmt,.string d] w (ParseEnd fmt (S d.data.toList) w):=by
 have HK:=hid (fun W=>rformat_any fmt W hF.kn);have HS:=hid (fun W=>hF.spl d W hd);generalize S d.data.toList=R at HS ⊢;obtain⟨ps,pl,er⟩:=R;clear hF;go_enter Tryz.func21,Tryz.ntmps21;go_wp2_with fail;refine(HK.out _).mono ?_;rintro e w2 ⟨rfl,rfl⟩;go_wp2_with fail;refine(HS.out _).mono ?_;rintro e w3 ⟨A,c,rfl,hP,h1,h2,hu⟩;have hu':Und w w3:=Und.trans ((by apply_rules[uUe,uUa,uUb,uUc,uUd])) hu;have hb3:=(hu.below.block w.heap.size (by simp)).trans (heap_alloc_new w (.cells #[.int .i64 0,.slice none 0 0] 25));have d0:w3.cell? ⟨w.heap.size,0,none⟩=some (.int .i64 0):=zcH hb3 0;have d1:w3.cell? ⟨w.heap.size,1,none⟩=some (.slice none 0 0):=zcH hb3 1;have f0:w3.frozen? ⟨w.heap.size,0,none⟩=false:=zfH hb3 0;have f1:w3.frozen? ⟨w.heap.size,1,none⟩=false:=zfH hb3 1;haveI:LtW w.heap.size w3:=LtW.of (lt_of_heap hb3);have hset:∀ u v,Und w ((w3.setCell ⟨w.heap.size,0,none⟩ u).setCell ⟨w.heap.size,1,none⟩ v):=fun u v=>Und.mk ((hu'.below.setCell (p:=⟨w.heap.size,0,none⟩) (Nat.le_refl _) u).setCell (p:=⟨w.heap.size,1,none⟩) (Nat.le_refl _) v)
 have HSET:=hid hset;have HPS:=hid (fun u v=>parts_set hP hb3 u v);simp only at h1 ⊢;clear hu hu' hb3 hset hP
 by_cases he:er=0
 ·subst he
  go_wp2;refine bodyPost_ret (v:=.tuple #[.agg #[.int .i64 fmt,.slice A ps.length c],.int .i64 0,.int .i64 0]) ?_ rfl ?_
  ·simp[results,Tryz.results21,go_sem,d0,d1]
  ·exact⟨HSET.out _ _,.inl ⟨rfl,A,c,rfl,HPS.out _ _,h1,h2⟩⟩
 ·have z1:(er==0)=false:=by simpa using he
  have z2:(er != 0)=true:=by simpa using he
  have HE:=hid he;clear he;go_wp2;refine bodyPost_ret (v:=.tuple #[.agg #[.int .i64 0,.slice none 0 0],.int .i64 pl,.int .i64 er]) ?_ rfl ?_
  ·simp[results,Tryz.results21,go_sem,d0,d1]
  ·exact⟨HSET.out _ _,.inr ⟨HE.out,rfl⟩⟩
def RbyRel(w:World)(B:Nat)(ps:List St.Pt)(n:Nat)(s3 s8:Value)(wr:World):Prop:=
 ∃ (k:Nat) (b:ByteArray),k<=n/\s8=.int .i64 k/\s3=.string b/\b.data.toList=St.rawP (ps.take k)/\Und w wr
theorem rbytes_any(fmt:Int)(A:Option Addr)(n c:Nat)(ps:List St.Pt)(w:World)(hn:ps.length=n)(h:PartsAt w A ps)(hl:n<=9223372036854775807)(hr:(St.rawP ps).length<=1000000000) :
  Calls Tryz.prog 19 #[.agg #[.int .i64 fmt,.slice A n c]] w fun e w'=>e=.returned (.string ⟨(St.rawP ps).toArray⟩)/\Und w w':=by
 have H:=hid h;have HN:=hid hn;have HR:=hid hr;clear h hn hr;go_enter Tryz.func19,Tryz.ntmps19;go_wp2_with fail;go_loopw [3,4,8] (fun s3 _ s8 wr=>RbyRel w 0 ps n s3 s8 wr/\wr=w.alloc (.cells #[.int .i64 fmt,.slice A n c] 25)) (fun _ _ s8 _=>n+1-(intOf s8).toNat)
 case atStart=>exact⟨⟨0,⟨#[]⟩,by omega,rfl,rfl,by simp[St.rawP],(by apply_rules[uUe,uUa,uUb,uUc,uUd])⟩,rfl⟩
 case round=>
  obtain⟨⟨k,b,hk,rfl,rfl,hb,hu⟩,rfl⟩:=hrel;have hN:=HN.out;have hR:=HR.out;have HB:=hid hb
  by_cases hlt:k<n
  ·have hlt2:k<ps.length:=by omega
   obtain⟨bb,off,rfl,hbb,hc⟩:=H.out (by omega);obtain⟨c0,c1,c2⟩:=hc k hlt2;have hrt:=raw_take ps k hlt2;have h1:=raw_take_le ps (k+1);have hbs:b.size=(St.rawP (ps.take k)).length:=by rw[<- St.len_list,hb]
   generalize ps[k]=x at c0 c1 c2 hrt;obtain⟨xu,xk,xr⟩:=x;simp only at c0 c1 c2 hrt;rw[hrt,List.length_append] at h1;have hxs:(⟨xr.toArray⟩:ByteArray).size=xr.length:=by show xr.toArray.size=_;simp
   have y1:¬ 9223372036854775807<b.size+(⟨xr.toArray⟩:ByteArray).size:=by rw[hxs];omega
   haveI:LtW bb w:=LtW.of hbb;have HE:=hid (show RbyRel w 0 ps n (.string (b++⟨xr.toArray⟩)) (.int .i64 ((k:Int)+1)) (w.alloc (.cells #[.int .i64 fmt,.slice (some ⟨bb,off,none⟩) n c] 25)) from⟨k+1,_,by omega,congrArg (Value.int .i64) (by omega),rfl,by rw[hrt,<- hb];simp,(by apply_rules[uUe,uUa,uUb,uUc,uUd])⟩);clear hc hlt2 hrt hb hu h1 hbs hxs;go_wp2;exact⟨⟨HE.out,by first|trivial|rfl⟩,by simp[intOf];omega⟩
  ·obtain rfl:k=n:=by omega
   have hft:ps.take k=ps:=List.take_of_length_le (by omega);rw[hft] at HB;have hbe:b=⟨(St.rawP ps).toArray⟩:=by rw[<- HB.out,ba_eta]
   clear hlt hft hb;go_wp2;go_ret;exact⟨by rw[<- hbe];rfl,hu⟩
theorem rdsame_any(fa fb:Int)(A B:Option Addr)(n m c d:Nat)(f g:List St.Pt)(w:World)(hn:f.length=n)(hm:g.length=m)(hc:n<=c)(hd:m<=d)(hc63:c<=9223372036854775807)(hd63:d<=9223372036854775807)(hA:PartsAt w A f)(hB:PartsAt w B g) :
  Calls Tryz.prog 22 #[.agg #[.int .i64 fa,.slice A n c],.agg #[.int .i64 fb,.slice B m d]] w fun e w'=>e=.returned (.bool (decide (fa=fb/\f=g)))/\Und w w':=by
 have hcall:=hid (fun W (hW:Und w W)=>sameParts_any A B n m c d f g W hn hm hc hd hc63 hd63 (hA.und hW) (hB.und hW));clear hA hB hn hm hc hd hc63 hd63
 by_cases he:fa=fb
 ·subst he
  have z:(fa==fa)=true:=beq_self_eq_true _;go_enter Tryz.func22,Tryz.ntmps22;go_wp2_with fail;refine(hcall.out _ (by apply_rules[uUe,uUa,uUb,uUc,uUd])).mono ?_;rintro e w2 ⟨rfl,X,rfl⟩;obtain⟨b,hb⟩:∃ b,b=decide (f=g):=⟨_,rfl⟩;have hb2:decide (fa=fa/\f=g)=b:=by rw[hb];simp
  have HB:=hid hb2;rw[<- hb];clear hb hb2;go_wp2;go_ret;rw[HB.out];exact⟨rfl,(by apply_rules[uUe,uUa,uUb,uUc,uUd])⟩
 ·have z:(fa==fb)=false:=by simpa using he
  have hb2:decide (fa=fb/\f=g)=false:=by simp[he]
  have HB:=hid hb2;clear he hb2;go_enter Tryz.func22,Tryz.ntmps22;go_wp2;go_ret;rw[HB.out];exact⟨rfl,(by apply_rules[uUe,uUa,uUb,uUc,uUd])⟩
end Go.Proofs.YthoemdibbldndaaGreatDoor
