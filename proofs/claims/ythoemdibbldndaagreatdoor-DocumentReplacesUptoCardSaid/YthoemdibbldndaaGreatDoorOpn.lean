/- The plain wrap for a row that lists variables, with the world's shape for the contract. -/
import Derived.Handed
import Derived.HandedShaped
import Derived.Shelf.Vars
import Derived.KernelRfl
import Derived.Deep.Slices
import Derived.ProofKit
import Derived.Test.YthoemdibbldndaaGreatDoorDcE
import Derived.SizedLaws
set_option linter.all false
set_option maxHeartbeats 0
set_option maxRecDepth 20000
namespace Go.Proofs.YthoemdibbldndaaGreatDoor
open Go
theorem Cp{W:World}(h:W.ShapedOpen Tryz.prog):∃m,W.cell? ⟨0,0,none⟩=some (.int .i64 m):=
 cell_of_shapedOpen_int (g:=0) (t:=3) (zero:=#[.int .i64 0]) h (of_decide_eq_true (by kernel_rfl)) (by kernel_rfl) (by kernel_rfl) (by kernel_rfl) (by kernel_rfl) Tryz.underlying3
end Go.Proofs.YthoemdibbldndaaGreatDoor
namespace Go.Proofs.YthoemdibbldndaaGreatDoor
open Go.RowKit Go.Deep Go.ChangeShapes Go.WideShapes
theorem Lm{a:Addr}(h:a.spot=none)(k:Nat):a.add k=⟨a.block,a.off+k,none⟩:=by
 obtain⟨b,off,s⟩:=a;simp at h;subst h;unfold Addr.add
 split
 ·rename_i h;subst h;rfl
 rfl
theorem yB{H:Type}{enc:TypeId × Value->H}{w:World}{base fuel:Nat}{spare:Nat->Bool}{held:Bool}{cs:List Value}{x:DataW H × List MemPlace}
  (h:DataW.trod enc Tryz.prog w base spare held fuel 42 cs=some x):∃D zs c,cs=[.slice D zs.length c]/\fh w D zs/\zs.length<=maxLen:=by
 rcases open_ints Tryz.underlying42 Tryz.underlying3 (by kernel_rfl) h with⟨rfl,_⟩|⟨a,l,c,zs,rfl,_,hl,hm,hz,_,hcell,_⟩
 ·exact⟨none,[],0,rfl,λh=>absurd h (by simp),by simp⟩
 have yg:l<=zs.length:=by rw[hz];split<;>omega
 refine⟨some a,zs.take l,c,by simp[Nat.min_eq_left yg],λh0=>?_,by simp[Nat.min_eq_left yg];omega⟩;have hl0:0<l:=by simp at h0;omega
 have c0:=hcell 0 (by omega)
 have hsp:a.spot=none:=by
  have:=World.cell?_spot c0
  simpa[Addr.add]using this
 have hb:=cd _ _ c0;refine⟨a.block,a.off,by obtain⟨b,o,s⟩:=a;simp at hsp;subst hsp;rfl,by simpa[Addr.add]using hb,λi hi=>?_⟩;have hi':i<l:=by simp at hi;omega
 have:=hcell i (by omega)
 rw[Lm hsp]at this;rw[this];simp[List.getD_eq_getElem?_getD,hi']
end Go.Proofs.YthoemdibbldndaaGreatDoor
namespace Go.Proofs.YthoemdibbldndaaGreatDoor
open Go Go.RowKit Go.Deep Go.ChangeShapes Go.WideShapes
section
theorem zX{a:Addr}(h:a.spot=none)(k:Nat):a.add k=⟨a.block,a.off+k,none⟩:=by
 obtain⟨b,off,s⟩:=a;simp at h;subst h;unfold Addr.add
 split
 ·rename_i h;subst h;rfl
 rfl
end
section
theorem Ad{H:Type}(D:Nat->DataW H)(f:Nat->St.It):∀len:Nat,(∀i,i<len->(f i).2.1.length<=Rows.uptoBulk (D i))->aP ((List.range len).map f)<=Rows.uptoBulkAll ((List.range len).map D)
 | 0,_=>by simp[aP]
 | len+1,h=>by
  have ih:=Ad D f len (λi hi=>h i (by omega));have h1:=h len (by omega)
  have app:∀l r:List (DataW H),Rows.uptoBulkAll (l++r)=Rows.uptoBulkAll l+Rows.uptoBulkAll r:=λl r=>by
   induction l with
   | nil=>simp[Rows.uptoBulkAll]
   | cons x l ih=>simp only[List.cons_append,Rows.uptoBulkAll,ih];omega
  rw[List.range_succ,List.map_append,List.map_append,app];have e:aP ((List.range len).map f++[len].map f)=aP ((List.range len).map f)+(f len).2.1.length:=ci _ _;rw[e];simp only[List.map_cons,List.map_nil,Rows.uptoBulkAll];omega
theorem Cs{H:Type}{enc:TypeId × Value->H}{w:World}{base fuel:Nat}{held:Bool}{cs:List Value}{x:DataW H × List MemPlace}
  (h:DataW.trod enc Tryz.prog w base (λ_=>true) held fuel 37 cs=some x) :
  ∃(A:Option Addr) (len cap:Nat) (f:List St.It),cs=[.slice A len cap]/\f.length=len/\aE w A f/\len<=cap/\cap<=maxLen/\(A=none->cap=0)/\aP f<=Rows.uptoBulk x.1:=by
 have hc3:Tryz.prog.cellsOf 36=3:=by kernel_rfl
 rcases open_slice Tryz.underlying37 h with⟨hcs,_⟩|⟨a,l,c,m,n,D,Pl,hcs,_,hl,hm,hmm,hx,hi⟩
 ·exact⟨none,0,0,[],hcs,rfl,λh=>absurd h (by simp),by omega,by unfold maxLen;omega,λ_=>rfl,by simp[aP]⟩
 obtain⟨len,hlen'⟩:∃len,len=l:=⟨_,rfl⟩;subst hlen';rw[hc3]at hi;simp only[if_true]at hmm;subst hmm
 have each:∀i,i<len->∃y:St.It,w.cell? (a.add (i*3))=some (.int .i64 y.1)/\w.cell? (a.add (i*3+1))=some (.string ⟨y.2.1.toArray⟩)/\w.cell? (a.add (i*3+2))=some (.int .i64 y.2.2)/\y.2.1.length<=Rows.uptoBulk (D i):=by
  intro i hil;obtain⟨cs,hcs,ht⟩:=hi i (by omega);obtain⟨_,hlen,hat⟩:=World.cells?_some hcs;obtain⟨xs,n',_,GV,_,hxs,hf⟩:=DataW.trod_struct Tryz.underlying36 ht
  match cs,hlen with
  | [c0,c1,c2],_=>
   have f0:=hf 0 _ rfl;have f1:=hf 1 _ rfl;have f2:=hf 2 _ rfl;have k1:Tryz.prog.cellsOf 3=1:=by kernel_rfl
   have k2:Tryz.prog.cellsOf 9=1:=by kernel_rfl
   match xs,hxs with
   | [y0,y1,y2],_=>
    obtain⟨r,e0,x0,_⟩:=DataW.trod_int Tryz.underlying3 (show DataW.trod enc Tryz.prog w base (λ_=>true) held n' 3 _=some y0 from f0);obtain⟨s,e1,x1,hs⟩:=DataW.trod_string Tryz.underlying9 (show DataW.trod enc Tryz.prog w base (λ_=>true) held n' 9 _=some y1 from f1);obtain⟨q,e2,x2,_⟩:=DataW.trod_int Tryz.underlying3 (show DataW.trod enc Tryz.prog w base (λ_=>true) held n' 3 _=some y2 from f2);simp[k1,k2]at e0 e1 e2;subst e0 e1 e2
    have hD:D i=.agg [y0.1,y1.1,y2.1]:=by
     have:=congrArg Prod.fst GV
     simpa using this
    refine⟨(r,s.1.1,q),?_,?_,?_,?_⟩
    ·have:=hat 0 (by omega);simpa[add_add]using this
    ·have:=hat 1 (by omega);rw[aX];simpa[add_add]using this
    ·have:=hat 2 (by omega);simpa[add_add]using this
    rw[hD,x1,x2,x0];simp[Rows.uptoBulk,Rows.uptoBulkAll];omega
 obtain⟨f,hfi⟩:=choose_lt each;refine⟨some a,len,m,(List.range len).map f,hcs,by simp,λh0=>?_,by omega,by omega,λe=>(by cases e),?_⟩
 ·have h0':0<len:=by simpa using h0
  obtain⟨hz0,_⟩:=hfi 0 h0'
  have hsp:a.spot=none:=by
   have:=World.cell?_spot hz0
   simpa[Addr.add]using this
  have hb:=cd _ _ hz0;refine⟨a.block,a.off,by obtain⟨b,o,s⟩:=a;simp at hsp;subst hsp;rfl,by simpa[Addr.add]using hb,λi hil=>?_⟩;have I9:i<len:=by simpa using hil
  obtain⟨g0,g1,g2,_⟩:=hfi i I9;rw[zX hsp]at g0 g1 g2;simp only[List.getElem_map,List.getElem_range];exact⟨g0,by rw[Nat.add_assoc];exact g1,by rw[Nat.add_assoc];exact g2⟩
 have hb:=Ad D f len (λi hi=>(hfi i hi).2.2.2);rw[hx];simp only[Rows.uptoBulk];omega
theorem Ct{H:Type}{enc:TypeId × Value->H}{w:World}{base fuel:Nat}{held:Bool}{cs:List Value}{x:DataW H × List MemPlace}
  (h:DataW.trod enc Tryz.prog w base (λ_=>true) held fuel 34 cs=some x) :
  ∃(A:Option Addr) (len cap:Nat) (f:List (Int × Int)),cs=[.slice A len cap]/\f.length=len/\dL w A f/\len<=cap/\cap<=maxLen:=by
 have hc3:Tryz.prog.cellsOf 33=2:=by kernel_rfl
 rcases open_slice Tryz.underlying34 h with⟨hcs,_⟩|⟨a,l,c,m,n,D,Pl,hcs,_,hl,hm,hmm,hx,hi⟩
 ·exact⟨none,0,0,[],hcs,rfl,λh=>absurd h (by simp),by omega,by unfold maxLen;omega⟩
 obtain⟨len,hlen'⟩:∃len,len=l:=⟨_,rfl⟩;subst hlen';rw[hc3]at hi;simp only[if_true]at hmm;subst hmm
 have each:∀i,i<len->∃y:Int × Int,w.cell? (a.add (i*2))=some (.int .i64 y.1)/\w.cell? (a.add (i*2+1))=some (.int .i64 y.2):=by
  intro i hil;obtain⟨cs,hcs,ht⟩:=hi i (by omega);obtain⟨_,hlen,hat⟩:=World.cells?_some hcs;obtain⟨xs,n',_,GV,_,hxs,hf⟩:=DataW.trod_struct Tryz.underlying33 ht
  match cs,hlen with
  | [c0,c1],_=>
   have f0:=hf 0 _ rfl;have f1:=hf 1 _ rfl;have k1:Tryz.prog.cellsOf 3=1:=by kernel_rfl
   match xs,hxs with
   | [y0,y1],_=>
    obtain⟨r,e0,x0,_⟩:=DataW.trod_int Tryz.underlying3 (show DataW.trod enc Tryz.prog w base (λ_=>true) held n' 3 _=some y0 from f0);obtain⟨q,e1,x1,_⟩:=DataW.trod_int Tryz.underlying3 (show DataW.trod enc Tryz.prog w base (λ_=>true) held n' 3 _=some y1 from f1);simp[k1]at e0 e1;subst e0 e1;refine⟨(r,q),?_,?_⟩
    ·have:=hat 0 (by omega);simpa[add_add]using this
    have:=hat 1 (by omega);simpa[add_add]using this
 obtain⟨f,hfi⟩:=choose_lt each;refine⟨some a,len,m,(List.range len).map f,hcs,by simp,λh0=>?_,by omega,by omega⟩;have h0':0<len:=by simpa using h0
 obtain⟨hz0,_⟩:=hfi 0 h0'
 have hsp:a.spot=none:=by
  have:=World.cell?_spot hz0
  simpa[Addr.add]using this
 have hb:=cd _ _ hz0;refine⟨a.block,a.off,by obtain⟨b,o,s⟩:=a;simp at hsp;subst hsp;rfl,by simpa[Addr.add]using hb,λi hil=>?_⟩;have I9:i<len:=by simpa using hil
 obtain⟨g0,g1⟩:=hfi i I9;rw[zX hsp]at g0 g1;simp only[List.getElem_map,List.getElem_range];exact⟨g0,by rw[Nat.add_assoc];exact g1⟩
end
