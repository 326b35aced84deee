/- A document that came in, opened to its cells, with the bulk of its parts. -/
import Derived.Test.YthoemdibbldndaaGreatDoorDocLi
import Derived.Test.YthoemdibbldndaaGreatDoorOpenInts
import Derived.Test.YthoemdibbldndaaGreatDoorShaped
import Derived.SizedLaws
import Derived.Deep.Slices
import Derived.ProofKit
set_option linter.unusedVariables false
set_option linter.unusedSimpArgs false
set_option maxHeartbeats 12800000
set_option maxRecDepth 20000
namespace Go.Proofs.YthoemdibbldndaaGreatDoor
open Go Go.RowKit Go.Deep Go.ChangeShapes Go.WideShapes
theorem addr_at'{a:Addr}(h:a.spot=none)(k:Nat):a.add k=⟨a.block,a.off+k,none⟩:=by
 obtain⟨b,off,s⟩:=a;simp at h;subst h;unfold Addr.add
 split
 ·rename_i h;subst h;rfl
 ·rfl
theorem bulk_sum{H:Type}(D:Nat->DataW H)(f:Nat->St.Pt):∀ len:Nat,(∀ i,i<len->10+(f i).2.1.length+(f i).2.2.length<=10*Rows.uptoBulk (D i))->lightN ((List.range len).map f)<=10*Rows.uptoBulkAll ((List.range len).map D)
 | 0,_=>by simp[lightN]
 | len+1,h=>by
  have ih:=bulk_sum D f len (fun i hi=>h i (by omega));have h1:=h len (by omega)
  have app:∀ l r:List (DataW H),Rows.uptoBulkAll (l++r)=Rows.uptoBulkAll l+Rows.uptoBulkAll r:=fun l r=>by
   induction l with
   | nil=>simp[Rows.uptoBulkAll]
   | cons x l ih=>simp only[List.cons_append,Rows.uptoBulkAll,ih];omega
  rw[List.range_succ,List.map_append,List.map_append,app];have e:lightN ((List.range len).map f++[len].map f)=lightN ((List.range len).map f)+(10+(f len).2.1.length+(f len).2.2.length):=by unfold lightN;rw[List.map_append,List.sum_append];simp
  rw[e];simp only[List.map_cons,List.map_nil,Rows.uptoBulkAll];omega
theorem open_parts{H:Type}{enc:TypeId × Value->H}{w:World}{base fuel:Nat}{held:Bool}{cs:List Value}{x:DataW H × List MemPlace}
  (h:DataW.trod enc Tryz.prog w base (fun _=>true) held fuel 23 cs=some x) :
  ∃ (A:Option Addr) (len cap:Nat) (f:List St.Pt),cs=[.slice A len cap]/\f.length=len/\PartsAt w A f/\len<=cap/\cap<=maxLen/\lightN f<=10*Rows.uptoBulk x.1:=by
 have hc3:Tryz.prog.cellsOf 64=3:=by kernel_rfl
 rcases open_slice Tryz.underlying23 h with ⟨hcs,_⟩|⟨a,l,c,m,n,D,Pl,hcs,_,hl,hm,hmm,hx,hi⟩
 ·exact⟨none,0,0,[],hcs,rfl,fun h=>absurd h (by simp),by omega,by unfold maxLen;omega,by simp[lightN]⟩
 ·obtain⟨len,hlen'⟩:∃ len,len=l:=⟨_,rfl⟩
  subst hlen';rw[hc3] at hi;simp only[if_true] at hmm;subst hmm
  have each:∀ i,i<len->∃ y:St.Pt,w.cell? (a.add (i*3))=some (.bool y.1)/\w.cell? (a.add (i*3+1))=some (.string ⟨y.2.1.toArray⟩)/\w.cell? (a.add (i*3+2))=some (.string ⟨y.2.2.toArray⟩)/\10+y.2.1.length+y.2.2.length<=10*Rows.uptoBulk (D i):=by
   intro i hil;obtain⟨cs,hcs,ht⟩:=hi i (by omega);obtain⟨_,hlen,hat⟩:=World.cells?_some hcs;obtain⟨xs,n',_,hxe,_,hxs,hf⟩:=DataW.trod_struct Tryz.underlying64 ht
   match cs,hlen with
   | [c0,c1,c2],_=>
    have f0:=hf 0 _ rfl;have f1:=hf 1 _ rfl;have f2:=hf 2 _ rfl;have k1:Tryz.prog.cellsOf 4=1:=by kernel_rfl
    have k2:Tryz.prog.cellsOf 9=1:=by kernel_rfl
    match xs,hxs with
    | [y0,y1,y2],_=>
     obtain⟨r,e0,x0⟩:=DataW.trod_bool Tryz.underlying4 (show DataW.trod enc Tryz.prog w base (fun _=>true) held n' 4 _=some y0 from f0);obtain⟨s,e1,x1,hs⟩:=DataW.trod_string Tryz.underlying9 (show DataW.trod enc Tryz.prog w base (fun _=>true) held n' 9 _=some y1 from f1);obtain⟨q,e2,x2,hq⟩:=DataW.trod_string Tryz.underlying9 (show DataW.trod enc Tryz.prog w base (fun _=>true) held n' 9 _=some y2 from f2);simp[k1,k2] at e0 e1 e2;subst e0 e1 e2
     have hD:D i=.agg [y0.1,y1.1,y2.1]:=by
      have:=congrArg Prod.fst hxe
      simpa using this
     refine⟨(r,s.data.toList,q.data.toList),?_,?_,?_,?_⟩
     ·have:=hat 0 (by omega);simpa [add_add] using this
     ·have:=hat 1 (by omega);rw[ba_eta];simpa [add_add] using this
     ·have:=hat 2 (by omega);rw[ba_eta];simpa [add_add] using this
     ·rw[hD,x1,x2,x0]
      simp[Rows.uptoBulk,Rows.uptoBulkAll];omega
  obtain⟨f,hfi⟩:=choose_lt each;refine⟨some a,len,m,(List.range len).map f,hcs,by simp,fun h0=>?_,by omega,by omega,?_⟩
  ·have h0':0<len:=by simpa using h0
   obtain⟨hz0,_⟩:=hfi 0 h0'
   have hsp:a.spot=none:=by
    have:=World.cell?_spot hz0
    simpa [Addr.add] using this
   have hb:=zbL _ _ hz0;refine⟨a.block,a.off,by obtain⟨b,o,s⟩:=a;simp at hsp;subst hsp;rfl,by simpa [Addr.add] using hb,fun i hil=>?_⟩;have hil':i<len:=by simpa using hil
   obtain⟨g0,g1,g2,_⟩:=hfi i hil';rw[addr_at' hsp] at g0 g1 g2;simp only[List.getElem_map,List.getElem_range];exact⟨g0,by rw[Nat.add_assoc];exact g1,by rw[Nat.add_assoc];exact g2⟩
  ·have hb:=bulk_sum D f len (fun i hi=>(hfi i hi).2.2.2)
   rw[hx];simp only[Rows.uptoBulk];omega
end Go.Proofs.YthoemdibbldndaaGreatDoor
