/- The contract of sheet's element: what it gives is St.sheetL, behind the builder's limits. -/
import Derived.Test.YthoemdibbldndaaGreatDoorGC
import Derived.Test.YthoemdibbldndaaGreatDoorShelf
set_option linter.unusedVariables false
set_option linter.unusedSimpArgs false
set_option maxHeartbeats 12800000
set_option maxRecDepth 20000
namespace Go.Proofs.YthoemdibbldndaaGreatDoor.Sh
open Go.RowKit Go.Proofs.YthoemdibbldndaaGreatDoor.St
section
abbrev BAt (w:World) (B b:Nat) (its:List St.It) (tx:List UInt8) (cuts:List Nat):Prop:=_root_.Go.Proofs.YthoemdibbldndaaGreatDoor.BAt 127 [] w B b its tx cuts
instance:RdOk 127:=⟨by decide⟩
theorem hasPrefix0(s t:ByteArray)(w:World)(hs:s.size<=9223372036854775807)(ht:t.size<=9223372036854775807):Calls Tryz.prog 192 #[.string s,.string t] w fun e w'=>e=.returned (.bool (preB t s))/\w=w':=by
 by_cases h:t.size<=s.size
 ·have z:(t.size:Int)<=(s.size:Int):=by omega
  go_enter Tryz.func192,Tryz.ntmps192;go_wp2;go_ret;refine⟨ret_bool ?_,rfl⟩;unfold preB;rw[Lib.toList_data,Lib.toList_data,Lib.extract_data,<- St.pre_take];simp
 ·have z:¬ (t.size:Int)<=(s.size:Int):=by omega
  have H:=hid h;clear h;go_enter Tryz.func192,Tryz.ntmps192;go_wp2;go_ret;have hz:preB t s=false:=St.pre_long _ _ (by have:=H.out;simp;omega);exact⟨ret_bool hz.symm,rfl⟩
theorem hasPrefix_any(s t:ByteArray)(w:World)(hs:s.size<=9223372036854775807)(ht:t.size<=9223372036854775807):Calls Tryz.prog 165 #[.string s,.string t] w fun e w'=>e=.returned (.bool (preB t s))/\w=w':=by
 have H:=hid (hasPrefix0 s t w hs ht);go_enter Tryz.func165,Tryz.ntmps165;go_wp2_with fail;refine H.out.mono ?_;rintro e w' ⟨rfl,rfl⟩;go_wp2;go_ret;exact⟨rfl,rfl⟩
def ElEnd(w:World)(B b:Nat)(its:List St.It)(tx:List UInt8)(cuts:List Nat)(l:List UInt8)(a:Nat)(e:Ending)(w':World):Prop:=
 Below B w w'/\match St.sheetL l with
  | none=>e=.returned (.tuple #[.int .i64 a,.int .i64 2])
  | some (k,t,n)=>if 512<(St.addI (its++St.txt tx) (k,t,0)).length∨1024<=cuts.length then e=.returned (.tuple #[.int .i64 a,.int .i64 3]) else
    e=.returned (.tuple #[.int .i64 ((a+n:Nat):Int),.int .i64 0])/\∃ its' tx',BAt w' B b its' tx' (cuts++[a])/\St.NoTxt its'/\its'++St.txt tx'=St.addI (its++St.txt tx) (k,t,0)/\tx'.length<=cuts.length+1
theorem el_err{w:World}{B b:Nat}{its:List St.It}{tx:List UInt8}{cuts:List Nat}{l:List UInt8}{a:Nat}{w':World}(h:St.sheetL l=none)(hb:Below B w w'):ElEnd w B b its tx cuts l a (.returned (.tuple #[.int .i64 a,.int .i64 2])) w':=by
 refine⟨hb,?_⟩;rw[h]
theorem el_full{w:World}{B b:Nat}{its:List St.It}{tx:List UInt8}{cuts:List Nat}{l:List UInt8}{a n:Nat}{c:UInt8}{w':World}(h:St.sheetL l=some (1,[c],n))(hN:St.NoTxt its)(hf:St.fullB its.length tx.length cuts.length true=true)(hb:Below B w w') :
  ElEnd w B b its tx cuts l a (.returned (.tuple #[.int .i64 a,.int .i64 3])) w':=by
 refine⟨hb,?_⟩;rw[h];simp only;rw[if_pos ((St.full_byte hN c cuts.length).2 hf)];trivial
theorem el_byte{w:World}{B b:Nat}{its:List St.It}{tx:List UInt8}{cuts:List Nat}{l:List UInt8}{a n:Nat}{c:UInt8}{w':World}(h:St.sheetL l=some (1,[c],n))(hN:St.NoTxt its)(hf:St.fullB its.length tx.length cuts.length true=false)(hb:Below B w w')
  (hB:BAt w' B b its (tx++[c]) (cuts++[a])) (ht:tx.length<=cuts.length) (m:Int) (hm:m=((a+n:Nat):Int)):ElEnd w B b its tx cuts l a (.returned (.tuple #[.int .i64 m,.int .i64 0])) w':=by
 refine⟨hb,?_⟩;rw[h];simp only;rw[if_neg (fun h2=>by rw[(St.full_byte hN c cuts.length).1 h2] at hf;cases hf),hm];exact⟨rfl,its,tx++[c],hB,hN,(St.add_byte hN c).symm,by simp;omega⟩
theorem el_full5{w:World}{B b:Nat}{its:List St.It}{tx:List UInt8}{cuts:List Nat}{l:List UInt8}{a n:Nat}{t:List UInt8}{w':World}(h:St.sheetL l=some (5,t,n))(hf:St.fullB its.length tx.length cuts.length false=true)(hb:Below B w w') :
  ElEnd w B b its tx cuts l a (.returned (.tuple #[.int .i64 a,.int .i64 3])) w':=by
 refine⟨hb,?_⟩;rw[h];simp only;rw[if_pos ((St.full_item 5 t cuts.length (by decide)).2 hf)];trivial
theorem el_item{w:World}{B b:Nat}{its:List St.It}{tx:List UInt8}{cuts:List Nat}{l:List UInt8}{a n:Nat}{t:List UInt8}{w':World}(h:St.sheetL l=some (5,t,n))(hf:St.fullB its.length tx.length cuts.length false=false)(hb:Below B w w')
  (hB:BAt w' B b (its++St.txt tx++[(5,t,0)]) [] (cuts++[a])) (m:Int) (hm:m=((a+n:Nat):Int)):ElEnd w B b its tx cuts l a (.returned (.tuple #[.int .i64 m,.int .i64 0])) w':=by
 refine⟨hb,?_⟩;rw[h];simp only;rw[if_neg (fun h2=>by rw[(St.full_item 5 t cuts.length (by decide)).1 h2] at hf;cases hf),hm];exact⟨rfl,_,[],hB,St.noTxt_snoc _ 5 t 0 (by decide),by rw[St.add_item 5 t (by decide)];simp[St.txt],by simp⟩
end
section
theorem element_any(w:World)(B b:Nat)(its:List St.It)(tx:List UInt8)(cuts:List Nat)(raw:ByteArray)(a:Nat)(h:BAt w B b its tx cuts)(hN:St.NoTxt its)(h1:its.length<=512)(h2:cuts.length<=1024)(h3:tx.length<=cuts.length)(hBw:B<=w.heap.size)
  (ha:a<raw.size) (hr:raw.size<=4611686018427387904) :
  Calls Tryz.prog 173 #[.pointer (some ⟨b,0,none⟩),.string raw,.int .i64 a] w (ElEnd w B b its tx cuts (raw.data.toList.drop a) a):=by
 obtain⟨s,hE⟩:∃ s,raw.extract a raw.size=s:=⟨_,rfl⟩;have hsz:s.size=raw.size-a:=by rw[<- hE];simp
 have hs0:0<s.size:=by omega
 have hl:s.data.toList=raw.data.toList.drop a:=by rw[<- hE];simp;exact List.take_of_length_le (by simp)
 rw[<- hl];have hcr:s.data.toList=s[0] :: s.data.toList.drop 1:=St.list_zero s hs0;have hp1:=fun W=>hasPrefix_any s ⟨#[34,34]⟩ W (by omega) (by show 2<=_;omega)
 have hp2:=fun W=>hasPrefix_any s ⟨#[123,123]⟩ W (by omega) (by show 2<=_;omega)
 have e1:preB ⟨#[34,34]⟩ s=([34,34]:List UInt8).isPrefixOf (s[0] :: s.data.toList.drop 1):=by unfold preB;rw[<- hcr]
 have e2:preB ⟨#[123,123]⟩ s=([123,123]:List UInt8).isPrefixOf (s[0] :: s.data.toList.drop 1):=by unfold preB;rw[<- hcr]
 have hby:=hid (byte_any w B b its tx cuts s[0] a h (by omega) (by omega) (by omega) hBw);have ha1:(a:Int)<=raw.size:=by omega
 have ha2:¬ raw.size<a:=by omega
 have hN':=hid hN
 by_cases c34:s[0].toNat=34
 ·have hsl:=St.sheet_34 (r:=s.data.toList.drop 1) c34
  have hq2:preB ⟨#[123,123]⟩ s=false:=by rw[e2];exact St.pre2_ne (by intro e;rw[e] at c34;simp at c34)
  have c34':((s[0].toNat:Int)==34)=true:=by simp;omega
  rw[<- e1,<- hcr] at hsl;cases hq1:preB ⟨#[34,34]⟩ s
  ·rw[hq1] at hsl
   have HSL:=hid hsl;rw[hq1] at hp1;rw[hq2] at hp2;have HP1:=hid hp1;have HP2:=hid hp2;clear hsl hp1 hp2 e1 e2 hq1 hq2 hcr hl h hN;go_enter Tryz.func173,Tryz.ntmps173;go_wp2_with fail;refine(HP1.out _).mono ?_;rintro e w' ⟨rfl,rfl⟩;go_wp2_with fail;refine(HP2.out _).mono ?_;rintro e w' ⟨rfl,rfl⟩;go_wp2;go_ret2;exact el_err HSL.out (Below.refl _ _)
  ·rw[hq1] at hsl
   have HSL:=hid hsl;rw[hq1] at hp1;have HP1:=hid hp1;clear hsl hp1 hp2 e1 e2 hq1 hq2 hcr hl h hN;go_enter Tryz.func173,Tryz.ntmps173;go_wp2_with fail;refine(HP1.out _).mono ?_;rintro e w' ⟨rfl,rfl⟩;go_wp2_with fail;have hby2:=hby.out;rw[c34,show ((34:Nat):Int)=34 from rfl] at hby2;refine hby2.mono ?_;rintro e w' ⟨rfl,hba,hbl⟩;have HBA:=hid hba;have HBL:=hid hbl;clear hba hbl hby2;cases hfu:St.fullB its.length tx.length cuts.length true
   ·have HFU:=hid hfu
    clear hfu;go_wp2;go_ret2;exact el_byte HSL.out hN'.out HFU.out HBL.out (HBA.out HFU.out) h3 _ (by omega)
   ·have HFU:=hid hfu
    clear hfu;go_wp2;go_ret2;exact el_full HSL.out hN'.out HFU.out HBL.out
 by_cases c123:s[0].toNat=123
 ·have hsl:=St.sheet_123 (r:=s.data.toList.drop 1) c123
  have hq1:preB ⟨#[34,34]⟩ s=false:=by rw[e1];exact St.pre2_ne (by intro e;rw[e] at c123;simp at c123)
  rw[<- e2,<- hcr] at hsl;cases hq2:preB ⟨#[123,123]⟩ s
  ·rw[hq2] at hsl
   simp only[Bool.false_eq_true,if_false] at hsl;rw[hq1] at hp1;rw[hq2] at hp2;have HP1:=hid hp1;have HP2:=hid hp2;have hix:=fun W=>Tryz.strings_IndexByte s 125 W
   have h125:(125:Int).toNat.toUInt8=125:=rfl;rw[h125,hcr] at hix;rcases St.slot_of (r:=s.data.toList.drop 1) c123 with ⟨hi,hs⟩|⟨n,hi,hn,htw,hs⟩
   ·rw[hi] at hix
    rw[<- hcr] at hs;rw[hs] at hsl;have HSL:=hid hsl;have HIX:=hid hix;clear hsl hp1 hp2 e1 e2 hq1 hq2 hcr hl h hN hix hi hs h125;go_enter Tryz.func173,Tryz.ntmps173;go_wp2_with fail;refine(HP1.out _).mono ?_;rintro e w' ⟨rfl,rfl⟩;go_wp2_with fail;refine(HP2.out _).mono ?_;rintro e w' ⟨rfl,rfl⟩;go_wp2_with fail;refine(HIX.out _).mono ?_;rintro e w' ⟨rfl,rfl⟩;go_wp2;go_ret2;exact el_err HSL.out (Below.refl _ _)
   ·rw[hi] at hix
    have hns:n+1<s.size:=by rw[<- hcr] at hn;simpa using hn
    obtain⟨x,hX⟩:∃ x,s.extract 1 (n+1)=x:=⟨_,rfl⟩;have hxl:x.data.toList=(s.data.toList.drop 1).take n:=by rw[<- hX];simp
    have hxs:x.size<=s.size:=by rw[<- hX];simp;omega
    have hnm:=fun W=>isname_any x W (by omega)
    rw[<- hcr,<- hxl] at hs;have z1:(1:Int)<=(n:Int)+1:=by omega
    have z2:(n:Int)+1<=s.size:=by omega
    have z3:¬ (n:Int)+1<0:=by omega
    cases hnb:St.isNameL x.data.toList
    ·rw[hnb] at hs hnm
     simp only[Bool.false_eq_true,if_false] at hs;rw[hs] at hsl;have HSL:=hid hsl;have HIX:=hid hix;have HNM:=hid hnm;clear hsl hp1 hp2 e1 e2 hq1 hq2 hcr hl h hN hix hi hs h125 hn htw hnm hnb hxl;go_enter Tryz.func173,Tryz.ntmps173;go_wp2_with fail;refine(HP1.out _).mono ?_;rintro e w' ⟨rfl,rfl⟩;go_wp2_with fail;refine(HP2.out _).mono ?_;rintro e w' ⟨rfl,rfl⟩;go_wp2_with fail;refine(HIX.out _).mono ?_;rintro e w' ⟨rfl,rfl⟩;go_wp2_with fail;refine(HNM.out _).mono ?_;rintro e w' ⟨rfl,rfl⟩;go_wp2;go_ret2;exact el_err HSL.out (Below.refl _ _)
    ·rw[hnb] at hs hnm
     simp only[if_true] at hs;rw[hs] at hsl;simp only[Option.map_some] at hsl;have HSL:=hid hsl;have HIX:=hid hix;have HNM:=hid hnm;have hit:=hid (item_any w B b its tx cuts 5 0 x a h (by omega) (by omega) (by omega) hBw);clear hsl hp1 hp2 e1 e2 hq1 hq2 hcr hl h hN hix hi hs h125 hn htw hnm hnb hxl;go_enter Tryz.func173,Tryz.ntmps173;go_wp2_with fail;refine(HP1.out _).mono ?_;rintro e w' ⟨rfl,rfl⟩;go_wp2_with fail;refine(HP2.out _).mono ?_;rintro e w' ⟨rfl,rfl⟩;go_wp2_with fail;refine(HIX.out _).mono ?_;rintro e w' ⟨rfl,rfl⟩;go_wp2_with fail;refine(HNM.out _).mono ?_;rintro e w' ⟨rfl,rfl⟩;go_wp2_with fail;refine hit.out.mono ?_;rintro e w' ⟨rfl,hba,hbl⟩;have HBA:=hid hba;have HBL:=hid hbl;clear hba hbl;cases hfu:St.fullB its.length tx.length cuts.length false
     ·have HFU:=hid hfu
      clear hfu;go_wp2;go_ret2;exact el_item HSL.out HFU.out HBL.out (HBA.out HFU.out) _ (by omega)
     ·have HFU:=hid hfu
      clear hfu;go_wp2;go_ret2;exact el_full5 HSL.out HFU.out HBL.out
  ·rw[hq2] at hsl
   have HSL:=hid hsl;rw[hq1] at hp1;rw[hq2] at hp2;have HP1:=hid hp1;have HP2:=hid hp2;clear hsl hp1 hp2 e1 e2 hq1 hq2 hcr hl h hN;go_enter Tryz.func173,Tryz.ntmps173;go_wp2_with fail;refine(HP1.out _).mono ?_;rintro e w' ⟨rfl,rfl⟩;go_wp2_with fail;refine(HP2.out _).mono ?_;rintro e w' ⟨rfl,rfl⟩;go_wp2_with fail;have hby2:=hby.out;rw[c123,show ((123:Nat):Int)=123 from rfl] at hby2;refine hby2.mono ?_;rintro e w' ⟨rfl,hba,hbl⟩;have HBA:=hid hba;have HBL:=hid hbl;clear hba hbl hby2;cases hfu:St.fullB its.length tx.length cuts.length true
   ·have HFU:=hid hfu
    clear hfu;go_wp2;go_ret2;exact el_byte HSL.out hN'.out HFU.out HBL.out (HBA.out HFU.out) h3 _ (by omega)
   ·have HFU:=hid hfu
    clear hfu;go_wp2;go_ret2;exact el_full HSL.out hN'.out HFU.out HBL.out
 ·have hsl:=St.sheet_else (r:=s.data.toList.drop 1) c34 c123
  have hq1:preB ⟨#[34,34]⟩ s=false:=by rw[e1];exact St.pre2_ne (by intro e;rw[e] at c34;simp at c34)
  have hq2:preB ⟨#[123,123]⟩ s=false:=by rw[e2];exact St.pre2_ne (by intro e;rw[e] at c123;simp at c123)
  have d34:((s[0].toNat:Int)==34)=false:=by simp;omega
  have d123:((s[0].toNat:Int)==123)=false:=by simp;omega
  rw[<- hcr] at hsl;have HSL:=hid hsl;rw[hq1] at hp1;rw[hq2] at hp2;have HP1:=hid hp1;have HP2:=hid hp2;clear hsl hp1 hp2 e1 e2 hq1 hq2 hcr hl h hN c34 c123;go_enter Tryz.func173,Tryz.ntmps173;go_wp2_with fail;refine(HP1.out _).mono ?_;rintro e w' ⟨rfl,rfl⟩;go_wp2_with fail;refine(HP2.out _).mono ?_;rintro e w' ⟨rfl,rfl⟩;go_wp2_with fail;refine hby.out.mono ?_;rintro e w' ⟨rfl,hba,hbl⟩;have HBA:=hid hba;have HBL:=hid hbl;clear hba hbl;cases hfu:St.fullB its.length tx.length cuts.length true
  ·have HFU:=hid hfu
   clear hfu;go_wp2;go_ret2;exact el_byte HSL.out hN'.out HFU.out HBL.out (HBA.out HFU.out) h3 _ (by omega)
  ·have HFU:=hid hfu
   clear hfu;go_wp2;go_ret2;exact el_full HSL.out hN'.out HFU.out HBL.out
end
section
def sheetD(raw:ByteArray):List St.It × List Nat × Nat × Int:=St.dec St.sheetL raw.size raw.data.toList 0 0 [] []
def ReadEnd(raw:ByteArray)(w:World)(e:Ending)(w':World):Prop:=
 Und w w'/\((∃ its tx cuts,e=.returned (.tuple #[.pointer (some ⟨w.heap.size,0,none⟩),.int .i64 0,.int .i64 0])/\BAt w' w.heap.size w.heap.size its tx cuts/\its.length<=512/\cuts.length<=1024/\tx.length<=cuts.length/\sheetD raw=(its++St.txt tx,cuts++[raw.size],0,0)) ∨
  ∃ (a:Nat) (er:Int),er ≠ 0/\e=.returned (.tuple #[.pointer none,.int .i64 a,.int .i64 er])/\sheetD raw=([],[],a,er))
def RdRel(w:World)(raw:ByteArray)(s6:Value)(wr:World):Prop:=
 ∃ (a:Nat) (its:List St.It) (tx:List UInt8) (cuts:List Nat) (fuel:Nat),s6=.int .i64 a/\a<=raw.size/\raw.size-a<=fuel/\BAt wr w.heap.size w.heap.size its tx cuts/\St.NoTxt its/\its.length<=512/\cuts.length<=1024/\tx.length<=cuts.length /\
  sheetD raw=St.dec St.sheetL fuel (raw.data.toList.drop a) a a (its++St.txt tx) cuts/\Und w wr
theorem BAt.fresh(w:World):BAt (w.alloc (.cells #[.slice none 0 0,.slice none 0 0,.slice none 0 0] 127)) w.heap.size w.heap.size [] [] []:=
 ⟨_,_,_,Nat.le_refl _,heap_alloc_new w _,World.ownsRow_nil _ _ _ _,World.ownsRow_nil _ _ _ _,World.ownsRow_nil _ _ _ _⟩
theorem read_any(raw:ByteArray)(w:World)(hr:raw.size<=4611686018427387904):Calls Tryz.prog 127 #[.string raw] w (ReadEnd raw w):=by
 have hB0:=hid (BAt.fresh w);go_enter Tryz.func127,Tryz.ntmps127;go_wp2;go_loopw [6] (fun s6 wr=>RdRel w raw s6 wr) (fun s6 _=>raw.size+1-(intOf s6).toNat)
 case atStart=>exact⟨0,[],[],[],raw.size,rfl,by omega,by omega,hB0.out,St.noTxt_nil,by simp,by simp,by simp,by simp[sheetD,St.txt],(by apply_rules[uUe,uUa,uUb,uUc,uUd])⟩
 case round=>
  obtain⟨a,its,tx,cuts,fuel,rfl,ha,hfu,hB,hN,h1,h2,h3,hD,hu⟩:=hrel;clear hB0
  by_cases hlt:a<raw.size
  ·have hel:=element_any wr w.heap.size w.heap.size its tx cuts raw a hB hN h1 h2 h3 hu.size hlt hr
   have HEL:=hid hel;have HD:=hid hD;have HU:=hid hu
   have h0:raw.data.toList.drop a ≠ []:=by
    intro e;have:=congrArg List.length e
    simp at this;omega
   obtain⟨fuel,rfl⟩:∃ m,fuel=m+1:=⟨fuel-1,by omega⟩;clear hel hB hN hD hu;go_wp2_with fail;refine HEL.out.mono ?_;rintro e w2 ⟨hbl,hm⟩;have hu2:Und w w2:=Und.of_below (Below.trans HU.out.below hbl);have HU2:=hid hu2;clear hbl hu2;cases hs:St.sheetL (raw.data.toList.drop a) with
   | none=>
    rw[hs] at hm;subst hm;have hd2:=HD.out.trans (St.dec_none fuel a a _ cuts h0 hs);have HD2:=hid hd2;clear hd2 hs h0;go_wp2;go_ret3;exact⟨HU2.out,.inr ⟨a,2,by decide,rfl,HD2.out⟩⟩
   | some x=>
    obtain⟨k,t,n⟩:=x;rw[hs] at hm;simp only at hm;obtain⟨hk,hn1,hn2⟩:=St.sheet_len hs;have hk0:k ≠ 0:=by omega
    split at hm
    ·rename_i hf
     subst hm;have hd2:=HD.out.trans (St.dec_full fuel a a _ cuts h0 hs hk0 hf);have HD2:=hid hd2;clear hd2 hs h0 hf;go_wp2;go_ret3;exact⟨HU2.out,.inr ⟨a,3,by decide,rfl,HD2.out⟩⟩
    ·rename_i hf
     obtain⟨rfl,its',tx',hB',hN',hadd,ht'⟩:=hm;have hd2:=HD.out.trans (St.dec_step fuel a a _ cuts h0 hs hk0 hf);rw[<- hadd] at hd2 hf;have hdl:(raw.data.toList.drop a).drop n=raw.data.toList.drop (a+n):=by rw[List.drop_drop]
     rw[hdl] at hd2;have hn3:a+n<=raw.size:=by simp at hn2;omega
     have hl5:its'.length<=512:=by have:=(not_or.1 hf).1;simp at this;omega
     have hl6:cuts.length+1<=1024:=by have:=(not_or.1 hf).2;omega
     have HE:=hid (And.intro hd2 (And.intro hB' hN'));clear hd2 hB' hN' hadd hf hs h0 hdl HEL HD HU;go_wp2;exact⟨⟨a+n,its',tx',cuts++[a],fuel,congrArg (Value.int .i64) (by omega),hn3,by omega,HE.out.2.1,HE.out.2.2,hl5,by simp;omega,by simp;omega,HE.out.1,HU2.out⟩,by simp[intOf];omega⟩
  ·have haz:a=raw.size:=by omega
   subst haz;have hnil:raw.data.toList.drop raw.size=[]:=List.drop_of_length_le (by simp);rw[hnil,St.dec_nil] at hD;have HE:=hid (And.intro hu (And.intro hB hD));clear hlt hB hN hD hu hnil;go_wp2;go_ret3;exact⟨HE.out.1,.inl ⟨its,tx,cuts,rfl,HE.out.2.1,h1,h2,h3,HE.out.2.2⟩⟩
def DecEnd(R:List St.It × List Nat × Nat × Int)(w:World)(e:Ending)(w':World):Prop:=
 ∃ (A:Option Addr) (c:Nat),e=.returned (.tuple #[.slice A R.1.length c,.int .i64 (R.2.2.1:Int),.int .i64 R.2.2.2])/\ItemsAt w' A R.1/\R.1.length<=c/\c<=9223372036854775807/\Und w w'
theorem sdecode_any(raw:ByteArray)(w:World)(hr:raw.size<=4611686018427387904):Calls Tryz.prog 92 #[.string raw] w (DecEnd (sheetD raw) w):=by
 have HR:=hid (read_any raw w hr);go_enter Tryz.func92,Tryz.ntmps92;go_wp2_with fail;refine HR.out.mono ?_;rintro e w2 ⟨hu,⟨its,tx,cuts,rfl,hB,h1,h2,h3,hD⟩|⟨a,er,her,rfl,hD⟩⟩
 ·have HI:=hid (items_any w2 w.heap.size w.heap.size its tx cuts hB (by omega) (by omega) hu.size)
  have HU:=hid hu;have HD:=hid hD;clear hu hB hD HR;go_wp2_with fail;refine HI.out.mono ?_;rintro e w3 ⟨A,c,rfl,hI,hc1,hc2,hbl⟩;have HE:=hid (And.intro hI (Und.of_below (Below.trans HU.out.below hbl)));have hc1':=hid hc1;clear hI hbl hc1;go_wp2;go_ret3;unfold DecEnd;rw[HD.out];exact⟨A,c,by simp only[List.length_append];rfl,HE.out.1,hc1'.out,hc2,HE.out.2⟩
 ·have hb:(er==0)=false:=by simpa using her
  have HU:=hid hu;have HD:=hid hD;clear hu hD HR;go_wp2;go_ret3;unfold DecEnd;rw[HD.out];exact⟨none,0,rfl,fun h=>absurd h (by simp),by simp,by omega,HU.out⟩
end
section
namespace St
theorem quoted_plain{c:UInt8}{r:List UInt8}(h:c.toNat ≠ 34):quotedL (c :: r)=(quotedL r).map (·+1):=by
 rw[quotedL.eq_def];simp only;rw[if_neg h]
theorem quoted_two{c d:UInt8}{r:List UInt8}(h:c.toNat=34)(h2:d.toNat=34):quotedL (c :: d :: r)=(quotedL r).map (·+2):=by
 rw[quotedL,if_pos h];show (if d.toNat=34 then _ else _)=_;rw[if_pos h2]
theorem quoted_end{c d:UInt8}{r:List UInt8}(h:c.toNat=34)(h2:d.toNat ≠ 34):quotedL (c :: d :: r)=some 1:=by
 rw[quotedL,if_pos h];show (if d.toNat=34 then _ else _)=_;rw[if_neg h2]
theorem quoted_last{c:UInt8}(h:c.toNat=34):quotedL [c]=some 1:=by
 rw[quotedL,if_pos h]
theorem field_nil:fieldL []=some (0,false):=rfl
theorem field_q{c:UInt8}{r:List UInt8}(h:c.toNat=34):fieldL (c :: r)=(match quotedL r with
   | none=>none
   | some n=>if endB (r.drop n) then some (n+1,true) else none):=by
 rw[fieldL,if_pos h];cases quotedL r <;> rfl
theorem field_b{l:List UInt8}(h:∀ c r,l=c :: r->c.toNat ≠ 34):fieldL l=if endB (l.drop (l.takeWhile bareC).length) then some ((l.takeWhile bareC).length,false) else none:=by
 cases l with
 | nil=>rfl
 | cons c r=>rw[fieldL,if_neg (h c r rfl)]
end St
theorem fe_q{d:List UInt8}{a j:Nat}(h:St.fieldL (d.drop a)=(match St.quotedL (d.drop (a+1)) with
   | none=>none
   | some n=>if St.endB ((d.drop (a+1)).drop n) then some (n+1,true) else none)) (hq:St.quotedL (d.drop (a+1))=some (j-a)) (hj:a+1<=j):St.fieldL (d.drop a)=if St.endB (d.drop (j+1))=true then some (j+1-a,true) else none:=by
 rw[h,hq];simp only[List.drop_drop];rw[show a+1+(j-a)=j+1 by omega,show j-a+1=j+1-a by omega]
def FieldEnd(l:List UInt8)(a:Nat)(w:World)(e:Ending)(w':World):Prop:=
 Und w w'/\match St.fieldL l with
  | none=>∃ x y,e=.returned (.tuple #[.int .i64 x,.bool y,.bool false])
  | some (k,q)=>e=.returned (.tuple #[.int .i64 ((a+k:Nat):Int),.bool q,.bool true])
theorem fe_done{l:List UInt8}{a k:Nat}{w w':World}{q b bb:Bool}{m:Int}(h:St.fieldL l=if bb=true then some (k,q) else none)(hb:bb=b)(hm:m=((a+k:Nat):Int))(hu:Und w w') :
  FieldEnd l a w (.returned (.tuple #[.int .i64 m,.bool q,.bool b])) w':=by
 refine⟨hu,?_⟩;subst hb hm;rw[h];cases bb
 ·exact⟨_,_,rfl⟩
 ·rfl
def QRel(w:World)(d:ByteArray)(b:Nat)(s4:Value)(wr:World):Prop:=∃ j:Nat,s4=.int .i64 j/\b<=j/\j<=d.size/\St.quotedL (d.data.toList.drop b)=(St.quotedL (d.data.toList.drop j)).map (·+(j-b))/\Und w wr
def BRel(w:World)(d:ByteArray)(a:Nat)(s4:Value)(wr:World):Prop:=∃ j:Nat,s4=.int .i64 j/\a<=j/\j<=d.size/\((d.data.toList.drop a).takeWhile St.bareC).length=(j-a)+((d.data.toList.drop j).takeWhile St.bareC).length/\Und w wr
end
section
def sText:ByteArray:=⟨#[116,101,120,116]⟩
end
end Go.Proofs.YthoemdibbldndaaGreatDoor.Sh
