/- The contracts of the reference's byteOf and Encode: what they give is St.encB, St.encS. -/
import Derived.Test.YthoemdibbldndaaGreatDoorRefCheck
set_option linter.unusedVariables false
set_option linter.unusedSimpArgs false
set_option maxHeartbeats 12800000
set_option maxRecDepth 20000
namespace Go.Proofs.YthoemdibbldndaaGreatDoor
open Go.RowKit
theorem ret_ba{a b:ByteArray}(h:a=b):Ending.returned (.string a)=.returned (.string b):=by rw[h]
theorem byteOf_any(fmt:Int)(c:UInt8)(w:World):Calls Tryz.prog 110 #[.int .i64 fmt,.int .u8 (c.toNat:Int)] w fun e w'=>e=.returned (.string ⟨(St.encB fmt c).toArray⟩)/\Und w w':=by
 have hc:UInt8.ofNat (c.toNat:Int).toNat=c:=by simp
 by_cases f1:fmt=1
 ·have f2:fmt ≠ 2:=by omega
  have z1:(fmt==1)=true:=by simpa using f1
  by_cases q60:c.toNat=60
  ·have p60:((c.toNat:Int)==60)=true:=by simp;omega
   have hr:=hid (show St.encB fmt c=[38,108,116,59] by unfold St.encB;simp[f1,f2,q60]);clear q60;go_enter Tryz.func110,Tryz.ntmps110;go_wp2;go_ret;refine⟨ret_ba ?_,(by apply_rules[uUe,uUa,uUb,uUc,uUd])⟩;rw[hr.out];try (apply ByteArray.ext;simp)
  ·by_cases q38:c.toNat=38
   ·have p60:((c.toNat:Int)==60)=false:=by simp;omega
    have p38:((c.toNat:Int)==38)=true:=by simp;omega
    have hr:=hid (show St.encB fmt c=[38,97,109,112,59] by unfold St.encB;simp[f1,f2,q60,q38]);clear q60 q38;go_enter Tryz.func110,Tryz.ntmps110;go_wp2;go_ret;refine⟨ret_ba ?_,(by apply_rules[uUe,uUa,uUb,uUc,uUd])⟩;rw[hr.out];try (apply ByteArray.ext;simp)
   ·by_cases q123:c.toNat=123
    ·have p60:((c.toNat:Int)==60)=false:=by simp;omega
     have p38:((c.toNat:Int)==38)=false:=by simp;omega
     have p123:((c.toNat:Int)==123)=true:=by simp;omega
     have hr:=hid (show St.encB fmt c=[38,108,98,59] by unfold St.encB;simp[f1,f2,q60,q38,q123]);clear q60 q38 q123;go_enter Tryz.func110,Tryz.ntmps110;go_wp2;go_ret;refine⟨ret_ba ?_,(by apply_rules[uUe,uUa,uUb,uUc,uUd])⟩;rw[hr.out];try (apply ByteArray.ext;simp)
    ·have p60:((c.toNat:Int)==60)=false:=by simp;omega
     have p38:((c.toNat:Int)==38)=false:=by simp;omega
     have p123:((c.toNat:Int)==123)=false:=by simp;omega
     have hr:=hid (show St.encB fmt c=[c] by unfold St.encB;simp[f1,f2,q60,q38,q123]);clear q60 q38 q123;go_enter Tryz.func110,Tryz.ntmps110;go_wp2;go_ret;refine⟨ret_ba ?_,(by apply_rules[uUe,uUa,uUb,uUc,uUd])⟩;rw[hr.out];try (apply ByteArray.ext;simp)
 ·have z1:(fmt==1)=false:=by simpa using f1
  by_cases f2:fmt=2
  ·have z2:(fmt==2)=true:=by simpa using f2
   by_cases q10:c.toNat=10
   ·have p10:((c.toNat:Int)==10)=true:=by simp;omega
    have hr:=hid (show St.encB fmt c=[92,110] by unfold St.encB;simp[f1,f2,q10]);clear q10;go_enter Tryz.func110,Tryz.ntmps110;go_wp2;go_ret;refine⟨ret_ba ?_,(by apply_rules[uUe,uUa,uUb,uUc,uUd])⟩;rw[hr.out];try (apply ByteArray.ext;simp)
   ·by_cases q9:c.toNat=9
    ·have p10:((c.toNat:Int)==10)=false:=by simp;omega
     have p9:((c.toNat:Int)==9)=true:=by simp;omega
     have hr:=hid (show St.encB fmt c=[92,116] by unfold St.encB;simp[f1,f2,q10,q9]);clear q10 q9;go_enter Tryz.func110,Tryz.ntmps110;go_wp2;go_ret;refine⟨ret_ba ?_,(by apply_rules[uUe,uUa,uUb,uUc,uUd])⟩;rw[hr.out];try (apply ByteArray.ext;simp)
    ·by_cases q13:c.toNat=13
     ·have p10:((c.toNat:Int)==10)=false:=by simp;omega
      have p9:((c.toNat:Int)==9)=false:=by simp;omega
      have p13:((c.toNat:Int)==13)=true:=by simp;omega
      have hr:=hid (show St.encB fmt c=[92,114] by unfold St.encB;simp[f1,f2,q10,q9,q13]);clear q10 q9 q13;go_enter Tryz.func110,Tryz.ntmps110;go_wp2;go_ret;refine⟨ret_ba ?_,(by apply_rules[uUe,uUa,uUb,uUc,uUd])⟩;rw[hr.out];try (apply ByteArray.ext;simp)
     ·by_cases q92:c.toNat=92
      ·have p10:((c.toNat:Int)==10)=false:=by simp;omega
       have p9:((c.toNat:Int)==9)=false:=by simp;omega
       have p13:((c.toNat:Int)==13)=false:=by simp;omega
       have p92:((c.toNat:Int)==92)=true:=by simp;omega
       have hr:=hid (show St.encB fmt c=[92,c] by unfold St.encB;simp[f1,f2,q10,q9,q13,q92]);clear q10 q9 q13 q92;go_enter Tryz.func110,Tryz.ntmps110;go_wp2;go_ret;refine⟨ret_ba ?_,(by apply_rules[uUe,uUa,uUb,uUc,uUd])⟩;rw[hr.out];try (apply ByteArray.ext;simp)
      ·by_cases q123:c.toNat=123
       ·have p10:((c.toNat:Int)==10)=false:=by simp;omega
        have p9:((c.toNat:Int)==9)=false:=by simp;omega
        have p13:((c.toNat:Int)==13)=false:=by simp;omega
        have p92:((c.toNat:Int)==92)=false:=by simp;omega
        have p123:((c.toNat:Int)==123)=true:=by simp;omega
        have hr:=hid (show St.encB fmt c=[92,c] by unfold St.encB;simp[f1,f2,q10,q9,q13,q92,q123]);clear q10 q9 q13 q92 q123;go_enter Tryz.func110,Tryz.ntmps110;go_wp2;go_ret;refine⟨ret_ba ?_,(by apply_rules[uUe,uUa,uUb,uUc,uUd])⟩;rw[hr.out];try (apply ByteArray.ext;simp)
       ·have p10:((c.toNat:Int)==10)=false:=by simp;omega
        have p9:((c.toNat:Int)==9)=false:=by simp;omega
        have p13:((c.toNat:Int)==13)=false:=by simp;omega
        have p92:((c.toNat:Int)==92)=false:=by simp;omega
        have p123:((c.toNat:Int)==123)=false:=by simp;omega
        have hr:=hid (show St.encB fmt c=[c] by unfold St.encB;simp[f1,f2,q10,q9,q13,q92,q123]);clear q10 q9 q13 q92 q123;go_enter Tryz.func110,Tryz.ntmps110;go_wp2;go_ret;refine⟨ret_ba ?_,(by apply_rules[uUe,uUa,uUb,uUc,uUd])⟩;rw[hr.out];try (apply ByteArray.ext;simp)
  ·have z2:(fmt==2)=false:=by simpa using f2
   by_cases q34:c.toNat=34
   ·have p34:((c.toNat:Int)==34)=true:=by simp;omega
    have hr:=hid (show St.encB fmt c=[c,c] by unfold St.encB;simp[f1,f2,q34]);clear q34;go_enter Tryz.func110,Tryz.ntmps110;go_wp2;go_ret;refine⟨ret_ba ?_,(by apply_rules[uUe,uUa,uUb,uUc,uUd])⟩;rw[hr.out];try (apply ByteArray.ext;simp)
   ·by_cases q123:c.toNat=123
    ·have p34:((c.toNat:Int)==34)=false:=by simp;omega
     have p123:((c.toNat:Int)==123)=true:=by simp;omega
     have hr:=hid (show St.encB fmt c=[c,c] by unfold St.encB;simp[f1,f2,q34,q123]);clear q34 q123;go_enter Tryz.func110,Tryz.ntmps110;go_wp2;go_ret;refine⟨ret_ba ?_,(by apply_rules[uUe,uUa,uUb,uUc,uUd])⟩;rw[hr.out];try (apply ByteArray.ext;simp)
    ·have p34:((c.toNat:Int)==34)=false:=by simp;omega
     have p123:((c.toNat:Int)==123)=false:=by simp;omega
     have hr:=hid (show St.encB fmt c=[c] by unfold St.encB;simp[f1,f2,q34,q123]);clear q34 q123;go_enter Tryz.func110,Tryz.ntmps110;go_wp2;go_ret;refine⟨ret_ba ?_,(by apply_rules[uUe,uUa,uUb,uUc,uUd])⟩;rw[hr.out];try (apply ByteArray.ext;simp)
theorem fl_snoc(fmt:Int)(f:List St.It)(k:Nat)(h:k<f.length):(f.take (k+1)).flatMap (St.encI fmt)=(f.take k).flatMap (St.encI fmt)++St.encI fmt f[k]:=by
 rw[List.take_add_one,List.getElem?_eq_getElem h,List.flatMap_append];simp
theorem any_snoc(p:St.It->Bool)(f:List St.It)(k:Nat)(h:k<f.length)(h1:(f.take k).any p=false)(h2:p f[k]=false):(f.take (k+1)).any p=false:=by
 rw[List.take_add_one,List.getElem?_eq_getElem h,List.any_append,h1];simp[h2]
theorem any_found(p:St.It->Bool)(f:List St.It)(k:Nat)(h:k<f.length)(h2:p f[k]=true):f.any p=true:=List.any_eq_true.2 ⟨f[k],List.getElem_mem h,h2⟩
theorem enc_sz(fmt:Int)(t:List UInt8):(t.flatMap (St.encB fmt)).length<=5*t.length:=by
 induction t with
 | nil=>simp
 | cons c t ih=>rw[List.flatMap_cons,List.length_append,List.length_cons];have:=(St.encB_len fmt c).2;omega
def EnRel(w:World)(fmt:Int)(f:List St.It)(n:Nat)(s7 s18:Value)(wr:World):Prop:=
 ∃ (k:Nat) (u:ByteArray),k<=n/\s18=.int .i64 k/\s7=.string u/\u.data.toList=(f.take k).flatMap (St.encI fmt)/\u.size<=5*tot (f.take k)+5*k/\(f.take k).any (St.badTag fmt)=false/\Und w wr
def EjRel(w:World)(fmt:Int)(l tx:List UInt8)(B:Nat)(s7 s10:Value)(wr:World):Prop:=
 ∃ (j:Nat) (u:ByteArray),j<=tx.length/\s10=.int .i64 j/\s7=.string u/\u.data.toList=l++(tx.take j).flatMap (St.encB fmt)/\u.size<=B+5*j/\Und w wr
theorem rencode_any(fmt:Int)(A:Option Addr)(n c:Nat)(f:List St.It)(w:World)(hn:f.length=n)(hnc:n<=c)(hc63:c<=9223372036854775807)(hA:A=none->c=0)(h:ItemsAt w A f)(hl:n<=1000000000)(ht:tot f<=1000000000000) :
  Calls Tryz.prog 67 #[.int .i64 fmt,.slice A n c] w fun e w'=>e=.returned (.tuple #[.string ⟨(St.encS fmt f).1.toArray⟩,.int .i64 (St.encS fmt f).2])/\Und w w':=by
 have H:=hid h;have HN:=hid hn;have HT:=hid ht;have hv:=hid (rvalid_any A n c f w hn hnc hc63 hA h (by omega) (by omega));clear h hn
 by_cases hvz:St.validL f=0
 rotate_left 1
 ·have hr:=hid (show St.encS fmt f=([],St.validL f) by unfold St.encS;rw[if_pos hvz])
  have z:(St.validL f==0)=false:=by simpa using hvz
  have z2:(St.validL f != 0)=true:=by simpa using hvz
  generalize St.validL f=ev at *;clear hvz;go_enter Tryz.func67,Tryz.ntmps67;go_wp2_with fail;refine hv.out.mono ?_;rintro e w' ⟨rfl,hu⟩;have HU:=hid hu;clear hu;go_wp2;go_ret2;exact⟨by rw[hr.out];rfl,HU.out⟩
 ·have hok:=fun (h:f.any (St.badTag fmt)=false)=>show St.encS fmt f=(f.flatMap (St.encI fmt),0) by unfold St.encS;rw[if_neg (by simp[hvz]),h];rfl
  have hbad:=fun (h:f.any (St.badTag fmt)=true)=>show St.encS fmt f=([],7) by unfold St.encS;rw[if_neg (by simp[hvz]),h];rfl
  rw[hvz] at hv;have HOK:=hid hok;have HBAD:=hid hbad;clear hok hbad hvz ht;go_enter Tryz.func67,Tryz.ntmps67;go_wp2_with fail;refine hv.out.mono ?_;rintro e w' ⟨rfl,hu⟩;have HU0:=hid hu;clear hu;go_wp2_with fail;go_loopw [7,18] (fun s7 s18 wr=>EnRel w fmt f n s7 s18 wr) (fun _ s18 _=>n+1-(intOf s18).toNat)
  case atStart=>exact⟨0,⟨#[]⟩,by omega,rfl,rfl,rfl,by show 0<=_;omega,rfl,HU0.out⟩
  case round=>
   obtain⟨k,u,hk,rfl,rfl,hul,hus,hany,hu⟩:=hrel;have HU:=hid hu;have HUL:=hid hul;have HAN:=hid hany;clear hu hul hany HU0;have hN:=HN.out;have hT:=HT.out;have hb2:=tot_le f k
   by_cases hlt:k<n
   ·have hlt2:k<f.length:=by omega
    obtain⟨b,off,rfl,hb,hc⟩:=(H.out.und HU.out) (by omega);obtain⟨c0,c1,c2⟩:=hc k hlt2;have hfl:=fl_snoc fmt f k hlt2;have hb3:=tot_le f (k+1);have htk:=tot_take f k hlt2;have han2:=any_snoc (St.badTag fmt) f k hlt2 HAN.out;have hfd:=any_found (St.badTag fmt) f k hlt2;generalize f[k]=x at c0 c1 c2 hfl htk han2 hfd;obtain⟨kd,tx,id⟩:=x;simp only at c0 c1 c2 htk;haveI:LtW b wr:=LtW.of hb;have hxz:(⟨tx.toArray⟩:ByteArray).size=tx.length:=by show tx.toArray.size=_;simp
    have step:∀ (v:ByteArray) (W:World),v.data.toList=u.data.toList++St.encI fmt (kd,tx,id)->v.size<=u.size+5*tx.length+5->St.badTag fmt (kd,tx,id)=false->Und wr W->EnRel w fmt f n (.string v) (.int .i64 ((k:Int)+1)) W:=fun v W h1 h2 h3 hW=>
     ⟨k+1,v,by omega,congrArg (Value.int .i64) (by omega),rfl,by rw[h1,HUL.out,hfl],by rw[htk];omega,han2 h3,HU.out.trans hW⟩
    have STEP:=hid step;have HFD:=hid hfd;have HTK:=hid htk;have hus2:u.size<=6000000000000:=by omega
    have htx2:tx.length<=1000000000000:=by omega
    clear step hfd hfl han2 hc hlt2;go_wp2_with fail;refine(istag_any kd ⟨tx.toArray⟩ id _).mono ?_;rintro e w3 ⟨rfl,hu3⟩;have hu3':Und wr w3:=Und.trans ((by apply_rules[uUe,uUa,uUb,uUc,uUd])) hu3;have d0:w3.cell? ⟨wr.heap.size,0,none⟩=some (.int .i64 kd):=(hu3.cell (p:=⟨wr.heap.size,0,none⟩) (by simp)).trans (by simp);have d1:w3.cell? ⟨wr.heap.size,1,none⟩=some (.string ⟨tx.toArray⟩):=(hu3.cell (p:=⟨wr.heap.size,1,none⟩) (by simp)).trans (by simp);have d2:w3.cell? ⟨wr.heap.size,2,none⟩=some (.int .i64 id):=(hu3.cell (p:=⟨wr.heap.size,2,none⟩) (by simp)).trans (by simp);haveI:LtW wr.heap.size w3:=LtW.of (zbL _ _ d0);have HU3:=hid hu3';clear hu3 hu3' c0 c1 c2;cases htg:St.isTagK kd
    ·have hnb:=hid (show St.badTag fmt (kd,tx,id)=false by unfold St.badTag;simp only[htg];rfl)
     by_cases k1:kd=1
     ·subst k1
      have hb0:u.size<=u.size:=Nat.le_refl _;clear htg;obtain⟨wo,rfl⟩:∃ wo:World,wo=wr:=⟨_,rfl⟩;go_wp2_with fail;go_loopw [7,10] (fun s7 s10 wr=>EjRel w3 fmt u.data.toList tx u.size s7 s10 wr) (fun _ s10 _=>tx.length+1-(intOf s10).toNat)
      case atStart=>exact⟨0,u,by omega,rfl,rfl,by simp,by omega,Und.refl _⟩
      case round=>
       obtain⟨j,v,hj,rfl,rfl,hvl,hvs,hu4⟩:=hrel;have e0:=(hu4.cell (p:=⟨wo.heap.size,0,none⟩) (LtW.lt inferInstance)).trans d0;have e1:=(hu4.cell (p:=⟨wo.heap.size,1,none⟩) (LtW.lt inferInstance)).trans d1;haveI:LtW wo.heap.size wr:=LtW.of (zbL _ _ e0);have HU4:=hid hu4;have HVL:=hid hvl;clear hu4 hvl
       by_cases hjl:j<tx.length
       ·have z1:(j:Int)<(tx.length:Int):=by omega
        have hjs:j<(⟨tx.toArray⟩:ByteArray).size:=by omega
        have hbx:(⟨tx.toArray⟩:ByteArray)[j]=tx[j]:=by show tx.toArray[j]=_;simp
        have hsn:(tx.take (j+1)).flatMap (St.encB fmt)=(tx.take j).flatMap (St.encB fmt)++St.encB fmt tx[j]:=by rw[List.take_add_one,List.getElem?_eq_getElem hjl,List.flatMap_append];simp
        generalize tx[j]=cj at hbx hsn;have hbo:=hid (fun W=>byteOf_any fmt cj W);have hes:=(St.encB_len fmt cj).2;generalize St.encB fmt cj=eb at hbo hsn hes;have hez:(⟨eb.toArray⟩:ByteArray).size=eb.length:=by show eb.toArray.size=_;simp
        have HSN:=hid hsn;have y1:¬ 9223372036854775807<v.size+(⟨eb.toArray⟩:ByteArray).size:=by rw[hez];omega
        have y2:¬ 9223372036854775807<v.size+eb.length:=by omega
        have hbi:(((⟨tx.toArray⟩:ByteArray)[j].toNat:Nat):Int)=(cj.toNat:Int):=by rw[hbx]
        clear hsn hbx;go_wp2_with fail
        try rw[hbi]
        refine(hbo.out _).mono ?_;rintro e w5 ⟨rfl,hu5⟩;have HU5:=hid (HU4.out.trans hu5);clear hu5 hbi hbo;go_wp2;refine⟨⟨j+1,_,by omega,congrArg (Value.int .i64) (by omega),rfl,?_,?_,HU5.out⟩,by simp[intOf];omega⟩
        ·rw[HSN.out,<- List.append_assoc,<- HVL.out];simp
        ·rw[ByteArray.size_append,hez];omega
       ·obtain rfl:j=tx.length:=by omega
        have z1:¬ (tx.length:Int)<(tx.length:Int):=by omega
        have hfin:=hid (STEP.out v wr (by rw[HVL.out,List.take_length];unfold St.encI;simp) (by omega) hnb.out (HU3.out.trans HU4.out));clear hjl;go_wp2;exact⟨hfin.out,by simp[intOf];omega⟩
     ·have q1:(kd==1)=false:=by simpa using k1
      have hk2:kd ≠ 2/\kd ≠ 3/\kd ≠ 4:=by unfold St.isTagK at htg;have:=of_decide_eq_false htg;omega
      have q2:(kd==2)=false:=by simpa using hk2.1
      have q3:(kd==3)=false:=by simpa using hk2.2.1
      have q4:(kd==4)=false:=by simpa using hk2.2.2
      by_cases k5:kd=5
      ·subst k5
       have y1:¬ 9223372036854775807<1+tx.length:=by omega
       have y2:¬ 9223372036854775807<1+tx.length+1:=by omega
       have y3:¬ 9223372036854775807<u.size+(1+tx.length+1):=by omega
       have hfin:=fun W hW=>STEP.out (u++((⟨#[123]⟩:ByteArray)++(⟨tx.toArray⟩:ByteArray)++(⟨#[125]⟩:ByteArray))) W (by unfold St.encI;simp) (by simp only[ByteArray.size_append,hxz];show _+(1+_+1)<=_;omega) hnb.out hW
       have HFIN:=hid hfin;clear hfin htg hk2 k1;go_wp2;exact⟨HFIN.out _ (HU3.out.trans (by apply_rules[uUe,uUa,uUb,uUc,uUd])),by simp[intOf];omega⟩
      ·have q5:(kd==5)=false:=by simpa using k5
       have hfin:=fun W hW=>STEP.out u W (by unfold St.encI;simp only[if_neg k1,if_neg hk2.1,if_neg hk2.2.1,if_neg hk2.2.2,if_neg k5,List.append_nil]) (by omega) hnb.out hW
       have HFIN:=hid hfin;clear hfin htg hk2 k1 k5;go_wp2;exact⟨HFIN.out _ (HU3.out.trans (by apply_rules[uUe,uUa,uUb,uUc,uUd])),by simp[intOf];omega⟩
    ·by_cases f1:fmt=1
     ·subst f1
      have hnmu:=hid (fun W=>rname_u tx W (by omega));have hblk:=hid (fun W=>block_any ⟨(St.nameOf tx).toArray⟩ W);have hbt:St.badTag 1 (kd,tx,id)=St.blockL (St.nameOf tx):=by unfold St.badTag;simp[htg]
      cases hbk:St.blockL (St.nameOf tx)
      ·have HB:Hid (∀ W,Calls Tryz.prog 109 #[.string ⟨(St.nameOf tx).toArray⟩] W fun e w'=>e=.returned (.bool false)/\W=w'):=hid (fun W=>by have:=hblk.out W;simp only[hbk] at this;exact this)
       have hnb:=hid (hbt.trans hbk);rcases(show kd=2∨kd=3∨kd=4 by unfold St.isTagK at htg;exact of_decide_eq_true htg) with h|h|h
       ·subst h
        clear htg hbt hbk hblk;have y1:¬ 9223372036854775807<1+tx.length:=by omega
        have y2:¬ 9223372036854775807<1+tx.length+1:=by omega
        have y3:¬ 9223372036854775807<u.size+(1+tx.length+1):=by omega
        have hfin:=fun W hW=>STEP.out (u++((⟨#[60]⟩:ByteArray)++(⟨tx.toArray⟩:ByteArray)++(⟨#[62]⟩:ByteArray))) W (by unfold St.encI;simp) (by simp only[ByteArray.size_append,hxz];show _+(1+_+1)<=_;omega) hnb.out hW
        have HFIN:=hid hfin;clear hfin;go_wp2_with fail;refine(hnmu.out _).mono ?_;rintro e w4 ⟨rfl,hu4⟩;have HU4:=hid (HU3.out.trans hu4);have e0:=(hu4.cell (p:=⟨wr.heap.size,0,none⟩) (LtW.lt inferInstance)).trans d0;have e1:=(hu4.cell (p:=⟨wr.heap.size,1,none⟩) (LtW.lt inferInstance)).trans d1;haveI:LtW wr.heap.size w4:=LtW.of (zbL _ _ e0);clear hu4;go_wp2_with fail;refine(HB.out _).mono ?_;rintro e w5 ⟨rfl,rfl⟩;go_wp2;exact⟨HFIN.out _ HU4.out,by simp[intOf];omega⟩
       ·subst h
        clear htg hbt hbk hblk;have y1:¬ 9223372036854775807<2+tx.length:=by omega
        have y2:¬ 9223372036854775807<2+tx.length+1:=by omega
        have y3:¬ 9223372036854775807<u.size+(2+tx.length+1):=by omega
        have hfin:=fun W hW=>STEP.out (u++((⟨#[60,47]⟩:ByteArray)++(⟨tx.toArray⟩:ByteArray)++(⟨#[62]⟩:ByteArray))) W (by unfold St.encI;simp) (by simp only[ByteArray.size_append,hxz];show _+(2+_+1)<=_;omega) hnb.out hW
        have HFIN:=hid hfin;clear hfin;go_wp2_with fail;refine(hnmu.out _).mono ?_;rintro e w4 ⟨rfl,hu4⟩;have HU4:=hid (HU3.out.trans hu4);have e0:=(hu4.cell (p:=⟨wr.heap.size,0,none⟩) (LtW.lt inferInstance)).trans d0;have e1:=(hu4.cell (p:=⟨wr.heap.size,1,none⟩) (LtW.lt inferInstance)).trans d1;haveI:LtW wr.heap.size w4:=LtW.of (zbL _ _ e0);clear hu4;go_wp2_with fail;refine(HB.out _).mono ?_;rintro e w5 ⟨rfl,rfl⟩;go_wp2;exact⟨HFIN.out _ HU4.out,by simp[intOf];omega⟩
       ·subst h
        clear htg hbt hbk hblk;have y1:¬ 9223372036854775807<1+tx.length:=by omega
        have y2:¬ 9223372036854775807<1+tx.length+2:=by omega
        have y3:¬ 9223372036854775807<u.size+(1+tx.length+2):=by omega
        have hfin:=fun W hW=>STEP.out (u++((⟨#[60]⟩:ByteArray)++(⟨tx.toArray⟩:ByteArray)++(⟨#[47,62]⟩:ByteArray))) W (by unfold St.encI;simp) (by simp only[ByteArray.size_append,hxz];show _+(1+_+2)<=_;omega) hnb.out hW
        have HFIN:=hid hfin;clear hfin;go_wp2_with fail;refine(hnmu.out _).mono ?_;rintro e w4 ⟨rfl,hu4⟩;have HU4:=hid (HU3.out.trans hu4);have e0:=(hu4.cell (p:=⟨wr.heap.size,0,none⟩) (LtW.lt inferInstance)).trans d0;have e1:=(hu4.cell (p:=⟨wr.heap.size,1,none⟩) (LtW.lt inferInstance)).trans d1;haveI:LtW wr.heap.size w4:=LtW.of (zbL _ _ e0);clear hu4;go_wp2_with fail;refine(HB.out _).mono ?_;rintro e w5 ⟨rfl,rfl⟩;go_wp2;exact⟨HFIN.out _ HU4.out,by simp[intOf];omega⟩
      ·have HB:Hid (∀ W,Calls Tryz.prog 109 #[.string ⟨(St.nameOf tx).toArray⟩] W fun e w'=>e=.returned (.bool true)/\W=w'):=hid (fun W=>by have:=hblk.out W;simp only[hbk] at this;exact this)
       have hr:=hid (HBAD.out (HFD.out (hbt.trans hbk)));clear htg hbt hbk hblk;go_wp2_with fail;refine(hnmu.out _).mono ?_;rintro e w4 ⟨rfl,hu4⟩;have HU4:=hid (HU3.out.trans hu4);clear hu4;go_wp2_with fail;refine(HB.out _).mono ?_;rintro e w5 ⟨rfl,rfl⟩;go_wp2;go_ret2;exact⟨by rw[hr.out];rfl,HU.out.trans HU4.out⟩
     ·have z1:(fmt==1)=false:=by simpa using f1
      have z2:(fmt != 1)=true:=by simpa using f1
      have hr:=hid (HBAD.out (HFD.out (by unfold St.badTag;simp[htg,f1])));clear htg;go_wp2;go_ret2;exact⟨by rw[hr.out];rfl,HU.out.trans HU3.out⟩
   ·have hkn:k=n:=by omega
    subst hkn;have hfk:f.take f.length=f:=List.take_length;rw[show k=f.length by omega,hfk] at HUL HAN;have hr:=hid (HOK.out HAN.out);have hue:u=⟨(f.flatMap (St.encI fmt)).toArray⟩:=by rw[<- HUL.out,ba_eta]
    have HUE:=hid hue;clear hlt hfk hue;go_wp2;go_ret2;refine⟨?_,HU.out⟩;rw[hr.out,HUE.out];rfl
end Go.Proofs.YthoemdibbldndaaGreatDoor
