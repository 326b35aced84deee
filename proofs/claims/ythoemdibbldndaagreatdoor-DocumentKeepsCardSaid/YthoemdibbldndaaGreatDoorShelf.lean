/- The library contracts of the guide's shelf that this claim uses, at this translation. -/
import Derived.Shelf.Strings.Trim
import Derived.Shelf.Small.Utf8
import Derived.Shelf.Small.Strs
import Derived.Shelf.Strconv.Itoa0
import Derived.Shelf.Strconv.Itoa1
import Derived.Shelf.LaysM
import Derived.Shelf.Strconv.Itoa2
import Derived.Shelf.Strconv.Itoa3
import Derived.Shelf.Strings.Search1
import Derived.Shelf.Strings.Search2
import Derived.Shelf.Strings.Search3
import Derived.Shelf.Strings.Cut
import Derived.Shelf.Strings.Count
import Derived.Shelf.Strings.Shaped
import Derived.Shelf.Strings.Runes
import Derived.Shelf.Strings.AsciiSet
import Derived.Shelf.Unicode.DecodeSlow
import Derived.Test.YthoemdibbldndaaGreatDoorProg
set_option linter.all false
open Go.Value renaming int->Yh,string->Yi
open Option renaming some->Yr
namespace Go.Proofs
open Go.Shelf
def Tryz.Eu:Go.Shelf.Ren:=⟨fun|161=>119|231=>156|227=>157|233=>158|235=>159|228=>187|197=>188|151=>189|260=>208|152=>209|137=>163|119=>226|224=>195|225=>194|217=>191|266=>210|n=>n,fun|9=>9|4=>4|3=>3|5=>5|117=>208|116=>207|0=>0|124=>211|105=>242|21=>21|119=>235|46=>246|139=>286|138=>285|n=>n,fun|3=>1|4=>2|n=>n⟩
theorem Tryz.OR:Go.Proofs.Lays.n161 Tryz.prog Tryz.Eu:={
 mixed:=by kernel_rfl
 f119:=Tryz.func226.trans (congrArg Yr (by kernel_rfl))
 f137:=Tryz.func163.trans (congrArg Yr (by kernel_rfl))
 f151:=Tryz.func189.trans (congrArg Yr (by kernel_rfl))
 f152:=Tryz.func209.trans (congrArg Yr (by kernel_rfl))
 f161:=Tryz.func119.trans (congrArg Yr (by kernel_rfl))
 f197:=Tryz.func188.trans (congrArg Yr (by kernel_rfl))
 f217:=Tryz.func191.trans (congrArg Yr (by kernel_rfl))
 f224:=Tryz.func195.trans (congrArg Yr (by kernel_rfl))
 f225:=Tryz.func194.trans (congrArg Yr (by kernel_rfl))
 f227:=Tryz.func157.trans (congrArg Yr (by kernel_rfl))
 f228:=Tryz.func187.trans (congrArg Yr (by kernel_rfl))
 f231:=Tryz.func156.trans (congrArg Yr (by kernel_rfl))
 f233:=Tryz.func158.trans (congrArg Yr (by kernel_rfl))
 f235:=Tryz.func159.trans (congrArg Yr (by kernel_rfl))
 f260:=Tryz.func208.trans (congrArg Yr (by kernel_rfl))
 f266:=Tryz.func210.trans (congrArg Yr (by kernel_rfl))
 t0:=Tryz.underlying0
 a0:=Tryz.isAgg0
 z0:=Tryz.sizeOf0
 v0:=Tryz.zeroValue0
 t3:=Tryz.underlying3
 a3:=Tryz.isAgg3
 z3:=Tryz.sizeOf3
 v3:=Tryz.zeroValue3
 t4:=Tryz.underlying4
 a4:=Tryz.isAgg4
 z4:=Tryz.sizeOf4
 v4:=Tryz.zeroValue4
 t5:=Tryz.underlying5
 a5:=Tryz.isAgg5
 z5:=Tryz.sizeOf5
 v5:=Tryz.zeroValue5
 t9:=Tryz.underlying9
 a9:=Tryz.isAgg9
 z9:=Tryz.sizeOf9
 v9:=Tryz.zeroValue9
 t21:=Tryz.underlying21
 a21:=Tryz.isAgg21
 z21:=Tryz.sizeOf21
 v21:=Tryz.zeroValue21
 t46:=Tryz.underlying246
 a46:=Tryz.isAgg246
 z46:=Tryz.sizeOf246
 v46:=Tryz.zeroValue246
 t105:=Tryz.underlying242
 a105:=Tryz.isAgg242
 z105:=Tryz.sizeOf242
 v105:=Tryz.zeroValue242
 t116:=Tryz.underlying207
 a116:=Tryz.isAgg207
 z116:=Tryz.sizeOf207
 t117:=Tryz.underlying208
 a117:=Tryz.isAgg208
 z117:=Tryz.sizeOf208
 v117:=Tryz.zeroValue208
 t119:=Tryz.underlying235
 a119:=Tryz.isAgg235
 z119:=Tryz.sizeOf235
 t124:=Tryz.underlying211
 a124:=Tryz.isAgg211
 z124:=Tryz.sizeOf211
 v124:=Tryz.zeroValue211
 t138:=Tryz.underlying285
 a138:=Tryz.isAgg285
 z138:=Tryz.sizeOf285
 v138:=Tryz.zeroValue285
 t139:=Tryz.underlying286
 a139:=Tryz.isAgg286
 z139:=Tryz.sizeOf286
 v139:=Tryz.zeroValue286
 g3:=by kernel_rfl
 g4:=by kernel_rfl }
def Tryz.Ep:Go.Shelf.Ren:=⟨fun|137=>163|217=>191|266=>210|n=>n,fun|9=>9|5=>5|3=>3|n=>n,fun|n=>n⟩
theorem Tryz.OO:Go.Proofs.Lays.n137 Tryz.prog Tryz.Ep:={
 mixed:=by kernel_rfl
 f137:=Tryz.func163.trans (congrArg Yr (by kernel_rfl))
 f217:=Tryz.func191.trans (congrArg Yr (by kernel_rfl))
 f266:=Tryz.func210.trans (congrArg Yr (by kernel_rfl))
 t3:=Tryz.underlying3
 a3:=Tryz.isAgg3
 z3:=Tryz.sizeOf3
 v3:=Tryz.zeroValue3
 t5:=Tryz.underlying5
 a5:=Tryz.isAgg5
 z5:=Tryz.sizeOf5
 v5:=Tryz.zeroValue5
 t9:=Tryz.underlying9
 a9:=Tryz.isAgg9
 z9:=Tryz.sizeOf9
 v9:=Tryz.zeroValue9 }
open Go.RowKit in
theorem Tryz.strings_IndexByte(s:ByteArray)(c:Int)(w:World) :
  Calls Tryz.prog 163 #[Yi s,Yh .u8 c] w λe w'=>e=.returned (Yh .i64 (Lib.indexByte s.1.1 c.toNat.toUInt8))/\w'=w:=Any.strings_IndexByte Tryz.OO s c w
def Tryz.De:Go.Shelf.Ren:=⟨fun|171=>124|243=>168|246=>197|283=>213|284=>214|285=>215|286=>216|129=>228|317=>227|318=>229|319=>230|320=>231|337=>239|338=>240|n=>n,fun|3=>3|9=>9|2=>2|4=>4|171=>269|0=>0|53=>270|37=>22|5=>5|173=>273|212=>289|51=>146|20=>20|213=>290|46=>246|232=>296|233=>297|n=>n,fun|17=>3|18=>4|19=>5|n=>n⟩
theorem Tryz.Dd:Go.Proofs.LaysM.n171 Tryz.prog Tryz.De:={
 mixed:=by kernel_rfl
 f129:=Tryz.func228.trans (congrArg Yr (by kernel_rfl))
 f171:=Tryz.func124.trans (congrArg Yr (by kernel_rfl))
 f243:=Tryz.func168.trans (congrArg Yr (by kernel_rfl))
 f246:=Tryz.func197.trans (congrArg Yr (by kernel_rfl))
 f283:=Tryz.func213.trans (congrArg Yr (by kernel_rfl))
 f284:=Tryz.func214.trans (congrArg Yr (by kernel_rfl))
 f285:=Tryz.func215.trans (congrArg Yr (by kernel_rfl))
 f286:=Tryz.func216.trans (congrArg Yr (by kernel_rfl))
 f317:=Tryz.func227.trans (congrArg Yr (by kernel_rfl))
 f318:=Tryz.func229.trans (congrArg Yr (by kernel_rfl))
 f319:=Tryz.func230.trans (congrArg Yr (by kernel_rfl))
 f320:=Tryz.func231.trans (congrArg Yr (by kernel_rfl))
 f337:=Tryz.func239.trans (congrArg Yr (by kernel_rfl))
 f338:=Tryz.func240.trans (congrArg Yr (by kernel_rfl))
 t0:=Tryz.underlying0
 a0:=Tryz.isAgg0
 z0:=Tryz.sizeOf0
 v0:=Tryz.zeroValue0
 t2:=Tryz.underlying2
 a2:=Tryz.isAgg2
 z2:=Tryz.sizeOf2
 v2:=Tryz.zeroValue2
 t3:=Tryz.underlying3
 a3:=Tryz.isAgg3
 z3:=Tryz.sizeOf3
 v3:=Tryz.zeroValue3
 t4:=Tryz.underlying4
 a4:=Tryz.isAgg4
 z4:=Tryz.sizeOf4
 v4:=Tryz.zeroValue4
 t5:=Tryz.underlying5
 a5:=Tryz.isAgg5
 z5:=Tryz.sizeOf5
 v5:=Tryz.zeroValue5
 t9:=Tryz.underlying9
 a9:=Tryz.isAgg9
 z9:=Tryz.sizeOf9
 v9:=Tryz.zeroValue9
 t20:=Tryz.underlying20
 a20:=Tryz.isAgg20
 z20:=Tryz.sizeOf20
 v20:=Tryz.zeroValue20
 t37:=Tryz.underlying22
 a37:=Tryz.isAgg22
 z37:=Tryz.sizeOf22
 v37:=Tryz.zeroValue22
 t46:=Tryz.underlying246
 a46:=Tryz.isAgg246
 z46:=Tryz.sizeOf246
 v46:=Tryz.zeroValue246
 t51:=Tryz.underlying146
 a51:=Tryz.isAgg146
 z51:=Tryz.sizeOf146
 v51:=Tryz.zeroValue146
 t53:=Tryz.underlying270
 a53:=Tryz.isAgg270
 z53:=Tryz.sizeOf270
 v53:=Tryz.zeroValue270
 t171:=Tryz.underlying269
 a171:=Tryz.isAgg269
 z171:=Tryz.sizeOf269
 v171:=Tryz.zeroValue269
 t173:=Tryz.underlying273
 a173:=Tryz.isAgg273
 z173:=Tryz.sizeOf273
 v173:=Tryz.zeroValue273
 t212:=Tryz.underlying289
 a212:=Tryz.isAgg289
 z212:=Tryz.sizeOf289
 v212:=Tryz.zeroValue289
 t213:=Tryz.underlying290
 a213:=Tryz.isAgg290
 z213:=Tryz.sizeOf290
 t232:=Tryz.underlying296
 a232:=Tryz.isAgg296
 z232:=Tryz.sizeOf296
 v232:=Tryz.zeroValue296
 t233:=Tryz.underlying297
 a233:=Tryz.isAgg297
 z233:=Tryz.sizeOf297
 v233:=Tryz.zeroValue297
 g17:=by kernel_rfl
 g18:=by kernel_rfl
 g19:=by kernel_rfl
 i0:=by kernel_rfl
 i2:=by kernel_rfl
 i3:=by kernel_rfl
 i4:=by kernel_rfl
 i5:=by kernel_rfl
 i9:=by kernel_rfl
 i20:=by kernel_rfl
 i37:=by kernel_rfl
 i46:=by kernel_rfl
 i51:=by kernel_rfl
 i53:=by kernel_rfl
 i171:=by kernel_rfl
 i173:=by kernel_rfl
 i212:=by kernel_rfl
 i232:=by kernel_rfl
 i233:=by kernel_rfl
 m17:=by kernel_rfl
 m18:=by kernel_rfl
 m19:=by kernel_rfl }
def Tryz.Ev:Go.Shelf.Ren:=⟨fun|219=>167|217=>191|225=>194|224=>195|267=>196|266=>210|314=>212|n=>n,fun|9=>9|3=>3|4=>4|5=>5|46=>246|146=>267|51=>146|n=>n,fun|1=>0|n=>n⟩
theorem Tryz.OS:Go.Proofs.Lays.n219 Tryz.prog Tryz.Ev:={
 mixed:=by kernel_rfl
 f217:=Tryz.func191.trans (congrArg Yr (by kernel_rfl))
 f219:=Tryz.func167.trans (congrArg Yr (by kernel_rfl))
 f224:=Tryz.func195.trans (congrArg Yr (by kernel_rfl))
 f225:=Tryz.func194.trans (congrArg Yr (by kernel_rfl))
 f266:=Tryz.func210.trans (congrArg Yr (by kernel_rfl))
 f267:=Tryz.func196.trans (congrArg Yr (by kernel_rfl))
 f314:=Tryz.func212.trans (congrArg Yr (by kernel_rfl))
 t3:=Tryz.underlying3
 a3:=Tryz.isAgg3
 z3:=Tryz.sizeOf3
 v3:=Tryz.zeroValue3
 t4:=Tryz.underlying4
 a4:=Tryz.isAgg4
 z4:=Tryz.sizeOf4
 v4:=Tryz.zeroValue4
 t5:=Tryz.underlying5
 a5:=Tryz.isAgg5
 z5:=Tryz.sizeOf5
 v5:=Tryz.zeroValue5
 t9:=Tryz.underlying9
 a9:=Tryz.isAgg9
 z9:=Tryz.sizeOf9
 v9:=Tryz.zeroValue9
 t46:=Tryz.underlying246
 a46:=Tryz.isAgg246
 z46:=Tryz.sizeOf246
 v46:=Tryz.zeroValue246
 t51:=Tryz.underlying146
 a51:=Tryz.isAgg146
 z51:=Tryz.sizeOf146
 v51:=Tryz.zeroValue146
 t146:=Tryz.underlying267
 a146:=Tryz.isAgg267
 z146:=Tryz.sizeOf267
 v146:=Tryz.zeroValue267
 g1:=by kernel_rfl }
open Go.RowKit Go.Lib in
theorem Tryz.stringslite_Index_one(s:ByteArray)(c:UInt8)(w:World) :
  Calls Tryz.prog 167 #[Yi s,Yi ⟨#[c]⟩] w λe w'=>e=.returned (Yh .i64 (Lib.indexByte s.1.1 c))/\w'=w:=Any.stringslite_Index_one Tryz.OS s c w
def Tryz.Es:Go.Shelf.Ren:=⟨fun|143=>123|219=>167|217=>191|225=>194|224=>195|267=>196|266=>210|314=>212|n=>n,fun|9=>9|3=>3|4=>4|5=>5|46=>246|146=>267|51=>146|n=>n,fun|1=>0|n=>n⟩
theorem Tryz.OQ:Go.Proofs.Lays.n143 Tryz.prog Tryz.Es:={
 mixed:=by kernel_rfl
 f143:=Tryz.func123.trans (congrArg Yr (by kernel_rfl))
 f217:=Tryz.func191.trans (congrArg Yr (by kernel_rfl))
 f219:=Tryz.func167.trans (congrArg Yr (by kernel_rfl))
 f224:=Tryz.func195.trans (congrArg Yr (by kernel_rfl))
 f225:=Tryz.func194.trans (congrArg Yr (by kernel_rfl))
 f266:=Tryz.func210.trans (congrArg Yr (by kernel_rfl))
 f267:=Tryz.func196.trans (congrArg Yr (by kernel_rfl))
 f314:=Tryz.func212.trans (congrArg Yr (by kernel_rfl))
 t3:=Tryz.underlying3
 a3:=Tryz.isAgg3
 z3:=Tryz.sizeOf3
 v3:=Tryz.zeroValue3
 t4:=Tryz.underlying4
 a4:=Tryz.isAgg4
 z4:=Tryz.sizeOf4
 v4:=Tryz.zeroValue4
 t5:=Tryz.underlying5
 a5:=Tryz.isAgg5
 z5:=Tryz.sizeOf5
 v5:=Tryz.zeroValue5
 t9:=Tryz.underlying9
 a9:=Tryz.isAgg9
 z9:=Tryz.sizeOf9
 v9:=Tryz.zeroValue9
 t46:=Tryz.underlying246
 a46:=Tryz.isAgg246
 z46:=Tryz.sizeOf246
 v46:=Tryz.zeroValue246
 t51:=Tryz.underlying146
 a51:=Tryz.isAgg146
 z51:=Tryz.sizeOf146
 v51:=Tryz.zeroValue146
 t146:=Tryz.underlying267
 a146:=Tryz.isAgg267
 z146:=Tryz.sizeOf267
 v146:=Tryz.zeroValue267
 g1:=by kernel_rfl }
open Go.RowKit Go.Lib in
theorem Tryz.strings_Index(s sub:ByteArray)(m:Int)(w:World)(hs:s.size<4294967281)(hm:w.cell? ⟨0,0,none⟩=Yr (Yh .i64 m)) :
  Calls Tryz.prog 123 #[Yi s,Yi sub] w λe w'=>e=.returned (Yh .i64 (Lib.index s.1.1 sub.1.1))/\w'=w:=Any.strings_Index Tryz.OQ s sub m w hs hm
def Tryz.Er:Go.Shelf.Ren:=⟨fun|138=>271|195=>272|218=>273|143=>123|219=>167|217=>191|225=>194|224=>195|267=>196|266=>210|314=>212|n=>n,fun|9=>9|3=>3|4=>4|5=>5|0=>0|46=>246|146=>267|51=>146|n=>n,fun|1=>0|n=>n⟩
theorem Tryz.OP:Go.Proofs.Lays.n138 Tryz.prog Tryz.Er:={
 mixed:=by kernel_rfl
 f138:=Tryz.func271.trans (congrArg Yr (by kernel_rfl))
 f143:=Tryz.func123.trans (congrArg Yr (by kernel_rfl))
 f195:=Tryz.func272.trans (congrArg Yr (by kernel_rfl))
 f217:=Tryz.func191.trans (congrArg Yr (by kernel_rfl))
 f218:=Tryz.func273.trans (congrArg Yr (by kernel_rfl))
 f219:=Tryz.func167.trans (congrArg Yr (by kernel_rfl))
 f224:=Tryz.func195.trans (congrArg Yr (by kernel_rfl))
 f225:=Tryz.func194.trans (congrArg Yr (by kernel_rfl))
 f266:=Tryz.func210.trans (congrArg Yr (by kernel_rfl))
 f267:=Tryz.func196.trans (congrArg Yr (by kernel_rfl))
 f314:=Tryz.func212.trans (congrArg Yr (by kernel_rfl))
 t0:=Tryz.underlying0
 a0:=Tryz.isAgg0
 z0:=Tryz.sizeOf0
 v0:=Tryz.zeroValue0
 t3:=Tryz.underlying3
 a3:=Tryz.isAgg3
 z3:=Tryz.sizeOf3
 v3:=Tryz.zeroValue3
 t4:=Tryz.underlying4
 a4:=Tryz.isAgg4
 z4:=Tryz.sizeOf4
 v4:=Tryz.zeroValue4
 t5:=Tryz.underlying5
 a5:=Tryz.isAgg5
 z5:=Tryz.sizeOf5
 v5:=Tryz.zeroValue5
 t9:=Tryz.underlying9
 a9:=Tryz.isAgg9
 z9:=Tryz.sizeOf9
 v9:=Tryz.zeroValue9
 t46:=Tryz.underlying246
 a46:=Tryz.isAgg246
 z46:=Tryz.sizeOf246
 v46:=Tryz.zeroValue246
 t51:=Tryz.underlying146
 a51:=Tryz.isAgg146
 z51:=Tryz.sizeOf146
 v51:=Tryz.zeroValue146
 t146:=Tryz.underlying267
 a146:=Tryz.isAgg267
 z146:=Tryz.sizeOf267
 v146:=Tryz.zeroValue267
 g1:=by kernel_rfl }
open Go.RowKit Go.Lib in
theorem Tryz.strings_Count_one(s:ByteArray)(c:UInt8)(w:World) :
  Calls Tryz.prog 271 #[Yi s,Yi ⟨#[c]⟩] w λe w'=>e=.returned (Yh .i64 (Lib.countByte s.1.1 c))/\w'=w:=Any.strings_Count_one Tryz.OP s c w
end Go.Proofs
