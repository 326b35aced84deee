/- The library contracts of the guide's shelf that this claim uses, at this translation. -/
import Derived.Shelf.Small.Utf8
import Derived.Shelf.Small.Bits
import Derived.Shelf.Small.Strs
import Derived.Shelf.Strconv.Itoa0
import Derived.Shelf.Strconv.Itoa1
import Derived.Shelf.LaysM
import Derived.Shelf.Strconv.Itoa2
import Derived.Shelf.Strconv.Itoa3
import Derived.Shelf.Strings.Search1
import Derived.Shelf.Strings.Search2
import Derived.Shelf.Strings.Search3
import Derived.Shelf.Strings.Cut
import Derived.Shelf.Strings.Count
import Derived.Shelf.Strings.Shaped
import Derived.Shelf.Strings.Runes
import Derived.Shelf.Strings.AsciiSet
import Derived.Shelf.Unicode.DecodeSlow
import Derived.Test.YtcfhfdphoidaeaaGreatDoorProg
set_option linter.unusedVariables false
set_option linter.unusedSimpArgs false
namespace Go.Proofs
open Go.Shelf
def Tryz.lays137_ren:Go.Shelf.Ren:=⟨fun|137=>182|217=>224|266=>254|n=>n,fun|9=>9|5=>5|3=>3|n=>n,fun|n=>n⟩
theorem Tryz.lays137:Go.Proofs.Lays.n137 Tryz.prog Tryz.lays137_ren:={
 mixed:=by kernel_rfl
 f137:=Tryz.func182.trans (congrArg some (by kernel_rfl))
 f217:=Tryz.func224.trans (congrArg some (by kernel_rfl))
 f266:=Tryz.func254.trans (congrArg some (by kernel_rfl))
 t3:=Tryz.underlying3
 a3:=Tryz.isAgg3
 z3:=Tryz.sizeOf3
 v3:=Tryz.zeroValue3
 t5:=Tryz.underlying5
 a5:=Tryz.isAgg5
 z5:=Tryz.sizeOf5
 v5:=Tryz.zeroValue5
 t9:=Tryz.underlying9
 a9:=Tryz.isAgg9
 z9:=Tryz.sizeOf9
 v9:=Tryz.zeroValue9 }
open Go.RowKit in
theorem Tryz.strings_IndexByte(s:ByteArray)(c:Int)(w:World) :
  Calls Tryz.prog 182 #[.string s,.int .u8 c] w fun e w'=>e=.returned (.int .i64 (Lib.indexByte s.data.toList c.toNat.toUInt8))/\w'=w:=Any.strings_IndexByte Tryz.lays137 s c w
def Tryz.laysM171_ren:Go.Shelf.Ren:=⟨fun|171=>161|243=>211|246=>239|283=>266|284=>267|285=>268|286=>269|129=>151|317=>283|318=>284|319=>285|320=>286|337=>296|338=>297|n=>n,fun|3=>3|9=>9|2=>2|4=>4|171=>363|0=>0|53=>232|37=>137|5=>5|173=>365|212=>389|51=>230|20=>20|213=>390|46=>185|232=>120|233=>420|n=>n,fun|17=>1|18=>4|19=>5|n=>n⟩
theorem Tryz.laysM171:Go.Proofs.LaysM.n171 Tryz.prog Tryz.laysM171_ren:={
 mixed:=by kernel_rfl
 f129:=Tryz.func151.trans (congrArg some (by kernel_rfl))
 f171:=Tryz.func161.trans (congrArg some (by kernel_rfl))
 f243:=Tryz.func211.trans (congrArg some (by kernel_rfl))
 f246:=Tryz.func239.trans (congrArg some (by kernel_rfl))
 f283:=Tryz.func266.trans (congrArg some (by kernel_rfl))
 f284:=Tryz.func267.trans (congrArg some (by kernel_rfl))
 f285:=Tryz.func268.trans (congrArg some (by kernel_rfl))
 f286:=Tryz.func269.trans (congrArg some (by kernel_rfl))
 f317:=Tryz.func283.trans (congrArg some (by kernel_rfl))
 f318:=Tryz.func284.trans (congrArg some (by kernel_rfl))
 f319:=Tryz.func285.trans (congrArg some (by kernel_rfl))
 f320:=Tryz.func286.trans (congrArg some (by kernel_rfl))
 f337:=Tryz.func296.trans (congrArg some (by kernel_rfl))
 f338:=Tryz.func297.trans (congrArg some (by kernel_rfl))
 t0:=Tryz.underlying0
 a0:=Tryz.isAgg0
 z0:=Tryz.sizeOf0
 v0:=Tryz.zeroValue0
 t2:=Tryz.underlying2
 a2:=Tryz.isAgg2
 z2:=Tryz.sizeOf2
 v2:=Tryz.zeroValue2
 t3:=Tryz.underlying3
 a3:=Tryz.isAgg3
 z3:=Tryz.sizeOf3
 v3:=Tryz.zeroValue3
 t4:=Tryz.underlying4
 a4:=Tryz.isAgg4
 z4:=Tryz.sizeOf4
 v4:=Tryz.zeroValue4
 t5:=Tryz.underlying5
 a5:=Tryz.isAgg5
 z5:=Tryz.sizeOf5
 v5:=Tryz.zeroValue5
 t9:=Tryz.underlying9
 a9:=Tryz.isAgg9
 z9:=Tryz.sizeOf9
 v9:=Tryz.zeroValue9
 t20:=Tryz.underlying20
 a20:=Tryz.isAgg20
 z20:=Tryz.sizeOf20
 v20:=Tryz.zeroValue20
 t37:=Tryz.underlying137
 a37:=Tryz.isAgg137
 z37:=Tryz.sizeOf137
 v37:=Tryz.zeroValue137
 t46:=Tryz.underlying185
 a46:=Tryz.isAgg185
 z46:=Tryz.sizeOf185
 v46:=Tryz.zeroValue185
 t51:=Tryz.underlying230
 a51:=Tryz.isAgg230
 z51:=Tryz.sizeOf230
 v51:=Tryz.zeroValue230
 t53:=Tryz.underlying232
 a53:=Tryz.isAgg232
 z53:=Tryz.sizeOf232
 v53:=Tryz.zeroValue232
 t171:=Tryz.underlying363
 a171:=Tryz.isAgg363
 z171:=Tryz.sizeOf363
 v171:=Tryz.zeroValue363
 t173:=Tryz.underlying365
 a173:=Tryz.isAgg365
 z173:=Tryz.sizeOf365
 v173:=Tryz.zeroValue365
 t212:=Tryz.underlying389
 a212:=Tryz.isAgg389
 z212:=Tryz.sizeOf389
 v212:=Tryz.zeroValue389
 t213:=Tryz.underlying390
 a213:=Tryz.isAgg390
 z213:=Tryz.sizeOf390
 t232:=Tryz.underlying120
 a232:=Tryz.isAgg120
 z232:=Tryz.sizeOf120
 v232:=Tryz.zeroValue120
 t233:=Tryz.underlying420
 a233:=Tryz.isAgg420
 z233:=Tryz.sizeOf420
 v233:=Tryz.zeroValue420
 g17:=by kernel_rfl
 g18:=by kernel_rfl
 g19:=by kernel_rfl
 i0:=by kernel_rfl
 i2:=by kernel_rfl
 i3:=by kernel_rfl
 i4:=by kernel_rfl
 i5:=by kernel_rfl
 i9:=by kernel_rfl
 i20:=by kernel_rfl
 i37:=by kernel_rfl
 i46:=by kernel_rfl
 i51:=by kernel_rfl
 i53:=by kernel_rfl
 i171:=by kernel_rfl
 i173:=by kernel_rfl
 i212:=by kernel_rfl
 i232:=by kernel_rfl
 i233:=by kernel_rfl
 m17:=by kernel_rfl
 m18:=by kernel_rfl
 m19:=by kernel_rfl }
def Tryz.lays171_ren:Go.Shelf.Ren:=⟨fun|171=>161|243=>211|246=>239|283=>266|284=>267|285=>268|286=>269|129=>151|317=>283|318=>284|319=>285|320=>286|337=>296|338=>297|n=>n,fun|3=>3|9=>9|2=>2|4=>4|171=>363|0=>0|53=>232|37=>137|5=>5|173=>365|212=>389|51=>230|20=>20|213=>390|46=>185|232=>120|233=>420|n=>n,fun|17=>1|18=>4|19=>5|n=>n⟩
theorem Tryz.lays171:Go.Proofs.Lays.n171 Tryz.prog Tryz.lays171_ren:={
 mixed:=by kernel_rfl
 f129:=Tryz.func151.trans (congrArg some (by kernel_rfl))
 f171:=Tryz.func161.trans (congrArg some (by kernel_rfl))
 f243:=Tryz.func211.trans (congrArg some (by kernel_rfl))
 f246:=Tryz.func239.trans (congrArg some (by kernel_rfl))
 f283:=Tryz.func266.trans (congrArg some (by kernel_rfl))
 f284:=Tryz.func267.trans (congrArg some (by kernel_rfl))
 f285:=Tryz.func268.trans (congrArg some (by kernel_rfl))
 f286:=Tryz.func269.trans (congrArg some (by kernel_rfl))
 f317:=Tryz.func283.trans (congrArg some (by kernel_rfl))
 f318:=Tryz.func284.trans (congrArg some (by kernel_rfl))
 f319:=Tryz.func285.trans (congrArg some (by kernel_rfl))
 f320:=Tryz.func286.trans (congrArg some (by kernel_rfl))
 f337:=Tryz.func296.trans (congrArg some (by kernel_rfl))
 f338:=Tryz.func297.trans (congrArg some (by kernel_rfl))
 t0:=Tryz.underlying0
 a0:=Tryz.isAgg0
 z0:=Tryz.sizeOf0
 v0:=Tryz.zeroValue0
 t2:=Tryz.underlying2
 a2:=Tryz.isAgg2
 z2:=Tryz.sizeOf2
 v2:=Tryz.zeroValue2
 t3:=Tryz.underlying3
 a3:=Tryz.isAgg3
 z3:=Tryz.sizeOf3
 v3:=Tryz.zeroValue3
 t4:=Tryz.underlying4
 a4:=Tryz.isAgg4
 z4:=Tryz.sizeOf4
 v4:=Tryz.zeroValue4
 t5:=Tryz.underlying5
 a5:=Tryz.isAgg5
 z5:=Tryz.sizeOf5
 v5:=Tryz.zeroValue5
 t9:=Tryz.underlying9
 a9:=Tryz.isAgg9
 z9:=Tryz.sizeOf9
 v9:=Tryz.zeroValue9
 t20:=Tryz.underlying20
 a20:=Tryz.isAgg20
 z20:=Tryz.sizeOf20
 v20:=Tryz.zeroValue20
 t37:=Tryz.underlying137
 a37:=Tryz.isAgg137
 z37:=Tryz.sizeOf137
 v37:=Tryz.zeroValue137
 t46:=Tryz.underlying185
 a46:=Tryz.isAgg185
 z46:=Tryz.sizeOf185
 v46:=Tryz.zeroValue185
 t51:=Tryz.underlying230
 a51:=Tryz.isAgg230
 z51:=Tryz.sizeOf230
 v51:=Tryz.zeroValue230
 t53:=Tryz.underlying232
 a53:=Tryz.isAgg232
 z53:=Tryz.sizeOf232
 v53:=Tryz.zeroValue232
 t171:=Tryz.underlying363
 a171:=Tryz.isAgg363
 z171:=Tryz.sizeOf363
 v171:=Tryz.zeroValue363
 t173:=Tryz.underlying365
 a173:=Tryz.isAgg365
 z173:=Tryz.sizeOf365
 v173:=Tryz.zeroValue365
 t212:=Tryz.underlying389
 a212:=Tryz.isAgg389
 z212:=Tryz.sizeOf389
 v212:=Tryz.zeroValue389
 t213:=Tryz.underlying390
 a213:=Tryz.isAgg390
 z213:=Tryz.sizeOf390
 t232:=Tryz.underlying120
 a232:=Tryz.isAgg120
 z232:=Tryz.sizeOf120
 v232:=Tryz.zeroValue120
 t233:=Tryz.underlying420
 a233:=Tryz.isAgg420
 z233:=Tryz.sizeOf420
 v233:=Tryz.zeroValue420
 g17:=by kernel_rfl
 g18:=by kernel_rfl
 g19:=by kernel_rfl }
open Go.RowKit Go.Sort Go.Lib in
theorem Tryz.strconv_Itoa_small(i:Nat)(hi:i<100)(w:World) :
  Calls Tryz.prog 161 #[.int .i64 i] w fun e w'=>e=.returned (.string ⟨(Lib.decDigits i).toArray⟩)/\w'=w:=Any.strconv_Itoa_small Tryz.lays171 i hi w
def Tryz.lays219_ren:Go.Shelf.Ren:=⟨fun|219=>210|217=>224|225=>236|224=>237|267=>238|266=>254|314=>265|n=>n,fun|9=>9|3=>3|4=>4|5=>5|46=>185|146=>361|51=>230|n=>n,fun|1=>0|n=>n⟩
theorem Tryz.lays219:Go.Proofs.Lays.n219 Tryz.prog Tryz.lays219_ren:={
 mixed:=by kernel_rfl
 f217:=Tryz.func224.trans (congrArg some (by kernel_rfl))
 f219:=Tryz.func210.trans (congrArg some (by kernel_rfl))
 f224:=Tryz.func237.trans (congrArg some (by kernel_rfl))
 f225:=Tryz.func236.trans (congrArg some (by kernel_rfl))
 f266:=Tryz.func254.trans (congrArg some (by kernel_rfl))
 f267:=Tryz.func238.trans (congrArg some (by kernel_rfl))
 f314:=Tryz.func265.trans (congrArg some (by kernel_rfl))
 t3:=Tryz.underlying3
 a3:=Tryz.isAgg3
 z3:=Tryz.sizeOf3
 v3:=Tryz.zeroValue3
 t4:=Tryz.underlying4
 a4:=Tryz.isAgg4
 z4:=Tryz.sizeOf4
 v4:=Tryz.zeroValue4
 t5:=Tryz.underlying5
 a5:=Tryz.isAgg5
 z5:=Tryz.sizeOf5
 v5:=Tryz.zeroValue5
 t9:=Tryz.underlying9
 a9:=Tryz.isAgg9
 z9:=Tryz.sizeOf9
 v9:=Tryz.zeroValue9
 t46:=Tryz.underlying185
 a46:=Tryz.isAgg185
 z46:=Tryz.sizeOf185
 v46:=Tryz.zeroValue185
 t51:=Tryz.underlying230
 a51:=Tryz.isAgg230
 z51:=Tryz.sizeOf230
 v51:=Tryz.zeroValue230
 t146:=Tryz.underlying361
 a146:=Tryz.isAgg361
 z146:=Tryz.sizeOf361
 v146:=Tryz.zeroValue361
 g1:=by kernel_rfl }
open Go.RowKit Go.Lib in
theorem Tryz.stringslite_Index_one(s:ByteArray)(c:UInt8)(w:World) :
  Calls Tryz.prog 210 #[.string s,.string ⟨#[c]⟩] w fun e w'=>e=.returned (.int .i64 (Lib.indexByte s.data.toList c))/\w'=w:=Any.stringslite_Index_one Tryz.lays219 s c w
def Tryz.lays143_ren:Go.Shelf.Ren:=⟨fun|143=>159|219=>210|217=>224|225=>236|224=>237|267=>238|266=>254|314=>265|n=>n,fun|9=>9|3=>3|4=>4|5=>5|46=>185|146=>361|51=>230|n=>n,fun|1=>0|n=>n⟩
theorem Tryz.lays143:Go.Proofs.Lays.n143 Tryz.prog Tryz.lays143_ren:={
 mixed:=by kernel_rfl
 f143:=Tryz.func159.trans (congrArg some (by kernel_rfl))
 f217:=Tryz.func224.trans (congrArg some (by kernel_rfl))
 f219:=Tryz.func210.trans (congrArg some (by kernel_rfl))
 f224:=Tryz.func237.trans (congrArg some (by kernel_rfl))
 f225:=Tryz.func236.trans (congrArg some (by kernel_rfl))
 f266:=Tryz.func254.trans (congrArg some (by kernel_rfl))
 f267:=Tryz.func238.trans (congrArg some (by kernel_rfl))
 f314:=Tryz.func265.trans (congrArg some (by kernel_rfl))
 t3:=Tryz.underlying3
 a3:=Tryz.isAgg3
 z3:=Tryz.sizeOf3
 v3:=Tryz.zeroValue3
 t4:=Tryz.underlying4
 a4:=Tryz.isAgg4
 z4:=Tryz.sizeOf4
 v4:=Tryz.zeroValue4
 t5:=Tryz.underlying5
 a5:=Tryz.isAgg5
 z5:=Tryz.sizeOf5
 v5:=Tryz.zeroValue5
 t9:=Tryz.underlying9
 a9:=Tryz.isAgg9
 z9:=Tryz.sizeOf9
 v9:=Tryz.zeroValue9
 t46:=Tryz.underlying185
 a46:=Tryz.isAgg185
 z46:=Tryz.sizeOf185
 v46:=Tryz.zeroValue185
 t51:=Tryz.underlying230
 a51:=Tryz.isAgg230
 z51:=Tryz.sizeOf230
 v51:=Tryz.zeroValue230
 t146:=Tryz.underlying361
 a146:=Tryz.isAgg361
 z146:=Tryz.sizeOf361
 v146:=Tryz.zeroValue361
 g1:=by kernel_rfl }
open Go.RowKit Go.Lib in
theorem Tryz.strings_Index(s sub:ByteArray)(m:Int)(w:World)(hs:s.size<4294967281)(hm:w.cell? ⟨0,0,none⟩=some (.int .i64 m)) :
  Calls Tryz.prog 159 #[.string s,.string sub] w fun e w'=>e=.returned (.int .i64 (Lib.index s.data.toList sub.data.toList))/\w'=w:=Any.strings_Index Tryz.lays143 s sub m w hs hm
def Tryz.lays138_ren:Go.Shelf.Ren:=⟨fun|138=>347|195=>348|218=>349|143=>159|219=>210|217=>224|225=>236|224=>237|267=>238|266=>254|314=>265|n=>n,fun|9=>9|3=>3|4=>4|5=>5|0=>0|46=>185|146=>361|51=>230|n=>n,fun|1=>0|n=>n⟩
theorem Tryz.lays138:Go.Proofs.Lays.n138 Tryz.prog Tryz.lays138_ren:={
 mixed:=by kernel_rfl
 f138:=Tryz.func347.trans (congrArg some (by kernel_rfl))
 f143:=Tryz.func159.trans (congrArg some (by kernel_rfl))
 f195:=Tryz.func348.trans (congrArg some (by kernel_rfl))
 f217:=Tryz.func224.trans (congrArg some (by kernel_rfl))
 f218:=Tryz.func349.trans (congrArg some (by kernel_rfl))
 f219:=Tryz.func210.trans (congrArg some (by kernel_rfl))
 f224:=Tryz.func237.trans (congrArg some (by kernel_rfl))
 f225:=Tryz.func236.trans (congrArg some (by kernel_rfl))
 f266:=Tryz.func254.trans (congrArg some (by kernel_rfl))
 f267:=Tryz.func238.trans (congrArg some (by kernel_rfl))
 f314:=Tryz.func265.trans (congrArg some (by kernel_rfl))
 t0:=Tryz.underlying0
 a0:=Tryz.isAgg0
 z0:=Tryz.sizeOf0
 v0:=Tryz.zeroValue0
 t3:=Tryz.underlying3
 a3:=Tryz.isAgg3
 z3:=Tryz.sizeOf3
 v3:=Tryz.zeroValue3
 t4:=Tryz.underlying4
 a4:=Tryz.isAgg4
 z4:=Tryz.sizeOf4
 v4:=Tryz.zeroValue4
 t5:=Tryz.underlying5
 a5:=Tryz.isAgg5
 z5:=Tryz.sizeOf5
 v5:=Tryz.zeroValue5
 t9:=Tryz.underlying9
 a9:=Tryz.isAgg9
 z9:=Tryz.sizeOf9
 v9:=Tryz.zeroValue9
 t46:=Tryz.underlying185
 a46:=Tryz.isAgg185
 z46:=Tryz.sizeOf185
 v46:=Tryz.zeroValue185
 t51:=Tryz.underlying230
 a51:=Tryz.isAgg230
 z51:=Tryz.sizeOf230
 v51:=Tryz.zeroValue230
 t146:=Tryz.underlying361
 a146:=Tryz.isAgg361
 z146:=Tryz.sizeOf361
 v146:=Tryz.zeroValue361
 g1:=by kernel_rfl }
open Go.RowKit Go.Lib in
theorem Tryz.strings_Count_one(s:ByteArray)(c:UInt8)(w:World) :
  Calls Tryz.prog 347 #[.string s,.string ⟨#[c]⟩] w fun e w'=>e=.returned (.int .i64 (Lib.countByte s.data.toList c))/\w'=w:=Any.strings_Count_one Tryz.lays138 s c w
end Go.Proofs
