/- What the seat's proofs lean on, part 0: the executor over abstract values, its soundness, and what the program's functions answer (Shelf24, SeatG, Eng0, Eng1, Eng2, Eng3, Eng4, Eng5, Eng6, Eng7a). -/
import Derived.Shelf.Strings.Builder1
import Derived.Shelf.Strings.Builder2
import Derived.Shelf.Strings.OnBuilder
import Derived.Shelf.Small.Bits
import Derived.Shelf.Strings.BuilderF
import Derived.Shelf.Strings.BuilderK
import Derived.Shelf.Utf8.RuneCount
import Derived.Shelf.Strings.Builder2Cap
import Derived.Shelf.Strconv.Atoi
import Derived.Shelf.Strconv.Itoa0
import Derived.Shelf.Strconv.Itoa1
import Derived.Shelf.LaysM
import Derived.Shelf.Strconv.Itoa2
import Derived.Shelf.Strconv.Itoa3
import Derived.Shelf.Strconv.AtoiErrFast
import Derived.Shelf.Strconv.ParseIntEmpty
import Derived.Shelf.Strconv.AtoiFail
import Derived.Shelf.Strconv.Clone
import Derived.Shelf.Strconv.SyntaxError
import Derived.Shelf.LaysC
import Derived.Shelf.Strconv.ToError
import Derived.Shelf.Strconv.Lower
import Derived.Shelf.Strconv.ParseUint10
import Derived.Shelf.Strconv.ParseUint10Empty
import Derived.Shelf.Strconv.ParseUint10Any
import Derived.Shelf.Strconv.ParseInt10
import Derived.Shelf.Strconv.AtoiLong
import Derived.Shelf.Strconv.AtoiInnerAll
import Derived.Shelf.Strconv.RangeError
import Derived.Shelf.Strconv.ToErrorRange
import Derived.Shelf.Strconv.AtoiAll
import Derived.Shelf.Strconv.ErrVarAll
import Derived.Shelf.Strings.Search1
import Derived.Shelf.Strings.Search2
import Derived.Shelf.Strings.Search3
import Derived.Shelf.Strings.Cut
import Derived.Shelf.Strings.Count
import Derived.Shelf.Strings.Shaped
import Derived.Shelf.Strings.Prefix
import Derived.Shelf.Strings.Split
import Derived.Shelf.Strings.Fields
import Derived.Shelf.Strings.SplitShaped
import Derived.Shelf.Unicode.Latin
import Derived.Shelf.Unicode.Decode
import Derived.Shelf.Strings.RuneCount
import Derived.Shelf.Strings.Explode
import Derived.Shelf.Unicode.DecodeSlow
import Derived.Shelf.Unicode.DecodeAny
import Derived.Shelf.Unicode.Is16White
import Derived.Shelf.Unicode.IsSpaceAny
import Derived.Shelf.Unicode.Is16WhiteD
import Derived.Shelf.Unicode.IsSpaceAnyD
import Derived.Shelf.Strings.FieldsAny
import Derived.Shelf.Strings.FieldsFuncAny
import Derived.Shelf.Unicode.Is16Any
import Derived.Shelf.Unicode.Is32Any
import Derived.Shelf.Unicode.ExclAny
import Derived.Shelf.Strings.BuilderCap
import Derived.Shelf.Slices.Turned
import Derived.Shelf.Slices.Reverse
import Derived.Ground.Names2Prog
import Derived.Shelf.Slices.Clone
import Derived.Shelf.Slices.CompactI
import Derived.Shelf.Slices.SearchI
import Derived.Shelf.Slices.Cells
import Derived.Ground.SlgnProg
import Derived.Shelf.SlicesE.Clone
import Derived.Test.YthldlciagajfoaaGreatDoorProg
import Derived.Calls
import Derived.Lib.LaidTab
import Derived.Lib.ItoaNum
import Derived.Lib.Space
import Derived.CallsIn
import Derived.ControlIn
import Derived.RangeFuncIn
import Derived.RangeFuncRecord
import Derived.RangeFuncLeaves
import Derived.KernelRfl
import Derived.Laws.Sem
set_option linter.all false
set_option linter.unusedVariables false
set_option linter.unusedSimpArgs false
set_option maxRecDepth 100000
namespace Go.Proofs
open Go.Shelf
def Tryz.lays156_ren:Go.Shelf.Ren:=⟨fun|156=>46|165=>72|166=>59|169=>62|240=>90|241=>110|276=>118|277=>137|n=>n,fun|31=>58|9=>9|3=>3|4=>4|0=>0|20=>20|72=>126|76=>102|70=>124|37=>111|75=>101|127=>173|164=>211|5=>5|80=>131|n=>n,fun|n=>n⟩
theorem Tryz.lays156:Go.Proofs.Lays.n156 Tryz.prog Tryz.lays156_ren:={
 mixed:=by kernel_rfl
 f156:=Tryz.func46.trans (congrArg some (by kernel_rfl))
 f165:=Tryz.func72.trans (congrArg some (by kernel_rfl))
 f166:=Tryz.func59.trans (congrArg some (by kernel_rfl))
 f169:=Tryz.func62.trans (congrArg some (by kernel_rfl))
 f240:=Tryz.func90.trans (congrArg some (by kernel_rfl))
 f241:=Tryz.func110.trans (congrArg some (by kernel_rfl))
 f276:=Tryz.func118.trans (congrArg some (by kernel_rfl))
 f277:=Tryz.func137.trans (congrArg some (by kernel_rfl))
 t0:=Tryz.underlying0
 a0:=Tryz.isAgg0
 z0:=Tryz.sizeOf0
 v0:=Tryz.zeroValue0
 t3:=Tryz.underlying3
 a3:=Tryz.isAgg3
 z3:=Tryz.sizeOf3
 v3:=Tryz.zeroValue3
 t4:=Tryz.underlying4
 a4:=Tryz.isAgg4
 z4:=Tryz.sizeOf4
 v4:=Tryz.zeroValue4
 t9:=Tryz.underlying9
 a9:=Tryz.isAgg9
 z9:=Tryz.sizeOf9
 v9:=Tryz.zeroValue9
 t20:=Tryz.underlying20
 a20:=Tryz.isAgg20
 z20:=Tryz.sizeOf20
 v20:=Tryz.zeroValue20
 t31:=Tryz.underlying58
 a31:=Tryz.isAgg58
 z31:=Tryz.sizeOf58
 v31:=Tryz.zeroValue58
 t37:=Tryz.underlying111
 a37:=Tryz.isAgg111
 z37:=Tryz.sizeOf111
 v37:=Tryz.zeroValue111
 t70:=Tryz.underlying124
 a70:=Tryz.isAgg124
 z70:=Tryz.sizeOf124
 v70:=Tryz.zeroValue124
 t72:=Tryz.underlying126
 a72:=Tryz.isAgg126
 z72:=Tryz.sizeOf126
 v72:=Tryz.zeroValue126
 t75:=Tryz.underlying101
 a75:=Tryz.isAgg101
 z75:=Tryz.sizeOf101
 v75:=Tryz.zeroValue101
 t76:=Tryz.underlying102
 a76:=Tryz.isAgg102
 z76:=Tryz.sizeOf102
 v76:=Tryz.zeroValue102
 t127:=Tryz.underlying173
 a127:=Tryz.isAgg173
 z127:=Tryz.sizeOf173
 v127:=Tryz.zeroValue173
 t164:=Tryz.underlying211
 a164:=Tryz.isAgg211
 z164:=Tryz.sizeOf211
 v164:=Tryz.zeroValue211 }
theorem Tryz.Builder_Extra_156:Builder.Extra Tryz.prog Tryz.lays156_ren:={
 sizeBuilder:=by kernel_rfl
 liesBuilder:=by kernel_rfl
 t5:=Tryz.underlying5
 a5:=Tryz.isAgg5
 z5:=Tryz.sizeOf5
 v5:=Tryz.zeroValue5
 infoByte:=by kernel_rfl
 cellsByte:=by kernel_rfl
 sizeByte:=by kernel_rfl
 neB5:=by decide }
open Go.RowKit in
theorem Tryz.strings_Join_none (a:Option Addr) (c:Nat) (sep:ByteArray) (w:World):
  Calls Tryz.prog 46 #[.slice a 0 c,.string sep] w fun e w'=>e=.returned (.string ⟨#[]⟩)∧w'=w:=Any.strings_Join_none Tryz.lays156 Tryz.Builder_Extra_156 a c sep w
open Go.RowKit in
theorem Tryz.strings_Join (bk o c:Nat) (xs:List ByteArray) (sep:ByteArray) (w:World) (hcells: ∀(j:Nat) x,xs[j]? =some x→w.cell? ⟨bk,o+j,none⟩=some (.string x)) (hbk:bk<w.heap.size) (hN:xs.length≤140737488355328) (hcap:xs.length≤c) (hlen:(Lib.join (xs.map (·.data.toList)) sep.data.toList).length≤140737488355328):
  Calls Tryz.prog 46 #[.slice (some ⟨bk,o,none⟩) xs.length c,.string sep] w fun e w'=>e=.returned (.string ⟨(Lib.join (xs.map (·.data.toList)) sep.data.toList).toArray⟩)∧Below w.heap.size w w':=Any.strings_Join Tryz.lays156 Tryz.Builder_Extra_156 bk o c xs sep w hcells hbk hN hcap hlen
def Tryz.lays172_ren:Go.Shelf.Ren:=⟨fun|172=>42|244=>68|245=>69|247=>103|279=>104|280=>105|281=>106|282=>107|287=>128|316=>129|171=>45|205=>130|321=>196|322=>197|243=>71|246=>109|283=>133|284=>134|285=>135|286=>136|129=>200|317=>199|318=>201|319=>202|320=>203|337=>262|338=>263|n=>n,fun|9=>9|3=>3|75=>101|76=>102|4=>4|5=>5|167=>189|37=>111|0=>0|85=>190|2=>2|168=>192|53=>231|175=>232|46=>216|210=>236|127=>173|145=>288|143=>286|21=>21|171=>240|173=>243|212=>290|51=>186|20=>20|213=>291|232=>399|233=>400|80=>131|n=>n,fun|15=>3|16=>4|17=>7|18=>8|19=>9|n=>n⟩
def Tryz.laysM246_ren:Go.Shelf.Ren:=⟨fun|246=>109|283=>133|284=>134|285=>135|286=>136|129=>200|317=>199|318=>201|319=>202|320=>203|337=>262|338=>263|n=>n,fun|2=>2|3=>3|9=>9|4=>4|171=>240|0=>0|53=>231|37=>111|5=>5|173=>243|212=>290|51=>186|20=>20|213=>291|46=>216|232=>399|233=>400|n=>n,fun|17=>7|18=>8|19=>9|n=>n⟩
def Tryz.laysM243_ren:Go.Shelf.Ren:=⟨fun|243=>71|246=>109|283=>133|284=>134|285=>135|286=>136|129=>200|317=>199|318=>201|319=>202|320=>203|337=>262|338=>263|n=>n,fun|3=>3|9=>9|2=>2|4=>4|171=>240|0=>0|53=>231|37=>111|5=>5|173=>243|212=>290|51=>186|20=>20|213=>291|46=>216|232=>399|233=>400|n=>n,fun|17=>7|18=>8|19=>9|n=>n⟩
def Tryz.laysM171_ren:Go.Shelf.Ren:=⟨fun|171=>45|243=>71|246=>109|283=>133|284=>134|285=>135|286=>136|129=>200|317=>199|318=>201|319=>202|320=>203|337=>262|338=>263|n=>n,fun|3=>3|9=>9|2=>2|4=>4|171=>240|0=>0|53=>231|37=>111|5=>5|173=>243|212=>290|51=>186|20=>20|213=>291|46=>216|232=>399|233=>400|n=>n,fun|17=>7|18=>8|19=>9|n=>n⟩
theorem Tryz.laysM171:Go.Proofs.LaysM.n171 Tryz.prog Tryz.laysM171_ren:={
 mixed:=by kernel_rfl
 f129:=Tryz.func200.trans (congrArg some (by kernel_rfl))
 f171:=Tryz.func45.trans (congrArg some (by kernel_rfl))
 f243:=Tryz.func71.trans (congrArg some (by kernel_rfl))
 f246:=Tryz.func109.trans (congrArg some (by kernel_rfl))
 f283:=Tryz.func133.trans (congrArg some (by kernel_rfl))
 f284:=Tryz.func134.trans (congrArg some (by kernel_rfl))
 f285:=Tryz.func135.trans (congrArg some (by kernel_rfl))
 f286:=Tryz.func136.trans (congrArg some (by kernel_rfl))
 f317:=Tryz.func199.trans (congrArg some (by kernel_rfl))
 f318:=Tryz.func201.trans (congrArg some (by kernel_rfl))
 f319:=Tryz.func202.trans (congrArg some (by kernel_rfl))
 f320:=Tryz.func203.trans (congrArg some (by kernel_rfl))
 f337:=Tryz.func262.trans (congrArg some (by kernel_rfl))
 f338:=Tryz.func263.trans (congrArg some (by kernel_rfl))
 t0:=Tryz.underlying0
 a0:=Tryz.isAgg0
 z0:=Tryz.sizeOf0
 v0:=Tryz.zeroValue0
 t2:=Tryz.underlying2
 a2:=Tryz.isAgg2
 z2:=Tryz.sizeOf2
 v2:=Tryz.zeroValue2
 t3:=Tryz.underlying3
 a3:=Tryz.isAgg3
 z3:=Tryz.sizeOf3
 v3:=Tryz.zeroValue3
 t4:=Tryz.underlying4
 a4:=Tryz.isAgg4
 z4:=Tryz.sizeOf4
 v4:=Tryz.zeroValue4
 t5:=Tryz.underlying5
 a5:=Tryz.isAgg5
 z5:=Tryz.sizeOf5
 v5:=Tryz.zeroValue5
 t9:=Tryz.underlying9
 a9:=Tryz.isAgg9
 z9:=Tryz.sizeOf9
 v9:=Tryz.zeroValue9
 t20:=Tryz.underlying20
 a20:=Tryz.isAgg20
 z20:=Tryz.sizeOf20
 v20:=Tryz.zeroValue20
 t37:=Tryz.underlying111
 a37:=Tryz.isAgg111
 z37:=Tryz.sizeOf111
 v37:=Tryz.zeroValue111
 t46:=Tryz.underlying216
 a46:=Tryz.isAgg216
 z46:=Tryz.sizeOf216
 v46:=Tryz.zeroValue216
 t51:=Tryz.underlying186
 a51:=Tryz.isAgg186
 z51:=Tryz.sizeOf186
 v51:=Tryz.zeroValue186
 t53:=Tryz.underlying231
 a53:=Tryz.isAgg231
 z53:=Tryz.sizeOf231
 v53:=Tryz.zeroValue231
 t171:=Tryz.underlying240
 a171:=Tryz.isAgg240
 z171:=Tryz.sizeOf240
 v171:=Tryz.zeroValue240
 t173:=Tryz.underlying243
 a173:=Tryz.isAgg243
 z173:=Tryz.sizeOf243
 v173:=Tryz.zeroValue243
 t212:=Tryz.underlying290
 a212:=Tryz.isAgg290
 z212:=Tryz.sizeOf290
 v212:=Tryz.zeroValue290
 t213:=Tryz.underlying291
 a213:=Tryz.isAgg291
 z213:=Tryz.sizeOf291
 t232:=Tryz.underlying399
 a232:=Tryz.isAgg399
 z232:=Tryz.sizeOf399
 v232:=Tryz.zeroValue399
 t233:=Tryz.underlying400
 a233:=Tryz.isAgg400
 z233:=Tryz.sizeOf400
 v233:=Tryz.zeroValue400
 g17:=by kernel_rfl
 g18:=by kernel_rfl
 g19:=by kernel_rfl
 i0:=by kernel_rfl
 i2:=by kernel_rfl
 i3:=by kernel_rfl
 i4:=by kernel_rfl
 i5:=by kernel_rfl
 i9:=by kernel_rfl
 i20:=by kernel_rfl
 i37:=by kernel_rfl
 i46:=by kernel_rfl
 i51:=by kernel_rfl
 i53:=by kernel_rfl
 i171:=by kernel_rfl
 i173:=by kernel_rfl
 i212:=by kernel_rfl
 i232:=by kernel_rfl
 i233:=by kernel_rfl
 m17:=by kernel_rfl
 m18:=by kernel_rfl
 m19:=by kernel_rfl }
open Go.RowKit Go.Sort Go.Lib in
theorem Tryz.strconv_Itoa (n:Int) (h0: -9223372036854775808≤n) (h1:n≤9223372036854775807) (w:World) (htab:Lib.TabIs Tryz.prog w "internal/strconv.uint64pow10" .u64 Lib.pow10Tab):
  Calls Tryz.prog 45 #[.int .i64 n] w fun e w'=>e=.returned (.string ⟨(Lib.itoa n).toArray⟩)∧ ∃k os,w'=grow (w.drewN k) os:=Any.strconv_Itoa Tryz.laysM171 n h0 h1 w htab
def Tryz.lays171_ren:Go.Shelf.Ren:=⟨fun|171=>45|243=>71|246=>109|283=>133|284=>134|285=>135|286=>136|129=>200|317=>199|318=>201|319=>202|320=>203|337=>262|338=>263|n=>n,fun|3=>3|9=>9|2=>2|4=>4|171=>240|0=>0|53=>231|37=>111|5=>5|173=>243|212=>290|51=>186|20=>20|213=>291|46=>216|232=>399|233=>400|n=>n,fun|17=>7|18=>8|19=>9|n=>n⟩
theorem Tryz.lays171:Go.Proofs.Lays.n171 Tryz.prog Tryz.lays171_ren:={
 mixed:=by kernel_rfl
 f129:=Tryz.func200.trans (congrArg some (by kernel_rfl))
 f171:=Tryz.func45.trans (congrArg some (by kernel_rfl))
 f243:=Tryz.func71.trans (congrArg some (by kernel_rfl))
 f246:=Tryz.func109.trans (congrArg some (by kernel_rfl))
 f283:=Tryz.func133.trans (congrArg some (by kernel_rfl))
 f284:=Tryz.func134.trans (congrArg some (by kernel_rfl))
 f285:=Tryz.func135.trans (congrArg some (by kernel_rfl))
 f286:=Tryz.func136.trans (congrArg some (by kernel_rfl))
 f317:=Tryz.func199.trans (congrArg some (by kernel_rfl))
 f318:=Tryz.func201.trans (congrArg some (by kernel_rfl))
 f319:=Tryz.func202.trans (congrArg some (by kernel_rfl))
 f320:=Tryz.func203.trans (congrArg some (by kernel_rfl))
 f337:=Tryz.func262.trans (congrArg some (by kernel_rfl))
 f338:=Tryz.func263.trans (congrArg some (by kernel_rfl))
 t0:=Tryz.underlying0
 a0:=Tryz.isAgg0
 z0:=Tryz.sizeOf0
 v0:=Tryz.zeroValue0
 t2:=Tryz.underlying2
 a2:=Tryz.isAgg2
 z2:=Tryz.sizeOf2
 v2:=Tryz.zeroValue2
 t3:=Tryz.underlying3
 a3:=Tryz.isAgg3
 z3:=Tryz.sizeOf3
 v3:=Tryz.zeroValue3
 t4:=Tryz.underlying4
 a4:=Tryz.isAgg4
 z4:=Tryz.sizeOf4
 v4:=Tryz.zeroValue4
 t5:=Tryz.underlying5
 a5:=Tryz.isAgg5
 z5:=Tryz.sizeOf5
 v5:=Tryz.zeroValue5
 t9:=Tryz.underlying9
 a9:=Tryz.isAgg9
 z9:=Tryz.sizeOf9
 v9:=Tryz.zeroValue9
 t20:=Tryz.underlying20
 a20:=Tryz.isAgg20
 z20:=Tryz.sizeOf20
 v20:=Tryz.zeroValue20
 t37:=Tryz.underlying111
 a37:=Tryz.isAgg111
 z37:=Tryz.sizeOf111
 v37:=Tryz.zeroValue111
 t46:=Tryz.underlying216
 a46:=Tryz.isAgg216
 z46:=Tryz.sizeOf216
 v46:=Tryz.zeroValue216
 t51:=Tryz.underlying186
 a51:=Tryz.isAgg186
 z51:=Tryz.sizeOf186
 v51:=Tryz.zeroValue186
 t53:=Tryz.underlying231
 a53:=Tryz.isAgg231
 z53:=Tryz.sizeOf231
 v53:=Tryz.zeroValue231
 t171:=Tryz.underlying240
 a171:=Tryz.isAgg240
 z171:=Tryz.sizeOf240
 v171:=Tryz.zeroValue240
 t173:=Tryz.underlying243
 a173:=Tryz.isAgg243
 z173:=Tryz.sizeOf243
 v173:=Tryz.zeroValue243
 t212:=Tryz.underlying290
 a212:=Tryz.isAgg290
 z212:=Tryz.sizeOf290
 v212:=Tryz.zeroValue290
 t213:=Tryz.underlying291
 a213:=Tryz.isAgg291
 z213:=Tryz.sizeOf291
 t232:=Tryz.underlying399
 a232:=Tryz.isAgg399
 z232:=Tryz.sizeOf399
 v232:=Tryz.zeroValue399
 t233:=Tryz.underlying400
 a233:=Tryz.isAgg400
 z233:=Tryz.sizeOf400
 v233:=Tryz.zeroValue400
 g17:=by kernel_rfl
 g18:=by kernel_rfl
 g19:=by kernel_rfl }
open Go.RowKit Go.Sort Go.Lib in
theorem Tryz.strconv_Itoa_small (i:Nat) (hi:i<100) (w:World):
  Calls Tryz.prog 45 #[.int .i64 i] w fun e w'=>e=.returned (.string ⟨(Lib.decDigits i).toArray⟩)∧w'=w:=Any.strconv_Itoa_small Tryz.lays171 i hi w
def Tryz.laysC172_ren:Go.Shelf.Ren:=⟨fun|172=>42|244=>68|245=>69|247=>103|279=>104|280=>105|281=>106|282=>107|287=>128|316=>129|171=>45|205=>130|321=>196|322=>197|243=>71|246=>109|283=>133|284=>134|285=>135|286=>136|129=>200|317=>199|318=>201|319=>202|320=>203|337=>262|338=>263|n=>n,fun|9=>9|3=>3|75=>101|76=>102|4=>4|5=>5|167=>189|37=>111|0=>0|85=>190|2=>2|168=>192|53=>231|175=>232|46=>216|210=>236|127=>173|145=>288|143=>286|21=>21|171=>240|173=>243|212=>290|51=>186|20=>20|213=>291|232=>399|233=>400|80=>131|n=>n,fun|15=>3|16=>4|17=>7|18=>8|19=>9|n=>n⟩
theorem Tryz.laysC172:Go.Proofs.LaysC.n172 Tryz.prog Tryz.laysC172_ren:={
 mixed:=by kernel_rfl
 f129:=Tryz.func200.trans (congrArg some (by kernel_rfl))
 f171:=Tryz.func45.trans (congrArg some (by kernel_rfl))
 f172:=Tryz.func42.trans (congrArg some (by kernel_rfl))
 f205:=Tryz.func130.trans (congrArg some (by kernel_rfl))
 f243:=Tryz.func71.trans (congrArg some (by kernel_rfl))
 f244:=Tryz.func68.trans (congrArg some (by kernel_rfl))
 f245:=Tryz.func69.trans (congrArg some (by kernel_rfl))
 f246:=Tryz.func109.trans (congrArg some (by kernel_rfl))
 f247:=Tryz.func103.trans (congrArg some (by kernel_rfl))
 f279:=Tryz.func104.trans (congrArg some (by kernel_rfl))
 f280:=Tryz.func105.trans (congrArg some (by kernel_rfl))
 f281:=Tryz.func106.trans (congrArg some (by kernel_rfl))
 f282:=Tryz.func107.trans (congrArg some (by kernel_rfl))
 f283:=Tryz.func133.trans (congrArg some (by kernel_rfl))
 f284:=Tryz.func134.trans (congrArg some (by kernel_rfl))
 f285:=Tryz.func135.trans (congrArg some (by kernel_rfl))
 f286:=Tryz.func136.trans (congrArg some (by kernel_rfl))
 f287:=Tryz.func128.trans (congrArg some (by kernel_rfl))
 f316:=Tryz.func129.trans (congrArg some (by kernel_rfl))
 f317:=Tryz.func199.trans (congrArg some (by kernel_rfl))
 f318:=Tryz.func201.trans (congrArg some (by kernel_rfl))
 f319:=Tryz.func202.trans (congrArg some (by kernel_rfl))
 f320:=Tryz.func203.trans (congrArg some (by kernel_rfl))
 f321:=Tryz.func196.trans (congrArg some (by kernel_rfl))
 f322:=Tryz.func197.trans (congrArg some (by kernel_rfl))
 f337:=Tryz.func262.trans (congrArg some (by kernel_rfl))
 f338:=Tryz.func263.trans (congrArg some (by kernel_rfl))
 t0:=Tryz.underlying0
 a0:=Tryz.isAgg0
 z0:=Tryz.sizeOf0
 v0:=Tryz.zeroValue0
 t2:=Tryz.underlying2
 a2:=Tryz.isAgg2
 z2:=Tryz.sizeOf2
 v2:=Tryz.zeroValue2
 t3:=Tryz.underlying3
 a3:=Tryz.isAgg3
 z3:=Tryz.sizeOf3
 v3:=Tryz.zeroValue3
 t4:=Tryz.underlying4
 a4:=Tryz.isAgg4
 z4:=Tryz.sizeOf4
 v4:=Tryz.zeroValue4
 t5:=Tryz.underlying5
 a5:=Tryz.isAgg5
 z5:=Tryz.sizeOf5
 v5:=Tryz.zeroValue5
 t9:=Tryz.underlying9
 a9:=Tryz.isAgg9
 z9:=Tryz.sizeOf9
 v9:=Tryz.zeroValue9
 t20:=Tryz.underlying20
 a20:=Tryz.isAgg20
 z20:=Tryz.sizeOf20
 v20:=Tryz.zeroValue20
 t21:=Tryz.underlying21
 a21:=Tryz.isAgg21
 z21:=Tryz.sizeOf21
 v21:=Tryz.zeroValue21
 t37:=Tryz.underlying111
 a37:=Tryz.isAgg111
 z37:=Tryz.sizeOf111
 v37:=Tryz.zeroValue111
 t46:=Tryz.underlying216
 a46:=Tryz.isAgg216
 z46:=Tryz.sizeOf216
 v46:=Tryz.zeroValue216
 t51:=Tryz.underlying186
 a51:=Tryz.isAgg186
 z51:=Tryz.sizeOf186
 v51:=Tryz.zeroValue186
 t53:=Tryz.underlying231
 a53:=Tryz.isAgg231
 z53:=Tryz.sizeOf231
 v53:=Tryz.zeroValue231
 t75:=Tryz.underlying101
 a75:=Tryz.isAgg101
 z75:=Tryz.sizeOf101
 v75:=Tryz.zeroValue101
 t76:=Tryz.underlying102
 a76:=Tryz.isAgg102
 z76:=Tryz.sizeOf102
 v76:=Tryz.zeroValue102
 t85:=Tryz.underlying190
 a85:=Tryz.isAgg190
 z85:=Tryz.sizeOf190
 v85:=Tryz.zeroValue190
 t127:=Tryz.underlying173
 a127:=Tryz.isAgg173
 z127:=Tryz.sizeOf173
 v127:=Tryz.zeroValue173
 t143:=Tryz.underlying286
 a143:=Tryz.isAgg286
 z143:=Tryz.sizeOf286
 v143:=Tryz.zeroValue286
 t145:=Tryz.underlying288
 a145:=Tryz.isAgg288
 z145:=Tryz.sizeOf288
 v145:=Tryz.zeroValue288
 t167:=Tryz.underlying189
 a167:=Tryz.isAgg189
 z167:=Tryz.sizeOf189
 v167:=Tryz.zeroValue189
 t168:=Tryz.underlying192
 a168:=Tryz.isAgg192
 z168:=Tryz.sizeOf192
 v168:=Tryz.zeroValue192
 t171:=Tryz.underlying240
 a171:=Tryz.isAgg240
 z171:=Tryz.sizeOf240
 v171:=Tryz.zeroValue240
 t173:=Tryz.underlying243
 a173:=Tryz.isAgg243
 z173:=Tryz.sizeOf243
 v173:=Tryz.zeroValue243
 t175:=Tryz.underlying232
 a175:=Tryz.isAgg232
 z175:=Tryz.sizeOf232
 v175:=Tryz.zeroValue232
 t210:=Tryz.underlying236
 a210:=Tryz.isAgg236
 z210:=Tryz.sizeOf236
 v210:=Tryz.zeroValue236
 t212:=Tryz.underlying290
 a212:=Tryz.isAgg290
 z212:=Tryz.sizeOf290
 v212:=Tryz.zeroValue290
 t213:=Tryz.underlying291
 a213:=Tryz.isAgg291
 z213:=Tryz.sizeOf291
 t232:=Tryz.underlying399
 a232:=Tryz.isAgg399
 z232:=Tryz.sizeOf399
 v232:=Tryz.zeroValue399
 t233:=Tryz.underlying400
 a233:=Tryz.isAgg400
 z233:=Tryz.sizeOf400
 v233:=Tryz.zeroValue400
 g15:=by kernel_rfl
 g16:=by kernel_rfl
 g17:=by kernel_rfl
 g18:=by kernel_rfl
 g19:=by kernel_rfl
 t80:=Tryz.underlying131
 a80:=Tryz.isAgg131
 z80:=Tryz.sizeOf131
 v80:=Tryz.zeroValue131
 i0:=by kernel_rfl
 i2:=by kernel_rfl
 i3:=by kernel_rfl
 i4:=by kernel_rfl
 i5:=by kernel_rfl
 i9:=by kernel_rfl
 i20:=by kernel_rfl
 i21:=by kernel_rfl
 i37:=by kernel_rfl
 i46:=by kernel_rfl
 i51:=by kernel_rfl
 i53:=by kernel_rfl
 i75:=by kernel_rfl
 i76:=by kernel_rfl
 i80:=by kernel_rfl
 i85:=by kernel_rfl
 i127:=by kernel_rfl
 i143:=by kernel_rfl
 i145:=by kernel_rfl
 i167:=by kernel_rfl
 i168:=by kernel_rfl
 i171:=by kernel_rfl
 i173:=by kernel_rfl
 i175:=by kernel_rfl
 i210:=by kernel_rfl
 i212:=by kernel_rfl
 i232:=by kernel_rfl
 i233:=by kernel_rfl
 m15:=by kernel_rfl
 m16:=by kernel_rfl
 m17:=by kernel_rfl
 m18:=by kernel_rfl
 m19:=by kernel_rfl
 c0:=by kernel_rfl
 c2:=by kernel_rfl
 c3:=by kernel_rfl
 c4:=by kernel_rfl
 c5:=by kernel_rfl
 c9:=by kernel_rfl
 c20:=by kernel_rfl
 c21:=by kernel_rfl
 c37:=by kernel_rfl
 c46:=by kernel_rfl
 c51:=by kernel_rfl
 c53:=by kernel_rfl
 c75:=by kernel_rfl
 c76:=by kernel_rfl
 c80:=by kernel_rfl
 c85:=by kernel_rfl
 c127:=by kernel_rfl
 c143:=by kernel_rfl
 c145:=by kernel_rfl
 c167:=by kernel_rfl
 c168:=by kernel_rfl
 c171:=by kernel_rfl
 c173:=by kernel_rfl
 c175:=by kernel_rfl
 c210:=by kernel_rfl
 c212:=by kernel_rfl
 c213:=by kernel_rfl
 c232:=by kernel_rfl
 c233:=by kernel_rfl }
open Go.RowKit in
theorem Tryz.strconv_Atoi_ok (s:ByteArray) (hmax:s.size≤9223372036854775806) (v:Int) (h:Lib.atoiAll s.data.toList=.ok v) (w:World):
  Calls Tryz.prog 42 #[.string s] w fun e w'=>e=.returned (.tuple #[.int .i64 v,.nilIface])∧(w'=w∨ ∃t,w'=Lib.bytesWorld w 5 t):=Any.strconv_Atoi_ok Tryz.laysC172 s hmax v h w
open Go.RowKit in
theorem Tryz.strconv_Atoi_syntax (s:ByteArray) (hlim:s.size≤281474976710656) (h:Lib.atoiAll s.data.toList=(Lib.atoiAll [])) (ev:Value) (w:World) (hv:w.cell? ⟨3,0,none⟩=some ev) (hev:ev=.nilIface∨ ∃te pe,ev=.iface te pe):
  Calls Tryz.prog 42 #[.string s] w fun e w'=> ∃N,e=.returned (.tuple #[.int .i64 (0),.iface 192 (.pointer (some ⟨N,0,none⟩))])∧w.heap.size≤N∧w'.heap[N]? =some (.cells #[.string ⟨#[65,116,111,105]⟩,.string s,ev] 236 (0,0))∧Below w.heap.size w w':=Any.strconv_Atoi_syntax Tryz.laysC172 s hlim h ev w hv hev
open Go.RowKit in
theorem Tryz.strconv_Atoi_range (s:ByteArray) (hlim:s.size≤281474976710656) (h:Lib.atoiAll s.data.toList=.range) (ev:Value) (w:World) (hv:w.cell? ⟨4,0,none⟩=some ev) (hev:ev=.nilIface∨ ∃te pe,ev=.iface te pe):
  Calls Tryz.prog 42 #[.string s] w fun e w'=> ∃N,e=.returned (.tuple #[.int .i64 (Lib.atoiSat s.data.toList),.iface 192 (.pointer (some ⟨N,0,none⟩))])∧w.heap.size≤N∧w'.heap[N]? =some (.cells #[.string ⟨#[65,116,111,105]⟩,.string s,ev] 236 (0,0))∧Below w.heap.size w w':=Any.strconv_Atoi_range Tryz.laysC172 s hlim h ev w hv hev
def Tryz.lays219_ren:Go.Shelf.Ren:=⟨fun|219=>94|217=>120|225=>121|224=>122|267=>123|266=>192|314=>193|n=>n,fun|9=>9|3=>3|4=>4|5=>5|46=>216|146=>280|51=>186|n=>n,fun|1=>2|n=>n⟩
def Tryz.lays143_ren:Go.Shelf.Ren:=⟨fun|143=>77|219=>94|217=>120|225=>121|224=>122|267=>123|266=>192|314=>193|n=>n,fun|9=>9|3=>3|4=>4|5=>5|46=>216|146=>280|51=>186|n=>n,fun|1=>2|n=>n⟩
theorem Tryz.lays143:Go.Proofs.Lays.n143 Tryz.prog Tryz.lays143_ren:={
 mixed:=by kernel_rfl
 f143:=Tryz.func77.trans (congrArg some (by kernel_rfl))
 f217:=Tryz.func120.trans (congrArg some (by kernel_rfl))
 f219:=Tryz.func94.trans (congrArg some (by kernel_rfl))
 f224:=Tryz.func122.trans (congrArg some (by kernel_rfl))
 f225:=Tryz.func121.trans (congrArg some (by kernel_rfl))
 f266:=Tryz.func192.trans (congrArg some (by kernel_rfl))
 f267:=Tryz.func123.trans (congrArg some (by kernel_rfl))
 f314:=Tryz.func193.trans (congrArg some (by kernel_rfl))
 t3:=Tryz.underlying3
 a3:=Tryz.isAgg3
 z3:=Tryz.sizeOf3
 v3:=Tryz.zeroValue3
 t4:=Tryz.underlying4
 a4:=Tryz.isAgg4
 z4:=Tryz.sizeOf4
 v4:=Tryz.zeroValue4
 t5:=Tryz.underlying5
 a5:=Tryz.isAgg5
 z5:=Tryz.sizeOf5
 v5:=Tryz.zeroValue5
 t9:=Tryz.underlying9
 a9:=Tryz.isAgg9
 z9:=Tryz.sizeOf9
 v9:=Tryz.zeroValue9
 t46:=Tryz.underlying216
 a46:=Tryz.isAgg216
 z46:=Tryz.sizeOf216
 v46:=Tryz.zeroValue216
 t51:=Tryz.underlying186
 a51:=Tryz.isAgg186
 z51:=Tryz.sizeOf186
 v51:=Tryz.zeroValue186
 t146:=Tryz.underlying280
 a146:=Tryz.isAgg280
 z146:=Tryz.sizeOf280
 v146:=Tryz.zeroValue280
 g1:=by kernel_rfl }
open Go.RowKit Go.Lib in
theorem Tryz.strings_Index_one (s:ByteArray) (c:UInt8) (w:World):
  Calls Tryz.prog 77 #[.string s,.string ⟨#[c]⟩] w fun e w'=>e=.returned (.int .i64 (Lib.indexByte s.data.toList c))∧w'=w:=Any.strings_Index_one Tryz.lays143 s c w
def Tryz.lays145_ren:Go.Shelf.Ren:=⟨fun|145=>35|220=>63|219=>94|217=>120|225=>121|224=>122|267=>123|266=>192|314=>193|n=>n,fun|9=>9|4=>4|59=>86|3=>3|5=>5|46=>216|146=>280|51=>186|n=>n,fun|1=>2|n=>n⟩
theorem Tryz.lays145:Go.Proofs.Lays.n145 Tryz.prog Tryz.lays145_ren:={
 mixed:=by kernel_rfl
 f145:=Tryz.func35.trans (congrArg some (by kernel_rfl))
 f217:=Tryz.func120.trans (congrArg some (by kernel_rfl))
 f219:=Tryz.func94.trans (congrArg some (by kernel_rfl))
 f220:=Tryz.func63.trans (congrArg some (by kernel_rfl))
 f224:=Tryz.func122.trans (congrArg some (by kernel_rfl))
 f225:=Tryz.func121.trans (congrArg some (by kernel_rfl))
 f266:=Tryz.func192.trans (congrArg some (by kernel_rfl))
 f267:=Tryz.func123.trans (congrArg some (by kernel_rfl))
 f314:=Tryz.func193.trans (congrArg some (by kernel_rfl))
 t3:=Tryz.underlying3
 a3:=Tryz.isAgg3
 z3:=Tryz.sizeOf3
 v3:=Tryz.zeroValue3
 t4:=Tryz.underlying4
 a4:=Tryz.isAgg4
 z4:=Tryz.sizeOf4
 v4:=Tryz.zeroValue4
 t5:=Tryz.underlying5
 a5:=Tryz.isAgg5
 z5:=Tryz.sizeOf5
 v5:=Tryz.zeroValue5
 t9:=Tryz.underlying9
 a9:=Tryz.isAgg9
 z9:=Tryz.sizeOf9
 v9:=Tryz.zeroValue9
 t46:=Tryz.underlying216
 a46:=Tryz.isAgg216
 z46:=Tryz.sizeOf216
 v46:=Tryz.zeroValue216
 t51:=Tryz.underlying186
 a51:=Tryz.isAgg186
 z51:=Tryz.sizeOf186
 v51:=Tryz.zeroValue186
 t59:=Tryz.underlying86
 a59:=Tryz.isAgg86
 z59:=Tryz.sizeOf86
 v59:=Tryz.zeroValue86
 t146:=Tryz.underlying280
 a146:=Tryz.isAgg280
 z146:=Tryz.sizeOf280
 v146:=Tryz.zeroValue280
 g1:=by kernel_rfl }
open Go.RowKit Go.Lib in
theorem Tryz.strings_Cut (s sep:ByteArray) (m:Int) (w:World) (hs:s.size<4294967281) (hm:w.cell? ⟨2,0,none⟩=some (.int .i64 m)):
  Calls Tryz.prog 35 #[.string s,.string sep] w fun e w'=>e=.returned (.tuple #[.string ⟨(Lib.cut s.data.toList sep.data.toList).1.toArray⟩,.string ⟨(Lib.cut s.data.toList sep.data.toList).2.1.toArray⟩,.bool (Lib.cut s.data.toList sep.data.toList).2.2])∧ ∃n,w'=w.drewN n:=Any.strings_Cut Tryz.lays145 s sep m w hs hm
def Tryz.lays206_ren:Go.Shelf.Ren:=⟨fun|206=>102|n=>n,fun|9=>9|4=>4|3=>3|n=>n,fun|n=>n⟩
def Tryz.lays101_ren:Go.Shelf.Ren:=⟨fun|101=>41|208=>67|206=>102|n=>n,fun|9=>9|4=>4|3=>3|n=>n,fun|n=>n⟩
theorem Tryz.lays101:Go.Proofs.Lays.n101 Tryz.prog Tryz.lays101_ren:={
 mixed:=by kernel_rfl
 f101:=Tryz.func41.trans (congrArg some (by kernel_rfl))
 f206:=Tryz.func102.trans (congrArg some (by kernel_rfl))
 f208:=Tryz.func67.trans (congrArg some (by kernel_rfl))
 t3:=Tryz.underlying3
 a3:=Tryz.isAgg3
 z3:=Tryz.sizeOf3
 v3:=Tryz.zeroValue3
 t4:=Tryz.underlying4
 a4:=Tryz.isAgg4
 z4:=Tryz.sizeOf4
 v4:=Tryz.zeroValue4
 t9:=Tryz.underlying9
 a9:=Tryz.isAgg9
 z9:=Tryz.sizeOf9
 v9:=Tryz.zeroValue9 }
open Go.RowKit Go.Lib in
theorem Tryz.strings_TrimPrefix (s p:ByteArray) (w:World):
  Calls Tryz.prog 41 #[.string s,.string p] w fun e w'=>e=.returned (.string ⟨(Lib.trimPrefix s.data.toList p.data.toList).toArray⟩)∧w'=w:=Any.strings_TrimPrefix Tryz.lays101 s p w
def Tryz.lays102_ren:Go.Shelf.Ren:=⟨fun|102=>31|209=>54|207=>78|n=>n,fun|9=>9|4=>4|3=>3|n=>n,fun|n=>n⟩
theorem Tryz.lays102:Go.Proofs.Lays.n102 Tryz.prog Tryz.lays102_ren:={
 mixed:=by kernel_rfl
 f102:=Tryz.func31.trans (congrArg some (by kernel_rfl))
 f207:=Tryz.func78.trans (congrArg some (by kernel_rfl))
 f209:=Tryz.func54.trans (congrArg some (by kernel_rfl))
 t3:=Tryz.underlying3
 a3:=Tryz.isAgg3
 z3:=Tryz.sizeOf3
 v3:=Tryz.zeroValue3
 t4:=Tryz.underlying4
 a4:=Tryz.isAgg4
 z4:=Tryz.sizeOf4
 v4:=Tryz.zeroValue4
 t9:=Tryz.underlying9
 a9:=Tryz.isAgg9
 z9:=Tryz.sizeOf9
 v9:=Tryz.zeroValue9 }
open Go.RowKit Go.Lib in
theorem Tryz.strings_TrimSuffix (s p:ByteArray) (w:World) (hs:s.size≤9223372036854775807):
  Calls Tryz.prog 31 #[.string s,.string p] w fun e w'=>e=.returned (.string ⟨(Lib.trimSuffix s.data.toList p.data.toList).toArray⟩)∧w'=w:=Any.strings_TrimSuffix Tryz.lays102 s p w hs
def Tryz.lays221_ren:Go.Shelf.Ren:=⟨fun|221=>124|268=>194|138=>195|143=>77|195=>260|197=>76|218=>261|219=>94|260=>111|217=>120|225=>121|224=>122|267=>123|266=>192|314=>193|n=>n,fun|9=>9|3=>3|31=>58|4=>4|0=>0|105=>141|21=>21|5=>5|46=>216|119=>134|139=>248|138=>247|146=>280|51=>186|n=>n,fun|1=>2|3=>5|4=>6|n=>n⟩
def Tryz.lays146_ren:Go.Shelf.Ren:=⟨fun|146=>95|221=>124|268=>194|138=>195|143=>77|195=>260|197=>76|218=>261|219=>94|260=>111|217=>120|225=>121|224=>122|267=>123|266=>192|314=>193|n=>n,fun|9=>9|31=>58|3=>3|4=>4|0=>0|105=>141|21=>21|5=>5|46=>216|119=>134|139=>248|138=>247|146=>280|51=>186|n=>n,fun|1=>2|3=>5|4=>6|n=>n⟩
theorem Tryz.lays146:Go.Proofs.Lays.n146 Tryz.prog Tryz.lays146_ren:={
 mixed:=by kernel_rfl
 f138:=Tryz.func195.trans (congrArg some (by kernel_rfl))
 f143:=Tryz.func77.trans (congrArg some (by kernel_rfl))
 f146:=Tryz.func95.trans (congrArg some (by kernel_rfl))
 f195:=Tryz.func260.trans (congrArg some (by kernel_rfl))
 f197:=Tryz.func76.trans (congrArg some (by kernel_rfl))
 f217:=Tryz.func120.trans (congrArg some (by kernel_rfl))
 f218:=Tryz.func261.trans (congrArg some (by kernel_rfl))
 f219:=Tryz.func94.trans (congrArg some (by kernel_rfl))
 f221:=Tryz.func124.trans (congrArg some (by kernel_rfl))
 f224:=Tryz.func122.trans (congrArg some (by kernel_rfl))
 f225:=Tryz.func121.trans (congrArg some (by kernel_rfl))
 f260:=Tryz.func111.trans (congrArg some (by kernel_rfl))
 f266:=Tryz.func192.trans (congrArg some (by kernel_rfl))
 f267:=Tryz.func123.trans (congrArg some (by kernel_rfl))
 f268:=Tryz.func194.trans (congrArg some (by kernel_rfl))
 f314:=Tryz.func193.trans (congrArg some (by kernel_rfl))
 t0:=Tryz.underlying0
 a0:=Tryz.isAgg0
 z0:=Tryz.sizeOf0
 v0:=Tryz.zeroValue0
 t3:=Tryz.underlying3
 a3:=Tryz.isAgg3
 z3:=Tryz.sizeOf3
 v3:=Tryz.zeroValue3
 t4:=Tryz.underlying4
 a4:=Tryz.isAgg4
 z4:=Tryz.sizeOf4
 v4:=Tryz.zeroValue4
 t5:=Tryz.underlying5
 a5:=Tryz.isAgg5
 z5:=Tryz.sizeOf5
 v5:=Tryz.zeroValue5
 t9:=Tryz.underlying9
 a9:=Tryz.isAgg9
 z9:=Tryz.sizeOf9
 v9:=Tryz.zeroValue9
 t21:=Tryz.underlying21
 a21:=Tryz.isAgg21
 z21:=Tryz.sizeOf21
 v21:=Tryz.zeroValue21
 t31:=Tryz.underlying58
 a31:=Tryz.isAgg58
 z31:=Tryz.sizeOf58
 v31:=Tryz.zeroValue58
 t46:=Tryz.underlying216
 a46:=Tryz.isAgg216
 z46:=Tryz.sizeOf216
 v46:=Tryz.zeroValue216
 t51:=Tryz.underlying186
 a51:=Tryz.isAgg186
 z51:=Tryz.sizeOf186
 v51:=Tryz.zeroValue186
 t105:=Tryz.underlying141
 a105:=Tryz.isAgg141
 z105:=Tryz.sizeOf141
 v105:=Tryz.zeroValue141
 t119:=Tryz.underlying134
 a119:=Tryz.isAgg134
 z119:=Tryz.sizeOf134
 t138:=Tryz.underlying247
 a138:=Tryz.isAgg247
 z138:=Tryz.sizeOf247
 v138:=Tryz.zeroValue247
 t139:=Tryz.underlying248
 a139:=Tryz.isAgg248
 z139:=Tryz.sizeOf248
 v139:=Tryz.zeroValue248
 t146:=Tryz.underlying280
 a146:=Tryz.isAgg280
 z146:=Tryz.sizeOf280
 v146:=Tryz.zeroValue280
 g1:=by kernel_rfl
 g3:=by kernel_rfl
 g4:=by kernel_rfl }
open Go.RowKit Go.Lib in
theorem Tryz.strings_Split (s sep:ByteArray) (m:Int) (w:World) (hs:s.size<4294967281) (hm:w.cell? ⟨2,0,none⟩=some (.int .i64 m)) (h1:1≤sep.size):
  Calls Tryz.prog 95 #[.string s,.string sep] w fun e w'=>
   e=.returned (.slice (some ⟨w.heap.size,0,none⟩) (Lib.countB s sep+1) (Lib.countB s sep+1))∧w'=w.alloc (.cells ((Lib.splitB sep 0 (Lib.countB s sep) s).map Value.string).toArray 9):=Any.strings_Split Tryz.lays146 (by kernel_rfl) s sep m w hs hm h1
def Tryz.lays157_ren:Go.Shelf.Ren:=⟨fun|157=>40|229=>65|199=>66|261=>101|311=>126|312=>127|n=>n,fun|9=>9|31=>58|3=>3|5=>5|4=>4|119=>134|0=>0|40=>136|152=>183|21=>21|154=>185|51=>186|141=>188|196=>223|193=>220|198=>226|49=>224|194=>221|201=>229|226=>283|46=>216|227=>284|n=>n,fun|0=>0|6=>1|n=>n⟩
theorem Tryz.lays157:Go.Proofs.Lays.n157 Tryz.prog Tryz.lays157_ren:={
 mixed:=by kernel_rfl
 f157:=Tryz.func40.trans (congrArg some (by kernel_rfl))
 f199:=Tryz.func66.trans (congrArg some (by kernel_rfl))
 f229:=Tryz.func65.trans (congrArg some (by kernel_rfl))
 f261:=Tryz.func101.trans (congrArg some (by kernel_rfl))
 f311:=Tryz.func126.trans (congrArg some (by kernel_rfl))
 f312:=Tryz.func127.trans (congrArg some (by kernel_rfl))
 t0:=Tryz.underlying0
 a0:=Tryz.isAgg0
 z0:=Tryz.sizeOf0
 v0:=Tryz.zeroValue0
 t3:=Tryz.underlying3
 a3:=Tryz.isAgg3
 z3:=Tryz.sizeOf3
 v3:=Tryz.zeroValue3
 t4:=Tryz.underlying4
 a4:=Tryz.isAgg4
 z4:=Tryz.sizeOf4
 v4:=Tryz.zeroValue4
 t5:=Tryz.underlying5
 a5:=Tryz.isAgg5
 z5:=Tryz.sizeOf5
 v5:=Tryz.zeroValue5
 t9:=Tryz.underlying9
 a9:=Tryz.isAgg9
 z9:=Tryz.sizeOf9
 v9:=Tryz.zeroValue9
 t21:=Tryz.underlying21
 a21:=Tryz.isAgg21
 z21:=Tryz.sizeOf21
 v21:=Tryz.zeroValue21
 t31:=Tryz.underlying58
 a31:=Tryz.isAgg58
 z31:=Tryz.sizeOf58
 v31:=Tryz.zeroValue58
 t40:=Tryz.underlying136
 a40:=Tryz.isAgg136
 z40:=Tryz.sizeOf136
 v40:=Tryz.zeroValue136
 t46:=Tryz.underlying216
 a46:=Tryz.isAgg216
 z46:=Tryz.sizeOf216
 v46:=Tryz.zeroValue216
 t49:=Tryz.underlying224
 a49:=Tryz.isAgg224
 z49:=Tryz.sizeOf224
 v49:=Tryz.zeroValue224
 t51:=Tryz.underlying186
 a51:=Tryz.isAgg186
 z51:=Tryz.sizeOf186
 v51:=Tryz.zeroValue186
 t119:=Tryz.underlying134
 a119:=Tryz.isAgg134
 z119:=Tryz.sizeOf134
 t141:=Tryz.underlying188
 a141:=Tryz.isAgg188
 z141:=Tryz.sizeOf188
 v141:=Tryz.zeroValue188
 t152:=Tryz.underlying183
 a152:=Tryz.isAgg183
 z152:=Tryz.sizeOf183
 v152:=Tryz.zeroValue183
 t154:=Tryz.underlying185
 a154:=Tryz.isAgg185
 z154:=Tryz.sizeOf185
 v154:=Tryz.zeroValue185
 t193:=Tryz.underlying220
 a193:=Tryz.isAgg220
 z193:=Tryz.sizeOf220
 v193:=Tryz.zeroValue220
 t194:=Tryz.underlying221
 a194:=Tryz.isAgg221
 z194:=Tryz.sizeOf221
 v194:=Tryz.zeroValue221
 t196:=Tryz.underlying223
 a196:=Tryz.isAgg223
 z196:=Tryz.sizeOf223
 v196:=Tryz.zeroValue223
 t198:=Tryz.underlying226
 a198:=Tryz.isAgg226
 z198:=Tryz.sizeOf226
 v198:=Tryz.zeroValue226
 t201:=Tryz.underlying229
 a201:=Tryz.isAgg229
 z201:=Tryz.sizeOf229
 v201:=Tryz.zeroValue229
 t226:=Tryz.underlying283
 a226:=Tryz.isAgg283
 z226:=Tryz.sizeOf283
 v226:=Tryz.zeroValue283
 t227:=Tryz.underlying284
 a227:=Tryz.isAgg284
 z227:=Tryz.sizeOf284
 v227:=Tryz.zeroValue284
 g0:=by kernel_rfl
 g6:=by kernel_rfl }
def Tryz.lays199_ren:Go.Shelf.Ren:=⟨fun|199=>66|261=>101|311=>126|312=>127|n=>n,fun|21=>21|4=>4|51=>186|141=>188|0=>0|196=>223|193=>220|3=>3|198=>226|49=>224|194=>221|201=>229|226=>283|46=>216|227=>284|n=>n,fun|6=>1|n=>n⟩
theorem Tryz.lays199:Go.Proofs.Lays.n199 Tryz.prog Tryz.lays199_ren:={
 mixed:=by kernel_rfl
 f199:=Tryz.func66.trans (congrArg some (by kernel_rfl))
 f261:=Tryz.func101.trans (congrArg some (by kernel_rfl))
 f311:=Tryz.func126.trans (congrArg some (by kernel_rfl))
 f312:=Tryz.func127.trans (congrArg some (by kernel_rfl))
 t0:=Tryz.underlying0
 a0:=Tryz.isAgg0
 z0:=Tryz.sizeOf0
 v0:=Tryz.zeroValue0
 t3:=Tryz.underlying3
 a3:=Tryz.isAgg3
 z3:=Tryz.sizeOf3
 v3:=Tryz.zeroValue3
 t4:=Tryz.underlying4
 a4:=Tryz.isAgg4
 z4:=Tryz.sizeOf4
 v4:=Tryz.zeroValue4
 t21:=Tryz.underlying21
 a21:=Tryz.isAgg21
 z21:=Tryz.sizeOf21
 v21:=Tryz.zeroValue21
 t46:=Tryz.underlying216
 a46:=Tryz.isAgg216
 z46:=Tryz.sizeOf216
 v46:=Tryz.zeroValue216
 t49:=Tryz.underlying224
 a49:=Tryz.isAgg224
 z49:=Tryz.sizeOf224
 v49:=Tryz.zeroValue224
 t51:=Tryz.underlying186
 a51:=Tryz.isAgg186
 z51:=Tryz.sizeOf186
 v51:=Tryz.zeroValue186
 t141:=Tryz.underlying188
 a141:=Tryz.isAgg188
 z141:=Tryz.sizeOf188
 v141:=Tryz.zeroValue188
 t193:=Tryz.underlying220
 a193:=Tryz.isAgg220
 z193:=Tryz.sizeOf220
 v193:=Tryz.zeroValue220
 t194:=Tryz.underlying221
 a194:=Tryz.isAgg221
 z194:=Tryz.sizeOf221
 v194:=Tryz.zeroValue221
 t196:=Tryz.underlying223
 a196:=Tryz.isAgg223
 z196:=Tryz.sizeOf223
 v196:=Tryz.zeroValue223
 t198:=Tryz.underlying226
 a198:=Tryz.isAgg226
 z198:=Tryz.sizeOf226
 v198:=Tryz.zeroValue226
 t201:=Tryz.underlying229
 a201:=Tryz.isAgg229
 z201:=Tryz.sizeOf229
 v201:=Tryz.zeroValue229
 t226:=Tryz.underlying283
 a226:=Tryz.isAgg283
 z226:=Tryz.sizeOf283
 v226:=Tryz.zeroValue283
 t227:=Tryz.underlying284
 a227:=Tryz.isAgg284
 z227:=Tryz.sizeOf284
 v227:=Tryz.zeroValue284
 g6:=by kernel_rfl }
open Go.RowKit Go.Lib in
theorem Tryz.strings_Fields_any (s:ByteArray) (w:World) (hs:s.size<4294967281) (htab:Lib.TabIs Tryz.prog w "strings.asciiSpace" .u8 Lib.asciiSpaceTab) (hW:Lib.WhiteTab 1 w):
  Calls Tryz.prog 40 #[.string s] w fun e w'=> ∃A,e=.returned (.slice (some ⟨A,0,none⟩) (Lib.fieldsD s.data.toList).length (Lib.fieldsD s.data.toList).length)∧w.heap.size≤A∧
   w'.ownsRow w.heap.size 9 1 (.slice (some ⟨A,0,none⟩) (Lib.fieldsD s.data.toList).length (Lib.fieldsD s.data.toList).length) (Lib.fieldsD s.data.toList).length ((Lib.fieldsD s.data.toList).map fun x=>Value.string ⟨x.toArray⟩)∧Below w.heap.size w w':=Any.strings_Fields_any Tryz.lays157 (by kernel_rfl) (by kernel_rfl) (by kernel_rfl) s w hs htab hW
end Go.Proofs
namespace Go.Eng
open Go Go.Proofs
def GlobW (w:World):Prop:=(∃ m:Int,w.cell? ⟨2,0,none⟩=some (.int .i64 m))∧(∃ t v,w.cell? ⟨3,0,none⟩=some (.iface t v))∧(∃ t v,w.cell? ⟨4,0,none⟩=some (.iface t v))∧
 Lib.TabIs Tryz.prog w "internal/strconv.uint64pow10" .u64 Lib.pow10Tab∧Lib.TabIs Tryz.prog w "strings.asciiSpace" .u8 Lib.asciiSpaceTab∧Lib.WhiteTab 1 w
theorem cell_lt {w w':World} {b o:Nat} {v:Value} (h:w.cell? ⟨b,o,none⟩=some v) (hs: ∀b,b<w.heap.size→w'.heap[b]? =w.heap[b]?):w'.cell? ⟨b,o,none⟩=some v:=by
 have hb:b<w.heap.size:=by
  unfold World.cell? at h
  simp only at h
  split at h
  ·rename_i hh;exact(Array.getElem?_eq_some_iff.1 hh).1
  ·simp at h
 unfold World.cell? at h⊢
 simp only[hs b hb] at h⊢
 exact h
theorem tab_lt {P:Program} {w w':World} {n:String} {k:IntKind} {zs:List Int} (h:Lib.TabIs P w n k zs) (hs: ∀b,b<w.heap.size→w'.heap[b]? =w.heap[b]?):Lib.TabIs P w' n k zs:=by
 unfold Lib.TabIs World.var? at *
 cases hg:P.globalNamed n with
 |none=>rw[hg] at h;simp at h
 |some g=>
  rw[hg] at h
  simp only[Option.bind_some] at h⊢
  have hb:g<w.heap.size:=by
   rcases Nat.lt_or_ge g w.heap.size with hb|hb
   ·exact hb
   ·rw[Array.getElem?_eq_none hb] at h;simp at h
  rw[hs g hb]
  exact h
theorem white_lt {g:Nat} {w w':World} (h:Lib.WhiteTab g w) (hs: ∀b,b<w.heap.size→w'.heap[b]? =w.heap[b]?):Lib.WhiteTab g w':=by
 obtain ⟨T,oT,R,oR,h1,h2,h3,h4,h5⟩:=h
 exact⟨T,oT,R,oR,cell_lt h1 hs,cell_lt h2 hs,cell_lt h3 hs,cell_lt h4 hs,fun i hi=>cell_lt (h5 i hi) hs⟩
theorem GlobW_st {w w':World} (h:GlobW w) (hs: ∀b,b<w.heap.size→w'.heap[b]? =w.heap[b]?):GlobW w':=by
 obtain ⟨⟨m,h1⟩,⟨t,v,h2⟩,⟨t',v',h3⟩,h4,h5,h6⟩:=h
 exact⟨⟨m,cell_lt h1 hs⟩,⟨t,v,cell_lt h2 hs⟩,⟨t',v',cell_lt h3 hs⟩,tab_lt h4 hs,tab_lt h5 hs,white_lt h6 hs⟩
theorem glob_pow {w:World} (h:GlobW w):Lib.TabIs Tryz.prog w "internal/strconv.uint64pow10" .u64 Lib.pow10Tab:=h.2.2.2.1
end Go.Eng
namespace Go.Eng
open Go
def LB:Nat:=2 ^ 48
inductive D where
 |int (k:IntKind) (n:Int)
 |bool (b:Bool)
 |str (s:ByteArray)
 |sl (rows:List (List D))
 |fn (f:FuncId)
 |nptr
 |nfn
 |nmap
 deriving Inhabited
inductive AV where
 |any
 |d (x:D)
 |nsl
 |esl
 |ptr (b off:Nat)
 |fptr (row:List D) (off:Nat)
 |msl (b off len cl sz:Nat)
 |mp (b:Nat)
 |clos (fn:Fn) (first caps:List AV)
 |agg (cs:List AV)
 |tup (vs:List AV)
 deriving Inhabited
structure PQ where
 r:Nat→Prop
 u:Nat→Prop
 f:Nat→Prop
 sub: ∀b,r b→u b
 fu: ∀b,f b→u b
 fr: ∀b,f b→ ¬r b
def Shape (w w':World):Prop:=w.heap.size≤w'.heap.size∧
 (∀ (r:Nat) (c:Array Value) (e:TypeId) (fr:Nat×Nat),w.heap[r]? =some (.cells c e fr)→ ∃c' fr',w'.heap[r]? =some (.cells c' e fr')∧c'.size=c.size)∧w'.os=w.os∧w'.tape=w.tape∧w'.output=w.output
structure Ysp where
 l:Nat
 xs:List AV
 I:Nat→PQ→World→Prop
 Z:PQ→World→Prop
 stI: ∀k p p' w w',I k p w→p'.f=p.f→(∀ b,p.r b→p'.r b)→(∀ b,p.r b∨p.f b∨b=l→w'.heap[b]? =w.heap[b]?)→Shape w w'→I k p' w'
 stZ: ∀p p' w w',Z p w→p'.f=p.f→(∀ b,p.r b→p'.r b)→(∀ b,p.r b∨p.f b∨b=l→w'.heap[b]? =w.heap[b]?)→Shape w w'→Z p' w'
inductive Blk where
 |row (cs:List AV)
 |iter (s:ByteArray) (pos:Nat)
 |dfr
 |raw (o:Obj)
 |bytes (e:Nat) (bs:List UInt8)
 |mp (ks:List Int) (vs:List AV)
 |yl (Y:Ysp) (k:Nat)
 |yz (Y:Ysp)
 deriving Inhabited
def isY:Blk→Bool
 |.yl _ _=>true
 |.yz _=>true
 |_=>false
abbrev Heap:=List (Option Blk)
def leaf:AV→Bool
 |.any|.agg _|.tup _=>false
 |_=>true
def one:Value→Bool
 |.agg _|.tuple _=>false
 |_=>true
def NoFreeze (c:Array Value) (fr:Nat×Nat):Prop:= ∀i,i<c.size→ ¬(fr.1≤i∧i<fr.2)
inductive VRel (p:PQ) (σ:List Nat) (w:World):AV→Value→Prop
 |any (v:Value):VRel p σ w .any v
 |int (k:IntKind) (n:Int):VRel p σ w (.d (.int k n)) (.int k n)
 |bool (b:Bool):VRel p σ w (.d (.bool b)) (.bool b)
 |str (s:ByteArray) (h:s.size≤LB):VRel p σ w (.d (.str s)) (.string s)
 |fn (f:FuncId):VRel p σ w (.d (.fn f)) (.func (.func f) #[] #[])
 |nptr:VRel p σ w (.d .nptr) (.pointer none)
 |nfn:VRel p σ w (.d .nfn) .nilFunc
 |nmap:VRel p σ w (.d .nmap) (.map none)
 |sl (rows:List (List D)) (a:Option Addr) (n cap sz:Nat) (vals:Nat→Nat→Value) (hn:rows.length=n) (hB:n≤LB) (hc:n≤cap)
   (hrow: ∀(i:Nat) (row:List D),rows[i]? =some row→row.length=sz)
   (hcells:n≠0→ ∃r o,a=some ⟨r,o,none⟩∧p.r r∧ ∀i j,i<n→j<sz→w.cell? ⟨r,o+i * sz+j,none⟩=some (vals i j))
   (hv: ∀(i:Nat) (row:List D) (j:Nat) (x:D),rows[i]? =some row→row[j]? =some x→VRel p σ w (.d x) (vals i j)):
   VRel p σ w (.d (.sl rows)) (.slice a n cap)
 |nsl:VRel p σ w .nsl (.slice none 0 0)
 |esl (a:Option Addr):VRel p σ w .esl (.slice a 0 0)
 |ptr (b off r:Nat) (h:σ[b]? =some r):VRel p σ w (.ptr b off) (.pointer (some ⟨r,off,none⟩))
 |fptr (row:List D) (off r o:Nat) (vals:Nat→Value) (hp:p.r r)
   (hcells: ∀j,j<row.length→w.cell? ⟨r,o+j,none⟩=some (vals j))
   (hv: ∀(j:Nat) (x:D),row[j]? =some x→VRel p σ w (.d x) (vals j)):
   VRel p σ w (.fptr row off) (.pointer (some ⟨r,o+off,none⟩))
 |msl (b off len cl sz r cap:Nat) (h:σ[b]? =some r) (hB:len≤LB) (hc:len≤cap) (hcl:cl≤cap∧cl≤LB)
   (hblk: ∃(c:Array Value) (e:TypeId) (fr:Nat×Nat),w.heap[r]? =some (.cells c e fr)∧off+cap * sz≤c.size):
   VRel p σ w (.msl b off len cl sz) (.slice (some ⟨r,off,none⟩) len cap)
 |mp (b r:Nat) (h:σ[b]? =some r):VRel p σ w (.mp b) (.map (some r))
 |clos (fn:Fn) (first caps:List AV) (fs cs:Array Value) (h1:fs.size=first.length) (h2:cs.size=caps.length)
   (hf: ∀(i:Nat) (x:AV) (v:Value),first[i]? =some x→fs[i]? =some v→VRel p σ w x v)
   (hcp: ∀(i:Nat) (x:AV) (v:Value),caps[i]? =some x→cs[i]? =some v→VRel p σ w x v):
   VRel p σ w (.clos fn first caps) (.func fn fs cs)
 |agg (cs:List AV) (vs:Array Value) (h:vs.size=cs.length) (hl: ∀(i:Nat) (v:Value),vs[i]? =some v→one v=true)
   (hv: ∀(i:Nat) (x:AV) (v:Value),cs[i]? =some x→vs[i]? =some v→VRel p σ w x v):VRel p σ w (.agg cs) (.agg vs)
 |tup (as_:List AV) (vs:Array Value) (h:vs.size=as_.length)
   (hv: ∀(i:Nat) (x:AV) (v:Value),as_[i]? =some x→vs[i]? =some v→VRel p σ w x v):VRel p σ w (.tup as_) (.tuple vs)
structure Ext (p:PQ) (w:World) (p':PQ) (w':World):Prop where
 subr: ∀b,p.r b→p'.r b
 subu: ∀b,p.u b→p'.u b
 back: ∀b,p'.r b→p.r b∨ ¬p.u b
 subf: ∀b,p.f b→p'.f b
 backf: ∀b,p'.f b→p.f b∨ ¬p.u b
 same: ∀b,p.u b→ ¬p.f b→w'.heap[b]? =w.heap[b]?
 shape:Shape w w'
theorem Shape.refl (w:World):Shape w w:=⟨Nat.le_refl _,fun _ c _ fr h=>⟨c,fr,h,rfl⟩,rfl,rfl,rfl⟩
theorem Shape.trans {a b c:World} (h:Shape a b) (k:Shape b c):Shape a c:=
 ⟨Nat.le_trans h.1 k.1,fun r x e fr hx=>by
  obtain ⟨x1,fr1,h1,e1⟩:=h.2.1 r x e fr hx
  obtain ⟨x2,fr2,h2,e2⟩:=k.2.1 r x1 e fr1 h1
  exact⟨x2,fr2,h2,e2.trans e1⟩,k.2.2.1.trans h.2.2.1,k.2.2.2.1.trans h.2.2.2.1,k.2.2.2.2.trans h.2.2.2.2⟩
theorem Ext.refl (p:PQ) (w:World):Ext p w p w:=⟨fun _ h=>h,fun _ h=>h,fun _ h=>.inl h,fun _ h=>h,fun _ h=>.inl h,fun _ _ _=>rfl,.refl w⟩
theorem Ext.mk1 {p:PQ} {w w':World} (h: ∀b,p.u b→w'.heap[b]? =w.heap[b]?) (hs:Shape w w'):Ext p w p w':=
 ⟨fun _ h=>h,fun _ h=>h,fun _ h=>.inl h,fun _ h=>h,fun _ h=>.inl h,fun b hb _=>h b hb,hs⟩
theorem Ext.trans {p p' p'':PQ} {w w' w'':World} (h:Ext p w p' w') (k:Ext p' w' p'' w''):Ext p w p'' w'':=
 ⟨fun b hb=>k.subr b (h.subr b hb),fun b hb=>k.subu b (h.subu b hb),fun b hb=>(k.back b hb).elim (h.back b) (fun hn=>.inr fun hu=>hn (h.subu b hu)),
  fun b hb=>k.subf b (h.subf b hb),fun b hb=>(k.backf b hb).elim (h.backf b) (fun hn=>.inr fun hu=>hn (h.subu b hu)),
  fun b hb hf=>(k.same b (h.subu b hb) (fun hf'=>(h.backf b hf').elim hf fun hn=>hn hb)).trans (h.same b hb hf),h.shape.trans k.shape⟩
theorem cell_of_same {w w':World} {r o:Nat} (h:w'.heap[r]? =w.heap[r]?):w'.cell? ⟨r,o,none⟩=w.cell? ⟨r,o,none⟩:=by
 simp only[World.cell?,h]
theorem VRel.mono' {p p':PQ} {σ σ':List Nat} {w w':World} (hpr: ∀b,p.r b→p'.r b) (hw: ∀b,p.r b→w'.heap[b]? =w.heap[b]?) (hsh:Shape w w') (hσ: ∀(i r:Nat),σ[i]? =some r→σ'[i]? =some r)
  {x:AV} {v:Value} (h:VRel p σ w x v):VRel p' σ' w' x v:=by
 induction h with
 |any v=>exact .any v
 |int k n=>exact .int k n
 |bool b=>exact .bool b
 |str s h=>exact .str s h
 |fn f=>exact .fn f
 |nptr=>exact .nptr
 |nfn=>exact .nfn
 |nmap=>exact .nmap
 |sl rows a n cap sz vals hn hB hc hrow hcells hv ih=>
  refine .sl rows a n cap sz vals hn hB hc hrow (fun h0=>?_) ih
  obtain ⟨r,o,ha,hp,hcs⟩:=hcells h0
  exact⟨r,o,ha,hpr r hp,fun i j hi hj=>(cell_of_same (hw r hp)).trans (hcs i j hi hj)⟩
 |nsl=>exact .nsl
 |esl a=>exact .esl a
 |ptr b off r h=>exact .ptr b off r (hσ _ _ h)
 |fptr row off r o vals hp hcells hv ih=>
  exact .fptr row off r o vals (hpr r hp) (fun j hj=>(cell_of_same (hw r hp)).trans (hcells j hj)) ih
 |msl b off len cl sz r cap h hB hc hcl hblk=>
  obtain ⟨c,e,fr,h1,h2⟩:=hblk
  obtain ⟨c',fr',h1',hs⟩:=hsh.2.1 r c e fr h1
  exact .msl b off len cl sz r cap (hσ _ _ h) hB hc hcl ⟨c',e,fr',h1',by omega⟩
 |mp b r h=>exact .mp b r (hσ _ _ h)
 |clos fn first caps fs cs h1 h2 hf hcp ih1 ih2=>exact .clos fn first caps fs cs h1 h2 ih1 ih2
 |agg cs vs h hl hv ih=>exact .agg cs vs h hl ih
 |tup as_ vs h hv ih=>exact .tup as_ vs h ih
theorem VRel.mono {p p':PQ} {σ σ':List Nat} {w w':World} (he:Ext p w p' w') (hσ: ∀(i r:Nat),σ[i]? =some r→σ'[i]? =some r)
  {x:AV} {v:Value} (h:VRel p σ w x v):VRel p' σ' w' x v:=h.mono' he.subr (fun b hb=>he.same b (p.sub b hb) (fun hf=>p.fr b hf hb)) he.shape hσ
theorem VRel.oneCell {p:PQ} {σ:List Nat} {w:World} {x:AV} {v:Value} (h:VRel p σ w x v) (hl:leaf x=true):one v=true:=by
 cases h <;> first|rfl|simp[leaf] at hl
def BRel (p:PQ) (σ:List Nat) (w:World):Blk→Nat→Prop
 |.row cs,r=> ∃(c:Array Value) (e:TypeId) (fr:Nat×Nat),w.heap[r]? =some (.cells c e fr)∧cs.length≤c.size∧NoFreeze c fr∧
   ∀(i:Nat) (x:AV) (v:Value),cs[i]? =some x→c[i]? =some v→VRel p σ w x v∧one v=true
 |.iter s pos,r=>w.heap[r]? =some (.stringIter s pos)
 |.dfr,r=>w.heap[r]? =some (.deferred (some []))
 |.raw o,r=>w.heap[r]? =some o
 |.bytes e bs,r=> ∃(c:Array Value) (fr:Nat×Nat),w.heap[r]? =some (.cells c e fr)∧bs.length≤c.size∧NoFreeze c fr∧ ∀(i:Nat) (x:UInt8) (v:Value),bs[i]? =some x→c[i]? =some v→v=.int .u8 x.toNat
 |.mp ks vs,r=> ∃(es:Array MapEntry) (clock:Nat),w.heap[r]? =some (.map es clock)∧es.size=ks.length∧es.size=vs.length∧
   (∀ (i:Nat) (k:Int) (e:MapEntry),ks[i]? =some k→es[i]? =some e→e.key=.int .i64 k)∧ ∀(i:Nat) (x:AV) (e:MapEntry),vs[i]? =some x→es[i]? =some e→VRel p σ w x e.val
 |.yl Y k,r=>r=Y.l∧Y.I k p w
 |.yz Y,r=>r=Y.l∧Y.Z p w
def GlOk (p:PQ) (w:World):Prop:= ∀w':World,(∀ b,p.r b→w'.heap[b]? =w.heap[b]?)→Shape w w'→GlobW w'
theorem GlOk.same {p p':PQ} {w w':World} (h:GlOk p w) (hr: ∀b,p.r b→p'.r b) (hs: ∀b,p.r b→w'.heap[b]? =w.heap[b]?) (hsh:Shape w w'):GlOk p' w':=fun w'' hw hsh'=>
 h w'' (fun b hb=>(hw b (hr b hb)).trans (hs b hb)) (hsh.trans hsh')
theorem GlOk.ext {p p':PQ} {w w':World} (h:GlOk p w) (he:Ext p w p' w'):GlOk p' w':=h.same he.subr (fun b hb=>he.same b (p.sub b hb) fun hf=>p.fr b hf hb) he.shape
theorem GlOk.now {p:PQ} {w:World} (h:GlOk p w):GlobW w:=h w (fun _ _=>rfl) (.refl w)
theorem GlOk.part {p q:PQ} {w:World} (h:GlOk p w) (hs: ∀b,p.r b→q.r b):GlOk q w:=h.same hs (fun _ _=>rfl) (.refl w)
structure HRel (p:PQ) (σ:List Nat) (H:Heap) (w:World):Prop where
 len:σ.length=H.length
 lt: ∀b,p.u b→b<w.heap.size
 blk: ∀(i:Nat) (k:Blk),H[i]? =some (some k)→ ∃r,σ[i]? =some r∧ ¬p.u r∧r<w.heap.size∧BRel p σ w k r
 inj: ∀(i j r:Nat) (k l:Blk),H[i]? =some (some k)→H[j]? =some (some l)→σ[i]? =some r→σ[j]? =some r→i=j
 gl:GlOk p w
abbrev Env:=List (Nat×AV)
def get (ρ:Env) (t:Nat):AV:=
 match ρ with
 |[]=>.any
 |(d,v)::r=>bif Nat.beq d t then v else get r t
inductive DF where
 |mk (b:Nat)
 |fn (g:FuncId) (caps:List (Nat×Nat))
 deriving Inhabited
structure St where
 ρ:Env
 n:Nat
 H:Heap
 m:Nat
 df:List DF
def DRel (σ:List Nat):List DF→List Deferred→Prop
 |[],[]=>True
 |.mk b::t,d::ds=>(∃ r,σ[b]? =some r∧d={ target:=.collected r,args:= #[]})∧DRel σ t ds
 |.fn g caps::t,d::ds=>(∃ cs:Array Value,d={ target:=.fn (.func g) cs,args:= #[]}∧cs.size=caps.length∧
   ∀(i:Nat) (x:Nat×Nat) (v:Value),caps[i]? =some x→cs[i]? =some v→ ∃r,σ[x.1]? =some r∧v=.pointer (some ⟨r,x.2,none⟩))∧DRel σ t ds
 |_,_=>False
structure Rel (p:PQ) (σ:List Nat) (s:St) (a:Act) (w:World):Prop where
 size:a.tmps.size=s.n
 df:DRel σ s.df a.defers
 env: ∀t,VRel p σ w (get s.ρ t) (a.tmps.getD t undef)
 heap:HRel p σ s.H w
 m:s.m≤s.H.length
inductive TK where
 |bool|int (k:IntKind)|str|ptr (e:Nat)|slice (e:Nat)|arr (n e:Nat)|struct (fs:List (Nat×Nat))|func|map (k e:Nat)|tuple|other
 deriving Inhabited
structure TI where
 k:TK
 size:Nat
 bytes:Nat
 zero:List AV
 eq:Bool
 tr:Bool
 deriving Inhabited
def TI.isAgg (i:TI):Bool:=match i.k with|.struct _=>true|.arr _ _=>true|_=>false
abbrev TT:=Nat→Option TI
def cRel:AV→Value→Bool
 |.d (.int k n),.int k' n'=>decide (k=k')&&decide (n=n')
 |.d (.bool b),.bool b'=>b==b'
 |.d (.str s),.string s'=>decide (s=s')&&Nat.ble s'.size LB
 |.d .nptr,.pointer none=>true
 |.d .nfn,.nilFunc=>true
 |.d .nmap,.map none=>true
 |.nsl,.slice none 0 0=>true
 |_,_=>false
theorem cRel_rel {x:AV} {v:Value} (h:cRel x v=true) (p:PQ) (σ:List Nat) (w:World):VRel p σ w x v∧one v=true:=by
 unfold cRel at h
 split at h <;> first
  |(simp at h;done)
  |(simp at h;obtain ⟨rfl,rfl⟩:=h;exact⟨.int _ _,rfl⟩)
  |(simp at h;subst h;exact⟨.bool _,rfl⟩)
  |(simp at h;obtain ⟨rfl,h2⟩:=h;exact⟨.str _ h2,rfl⟩)
  |exact⟨.nptr,rfl⟩
  |exact⟨.nfn,rfl⟩
  |exact⟨.nmap,rfl⟩
  |exact⟨.nsl,rfl⟩
def toV:AV→Option Value
 |.d (.int k n)=>some (.int k n)
 |.d (.bool b)=>some (.bool b)
 |.d .nptr=>some (.pointer none)
 |.d .nfn=>some .nilFunc
 |.d .nmap=>some (.map none)
 |.nsl=>some (.slice none 0 0)
 |_=>none
def toVL:List AV→Option (List Value)
 |[]=>some []
 |x::t=>match toV x with
  |some v=>match toVL t with
   |some r=>some (v::r)
   |none=>none
  |none=>none
theorem toV_c {x:AV} {u v:Value} (h:cRel x v=true) (hu:toV x=some u):u=v:=by
 unfold cRel at h
 split at h <;> simp[toV] at hu <;> simp at h <;> (try (subst hu;simp[h]))
 all_goals (try (obtain ⟨rfl,rfl⟩:=h;rfl))
theorem toVL_get: ∀{l:List AV} {r:List Value},toVL l=some r→r.length=l.length∧ ∀(i:Nat) (x:AV) (u:Value),l[i]? =some x→r[i]? =some u→toV x=some u:=by
 intro l
 induction l with
 |nil=>intro r h;simp[toVL] at h;subst h;exact⟨rfl,fun i x u h=>by simp at h⟩
 |cons a t ih=>
  intro r h
  simp only[toVL] at h
  split at h
  ·rename_i d hd
   split at h
   ·rename_i r' hr
    injection h with h
    subst h
    obtain ⟨h1,h2⟩:=ih hr
    refine⟨by simp[h1],fun i x u hx hu=>?_⟩
    cases i with
    |zero=>simp at hx hu;subst hx hu;exact hd
    |succ i=>exact h2 i x u (by simpa using hx) (by simpa using hu)
   ·simp at h
  ·simp at h
def agreeK (P:Program):TK→TypeDesc→Bool
 |.bool,.bool=>true
 |.int k,.int k'=>decide (k=k')
 |.str,.string=>true
 |.ptr e,.pointer e'=>Nat.beq e e'
 |.slice e,.slice e'=>Nat.beq e e'
 |.arr n e,.array n' e'=>Nat.beq n n'&&Nat.beq e e'
 |.struct fs,.struct gs=>Nat.beq fs.length gs.size&&(fs.zip gs.toList).all fun (f,g)=>Nat.beq f.1 g.type&&Nat.beq f.2 g.offset&&(match P.info? g.type with|some i=> !Nat.beq i.size 0|none=>false)
 |.func,.func _ _ _=>true
 |.map k e,.map k' e'=>Nat.beq k k'&&Nat.beq e e'
 |.tuple,.tuple _=>true
 |_,_=>false
def eqB (P:Program) (t:Nat):Bool:=
 !P.stoodInHeld t&&(!P.eqGuardType P.depth t&&(match P.underlying t with|some (.struct gs)=>gs.toList.all fun g=>decide (g.name≠ "_")|some (.array _ _)=>true|_=>false))
def agreeB (P:Program) (t:Nat) (i:TI):Bool:=
 (Nat.beq i.zero.length i.size&&(!i.eq||eqB P t))&&
 ((match P.underlying t with|some u=>agreeK P i.k u|none=>false)&&
 (match P.info? t with
  |some j=>Nat.beq j.size i.size&&Nat.beq j.bytes i.bytes&&(match j.zero with
   |some z=>Nat.beq z.cells.size i.zero.length&&(i.zero.zip z.cells.toList).all fun (x,v)=>cRel x v
   |none=>false)
  |none=>false))
def TTok (P:Program) (tt:TT):Prop:= ∀t i,tt t=some i→agreeB P t i=true
end Go.Eng
namespace Go.Eng
open Go
def pushW (w:World) (o:Obj):World:={ w with heap:=w.heap.push o }
def setW (w:World) (r:Nat) (o:Obj):World:={ w with heap:=w.heap.setIfInBounds r o }
theorem pushW_old {w:World} {o:Obj} {b:Nat} (h:b<w.heap.size):(pushW w o).heap[b]? =w.heap[b]? :=by
 show (w.heap.push o)[b]? =_
 rw[Array.getElem?_push,if_neg (by omega)]
theorem pushW_new {w:World} {o:Obj}:(pushW w o).heap[w.heap.size]? =some o:=by
 show (w.heap.push o)[w.heap.size]? =_
 rw[Array.getElem?_push,if_pos rfl]
theorem pushW_size {w:World} {o:Obj}:(pushW w o).heap.size=w.heap.size+1:=by
 show (w.heap.push o).size=_
 simp
theorem setW_same {w:World} {r:Nat} {o:Obj} (h:r<w.heap.size):(setW w r o).heap[r]? =some o:=by simp[setW,h]
theorem setW_other {w:World} {r k:Nat} {o:Obj} (h:k≠r):(setW w r o).heap[k]? =w.heap[k]? :=by
 simp[setW,Ne.symm h]
theorem setW_size {w:World} {r:Nat} {o:Obj}:(setW w r o).heap.size=w.heap.size:=by simp[setW]
theorem lt_of_heap {w:World} {r:Nat} {o:Obj} (h:w.heap[r]? =some o):r<w.heap.size:=(Array.getElem?_eq_some_iff.1 h).1
theorem Shape.push (w:World) (o:Obj):Shape w (pushW w o):=
 ⟨by rw[pushW_size];omega,fun r c e fr h=>⟨c,fr,by rw[pushW_old (lt_of_heap h)];exact h,rfl⟩,rfl,rfl,rfl⟩
theorem Ext.push {p:PQ} {w:World} (hp: ∀b,p.u b→b<w.heap.size) (o:Obj):Ext p w p (pushW w o):=
 .mk1 (fun b h=>pushW_old (hp b h)) (.push w o)
theorem Shape.set {w:World} {r:Nat} {c c':Array Value} {e:TypeId} {fr:Nat×Nat} (h:w.heap[r]? =some (.cells c e fr)) (hs:c'.size=c.size):
  Shape w (setW w r (.cells c' e fr)):=by
 refine⟨by rw[setW_size];omega,fun r1 c1 e1 fr1 h1=>?_,rfl,rfl,rfl⟩
 by_cases hr:r1=r
 ·subst hr
  rw[h] at h1
  injection h1 with h1
  injection h1 with a b c3
  subst a b c3
  exact⟨c',_,setW_same (lt_of_heap h),hs⟩
 ·exact⟨c1,_,by rw[setW_other hr];exact h1,rfl⟩
theorem Shape.setOther {w:World} {r:Nat} {o o':Obj} (h:w.heap[r]? =some o) (ho: ∀c e fr,o≠.cells c e fr):Shape w (setW w r o'):=by
 refine⟨by rw[setW_size];omega,fun r1 c1 e1 fr1 h1=>?_,rfl,rfl,rfl⟩
 by_cases hr:r1=r
 ·subst hr
  rw[h] at h1
  injection h1 with h1
  exact absurd h1 (ho _ _ _)
 ·exact⟨c1,_,by rw[setW_other hr];exact h1,rfl⟩
theorem Ext.set {p:PQ} {w:World} {r:Nat} {o:Obj} (hp: ¬p.u r) (hs:Shape w (setW w r o)):Ext p w p (setW w r o):=
 .mk1 (fun b hb=>setW_other (fun e=>hp (e▸hb))) hs
theorem Ext.drawn (p:PQ) (w:World) (n:Nat):Ext p w p { w with drawn:=n }:=
 .mk1 (fun _ _=>rfl) ⟨Nat.le_refl _,fun _ c _ fr h=>⟨c,fr,h,rfl⟩,rfl,rfl,rfl⟩
theorem BRel.mono {p p':PQ} {σ σ':List Nat} {w w':World} (he:Ext p w p' w') (hσ: ∀(i r:Nat),σ[i]? =some r→σ'[i]? =some r)
  {k:Blk} {r:Nat} (hr:w'.heap[r]? =w.heap[r]?) (hf:isY k=true→p'.f=p.f∧ ∀b,p.f b→w'.heap[b]? =w.heap[b]?) (h:BRel p σ w k r):BRel p' σ' w' k r:=by
 cases k with
 |row cs=>
  obtain ⟨c,e,fr,h1,h2,h3,h4⟩:=h
  exact⟨c,e,fr,hr.trans h1,h2,h3,fun i x v hx hv=>⟨(h4 i x v hx hv).1.mono he hσ,(h4 i x v hx hv).2⟩⟩
 |iter s pos=>exact hr.trans h
 |dfr=>exact hr.trans h
 |raw o=>exact hr.trans h
 |bytes e bs=>obtain ⟨c,fr,z1,z2⟩:=h;exact⟨c,fr,hr.trans z1,z2⟩
 |mp ks vs=>obtain ⟨es,cl,z1,z2,z3,z4,z5⟩:=h;exact⟨es,cl,hr.trans z1,z2,z3,z4,fun i x e hx he'=>(z5 i x e hx he').mono he hσ⟩
 |yl Y k=>
  obtain ⟨rfl,h⟩:=h
  obtain ⟨f1,f2⟩:=hf rfl
  exact⟨rfl,Y.stI k p p' w w' h f1 he.subr (fun b hb=>hb.elim (fun h=>he.same b (p.sub b h) fun hf=>p.fr b hf h) fun h=>h.elim (f2 b) (fun e=>e▸hr)) he.shape⟩
 |yz Y=>
  obtain ⟨rfl,h⟩:=h
  obtain ⟨f1,f2⟩:=hf rfl
  exact⟨rfl,Y.stZ p p' w w' h f1 he.subr (fun b hb=>hb.elim (fun h=>he.same b (p.sub b h) fun hf=>p.fr b hf h) fun h=>h.elim (f2 b) (fun e=>e▸hr)) he.shape⟩
theorem mono_append {σ:List Nat} (x:Nat): ∀(i r:Nat),σ[i]? =some r→(σ++[x])[i]? =some r:=fun i r h=>by
 rw[List.getElem?_append_left (by have:=(List.getElem?_eq_some_iff.1 h).1;exact this)]
 exact h
theorem HRel.keep {p p':PQ} {σ:List Nat} {H:Heap} {w w':World} (h:HRel p σ H w) (he:Ext p w p' w')
  (hf:p'.f=p.f∧ ∀b,p.f b→w'.heap[b]? =w.heap[b]?) (hl: ∀b,p'.u b→b<w'.heap.size) (hn: ∀(i:Nat) (k:Blk) (r:Nat),H[i]? =some (some k)→σ[i]? =some r→ ¬p'.u r∧w'.heap[r]? =w.heap[r]?):HRel p' σ H w':=by
 refine⟨h.len,hl,fun i k hk=>?_,h.inj,h.gl.ext he⟩
 obtain ⟨r,h1,h2,h3,h4⟩:=h.blk i k hk
 obtain ⟨h5,h6⟩:=hn i k r hk h1
 exact⟨r,h1,h5,Nat.lt_of_lt_of_le h3 he.shape.1,h4.mono he (fun _ _ h=>h) h6 (fun _=>hf)⟩
theorem HRel.push {p:PQ} {σ:List Nat} {H:Heap} {w:World} (h:HRel p σ H w) (o:Obj) (k:Blk)
  (hk:BRel p (σ++[w.heap.size]) (pushW w o) k w.heap.size):HRel p (σ++[w.heap.size]) (H++[some k]) (pushW w o):=by
 have he:=Ext.push h.lt o
 refine⟨by simp[h.len],fun b hb=>by have:=h.lt b hb;rw[pushW_size];omega,fun i q hq=>?_,fun i j r a b ha hb hi hj=>?_,h.gl.ext he⟩
 ·rcases Nat.lt_or_ge i H.length with hi|hi
  ·rw[List.getElem?_append_left hi] at hq
   obtain ⟨r,h1,h2,h3,h4⟩:=h.blk i q hq
   exact⟨r,mono_append _ i r h1,h2,by rw[pushW_size];omega,h4.mono he (mono_append _) (pushW_old h3) (fun _=>⟨rfl,fun b hb=>pushW_old (h.lt b (p.fu b hb))⟩)⟩
  ·have:i=H.length:=by
    have:=(List.getElem?_eq_some_iff.1 hq).1
    simp at this
    omega
   subst this
   simp at hq
   subst hq
   refine⟨w.heap.size,by rw[← h.len];simp,fun hp=>absurd (h.lt _ hp) (by omega),by rw[pushW_size];omega,hk⟩
 ·have key: ∀(i r:Nat) (k:Blk),(H++[some k])[i]? =(H++[some k])[i]? →i<H.length+1→(σ++[w.heap.size])[i]? =some r→(i=H.length∧r=w.heap.size)∨(i<H.length∧σ[i]? =some r):=by
   intro i r k _ hi hr
   rcases Nat.lt_or_ge i H.length with hl|hl
   ·right
    rw[List.getElem?_append_left (by rw[h.len];exact hl)] at hr
    exact⟨hl,hr⟩
   ·left
    have:i=H.length:=by omega
    subst this
    rw[← h.len] at hr
    simp at hr
    exact⟨rfl,hr.symm⟩
  have li:=(List.getElem?_eq_some_iff.1 ha).1
  have lj:=(List.getElem?_eq_some_iff.1 hb).1
  simp at li lj
  rcases key i r k rfl li hi with ⟨e1,e2⟩|⟨e1,e2⟩ <;> rcases key j r k rfl lj hj with ⟨f1,f2⟩|⟨f1,f2⟩
  ·omega
  ·exfalso
   rw[List.getElem?_append_left f1] at hb
   obtain ⟨r',g1,_,g3,_⟩:=h.blk j b hb
   rw[f2] at g1
   injection g1 with g1
   omega
  ·exfalso
   rw[List.getElem?_append_left e1] at ha
   obtain ⟨r',g1,_,g3,_⟩:=h.blk i a ha
   rw[e2] at g1
   injection g1 with g1
   omega
  ·rw[List.getElem?_append_left e1] at ha
   rw[List.getElem?_append_left f1] at hb
   exact h.inj i j r a b ha hb e2 f2
theorem HRel.set {p:PQ} {σ:List Nat} {H:Heap} {w:World} (h:HRel p σ H w) {b r:Nat} {k:Blk} (hb:H[b]? =some (some k)) (hr:σ[b]? =some r) (o:Obj)
  (hs:Shape w (setW w r o)) (k':Blk) (hk:BRel p σ (setW w r o) k' r):HRel p σ (H.set b (some k')) (setW w r o):=by
 obtain ⟨r',h1,hpr,hlt,_⟩:=h.blk b k hb
 rw[hr] at h1
 injection h1 with h1
 subst h1
 have he:=Ext.set (o:=o) hpr hs
 refine⟨by simp[h.len],fun x hx=>by rw[setW_size];exact h.lt x hx,fun i q hq=>?_,fun i j r2 a c ha hc hi hj=>?_,h.gl.ext he⟩
 ·by_cases hi:i=b
  ·subst hi
   have:i<H.length:=(List.getElem?_eq_some_iff.1 hb).1
   rw[List.getElem?_set_self this] at hq
   injection hq with hq
   injection hq with hq
   subst hq
   exact⟨r,hr,hpr,by rw[setW_size];exact hlt,hk⟩
  ·rw[List.getElem?_set_ne (fun e=>hi e.symm)] at hq
   obtain ⟨r2,g1,g2,g3,g4⟩:=h.blk i q hq
   refine⟨r2,g1,g2,by rw[setW_size];exact g3,g4.mono he (fun _ _ h=>h) (setW_other fun e=>hi ?_) (fun _=>⟨rfl,fun b hb=>setW_other (fun e=>hpr (p.fu r (e▸hb)))⟩)⟩
   subst e
   exact h.inj i b r2 q k hq hb g1 hr
 ·have back: ∀(i:Nat) (a:Blk),(H.set b (some k'))[i]? =some (some a)→ ∃a',H[i]? =some (some a'):=by
   intro i a ha
   by_cases hi:i=b
   ·subst hi;exact⟨k,hb⟩
   ·rw[List.getElem?_set_ne (fun e=>hi e.symm)] at ha
    exact⟨a,ha⟩
  obtain ⟨a',ha'⟩:=back i a ha
  obtain ⟨c',hc'⟩:=back j c hc
  exact h.inj i j r2 a' c' ha' hc' hi hj
theorem HRel.kill {p:PQ} {σ:List Nat} {H:Heap} {w:World} (h:HRel p σ H w) (b:Nat):HRel p σ (H.set b none) w:=by
 have back: ∀(i:Nat) (a:Blk),(H.set b none)[i]? =some (some a)→H[i]? =some (some a):=by
  intro i a ha
  by_cases hi:i=b
  ·subst hi
   by_cases hl:i<H.length
   ·rw[List.getElem?_set_self hl] at ha
    simp at ha
   ·rw[List.getElem?_eq_none (by simp;omega)] at ha
    simp at ha
  ·rwa [List.getElem?_set_ne (fun e=>hi e.symm)] at ha
 exact⟨by simp[h.len],h.lt,fun i k hk=>h.blk i k (back i k hk),fun i j r k l hk hl=>h.inj i j r k l (back i k hk) (back j l hl),h.gl⟩
def spliceA (c:Array Value) (o:Nat):List Value→Array Value
 |[]=>c
 |v::t=>spliceA (c.setIfInBounds o v) (o+1) t
def splice (c:List AV) (o:Nat):List AV→List AV
 |[]=>c
 |v::t=>splice (c.set o v) (o+1) t
theorem spliceA_size (vs:List Value): ∀(c:Array Value) (o:Nat),(spliceA c o vs).size=c.size:=by
 induction vs with
 |nil=>intro c o;rfl
 |cons v t ih=>intro c o;simp[spliceA,ih]
theorem splice_length (vs:List AV): ∀(c:List AV) (o:Nat),(splice c o vs).length=c.length:=by
 induction vs with
 |nil=>intro c o;rfl
 |cons v t ih=>intro c o;simp[splice,ih]
theorem spliceA_get (vs:List Value): ∀(c:Array Value) (o i:Nat),o+vs.length≤c.size→(spliceA c o vs)[i]? =if o≤i∧i<o+vs.length then vs[i-o]? else c[i]? :=by
 induction vs with
 |nil=>intro c o i _;simp[spliceA];intro h1 h2;omega
 |cons v t ih=>
  intro c o i h
  simp only[List.length_cons] at h
  rw[spliceA,ih _ _ _ (by simp;omega)]
  simp only[List.length_cons,Array.getElem?_setIfInBounds]
  by_cases h1:i=o
  ·subst h1
   rw[if_neg (by omega),if_pos rfl,if_pos (by omega),if_pos (by omega)]
   simp
  ·by_cases h2:o+1≤i∧i<o+1+t.length
   ·rw[if_pos h2,if_pos (by omega)]
    rw[show i-o=(i-(o+1))+1 by omega]
    simp
   ·rw[if_neg h2,if_neg (fun e=>h1 e.symm),if_neg (by omega)]
theorem splice_get (vs:List AV): ∀(c:List AV) (o i:Nat),o+vs.length≤c.length→(splice c o vs)[i]? =if o≤i∧i<o+vs.length then vs[i-o]? else c[i]? :=by
 induction vs with
 |nil=>intro c o i _;simp[splice];intro h1 h2;omega
 |cons v t ih=>
  intro c o i h
  simp only[List.length_cons] at h
  rw[splice,ih _ _ _ (by simp;omega)]
  simp only[List.length_cons,List.getElem?_set]
  by_cases h1:i=o
  ·subst h1
   rw[if_neg (by omega),if_pos rfl,if_pos (by omega),if_pos (by omega)]
   simp
  ·by_cases h2:o+1≤i∧i<o+1+t.length
   ·rw[if_pos h2,if_pos (by omega)]
    rw[show i-o=(i-(o+1))+1 by omega]
    simp
   ·rw[if_neg h2,if_neg (fun e=>h1 e.symm),if_neg (by omega)]
theorem addr_add (r o n:Nat):(⟨r,o,none⟩:Addr).add n=⟨r,o+n,none⟩:=by
 unfold Addr.add
 split
 ·subst_vars;rfl
 ·rfl
theorem run_storeCells (P:Program) {r o:Nat} (vs:List Value): ∀(w:World) (c:Array Value) (e:TypeId) (fr:Nat×Nat) (i:Nat),w.heap[r]? =some (.cells c e fr)→NoFreeze c fr→
  o+i+vs.length≤c.size→(∀ v∈vs,one v=true)→(storeCells ⟨r,o,none⟩ vs i).run P w=.ok () (setW w r (.cells (spliceA c (o+i) vs) e fr)):=by
 induction vs with
 |nil=>
  intro w c e fr i h _ _ _
  simp only[storeCells,spliceA]
  have:setW w r (.cells c e fr)=w:=by
   unfold setW
   have:w.heap.setIfInBounds r (.cells c e fr)=w.heap:=by
    apply Array.ext_getElem?
    intro j
    rw[Array.getElem?_setIfInBounds]
    split
    ·subst_vars;rw[if_pos (lt_of_heap h)];exact h.symm
    ·rfl
   rw[this]
  rw[this]
  rfl
 |cons v t ih=>
  intro w c e fr i h hf hl ho
  simp only[List.length_cons] at hl
  have hcell:w.cell? ⟨r,o+i,none⟩=some (c[o+i]'(by omega)):=by
   simp[World.cell?,h]
  have hfz:w.frozen? ⟨r,o+i,none⟩=false:=by
   simp only[World.frozen?,h]
   have:=hf (o+i) (by omega)
   simp only[Bool.and_eq_false_iff,decide_eq_false_iff_not]
   omega
  have hset:w.setCell ⟨r,o+i,none⟩ v=setW w r (.cells (c.setIfInBounds (o+i) v) e fr):=by
   unfold World.setCell setW
   congr 1
   apply Array.ext_getElem?
   intro j
   rw[Array.getElem?_modify,Array.getElem?_setIfInBounds]
   split
   ·subst_vars
    rw[if_pos (lt_of_heap h),h]
    rfl
   ·rfl
  have hstep:(storeCells ⟨r,o,none⟩ (v::t) i).run P w=(storeCells ⟨r,o,none⟩ t (i+1)).run P (setW w r (.cells (c.setIfInBounds (o+i) v) e fr)):=by
   have hv:=ho v (by simp)
   show (Sem.bind (store ((⟨r,o,none⟩:Addr).add i) v) fun _=>storeCells ⟨r,o,none⟩ t (i+1)).run P w=_
   rw[addr_add]
   cases v <;> first
    |(simp [one] at hv;done)
    |(simp only[store,Sem.bind,Sem.run,hcell,hfz];rw[← hset];rfl)
  rw[hstep,ih (setW w r (.cells (c.setIfInBounds (o+i) v) e fr)) (c.setIfInBounds (o+i) v) e fr (i+1) (setW_same (lt_of_heap h)) (by unfold NoFreeze at *;simpa using hf) (by simp;omega) (fun x hx=>ho x (by simp[hx]))]
  simp only[spliceA]
  rw[show o+(i+1)=o+i+1 by omega]
  unfold setW
  simp
theorem run_loadCells (P:Program) {w:World} {r o:Nat} {c:Array Value} {e:TypeId} {fr:Nat×Nat} (h:w.heap[r]? =some (.cells c e fr)) (n:Nat): ∀(i:Nat) (acc:Array Value),
  o+i+n≤c.size→(loadCellsFrom ⟨r,o,none⟩ i n acc).run P w=.ok (acc++c.extract (o+i) (o+i+n)) w:=by
 induction n with
 |zero=>intro i acc _;simp[loadCellsFrom,pure];omega
 |succ n ih=>
  intro i acc hl
  have hcell:w.cell? ⟨r,o+i,none⟩=some (c[o+i]'(by omega)):=by
   simp[World.cell?,h]
  show (Sem.bind (load ((⟨r,o,none⟩:Addr).add i)) fun v=>loadCellsFrom ⟨r,o,none⟩ (i+1) n (acc.push v)).run P w=_
  rw[addr_add]
  simp only[load,Sem.bind,Sem.run,hcell]
  rw[ih (i+1) _ (by omega)]
  congr 1
  apply Array.ext_getElem?
  intro j
  simp only[Array.getElem?_append,Array.size_push,Array.getElem?_push,Array.getElem?_extract]
  by_cases h1:j<acc.size
  ·rw[if_pos (by omega),if_pos h1,if_neg (by omega)]
  ·by_cases h2:j=acc.size
   ·subst h2
    rw[if_pos (by omega),if_neg h1,if_pos rfl,if_pos (by omega)]
    simp[show o+i<c.size by omega]
   ·rw[if_neg (by omega),if_neg h1]
    rw[show o+(i+1)+(j-(acc.size+1))=o+i+(j-acc.size) by omega]
    by_cases h3:j-acc.size<min (o+i+(n+1)) c.size-(o+i)
    ·rw[if_pos h3,if_pos (by omega)]
    ·rw[if_neg h3,if_neg (by omega)]
end Go.Eng
namespace Go.Eng
open Go
def Ent (P:Program) (f:FuncId):Prop:= ∃fn,P.funcs[f]? =some fn∧fn.body.isNone=false∧(fn.name== "runtime.NumGoroutine")=false
structure Tri (P:Program) (f:FuncId) (args:List AV) (H:Heap) (Q:AV→Heap→Prop):Prop where
 out:
 Ent P f∧ ∀(p:PQ) (σ:List Nat) (w:World) (vs:Array Value),HRel p σ H w→vs.size=args.length→
  (∀ (i:Nat) (x:AV) (v:Value),args[i]? =some x→vs[i]? =some v→VRel p σ w x v)→
  Calls P f vs w fun e w'=> ∃v x p' σ' H',e=.returned v∧Ext p w p' w'∧(∀ (i r:Nat),σ[i]? =some r→σ'[i]? =some r)∧HRel p' σ' H' w'∧VRel p' σ' w' x v∧Q x H'
theorem Tri_eq (P:Program) (f:FuncId) (args:List AV) (H:Heap) (Q:AV→Heap→Prop):Tri P f args H Q=(Ent P f∧ ∀(p:PQ) (σ:List Nat) (w:World) (vs:Array Value),HRel p σ H w→vs.size=args.length→
  (∀ (i:Nat) (x:AV) (v:Value),args[i]? =some x→vs[i]? =some v→VRel p σ w x v)→
  Calls P f vs w fun e w'=> ∃v x p' σ' H',e=.returned v∧Ext p w p' w'∧(∀ (i r:Nat),σ[i]? =some r→σ'[i]? =some r)∧HRel p' σ' H' w'∧VRel p' σ' w' x v∧Q x H'):=propext ⟨fun h=>h.out,fun h=>⟨h⟩⟩
theorem Tri.mono {P:Program} {f:FuncId} {args:List AV} {H:Heap} {Q Q':AV→Heap→Prop} (h:Tri P f args H Q) (hq: ∀x H',Q x H'→Q' x H'):Tri P f args H Q':=by
 simp only[Tri_eq] at *
 refine⟨h.1,fun p σ w vs hH hs hv=>(h.2 p σ w vs hH hs hv).mono ?_⟩
 rintro e w' ⟨v,x,p',σ',H',a,b,c,d,e',f'⟩
 exact⟨v,x,p',σ',H',a,b,c,d,e',hq _ _ f'⟩
def Fr (ro:Option Nat):Fence:={ Fence.wide with round:=ro }
def noYx (g:List Nat):Heap→Nat→Bool
 |[],_=>true
 |none::t,j=>noYx g t (j+1)
 |some k::t,j=>(!isY k||g.any fun x=>Nat.beq x j)&&noYx g t (j+1)
theorem noYx_get {g:List Nat}: ∀{H:Heap} {j:Nat},noYx g H j=true→ ∀{i:Nat} {k:Blk},H[i]? =some (some k)→j+i∉g→isY k=false:=by
 intro H
 induction H with
 |nil=>intro j _ i k h;simp at h
 |cons b t ih=>
  intro j h i k hk hn
  cases b with
  |none=>cases i with
   |zero=>simp at hk
   |succ i=>simp only[List.getElem?_cons_succ] at hk;exact ih h hk (by rw[show j+1+i=j+(i+1) by omega];exact hn)
  |some b=>
   simp only[noYx,Bool.and_eq_true,Bool.or_eq_true,Bool.not_eq_true',List.any_eq_true] at h
   cases i with
   |zero=>
    simp at hk
    subst hk
    rcases h.1 with h1|⟨x,h1,h2⟩
    ·exact h1
    ·have:=Nat.eq_of_beq_eq_true h2
     subst this
     exact absurd h1 hn
   |succ i=>simp only[List.getElem?_cons_succ] at hk;exact ih h.2 hk (by rw[show j+1+i=j+(i+1) by omega];exact hn)
def grow (p:PQ) (w w':World):PQ:=
 ⟨p.r,fun b=>p.u b∨(w.heap.size≤b∧b<w'.heap.size∧ ¬p.r b),fun b=>p.f b∨(w.heap.size≤b∧b<w'.heap.size∧ ¬p.r b),fun b h=>.inl (p.sub b h),fun b h=>h.imp (p.fu b) id,fun b h hr=>h.elim (fun h=>p.fr b h hr) fun h=>h.2.2 hr⟩
def argsY:AV→List AV
 |.tup l=>l
 |.any=>[.any]
 |.d x=>[.d x]
 |.nsl=>[.nsl]
 |.esl=>[.esl]
 |.ptr b o=>[.ptr b o]
 |.fptr r o=>[.fptr r o]
 |.msl b o l c z=>[.msl b o l c z]
 |.mp b=>[.mp b]
 |.clos f a c=>[.clos f a c]
 |.agg cs=>[.agg cs]
def VsRel (p:PQ) (σ:List Nat) (w:World) (as_:List AV) (vs:Array Value):Prop:=vs.size=as_.length∧ ∀(i:Nat) (x:AV) (v:Value),as_[i]? =some x→vs[i]? =some v→VRel p σ w x v
theorem one_val {p:PQ} {σ:List Nat} {w:World} {x:AV} {vs:Array Value} (hx:argsY x=[x]) (h:VsRel p σ w (argsY x) vs): ∃v,vs= #[v]∧VRel p σ w x v:=by
 rw[hx] at h
 obtain ⟨h1,h2⟩:=h
 have hsz:vs.size=1:=h1
 refine⟨vs[0]'(by omega),?_,h2 0 x _ rfl (Array.getElem?_eq_getElem (by omega))⟩
 apply Array.ext
 ·simp[hsz]
 ·intro j h1 h2
  have:j=0:=by omega
  subst this
  rfl
def YLaw (P:Program) (Y:Ysp):Prop:= ∀(k:Nat) (x:AV) (vs:Array Value) (p:PQ) (σ:List Nat) (w:World),Y.I k p w→Y.xs[k]? =some x→VsRel p σ w (argsY x) vs→(∀ b,p.u b→b<w.heap.size)→ ¬p.u Y.l→Y.l<w.heap.size→
 ∃f tmps assign body,(Instr.yield Y.l vs).run P w=.ok (.round Y.l f tmps assign body) w∧RoundIn Fence.wide 0 P Y.l f tmps assign body w fun e w'=>
  ∃b,e=.returned (.bool b)∧(b=true→Y.I (k+1) (grow p w w') w')∧(b=false→Y.Z (grow p w w') w')∧(∀ c,c<w.heap.size→ ¬p.f c→c≠Y.l→w'.heap[c]? =w.heap[c]?)∧Shape w w'
structure YieldK (P:Program) (l:Nat) (as_:List AV) (H:Heap) (K:AV→Heap→Prop):Prop where
 out:
 ∃(i:Nat) (Y:Ysp) (k:Nat) (x:AV),H[i]? =some (some (.yl Y k))∧Y.l=l∧YLaw P Y∧noYx [i] H 0=true∧as_=argsY x∧Y.xs[k]? =some x∧K (.d (.bool true)) (H.set i (some (.yl Y (k+1))))∧K (.d (.bool false)) (H.set i (some (.yz Y)))
theorem YieldK_eq (P:Program) (l:Nat) (as_:List AV) (H:Heap) (K:AV→Heap→Prop):YieldK P l as_ H K=(∃ (i:Nat) (Y:Ysp) (k:Nat) (x:AV),H[i]? =some (some (.yl Y k))∧Y.l=l∧YLaw P Y∧noYx [i] H 0=true∧as_=argsY x∧Y.xs[k]? =some x∧K (.d (.bool true)) (H.set i (some (.yl Y (k+1))))∧K (.d (.bool false)) (H.set i (some (.yz Y)))):=propext ⟨fun h=>h.out,fun h=>⟨h⟩⟩
theorem Yield_in {P:Program} {l:Nat} {as_:List AV} {H:Heap} {K:AV→Heap→Prop} (i:Nat) (Y:Ysp) (k:Nat) (x:AV) (h1:H[i]? =some (some (.yl Y k))) (h2:Y.l=l) (h3:YLaw P Y) (h4:noYx [i] H 0=true) (h5:as_=argsY x) (h6:Y.xs[k]? =some x)
  (h7:K (.d (.bool true)) (H.set i (some (.yl Y (k+1))))) (h8:K (.d (.bool false)) (H.set i (some (.yz Y)))):YieldK P l as_ H K:=by
 simp only[YieldK_eq];exact⟨i,Y,k,x,h1,h2,h3,h4,h5,h6,h7,h8⟩
def ofLeaf:Value→AV
 |.int k n=>.d (.int k n)
 |.bool b=>.d (.bool b)
 |.string s=>match Nat.ble s.size LB with|true=>.d (.str s)|false=>.any
 |.pointer none=>.d .nptr
 |.slice none 0 0=>.nsl
 |.nilFunc=>.d .nfn
 |.map none=>.d .nmap
 |_=>.any
def ofC:Value→AV
 |.agg cs=>match cs.toList.all one with|true=>.agg (cs.toList.map ofLeaf)|false=>.any
 |v=>ofLeaf v
theorem ofLeaf_rel (v:Value) (p:PQ) (σ:List Nat) (w:World):VRel p σ w (ofLeaf v) v:=by
 unfold ofLeaf
 split <;> first|exact .int _ _|exact .bool _|exact .nptr|exact .nsl|exact .nfn|exact .nmap|exact .any _|skip
 split
 ·rename_i h;exact .str _ (Nat.le_of_ble_eq_true h)
 ·exact .any _
theorem ofC_rel (v:Value) (p:PQ) (σ:List Nat) (w:World):VRel p σ w (ofC v) v:=by
 unfold ofC
 split
 ·split
  ·rename_i cs h
   refine .agg _ _ (by simp) (fun i v hv=>?_) (fun i x v hx hv=>?_)
   ·have:=List.all_eq_true.1 h v (by
     have:=Array.mem_of_getElem? hv
     exact Array.mem_toList_iff.2 this)
    exact this
   ·simp only[List.getElem?_map,Array.getElem?_toList,hv,Option.map_some,Option.some.injEq] at hx
    subst hx
    exact ofLeaf_rel v p σ w
  ·exact .any _
 ·exact ofLeaf_rel _ p σ w
def evalO (ρ:Nat→AV):Operand→AV
 |.tmp t=>ρ t
 |.const v=>ofC v
 |.global _=>.any
 |.func f=>.d (.fn f)
theorem evalO_rel {p:PQ} {σ:List Nat} {s:St} {a:Act} {w:World} (h:Rel p σ s a w) (x:Operand):VRel p σ w (evalO (get s.ρ) x) (a.eval x):=by
 cases x with
 |tmp t=>exact h.env t
 |const v=>exact ofC_rel v p σ w
 |global g=>exact .any _
 |func f=>exact .fn f
def Br (b:Bool) (X Y:Prop):Prop:=match b with|true=>X|false=>Y
structure ArK (k:IntKind) (e:Int) (K:Int→Prop):Prop where
 out:K (k.wrap e)
theorem ArK_eq (k:IntKind) (e:Int) (K:Int→Prop):ArK k e K=(K (k.wrap e)):=propext ⟨fun h=>h.out,fun h=>⟨h⟩⟩
structure LenK (n:Nat) (K:Prop):Prop where
 out:n≤LB→K
theorem LenK_eq (n:Nat) (K:Prop):LenK n K=(n≤LB→K):=propext ⟨fun h=>h.out,fun h=>⟨h⟩⟩
structure NeedK (φ K:Prop):Prop where
 left:φ
 right:K
theorem NeedK_eq (φ K:Prop):NeedK φ K=(φ∧K):=propext ⟨fun h=>⟨h.left,h.right⟩,fun h=>⟨h.1,h.2⟩⟩
structure IdxK (rows:List (List D)) (n:Int) (sz:Nat) (K:List D→Prop):Prop where
 out: ∃row,rows[n.toNat]? =some row∧0≤n∧row.length=sz∧K row
theorem IdxK_eq (rows:List (List D)) (n:Int) (sz:Nat) (K:List D→Prop):IdxK rows n sz K=(∃ row,rows[n.toNat]? =some row∧0≤n∧row.length=sz∧K row):=propext ⟨fun h=>h.out,fun h=>⟨h⟩⟩
structure ByteK (s:ByteArray) (n:Int) (K:UInt8→Prop):Prop where
 out: ∃c:UInt8,s.data.toList[n.toNat]? =some c∧0≤n∧K c
theorem ByteK_eq (s:ByteArray) (n:Int) (K:UInt8→Prop):ByteK s n K=(∃ c:UInt8,s.data.toList[n.toNat]? =some c∧0≤n∧K c):=propext ⟨fun h=>h.out,fun h=>⟨h⟩⟩
theorem Len_in {n:Nat} {K:Prop} (h:n≤281474976710656→K):LenK n K:=by simp only[LenK_eq];exact fun hn=>h (by unfold LB at hn;exact hn)
theorem Need_in {φ K:Prop} (h:φ) (hK:K):NeedK φ K:=by simp only[NeedK_eq];exact⟨h,hK⟩
theorem Idx_in {rows:List (List D)} {n:Int} {sz:Nat} {K:List D→Prop} (row:List D) (h:rows[n.toNat]? =some row) (h0:0≤n) (hl:row.length=sz) (hK:K row):IdxK rows n sz K:=by
 simp only[IdxK_eq];exact⟨row,h,h0,hl,hK⟩
theorem Byte_in {s:ByteArray} {n:Int} {K:UInt8→Prop} (c:UInt8) (h:s.data.toList[n.toNat]? =some c) (h0:0≤n) (hK:K c):ByteK s n K:=by
 simp only[ByteK_eq];exact⟨c,h,h0,hK⟩
structure TextK (rows:List (List D)) (K:ByteArray→Prop):Prop where
 out: ∃l:List UInt8,rows=l.map (fun c=>[.int .u8 c.toNat])∧K ⟨l.toArray⟩
theorem Text_in {rows:List (List D)} {K:ByteArray→Prop} (l:List UInt8) (h:rows=l.map (fun c=>[D.int .u8 c.toNat])) (hK:K ⟨l.toArray⟩):TextK rows K:=⟨l,h,hK⟩
def apK (K:AV→Prop) (v:AV):Prop:=K v
def force (v:AV) (K:AV→Prop):Prop:=
 match v with
 |.any=>apK K .any
 |.d x=>match x with
  |.int k n=>apK K (.d (.int k n))
  |.bool b=>apK K (.d (.bool b))
  |.str s=>apK K (.d (.str s))
  |.sl r=>apK K (.d (.sl r))
  |.fn f=>apK K (.d (.fn f))
  |.nptr=>apK K (.d .nptr)
  |.nfn=>apK K (.d .nfn)
  |.nmap=>apK K (.d .nmap)
 |.nsl=>apK K .nsl
 |.esl=>apK K .esl
 |.ptr b o=>apK K (.ptr b o)
 |.fptr r o=>apK K (.fptr r o)
 |.msl b o l c z=>apK K (.msl b o l c z)
 |.mp b=>apK K (.mp b)
 |.clos f a c=>apK K (.clos f a c)
 |.agg cs=>apK K (.agg cs)
 |.tup vs=>apK K (.tup vs)
theorem force_eq (v:AV) (K:AV→Prop):force v K=K v:=by
 cases v <;> first|rfl|(rename_i x;cases x <;> rfl)
def forceL (vs:List AV) (K:List AV→Prop):Prop:=
 match vs with
 |[]=>K []
 |v::t=>force v fun v'=>forceL t fun t'=>K (v'::t')
theorem forceL_eq (vs:List AV): ∀K:List AV→Prop,forceL vs K=K vs:=by
 induction vs with
 |nil=>intro K;rfl
 |cons v t ih=>intro K;simp only[forceL,force_eq,ih]
def forceD (x:D) (K:D→Prop):Prop:=
 match x with
  |.int k n=>K (.int k n)
  |.bool b=>K (.bool b)
  |.str s=>K (.str s)
  |.sl r=>K (.sl r)
  |.fn f=>K (.fn f)
  |.nptr=>K .nptr
  |.nfn=>K .nfn
  |.nmap=>K .nmap
theorem forceD_eq (x:D) (K:D→Prop):forceD x K=K x:=by cases x <;> rfl
def pushK (H:Heap) (k:Blk) (K:Nat→Heap→Prop):Prop:=go H 0 K
where go:Heap→Nat→(Nat→Heap→Prop)→Prop
 |[],n,K=>K n [some k]
 |x::t,n,K=>go t (n+1) fun m H'=>K m (x::H')
theorem pushK_go (k:Blk) (H:Heap): ∀(n:Nat) (K:Nat→Heap→Prop),pushK.go k H n K=K (n+H.length) (H++[some k]):=by
 induction H with
 |nil=>intro n K;simp[pushK.go]
 |cons x t ih=>intro n K;simp only[pushK.go,ih,List.length_cons,List.cons_append];rw[show n+1+t.length=n+(t.length+1) by omega]
theorem pushK_eq (H:Heap) (k:Blk) (K:Nat→Heap→Prop):pushK H k K=K H.length (H++[some k]):=by
 simp[pushK,pushK_go]
def setK (H:Heap) (b:Nat) (k:Option Blk) (K:Heap→Prop):Prop:=
 match H,b with
 |[],_=>K []
 |_::t,0=>K (k::t)
 |x::t,b+1=>setK t b k fun H'=>K (x::H')
theorem setK_eq (H:Heap) (k:Option Blk): ∀(b:Nat) (K:Heap→Prop),setK H b k K=K (H.set b k):=by
 induction H with
 |nil=>intro b K;cases b <;> rfl
 |cons x t ih=>intro b K;cases b with
  |zero=>rfl
  |succ b=>simp only[setK,ih,List.set_cons_succ]
def rowOf (H:Heap) (b:Nat):Option (List AV):=
 match H[b]? with
 |some (some (.row cs))=>some cs
 |_=>none
theorem rowOf_some {H:Heap} {b:Nat} {cs:List AV} (h:rowOf H b=some cs):H[b]? =some (some (.row cs)):=by
 unfold rowOf at h
 split at h
 ·rename_i e;injection h with h;subst h;exact e
 ·simp at h
def sub (cs:List AV) (o n:Nat):List AV:=(cs.drop o).take n
def subD (cs:List D) (o n:Nat):List AV:=
 match n with
 |0=>[]
 |n+1=>match cs[o]? with
  |some x=>.d x::subD cs (o+1) n
  |none=>[]
def CellK (cs:List AV) (o:Nat) (K:AV→Prop):Prop:=
 match cs[o]? with
 |some v=>force v K
 |none=>False
def loadK (ti:TI) (cs:List AV) (o:Nat) (K:AV→Prop):Prop:=
 match ti.isAgg with
 |true=>Br (Nat.ble (o+ti.size) cs.length) (forceL (sub cs o ti.size) fun l=>K (.agg l)) False
 |false=>CellK cs o K
theorem Cell_in {cs:List AV} {o:Nat} {K:AV→Prop} (v:AV) (h:cs[o]? =some v) (hK:force v K):CellK cs o K:=by
 unfold CellK;rw[h];exact hK
def loadDK (ti:TI) (cs:List D) (o:Nat) (K:AV→Prop):Prop:=
 match ti.isAgg with
 |true=>match Nat.ble (o+ti.size) cs.length with
  |true=>forceL (subD cs o ti.size) fun l=>K (.agg l)
  |false=>False
 |false=>match cs[o]? with
  |some x=>forceD x fun x=>K (.d x)
  |none=>False
def cellsK (v:AV) (K:List AV→Prop):Prop:=
 match v with
 |.agg cs=>K cs
 |v=>match leaf v with
  |true=>K [v]
  |false=>False
def fldOf (ti:TI) (f:Nat):Option (Nat×Nat):=
 match ti.k with
 |.struct fs=>fs[f]?
 |_=>none
def eqLeaf (k:TK) (x y:AV):Option Bool:=
 match k with
 |.int k0=>match x,y with
  |.d (.int k a),.d (.int k' b)=>match decide (k=k0) with
   |true=>match decide (k'=k0) with
    |true=>some (a==b)
    |false=>none
   |false=>none
  |_,_=>none
 |.bool=>match x,y with
  |.d (.bool a),.d (.bool b)=>some (a==b)
  |_,_=>none
 |.str=>match x,y with
  |.d (.str a),.d (.str b)=>some (a==b)
  |_,_=>none
 |_=>none
def eqL (tt:TT):List (Nat×Nat)→Nat→List AV→List AV→Option (List Bool)
 |[],_,[],[]=>some []
 |(t,o)::fs,i,x::xs,y::ys=>match Nat.beq o i with
  |true=>match tt t with
   |some ti=>match eqLeaf ti.k x y with
    |some b=>match eqL tt fs (i+1) xs ys with
     |some r=>some (b::r)
     |none=>none
    |none=>none
   |none=>none
  |false=>none
 |_,_,_,_=>none
def arrG (e:Nat):Nat→Nat→List (Nat×Nat)
 |_,0=>[]
 |i,n+1=>(e,i)::arrG e (i+1) n
theorem arrG_get {e:Nat}: ∀{n i j:Nat} {f:Nat×Nat},(arrG e i n)[j]? =some f→f=(e,i+j)∧j<n:=by
 intro n
 induction n with
 |zero=>intro i j f h;simp[arrG] at h
 |succ n ih=>
  intro i j f h
  cases j with
  |zero=>simp[arrG] at h;exact⟨h.symm,by omega⟩
  |succ j=>
   obtain ⟨h1,h2⟩:=ih (i:=i+1) (j:=j) (f:=f) (by simpa [arrG] using h)
   exact⟨by rw[h1];congr 1;omega,by omega⟩
theorem arrG_len {e:Nat}: ∀{n i:Nat},(arrG e i n).length=n:=by
 intro n
 induction n with
 |zero=>intro i;rfl
 |succ n ih=>intro i;simp[arrG,ih]
def cmpF (tt:TT):TK→Option (List (Nat×Nat))
 |.struct fs=>some fs
 |.arr 0 _=>none
 |.arr (n+1) e=>match tt e with
  |some ei=>match Nat.beq ei.size 1 with
   |true=>some (arrG e 0 (n+1))
   |false=>none
  |none=>none
 |_=>none
def allB:List Bool→Bool
 |[]=>true
 |[b]=>b
 |b::r=>b&&allB r
theorem allB_eq (l:List Bool):allB l=l.all id:=by
 induction l with
 |nil=>rfl
 |cons b r ih=>cases r with
  |nil=>simp[allB]
  |cons c t=>rw[allB,ih];simp;intro h;cases h
structure NilK (rows:List (List D)) (K:Bool→Prop):Prop where
 out: ∀b:Bool,(rows≠[]→b=false)→K b
theorem NilK_eq (rows:List (List D)) (K:Bool→Prop):NilK rows K=(∀ b:Bool,(rows≠[]→b=false)→K b):=propext ⟨fun h=>h.out,fun h=>⟨h⟩⟩
def nilK (x:AV) (K:Bool→Prop):Prop:=
 match x with
 |.nsl=>K true
 |.msl _ _ _ _ _=>K false
 |.esl=>NilK [] K
 |.d (.sl rows)=>NilK rows K
 |_=>False
def ptrEqV (x y:AV):Option Bool:=
 match x with
 |.d .nptr=>match y with
  |.d .nptr=>some true
  |.ptr _ _=>some false
  |.fptr _ _=>some false
  |_=>none
 |.ptr b o=>match y with
  |.d .nptr=>some false
  |.ptr b' o'=>match Nat.beq b b' with
   |true=>match Nat.beq o o' with
    |true=>some true
    |false=>none
   |false=>none
  |_=>none
 |.fptr _ _=>match y with
  |.d .nptr=>some false
  |_=>none
 |_=>none
def ptrK (tt:TT) (e:Nat) (op:BinOp) (z:Option Bool) (K:AV→Prop):Prop:=
 match tt e with
 |none=>False
 |some ei=>match Nat.beq ei.size 0 with
  |true=>False
  |false=>match z with
   |none=>False
   |some b=>match op with
    |.eql=>K (.d (.bool b))
    |.neq=>K (.d (.bool (!b)))
    |_=>False
def binK (tt:TT) (ti:Option TI) (op:BinOp) (x y:AV) (K:AV→Prop):Prop:=
 match x with
 |.d (.int k a)=>match y with
  |.d (.int k' b)=>match decide (k=k') with
   |true=>match op with
    |.add=>ArK k (a+b) fun n=>K (.d (.int k n))
    |.sub=>ArK k (a-b) fun n=>K (.d (.int k n))
    |.mul=>ArK k (a * b) fun n=>K (.d (.int k n))
    |.quo=>NeedK (b≠0) (ArK k (a.tdiv b) fun n=>K (.d (.int k n)))
    |.rem=>NeedK (b≠0) (K (.d (.int k (a.tmod b))))
    |.eql=>K (.d (.bool (a==b)))
    |.neq=>K (.d (.bool (a != b)))
    |.lss=>K (.d (.bool (decide (a<b))))
    |.leq=>K (.d (.bool (decide (a≤b))))
    |.gtr=>K (.d (.bool (decide (a>b))))
    |.geq=>K (.d (.bool (decide (a≥b))))
    |.shr=>NeedK (0≤b) (K (.d (.int k (a.fdiv (2 ^ min b.toNat k.bits)))))
    |_=>False
   |false=>False
  |_=>False
 |.d (.str a)=>match y with
  |.d (.str b)=>match op with
   |.add=>NeedK (a.size+b.size≤LB) (K (.d (.str (a++b))))
   |.eql=>K (.d (.bool (a.toList==b.toList)))
   |.neq=>K (.d (.bool (!(a.toList==b.toList))))
   |_=>False
  |_=>False
 |.d (.bool a)=>match ti with
  |none=>False
  |some ti=>match ti.k with
   |.bool=>match y with
    |.d (.bool b)=>match op with
     |.eql=>K (.d (.bool (a==b)))
     |.neq=>K (.d (.bool (!(a==b))))
     |_=>False
    |_=>False
   |_=>False
 |.agg xs=>match ti with
  |none=>False
  |some ti=>match cmpF tt ti.k with
   |some fs=>match y with
    |.agg ys=>match ti.eq with
     |true=>match eqL tt fs 0 xs ys with
      |some bs=>match op with
       |.eql=>K (.d (.bool (allB bs)))
       |.neq=>K (.d (.bool (!(allB bs))))
       |_=>False
      |none=>False
     |false=>False
    |_=>False
   |none=>False
 |x=>match ti with
  |none=>False
  |some ti=>match ti.k with
   |.slice _=>match y with
    |.nsl=>match op with
     |.eql=>nilK x fun b=>K (.d (.bool b))
     |.neq=>nilK x fun b=>K (.d (.bool (!b)))
     |_=>False
    |_=>False
   |.ptr e=>ptrK tt e op (ptrEqV x y) K
   |_=>False
structure ChK (A B:Prop):Prop where
 out:A∨B
theorem ChK_eq (A B:Prop):ChK A B=(A∨B):=propext ⟨fun h=>h.out,fun h=>⟨h⟩⟩
theorem Ch_l {A B:Prop} (h:A):ChK A B:=by simp only[ChK_eq];exact .inl h
theorem Ch_r {A B:Prop} (h:B):ChK A B:=by simp only[ChK_eq];exact .inr h
theorem Ch_e {A B:Prop} (h:ChK A B):A∨B:=by simp only[ChK_eq] at h;exact h
def toD1:AV→Option D
 |.d x=>some x
 |.nsl=>some (.sl [])
 |.esl=>some (.sl [])
 |_=>none
def toDL:List AV→Option (List D)
 |[]=>some []
 |x::t=>match toD1 x with
  |some d=>match toDL t with
   |some r=>some (d::r)
   |none=>none
  |none=>none
def chunkD (sz:Nat):Nat→List D→List (List D)
 |0,_=>[]
 |n+1,l=>l.take sz::chunkD sz n (l.drop sz)
theorem toDL_get: ∀{l:List AV} {r:List D},toDL l=some r→r.length=l.length∧ ∀(i:Nat) (x:AV) (y:D),l[i]? =some x→r[i]? =some y→toD1 x=some y:=by
 intro l
 induction l with
 |nil=>intro r h;simp[toDL] at h;subst h;exact⟨rfl,fun i x y h=>by simp at h⟩
 |cons a t ih=>
  intro r h
  simp only[toDL] at h
  split at h
  ·rename_i d hd
   split at h
   ·rename_i r' hr
    injection h with h
    subst h
    obtain ⟨h1,h2⟩:=ih hr
    refine⟨by simp[h1],fun i x y hx hy=>?_⟩
    cases i with
    |zero=>simp at hx hy;subst hx hy;exact hd
    |succ i=>exact h2 i x y (by simpa using hx) (by simpa using hy)
   ·simp at h
  ·simp at h
theorem chunkD_length (sz n:Nat): ∀l,(chunkD sz n l).length=n:=by
 induction n with
 |zero=>intro l;rfl
 |succ n ih=>intro l;simp[chunkD,ih]
theorem chunkD_get (sz n:Nat): ∀(l:List D) (i:Nat),(chunkD sz n l)[i]? =if i<n then some ((l.drop (i * sz)).take sz) else none:=by
 induction n with
 |zero=>intro l i;simp[chunkD]
 |succ n ih=>
  intro l i
  cases i with
  |zero=>simp[chunkD]
  |succ i=>
   simp only[chunkD,List.getElem?_cons_succ,ih,List.drop_drop]
   rw[show sz+i * sz=(i+1) * sz by rw[Nat.add_mul];omega]
   by_cases h:i<n
   ·rw[if_pos h,if_pos (by omega)]
   ·rw[if_neg h,if_neg (by omega)]
def datK (sz n:Nat) (cs:List AV) (K:AV→Prop):Prop:=
 match n with
 |0=>K .esl
 |n+1=>match toDL cs with
  |some l=>K (.d (.sl (chunkD sz (n+1) l)))
  |none=>False
theorem toD1_rel {p:PQ} {σ:List Nat} {w:World} {x:AV} {y:D} {v:Value} (h:toD1 x=some y) (hv:VRel p σ w x v):VRel p σ w (.d y) v:=by
 have nil: ∀a:Option Addr,VRel p σ w (.d (.sl [])) (.slice a 0 0):=fun a=>
  .sl [] a 0 0 0 (fun _ _=>undef) rfl (Nat.zero_le _) (Nat.le_refl _) (fun i row h=>by simp at h) (fun h=>absurd rfl h) (fun i row j x h=>by simp at h)
 cases hv <;> simp[toD1] at h <;> subst h
 all_goals first
  |exact nil _
  |(constructor <;> assumption)
def kIx:List Int→Int→Option Nat
 |[],_=>none
 |k::t,n=>match decide (n=k) with
  |true=>some 0
  |false=>match kIx t n with
   |some i=>some (i+1)
   |none=>none
def lkV:List Int→List AV→Int→Option AV
 |[],_,_=>none
 |_::_,[],_=>none
 |k::t,x::xs,n=>match decide (n=k) with
  |true=>some x
  |false=>lkV t xs n
def putKs:List Int→Int→List Int
 |[],n=>[n]
 |k::t,n=>match decide (n=k) with
  |true=>k::t
  |false=>k::putKs t n
def putVs:List Int→List AV→Int→AV→List AV
 |[],_,_,v=>[v]
 |_::_,[],_,v=>[v]
 |k::t,x::xs,n,v=>match decide (n=k) with
  |true=>v::xs
  |false=>x::putVs t xs n v
def delKs:List Int→Int→List Int
 |[],_=>[]
 |k::t,n=>match decide (n=k) with
  |true=>t
  |false=>k::delKs t n
def delVs:List Int→List AV→Int→List AV
 |[],_,_=>[]
 |_::_,[],_=>[]
 |k::t,x::xs,n=>match decide (n=k) with
  |true=>xs
  |false=>x::delVs t xs n
structure LkK (ks:List Int) (vs:List AV) (n:Int) (z:AV) (K:Bool→AV→Prop):Prop where
 out:(∀ x,lkV ks vs n=some x→K true x)∧(lkV ks vs n=none→K false z)
theorem Lk_some {ks:List Int} {vs:List AV} {n:Int} {z:AV} {K:Bool→AV→Prop} (x:AV) (h:lkV ks vs n=some x) (hK:K true x):LkK ks vs n z K:=
 ⟨fun y hy=>by rw[h] at hy;injection hy with hy;subst hy;exact hK,fun hn=>by rw[h] at hn;simp at hn⟩
theorem Lk_none {ks:List Int} {vs:List AV} {n:Int} {z:AV} {K:Bool→AV→Prop} (h:lkV ks vs n=none) (hK:K false z):LkK ks vs n z K:=
 ⟨fun y hy=>by rw[h] at hy;simp at hy,fun _=>hK⟩
def mapOf (H:Heap) (b:Nat):Option (List Int×List AV):=
 match H[b]? with
 |some (some (.mp ks vs))=>some (ks,vs)
 |_=>none
theorem mapOf_some {H:Heap} {b:Nat} {ks:List Int} {vs:List AV} (h:mapOf H b=some (ks,vs)):H[b]? =some (some (.mp ks vs)):=by
 unfold mapOf at h
 split at h
 ·rename_i h1;rw[h1];simp at h;obtain ⟨rfl,rfl⟩:=h;rfl
 ·simp at h
def keyI (ti:TI):Bool:=match ti.k with|.int .i64=>true|_=>false
def unK (op:UnOp) (x:AV) (K:AV→Prop):Prop:=
 match x with
 |.d (.int k a)=>match op with
  |.neg=>ArK k (0-a) fun n=>K (.d (.int k n))
  |_=>False
 |.d (.bool a)=>match op with
  |.not=>K (.d (.bool (!a)))
  |_=>False
 |_=>False
end Go.Eng
namespace Go.Eng
open Go
section types
variable {P:Program} {tt:TT}
theorem run_under {t:TypeId} {u:TypeDesc} (h:P.underlying t=some u) (w:World):(underlying t).run P w=.ok u w:=by
 simp[underlying,program,Sem.run,h]
theorem run_info {t:TypeId} {i:TypeInfo} (h:P.info? t=some i) (w:World):(typeInfo t).run P w=.ok i w:=by
 simp[typeInfo,program,Sem.run,h]
theorem tt_und (hT:TTok P tt) {t:Nat} {i:TI} (h:tt t=some i): ∃u,P.underlying t=some u∧agreeK P i.k u=true:=by
 have:=hT t i h
 unfold agreeB at this
 simp only[Bool.and_eq_true] at this
 obtain ⟨_,h1,_⟩:=this
 cases hu:P.underlying t with
 |none=>simp[hu] at h1
 |some u=>exact⟨u,rfl,by simpa [hu] using h1⟩
theorem tt_info (hT:TTok P tt) {t:Nat} {i:TI} (h:tt t=some i): ∃j z,P.info? t=some j∧j.size=i.size∧j.bytes=i.bytes∧j.zero=some z∧z.cells.size=i.zero.length∧
  ∀(k:Nat) (x:AV) (v:Value),i.zero[k]? =some x→z.cells[k]? =some v→cRel x v=true:=by
 have:=hT t i h
 unfold agreeB at this
 simp only[Bool.and_eq_true] at this
 obtain ⟨_,_,h1⟩:=this
 cases hu:P.info? t with
 |none=>simp[hu] at h1
 |some j=>
  rw[hu] at h1
  simp only[Bool.and_eq_true] at h1
  obtain ⟨⟨h2,h3⟩,h4⟩:=h1
  cases hz:j.zero with
  |none=>simp[hz] at h4
  |some z=>
   rw[hz] at h4
   simp only[Bool.and_eq_true] at h4
   refine⟨j,z,rfl,Nat.eq_of_beq_eq_true h2,Nat.eq_of_beq_eq_true h3,hz,Nat.eq_of_beq_eq_true h4.1,fun k x v hx hv=>?_⟩
   have:=List.all_eq_true.1 h4.2 (x,v) (List.mem_iff_getElem?.2 ⟨k,by
    rw[List.getElem?_zip_eq_some]
    exact⟨hx,by simpa using hv⟩⟩)
   exact this
theorem tt_zlen (hT:TTok P tt) {t:Nat} {i:TI} (h:tt t=some i):i.zero.length=i.size:=by
 have:=hT t i h
 unfold agreeB at this
 simp only[Bool.and_eq_true] at this
 exact Nat.eq_of_beq_eq_true this.1.1
theorem tt_eq (hT:TTok P tt) {t:Nat} {i:TI} (h:tt t=some i) (he:i.eq=true):P.stoodInHeld t=false∧P.eqGuardType P.depth t=false∧
  ∀gs,P.underlying t=some (.struct gs)→ ∀g∈gs.toList,g.name≠ "_" :=by
 have:=hT t i h
 unfold agreeB at this
 simp only[Bool.and_eq_true] at this
 have h2:=this.1.2
 rw[he] at h2
 simp only[Bool.not_true,Bool.false_or,eqB,Bool.and_eq_true,Bool.not_eq_true'] at h2
 refine⟨h2.1,h2.2.1,fun gs hg g hm=>?_⟩
 have h3:=h2.2.2
 rw[hg] at h3
 exact of_decide_eq_true (List.all_eq_true.1 h3 g hm)
theorem run_size (hT:TTok P tt) {t:Nat} {i:TI} (h:tt t=some i) (w:World):(sizeOf t).run P w=.ok i.size w:=by
 obtain ⟨j,z,h1,h2,_⟩:=tt_info hT h
 simp[sizeOf,run_info h1,h2,Result.andThen]
theorem run_isAgg (hT:TTok P tt) {t:Nat} {i:TI} (h:tt t=some i) (w:World):(isAgg t).run P w=.ok i.isAgg w:=by
 obtain ⟨u,h1,h2⟩:=tt_und hT h
 unfold isAgg TI.isAgg
 simp only[Sem.run_bind,run_under h1,Result.andThen]
 cases u <;> cases hk:i.k <;> simp_all [agreeK]
theorem run_zero (hT:TTok P tt) {t:Nat} {i:TI} (h:tt t=some i) (w:World): ∃z,(zeroValue t).run P w=.ok z w∧z.cells.size=i.zero.length∧
  ∀(k:Nat) (x:AV) (v:Value),i.zero[k]? =some x→z.cells[k]? =some v→cRel x v=true:=by
 obtain ⟨j,z,h1,_,_,h4,h5,h6⟩:=tt_info hT h
 exact⟨z,by simp[zeroValue,run_info h1,h4,Result.andThen],h5,h6⟩
end types
end Go.Eng
namespace Go.Eng
open Go
def mapO (ρ:Nat→AV) (l:List Operand):List AV:=l.map (evalO ρ)
def lenK (ti:TI) (x:AV) (K:AV→Prop):Prop:=
 match ti.k with
 |.str=>match x with
  |.d (.str s)=>LenK s.size (K (.d (.int .i64 s.size)))
  |_=>False
 |.slice _=>match x with
  |.d (.sl rows)=>LenK rows.length (K (.d (.int .i64 rows.length)))
  |.nsl=>K (.d (.int .i64 0))
  |.msl _ _ len _ _=>LenK len (K (.d (.int .i64 len)))
  |.esl=>K (.d (.int .i64 0))
  |_=>False
 |.arr n _=>K (.d (.int .i64 n))
 |_=>False
def mmK (mx:Bool) (x:AV) (l:List AV) (K:AV→Prop):Prop:=
 match l with
 |[]=>force x K
 |y::r=>match x with
  |.d (.int k a)=>match y with
   |.d (.int _ b)=>match mx with
    |true=>mmK mx (.d (.int k (if b>a then b else a))) r K
    |false=>mmK mx (.d (.int k (if b<a then b else a))) r K
   |_=>False
  |_=>False
def newCells (H:Heap) (sz:Nat) (x:AV):Option (List AV):=
 match x with
 |.nsl=>some []
 |.d (.sl rows)=>some (rows.flatten.map .d)
 |.d (.str s)=>match Nat.beq sz 1 with
  |true=>some (s.data.toList.map fun c=>AV.d (.int .u8 c.toNat))
  |false=>none
 |.msl b off len _ sz'=>match rowOf H b with
  |some cs=>match Nat.ble (off+len * sz) cs.length with
   |true=>some (sub cs off (len * sz))
   |false=>none
  |none=>none
 |.esl=>some []
 |_=>none
def newLen (x:AV):Option Nat:=
 match x with
 |.nsl=>some 0
 |.d (.sl rows)=>some rows.length
 |.d (.str s)=>some s.size
 |.msl _ _ len _ _=>some len
 |.esl=>some 0
 |_=>none
def appK (ei:TI) (H:Heap) (s x:AV) (K:AV→Heap→Prop):Prop:=
 match newLen x with
 |none=>False
 |some m=>match newCells H ei.size x with
  |none=>False
  |some cs=>match s with
   |.nsl=>match x with
    |.nsl=>K .nsl H
    |_=>NeedK (0<m∧(m+200) * ei.bytes≤2 ^ 46∧m≤LB∧cs.length=m * ei.size) (pushK H (.row cs) fun n H'=>K (.msl n 0 m m ei.size) H')
   |.msl b off len cl sz=>match rowOf H b with
    |none=>False
    |some old=>Br (Nat.ble (len+m) cl)
     (Br (Nat.beq sz ei.size) (NeedK (off+(len+m) * sz≤old.length∧cs.length=m * sz∧len+m≤LB) (setK H b (some (.row (splice old (off+len * sz) cs))) fun H'=>K (.msl b off (len+m) cl sz) H')) False)
     (Br (Nat.beq off 0) (Br (Nat.beq sz ei.size) (NeedK (old.length=len * sz∧cs.length=m * sz∧(len+m+200) * ei.bytes≤2 ^ 46∧len+m≤LB)
      (setK H b none fun H1=>pushK H1 (.row (old++cs)) fun n H'=>K (.msl n 0 (len+m) (len+m) sz) H')) False) False)
   |.esl=>match m with
    |0=>NeedK (cs.length=0) (K .esl H)
    |_=>NeedK (0<m∧(m+200) * ei.bytes≤2 ^ 46∧m≤LB∧cs.length=m * ei.size) (pushK H (.row cs) fun n H'=>K (.msl n 0 m m ei.size) H')
   |_=>False
def bytesOf (H:Heap) (b:Nat):Option (Nat×List UInt8):=
 match H[b]? with
 |some (some (.bytes e bs))=>some (e,bs)
 |_=>none
def appS (e:Nat) (ei:TI) (H:Heap) (s x:AV) (K:AV→Heap→Prop):Prop:=
 match x with
 |.d (.str t)=>match s with
  |.nsl=>NeedK (ei.size=1∧0<t.size∧(t.size+200) * ei.bytes≤2 ^ 46∧t.size≤LB) (pushK H (.bytes e t.data.toList) fun n H'=>K (.msl n 0 t.size t.size 1) H')
  |.msl b off len _ sz=>match bytesOf H b with
   |none=>False
   |some (e',bs)=>NeedK (off=0∧sz=1∧ei.size=1∧e'=e∧bs.length=len∧(len+t.size+200) * ei.bytes≤2 ^ 46∧len+t.size≤LB)
     (setK H b none fun H1=>pushK H1 (.bytes e (bs++t.data.toList)) fun n H'=>K (.msl n 0 (len+t.size) (len+t.size) 1) H')
  |_=>False
 |_=>False
def repRow (z:List AV):Nat→List AV
 |0=>[]
 |n+1=>z++repRow z n
def appD (ei:TI) (s x:AV) (K:AV→Prop):Prop:=
 match x with
 |.d (.sl rows)=>match s with
  |.nsl=>NeedK ((rows.length+200) * ei.bytes≤2 ^ 46∧rows.length≤LB∧ ∀row∈rows,row.length=ei.size) (K (.d (.sl rows)))
  |.esl=>NeedK ((rows.length+200) * ei.bytes≤2 ^ 46∧rows.length≤LB∧ ∀row∈rows,row.length=ei.size) (K (.d (.sl rows)))
  |.d (.sl [])=>NeedK (rows=[]) (K (.d (.sl [])))
  |_=>False
 |_=>False
def callK (P:Program) (tt:TT) (c:Call) (ρ:Nat→AV) (H:Heap) (K:AV→Heap→Prop):Prop:=
 match c.callee with
 |.value f=>match evalO ρ f with
  |.d (.fn g)=>forceL (mapO ρ c.args.toList) fun as_=>Tri P g as_ H K
  |.clos fn fs cs=>match fn with
   |.func g=>forceL (mapO ρ c.args.toList) fun as_=>Tri P g (fs++as_++cs) H K
   |.yield l=>match fs,cs with
    |[],[]=>forceL (mapO ρ c.args.toList) fun as_=>YieldK P l as_ H K
    |_,_=>False
   |_=>False
  |_=>False
 |.builtin b=>match b with
  |.len=>match c.argTypes.toList,mapO ρ c.args.toList with
   |t::_,x::_=>match tt t with
    |some ti=>lenK ti x fun v=>K v H
    |none=>False
   |_,_=>False
  |.min=>match mapO ρ c.args.toList with
   |x::r=>mmK false x r fun v=>K v H
   |[]=>False
  |.max=>match mapO ρ c.args.toList with
   |x::r=>mmK true x r fun v=>K v H
   |[]=>False
  |.append=>match c.argTypes.toList,mapO ρ c.args.toList with
   |t::u::_,s::x::_=>match tt t,tt u with
    |some ti,some ui=>match ti.k,ui.k with
     |.slice e,.slice _=>match tt e with
      |some ei=>ChK (appK ei H s x K) (appD ei s x fun v=>K v H)
      |none=>False
     |.slice e,.str=>match tt e with
      |some ei=>appS e ei H s x K
      |none=>False
     |_,_=>False
    |_,_=>False
   |_,_=>False
  |.clear=>match c.argTypes.toList,mapO ρ c.args.toList with
   |t::_,x::_=>match tt t with
    |some ti=>match ti.k with
     |.slice e=>match x with
      |.nsl=>K .any H
      |.esl=>K .any H
      |.msl b off len _ sz=>match tt e with
       |some ei=>match rowOf H b with
        |some cs=>Br (Nat.beq sz ei.size) (NeedK (off+len * sz≤cs.length) (setK H b (some (.row (splice cs off (repRow ei.zero len)))) fun H'=>K .any H')) False
        |none=>False
       |none=>False
      |_=>False
     |_=>False
    |none=>False
   |_,_=>False
  |.delete=>match c.argTypes.toList,mapO ρ c.args.toList with
   |t::_,m::k::_=>match tt t with
    |some ti=>match ti.k with
     |.map kt _=>match tt kt with
      |none=>False
      |some ki=>match keyI ki with
       |false=>False
       |true=>match m with
        |.mp b=>match mapOf H b with
         |none=>False
         |some (ks,vs)=>match k with
          |.d (.int .i64 n)=>setK H b (some (.mp (delKs ks n) (delVs ks vs n))) fun H'=>K .any H'
          |_=>False
        |_=>False
     |_=>False
    |none=>False
   |_,_=>False
  |.cap=>match c.argTypes.toList,mapO ρ c.args.toList with
   |t::_,x::_=>match tt t with
    |some ti=>match ti.k with
     |.slice _=>match x with
      |.nsl=>K (.d (.int .i64 0)) H
      |_=>False
     |_=>False
    |none=>False
   |_,_=>False
  |_=>False
 |.invoke _ _=>False
def partsO (ρ:Nat→AV) (l:List (Nat×Operand)):List (Nat×AV):=l.map fun (i,x)=>(i,evalO ρ x)
def fillK (place:Nat→Option (Nat×Nat)) (cs:List AV) (l:List (Nat×AV)) (K:List AV→Prop):Prop:=
 match l with
 |[]=>K cs
 |(i,v)::r=>match place i with
  |none=>False
  |some (off,size)=>cellsK v fun vs=>match Nat.beq vs.length size with
   |true=>match Nat.ble (off+vs.length) cs.length with
    |true=>fillK place (splice cs off vs) r K
    |false=>False
   |false=>False
def fldPlaces (tt:TT) (fs:List (Nat×Nat)) (i:Nat):Option (Nat×Nat):=
 match fs[i]? with
 |some (t,o)=>match tt t with
  |some ti=>some (o,ti.size)
  |none=>none
 |none=>none
def opK (P:Program) (tt:TT) (op:Op) (ρ:Nat→AV) (H:Heap) (K:AV→Heap→Prop):Prop:=
 match op with
 |.move x=>force (evalO ρ x) fun v=>K v H
 |.assign x=>force (evalO ρ x) fun v=>K v H
 |.pick c x y=>match evalO ρ c with
  |.d (.bool t)=>Br t (force (evalO ρ x) fun v=>K v H) (force (evalO ρ y) fun v=>K v H)
  |_=>False
 |.alloc t=>match tt t with
  |some ti=>match ti.tr with
   |true=>match toVL ti.zero with
    |some vs=>pushK H (.raw (.cells vs.toArray t (0,0))) fun n H'=>K (.ptr n 0) H'
    |none=>False
   |false=>pushK H (.row ti.zero) fun n H'=>K (.ptr n 0) H'
  |none=>False
 |.box _ x=>cellsK (evalO ρ x) fun cs=>pushK H (.row cs) fun n H'=>K (.ptr n 0) H'
 |.load t x=>match tt t with
  |none=>False
  |some ti=>match evalO ρ x with
   |.ptr b off=>match rowOf H b with
    |some cs=>loadK ti cs off fun v=>K v H
    |none=>False
   |.fptr row off=>loadDK ti row off fun v=>K v H
   |_=>False
 |.store t x y=>match tt t with
  |none=>False
  |some ti=>match evalO ρ x with
   |.ptr b off=>match rowOf H b with
    |some cs=>cellsK (evalO ρ y) fun vs=>Br (Nat.beq vs.length ti.size) (Br (Nat.ble (off+vs.length) cs.length) (setK H b (some (.row (splice cs off vs))) fun H'=>K .any H') False) False
    |none=>False
   |_=>False
 |.nilCheck x=>match evalO ρ x with
  |.ptr b f=>K (.ptr b f) H
  |.fptr r f=>K (.fptr r f) H
  |.d (.fn f)=>K (.d (.fn f)) H
  |.clos fn fs cs=>match fn with
   |.func g=>K (.clos (.func g) fs cs) H
   |_=>False
  |_=>False
 |.binOp op t x y _=>binK tt (tt t) op (evalO ρ x) (evalO ρ y) fun v=>K v H
 |.unOp op _ x=>unK op (evalO ρ x) fun v=>K v H
 |.convert u t x=>match tt u with
  |none=>False
  |some _=>match tt t with
   |none=>False
   |some ti=>match ti.k with
   |.int k=>match evalO ρ x with
    |.d (.int _ n)=>ArK k n fun n=>K (.d (.int k n)) H
    |_=>False
   |.str=>match evalO ρ x with
    |.d (.str s)=>K (.d (.str s)) H
    |.d (.sl rows)=>match tt u with
     |some ui=>match ui.k with
      |.slice e=>match tt e with
       |some ei=>match ei.k with
        |.int .u8=>TextK rows fun s=>K (.d (.str s)) H
        |_=>False
       |none=>False
      |_=>False
     |none=>False
    |_=>False
   |_=>False
 |.makeFunc fn fs cs=>match fn with
  |.func g=>match fs.toList,cs.toList with
   |[],[]=>K (.d (.fn g)) H
   |fs,cs=>forceL (mapO ρ fs) fun fs=>forceL (mapO ρ cs) fun cs=>K (.clos (.func g) fs cs) H
  |_=>False
 |.fieldAddr t x f=>match tt t with
  |none=>False
  |some ti=>match fldOf ti f with
   |none=>False
   |some (_,o)=>match evalO ρ x with
    |.ptr b off=>K (.ptr b (off+o)) H
    |.fptr r off=>K (.fptr r (off+o)) H
    |_=>False
 |.field t x f=>match tt t with
  |none=>False
  |some ti=>match fldOf ti f with
   |none=>False
   |some (ft,o)=>match tt ft with
    |none=>False
    |some fi=>match evalO ρ x with
     |.agg cs=>loadK fi cs o fun v=>K v H
     |_=>False
 |.indexAddr t x i=>match tt t with
  |none=>False
  |some ti=>match evalO ρ i with
   |.d (.int _ n)=>match ti.k with
    |.slice e=>match tt e with
     |none=>False
     |some ei=>match evalO ρ x with
      |.d (.sl rows)=>IdxK rows n ei.size fun row=>K (.fptr row 0) H
      |.msl b off len _ sz=>Br (Nat.beq sz ei.size) (Br (decide (0≤n∧n<(len:Int))) (K (.ptr b (off+n.toNat * sz)) H) False) False
      |_=>False
    |.arr len e=>match tt e with
     |none=>False
     |some ei=>Br (decide (0≤n∧n<(len:Int))) (match evalO ρ x with
      |.ptr b off=>K (.ptr b (off+n.toNat * ei.size)) H
      |.fptr r off=>K (.fptr r (off+n.toNat * ei.size)) H
      |_=>False) False
    |_=>False
   |_=>False
 |.index t x i=>match tt t with
  |none=>False
  |some ti=>match evalO ρ i with
   |.d (.int _ n)=>match ti.k with
    |.arr len e=>match tt e with
     |none=>False
     |some ei=>match evalO ρ x with
      |.agg cs=>Br (decide (0≤n∧n<(len:Int))) (loadK ei cs (n.toNat * ei.size) fun v=>K v H) False
      |_=>False
    |.str=>match evalO ρ x with
     |.d (.str s)=>ByteK s n fun c=>K (.d (.int .u8 c.toNat)) H
     |_=>False
    |_=>False
   |_=>False
 |.slice t x lo hi mx=>match tt t with
  |none=>False
  |some ti=>match mx with
   |some m=>match evalO ρ m with
    |.d (.int _ mx)=>match (match lo with|none=>some 0|some l=>match evalO ρ l with|.d (.int _ n)=>some n|_=>none) with
     |none=>False
     |some l=>match hi with
      |none=>False
      |some h=>match evalO ρ h with
       |.d (.int _ h)=>match ti.k with
        |.slice e=>match tt e with
         |none=>False
         |some ei=>match evalO ρ x with
          |.d (.sl rows)=>NeedK (l=0∧h=0∧mx=0) (K .esl H)
          |.nsl=>NeedK (l=0∧h=0∧mx=0) (K .nsl H)
          |.msl b off len cl sz=>NeedK (0≤l∧l≤h∧h≤mx∧mx≤cl∧sz=ei.size∧(l<h∨l=0)) (K (.msl b (off+l.toNat * sz) (h.toNat-l.toNat) (mx.toNat-l.toNat) sz) H)
          |_=>False
        |_=>False
       |_=>False
    |_=>False
   |none=>match (match lo with|none=>some 0|some l=>match evalO ρ l with|.d (.int _ n)=>some n|_=>none) with
    |none=>False
    |some l=>match ti.k with
     |.str=>match evalO ρ x with
      |.d (.str s)=>match (match hi with|none=>some (s.size:Int)|some h=>match evalO ρ h with|.d (.int _ n)=>some n|_=>none) with
       |none=>False
       |some h=>NeedK (0≤l∧l≤h∧h≤s.size) (K (.d (.str (s.extract l.toNat h.toNat))) H)
      |_=>False
     |.slice e=>match tt e with
      |none=>False
      |some ei=>match evalO ρ x with
       |.d (.sl rows)=>match (match hi with|none=>some (rows.length:Int)|some h=>match evalO ρ h with|.d (.int _ n)=>some n|_=>none) with
        |none=>False
        |some h=>NeedK (0≤l∧l≤h∧h≤rows.length∧(∀ row∈rows,row.length=ei.size)) (K (.d (.sl ((rows.take h.toNat).drop l.toNat))) H)
       |.msl b off len cl sz=>match (match hi with|none=>some (len:Int)|some h=>match evalO ρ h with|.d (.int _ n)=>some n|_=>none) with
        |none=>False
        |some h=>ChK (NeedK (0≤l∧l≤h∧h≤cl∧sz=ei.size∧(l<h∨l=0)) (K (.msl b (off+l.toNat * sz) (h.toNat-l.toNat) (cl-l.toNat) sz) H)) (NeedK (0≤l∧l=h∧h≤cl) (K (.d (.sl [])) H))
       |.esl=>match (match hi with|none=>some ((0:Nat):Int)|some h=>match evalO ρ h with|.d (.int _ n)=>some n|_=>none) with
        |none=>False
        |some h=>NeedK (l=0∧h=0) (K .esl H)
       |_=>False
     |.arr len e=>match tt e with
      |none=>False
      |some ei=>match lo,hi with
       |none,none=>match evalO ρ x with
        |.ptr b off=>match rowOf H b with
         |some cs=>Br (Nat.ble (off+len * ei.size) cs.length) (NeedK (len≤LB) (K (.msl b off len len ei.size) H)) False
         |none=>False
        |_=>False
       |some _,none=>match evalO ρ x with
        |.ptr b off=>match rowOf H b with
         |some cs=>NeedK (off+len * ei.size≤cs.length∧len≤LB∧0≤l∧l<len) (K (.msl b (off+l.toNat * ei.size) (len-l.toNat) (len-l.toNat) ei.size) H)
         |none=>False
        |_=>False
       |_,_=>False
     |_=>False
 |.extract x i=>match evalO ρ x with
  |.tup vs=>match vs[i]? with
   |some v=>force v fun v=>K v H
   |none=>False
  |_=>False
 |.build t parts=>match tt t with
  |none=>False
  |some ti=>match ti.k with
   |.struct fs=>fillK (fldPlaces tt fs) ti.zero (partsO ρ parts.toList) fun cs=>forceL cs fun cs=>K (.agg cs) H
   |.arr _ e=>match tt e with
    |none=>False
    |some ei=>fillK (fun i=>some (i * ei.size,ei.size)) ti.zero (partsO ρ parts.toList) fun cs=>forceL cs fun cs=>K (.agg cs) H
   |_=>False
 |.buildSlice t len parts=>match tt t with
  |none=>False
  |some ti=>match ti.k with
   |.slice e=>match tt e with
    |none=>False
    |some ei=>match Nat.ble (len+len * ei.size) 1000 with
     |true=>match Nat.beq ei.zero.length ei.size with
      |true=>fillK (fun i=>some (i * ei.size,ei.size)) (repRow ei.zero len) (partsO ρ parts.toList) fun cs=>forceL cs fun cs=>ChK (pushK H (.row cs) fun n H'=>K (.msl n 0 len len ei.size) H') (datK ei.size len cs fun v=>K v H)
      |false=>False
     |false=>False
   |_=>False
 |.range t x=>match tt t with
  |none=>False
  |some ti=>match ti.k with
   |.str=>match evalO ρ x with
    |.d (.str s)=>pushK H (.iter s 0) fun n H'=>K (.ptr n 0) H'
    |_=>False
   |_=>False
 |.next it isS=>match isS with
  |false=>False
  |true=>match evalO ρ it with
   |.ptr b 0=>match H[b]? with
    |some (some (.iter s pos))=>Br (decide (pos<s.size)) (setK H b (some (.iter s (pos+(Utf8.decode s pos).2))) fun H'=>K (.tup [.d (.bool true),.d (.int .i64 pos),.d (.int .i32 (Utf8.decode s pos).1)]) H') (K (.tup [.d (.bool false)]) H)
    |_=>False
   |_=>False
 |.makeMap t r=>match r with
  |some _=>False
  |none=>match tt t with
   |none=>False
   |some ti=>match ti.k with
    |.map _ _=>pushK H (.mp [] []) fun n H'=>K (.mp n) H'
    |_=>False
 |.insert t m k x=>match tt t with
  |none=>False
  |some ti=>match ti.k with
   |.map kt _=>match tt kt with
    |none=>False
    |some ki=>match keyI ki with
     |false=>False
     |true=>match evalO ρ m with
      |.mp b=>match mapOf H b with
       |none=>False
       |some (ks,vs)=>match evalO ρ k with
        |.d (.int .i64 n)=>match leaf (evalO ρ x) with
         |true=>setK H b (some (.mp (putKs ks n) (putVs ks vs n (evalO ρ x)))) fun H'=>K .any H'
         |false=>False
        |_=>False
      |_=>False
   |_=>False
 |.mapUpdate t m k x=>match tt t with
  |none=>False
  |some ti=>match ti.k with
   |.map kt _=>match tt kt with
    |none=>False
    |some ki=>match keyI ki with
     |false=>False
     |true=>match evalO ρ m with
      |.mp b=>match mapOf H b with
       |none=>False
       |some (ks,vs)=>match evalO ρ k with
        |.d (.int .i64 n)=>match leaf (evalO ρ x) with
         |true=>setK H b (some (.mp (putKs ks n) (putVs ks vs n (evalO ρ x)))) fun H'=>K .any H'
         |false=>False
        |_=>False
      |_=>False
   |_=>False
 |.lookup t m k ok=>match tt t with
  |none=>False
  |some ti=>match ti.k with
   |.map kt et=>match tt kt,tt et with
    |some ki,some _=>match keyI ki with
     |false=>False
     |true=>match evalO ρ m with
      |.mp b=>match mapOf H b with
       |none=>False
       |some (ks,vs)=>match evalO ρ k with
        |.d (.int .i64 n)=>match ok with
         |true=>LkK ks vs n .any fun b x=>K (.tup [x,.d (.bool b)]) H
         |false=>False
        |_=>False
      |_=>False
    |_,_=>False
   |_=>False
 |.call c=>callK P tt c ρ H K
 |_=>False
end Go.Eng
namespace Go.Eng
open Go
def Mono (σ σ':List Nat):Prop:= ∀(i r:Nat),σ[i]? =some r→σ'[i]? =some r
theorem Mono.refl (σ:List Nat):Mono σ σ:=fun _ _ h=>h
theorem Mono.trans {a b c:List Nat} (h:Mono a b) (k:Mono b c):Mono a c:=fun i r x=>k i r (h i r x)
def Nx (p:PQ) (σ:List Nat) (w:World) (K:AV→Heap→Prop) (o:Oper) (a:Act) (next:Act→World→Prop):Prop:=
 ∀(v:Value) (x:AV) (w':World) (p':PQ) (σ':List Nat) (H':Heap),Ext p w p' w'→Mono σ σ'→VRel p' σ' w' x v→HRel p' σ' H' w'→K x H'→next (a.put o.dst v) w'
section
variable {P:Program} {tt:TT} {p:PQ} {σ:List Nat} {s:St} {a:Act} {w:World} {F:Fence} {n:Nat} {o:Oper} {Q:Exit→Act→World→Prop} {next:Act→World→Prop} {K:AV→Heap→Prop}
theorem up_val {v:Value} {w':World} (hr:(execOp a.eval o).run P w=.ok (.value v) w') (h:next (a.put o.dst v) w'):o.uponIn F n P a next Q ((execOp a.eval o).run P w):=by
 rw[hr];exact h
theorem up_skip {w':World} (hr:(execOp a.eval o).run P w=.ok .skip w') (h:next (a.put o.dst undef) w'):o.uponIn F n P a next Q ((execOp a.eval o).run P w):=by
 rw[hr];exact h
theorem up_pure (hR:Rel p σ s a w) (hN:Nx p σ w K o a next) {v:Value} {x:AV} (hr:(execOp a.eval o).run P w=.ok (.value v) w) (hv:VRel p σ w x v) (hK:K x s.H):
  o.uponIn F n P a next Q ((execOp a.eval o).run P w):=
 up_val hr (hN v x w p σ s.H (.refl p w) (.refl σ) hv hR.heap hK)
theorem up_push (hR:Rel p σ s a w) (hN:Nx p σ w K o a next) {v:Value} {x:AV} {ob:Obj} {k:Blk} (hr:(execOp a.eval o).run P w=.ok (.value v) (pushW w ob))
  (hb:BRel p (σ++[w.heap.size]) (pushW w ob) k w.heap.size) (hv:VRel p (σ++[w.heap.size]) (pushW w ob) x v) (hK:K x (s.H++[some k])):
  o.uponIn F n P a next Q ((execOp a.eval o).run P w):=
 up_val hr (hN v x _ p _ _ (.push hR.heap.lt ob) (mono_append _) hv (hR.heap.push ob k hb) hK)
theorem new_name (hR:Rel p σ s a w):(σ++[w.heap.size])[s.H.length]? =some w.heap.size:=by
 rw[← hR.heap.len];simp
theorem snd_move (hR:Rel p σ s a w) (hN:Nx p σ w K o a next) {x:Operand} (hop:o.op=.move x∨o.op=.assign x) (hK:force (evalO (get s.ρ) x) fun v=>K v s.H):
  o.uponIn F n P a next Q ((execOp a.eval o).run P w):=by
 rw[force_eq] at hK
 exact up_pure hR hN (by rcases hop with h|h <;> simp[execOp,h]) (evalO_rel hR x) hK
theorem snd_pick (hR:Rel p σ s a w) (hN:Nx p σ w K o a next) {c x y:Operand} (hop:o.op=.pick c x y) (hK:opK P tt (.pick c x y) (get s.ρ) s.H K):
  o.uponIn F n P a next Q ((execOp a.eval o).run P w):=by
 simp only[opK] at hK
 split at hK
 ·rename_i t hc
  have h:=evalO_rel hR c
  rw[hc] at h
  generalize hv:a.eval c=v at h
  cases h
  simp only[force_eq,Br] at hK
  cases t
  ·exact up_pure hR hN (by simp[execOp,hop,hv,asBool]) (evalO_rel hR y) hK
  ·exact up_pure hR hN (by simp[execOp,hop,hv,asBool]) (evalO_rel hR x) hK
 ·exact hK.elim
theorem noFreeze_zero (c:Array Value):NoFreeze c (0,0):=fun i _ h=>by simp at h
theorem brel_new {p:PQ} {σ':List Nat} {w:World} {c:Array Value} {e:TypeId} {cs:List AV} (hs:cs.length≤c.size)
  (h: ∀(i:Nat) (x:AV) (v:Value),cs[i]? =some x→c[i]? =some v→VRel p σ' (pushW w (.cells c e)) x v∧one v=true):
  BRel p σ' (pushW w (.cells c e)) (.row cs) w.heap.size:=⟨c,e,(0,0),pushW_new,hs,noFreeze_zero c,h⟩
theorem snd_alloc (hT:TTok P tt) (hR:Rel p σ s a w) (hN:Nx p σ w K o a next) {t:TypeId} (hop:o.op=.alloc t) (hK:opK P tt (.alloc t) (get s.ρ) s.H K):
  o.uponIn F n P a next Q ((execOp a.eval o).run P w):=by
 simp only[opK] at hK
 split at hK
 ·rename_i ti hti
  obtain ⟨z,hz,hs,hc⟩:=run_zero hT hti w
  split at hK
  ·split at hK
   ·rename_i vs hvs
    rw[pushK_eq] at hK
    obtain ⟨g1,g2⟩:=toVL_get hvs
    have e:vs.toArray=z.cells:=by
     apply Array.ext_getElem?
     intro i
     by_cases hi:i<vs.length
     ·have h1:vs[i]? =some vs[i]:=List.getElem?_eq_getElem hi
      have hi2:i<ti.zero.length:=by omega
      have h2:ti.zero[i]? =some ti.zero[i]:=List.getElem?_eq_getElem hi2
      have hi3:i<z.cells.size:=by omega
      have h3:z.cells[i]? =some z.cells[i]:=Array.getElem?_eq_getElem hi3
      rw[List.getElem?_toArray,h1,h3,toV_c (hc i _ _ h2 h3) (g2 i _ _ h2 h1)]
     ·rw[List.getElem?_toArray,List.getElem?_eq_none (by omega),Array.getElem?_eq_none (by omega)]
    refine up_push (ob:=.cells z.cells t) hR hN (v:=.pointer (some ⟨w.heap.size,0,none⟩)) ?_ (by rw[e];exact pushW_new) (.ptr _ _ _ (new_name hR)) hK
    simp[execOp,hop,Instr.alloc,hz,newVar,newRow,pushW]
   ·exact hK.elim
  rw[pushK_eq] at hK
  refine up_push (ob:=.cells z.cells t) hR hN (v:=.pointer (some ⟨w.heap.size,0,none⟩)) ?_ (brel_new (by omega) fun i x v hx hv=>cRel_rel (hc i x v hx hv) _ _ _) (.ptr _ _ _ (new_name hR)) hK
  simp[execOp,hop,Instr.alloc,hz,newVar,newRow,pushW]
 ·exact hK.elim
theorem cells_of {v:Value} {x:AV} {cs:List AV} {p:PQ} {σ:List Nat} {w:World} {K:List AV→Prop} (hv:VRel p σ w x v) (h:cellsK x K):
  ∃cs,K cs∧v.cells.size=cs.length∧ ∀(i:Nat) (y:AV) (u:Value),cs[i]? =some y→v.cells[i]? =some u→VRel p σ w y u∧one u=true:=by
 unfold cellsK at h
 split at h
 ·cases hv with
  |agg cs vs h1 h2 h3=>exact⟨_,h,h1,fun i y u hy hu=>⟨h3 i y u hy hu,h2 i u hu⟩⟩
 ·split at h
  ·rename_i hl
   have ho:=hv.oneCell hl
   have:v.cells= #[v]:=by cases v <;> first|rfl|simp[one] at ho
   rw[this]
   refine⟨_,h,rfl,fun i y u hy hu=>?_⟩
   have hi:i=0:=by
    have:=(List.getElem?_eq_some_iff.1 hy).1
    simp at this
    exact this
   subst hi
   simp at hy hu
   subst hy hu
   exact⟨hv,ho⟩
  ·exact h.elim
theorem snd_box (hR:Rel p σ s a w) (hN:Nx p σ w K o a next) {t:TypeId} {x:Operand} (hop:o.op=.box t x) (hK:opK P tt (.box t x) (get s.ρ) s.H K):
  o.uponIn F n P a next Q ((execOp a.eval o).run P w):=by
 simp only[opK] at hK
 obtain ⟨cs,hK,hs,hc⟩:=cells_of (cs:=[]) (evalO_rel hR x) hK
 rw[pushK_eq] at hK
 refine up_push (ob:=.cells (a.eval x).cells t) hR hN (v:=.pointer (some ⟨w.heap.size,0,none⟩)) ?_
  (brel_new (by omega) fun i y v hy hv=>⟨(hc i y v hy hv).1.mono (.push hR.heap.lt _) (mono_append _),(hc i y v hy hv).2⟩) (.ptr _ _ _ (new_name hR)) hK
 simp[execOp,hop,Instr.box,newVar,newRow,pushW]
end
end Go.Eng
namespace Go.Eng
open Go
section
variable {P:Program} {tt:TT} {p:PQ} {σ:List Nat} {s:St} {a:Act} {w:World} {F:Fence} {n:Nat} {o:Oper} {Q:Exit→Act→World→Prop} {next:Act→World→Prop} {K:AV→Heap→Prop}
theorem row_at (h:HRel p σ s.H w) {b:Nat} {cs:List AV} (hr:rowOf s.H b=some cs):
  ∃r c e fr,σ[b]? =some r∧ ¬p.u r∧w.heap[r]? =some (.cells c e fr)∧cs.length≤c.size∧NoFreeze c fr∧
   ∀(i:Nat) (x:AV) (v:Value),cs[i]? =some x→c[i]? =some v→VRel p σ w x v∧one v=true:=by
 obtain ⟨r,h1,h2,h3,c,e,fr,h4,h5,h6,h7⟩:=h.blk b _ (rowOf_some hr)
 exact⟨r,c,e,fr,h1,h2,h4,h5,h6,h7⟩
theorem cell_at {r off:Nat} {c:Array Value} {e:TypeId} {fr:Nat×Nat} (h:w.heap[r]? =some (.cells c e fr)):w.cell? ⟨r,off,none⟩=c[off]? :=by
 simp[World.cell?,h]
theorem sub_get (cs:List AV) (o n i:Nat):(sub cs o n)[i]? =if i<n then cs[o+i]? else none:=by
 simp[sub,List.getElem?_take,List.getElem?_drop]
theorem load_row (hT:TTok P tt) {t:Nat} {ti:TI} (ht:tt t=some ti) {r off:Nat} {c:Array Value} {e:TypeId} {fr:Nat×Nat} {cs:List AV}
  (h:w.heap[r]? =some (.cells c e fr)) (hs:cs.length≤c.size) (hc: ∀(i:Nat) (x:AV) (v:Value),cs[i]? =some x→c[i]? =some v→VRel p σ w x v∧one v=true)
  {K:AV→Prop} (hK:loadK ti cs off K): ∃v x,(loadVar t ⟨r,off,none⟩).run P w=.ok v w∧VRel p σ w x v∧K x:=by
 unfold loadK Br CellK at hK
 split at hK
 ·rename_i ha
  split at hK
  ·rename_i hb
   have hb:=Nat.le_of_ble_eq_true hb
   rw[forceL_eq] at hK
   refine⟨.agg (c.extract off (off+ti.size)),_,?_,?_,hK⟩
   ·simp[loadVar,run_isAgg hT ht,ha,run_size hT ht,loadCells,run_loadCells P (o:=off) h ti.size 0 #[] (by omega)]
   ·refine .agg _ _ (by simp[sub];omega) (fun i v hv=>?_) (fun i x v hx hv=>?_)
    ·rw[Array.getElem?_extract] at hv
     split at hv
     ·rename_i hlt
      exact(hc (off+i) (cs[off+i]'(by omega)) v (List.getElem?_eq_getElem (by omega)) hv).2
     ·simp at hv
    ·rw[sub_get] at hx
     rw[Array.getElem?_extract] at hv
     split at hx
     ·split at hv
      ·exact(hc (off+i) x v hx hv).1
      ·simp at hv
     ·simp at hx
  ·exact hK.elim
 ·rename_i ha
  split at hK
  ·rename_i x hx
   rw[force_eq] at hK
   have hlt:=(List.getElem?_eq_some_iff.1 hx).1
   have hv:c[off]? =some (c[off]'(by omega)):=Array.getElem?_eq_getElem (by omega)
   refine⟨c[off]'(by omega),x,?_,(hc off x _ hx hv).1,hK⟩
   have:=cell_at (off:=off) h
   rw[hv] at this
   simp[loadVar,run_isAgg hT ht,ha,run_load,this]
  ·exact hK.elim
theorem run_loadFrom (P:Program) {w:World} {r o:Nat} {vals:Nat→Value} (n:Nat): ∀(i:Nat) (acc:Array Value),(∀ j,i≤j→j<i+n→w.cell? ⟨r,o+j,none⟩=some (vals j))→
  (loadCellsFrom ⟨r,o,none⟩ i n acc).run P w=.ok (acc++((List.range' i n).map vals).toArray) w:=by
 induction n with
 |zero=>intro i acc _;simp[loadCellsFrom]
 |succ n ih=>
  intro i acc h
  show (Sem.bind (load ((⟨r,o,none⟩:Addr).add i)) fun v=>loadCellsFrom ⟨r,o,none⟩ (i+1) n (acc.push v)).run P w=_
  rw[addr_add]
  have hc:=h i (Nat.le_refl _) (by omega)
  simp only[load,Sem.bind,Sem.run,hc]
  rw[ih (i+1) _ (fun j h1 h2=>h j (by omega) (by omega))]
  rw[List.range'_succ]
  simp
theorem rmap_get (f:Nat→Value) (n i:Nat):((List.range' 0 n).map f)[i]? =if i<n then some (f i) else none:=by
 by_cases h:i<n
 ·rw[if_pos h,List.getElem?_eq_getElem (by simpa using h)];simp
 ·rw[if_neg h,List.getElem?_eq_none (by simp;omega)]
theorem subD_get (cs:List D) (n:Nat): ∀(o i:Nat),o+n≤cs.length→(subD cs o n)[i]? =if i<n then (cs[o+i]?).map .d else none:=by
 induction n with
 |zero=>intro o i _;simp[subD]
 |succ n ih=>
  intro o i h
  have hx:cs[o]? =some (cs[o]'(by omega)):=List.getElem?_eq_getElem (by omega)
  simp only[subD,hx]
  cases i with
  |zero=>simp[hx]
  |succ i=>
   simp only[List.getElem?_cons_succ]
   rw[ih (o+1) i (by omega)]
   rw[show o+1+i=o+(i+1) by omega]
   simp only[Nat.add_lt_add_iff_right]
theorem subD_length (cs:List D) (n:Nat): ∀(o:Nat),o+n≤cs.length→(subD cs o n).length=n:=by
 induction n with
 |zero=>intro o _;rfl
 |succ n ih=>
  intro o h
  have hx:cs[o]? =some (cs[o]'(by omega)):=List.getElem?_eq_getElem (by omega)
  simp only[subD,hx,List.length_cons,ih (o+1) (by omega)]
theorem VRel.d_one {p:PQ} {σ:List Nat} {w:World} {x:D} {v:Value} (h:VRel p σ w (.d x) v):one v=true:=h.oneCell rfl
theorem load_dat (hT:TTok P tt) {t:Nat} {ti:TI} (ht:tt t=some ti) {r base off:Nat} {row:List D} {vals:Nat→Value}
  (hcells: ∀j,j<row.length→w.cell? ⟨r,base+j,none⟩=some (vals j)) (hv: ∀(j:Nat) (x:D),row[j]? =some x→VRel p σ w (.d x) (vals j))
  {K:AV→Prop} (hK:loadDK ti row off K): ∃v x,(loadVar t ⟨r,base+off,none⟩).run P w=.ok v w∧VRel p σ w x v∧K x:=by
 unfold loadDK at hK
 split at hK
 ·rename_i ha
  split at hK
  ·rename_i hb
   have hb:=Nat.le_of_ble_eq_true hb
   rw[forceL_eq] at hK
   have hrun:=run_loadFrom P (w:=w) (r:=r) (o:=base+off) (vals:=fun j=>vals (off+j)) ti.size 0 #[] (fun j _ h2=>by
    have:=hcells (off+j) (by omega)
    rwa [show base+off+j=base+(off+j) by omega])
   refine⟨.agg ((List.range' 0 ti.size).map fun j=>vals (off+j)).toArray,_,?_,?_,hK⟩
   ·simp[loadVar,run_isAgg hT ht,ha,run_size hT ht,loadCells,hrun]
   ·refine .agg _ _ (by simp[subD_length _ _ _ hb]) (fun i v hv'=>?_) (fun i x v hx hv'=>?_)
    ·rw[List.getElem?_toArray,rmap_get] at hv'
     split at hv'
     ·rename_i hlt
      simp at hv'
      subst hv'
      exact(hv (off+i) (row[off+i]'(by omega)) (List.getElem?_eq_getElem (by omega))).d_one
     ·simp at hv'
    ·rw[subD_get _ _ _ _ hb] at hx
     rw[List.getElem?_toArray,rmap_get] at hv'
     split at hx
     ·rename_i hlt
      rw[if_pos hlt] at hv'
      simp at hv'
      subst hv'
      have hr:row[off+i]? =some (row[off+i]'(by omega)):=List.getElem?_eq_getElem (by omega)
      rw[hr] at hx
      simp at hx
      subst hx
      exact hv _ _ hr
     ·simp at hx
  ·exact hK.elim
 ·rename_i ha
  split at hK
  ·rename_i x hx
   rw[forceD_eq] at hK
   have hlt:=(List.getElem?_eq_some_iff.1 hx).1
   refine⟨vals off,.d x,?_,hv off x hx,hK⟩
   simp[loadVar,run_isAgg hT ht,ha,run_load,hcells off hlt]
  ·exact hK.elim
theorem snd_load (hT:TTok P tt) (hR:Rel p σ s a w) (hN:Nx p σ w K o a next) {t:TypeId} {x:Operand} (hop:o.op=.load t x) (hK:opK P tt (.load t x) (get s.ρ) s.H K):
  o.uponIn F n P a next Q ((execOp a.eval o).run P w):=by
 simp only[opK] at hK
 split at hK
 ·exact hK.elim
 rename_i ti ht
 have hx:=evalO_rel hR x
 split at hK
 ·rename_i b off hb
  rw[hb] at hx
  generalize hv:a.eval x=v at hx
  cases hx with
  |ptr _ _ r hr=>
  split at hK
  ·rename_i cs hcs
   obtain ⟨r',c,e,fr,h1,h2,h3,h4,h5,h6⟩:=row_at hR.heap hcs
   rw[hr] at h1
   injection h1 with h1
   subst h1
   obtain ⟨v,y,hrun,hrel,hk⟩:=load_row hT ht h3 h4 h6 hK
   exact up_pure hR hN (by simp[execOp,hop,Instr.loadAt,Instr.sureAddr,hv,hrun]) hrel hk
  ·exact hK.elim
 ·rename_i row off hb
  rw[hb] at hx
  generalize hv:a.eval x=v at hx
  cases hx with
  |fptr _ _ r base vals hp hcells hvs=>
  obtain ⟨v,y,hrun,hrel,hk⟩:=load_dat hT ht hcells hvs hK
  exact up_pure hR hN (by simp[execOp,hop,Instr.loadAt,Instr.sureAddr,hv,hrun]) hrel hk
 ·exact hK.elim
theorem store_row (hR:HRel p σ s.H w) {b r:Nat} {c:Array Value} {e:TypeId} {fr:Nat×Nat} {cs vs:List AV} {us:List Value}
  (hb:rowOf s.H b=some cs) (hr:σ[b]? =some r) (h:w.heap[r]? =some (.cells c e fr)) (hs:cs.length≤c.size) (hf:NoFreeze c fr)
  (hc: ∀(i:Nat) (x:AV) (v:Value),cs[i]? =some x→c[i]? =some v→VRel p σ w x v∧one v=true) {off:Nat} (hl:us.length=vs.length) (hlen:off+vs.length≤cs.length)
  (hu: ∀(i:Nat) (x:AV) (v:Value),vs[i]? =some x→us[i]? =some v→VRel p σ w x v∧one v=true):
  Ext p w p (setW w r (.cells (spliceA c off us) e fr))∧HRel p σ (s.H.set b (some (.row (splice cs off vs)))) (setW w r (.cells (spliceA c off us) e fr)):=by
 obtain ⟨r',h1,h2,h3,_⟩:=hR.blk b _ (rowOf_some hb)
 rw[hr] at h1
 injection h1 with h1
 subst h1
 have hsh:Shape w (setW w r (.cells (spliceA c off us) e fr)):=.set h (spliceA_size us c off)
 have he:Ext p w p (setW w r (.cells (spliceA c off us) e fr)):=.set h2 hsh
 refine⟨he,hR.set (rowOf_some hb) hr _ hsh _ ⟨spliceA c off us,e,fr,setW_same h3,by rw[splice_length,spliceA_size];exact hs,by unfold NoFreeze at *;rw[spliceA_size];exact hf,fun i x v hx hv=>?_⟩⟩
 rw[splice_get _ _ _ _ hlen] at hx
 rw[spliceA_get _ _ _ _ (by omega)] at hv
 rw[hl] at hv
 split at hx
 ·rename_i hi
  rw[if_pos hi] at hv
  exact⟨(hu _ x v hx hv).1.mono he (fun _ _ h=>h),(hu _ x v hx hv).2⟩
 ·rename_i hi
  rw[if_neg hi] at hv
  exact⟨(hc _ x v hx hv).1.mono he (fun _ _ h=>h),(hc _ x v hx hv).2⟩
theorem snd_store (hT:TTok P tt) (hR:Rel p σ s a w) (hN:Nx p σ w K o a next) {t:TypeId} {x y:Operand} (hop:o.op=.store t x y) (hK:opK P tt (.store t x y) (get s.ρ) s.H K):
  o.uponIn F n P a next Q ((execOp a.eval o).run P w):=by
 simp only[opK] at hK
 split at hK
 ·exact hK.elim
 rename_i ti ht
 have hx:=evalO_rel hR x
 split at hK
 ·rename_i b off hb
  rw[hb] at hx
  generalize hv:a.eval x=v at hx
  cases hx with
  |ptr _ _ r hr=>
  split at hK
  ·rename_i cs hcs
   obtain ⟨vs,hK,hlen,hcell⟩:=cells_of (cs:=[]) (evalO_rel hR y) hK
   obtain ⟨r',c,e,fr,h1,h2,h3,h4,h5,h6⟩:=row_at hR.heap hcs
   rw[hr] at h1
   injection h1 with h1
   subst h1
   simp only[Br] at hK
   split at hK
   ·rename_i hl
    have hl:=Nat.eq_of_beq_eq_true hl
    split at hK
    ·rename_i hle
     have hle:=Nat.le_of_ble_eq_true hle
     rw[setK_eq] at hK
     obtain ⟨he,hH⟩:=store_row hR.heap hcs hr h3 h4 h5 h6 (off:=off) (vs:=vs) (us:=(a.eval y).cells.toList) (by simp[hlen]) hle (fun i x v hx hv=>hcell i x v hx (by simpa using hv))
     refine up_skip ?_ (hN undef .any _ p σ _ he (.refl σ) (.any _) hH hK)
     have hrun:=run_storeCells P (r:=r) (o:=off) (a.eval y).cells.toList w c e fr 0 h3 h5 (by simp[hlen];omega) (fun v hv=>by
      obtain ⟨i,hi,hv⟩:=List.mem_iff_getElem.1 hv
      have hi':i<vs.length:=by simp at hi;omega
      exact(hcell i (vs[i]'hi') v (List.getElem?_eq_getElem hi') (by rw[← hv];simp at hi ⊢)).2)
     simp[execOp,hop,Instr.storeAt,Instr.sureAddr,hv,storeVar,run_size hT ht,hlen,hl,hrun]
    ·exact hK.elim
   ·exact hK.elim
  ·exact hK.elim
 ·exact hK.elim
theorem snd_nilCheck (hR:Rel p σ s a w) (hN:Nx p σ w K o a next) {x:Operand} (hop:o.op=.nilCheck x) (hK:opK P tt (.nilCheck x) (get s.ρ) s.H K):
  o.uponIn F n P a next Q ((execOp a.eval o).run P w):=by
 simp only[opK] at hK
 have hx:=evalO_rel hR x
 have hx':=hx
 split at hK
 ·rename_i b f hb
  rw[hb] at hx
  generalize hv:a.eval x=v at hx
  cases hx with
  |ptr _ _ r hr=>exact up_pure hR hN (by simp[execOp,hop,hv]) (.ptr _ _ r hr) hK
 ·rename_i b f hb
  rw[hb] at hx
  generalize hv:a.eval x=v at hx
  cases hx with
  |fptr _ _ r base vals hp hcells hvs=>exact up_pure hR hN (by simp[execOp,hop,hv]) (.fptr _ _ r base vals hp hcells hvs) hK
 ·rename_i f hb
  rw[hb] at hx
  generalize hv:a.eval x=v at hx
  cases hx with
  |fn f=>exact up_pure hR hN (by simp[execOp,hop,hv]) (.fn f) hK
 ·rename_i fn fs cs hb
  rw[hb] at hx
  generalize hv:a.eval x=v at hx
  split at hK
  ·cases hx with
   |clos _ _ _ fs' cs' h1 h2 h3 h4=>exact up_pure hR hN (by simp[execOp,hop,hv]) (.clos _ _ _ fs' cs' h1 h2 h3 h4) hK
  ·exact hK.elim
 ·exact hK.elim
end
end Go.Eng
namespace Go.Eng
open Go
section
variable {P:Program} {tt:TT} {p:PQ} {σ:List Nat} {s:St} {a:Act} {w:World} {F:Fence} {n:Nat} {o:Oper} {Q:Exit→Act→World→Prop} {next:Act→World→Prop} {K:AV→Heap→Prop}
theorem eq_loop (d:Nat) (xs ys:Array Value) (l:List Field): ∀(bs:List Bool),l.length=bs.length→
  (∀ (j:Nat) (f:Field) (b:Bool),l[j]? =some f→bs[j]? =some b→f.name≠ "_" ∧ ∃u v,(part f.type xs f.offset).run P w=.ok u w∧(part f.type ys f.offset).run P w=.ok v w∧(Op.equalIn d f.type u v).run P w=.ok b w)→
  (forIn l ((none,()):Option Bool×Unit) (fun f __s=>if f.name≠ "_" then do
    let u←part f.type xs f.offset
    let v←part f.type ys f.offset
    let b←Op.equalIn d f.type u v
    if (!b)=true then pure (ForInStep.done (some false,()))
     else pure (ForInStep.yield (none,()))
   else pure (ForInStep.yield (none,())):Field→Option Bool×Unit→Sem (ForInStep (Option Bool×Unit)))).run P w=.ok (if bs.all id then (none,()) else (some false,())) w:=by
 induction l with
 |nil=>intro bs h _;cases bs with
  |nil=>rfl
  |cons=>simp at h
 |cons f t ih=>
  intro bs h hf
  cases bs with
  |nil=>simp at h
  |cons b r=>
   obtain ⟨h1,u,v,h2,h3,h4⟩:=hf 0 f b rfl rfl
   rw[List.forIn_cons]
   simp only[if_pos h1,Sem.run_bind,h2,h3,h4,Result.andThen_ok]
   cases b with
   |false=>simp[Sem.run_pure]
   |true=>
    simp only[Bool.not_true,Bool.false_eq_true,if_false,Sem.run_pure,Result.andThen_ok,List.all_cons,id,Bool.true_and]
    exact ih r (by simpa using h) fun j f b h1 h2=>hf (j+1) f b (by simpa using h1) (by simpa using h2)
theorem struct_run (d:Nat) {t:TypeId} {fs:Array Field} (h:P.underlying t=some (.struct fs)) (hs:P.stoodInHeld t=false) {xs ys:Array Value} {bs:List Bool} (hl:fs.toList.length=bs.length)
  (hf: ∀(j:Nat) (f:Field) (b:Bool),fs.toList[j]? =some f→bs[j]? =some b→f.name≠ "_" ∧ ∃u v,(part f.type xs f.offset).run P w=.ok u w∧(part f.type ys f.offset).run P w=.ok v w∧(Op.equalIn d f.type u v).run P w=.ok b w):
  (Op.equalIn (d+1) t (.agg xs) (.agg ys)).run P w=.ok (bs.all id) w:=by
 have hprog:(program:Sem Program).run P w=.ok P w:=rfl
 have:=eq_loop (P:=P) (w:=w) d xs ys fs.toList bs hl hf
 simp only[Op.equalIn,Sem.run_bind,run_under h,Result.andThen_ok,hprog,hs,Bool.false_eq_true,if_false]
 rw[← Array.forIn_toList]
 erw [this]
 simp only[Result.andThen_ok]
 generalize bs.all id=q
 cases q <;> rfl
theorem arr_loop (d:Nat) (e n:Nat) (xs ys:Array Value) (l:List Nat): ∀(bs:List Bool),l.length=bs.length→
  (∀ (j:Nat) (i:Nat) (b:Bool),l[j]? =some i→bs[j]? =some b→ ∃u v,(part e xs (i * n)).run P w=.ok u w∧(part e ys (i * n)).run P w=.ok v w∧(Op.equalIn d e u v).run P w=.ok b w)→
  (forIn l ((none,()):Option Bool×Unit) (fun i __s=>do
    let u←part e xs (i * n)
    let v←part e ys (i * n)
    let b←Op.equalIn d e u v
    if (!b)=true then pure (ForInStep.done (some false,()))
     else pure (ForInStep.yield (none,())):Nat→Option Bool×Unit→Sem (ForInStep (Option Bool×Unit)))).run P w=.ok (if bs.all id then (none,()) else (some false,())) w:=by
 induction l with
 |nil=>intro bs h _;cases bs with
  |nil=>rfl
  |cons=>simp at h
 |cons f t ih=>
  intro bs h hf
  cases bs with
  |nil=>simp at h
  |cons b r=>
   obtain ⟨u,v,h2,h3,h4⟩:=hf 0 f b rfl rfl
   rw[List.forIn_cons]
   simp only[Sem.run_bind,h2,h3,h4,Result.andThen_ok]
   cases b with
   |false=>simp[Sem.run_pure]
   |true=>
    simp only[Bool.not_true,Bool.false_eq_true,if_false,Sem.run_pure,Result.andThen_ok,List.all_cons,id,Bool.true_and]
    exact ih r (by simpa using h) fun j f b h1 h2=>hf (j+1) f b (by simpa using h1) (by simpa using h2)
theorem arr_run (d:Nat) {t:TypeId} {len e:Nat} (h:P.underlying t=some (.array len e)) {xs ys:Array Value} {bs:List Bool} {n:Nat} (hn:(sizeOf e).run P w=.ok n w) (hl:bs.length=len)
  (hf: ∀(i:Nat) (b:Bool),bs[i]? =some b→ ∃u v,(part e xs (i * n)).run P w=.ok u w∧(part e ys (i * n)).run P w=.ok v w∧(Op.equalIn d e u v).run P w=.ok b w):
  (Op.equalIn (d+1) t (.agg xs) (.agg ys)).run P w=.ok (bs.all id) w:=by
 have:=arr_loop (P:=P) (w:=w) d e n xs ys (List.range' 0 len) bs (by simp[hl]) fun j i b h1 h2=>by
  have hj:j<len:=by rw[← hl];exact(List.getElem?_eq_some_iff.1 h2).1
  have:i=j:=by simp[List.getElem?_range',hj] at h1;omega
  subst this
  exact hf i b h2
 simp only[Op.equalIn,Sem.run_bind,run_under h,Result.andThen_ok,hn]
 rw[Std.Legacy.Range.forIn_eq_forIn_range']
 simp only[Std.Legacy.Range.size,Nat.sub_zero,Nat.add_sub_cancel,Nat.div_one]
 erw [this]
 simp only[Result.andThen_ok]
 generalize bs.all id=q
 cases q <;> rfl
theorem part_run (hT:TTok P tt) {ft:Nat} {fi:TI} (hf:tt ft=some fi) {cs:List AV} {vs:Array Value} (hs:vs.size=cs.length) (hone: ∀(i:Nat) (v:Value),vs[i]? =some v→one v=true)
  (hv: ∀(i:Nat) (x:AV) (v:Value),cs[i]? =some x→vs[i]? =some v→VRel p σ w x v) {off:Nat} {K:AV→Prop} (hK:loadK fi cs off K):
  ∃v x,(part ft vs off).run P w=.ok v w∧VRel p σ w x v∧K x:=by
 unfold loadK Br CellK at hK
 split at hK
 ·rename_i ha
  split at hK
  ·rename_i hb
   have hb:=Nat.le_of_ble_eq_true hb
   rw[forceL_eq] at hK
   refine⟨.agg (vs.extract off (off+fi.size)),_,?_,?_,hK⟩
   ·simp[part,run_isAgg hT hf,ha,run_size hT hf]
   ·refine .agg _ _ (by simp[sub];omega) (fun i v hv'=>?_) (fun i x v hx hv'=>?_)
    ·rw[Array.getElem?_extract] at hv'
     split at hv'
     ·exact hone _ v hv'
     ·simp at hv'
    ·rw[sub_get] at hx
     rw[Array.getElem?_extract] at hv'
     split at hx
     ·split at hv'
      ·exact hv _ x v hx hv'
      ·simp at hv'
     ·simp at hx
  ·exact hK.elim
 ·rename_i ha
  split at hK
  ·rename_i x hx
   rw[force_eq] at hK
   have hlt:=(List.getElem?_eq_some_iff.1 hx).1
   have hv':vs[off]? =some (vs[off]'(by omega)):=Array.getElem?_eq_getElem (by omega)
   refine⟨vs[off]'(by omega),x,?_,hv off x _ hx hv',hK⟩
   simp[part,run_isAgg hT hf,ha,hv']
  ·exact hK.elim
theorem eqL_get: ∀(fs:List (Nat×Nat)) (i:Nat) (xs ys:List AV) (bs:List Bool),eqL tt fs i xs ys=some bs→fs.length=bs.length∧ ∀(j:Nat) (f:Nat×Nat) (b:Bool),fs[j]? =some f→bs[j]? =some b→
  f.2=i+j∧ ∃tj x y,tt f.1=some tj∧xs[j]? =some x∧ys[j]? =some y∧eqLeaf tj.k x y=some b:=by
 intro fs
 induction fs with
 |nil=>
  intro i xs ys bs h
  cases xs <;> cases ys <;> simp[eqL] at h
  subst h
  exact⟨rfl,fun j f b hf=>by simp at hf⟩
 |cons f fs ih=>
  intro i xs ys bs h
  obtain ⟨t,o⟩:=f
  cases xs with
  |nil=>simp[eqL] at h
  |cons x xs=>
  cases ys with
  |nil=>simp[eqL] at h
  |cons y ys=>
  simp only[eqL] at h
  split at h
  ·rename_i ho
   split at h
   ·rename_i ti ht
    split at h
    ·rename_i b hb
     split at h
     ·rename_i r hr
      injection h with h
      subst h
      obtain ⟨h1,h2⟩:=ih (i+1) xs ys r hr
      refine⟨by simp[h1],fun j f b' hf hb'=>?_⟩
      cases j with
      |zero=>
       simp at hf hb'
       subst hf hb'
       exact⟨Nat.eq_of_beq_eq_true ho,ti,x,y,ht,rfl,rfl,hb⟩
      |succ j=>
       obtain ⟨h3,tj,x',y',h4,h5,h6,h7⟩:=h2 j f b' (by simpa using hf) (by simpa using hb')
       exact⟨by omega,tj,x',y',h4,by simpa using h5,by simpa using h6,h7⟩
     ·simp at h
    ·simp at h
   ·simp at h
  ·simp at h
theorem leaf_run (hT:TTok P tt) (d:Nat) {t:Nat} {ti:TI} (ht:tt t=some ti) {x y:AV} {b:Bool} (h:eqLeaf ti.k x y=some b) {u v:Value} (hu:VRel p σ w x u) (hv:VRel p σ w y v):
  (Op.equalIn (d+1) t u v).run P w=.ok b w∧ti.isAgg=false:=by
 obtain ⟨un,hun,hag⟩:=tt_und hT ht
 unfold eqLeaf at h
 split at h
 ·rename_i k0 hk
  rw[hk] at hag
  split at h
  ·split at h
   ·rename_i e1
    split at h
    ·rename_i e2
     injection h with h
     subst h
     cases hu
     cases hv
     have e1:=of_decide_eq_true e1
     have e2:=of_decide_eq_true e2
     cases un with
     |int k'=>exact⟨by simp[Op.equalIn,run_under hun,e1,e2],by simp[TI.isAgg,hk]⟩
     |_=>simp[agreeK] at hag
    ·simp at h
   ·simp at h
  ·simp at h
 ·rename_i hk
  rw[hk] at hag
  split at h
  ·injection h with h
   subst h
   cases hu
   cases hv
   cases un with
   |bool=>exact⟨by simp[Op.equalIn,run_under hun],by simp[TI.isAgg,hk]⟩
   |_=>simp[agreeK] at hag
  ·simp at h
 ·rename_i hk
  rw[hk] at hag
  split at h
  ·injection h with h
   subst h
   cases hu
   cases hv
   cases un with
   |string=>exact⟨by simp[Op.equalIn,run_under hun],by simp[TI.isAgg,hk]⟩
   |_=>simp[agreeK] at hag
  ·simp at h
 ·simp at h
theorem agg_run (hT:TTok P tt) {t:Nat} {ti:TI} (ht:tt t=some ti) {fs:List (Nat×Nat)} (hk:cmpF tt ti.k=some fs) (he:ti.eq=true) {xs ys:List AV} {u v:Value} (hu:VRel p σ w (.agg xs) u) (hv:VRel p σ w (.agg ys) v)
  {bs:List Bool} (h:eqL tt fs 0 xs ys=some bs): ∃us vs,u=.agg us∧v=.agg vs∧P.eqGuardType P.depth t=false∧(Op.equal t (.agg us) (.agg vs)).run P w=.ok (allB bs) w:=by
 obtain ⟨un,hun,hag⟩:=tt_und hT ht
 obtain ⟨g1,g2,g3⟩:=tt_eq hT ht he
 cases hu with
 |agg _ us u1 u2 u3=>
 cases hv with
 |agg _ vs v1 v2 v3=>
 refine⟨us,vs,rfl,rfl,g2,?_⟩
 cases hkk:ti.k <;> rw[hkk] at hk hag <;> (try (simp [cmpF] at hk;done))
 case arr len e0=>
  cases len with
  |zero=>simp[cmpF] at hk
  |succ m=>
  simp only[cmpF] at hk
  split at hk
  rotate_left
  ·simp at hk
  rename_i ei0 hei0
  split at hk
  rotate_left
  ·simp at hk
  rename_i hs1
  have hs1:=Nat.eq_of_beq_eq_true hs1
  injection hk with hk
  subst hk
  cases un with
  |array len' e'=>
   simp only[agreeK,Bool.and_eq_true] at hag
   have q1:=Nat.eq_of_beq_eq_true hag.1
   have q2:=Nat.eq_of_beq_eq_true hag.2
   subst q1 q2
   obtain ⟨h1,h2⟩:=eqL_get _ 0 xs ys bs h
   rw[arrG_len] at h1
   rw[allB_eq]
   have hg0:(arrG e0 0 (m+1))[0]? =some (e0,0):=by simp[arrG]
   obtain ⟨b0,hb0⟩: ∃b,bs[0]? =some b:=⟨bs[0]'(by omega),List.getElem?_eq_getElem _⟩
   obtain ⟨_,tj,x0,y0,ht0,hx0,hy0,hl0⟩:=h2 0 _ b0 hg0 hb0
   have hlt:0<us.size:=by rw[u1];exact(List.getElem?_eq_some_iff.1 hx0).1
   have hlt2:0<vs.size:=by rw[v1];exact(List.getElem?_eq_some_iff.1 hy0).1
   have hagg:tj.isAgg=false:=(leaf_run hT 0 ht0 hl0 (u3 0 x0 _ hx0 (Array.getElem?_eq_getElem hlt)) (v3 0 y0 _ hy0 (Array.getElem?_eq_getElem hlt2))).2
   have hsz1:tj.size=1:=by rw[hei0] at ht0;injection ht0 with ht0;rw[← ht0];exact hs1
   refine arr_run 9999 hun (run_size hT ht0 w) (by omega) fun j b hb=>?_
   have hj:j<m+1:=by rw[h1];exact(List.getElem?_eq_some_iff.1 hb).1
   obtain ⟨f,hf⟩: ∃f,(arrG e0 0 (m+1))[j]? =some f:=⟨(arrG e0 0 (m+1))[j]'(by rw[arrG_len];omega),List.getElem?_eq_getElem _⟩
   obtain ⟨rfl,_⟩:=arrG_get hf
   obtain ⟨_,tj',x,y,h4,h5,h6,h7⟩:=h2 j _ b hf hb
   rw[ht0] at h4
   injection h4 with h4
   subst h4
   obtain ⟨uu,x',p1,p2,p3⟩:=part_run hT ht0 u1 u2 u3 (off:=j * tj.size) (K:=fun z=>z=x) (by
    unfold loadK CellK
    rw[hagg,hsz1,Nat.mul_one]
    simp only[h5]
    rw[force_eq])
   obtain ⟨vv,y',q1,q2,q3⟩:=part_run hT ht0 v1 v2 v3 (off:=j * tj.size) (K:=fun z=>z=y) (by
    unfold loadK CellK
    rw[hagg,hsz1,Nat.mul_one]
    simp only[h6]
    rw[force_eq])
   subst p3 q3
   exact⟨uu,vv,p1,q1,(leaf_run hT 9998 ht0 h7 p2 q2).1⟩
  |_=>simp[agreeK] at hag
 case struct fs0=>
 simp only[cmpF] at hk
 injection hk with hk
 subst hk
 cases un with
 |struct gs=>
  simp only[agreeK,Bool.and_eq_true] at hag
  obtain ⟨h1,h2⟩:=eqL_get fs0 0 xs ys bs h
  have hlen:=Nat.eq_of_beq_eq_true hag.1
  rw[allB_eq]
  refine struct_run 9999 hun g1 (by rw[← h1,hlen];simp) fun j f b hf hb=>?_
  refine⟨g3 gs hun f (List.mem_of_getElem? hf),?_⟩
  have hj:j<fs0.length:=by rw[h1];exact(List.getElem?_eq_some_iff.1 hb).1
  obtain ⟨h3,tj,x,y,h4,h5,h6,h7⟩:=h2 j fs0[j] b (List.getElem?_eq_getElem hj) hb
  have hz:=List.all_eq_true.1 hag.2 (fs0[j],f) (List.mem_iff_getElem?.2 ⟨j,by
   rw[List.getElem?_zip_eq_some]
   exact⟨List.getElem?_eq_getElem hj,hf⟩⟩)
  simp only[Bool.and_eq_true] at hz
  have e1:=Nat.eq_of_beq_eq_true hz.1.1
  have e2:=Nat.eq_of_beq_eq_true hz.1.2
  rw[e1] at h4
  have h3':f.offset=j:=by rw[← e2,h3];omega
  have hagg:tj.isAgg=false:=by
   have hlt:j<us.size:=by rw[u1];exact(List.getElem?_eq_some_iff.1 h5).1
   have hlt2:j<vs.size:=by rw[v1];exact(List.getElem?_eq_some_iff.1 h6).1
   exact(leaf_run hT 0 h4 h7 (u3 j x _ h5 (Array.getElem?_eq_getElem hlt)) (v3 j y _ h6 (Array.getElem?_eq_getElem hlt2))).2
  obtain ⟨uu,x',p1,p2,p3⟩:=part_run hT h4 u1 u2 u3 (off:=f.offset) (K:=fun z=>z=x) (by
   unfold loadK CellK
   rw[hagg,h3']
   simp only[h5]
   rw[force_eq])
  obtain ⟨vv,y',q1,q2,q3⟩:=part_run hT h4 v1 v2 v3 (off:=f.offset) (K:=fun z=>z=y) (by
   unfold loadK CellK
   rw[hagg,h3']
   simp only[h6]
   rw[force_eq])
  subst p3 q3
  exact⟨uu,vv,p1,q1,(leaf_run hT 9998 h4 h7 p2 q2).1⟩
 |_=>simp[agreeK] at hag
end
end Go.Eng
