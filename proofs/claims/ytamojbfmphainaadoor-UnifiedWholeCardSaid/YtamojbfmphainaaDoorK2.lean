/-
Several plain texts in one.
-/
import Derived.Shelf.Lays
import Derived.Shelf.LaysC
import Derived.Shelf.LaysM
import Derived.Shelf.Small.Wraps
import Derived.Shelf.Strconv.AtoiAll
import Derived.Shelf.Strconv.ErrVarAll
import Derived.Shelf.Strconv.Itoa3
import Derived.Shelf.Strings.BuilderF
import Derived.Shelf.Strings.Cut
import Derived.Shelf.Strings.Prefix
import Derived.Shelf.Strings.Search3
import Derived.Test.YtamojbfmphainaaDoorProg
import Derived.IntWalk
import Derived.Deep.DeepMust
import Derived.Laws.EntriesVeiled
import Derived.Test.YtamojbfmphainaaDoorK0
import Derived.Test.YtamojbfmphainaaDoorRows
import Derived.Lib.LaidTab
import Derived.Stop.LaidErr
import Derived.LaidSub
import Derived.Lay
import Derived.ShapedOpen
import Derived.Test.YtamojbfmphainaaDoorK1
set_option linter.unusedVariables false
set_option linter.unusedSimpArgs false
/-
The kit's shelf laid at this translation, by the kit's tool, in plain words: strings_CutPrefix, strings_CutSuffix, Builder_String_any_f, strconv_Itoa, strconv_Atoi_ok, strconv_Atoi_syntax_var, strconv_Atoi_range_var, strings_Index_one, strings_Cut, strings_TrimSuffix.
-/
namespace Go.Proofs
open Go.Shelf Go.RowKit Go.Lib Go.Sort
def Tryd.lays169_ren:Go.Shelf.Ren:=⟨fun|169=>26|n=>n,fun|70=>44|9=>9|0=>0|72=>47|37=>45|127=>80|3=>3|5=>5|n=>n,fun|n=>n⟩
theorem Tryd.lays169:Go.Proofs.Lays.n169 Tryd.prog Tryd.lays169_ren:={
 mixed:=by kernel_rfl
 f169:=Tryd.func26.trans (congrArg some (by kernel_rfl))
 t0:=Tryd.underlying0
 a0:=Tryd.isAgg0
 z0:=Tryd.sizeOf0
 v0:=Tryd.zeroValue0
 t3:=Tryd.underlying3
 a3:=Tryd.isAgg3
 z3:=Tryd.sizeOf3
 v3:=Tryd.zeroValue3
 t9:=Tryd.underlying9
 a9:=Tryd.isAgg9
 z9:=Tryd.sizeOf9
 v9:=Tryd.zeroValue9
 t37:=Tryd.underlying45
 a37:=Tryd.isAgg45
 z37:=Tryd.sizeOf45
 v37:=Tryd.zeroValue45
 t70:=Tryd.underlying44
 a70:=Tryd.isAgg44
 z70:=Tryd.sizeOf44
 v70:=Tryd.zeroValue44
 t72:=Tryd.underlying47
 a72:=Tryd.isAgg47
 z72:=Tryd.sizeOf47
 v72:=Tryd.zeroValue47
 t127:=Tryd.underlying80
 a127:=Tryd.isAgg80
 z127:=Tryd.sizeOf80
 v127:=Tryd.zeroValue80 }
theorem Tryd.Builder_Extra_169:Builder.Extra Tryd.prog Tryd.lays169_ren:={
 sizeBuilder:=by kernel_rfl
 liesBuilder:=by kernel_rfl
 t5:=Tryd.underlying5
 a5:=Tryd.isAgg5
 z5:=Tryd.sizeOf5
 v5:=Tryd.zeroValue5
 infoByte:=by kernel_rfl
 cellsByte:=by kernel_rfl
 sizeByte:=by kernel_rfl
 neB5:=by decide }
def Tryd.lays103_ren:Go.Shelf.Ren:=⟨fun|103=>75|210=>83|206=>95|n=>n,fun|9=>9|4=>4|24=>98|3=>3|n=>n,fun|n=>n⟩
theorem Tryd.lays103:Go.Proofs.Lays.n103 Tryd.prog Tryd.lays103_ren:={
 mixed:=by kernel_rfl
 f103:=Tryd.func75.trans (congrArg some (by kernel_rfl))
 f206:=Tryd.func95.trans (congrArg some (by kernel_rfl))
 f210:=Tryd.func83.trans (congrArg some (by kernel_rfl))
 t3:=Tryd.underlying3
 a3:=Tryd.isAgg3
 z3:=Tryd.sizeOf3
 v3:=Tryd.zeroValue3
 t4:=Tryd.underlying4
 a4:=Tryd.isAgg4
 z4:=Tryd.sizeOf4
 v4:=Tryd.zeroValue4
 t9:=Tryd.underlying9
 a9:=Tryd.isAgg9
 z9:=Tryd.sizeOf9
 v9:=Tryd.zeroValue9
 t24:=Tryd.underlying98
 a24:=Tryd.isAgg98
 z24:=Tryd.sizeOf98
 v24:=Tryd.zeroValue98 }
theorem Tryd.strings_CutPrefix (s p:ByteArray) (w:World) :
  Calls Tryd.prog 75 #[.string s,.string p] w fun e w'=>e=.returned (.tuple #[.string ⟨(Lib.trimPrefix s.data.toList p.data.toList).toArray⟩,.bool (Lib.hasPrefix s.data.toList p.data.toList)])∧w'=w:=Any.strings_CutPrefix Tryd.lays103 s p w
def Tryd.lays104_ren:Go.Shelf.Ren:=⟨fun|104=>76|211=>84|207=>74|n=>n,fun|9=>9|4=>4|24=>98|3=>3|n=>n,fun|n=>n⟩
theorem Tryd.lays104:Go.Proofs.Lays.n104 Tryd.prog Tryd.lays104_ren:={
 mixed:=by kernel_rfl
 f104:=Tryd.func76.trans (congrArg some (by kernel_rfl))
 f207:=Tryd.func74.trans (congrArg some (by kernel_rfl))
 f211:=Tryd.func84.trans (congrArg some (by kernel_rfl))
 t3:=Tryd.underlying3
 a3:=Tryd.isAgg3
 z3:=Tryd.sizeOf3
 v3:=Tryd.zeroValue3
 t4:=Tryd.underlying4
 a4:=Tryd.isAgg4
 z4:=Tryd.sizeOf4
 v4:=Tryd.zeroValue4
 t9:=Tryd.underlying9
 a9:=Tryd.isAgg9
 z9:=Tryd.sizeOf9
 v9:=Tryd.zeroValue9
 t24:=Tryd.underlying98
 a24:=Tryd.isAgg98
 z24:=Tryd.sizeOf98
 v24:=Tryd.zeroValue98 }
theorem Tryd.strings_CutSuffix (s p:ByteArray) (w:World) (hs:s.size≤9223372036854775807) :
  Calls Tryd.prog 76 #[.string s,.string p] w fun e w'=>e=.returned (.tuple #[.string ⟨(Lib.trimSuffix s.data.toList p.data.toList).toArray⟩,.bool (Lib.hasSuffix s.data.toList p.data.toList)])∧w'=w:=Any.strings_CutSuffix Tryd.lays104 s p w hs
theorem Tryd.Builder_String_any_f (B b:Nat) (l:List UInt8) (w:World) (h:Lib.IsBuilderF 47 5 B b (Lib.byteCells l) w) (hBw:B≤w.heap.size) :
  Calls Tryd.prog 26 #[.pointer (some ⟨b,0,none⟩)] w fun e w'=>e=.returned (.string ⟨l.toArray⟩)∧(Lib.IsBuilderF 47 5 B b (Lib.byteCells l) w'∧Below B w w'):=Any.Builder_String_any_f Tryd.lays169 Tryd.Builder_Extra_169 B b l w h hBw
def Tryd.laysM171_ren:Go.Shelf.Ren:=⟨fun|171=>55|243=>73|246=>82|283=>91|284=>92|285=>93|286=>94|129=>100|317=>99|318=>101|319=>102|320=>103|337=>106|338=>107|n=>n,fun|3=>3|9=>9|2=>2|4=>4|171=>111|0=>0|53=>112|37=>45|5=>5|173=>115|212=>121|51=>117|20=>20|213=>122|46=>110|232=>132|233=>133|n=>n,fun|17=>1|18=>2|19=>3|n=>n⟩
theorem Tryd.laysM171:Go.Proofs.LaysM.n171 Tryd.prog Tryd.laysM171_ren:={
 mixed:=by kernel_rfl
 f129:=Tryd.func100.trans (congrArg some (by kernel_rfl))
 f171:=Tryd.func55.trans (congrArg some (by kernel_rfl))
 f243:=Tryd.func73.trans (congrArg some (by kernel_rfl))
 f246:=Tryd.func82.trans (congrArg some (by kernel_rfl))
 f283:=Tryd.func91.trans (congrArg some (by kernel_rfl))
 f284:=Tryd.func92.trans (congrArg some (by kernel_rfl))
 f285:=Tryd.func93.trans (congrArg some (by kernel_rfl))
 f286:=Tryd.func94.trans (congrArg some (by kernel_rfl))
 f317:=Tryd.func99.trans (congrArg some (by kernel_rfl))
 f318:=Tryd.func101.trans (congrArg some (by kernel_rfl))
 f319:=Tryd.func102.trans (congrArg some (by kernel_rfl))
 f320:=Tryd.func103.trans (congrArg some (by kernel_rfl))
 f337:=Tryd.func106.trans (congrArg some (by kernel_rfl))
 f338:=Tryd.func107.trans (congrArg some (by kernel_rfl))
 t0:=Tryd.underlying0
 a0:=Tryd.isAgg0
 z0:=Tryd.sizeOf0
 v0:=Tryd.zeroValue0
 t2:=Tryd.underlying2
 a2:=Tryd.isAgg2
 z2:=Tryd.sizeOf2
 v2:=Tryd.zeroValue2
 t3:=Tryd.underlying3
 a3:=Tryd.isAgg3
 z3:=Tryd.sizeOf3
 v3:=Tryd.zeroValue3
 t4:=Tryd.underlying4
 a4:=Tryd.isAgg4
 z4:=Tryd.sizeOf4
 v4:=Tryd.zeroValue4
 t5:=Tryd.underlying5
 a5:=Tryd.isAgg5
 z5:=Tryd.sizeOf5
 v5:=Tryd.zeroValue5
 t9:=Tryd.underlying9
 a9:=Tryd.isAgg9
 z9:=Tryd.sizeOf9
 v9:=Tryd.zeroValue9
 t20:=Tryd.underlying20
 a20:=Tryd.isAgg20
 z20:=Tryd.sizeOf20
 v20:=Tryd.zeroValue20
 t37:=Tryd.underlying45
 a37:=Tryd.isAgg45
 z37:=Tryd.sizeOf45
 v37:=Tryd.zeroValue45
 t46:=Tryd.underlying110
 a46:=Tryd.isAgg110
 z46:=Tryd.sizeOf110
 v46:=Tryd.zeroValue110
 t51:=Tryd.underlying117
 a51:=Tryd.isAgg117
 z51:=Tryd.sizeOf117
 v51:=Tryd.zeroValue117
 t53:=Tryd.underlying112
 a53:=Tryd.isAgg112
 z53:=Tryd.sizeOf112
 v53:=Tryd.zeroValue112
 t171:=Tryd.underlying111
 a171:=Tryd.isAgg111
 z171:=Tryd.sizeOf111
 v171:=Tryd.zeroValue111
 t173:=Tryd.underlying115
 a173:=Tryd.isAgg115
 z173:=Tryd.sizeOf115
 v173:=Tryd.zeroValue115
 t212:=Tryd.underlying121
 a212:=Tryd.isAgg121
 z212:=Tryd.sizeOf121
 v212:=Tryd.zeroValue121
 t213:=Tryd.underlying122
 a213:=Tryd.isAgg122
 z213:=Tryd.sizeOf122
 t232:=Tryd.underlying132
 a232:=Tryd.isAgg132
 z232:=Tryd.sizeOf132
 v232:=Tryd.zeroValue132
 t233:=Tryd.underlying133
 a233:=Tryd.isAgg133
 z233:=Tryd.sizeOf133
 v233:=Tryd.zeroValue133
 g17:=by kernel_rfl
 g18:=by kernel_rfl
 g19:=by kernel_rfl
 i0:=by kernel_rfl
 i2:=by kernel_rfl
 i3:=by kernel_rfl
 i4:=by kernel_rfl
 i5:=by kernel_rfl
 i9:=by kernel_rfl
 i20:=by kernel_rfl
 i37:=by kernel_rfl
 i46:=by kernel_rfl
 i51:=by kernel_rfl
 i53:=by kernel_rfl
 i171:=by kernel_rfl
 i173:=by kernel_rfl
 i212:=by kernel_rfl
 i232:=by kernel_rfl
 i233:=by kernel_rfl
 m17:=by kernel_rfl
 m18:=by kernel_rfl
 m19:=by kernel_rfl }
theorem Tryd.strconv_Itoa (n : Int) (h0 : -9223372036854775808 ≤ n) (h1 : n ≤ 9223372036854775807) (w : World) (htab : Lib.TabIs Tryd.prog w "internal/strconv.uint64pow10" .u64 Lib.pow10Tab) :
  Calls Tryd.prog 55 #[.int .i64 n] w fun e w'=>e=.returned (.string ⟨(Lib.itoa n).toArray⟩)∧∃ k os,w'=grow (w.drewN k) os:=Any.strconv_Itoa Tryd.laysM171 n h0 h1 w htab
def Tryd.laysC172_ren:Go.Shelf.Ren:=⟨fun|172=>96|244=>104|245=>105|247=>108|279=>109|280=>110|281=>111|282=>112|287=>113|316=>114|171=>55|205=>115|321=>116|322=>117|243=>73|246=>82|283=>91|284=>92|285=>93|286=>94|129=>100|317=>99|318=>101|319=>102|320=>103|337=>106|338=>107|n=>n,fun|9=>9|3=>3|75=>50|76=>51|4=>4|5=>5|167=>126|37=>45|0=>0|85=>127|2=>2|168=>129|53=>112|175=>134|46=>110|210=>138|127=>80|145=>143|143=>141|21=>21|171=>111|173=>115|212=>121|51=>117|20=>20|213=>122|232=>132|233=>133|80=>54|n=>n,fun|15=>4|16=>5|17=>1|18=>2|19=>3|n=>n⟩
theorem Tryd.laysC172:Go.Proofs.LaysC.n172 Tryd.prog Tryd.laysC172_ren:={
 mixed:=by kernel_rfl
 f129:=Tryd.func100.trans (congrArg some (by kernel_rfl))
 f171:=Tryd.func55.trans (congrArg some (by kernel_rfl))
 f172:=Tryd.func96.trans (congrArg some (by kernel_rfl))
 f205:=Tryd.func115.trans (congrArg some (by kernel_rfl))
 f243:=Tryd.func73.trans (congrArg some (by kernel_rfl))
 f244:=Tryd.func104.trans (congrArg some (by kernel_rfl))
 f245:=Tryd.func105.trans (congrArg some (by kernel_rfl))
 f246:=Tryd.func82.trans (congrArg some (by kernel_rfl))
 f247:=Tryd.func108.trans (congrArg some (by kernel_rfl))
 f279:=Tryd.func109.trans (congrArg some (by kernel_rfl))
 f280:=Tryd.func110.trans (congrArg some (by kernel_rfl))
 f281:=Tryd.func111.trans (congrArg some (by kernel_rfl))
 f282:=Tryd.func112.trans (congrArg some (by kernel_rfl))
 f283:=Tryd.func91.trans (congrArg some (by kernel_rfl))
 f284:=Tryd.func92.trans (congrArg some (by kernel_rfl))
 f285:=Tryd.func93.trans (congrArg some (by kernel_rfl))
 f286:=Tryd.func94.trans (congrArg some (by kernel_rfl))
 f287:=Tryd.func113.trans (congrArg some (by kernel_rfl))
 f316:=Tryd.func114.trans (congrArg some (by kernel_rfl))
 f317:=Tryd.func99.trans (congrArg some (by kernel_rfl))
 f318:=Tryd.func101.trans (congrArg some (by kernel_rfl))
 f319:=Tryd.func102.trans (congrArg some (by kernel_rfl))
 f320:=Tryd.func103.trans (congrArg some (by kernel_rfl))
 f321:=Tryd.func116.trans (congrArg some (by kernel_rfl))
 f322:=Tryd.func117.trans (congrArg some (by kernel_rfl))
 f337:=Tryd.func106.trans (congrArg some (by kernel_rfl))
 f338:=Tryd.func107.trans (congrArg some (by kernel_rfl))
 t0:=Tryd.underlying0
 a0:=Tryd.isAgg0
 z0:=Tryd.sizeOf0
 v0:=Tryd.zeroValue0
 t2:=Tryd.underlying2
 a2:=Tryd.isAgg2
 z2:=Tryd.sizeOf2
 v2:=Tryd.zeroValue2
 t3:=Tryd.underlying3
 a3:=Tryd.isAgg3
 z3:=Tryd.sizeOf3
 v3:=Tryd.zeroValue3
 t4:=Tryd.underlying4
 a4:=Tryd.isAgg4
 z4:=Tryd.sizeOf4
 v4:=Tryd.zeroValue4
 t5:=Tryd.underlying5
 a5:=Tryd.isAgg5
 z5:=Tryd.sizeOf5
 v5:=Tryd.zeroValue5
 t9:=Tryd.underlying9
 a9:=Tryd.isAgg9
 z9:=Tryd.sizeOf9
 v9:=Tryd.zeroValue9
 t20:=Tryd.underlying20
 a20:=Tryd.isAgg20
 z20:=Tryd.sizeOf20
 v20:=Tryd.zeroValue20
 t21:=Tryd.underlying21
 a21:=Tryd.isAgg21
 z21:=Tryd.sizeOf21
 v21:=Tryd.zeroValue21
 t37:=Tryd.underlying45
 a37:=Tryd.isAgg45
 z37:=Tryd.sizeOf45
 v37:=Tryd.zeroValue45
 t46:=Tryd.underlying110
 a46:=Tryd.isAgg110
 z46:=Tryd.sizeOf110
 v46:=Tryd.zeroValue110
 t51:=Tryd.underlying117
 a51:=Tryd.isAgg117
 z51:=Tryd.sizeOf117
 v51:=Tryd.zeroValue117
 t53:=Tryd.underlying112
 a53:=Tryd.isAgg112
 z53:=Tryd.sizeOf112
 v53:=Tryd.zeroValue112
 t75:=Tryd.underlying50
 a75:=Tryd.isAgg50
 z75:=Tryd.sizeOf50
 v75:=Tryd.zeroValue50
 t76:=Tryd.underlying51
 a76:=Tryd.isAgg51
 z76:=Tryd.sizeOf51
 v76:=Tryd.zeroValue51
 t85:=Tryd.underlying127
 a85:=Tryd.isAgg127
 z85:=Tryd.sizeOf127
 v85:=Tryd.zeroValue127
 t127:=Tryd.underlying80
 a127:=Tryd.isAgg80
 z127:=Tryd.sizeOf80
 v127:=Tryd.zeroValue80
 t143:=Tryd.underlying141
 a143:=Tryd.isAgg141
 z143:=Tryd.sizeOf141
 v143:=Tryd.zeroValue141
 t145:=Tryd.underlying143
 a145:=Tryd.isAgg143
 z145:=Tryd.sizeOf143
 v145:=Tryd.zeroValue143
 t167:=Tryd.underlying126
 a167:=Tryd.isAgg126
 z167:=Tryd.sizeOf126
 v167:=Tryd.zeroValue126
 t168:=Tryd.underlying129
 a168:=Tryd.isAgg129
 z168:=Tryd.sizeOf129
 v168:=Tryd.zeroValue129
 t171:=Tryd.underlying111
 a171:=Tryd.isAgg111
 z171:=Tryd.sizeOf111
 v171:=Tryd.zeroValue111
 t173:=Tryd.underlying115
 a173:=Tryd.isAgg115
 z173:=Tryd.sizeOf115
 v173:=Tryd.zeroValue115
 t175:=Tryd.underlying134
 a175:=Tryd.isAgg134
 z175:=Tryd.sizeOf134
 v175:=Tryd.zeroValue134
 t210:=Tryd.underlying138
 a210:=Tryd.isAgg138
 z210:=Tryd.sizeOf138
 v210:=Tryd.zeroValue138
 t212:=Tryd.underlying121
 a212:=Tryd.isAgg121
 z212:=Tryd.sizeOf121
 v212:=Tryd.zeroValue121
 t213:=Tryd.underlying122
 a213:=Tryd.isAgg122
 z213:=Tryd.sizeOf122
 t232:=Tryd.underlying132
 a232:=Tryd.isAgg132
 z232:=Tryd.sizeOf132
 v232:=Tryd.zeroValue132
 t233:=Tryd.underlying133
 a233:=Tryd.isAgg133
 z233:=Tryd.sizeOf133
 v233:=Tryd.zeroValue133
 g15:=by kernel_rfl
 g16:=by kernel_rfl
 g17:=by kernel_rfl
 g18:=by kernel_rfl
 g19:=by kernel_rfl
 t80:=Tryd.underlying54
 a80:=Tryd.isAgg54
 z80:=Tryd.sizeOf54
 v80:=Tryd.zeroValue54
 i0:=by kernel_rfl
 i2:=by kernel_rfl
 i3:=by kernel_rfl
 i4:=by kernel_rfl
 i5:=by kernel_rfl
 i9:=by kernel_rfl
 i20:=by kernel_rfl
 i21:=by kernel_rfl
 i37:=by kernel_rfl
 i46:=by kernel_rfl
 i51:=by kernel_rfl
 i53:=by kernel_rfl
 i75:=by kernel_rfl
 i76:=by kernel_rfl
 i80:=by kernel_rfl
 i85:=by kernel_rfl
 i127:=by kernel_rfl
 i143:=by kernel_rfl
 i145:=by kernel_rfl
 i167:=by kernel_rfl
 i168:=by kernel_rfl
 i171:=by kernel_rfl
 i173:=by kernel_rfl
 i175:=by kernel_rfl
 i210:=by kernel_rfl
 i212:=by kernel_rfl
 i232:=by kernel_rfl
 i233:=by kernel_rfl
 m15:=by kernel_rfl
 m16:=by kernel_rfl
 m17:=by kernel_rfl
 m18:=by kernel_rfl
 m19:=by kernel_rfl
 c0:=by kernel_rfl
 c2:=by kernel_rfl
 c3:=by kernel_rfl
 c4:=by kernel_rfl
 c5:=by kernel_rfl
 c9:=by kernel_rfl
 c20:=by kernel_rfl
 c21:=by kernel_rfl
 c37:=by kernel_rfl
 c46:=by kernel_rfl
 c51:=by kernel_rfl
 c53:=by kernel_rfl
 c75:=by kernel_rfl
 c76:=by kernel_rfl
 c80:=by kernel_rfl
 c85:=by kernel_rfl
 c127:=by kernel_rfl
 c143:=by kernel_rfl
 c145:=by kernel_rfl
 c167:=by kernel_rfl
 c168:=by kernel_rfl
 c171:=by kernel_rfl
 c173:=by kernel_rfl
 c175:=by kernel_rfl
 c210:=by kernel_rfl
 c212:=by kernel_rfl
 c213:=by kernel_rfl
 c232:=by kernel_rfl
 c233:=by kernel_rfl }
theorem Tryd.strconv_Atoi_ok (s:ByteArray) (hmax:s.size≤9223372036854775806) (v:Int) (h:Lib.atoiAll s.data.toList=.ok v) (w:World) :
  Calls Tryd.prog 96 #[.string s] w fun e w'=>e=.returned (.tuple #[.int .i64 v,.nilIface])∧(w'=w∨∃ t,w'=Lib.bytesWorld w 5 t):=Any.strconv_Atoi_ok Tryd.laysC172 s hmax v h w
theorem Tryd.strconv_Atoi_syntax_var (s : ByteArray) (hlim : s.size ≤ 281474976710656) (h : Lib.atoiAll s.data.toList = Lib.NumEnd.syntax) (tp : TypeId) (p : Value) (w : World) (hvar : w.var? Tryd.prog "strconv.ErrSyntax" = some #[.iface tp p]) :
  Calls Tryd.prog 96 #[.string s] w fun e w'=>∃ N,e=.returned (.tuple #[.int .i64 0,.iface 129 (.pointer (some ⟨N,0,none⟩))])∧w.heap.size≤N∧w'.heap[N]?=some (.cells #[.string ⟨#[65,116,111,105]⟩,.string s,.iface tp p] 138 (0,0))∧Below w.heap.size w w':=Any.strconv_Atoi_syntax_var Tryd.laysC172 s hlim h tp p w hvar
theorem Tryd.strconv_Atoi_range_var (s : ByteArray) (hlim : s.size ≤ 281474976710656) (h : Lib.atoiAll s.data.toList = .range) (tp : TypeId) (p : Value) (w : World) (hvar : w.var? Tryd.prog "strconv.ErrRange" = some #[.iface tp p]) :
  Calls Tryd.prog 96 #[.string s] w fun e w'=>∃ N,e=.returned (.tuple #[.int .i64 (Lib.atoiSat s.data.toList),.iface 129 (.pointer (some ⟨N,0,none⟩))])∧w.heap.size≤N∧w'.heap[N]?=some (.cells #[.string ⟨#[65,116,111,105]⟩,.string s,.iface tp p] 138 (0,0))∧Below w.heap.size w w':=Any.strconv_Atoi_range_var Tryd.laysC172 s hlim h tp p w hvar
def Tryd.lays143_ren:Go.Shelf.Ren:=⟨fun|143=>65|219=>80|217=>87|225=>88|224=>89|267=>90|266=>97|314=>98|n=>n,fun|9=>9|3=>3|4=>4|5=>5|46=>110|146=>118|51=>117|n=>n,fun|1=>0|n=>n⟩
theorem Tryd.lays143:Go.Proofs.Lays.n143 Tryd.prog Tryd.lays143_ren:={
 mixed:=by kernel_rfl
 f143:=Tryd.func65.trans (congrArg some (by kernel_rfl))
 f217:=Tryd.func87.trans (congrArg some (by kernel_rfl))
 f219:=Tryd.func80.trans (congrArg some (by kernel_rfl))
 f224:=Tryd.func89.trans (congrArg some (by kernel_rfl))
 f225:=Tryd.func88.trans (congrArg some (by kernel_rfl))
 f266:=Tryd.func97.trans (congrArg some (by kernel_rfl))
 f267:=Tryd.func90.trans (congrArg some (by kernel_rfl))
 f314:=Tryd.func98.trans (congrArg some (by kernel_rfl))
 t3:=Tryd.underlying3
 a3:=Tryd.isAgg3
 z3:=Tryd.sizeOf3
 v3:=Tryd.zeroValue3
 t4:=Tryd.underlying4
 a4:=Tryd.isAgg4
 z4:=Tryd.sizeOf4
 v4:=Tryd.zeroValue4
 t5:=Tryd.underlying5
 a5:=Tryd.isAgg5
 z5:=Tryd.sizeOf5
 v5:=Tryd.zeroValue5
 t9:=Tryd.underlying9
 a9:=Tryd.isAgg9
 z9:=Tryd.sizeOf9
 v9:=Tryd.zeroValue9
 t46:=Tryd.underlying110
 a46:=Tryd.isAgg110
 z46:=Tryd.sizeOf110
 v46:=Tryd.zeroValue110
 t51:=Tryd.underlying117
 a51:=Tryd.isAgg117
 z51:=Tryd.sizeOf117
 v51:=Tryd.zeroValue117
 t146:=Tryd.underlying118
 a146:=Tryd.isAgg118
 z146:=Tryd.sizeOf118
 v146:=Tryd.zeroValue118
 g1:=by kernel_rfl }
theorem Tryd.strings_Index_one (s:ByteArray) (c:UInt8) (w:World) :
  Calls Tryd.prog 65 #[.string s,.string ⟨#[c]⟩] w fun e w'=>e=.returned (.int .i64 (Lib.indexByte s.data.toList c))∧w'=w:=Any.strings_Index_one Tryd.lays143 s c w
def Tryd.lays145_ren:Go.Shelf.Ren:=⟨fun|145=>77|220=>85|219=>80|217=>87|225=>88|224=>89|267=>90|266=>97|314=>98|n=>n,fun|9=>9|4=>4|59=>100|3=>3|5=>5|46=>110|146=>118|51=>117|n=>n,fun|1=>0|n=>n⟩
theorem Tryd.lays145:Go.Proofs.Lays.n145 Tryd.prog Tryd.lays145_ren:={
 mixed:=by kernel_rfl
 f145:=Tryd.func77.trans (congrArg some (by kernel_rfl))
 f217:=Tryd.func87.trans (congrArg some (by kernel_rfl))
 f219:=Tryd.func80.trans (congrArg some (by kernel_rfl))
 f220:=Tryd.func85.trans (congrArg some (by kernel_rfl))
 f224:=Tryd.func89.trans (congrArg some (by kernel_rfl))
 f225:=Tryd.func88.trans (congrArg some (by kernel_rfl))
 f266:=Tryd.func97.trans (congrArg some (by kernel_rfl))
 f267:=Tryd.func90.trans (congrArg some (by kernel_rfl))
 f314:=Tryd.func98.trans (congrArg some (by kernel_rfl))
 t3:=Tryd.underlying3
 a3:=Tryd.isAgg3
 z3:=Tryd.sizeOf3
 v3:=Tryd.zeroValue3
 t4:=Tryd.underlying4
 a4:=Tryd.isAgg4
 z4:=Tryd.sizeOf4
 v4:=Tryd.zeroValue4
 t5:=Tryd.underlying5
 a5:=Tryd.isAgg5
 z5:=Tryd.sizeOf5
 v5:=Tryd.zeroValue5
 t9:=Tryd.underlying9
 a9:=Tryd.isAgg9
 z9:=Tryd.sizeOf9
 v9:=Tryd.zeroValue9
 t46:=Tryd.underlying110
 a46:=Tryd.isAgg110
 z46:=Tryd.sizeOf110
 v46:=Tryd.zeroValue110
 t51:=Tryd.underlying117
 a51:=Tryd.isAgg117
 z51:=Tryd.sizeOf117
 v51:=Tryd.zeroValue117
 t59:=Tryd.underlying100
 a59:=Tryd.isAgg100
 z59:=Tryd.sizeOf100
 v59:=Tryd.zeroValue100
 t146:=Tryd.underlying118
 a146:=Tryd.isAgg118
 z146:=Tryd.sizeOf118
 v146:=Tryd.zeroValue118
 g1:=by kernel_rfl }
theorem Tryd.strings_Cut (s sep:ByteArray) (m:Int) (w:World) (hs:s.size<4294967281) (hm:w.cell? ⟨0,0,none⟩=some (.int .i64 m)) :
  Calls Tryd.prog 77 #[.string s,.string sep] w fun e w'=>e=.returned (.tuple #[.string ⟨(Lib.cut s.data.toList sep.data.toList).1.toArray⟩,.string ⟨(Lib.cut s.data.toList sep.data.toList).2.1.toArray⟩,.bool (Lib.cut s.data.toList sep.data.toList).2.2])∧∃ n,w'=w.drewN n:=Any.strings_Cut Tryd.lays145 s sep m w hs hm
def Tryd.lays102_ren:Go.Shelf.Ren:=⟨fun|102=>61|209=>79|207=>74|n=>n,fun|9=>9|4=>4|3=>3|n=>n,fun|n=>n⟩
theorem Tryd.lays102:Go.Proofs.Lays.n102 Tryd.prog Tryd.lays102_ren:={
 mixed:=by kernel_rfl
 f102:=Tryd.func61.trans (congrArg some (by kernel_rfl))
 f207:=Tryd.func74.trans (congrArg some (by kernel_rfl))
 f209:=Tryd.func79.trans (congrArg some (by kernel_rfl))
 t3:=Tryd.underlying3
 a3:=Tryd.isAgg3
 z3:=Tryd.sizeOf3
 v3:=Tryd.zeroValue3
 t4:=Tryd.underlying4
 a4:=Tryd.isAgg4
 z4:=Tryd.sizeOf4
 v4:=Tryd.zeroValue4
 t9:=Tryd.underlying9
 a9:=Tryd.isAgg9
 z9:=Tryd.sizeOf9
 v9:=Tryd.zeroValue9 }
theorem Tryd.strings_TrimSuffix (s p:ByteArray) (w:World) (hs:s.size≤9223372036854775807) :
  Calls Tryd.prog 61 #[.string s,.string p] w fun e w'=>e=.returned (.string ⟨(Lib.trimSuffix s.data.toList p.data.toList).toArray⟩)∧w'=w:=Any.strings_TrimSuffix Tryd.lays102 s p w hs
end Go.Proofs
-- shrunk
/-
What the statement's listed variables are while a call runs; unified's reader in memory; its next.
-/
namespace Go.Proofs.YtamojbfmphainaaDoor.Pr
open Go.RowKit Go.Proofs.YtamojbfmphainaaDoorW.PrintWords Go.Proofs.YtamojbfmphainaaDoorW.PrintLast Go.Proofs.YtamojbfmphainaaDoorW.PrintMore
structure LaidU (w:World):Prop where
 tab : Lib.TabIs Tryd.prog w "internal/strconv.uint64pow10" .u64 Lib.pow10Tab
 syn : ∃ tp p, w.var? Tryd.prog "strconv.ErrSyntax" = some #[.iface tp p]
 rng : ∃ tp p, w.var? Tryd.prog "strconv.ErrRange" = some #[.iface tp p]
 mx:∃ m,w.cell? ⟨0,0,none⟩=some (.int .i64 m)
theorem var_below {P:Program} {w w':World} {n:String} {cs:Array Value} (h:w.var? P n=some cs) (hb:Below w.heap.size w w'):w'.var? P n=some cs:=by
 unfold World.var? at h ⊢
 obtain ⟨g,hg,h⟩:=Option.bind_eq_some_iff.1 h
 rw [hg,Option.bind_some]
 have hlt:g<w.heap.size:=by
  rcases hh:w.heap[g]? with _|o
  ·rw [hh] at h;cases h
  ·exact (Array.getElem?_eq_some_iff.1 hh).1
 rw [hb.block g hlt]
 exact h
theorem LaidU.below {w w':World} (h:LaidU w) (hb:Below w.heap.size w w'):LaidU w':=by
 obtain ⟨h1,⟨t2,p2,h2⟩,⟨t3,p3,h3⟩,⟨m,h4⟩⟩:=h
 exact ⟨var_below h1 hb,⟨t2,p2,var_below h2 hb⟩,⟨t3,p3,var_below h3 hb⟩,⟨m,pw_cell_below hb h4⟩⟩
def Keep1 (w:World) (g:Nat) (wr:World):Prop:=KeepBut w wr g none∧Below 0 w wr
theorem Keep1.refl (w:World) (g:Nat):Keep1 w g w:=⟨KeepBut.refl _ _ _,Below.refl _ _⟩
theorem keep_below' {w W w1:World} {g B:Nat} (h:Keep1 w g W) (hb:Below B W w1) (hB:w.heap.size≤B):Keep1 w g w1 :=
 ⟨⟨Nat.le_trans h.1.1 hb.size,fun i hi hg hr=>(hb.block i (Nat.lt_of_lt_of_le hi hB)).trans (h.1.2 i hi hg hr)⟩,h.2.trans (hb.mono (Nat.zero_le _))⟩
theorem keep_grown {w W w1:World} {g:Nat} {row:Option Nat} (h:Keep1 w g W) (hg:W.grownBy w1 row) (hrow:∀ k,row=some k→w.heap.size≤k):Keep1 w g w1 :=
 ⟨⟨Nat.le_trans h.1.1 hg.size,fun i hi hn hr=>(hg.block i (Nat.lt_of_lt_of_le hi h.1.1) (fun e=>by have:=hrow i e.symm;omega)).trans (h.1.2 i hi hn hr)⟩,h.2.grown hg (Nat.zero_le _) (fun _ _=>Nat.zero_le _)⟩
theorem Keep1.set_ {w W:World} {g:Nat} (h:Keep1 w g W) (j:Nat) (u:Value):Keep1 w g (W.setCell ⟨g,j,none⟩ u):=⟨h.1.set_ j u,h.2.setCell (p:=⟨g,j,none⟩) (Nat.zero_le _) u⟩
theorem Keep1.below {w0 w W:World} {g:Nat} (h0:Below w0.heap.size w0 w) (h:Keep1 w g W) (hg:w0.heap.size≤g):Below w0.heap.size w0 W :=
 ⟨h.2.os.trans h0.os,h.2.tape.trans h0.tape,h.2.output.trans h0.output,Nat.le_trans h0.size h.1.1,fun k hk=>(h.1.2 k (Nat.lt_of_lt_of_le hk h0.size) (by omega) (by simp)).trans (h0.block k hk)⟩
structure RBox (w:World) (g:Nat) (v:Value) (an bn:Int) (bare:Bool) (fn:Nat) (l:List S41) (wr:World):Prop where
 box:wr.heap[g]?=some (.cells #[v,.int .i64 an,.int .i64 bn,.bool bare,.func (.func fn) #[.pointer (some ⟨g,0,none⟩)] #[]] 57 (0,0))
 row:Kd.S k41 41 wr w.heap.size (fun _=>True) v l
 bel:Keep1 w g wr
theorem RBox.below {w:World} {g:Nat} {v:Value} {an bn:Int} {bare:Bool} {fn:Nat} {l:List S41} {wr w1:World} (h:RBox w g v an bn bare fn l wr) (hb:Below wr.heap.size wr w1):RBox w g v an bn bare fn l w1 :=
 ⟨blk_below h.box hb,Kd.S_below h.row hb,keep_below' h.bel hb h.bel.1.1⟩
theorem RBox.drew {w:World} {g:Nat} {v:Value} {an bn:Int} {bare:Bool} {fn:Nat} {l:List S41} {wr:World} (h:RBox w g v an bn bare fn l wr):RBox w g v an bn bare fn l wr.drew:=h.below (below_drew (Below.refl _ _))
theorem RBox.put {w:World} {g:Nat} {v:Value} {an bn:Int} {bare:Bool} {fn:Nat} {l:List S41} {wr:World} (h:RBox w g v an bn bare fn l wr) (j:Nat) (u:Value) :
  Kd.S k41 41 (wr.setCell ⟨g,j,none⟩ u) w.heap.size (fun _=>True) v l∧Keep1 w g (wr.setCell ⟨g,j,none⟩ u) :=
 ⟨Kd.S_set h.row h.box (by intro q hq;simp [k41,Kd.iso,Kd.pair,Kd.int,Kd.scalar,Kd.slice,Kd.string] at hq;rcases hq with rfl|rfl<;>decide) j u,h.bel.set_ j u⟩
theorem RBox.an_ {w:World} {g:Nat} {v:Value} {an bn:Int} {bare:Bool} {fn:Nat} {l:List S41} {wr:World} (h:RBox w g v an bn bare fn l wr) (n:Int):RBox w g v n bn bare fn l (wr.setCell ⟨g,1,none⟩ (.int .i64 n)) :=
 ⟨blk_put h.box 1 _ rfl,(h.put 1 _).1,(h.put 1 _).2⟩
theorem RBox.bn_ {w:World} {g:Nat} {v:Value} {an bn:Int} {bare:Bool} {fn:Nat} {l:List S41} {wr:World} (h:RBox w g v an bn bare fn l wr) (n:Int):RBox w g v an n bare fn l (wr.setCell ⟨g,2,none⟩ (.int .i64 n)) :=
 ⟨blk_put h.box 2 _ rfl,(h.put 2 _).1,(h.put 2 _).2⟩
theorem RBox.bare_ {w:World} {g:Nat} {v:Value} {an bn:Int} {bare:Bool} {fn:Nat} {l:List S41} {wr:World} (h:RBox w g v an bn bare fn l wr) (b:Bool):RBox w g v an bn b fn l (wr.setCell ⟨g,3,none⟩ (.bool b)) :=
 ⟨blk_put h.box 3 _ rfl,(h.put 3 _).1,(h.put 3 _).2⟩
theorem RBox.fn_ {w:World} {g:Nat} {v:Value} {an bn:Int} {bare:Bool} {fn:Nat} {l:List S41} {wr:World} (h:RBox w g v an bn bare fn l wr) (f:Nat):RBox w g v an bn bare f l (wr.setCell ⟨g,4,none⟩ (.func (.func f) #[.pointer (some ⟨g,0,none⟩)] #[])) :=
 ⟨blk_put h.box 4 _ rfl,(h.put 4 _).1,(h.put 4 _).2⟩
def nextF (an bn:Int):Nat:=if an=0∧bn=0 then 60 else 59
set_option maxRecDepth 100000 in
set_option maxHeartbeats 4000000 in
theorem next_calls (w:World) (g:Nat) (v:Value) (an bn:Int) (bare:Bool) (fn:Nat) (l:List S41) (W:World) (h:RBox w g v an bn bare fn l W) :
  Calls Tryd.prog 31 #[.pointer (some ⟨g,0,none⟩)] W fun e w'=>e=.returned (.tuple #[])∧RBox w g v an bn bare (nextF an bn) l w':=by
 have H:=Aside0.mk h
 have hz1:W.cell? ⟨g,1,none⟩=some (.int .i64 an):=(blk_cell h.box 1).trans rfl
 have hz2:W.cell? ⟨g,2,none⟩=some (.int .i64 bn):=(blk_cell h.box 2).trans rfl
 have hz4:W.cell? ⟨g,4,none⟩=some (.func (.func fn) #[.pointer (some ⟨g,0,none⟩)] #[]):=(blk_cell h.box 4).trans rfl
 have hzf:=blk_frozen h.box 4
 have hzs:=blk_frozen h.box 1
 clear h
 by_cases c1:an=0∧bn=0
 ·obtain ⟨rfl,rfl⟩:=c1
  go_enter Tryd.func31,Tryd.ntmps31
  go_wp2
  go_end0
  exact ⟨rfl,((H.out.fn_ _).fn_ _)⟩
 ·have hn:nextF an bn=59:=if_neg c1
  by_cases c2:an=0
  ·have c3:(bn == 0)=false:=beq_eq_false_iff_ne.2 fun e=>c1 ⟨c2,e⟩
   have c4:(an == 0)=true:=beq_iff_eq.2 c2
   clear c1 c2
   go_enter Tryd.func31,Tryd.ntmps31
   go_wp2
   go_end0
   exact ⟨rfl,by rw [hn];exact H.out.fn_ _⟩
  ·have c4:(an == 0)=false:=beq_eq_false_iff_ne.2 c2
   clear c1 c2
   go_enter Tryd.func31,Tryd.ntmps31
   go_wp2
   go_end0
   exact ⟨rfl,by rw [hn];exact H.out.fn_ _⟩
end Go.Proofs.YtamojbfmphainaaDoor.Pr
-- shrunk
/-
What the rows' lists give: the tables, the errors and the bound that layer 6 reads; a world that holds them.
-/
namespace Go.Proofs.YtamojbfmphainaaDoor.Pr
open Go.RowKit Go.Proofs.YtamojbfmphainaaDoorW.PrintWords Go.Proofs.YtamojbfmphainaaDoorW.PrintLast Go.Proofs.YtamojbfmphainaaDoorW.PrintMore
abbrev laidL : List (String × DataW Unit) := [("math/bits.deBruijn32tab", Rows.laid_math_bits_deBruijn32tab), ("math/bits.deBruijn64tab", Rows.laid_math_bits_deBruijn64tab), ("internal/strconv.uint64pow10", Rows.laid_internal_strconv_uint64pow10), ("strconv.ErrRange", Rows.laid_strconv_ErrRange), ("strconv.ErrSyntax", Rows.laid_strconv_ErrSyntax)]
theorem gPow : Tryd.prog.globalNamed "internal/strconv.uint64pow10" = some 1 := by kernel_rfl
theorem gRng : Tryd.prog.globalNamed "strconv.ErrRange" = some 5 := by kernel_rfl
theorem gSyn : Tryd.prog.globalNamed "strconv.ErrSyntax" = some 4 := by kernel_rfl
theorem starE : "*" ++ "errors.errorString" = "*errors.errorString" := by decide
theorem rowE (u : TypeId) (h : Tryd.prog.typeName? 3 u = some "*errors.errorString") : u = 141 :=
 typeName_ptr_named (nm := "errors.errorString") (by rw [starE]; kernel_rfl) (by kernel_rfl) (by decide) u (by rw [starE]; exact h)
theorem laidU_of {W:World} (h:laidMetH Tryd.prog laidL W) (hsh:W.ShapedOpen Tryd.prog):LaidU W:=by
 have h1:laidMet Tryd.prog laidL W:=h
 have hp : laidMet Tryd.prog [("internal/strconv.uint64pow10", Rows.laid_internal_strconv_uint64pow10)] W := h1.filter (fun x => x.1 == "internal/strconv.uint64pow10")
 have hr : laidMet Tryd.prog [("strconv.ErrRange", Rows.laid_strconv_ErrRange)] W := h1.filter (fun x => x.1 == "strconv.ErrRange")
 have hs : laidMet Tryd.prog [("strconv.ErrSyntax", Rows.laid_strconv_ErrSyntax)] W := h1.filter (fun x => x.1 == "strconv.ErrSyntax")
 obtain ⟨a1,s1,hv1,-⟩:=laid_sentinel hs gSyn (show (Tryd.prog.globals[4]?).map (·.type)=some 50 by kernel_rfl) Tryd.underlying50 rowE Tryd.underlying141 Tryd.underlying143 rfl rfl Tryd.underlying9 (by kernel_rfl) (by kernel_rfl)
 obtain ⟨a2,s2,hv2,-⟩:=laid_sentinel hr gRng (show (Tryd.prog.globals[5]?).map (·.type)=some 50 by kernel_rfl) Tryd.underlying50 rowE Tryd.underlying141 Tryd.underlying143 rfl rfl Tryd.underlying9 (by kernel_rfl) (by kernel_rfl)
 exact ⟨Lib.tabIs_of_head (rest:=[]) (n:=20) (k:=.u64) (zs:=Lib.pow10Tab) gPow (show (Tryd.prog.globals[1]?).map (·.type)=some 121 by kernel_rfl) Tryd.underlying121 Tryd.underlying112 (by kernel_rfl) (by kernel_rfl) hp,
  ⟨_,_,hv1⟩,⟨_,_,hv2⟩,
  Go.Proofs.cell_of_shapedOpen_int (zero:=#[.int .i64 0]) (t:=3) hsh (of_decide_eq_true (by kernel_rfl)) (by kernel_rfl) rfl (by kernel_rfl) (by kernel_rfl) Tryd.underlying3⟩
theorem laidAll_met (os:Os) (args:Array Value):laidMet Tryd.prog laidL ((World.laidAll Tryd.prog os laidL).forCall (fun _ _=>0) ⟨#[],args,[]⟩).memory :=
 laidMet_laidAll args (by kernel_rfl) (by kernel_rfl)
end Go.Proofs.YtamojbfmphainaaDoor.Pr
-- shrunk
-- written by a program of this session's (a turned copy of the kit's printer); Lean checks it
namespace Go.Proofs.YtamojbfmphainaaDoor.Pr
open Go.RowKit Go.Proofs.YtamojbfmphainaaDoorW.PrintWords Go.Proofs.YtamojbfmphainaaDoorW.PrintLast Go.Proofs.YtamojbfmphainaaDoorW.PrintMore
attribute [local go_sem] max2_int min2_int max_two min_two max_three min_three max_four min_four   -- for this text's walks alone





def hunk_signed.l0:Nat→Int→List ByteArray→List ByteArray→Int→Int→Option (List ByteArray)
 | 0,_,_,_,_,_=>none
 | k+1,x0,x5,x11,x12,x13=>if x13<x12 then (if 0≤x13 then (if x13<(x11.length:Int) then (if (Go.Utf8.encode x0).size+(rdOf ByteArray.empty x11 x13).size≤9223372036854775807 then (if x13<(x5.length:Int) then (hunk_signed.l0 k x0 (x5.set (x13:Int).toNat ((Go.Utf8.encode x0)++(rdOf ByteArray.empty x11 x13))) x11 x12 (wrap64 (x13+1))) else (none)) else (none)) else (none)) else (none)) else (some x5)
def hunk_signed.f (k:Nat) (a0:Int) (l1:List ByteArray):Option (List ByteArray):=if 0≤(l1.length:Int) then (if ((l1.length:Int):Int).toNat≤17592186044416 then (hunk_signed.l0 k a0 (List.replicate ((l1.length:Int):Int).toNat (⟨#[]⟩:ByteArray)) l1 (l1.length:Int) 0) else (none)) else (none)
set_option maxHeartbeats 8000000 in
set_option maxRecDepth 100000 in
theorem hunk_signed.calls (k:Nat) (a0:Int) (A1:Option Addr) (c1:Nat) (l1:List ByteArray) (r:List ByteArray) (w:World) (hr1:Kd.C Kd.string w A1 l1.length l1) (hc1:l1.length≤c1) (h:hunk_signed.f k a0 l1=some r) :
  Calls Tryd.prog 69 #[.int .u8 a0,.slice A1 l1.length c1] w fun e w'=>∃ v0_:Value,e=.returned (v0_)∧Kd.R Kd.string 9 w' w.heap.size (fun _=>True) v0_ r∧Below w.heap.size w w':=by
 have HR1:=Aside0.mk hr1
 have HC1:=Aside0.mk hc1
 clear hr1 hc1
 have HB:=Aside0.mk (Below.refl w.heap.size w)
 have H:(if 0≤(l1.length:Int) then (if ((l1.length:Int):Int).toNat≤17592186044416 then (hunk_signed.l0 k a0 (List.replicate ((l1.length:Int):Int).toNat (⟨#[]⟩:ByteArray)) l1 (l1.length:Int) 0) else (none)) else (none))=some r:=h
 clear h
 by_cases c3:0≤(l1.length:Int)
 ·rw [if_pos c3] at H
  have c3b0:=eq_true c3
  have c3b1:decide (0≤(l1.length:Int))=true:=decide_eq_true c3
  clear c3
  by_cases c4:((l1.length:Int):Int).toNat≤17592186044416
  ·rw [if_pos c4] at H
   have c4b0:=eq_true c4
   have c4b1:decide (((l1.length:Int):Int).toNat≤17592186044416)=true:=decide_eq_true c4
   clear c4
   obtain ⟨y266,hy266⟩:∃ y_:List ByteArray,y_=(List.replicate ((l1.length:Int):Int).toNat (⟨#[]⟩:ByteArray)):=⟨_,rfl⟩
   replace H:(hunk_signed.l0 k a0 y266 l1 (l1.length:Int) 0)=some r:=by first|(rw [hy266];with_reducible exact H)|(have H2_:=(Option.bind_some _ _).symm.trans H;rw [hy266];with_reducible exact H2_)|(have H2_:=(Option.bind_some _ _).symm.trans H;with_reducible exact H2_)|with_reducible exact H|(rw [hy266];exact H)|exact H
   have Ny266:=Aside0.mk hy266
   clear hy266
   have H':=Aside0.mk H
   clear H
   go_enter Tryd.func69,Tryd.ntmps69
   go_wp2_with (first|((with_reducible refine gate_dst (N:=10) rfl ?_);refine Kd.R_make Kd.string _ 9 rfl (N:=10) rfl 33 _ _ rfl (l1.length:Int) rfl rfl Tryd.underlying33 (.string ⟨#[]⟩) 16 info9 rfl (by decide) (by omega) (⟨#[]⟩:ByteArray) (ok:=fun _=>True) (okp:=fun _=>True) rfl (fun _ hk=>hk) trivial (of_decide_eq_true (by first|(with_reducible assumption)|assumption)) (Nat.le_trans (Nat.mul_le_mul_right _ (of_decide_eq_true (by first|(with_reducible assumption)|assumption):(l1.length:Int).toNat≤17592186044416)) (by omega)) (Below.refl _ _) (Nat.le_refl _) ?_;intro v267 w5 ho6 hb hg_ hnew_;clear hg_ hnew_;(first|rw [← Ny266.out] at ho6|(simp only [Int.reduceToNat] at ho6;rw [← Ny266.out] at ho6));have n0_:=Aside0.mk (Kd.R_lower ho6 (below_size (by repeat (first|(with_reducible first|exact HB.out|apply below_alloc|apply pw_below_drewN|apply below_drew1)|exact HB.out))));have n1_:=Aside0.mk (below_step (by repeat (first|(with_reducible first|exact HB.out|apply below_alloc|apply pw_below_drewN|apply below_drew1)|exact HB.out)) hb);clear HB;have HO268:=n0_;have HB:=n1_;clear n0_ n1_;clear hb ho6))
   go_loopg [13] k (fun kq v13 w'=>∃ (x5_1:List ByteArray) (x13_1:Int),v13=.int .i64 x13_1∧Aside0 (hunk_signed.l0 kq a0 x5_1 l1 (l1.length:Int) x13_1=some r)∧Aside0 (kq≤k)∧Aside0 (Kd.R Kd.string 9 w' w.heap.size (fun _=>True) v267 x5_1)∧Aside0 (Below w.heap.size w w'))
   case atStart=>exact ⟨(y266),(0),(by first|rfl|(simp;done)|(simp [*];done)),H',⟨Nat.le_refl _⟩,⟨by (with_reducible repeat (first|apply Kd.R_alloc|apply Kd.R_drewN|apply Kd.R_drew));exact HO268.out⟩,⟨by repeat (first|(with_reducible first|exact HB.out|apply below_alloc|apply pw_below_drewN|apply below_drew1)|exact HB.out)⟩⟩
   case round =>
    clear H'
    try clear c1
    try clear p2
    try clear c3
    try clear c3b0
    try clear c3b1
    try clear c4
    try clear c4b0
    try clear c4b1
    try clear c6
    obtain ⟨x5_1,x13_1,rfl,HA,HK1,HO_5,HB⟩:=hrel
    cases gk with
    | zero=>exact absurd HA.out (by simp [hunk_signed.l0])
    | succ k1 =>
     have H:=HA.out
     clear HA
     simp only [hunk_signed.l0] at H
     by_cases c7:x13_1<(l1.length:Int)
     ·rw [if_pos c7] at H
      have c7b0:decide (x13_1<(l1.length:Int))=true:=decide_eq_true c7
      clear c7
      by_cases c8:0≤x13_1
      ·rw [if_pos c8] at H
       have c8b0:decide (0≤x13_1)=true:=decide_eq_true c8
       clear c8
       by_cases c9:x13_1<(l1.length:Int)
       ·rw [if_pos c9] at H
        have c9b0:decide (x13_1<(l1.length:Int))=true:=decide_eq_true c9
        clear c9
        by_cases c10:(Go.Utf8.encode a0).size+(rdOf ByteArray.empty l1 x13_1).size≤9223372036854775807
        ·rw [if_pos c10] at H
         have c10b0:=eq_true c10
         have c10b1:decide ((Go.Utf8.encode a0).size+(rdOf ByteArray.empty l1 x13_1).size≤9223372036854775807)=true:=decide_eq_true c10
         try have c10b2:(9223372036854775807<(Go.Utf8.encode a0).size+(rdOf ByteArray.empty l1 x13_1).size)=False:=eq_false (Nat.not_lt.2 c10)
         by_cases c11:x13_1<(x5_1.length:Int)
         ·rw [if_pos c11] at H
          have c11b0:decide (x13_1<(x5_1.length:Int))=true:=decide_eq_true c11
          clear c11
          obtain ⟨y270,hy270⟩:∃ y_:List ByteArray,y_=(x5_1.set (x13_1:Int).toNat ((Go.Utf8.encode a0)++(rdOf ByteArray.empty l1 x13_1))):=⟨_,rfl⟩
          replace H:(hunk_signed.l0 k1 a0 y270 l1 (l1.length:Int) (wrap64 (x13_1+1)))=some r:=by first|(rw [hy270];with_reducible exact H)|(have H2_:=(Option.bind_some _ _).symm.trans H;rw [hy270];with_reducible exact H2_)|(have H2_:=(Option.bind_some _ _).symm.trans H;with_reducible exact H2_)|with_reducible exact H|(rw [hy270];exact H)|exact H
          have Ny270:=Aside0.mk hy270
          clear hy270
          have H':=Aside0.mk H
          clear H
          have p269:0≤(x13_1:Int):=of_decide_eq_true (by first|(with_reducible assumption)|assumption)
          have q269:x13_1<(l1.length:Int):=of_decide_eq_true (by first|(with_reducible assumption)|assumption)
          obtain ⟨ad269,e269,hx269_0⟩:=Kd.at_string HR1.out x13_1 p269 q269
          cases e269
          replace hx269_0:=(HB.out.cell (World.block_lt_of_cell? w _ hx269_0)).trans hx269_0
          replace p269:=eq_true p269
          replace q269:=eq_true q269
          have p12:0≤(x13_1:Int):=of_decide_eq_true (by first|(with_reducible assumption)|assumption)
          have q12:(x13_1:Int)<((x5_1.length:Int):Int):=of_decide_eq_true (by first|(with_reducible assumption)|assumption)
          obtain ⟨go12,co12,eo12,gb12,gl12,cl12,HG12⟩:=Kd.R_form HO_5.out (by omega)
          (first|cases eo12|(injection eo12 with ea_ en_ ec_;(first|subst ea_|(injection ea_ with ea_;subst ea_));subst ec_;clear en_))
          have GB12:=Aside0.mk gb12
          have GG12:=Aside0.mk HG12
          clear gb12 gl12 HG12
          obtain ⟨hx12_0,hf12_0⟩:=Kd.R_celln (⟨#[]⟩:ByteArray) HO_5.out (x13_1:Int) p12 q12
          replace p12:=eq_true p12
          replace q12:=eq_true q12
          have HP13:=Kd.R_putg HO_5.out (x13_1:Int) ((Go.Utf8.encode a0)++(rdOf ByteArray.empty l1 x13_1))
          go_wp2_with (first|((with_reducible refine gate_store (t:=9) (p:=24) rfl ?_);refine store_event (t:=9) (p:=24) (v:=?vo_w14) (w1:=(wr.setCell ⟨go12,(x13_1:Int).toNat,none⟩ (.string ((Go.Utf8.encode a0)++(rdOf ByteArray.empty l1 x13_1))))) ?hg ?ho ?hn ?hr ?_;(case ho=>rfl);(case hg=>rfl);(case hn=>rfl);(case hr=>first|(go_simp;done)|(go_simp;rfl));intro w14 hw;have hg:wr.grownBy w14 (some go12):=(by rw [hw];exact HP13.2);have hp_:Kd.R Kd.string 9 w14 w.heap.size (fun _=>True) (.slice (some ⟨go12,0,none⟩) x5_1.length co12) y270:=(by rw [hw,Ny270.out];exact HP13.1);clear HP13;have n0_:=Aside0.mk (hp_);have n1_:=Aside0.mk ((by rw [hw];exact below_set (HB.out) GB12.out:Below w.heap.size w w14));clear HO_5;clear HB;have HO_5:=n0_;have HB:=n1_;clear n0_ n1_;clear hg hw hp_))
          go_roundg k1
          case measure=>have:=HK1.out;omega
          case rel=>exact ⟨(y270),(wrap64 (x13_1+1)),(by first|rfl|(simp;done)|(simp [*];done)),H',⟨by have:=HK1.out;omega⟩,⟨by (with_reducible repeat (first|apply Kd.R_alloc|apply Kd.R_drewN|apply Kd.R_drew));exact HO_5.out⟩,⟨by repeat (first|(with_reducible first|exact HB.out|apply below_alloc|apply pw_below_drewN|apply below_drew1)|exact HB.out)⟩⟩
         ·rw [if_neg c11] at H
          exact absurd H (by simp)
        ·rw [if_neg c10] at H
         exact absurd H (by simp)
       ·rw [if_neg c9] at H
        exact absurd H (by simp)
      ·rw [if_neg c8] at H
       exact absurd H (by simp)
     ·rw [if_neg c7] at H
      have c7b0:decide (x13_1<(l1.length:Int))=false:=decide_eq_false c7
      clear c7
      obtain rfl:=Option.some.inj H
      go_wp2
      go_ret
      exact ⟨_,by first|rfl|(simp [errW_none,errW_some]<;>rfl)|(simp [*,errW_none,errW_some]<;>rfl),by (with_reducible repeat (first|apply Kd.R_alloc|apply Kd.R_drewN|apply Kd.R_drew));exact HO_5.out,by repeat (first|(with_reducible first|exact HB.out|apply below_alloc|apply pw_below_drewN|apply below_drew1)|exact HB.out)⟩
  ·rw [if_neg c4] at H
   exact absurd H (by simp)
 ·rw [if_neg c3] at H
  exact absurd H (by simp)

end Go.Proofs.YtamojbfmphainaaDoor.Pr
-- shrunk
-- written by a program of this session's (a turned copy of the kit's printer); Lean checks it
namespace Go.Proofs.YtamojbfmphainaaDoor.Pr
open Go.RowKit Go.Proofs.YtamojbfmphainaaDoorW.PrintWords Go.Proofs.YtamojbfmphainaaDoorW.PrintLast Go.Proofs.YtamojbfmphainaaDoorW.PrintMore
attribute [local go_sem] max2_int min2_int max_two min_two max_three min_three max_four min_four   -- for this text's walks alone

def hunk_bare.l0:Nat→List ByteArray→List ByteArray→Int→Int→Option (List ByteArray)
 | 0,_,_,_,_=>none
 | k+1,x3,x9,x10,x11=>if x11<x10 then (if 0≤x11 then (if x11<(x9.length:Int) then (if 1≤((rdOf ByteArray.empty x9 x11).size:Int) then (if x11<(x3.length:Int) then (hunk_bare.l0 k (x3.set (x11:Int).toNat ((rdOf ByteArray.empty x9 x11).extract 1 (rdOf ByteArray.empty x9 x11).size)) x9 x10 (wrap64 (x11+1))) else (none)) else (none)) else (none)) else (none)) else (some x3)
def hunk_bare.f (k:Nat) (l0:List ByteArray):Option (List ByteArray):=if 0≤(l0.length:Int) then (if ((l0.length:Int):Int).toNat≤17592186044416 then (hunk_bare.l0 k (List.replicate ((l0.length:Int):Int).toNat (⟨#[]⟩:ByteArray)) l0 (l0.length:Int) 0) else (none)) else (none)
set_option maxHeartbeats 8000000 in
set_option maxRecDepth 100000 in
theorem hunk_bare.calls (k:Nat) (A0:Option Addr) (c0:Nat) (l0:List ByteArray) (r:List ByteArray) (w:World) (hr0:Kd.C Kd.string w A0 l0.length l0) (hc0:l0.length≤c0) (h:hunk_bare.f k l0=some r) :
  Calls Tryd.prog 49 #[.slice A0 l0.length c0] w fun e w'=>∃ v0_:Value,e=.returned (v0_)∧Kd.R Kd.string 9 w' w.heap.size (fun _=>True) v0_ r∧Below w.heap.size w w':=by
 have HR0:=Aside0.mk hr0
 have HC0:=Aside0.mk hc0
 clear hr0 hc0
 have HB:=Aside0.mk (Below.refl w.heap.size w)
 have H:(if 0≤(l0.length:Int) then (if ((l0.length:Int):Int).toNat≤17592186044416 then (hunk_bare.l0 k (List.replicate ((l0.length:Int):Int).toNat (⟨#[]⟩:ByteArray)) l0 (l0.length:Int) 0) else (none)) else (none))=some r:=h
 clear h
 by_cases c2:0≤(l0.length:Int)
 ·rw [if_pos c2] at H
  have c2b0:=eq_true c2
  have c2b1:decide (0≤(l0.length:Int))=true:=decide_eq_true c2
  clear c2
  by_cases c3:((l0.length:Int):Int).toNat≤17592186044416
  ·rw [if_pos c3] at H
   have c3b0:=eq_true c3
   have c3b1:decide (((l0.length:Int):Int).toNat≤17592186044416)=true:=decide_eq_true c3
   clear c3
   obtain ⟨y352,hy352⟩:∃ y_:List ByteArray,y_=(List.replicate ((l0.length:Int):Int).toNat (⟨#[]⟩:ByteArray)):=⟨_,rfl⟩
   replace H:(hunk_bare.l0 k y352 l0 (l0.length:Int) 0)=some r:=by first|(rw [hy352];with_reducible exact H)|(have H2_:=(Option.bind_some _ _).symm.trans H;rw [hy352];with_reducible exact H2_)|(have H2_:=(Option.bind_some _ _).symm.trans H;with_reducible exact H2_)|with_reducible exact H|(rw [hy352];exact H)|exact H
   have Ny352:=Aside0.mk hy352
   clear hy352
   have H':=Aside0.mk H
   clear H
   go_enter Tryd.func49,Tryd.ntmps49
   go_wp2_with (first|((with_reducible refine gate_dst (N:=8) rfl ?_);refine Kd.R_make Kd.string _ 9 rfl (N:=8) rfl 33 _ _ rfl (l0.length:Int) rfl rfl Tryd.underlying33 (.string ⟨#[]⟩) 16 info9 rfl (by decide) (by omega) (⟨#[]⟩:ByteArray) (ok:=fun _=>True) (okp:=fun _=>True) rfl (fun _ hk=>hk) trivial (of_decide_eq_true (by first|(with_reducible assumption)|assumption)) (Nat.le_trans (Nat.mul_le_mul_right _ (of_decide_eq_true (by first|(with_reducible assumption)|assumption):(l0.length:Int).toNat≤17592186044416)) (by omega)) (Below.refl _ _) (Nat.le_refl _) ?_;intro v353 w4 ho5 hb hg_ hnew_;clear hg_ hnew_;(first|rw [← Ny352.out] at ho5|(simp only [Int.reduceToNat] at ho5;rw [← Ny352.out] at ho5));have n0_:=Aside0.mk (Kd.R_lower ho5 (below_size (by repeat (first|(with_reducible first|exact HB.out|apply below_alloc|apply pw_below_drewN|apply below_drew1)|exact HB.out))));have n1_:=Aside0.mk (below_step (by repeat (first|(with_reducible first|exact HB.out|apply below_alloc|apply pw_below_drewN|apply below_drew1)|exact HB.out)) hb);clear HB;have HO354:=n0_;have HB:=n1_;clear n0_ n1_;clear hb ho5))
   go_loopg [11] k (fun kq v11 w'=>∃ (x3_1:List ByteArray) (x11_1:Int),v11=.int .i64 x11_1∧Aside0 (hunk_bare.l0 kq x3_1 l0 (l0.length:Int) x11_1=some r)∧Aside0 (kq≤k)∧Aside0 (Kd.R Kd.string 9 w' w.heap.size (fun _=>True) v353 x3_1)∧Aside0 (Below w.heap.size w w'))
   case atStart=>exact ⟨(y352),(0),(by first|rfl|(simp;done)|(simp [*];done)),H',⟨Nat.le_refl _⟩,⟨by (with_reducible repeat (first|apply Kd.R_alloc|apply Kd.R_drewN|apply Kd.R_drew));exact HO354.out⟩,⟨by repeat (first|(with_reducible first|exact HB.out|apply below_alloc|apply pw_below_drewN|apply below_drew1)|exact HB.out)⟩⟩
   case round =>
    clear H'
    try clear c2
    try clear c2b0
    try clear c2b1
    try clear p2
    try clear c3
    try clear c3b0
    try clear c3b1
    try clear c4
    obtain ⟨x3_1,x11_1,rfl,HA,HK1,HO_3,HB⟩:=hrel
    cases gk with
    | zero=>exact absurd HA.out (by simp [hunk_bare.l0])
    | succ k1 =>
     have H:=HA.out
     clear HA
     simp only [hunk_bare.l0] at H
     by_cases c6:x11_1<(l0.length:Int)
     ·rw [if_pos c6] at H
      have c6b0:decide (x11_1<(l0.length:Int))=true:=decide_eq_true c6
      clear c6
      by_cases c7:0≤x11_1
      ·rw [if_pos c7] at H
       have c7b0:decide (0≤x11_1)=true:=decide_eq_true c7
       clear c7
       by_cases c8:x11_1<(l0.length:Int)
       ·rw [if_pos c8] at H
        have c8b0:decide (x11_1<(l0.length:Int))=true:=decide_eq_true c8
        clear c8
        by_cases c9:1≤((rdOf ByteArray.empty l0 x11_1).size:Int)
        ·rw [if_pos c9] at H
         have c9b0:=eq_true c9
         have c9b1:decide (1≤((rdOf ByteArray.empty l0 x11_1).size:Int))=true:=decide_eq_true c9
         clear c9
         by_cases c10:x11_1<(x3_1.length:Int)
         ·rw [if_pos c10] at H
          have c10b0:decide (x11_1<(x3_1.length:Int))=true:=decide_eq_true c10
          clear c10
          obtain ⟨y356,hy356⟩:∃ y_:List ByteArray,y_=(x3_1.set (x11_1:Int).toNat ((rdOf ByteArray.empty l0 x11_1).extract 1 (rdOf ByteArray.empty l0 x11_1).size)):=⟨_,rfl⟩
          replace H:(hunk_bare.l0 k1 y356 l0 (l0.length:Int) (wrap64 (x11_1+1)))=some r:=by first|(rw [hy356];with_reducible exact H)|(have H2_:=(Option.bind_some _ _).symm.trans H;rw [hy356];with_reducible exact H2_)|(have H2_:=(Option.bind_some _ _).symm.trans H;with_reducible exact H2_)|with_reducible exact H|(rw [hy356];exact H)|exact H
          have Ny356:=Aside0.mk hy356
          clear hy356
          have H':=Aside0.mk H
          clear H
          have p355:0≤(x11_1:Int):=of_decide_eq_true (by first|(with_reducible assumption)|assumption)
          have q355:x11_1<(l0.length:Int):=of_decide_eq_true (by first|(with_reducible assumption)|assumption)
          obtain ⟨ad355,e355,hx355_0⟩:=Kd.at_string HR0.out x11_1 p355 q355
          cases e355
          replace hx355_0:=(HB.out.cell (World.block_lt_of_cell? w _ hx355_0)).trans hx355_0
          replace p355:=eq_true p355
          replace q355:=eq_true q355
          have p11:0≤(x11_1:Int):=of_decide_eq_true (by first|(with_reducible assumption)|assumption)
          have q11:(x11_1:Int)<((x3_1.length:Int):Int):=of_decide_eq_true (by first|(with_reducible assumption)|assumption)
          obtain ⟨go11,co11,eo11,gb11,gl11,cl11,HG11⟩:=Kd.R_form HO_3.out (by omega)
          (first|cases eo11|(injection eo11 with ea_ en_ ec_;(first|subst ea_|(injection ea_ with ea_;subst ea_));subst ec_;clear en_))
          have GB11:=Aside0.mk gb11
          have GG11:=Aside0.mk HG11
          clear gb11 gl11 HG11
          obtain ⟨hx11_0,hf11_0⟩:=Kd.R_celln (⟨#[]⟩:ByteArray) HO_3.out (x11_1:Int) p11 q11
          replace p11:=eq_true p11
          replace q11:=eq_true q11
          have HP12:=Kd.R_putg HO_3.out (x11_1:Int) ((rdOf ByteArray.empty l0 x11_1).extract 1 (rdOf ByteArray.empty l0 x11_1).size)
          go_wp2_with (first|((with_reducible refine gate_store (t:=9) (p:=20) rfl ?_);refine store_event (t:=9) (p:=20) (v:=?vo_w13) (w1:=(wr.setCell ⟨go11,(x11_1:Int).toNat,none⟩ (.string ((rdOf ByteArray.empty l0 x11_1).extract 1 (rdOf ByteArray.empty l0 x11_1).size)))) ?hg ?ho ?hn ?hr ?_;(case ho=>rfl);(case hg=>rfl);(case hn=>rfl);(case hr=>first|(go_simp;done)|(go_simp;rfl));intro w13 hw;have hg:wr.grownBy w13 (some go11):=(by rw [hw];exact HP12.2);have hp_:Kd.R Kd.string 9 w13 w.heap.size (fun _=>True) (.slice (some ⟨go11,0,none⟩) x3_1.length co11) y356:=(by rw [hw,Ny356.out];exact HP12.1);clear HP12;have n0_:=Aside0.mk (hp_);have n1_:=Aside0.mk ((by rw [hw];exact below_set (HB.out) GB11.out:Below w.heap.size w w13));clear HO_3;clear HB;have HO_3:=n0_;have HB:=n1_;clear n0_ n1_;clear hg hw hp_))
          go_roundg k1
          case measure=>have:=HK1.out;omega
          case rel=>exact ⟨(y356),(wrap64 (x11_1+1)),(by first|rfl|(simp;done)|(simp [*];done)),H',⟨by have:=HK1.out;omega⟩,⟨by (with_reducible repeat (first|apply Kd.R_alloc|apply Kd.R_drewN|apply Kd.R_drew));exact HO_3.out⟩,⟨by repeat (first|(with_reducible first|exact HB.out|apply below_alloc|apply pw_below_drewN|apply below_drew1)|exact HB.out)⟩⟩
         ·rw [if_neg c10] at H
          exact absurd H (by simp)
        ·rw [if_neg c9] at H
         exact absurd H (by simp)
       ·rw [if_neg c8] at H
        exact absurd H (by simp)
      ·rw [if_neg c7] at H
       exact absurd H (by simp)
     ·rw [if_neg c6] at H
      have c6b0:decide (x11_1<(l0.length:Int))=false:=decide_eq_false c6
      clear c6
      obtain rfl:=Option.some.inj H
      go_wp2
      go_ret
      exact ⟨_,by first|rfl|(simp [errW_none,errW_some]<;>rfl)|(simp [*,errW_none,errW_some]<;>rfl),by (with_reducible repeat (first|apply Kd.R_alloc|apply Kd.R_drewN|apply Kd.R_drew));exact HO_3.out,by repeat (first|(with_reducible first|exact HB.out|apply below_alloc|apply pw_below_drewN|apply below_drew1)|exact HB.out)⟩
  ·rw [if_neg c3] at H
   exact absurd H (by simp)
 ·rw [if_neg c2] at H
  exact absurd H (by simp)

end Go.Proofs.YtamojbfmphainaaDoor.Pr
-- shrunk
-- written by a program of this session's (a turned copy of the kit's printer); Lean checks it
namespace Go.Proofs.YtamojbfmphainaaDoor.Pr
open Go.RowKit Go.Proofs.YtamojbfmphainaaDoorW.PrintWords Go.Proofs.YtamojbfmphainaaDoorW.PrintLast Go.Proofs.YtamojbfmphainaaDoorW.PrintMore
attribute [local go_sem] max2_int min2_int max_two min_two max_three min_three max_four min_four   -- for this text's walks alone

def hunk_run.l0:Nat→List ByteArray→Int→List ByteArray→Int→Int→Option (Int)
 | 0,_,_,_,_,_=>none
 | k+1,x0,x1,x7,x8,x9=>if x9<x8 then (if 0≤x9 then (if x9<(x7.length:Int) then (if 0<((rdOf ByteArray.empty x7 x9).size:Int) then (if (bt (rdOf ByteArray.empty x7 x9) 0)=x1 then (hunk_run.l0 k x0 x1 x7 x8 (wrap64 (x9+1))) else (some x9)) else (none)) else (none)) else (none)) else (some (x0.length:Int))
def hunk_run.f (k:Nat) (l0:List ByteArray) (a1:Int):Option (Int):=hunk_run.l0 k l0 a1 l0 (l0.length:Int) 0
set_option maxHeartbeats 8000000 in
set_option maxRecDepth 100000 in
theorem hunk_run.calls (k:Nat) (A0:Option Addr) (c0:Nat) (l0:List ByteArray) (a1:Int) (r:Int) (w:World) (hr0:Kd.C Kd.string w A0 l0.length l0) (hc0:l0.length≤c0) (h:hunk_run.f k l0 a1=some r) :
  Calls Tryd.prog 48 #[.slice A0 l0.length c0,.int .u8 a1] w fun e w'=>e=.returned (.int .i64 r)∧Drawn0 w w':=by
 have HR0:=Aside0.mk hr0
 have HC0:=Aside0.mk hc0
 clear hr0 hc0
 have H:(hunk_run.l0 k l0 a1 l0 (l0.length:Int) 0)=some r:=h
 clear h
 have H':=Aside0.mk H
 clear H
 go_enter Tryd.func48,Tryd.ntmps48
 go_wp2
 go_loopg [9] k (fun kq v9 w'=>∃ (x9_1:Int),v9=.int .i64 x9_1∧Aside0 (hunk_run.l0 kq l0 a1 l0 (l0.length:Int) x9_1=some r)∧Aside0 (kq≤k)∧Drawn0 w w')
 case atStart=>exact ⟨(0),(by first|rfl|(simp;done)|(simp [*];done)),H',⟨Nat.le_refl _⟩,by repeat (first|exact Drawn0.refl _|apply Drawn0.step)⟩
 case round =>
  clear H'
  try clear p2
  obtain ⟨x9_1,rfl,HA,HK1,⟨m1,rfl⟩⟩:=hrel
  cases gk with
  | zero=>exact absurd HA.out (by simp [hunk_run.l0])
  | succ k1 =>
   have H:=HA.out
   clear HA
   simp only [hunk_run.l0] at H
   by_cases c3:x9_1<(l0.length:Int)
   ·rw [if_pos c3] at H
    have c3b0:decide (x9_1<(l0.length:Int))=true:=decide_eq_true c3
    clear c3
    by_cases c4:0≤x9_1
    ·rw [if_pos c4] at H
     have c4b0:decide (0≤x9_1)=true:=decide_eq_true c4
     clear c4
     by_cases c5:x9_1<(l0.length:Int)
     ·rw [if_pos c5] at H
      have c5b0:decide (x9_1<(l0.length:Int))=true:=decide_eq_true c5
      clear c5
      by_cases c6:0<((rdOf ByteArray.empty l0 x9_1).size:Int)
      ·rw [if_pos c6] at H
       have c6b0:decide (0<((rdOf ByteArray.empty l0 x9_1).size:Int))=true:=decide_eq_true c6
       have c6b1:decide (0<(rdOf ByteArray.empty l0 x9_1).size)=true:=decide_eq_true (by omega)
       clear c6
       by_cases c8:(bt (rdOf ByteArray.empty l0 x9_1) 0)=a1
       ·rw [if_pos c8] at H
        have c8b0:((bt (rdOf ByteArray.empty l0 x9_1) 0) == a1)=true:=beq_iff_eq.mpr c8
        have c8b1:((bt (rdOf ByteArray.empty l0 x9_1) 0) != a1)=false:=bne_eq_false_iff_eq.mpr c8
        clear c8
        have H':=Aside0.mk H
        clear H
        have p351:0≤(x9_1:Int):=of_decide_eq_true (by first|(with_reducible assumption)|assumption)
        have q351:x9_1<(l0.length:Int):=of_decide_eq_true (by first|(with_reducible assumption)|assumption)
        obtain ⟨ad351,e351,hx351_0⟩:=Kd.at_string HR0.out x9_1 p351 q351
        cases e351
        replace p351:=eq_true p351
        replace q351:=eq_true q351
        have p7:0≤(0:Int):=(by omega)
        have q7:0<(rdOf ByteArray.empty l0 x9_1).size:=(by have:(0:Int)<((rdOf ByteArray.empty l0 x9_1).size:Int):=of_decide_eq_true (by first|(with_reducible assumption)|assumption);omega)
        have hx7:∀ h:0<(rdOf ByteArray.empty l0 x9_1).size,(((rdOf ByteArray.empty l0 x9_1)[0]'h).toNat:Int)=bt (rdOf ByteArray.empty l0 x9_1) 0:=bt_at (rdOf ByteArray.empty l0 x9_1) 0
        clear p7
        have qi7:(0<((rdOf ByteArray.empty l0 x9_1).size:Int))=True:=eq_true (of_decide_eq_true (by first|(with_reducible assumption)|assumption))
        replace q7:=eq_true q7
        go_wp2
        go_roundg k1
        case measure=>have:=HK1.out;omega
        case rel=>exact ⟨(wrap64 (x9_1+1)),(by first|rfl|(simp;done)|(simp [*];done)),H',⟨by have:=HK1.out;omega⟩,by repeat (first|exact Drawn0.refl _|apply Drawn0.step)⟩
       ·rw [if_neg c8] at H
        have c8b0:((bt (rdOf ByteArray.empty l0 x9_1) 0) == a1)=false:=beq_eq_false_iff_ne.mpr c8
        have c8b1:((bt (rdOf ByteArray.empty l0 x9_1) 0) != a1)=true:=bne_iff_ne.mpr c8
        obtain rfl:=Option.some.inj H
        have p351:0≤(x9_1:Int):=of_decide_eq_true (by first|(with_reducible assumption)|assumption)
        have q351:x9_1<(l0.length:Int):=of_decide_eq_true (by first|(with_reducible assumption)|assumption)
        obtain ⟨ad351,e351,hx351_0⟩:=Kd.at_string HR0.out x9_1 p351 q351
        cases e351
        replace p351:=eq_true p351
        replace q351:=eq_true q351
        have p7:0≤(0:Int):=(by omega)
        have q7:0<(rdOf ByteArray.empty l0 x9_1).size:=(by have:(0:Int)<((rdOf ByteArray.empty l0 x9_1).size:Int):=of_decide_eq_true (by first|(with_reducible assumption)|assumption);omega)
        have hx7:∀ h:0<(rdOf ByteArray.empty l0 x9_1).size,(((rdOf ByteArray.empty l0 x9_1)[0]'h).toNat:Int)=bt (rdOf ByteArray.empty l0 x9_1) 0:=bt_at (rdOf ByteArray.empty l0 x9_1) 0
        clear p7
        have qi7:(0<((rdOf ByteArray.empty l0 x9_1).size:Int))=True:=eq_true (of_decide_eq_true (by first|(with_reducible assumption)|assumption))
        replace q7:=eq_true q7
        go_wp2
        go_ret
        exact ⟨by first|rfl|(simp;done)|(simp [*];done),by repeat (first|exact Drawn0.refl _|apply Drawn0.step)⟩
      ·rw [if_neg c6] at H
       exact absurd H (by simp)
     ·rw [if_neg c5] at H
      exact absurd H (by simp)
    ·rw [if_neg c4] at H
     exact absurd H (by simp)
   ·rw [if_neg c3] at H
    have c3b0:decide (x9_1<(l0.length:Int))=false:=decide_eq_false c3
    clear c3
    obtain rfl:=Option.some.inj H
    go_wp2
    go_ret
    exact ⟨by first|rfl|(simp;done)|(simp [*];done),by repeat (first|exact Drawn0.refl _|apply Drawn0.step)⟩

end Go.Proofs.YtamojbfmphainaaDoor.Pr
-- shrunk
-- written by a program of this session's (a turned copy of the kit's printer); Lean checks it
namespace Go.Proofs.YtamojbfmphainaaDoor.Pr
open Go.RowKit Go.Proofs.YtamojbfmphainaaDoorW.PrintWords Go.Proofs.YtamojbfmphainaaDoorW.PrintLast Go.Proofs.YtamojbfmphainaaDoorW.PrintMore
attribute [local go_sem] max2_int min2_int max_two min_two max_three min_three max_four min_four   -- for this text's walks alone

mutual
def hunk_count.l0:Nat→Int→Int→Bool→List ByteArray→Int→Int→Option (Int × Int × Bool)
 | 0,_,_,_,_,_,_=>none
 | k+1,x2,x3,x5,x8,x9,x10=>if x10<x9 then (if 0≤x10 then (if x10<(x8.length:Int) then (if (rdOf ByteArray.empty x8 x10).toList=([]:List UInt8) then (hunk_count.j1 k x2 x3 (rdOf ByteArray.empty x8 x10) x8 x9 x10 true) else (if 0<((rdOf ByteArray.empty x8 x10).size:Int) then (if (bt (rdOf ByteArray.empty x8 x10) 0)=45 then (hunk_count.j1 k x2 x3 (rdOf ByteArray.empty x8 x10) x8 x9 x10 x5) else (hunk_count.j1 k x2 x3 (rdOf ByteArray.empty x8 x10) x8 x9 x10 false)) else (none))) else (none)) else (none)) else (some (x2,x3,true))
def hunk_count.j1:Nat→Int→Int→ByteArray→List ByteArray→Int→Int→Bool→Option (Int × Int × Bool)
 | 0,_,_,_,_,_,_,_=>none
 | k+1,x2,x3,x7,x8,x9,x10,x23=>if x23=true then (some (0,0,false)) else (if 0<(x7.size:Int) then (if (bt x7 0)=32 then (hunk_count.l0 k (wrap64 (x2+1)) (wrap64 (x3+1)) ((bt x7 0) == 43) x8 x9 (wrap64 (x10+1))) else (if (bt x7 0)=43 then (hunk_count.l0 k x2 (wrap64 (x3+1)) ((bt x7 0) == 43) x8 x9 (wrap64 (x10+1))) else (if (bt x7 0)=45 then (hunk_count.l0 k (wrap64 (x2+1)) x3 ((bt x7 0) == 43) x8 x9 (wrap64 (x10+1))) else (some (0,0,false))))) else (none))
end
def hunk_count.f (k:Nat) (l0:List ByteArray):Option (Int × Int × Bool):=hunk_count.l0 k 0 0 false l0 (l0.length:Int) 0
set_option maxHeartbeats 8000000 in
set_option maxRecDepth 100000 in
theorem hunk_count.calls (k:Nat) (A0:Option Addr) (c0:Nat) (l0:List ByteArray) (r1:Int) (r2:Int) (r3:Bool) (w:World) (hr0:Kd.C Kd.string w A0 l0.length l0) (hc0:l0.length≤c0) (h:hunk_count.f k l0=some (r1,r2,r3)) :
  Calls Tryd.prog 70 #[.slice A0 l0.length c0] w fun e w'=>e=.returned (.tuple #[.int .i64 r1,.int .i64 r2,.bool r3])∧Drawn0 w w':=by
 have HR0:=Aside0.mk hr0
 have HC0:=Aside0.mk hc0
 clear hr0 hc0
 have H:(hunk_count.l0 k 0 0 false l0 (l0.length:Int) 0)=some (r1,r2,r3):=h
 clear h
 have H':=Aside0.mk H
 clear H
 go_enter Tryd.func70,Tryd.ntmps70
 go_wp2
 go_loopg [2,3,5,10] k (fun kq v2 v3 v5 v10 w'=>∃ (x2_1:Int) (x3_1:Int) (x5_1:Bool) (x10_1:Int),v2=.int .i64 x2_1∧v3=.int .i64 x3_1∧v5=.bool x5_1∧v10=.int .i64 x10_1∧Aside0 (hunk_count.l0 kq x2_1 x3_1 x5_1 l0 (l0.length:Int) x10_1=some (r1,r2,r3))∧Aside0 (kq≤k)∧Drawn0 w w')
 case atStart=>exact ⟨(0),(0),(false),(0),(by first|rfl|(simp;done)|(simp [*];done)),(by first|rfl|(simp;done)|(simp [*];done)),(by first|rfl|(simp;done)|(simp [*];done)),(by first|rfl|(simp;done)|(simp [*];done)),H',⟨Nat.le_refl _⟩,by repeat (first|exact Drawn0.refl _|apply Drawn0.step)⟩
 case round =>
  clear H'
  obtain ⟨x2_1,x3_1,x5_1,x10_1,rfl,rfl,rfl,rfl,HA,HK1,⟨m1,rfl⟩⟩:=hrel
  cases gk with
  | zero=>exact absurd HA.out (by simp [hunk_count.l0])
  | succ k1 =>
   have H:=HA.out
   clear HA
   simp only [hunk_count.l0] at H
   by_cases c2:x10_1<(l0.length:Int)
   ·rw [if_pos c2] at H
    have c2b0:decide (x10_1<(l0.length:Int))=true:=decide_eq_true c2
    clear c2
    by_cases c3:0≤x10_1
    ·rw [if_pos c3] at H
     have c3b0:decide (0≤x10_1)=true:=decide_eq_true c3
     clear c3
     by_cases c4:x10_1<(l0.length:Int)
     ·rw [if_pos c4] at H
      have c4b0:decide (x10_1<(l0.length:Int))=true:=decide_eq_true c4
      clear c4
      have HC5:=Aside0.mk H
      clear H
      have p108:0≤(x10_1:Int):=of_decide_eq_true (by first|(with_reducible assumption)|assumption)
      have q108:x10_1<(l0.length:Int):=of_decide_eq_true (by first|(with_reducible assumption)|assumption)
      obtain ⟨ad108,e108,hx108_0⟩:=Kd.at_string HR0.out x10_1 p108 q108
      cases e108
      replace p108:=eq_true p108
      replace q108:=eq_true q108
      go_upto_region 5 with (fail)
      go_cut [23] (fun v23 wc=>∃ (kq:Nat) (x23_4:Bool),v23=.bool x23_4∧Aside0 (hunk_count.j1 kq x2_1 x3_1 (rdOf ByteArray.empty l0 x10_1) l0 (l0.length:Int) x10_1 x23_4=some (r1,r2,r3))∧Aside0 (kq≤k1)∧Drawn0 w wc)
      case first =>
       have H:=HC5.out
       clear HC5
       by_cases c6:(rdOf ByteArray.empty l0 x10_1).toList=([]:List UInt8)
       ·rw [if_pos c6] at H
        have c6b0:((rdOf ByteArray.empty l0 x10_1).toList == ([]:List UInt8))=true:=beq_iff_eq.mpr c6
        have c6b1:((rdOf ByteArray.empty l0 x10_1).toList != ([]:List UInt8))=false:=bne_eq_false_iff_eq.mpr c6
        clear c6
        (first|rw [c6b0]|(simp only [i64_w,i32_w];rw [c6b0])|skip)
        have H':=Aside0.mk H
        clear H
        go_wp2
        go_meet
        case rel=>exact ⟨_,(true),(by first|rfl|(simp;done)|(simp [*];done)),H',⟨by have:=HK1.out;first|omega|exact Nat.le_refl _⟩,by repeat (first|exact Drawn0.refl _|apply Drawn0.step)⟩
       ·rw [if_neg c6] at H
        have c6b0:((rdOf ByteArray.empty l0 x10_1).toList == ([]:List UInt8))=false:=beq_eq_false_iff_ne.mpr c6
        have c6b1:((rdOf ByteArray.empty l0 x10_1).toList != ([]:List UInt8))=true:=bne_iff_ne.mpr c6
        (first|rw [c6b0]|(simp only [i64_w,i32_w];rw [c6b0])|skip)
        by_cases c7:0<((rdOf ByteArray.empty l0 x10_1).size:Int)
        ·rw [if_pos c7] at H
         have c7b0:decide (0<((rdOf ByteArray.empty l0 x10_1).size:Int))=true:=decide_eq_true c7
         have c7b1:decide (0<(rdOf ByteArray.empty l0 x10_1).size)=true:=decide_eq_true (by omega)
         clear c7
         by_cases c9:(bt (rdOf ByteArray.empty l0 x10_1) 0)=45
         ·rw [if_pos c9] at H
          have c9b0:((bt (rdOf ByteArray.empty l0 x10_1) 0) == 45)=true:=beq_iff_eq.mpr c9
          have c9b1:((bt (rdOf ByteArray.empty l0 x10_1) 0) != 45)=false:=bne_eq_false_iff_eq.mpr c9
          clear c9
          have H':=Aside0.mk H
          clear H
          have p8:0≤(0:Int):=(by omega)
          have q8:0<(rdOf ByteArray.empty l0 x10_1).size:=(by have:(0:Int)<((rdOf ByteArray.empty l0 x10_1).size:Int):=of_decide_eq_true (by first|(with_reducible assumption)|assumption);omega)
          have hx8:∀ h:0<(rdOf ByteArray.empty l0 x10_1).size,(((rdOf ByteArray.empty l0 x10_1)[0]'h).toNat:Int)=bt (rdOf ByteArray.empty l0 x10_1) 0:=bt_at (rdOf ByteArray.empty l0 x10_1) 0
          clear p8
          have qi8:(0<((rdOf ByteArray.empty l0 x10_1).size:Int))=True:=eq_true (of_decide_eq_true (by first|(with_reducible assumption)|assumption))
          replace q8:=eq_true q8
          go_wp2
          go_meet
          case rel=>exact ⟨_,(x5_1),(by first|rfl|(simp;done)|(simp [*];done)),H',⟨by have:=HK1.out;first|omega|exact Nat.le_refl _⟩,by repeat (first|exact Drawn0.refl _|apply Drawn0.step)⟩
         ·rw [if_neg c9] at H
          have c9b0:((bt (rdOf ByteArray.empty l0 x10_1) 0) == 45)=false:=beq_eq_false_iff_ne.mpr c9
          have c9b1:((bt (rdOf ByteArray.empty l0 x10_1) 0) != 45)=true:=bne_iff_ne.mpr c9
          have H':=Aside0.mk H
          clear H
          have p8:0≤(0:Int):=(by omega)
          have q8:0<(rdOf ByteArray.empty l0 x10_1).size:=(by have:(0:Int)<((rdOf ByteArray.empty l0 x10_1).size:Int):=of_decide_eq_true (by first|(with_reducible assumption)|assumption);omega)
          have hx8:∀ h:0<(rdOf ByteArray.empty l0 x10_1).size,(((rdOf ByteArray.empty l0 x10_1)[0]'h).toNat:Int)=bt (rdOf ByteArray.empty l0 x10_1) 0:=bt_at (rdOf ByteArray.empty l0 x10_1) 0
          clear p8
          have qi8:(0<((rdOf ByteArray.empty l0 x10_1).size:Int))=True:=eq_true (of_decide_eq_true (by first|(with_reducible assumption)|assumption))
          replace q8:=eq_true q8
          go_wp2
          go_meet
          case rel=>exact ⟨_,(false),(by first|rfl|(simp;done)|(simp [*];done)),H',⟨by have:=HK1.out;first|omega|exact Nat.le_refl _⟩,by repeat (first|exact Drawn0.refl _|apply Drawn0.step)⟩
        ·rw [if_neg c7] at H
         exact absurd H (by simp)
      case rest =>
       clear HC5
       try clear p1
       try clear q1
       try clear hx1
       try clear c2
       try clear c2b0
       try clear p2
       try clear c3
       try clear c3b0
       try clear c4
       try clear c4b0
       try clear c6
       try clear c6b0
       try clear c6b1
       try clear c7
       try clear c7b0
       try clear c7b1
       try clear p8
       try clear q8
       try clear hx8
       try clear qi8
       try clear c9
       try clear c9b0
       try clear c9b1
       try clear hx108_0
       try clear p108
       try clear p8
       try clear q108
       try clear q8
       obtain ⟨kq,x23_4,rfl,HA,HJ4,⟨mc4,rfl⟩⟩:=hcut
       cases kq with
       | zero=>exact absurd HA.out (by simp [hunk_count.j1])
       | succ kj4 =>
        have H:=HA.out
        clear HA
        simp only [hunk_count.j1] at H
        by_cases c10:x23_4=true
        ·subst c10
         have H1:(some (0,0,false))=some (r1,r2,r3):=by rw [if_pos rfl] at H;exact H
         clear H
         have H:=H1
         clear H1
         simp only [Option.some.injEq,Prod.mk.injEq] at H
         obtain ⟨rfl,rfl,rfl⟩:=H
         go_wp2
         go_ret3
         exact ⟨by first|rfl|(simp;done)|(simp [*];done),by repeat (first|exact Drawn0.refl _|apply Drawn0.step)⟩
        ·replace c10:=Bool.eq_false_iff.mpr c10
         subst c10
         have H1:(if 0<((rdOf ByteArray.empty l0 x10_1).size:Int) then (if (bt (rdOf ByteArray.empty l0 x10_1) 0)=32 then (hunk_count.l0 kj4 (wrap64 (x2_1+1)) (wrap64 (x3_1+1)) ((bt (rdOf ByteArray.empty l0 x10_1) 0) == 43) l0 (l0.length:Int) (wrap64 (x10_1+1))) else (if (bt (rdOf ByteArray.empty l0 x10_1) 0)=43 then (hunk_count.l0 kj4 x2_1 (wrap64 (x3_1+1)) ((bt (rdOf ByteArray.empty l0 x10_1) 0) == 43) l0 (l0.length:Int) (wrap64 (x10_1+1))) else (if (bt (rdOf ByteArray.empty l0 x10_1) 0)=45 then (hunk_count.l0 kj4 (wrap64 (x2_1+1)) x3_1 ((bt (rdOf ByteArray.empty l0 x10_1) 0) == 43) l0 (l0.length:Int) (wrap64 (x10_1+1))) else (some (0,0,false))))) else (none))=some (r1,r2,r3):=by rw [if_neg (show ¬ (false=true) by decide)] at H;exact H
         clear H
         have H:=H1
         clear H1
         by_cases c11:0<((rdOf ByteArray.empty l0 x10_1).size:Int)
         ·rw [if_pos c11] at H
          have c11b0:decide (0<((rdOf ByteArray.empty l0 x10_1).size:Int))=true:=decide_eq_true c11
          have c11b1:decide (0<(rdOf ByteArray.empty l0 x10_1).size)=true:=decide_eq_true (by omega)
          clear c11
          by_cases c13:(bt (rdOf ByteArray.empty l0 x10_1) 0)=32
          ·rw [if_pos c13] at H
           have c13b0:((bt (rdOf ByteArray.empty l0 x10_1) 0) == 32)=true:=beq_iff_eq.mpr c13
           have c13b1:((bt (rdOf ByteArray.empty l0 x10_1) 0) != 32)=false:=bne_eq_false_iff_eq.mpr c13
           clear c13
           have H':=Aside0.mk H
           clear H
           have p12:0≤(0:Int):=(by omega)
           have q12:0<(rdOf ByteArray.empty l0 x10_1).size:=(by have:(0:Int)<((rdOf ByteArray.empty l0 x10_1).size:Int):=of_decide_eq_true (by first|(with_reducible assumption)|assumption);omega)
           have hx12:∀ h:0<(rdOf ByteArray.empty l0 x10_1).size,(((rdOf ByteArray.empty l0 x10_1)[0]'h).toNat:Int)=bt (rdOf ByteArray.empty l0 x10_1) 0:=bt_at (rdOf ByteArray.empty l0 x10_1) 0
           clear p12
           have qi12:(0<((rdOf ByteArray.empty l0 x10_1).size:Int))=True:=eq_true (of_decide_eq_true (by first|(with_reducible assumption)|assumption))
           replace q12:=eq_true q12
           have p14:0≤(0:Int):=(by omega)
           have q14:0<(rdOf ByteArray.empty l0 x10_1).size:=(by have:(0:Int)<((rdOf ByteArray.empty l0 x10_1).size:Int):=of_decide_eq_true (by first|(with_reducible assumption)|assumption);omega)
           have hx14:∀ h:0<(rdOf ByteArray.empty l0 x10_1).size,(((rdOf ByteArray.empty l0 x10_1)[0]'h).toNat:Int)=bt (rdOf ByteArray.empty l0 x10_1) 0:=bt_at (rdOf ByteArray.empty l0 x10_1) 0
           clear p14
           have qi14:(0<((rdOf ByteArray.empty l0 x10_1).size:Int))=True:=eq_true (of_decide_eq_true (by first|(with_reducible assumption)|assumption))
           replace q14:=eq_true q14
           go_wp2
           go_roundg kj4
           case measure=>have:=HK1.out;have:=HJ4.out;omega
           case rel=>exact ⟨(wrap64 (x2_1+1)),(wrap64 (x3_1+1)),(((bt (rdOf ByteArray.empty l0 x10_1) 0) == 43)),(wrap64 (x10_1+1)),(by first|rfl|(simp;done)|(simp [*];done)),(by first|rfl|(simp;done)|(simp [*];done)),(by first|rfl|(simp;done)|(simp [*];done)),(by first|rfl|(simp;done)|(simp [*];done)),H',⟨by have:=HK1.out;have:=HJ4.out;omega⟩,by repeat (first|exact Drawn0.refl _|apply Drawn0.step)⟩
          ·rw [if_neg c13] at H
           have c13b0:((bt (rdOf ByteArray.empty l0 x10_1) 0) == 32)=false:=beq_eq_false_iff_ne.mpr c13
           have c13b1:((bt (rdOf ByteArray.empty l0 x10_1) 0) != 32)=true:=bne_iff_ne.mpr c13
           by_cases c15:(bt (rdOf ByteArray.empty l0 x10_1) 0)=43
           ·rw [if_pos c15] at H
            have c15b0:((bt (rdOf ByteArray.empty l0 x10_1) 0) == 43)=true:=beq_iff_eq.mpr c15
            have c15b1:((bt (rdOf ByteArray.empty l0 x10_1) 0) != 43)=false:=bne_eq_false_iff_eq.mpr c15
            clear c15
            have H':=Aside0.mk H
            clear H
            have p12:0≤(0:Int):=(by omega)
            have q12:0<(rdOf ByteArray.empty l0 x10_1).size:=(by have:(0:Int)<((rdOf ByteArray.empty l0 x10_1).size:Int):=of_decide_eq_true (by first|(with_reducible assumption)|assumption);omega)
            have hx12:∀ h:0<(rdOf ByteArray.empty l0 x10_1).size,(((rdOf ByteArray.empty l0 x10_1)[0]'h).toNat:Int)=bt (rdOf ByteArray.empty l0 x10_1) 0:=bt_at (rdOf ByteArray.empty l0 x10_1) 0
            clear p12
            have qi12:(0<((rdOf ByteArray.empty l0 x10_1).size:Int))=True:=eq_true (of_decide_eq_true (by first|(with_reducible assumption)|assumption))
            replace q12:=eq_true q12
            have p16:0≤(0:Int):=(by omega)
            have q16:0<(rdOf ByteArray.empty l0 x10_1).size:=(by have:(0:Int)<((rdOf ByteArray.empty l0 x10_1).size:Int):=of_decide_eq_true (by first|(with_reducible assumption)|assumption);omega)
            have hx16:∀ h:0<(rdOf ByteArray.empty l0 x10_1).size,(((rdOf ByteArray.empty l0 x10_1)[0]'h).toNat:Int)=bt (rdOf ByteArray.empty l0 x10_1) 0:=bt_at (rdOf ByteArray.empty l0 x10_1) 0
            clear p16
            have qi16:(0<((rdOf ByteArray.empty l0 x10_1).size:Int))=True:=eq_true (of_decide_eq_true (by first|(with_reducible assumption)|assumption))
            replace q16:=eq_true q16
            go_wp2
            go_roundg kj4
            case measure=>have:=HK1.out;have:=HJ4.out;omega
            case rel=>exact ⟨(x2_1),(wrap64 (x3_1+1)),(((bt (rdOf ByteArray.empty l0 x10_1) 0) == 43)),(wrap64 (x10_1+1)),(by first|rfl|(simp;done)|(simp [*];done)),(by first|rfl|(simp;done)|(simp [*];done)),(by first|rfl|(simp;done)|(simp [*];done)),(by first|rfl|(simp;done)|(simp [*];done)),H',⟨by have:=HK1.out;have:=HJ4.out;omega⟩,by repeat (first|exact Drawn0.refl _|apply Drawn0.step)⟩
           ·rw [if_neg c15] at H
            have c15b0:((bt (rdOf ByteArray.empty l0 x10_1) 0) == 43)=false:=beq_eq_false_iff_ne.mpr c15
            have c15b1:((bt (rdOf ByteArray.empty l0 x10_1) 0) != 43)=true:=bne_iff_ne.mpr c15
            by_cases c17:(bt (rdOf ByteArray.empty l0 x10_1) 0)=45
            ·rw [if_pos c17] at H
             have c17b0:((bt (rdOf ByteArray.empty l0 x10_1) 0) == 45)=true:=beq_iff_eq.mpr c17
             have c17b1:((bt (rdOf ByteArray.empty l0 x10_1) 0) != 45)=false:=bne_eq_false_iff_eq.mpr c17
             clear c17
             have H':=Aside0.mk H
             clear H
             have p12:0≤(0:Int):=(by omega)
             have q12:0<(rdOf ByteArray.empty l0 x10_1).size:=(by have:(0:Int)<((rdOf ByteArray.empty l0 x10_1).size:Int):=of_decide_eq_true (by first|(with_reducible assumption)|assumption);omega)
             have hx12:∀ h:0<(rdOf ByteArray.empty l0 x10_1).size,(((rdOf ByteArray.empty l0 x10_1)[0]'h).toNat:Int)=bt (rdOf ByteArray.empty l0 x10_1) 0:=bt_at (rdOf ByteArray.empty l0 x10_1) 0
             clear p12
             have qi12:(0<((rdOf ByteArray.empty l0 x10_1).size:Int))=True:=eq_true (of_decide_eq_true (by first|(with_reducible assumption)|assumption))
             replace q12:=eq_true q12
             have p18:0≤(0:Int):=(by omega)
             have q18:0<(rdOf ByteArray.empty l0 x10_1).size:=(by have:(0:Int)<((rdOf ByteArray.empty l0 x10_1).size:Int):=of_decide_eq_true (by first|(with_reducible assumption)|assumption);omega)
             have hx18:∀ h:0<(rdOf ByteArray.empty l0 x10_1).size,(((rdOf ByteArray.empty l0 x10_1)[0]'h).toNat:Int)=bt (rdOf ByteArray.empty l0 x10_1) 0:=bt_at (rdOf ByteArray.empty l0 x10_1) 0
             clear p18
             have qi18:(0<((rdOf ByteArray.empty l0 x10_1).size:Int))=True:=eq_true (of_decide_eq_true (by first|(with_reducible assumption)|assumption))
             replace q18:=eq_true q18
             go_wp2
             go_roundg kj4
             case measure=>have:=HK1.out;have:=HJ4.out;omega
             case rel=>exact ⟨(wrap64 (x2_1+1)),(x3_1),(((bt (rdOf ByteArray.empty l0 x10_1) 0) == 43)),(wrap64 (x10_1+1)),(by first|rfl|(simp;done)|(simp [*];done)),(by first|rfl|(simp;done)|(simp [*];done)),(by first|rfl|(simp;done)|(simp [*];done)),(by first|rfl|(simp;done)|(simp [*];done)),H',⟨by have:=HK1.out;have:=HJ4.out;omega⟩,by repeat (first|exact Drawn0.refl _|apply Drawn0.step)⟩
            ·rw [if_neg c17] at H
             have c17b0:((bt (rdOf ByteArray.empty l0 x10_1) 0) == 45)=false:=beq_eq_false_iff_ne.mpr c17
             have c17b1:((bt (rdOf ByteArray.empty l0 x10_1) 0) != 45)=true:=bne_iff_ne.mpr c17
             simp only [Option.some.injEq,Prod.mk.injEq] at H
             obtain ⟨rfl,rfl,rfl⟩:=H
             have p12:0≤(0:Int):=(by omega)
             have q12:0<(rdOf ByteArray.empty l0 x10_1).size:=(by have:(0:Int)<((rdOf ByteArray.empty l0 x10_1).size:Int):=of_decide_eq_true (by first|(with_reducible assumption)|assumption);omega)
             have hx12:∀ h:0<(rdOf ByteArray.empty l0 x10_1).size,(((rdOf ByteArray.empty l0 x10_1)[0]'h).toNat:Int)=bt (rdOf ByteArray.empty l0 x10_1) 0:=bt_at (rdOf ByteArray.empty l0 x10_1) 0
             clear p12
             have qi12:(0<((rdOf ByteArray.empty l0 x10_1).size:Int))=True:=eq_true (of_decide_eq_true (by first|(with_reducible assumption)|assumption))
             replace q12:=eq_true q12
             go_wp2
             go_ret3
             exact ⟨by first|rfl|(simp;done)|(simp [*];done),by repeat (first|exact Drawn0.refl _|apply Drawn0.step)⟩
         ·rw [if_neg c11] at H
          exact absurd H (by simp)
     ·rw [if_neg c4] at H
      exact absurd H (by simp)
    ·rw [if_neg c3] at H
     exact absurd H (by simp)
   ·rw [if_neg c2] at H
    have c2b0:decide (x10_1<(l0.length:Int))=false:=decide_eq_false c2
    clear c2
    simp only [Option.some.injEq,Prod.mk.injEq] at H
    obtain ⟨rfl,rfl,rfl⟩:=H
    go_wp2
    go_ret3
    exact ⟨by first|rfl|(simp;done)|(simp [*];done),by repeat (first|exact Drawn0.refl _|apply Drawn0.step)⟩

end Go.Proofs.YtamojbfmphainaaDoor.Pr
-- shrunk
/-
What the printed functions of package hunk compute of lines with signs, as plain Lean: signed, bare, run, count.
-/
namespace Go.Proofs.YtamojbfmphainaaDoor.Pr
open Go.RowKit Go.Proofs.YtamojbfmphainaaDoorW.PrintWords Go.Proofs.YtamojbfmphainaaDoorW.PrintLast Go.Proofs.YtamojbfmphainaaDoorW.PrintMore
def sg (c:UInt8) (s:ByteArray):ByteArray:=(⟨#[c]⟩:ByteArray)++s
def sgs (c:UInt8) (l:List ByteArray):List ByteArray:=l.map (sg c)
def tl (s:ByteArray):ByteArray:=s.extract 1 s.size
theorem sg_size (c:UInt8) (s:ByteArray):(sg c s).size=1+s.size:=by rw [sg,ByteArray.size_append];rfl
theorem sg_bt (c:UInt8) (s:ByteArray):bt (sg c s) 0=(c.toNat:Int):=by
 have h0:(0:Int).toNat<(sg c s).size:=by rw [sg_size];show 0<_;omega
 unfold bt
 rw [dif_pos h0]
 have h1:(sg c s)[(0:Int).toNat]'h0=c:=by
  show (sg c s)[0]'_=c
  simp [sg,ByteArray.getElem_eq_getElem_data]
 rw [h1]
theorem tl_sg (c:UInt8) (s:ByteArray):tl (sg c s)=s:=by
 unfold tl
 rw [sg_size]
 apply ByteArray.ext
 simp [sg,ByteArray.data_extract,ByteArray.data_append]
theorem nil_toList:([]:List UInt8)=ByteArray.empty.toList:=by
 rw [ByteArray.toList,ByteArray.toList.loop];simp
theorem sg_toList (c:UInt8) (s:ByteArray):¬ (sg c s).toList=([]:List UInt8):=by
 rw [nil_toList,toList_iff]
 intro h
 have h2:=congrArg ByteArray.size h
 rw [sg_size] at h2
 simp at h2
theorem sgs_len (c:UInt8) (l:List ByteArray):(sgs c l).length=l.length:=by simp [sgs]
theorem sgs_map_tl (c:UInt8) (l:List ByteArray):(sgs c l).map tl=l:=by
 rw [sgs,List.map_map]
 have:tl ∘ sg c=id:=by funext s;exact tl_sg c s
 rw [this,List.map_id]
theorem fill_set {α:Type} (A:List α) (e v:α) (m i:Nat) (h:A.length=i):(A++List.replicate (m+1) e).set i v=(A++[v])++List.replicate m e:=by
 subst h
 rw [List.set_append_right _ _ (Nat.le_refl _),Nat.sub_self,List.replicate_succ,List.set_cons_zero,List.append_assoc]
 rfl
theorem signed_l0 (cz:Int) (c:UInt8) (hc:Go.Utf8.encode cz=(⟨#[c]⟩:ByteArray)) (l:List ByteArray) (hs:∀ s ∈ l,s.size≤4611686018427387904) (hn:l.length≤4611686018427387904) :
  ∀ d i,l.length - i=d→i≤l.length→Ev (fun k=>hunk_signed.l0 k cz (sgs c (l.take i)++List.replicate d (⟨#[]⟩:ByteArray)) l (l.length:Int) (i:Int)) (sgs c l):=by
 intro d
 induction d with
 | zero =>
  intro i hd hi
  refine Ev.step (fun _=>hunk_signed.l0.eq_2 ..) ?_
  simp only [if_neg (show ¬ (i:Int)<(l.length:Int) by omega)]
  rw [List.take_of_length_le (by omega),List.replicate_zero,List.append_nil]
  exact Ev.now _
 | succ d ih =>
  intro i hd hi
  refine Ev.step (fun _=>hunk_signed.l0.eq_2 ..) ?_
  have h0:i<l.length:=by omega
  have hsz:=hs l[i] (List.getElem_mem h0)
  have hz:(Go.Utf8.encode cz).size=1:=by rw [hc];rfl
  have hA:(sgs c (l.take i)).length=i:=by rw [sgs_len,List.length_take];omega
  have hL:(sgs c (l.take i)++List.replicate (d+1) (⟨#[]⟩:ByteArray)).length=l.length:=by rw [List.length_append,hA,List.length_replicate];omega
  simp only [if_pos (show (i:Int)<(l.length:Int) by omega),if_pos (show 0≤(i:Int) by omega),rdS_at h0,w_succ h0 hn,hz,hL,if_pos (show 1+l[i].size≤9223372036854775807 by omega),Int.toNat_natCast]
  rw [fill_set _ _ _ _ _ hA,hc]
  have e:sgs c (l.take i)++[(⟨#[c]⟩:ByteArray)++l[i]]=sgs c (l.take (i+1)):=by
   rw [List.take_succ_eq_append_getElem h0,sgs,sgs,List.map_append];rfl
  rw [e]
  exact ih (i+1) (by omega) (by omega)
theorem signed_ev (cz:Int) (c:UInt8) (hc:Go.Utf8.encode cz=(⟨#[c]⟩:ByteArray)) (l:List ByteArray) (hs:∀ s ∈ l,s.size≤4611686018427387904) (hn:l.length≤17592186044416) :
  Ev (fun k=>hunk_signed.f k cz l) (sgs c l):=by
 unfold hunk_signed.f
 simp only [if_pos (show 0≤(l.length:Int) by omega),Int.toNat_natCast,if_pos hn]
 have h:=signed_l0 cz c hc l hs (by omega) _ 0 rfl (by omega)
 simpa [sgs] using h
theorem enc32:Go.Utf8.encode 32=(⟨#[32]⟩:ByteArray):=by rfl
theorem enc45:Go.Utf8.encode 45=(⟨#[45]⟩:ByteArray):=by rfl
theorem enc43:Go.Utf8.encode 43=(⟨#[43]⟩:ByteArray):=by rfl
theorem bare_l0 (l:List ByteArray) (hs:∀ s ∈ l,1≤s.size) (hn:l.length≤4611686018427387904) :
  ∀ d i,l.length - i=d→i≤l.length→Ev (fun k=>hunk_bare.l0 k ((l.take i).map tl++List.replicate d (⟨#[]⟩:ByteArray)) l (l.length:Int) (i:Int)) (l.map tl):=by
 intro d
 induction d with
 | zero =>
  intro i hd hi
  refine Ev.step (fun _=>hunk_bare.l0.eq_2 ..) ?_
  simp only [if_neg (show ¬ (i:Int)<(l.length:Int) by omega)]
  rw [List.take_of_length_le (by omega),List.replicate_zero,List.append_nil]
  exact Ev.now _
 | succ d ih =>
  intro i hd hi
  refine Ev.step (fun _=>hunk_bare.l0.eq_2 ..) ?_
  have h0:i<l.length:=by omega
  have hsz:=hs l[i] (List.getElem_mem h0)
  have hA:((l.take i).map tl).length=i:=by rw [List.length_map,List.length_take];omega
  have hL:((l.take i).map tl++List.replicate (d+1) (⟨#[]⟩:ByteArray)).length=l.length:=by rw [List.length_append,hA,List.length_replicate];omega
  simp only [if_pos (show (i:Int)<(l.length:Int) by omega),if_pos (show 0≤(i:Int) by omega),rdS_at h0,w_succ h0 hn,hL,if_pos (show (1:Int)≤(l[i].size:Int) by omega),Int.toNat_natCast]
  rw [fill_set _ _ _ _ _ hA]
  have e:(l.take i).map tl++[l[i].extract 1 l[i].size]=(l.take (i+1)).map tl:=by
   rw [List.take_succ_eq_append_getElem h0,List.map_append];rfl
  rw [e]
  exact ih (i+1) (by omega) (by omega)
theorem bare_ev (l:List ByteArray) (hs:∀ s ∈ l,1≤s.size) (hn:l.length≤17592186044416):Ev (fun k=>hunk_bare.f k l) (l.map tl):=by
 unfold hunk_bare.f
 simp only [if_pos (show 0≤(l.length:Int) by omega),Int.toNat_natCast,if_pos hn]
 have h:=bare_l0 l hs (by omega) _ 0 rfl (by omega)
 simpa using h
def runLen (c:Int):List ByteArray→Nat
 | []=>0
 | s :: l=>if bt s 0=c then runLen c l+1 else 0
theorem run_l0 (l:List ByteArray) (c:Int) (hs:∀ s ∈ l,1≤s.size) (hn:l.length≤4611686018427387904) :
  ∀ d i,l.length - i=d→i≤l.length→Ev (fun k=>hunk_run.l0 k l c l (l.length:Int) (i:Int)) ((i+runLen c (l.drop i):Nat):Int):=by
 intro d
 induction d with
 | zero =>
  intro i hd hi
  refine Ev.step (fun _=>hunk_run.l0.eq_2 ..) ?_
  simp only [if_neg (show ¬ (i:Int)<(l.length:Int) by omega)]
  rw [List.drop_of_length_le (by omega)]
  have e:((i+runLen c []:Nat):Int)=(l.length:Int):=by simp only [runLen];omega
  rw [e]
  exact Ev.now _
 | succ d ih =>
  intro i hd hi
  refine Ev.step (fun _=>hunk_run.l0.eq_2 ..) ?_
  have h0:i<l.length:=by omega
  have hsz:=hs l[i] (List.getElem_mem h0)
  rw [List.drop_eq_getElem_cons h0]
  simp only [if_pos (show (i:Int)<(l.length:Int) by omega),if_pos (show 0≤(i:Int) by omega),rdS_at h0,w_succ h0 hn,if_pos (show (0:Int)<(l[i].size:Int) by omega),runLen]
  by_cases hb:bt l[i] 0=c
  ·simp only [if_pos hb]
   have h:=ih (i+1) (by omega) (by omega)
   rw [show i+1+runLen c (l.drop (i+1))=i+(runLen c (l.drop (i+1))+1) by omega] at h
   exact h
  ·simp only [if_neg hb]
   exact Ev.now _
theorem run_ev (l:List ByteArray) (c:Int) (hs:∀ s ∈ l,1≤s.size) (hn:l.length≤4611686018427387904):Ev (fun k=>hunk_run.f k l c) (runLen c l:Int):=by
 unfold hunk_run.f
 have h:=run_l0 l c hs hn _ 0 rfl (by omega)
 simpa using h
theorem runLen_same (c:UInt8) (z:Int) (hz:(c.toNat:Int)=z):∀ (l R:List ByteArray),runLen z (sgs c l++R)=l.length+runLen z R
 | [],R=>by simp [sgs]
 | s :: l,R=>by
  have h:=runLen_same c z hz l R
  show runLen z (sg c s :: (sgs c l++R))=_
  rw [runLen,if_pos (by rw [sg_bt,hz]),h,List.length_cons];omega
theorem runLen_other (c:UInt8) (z:Int) (hz:(c.toNat:Int)≠z) (l R:List ByteArray) (hl:l≠[]):runLen z (sgs c l++R)=0:=by
 cases l with
 | nil=>exact absurd rfl hl
 | cons s l=>show runLen z (sg c s :: (sgs c l++R))=_;rw [runLen,if_neg (by rw [sg_bt];exact hz)]
def cntL (came:Bool) (an bn:Int):List ByteArray→Int × Int × Bool
 | []=>(an,bn,true)
 | s :: l=>if s.toList=([]:List UInt8) then (0,0,false) else if bt s 0=45∧came=true then (0,0,false) else
   if bt s 0=32 then cntL false (an+1) (bn+1) l else if bt s 0=43 then cntL true an (bn+1) l else if bt s 0=45 then cntL false (an+1) bn l else (0,0,false)
theorem ne_size {s:ByteArray} (h:¬ s.toList=([]:List UInt8)):0<s.size:=by
 rw [nil_toList,toList_iff] at h
 rcases Nat.eq_zero_or_pos s.size with h0|h0
 ·exact absurd (ByteArray.size_eq_zero_iff.1 h0) h
 ·exact h0
theorem count_l0 (l:List ByteArray) (hn:l.length≤1099511627776) :
  ∀ (d i:Nat) (an bn:Int) (came:Bool),l.length - i=d→i≤l.length→0≤an→an≤i→0≤bn→bn≤i→Ev (fun k=>hunk_count.l0 k an bn came l (l.length:Int) (i:Int)) (cntL came an bn (l.drop i)):=by
 intro d
 induction d with
 | zero =>
  intro i an bn came hd hi h1 h2 h3 h4
  refine Ev.step (fun _=>hunk_count.l0.eq_2 ..) ?_
  simp only [if_neg (show ¬ (i:Int)<(l.length:Int) by omega)]
  rw [List.drop_of_length_le (by omega)]
  exact Ev.now _
 | succ d ih =>
  intro i an bn came hd hi h1 h2 h3 h4
  refine Ev.step (fun _=>hunk_count.l0.eq_2 ..) ?_
  have h0:i<l.length:=by omega
  rw [List.drop_eq_getElem_cons h0]
  simp only [if_pos (show (i:Int)<(l.length:Int) by omega),if_pos (show 0≤(i:Int) by omega),rdS_at h0,cntL]
  have wa:wrap64 (an+1)=an+1:=w_in (by omega) (by omega)
  have wb:wrap64 (bn+1)=bn+1:=w_in (by omega) (by omega)
  have hj:∀ cc:Bool,0<l[i].size→Ev (fun k=>hunk_count.j1 k an bn l[i] l (l.length:Int) (i:Int) cc) (if cc=true then (0,0,false) else
    if bt l[i] 0=32 then cntL false (an+1) (bn+1) (l.drop (i+1)) else if bt l[i] 0=43 then cntL true an (bn+1) (l.drop (i+1)) else if bt l[i] 0=45 then cntL false (an+1) bn (l.drop (i+1)) else (0,0,false)):=by
   intro cc hp
   refine Ev.step (fun _=>hunk_count.j1.eq_2 ..) ?_
   by_cases hcc:cc=true
   ·simp only [if_pos hcc];exact Ev.now _
   simp only [if_neg hcc,if_pos (show (0:Int)<(l[i].size:Int) by omega),wa,wb,w_succ h0 (show l.length≤4611686018427387904 by omega)]
   by_cases b32:bt l[i] 0=32
   ·simp only [if_pos b32]
    have h:=ih (i+1) (an+1) (bn+1) (bt l[i] 0 == 43) (by omega) (by omega) (by omega) (by omega) (by omega) (by omega)
    rw [show (bt l[i] 0 == 43)=false by rw [b32];rfl] at h
    simp only [show (bt l[i] 0 == 43)=false by rw [b32];rfl]
    exact h
   simp only [if_neg b32]
   by_cases b43:bt l[i] 0=43
   ·simp only [if_pos b43]
    have h:=ih (i+1) an (bn+1) (bt l[i] 0 == 43) (by omega) (by omega) (by omega) (by omega) (by omega) (by omega)
    rw [show (bt l[i] 0 == 43)=true by rw [b43];rfl] at h
    simp only [show (bt l[i] 0 == 43)=true by rw [b43];rfl]
    exact h
   simp only [if_neg b43]
   by_cases b45:bt l[i] 0=45
   ·simp only [if_pos b45]
    have h:=ih (i+1) (an+1) bn (bt l[i] 0 == 43) (by omega) (by omega) (by omega) (by omega) (by omega) (by omega)
    rw [show (bt l[i] 0 == 43)=false by rw [b45];rfl] at h
    simp only [show (bt l[i] 0 == 43)=false by rw [b45];rfl]
    exact h
   simp only [if_neg b45]
   exact Ev.now _
  by_cases he:l[i].toList=([]:List UInt8)
  ·simp only [if_pos he]
   refine Ev.step (fun _=>hunk_count.j1.eq_2 ..) ?_
   simp only [if_true]
   exact Ev.now _
  have hp:=ne_size he
  simp only [if_neg he,if_pos (show (0:Int)<(l[i].size:Int) by omega)]
  by_cases b45:bt l[i] 0=45
  ·simp only [if_pos b45]
   have h:=hj came hp
   cases came
   ·simpa [b45] using h
   ·simpa [b45] using h
  ·simp only [if_neg b45]
   have h:=hj false hp
   simpa [b45] using h
theorem count_ev (l:List ByteArray) (hn:l.length≤1099511627776):Ev (fun k=>hunk_count.f k l) (cntL false 0 0 l):=by
 unfold hunk_count.f
 have h:=count_l0 l hn _ 0 0 0 false rfl (by omega) (by omega) (by omega) (by omega) (by omega)
 simpa using h
end Go.Proofs.YtamojbfmphainaaDoor.Pr
-- shrunk
-- written by a program of this session's (a turned copy of the kit's printer); Lean checks it
namespace Go.Proofs.YtamojbfmphainaaDoor.Pr
open Go.RowKit Go.Proofs.YtamojbfmphainaaDoorW.PrintWords Go.Proofs.YtamojbfmphainaaDoorW.PrintLast Go.Proofs.YtamojbfmphainaaDoorW.PrintMore
attribute [local go_sem] max2_int min2_int max_two min_two max_three min_three max_four min_four   -- for this text's walks alone

def hunk_Right.f (k:Nat) (a0_0:Int) (a0_1:Int) (a0_2:Int) (a0_3:Int) (l0_4:List ByteArray):Option (Bool):=(hunk_count.f k l0_4).bind fun bt110=>(if bt110.2.2=true then (if a0_0 ≥ 0 then (if a0_2 ≥ 0 then (if bt110.1=a0_1 then (some (bt110.2.1 == a0_3)) else (some false)) else (some false)) else (some false)) else (some false))
set_option maxHeartbeats 8000000 in
set_option maxRecDepth 100000 in
theorem hunk_Right.calls (k:Nat) (a0_0:Int) (a0_1:Int) (a0_2:Int) (a0_3:Int) (A0_4:Option Addr) (c0_4:Nat) (l0_4:List ByteArray) (r:Bool) (w:World) (hr0_4:Kd.C Kd.string w A0_4 l0_4.length l0_4) (hc0_4:l0_4.length≤c0_4) (h:hunk_Right.f k a0_0 a0_1 a0_2 a0_3 l0_4=some r) :
  Calls Tryd.prog 52 #[.agg #[.int .i64 a0_0,.int .i64 a0_1,.int .i64 a0_2,.int .i64 a0_3,.slice A0_4 l0_4.length c0_4]] w fun e w'=>e=.returned (.bool r)∧Below w.heap.size w w':=by
 have hu41:=Tryd.underlying41
 have HR0_4:=Aside0.mk hr0_4
 have HC0_4:=Aside0.mk hc0_4
 clear hr0_4 hc0_4
 have HB:=Aside0.mk (Below.refl w.heap.size w)
 have H:((hunk_count.f k l0_4).bind fun bt110=>(if bt110.2.2=true then (if a0_0 ≥ 0 then (if a0_2 ≥ 0 then (if bt110.1=a0_1 then (some (bt110.2.1 == a0_3)) else (some false)) else (some false)) else (some false)) else (some false)))=some r:=h
 clear h
 replace H:=Option.bind_eq_some_iff.mp H
 obtain ⟨⟨t110,t111,t112⟩,A20,H⟩:=H
 replace H:(if t112=true then (if a0_0 ≥ 0 then (if a0_2 ≥ 0 then (if t110=a0_1 then (some (t111 == a0_3)) else (some false)) else (some false)) else (some false)) else (some false))=some r:=H
 have A2:=Aside0.mk A20
 clear A20
 by_cases c3:t112=true
 ·subst c3
  have H1:(if a0_0 ≥ 0 then (if a0_2 ≥ 0 then (if t110=a0_1 then (some (t111 == a0_3)) else (some false)) else (some false)) else (some false))=some r:=by rw [if_pos rfl] at H;exact H
  clear H
  have H:=H1
  clear H1
  by_cases c4:a0_0 ≥ 0
  ·rw [if_pos c4] at H
   have c4b0:decide (0≤a0_0)=true:=decide_eq_true c4
   clear c4
   by_cases c5:a0_2 ≥ 0
   ·rw [if_pos c5] at H
    have c5b0:decide (0≤a0_2)=true:=decide_eq_true c5
    clear c5
    by_cases c6:t110=a0_1
    ·rw [if_pos c6] at H
     have c6b0:(t110 == a0_1)=true:=beq_iff_eq.mpr c6
     have c6b1:(t110 != a0_1)=false:=bne_eq_false_iff_eq.mpr c6
     clear c6
     obtain rfl:=Option.some.inj H
     go_enter Tryd.func52,Tryd.ntmps52
     go_wp2_with (first|((with_reducible refine gate_dst (N:=1) rfl ?_);refine box_event ?hg (N:=1) ?hd (cs:=#[.int .i64 a0_0,.int .i64 a0_1,.int .i64 a0_2,.int .i64 a0_3,.slice A0_4 l0_4.length c0_4]) (t:=41) ?hr ?_;(case hd=>rfl);(case hg=>rfl);(case hr=>first|(go_simp;done)|(go_simp;rfl));intro gb109 hg w7 hbox hb;have n0_:=Aside0.mk (below_step (by repeat (first|(with_reducible first|exact HB.out|apply below_alloc|apply pw_below_drewN|apply below_drew1)|exact HB.out)) hb);have n1_:=Aside0.mk (hbox);have n2_:=Aside0.mk ((by rw [hg];exact (below_size (by repeat (first|(with_reducible first|exact HB.out|apply below_alloc|apply pw_below_drewN|apply below_drew1)|exact HB.out))):w.heap.size≤gb109));have n3_:=Aside0.mk ((by rw [hg];exact (below_size (by repeat (first|(with_reducible first|exact HB.out|apply below_alloc|apply pw_below_drewN|apply below_drew1)|exact HB.out))):w.heap.size≤gb109));clear HB;have HB:=n0_;have BK109:=n1_;have GW109:=n2_;have GE109:=n3_;clear n0_ n1_ n2_ n3_;clear hb hbox hg;have hcz8_0:w7.cell? ⟨gb109,0,none⟩=some (.int .i64 a0_0):=(blk_cell BK109.out 0).trans rfl;have hcz8_1:w7.cell? ⟨gb109,1,none⟩=some (.int .i64 a0_1):=(blk_cell BK109.out 1).trans rfl;have hcz8_2:w7.cell? ⟨gb109,2,none⟩=some (.int .i64 a0_2):=(blk_cell BK109.out 2).trans rfl;have hcz8_3:w7.cell? ⟨gb109,3,none⟩=some (.int .i64 a0_3):=(blk_cell BK109.out 3).trans rfl;have hcz8_4:w7.cell? ⟨gb109,4,none⟩=some (.slice A0_4 l0_4.length c0_4):=(blk_cell BK109.out 4).trans rfl;have hfz8_0:=blk_frozen BK109.out 0;have hfz8_1:=blk_frozen BK109.out 1;have hfz8_2:=blk_frozen BK109.out 2;have hfz8_3:=blk_frozen BK109.out 3;have hfz8_4:=blk_frozen BK109.out 4)|((with_reducible refine gate_callee (f:=70) rfl ?_);refine goesL_ (some 9) rfl rfl Tryd.func70 (by kernel_rfl) rfl #[.slice A0_4 l0_4.length c0_4] rfl (by (try simp only [List.map_toArray,List.map_cons,List.map_nil]);first|done|rfl|(simp only [List.length_drop,List.length_take];rfl)) ?_;(with_reducible refine (hunk_count.calls k _ _ l0_4 t110 t111 true _ ?side1 ?side2 A2.out).mono ?_);(case side1=>repeat (first|exact (Kd.C_below HR0_4.out HB.out)|(with_reducible refine Kd.C_alloc ?_ _)|(with_reducible refine Kd.C_drewN ?_ _)|(with_reducible refine Kd.C_drew ?_)));(case side2=>exact HC0_4.out);rintro e w' ⟨rfl,⟨nd,rfl⟩⟩;refine ⟨_,rfl,?_⟩))
     go_ret
     exact ⟨by first|rfl|(simp [errW_none,errW_some]<;>rfl)|(simp [*,errW_none,errW_some]<;>rfl),by repeat (first|(with_reducible first|exact HB.out|apply below_alloc|apply pw_below_drewN|apply below_drew1|refine below_set ?_ GE109.out)|exact HB.out)⟩
    ·rw [if_neg c6] at H
     have c6b0:(t110 == a0_1)=false:=beq_eq_false_iff_ne.mpr c6
     have c6b1:(t110 != a0_1)=true:=bne_iff_ne.mpr c6
     obtain rfl:=Option.some.inj H
     go_enter Tryd.func52,Tryd.ntmps52
     go_wp2_with (first|((with_reducible refine gate_dst (N:=1) rfl ?_);refine box_event ?hg (N:=1) ?hd (cs:=#[.int .i64 a0_0,.int .i64 a0_1,.int .i64 a0_2,.int .i64 a0_3,.slice A0_4 l0_4.length c0_4]) (t:=41) ?hr ?_;(case hd=>rfl);(case hg=>rfl);(case hr=>first|(go_simp;done)|(go_simp;rfl));intro gb109 hg w9 hbox hb;have n0_:=Aside0.mk (below_step (by repeat (first|(with_reducible first|exact HB.out|apply below_alloc|apply pw_below_drewN|apply below_drew1)|exact HB.out)) hb);have n1_:=Aside0.mk (hbox);have n2_:=Aside0.mk ((by rw [hg];exact (below_size (by repeat (first|(with_reducible first|exact HB.out|apply below_alloc|apply pw_below_drewN|apply below_drew1)|exact HB.out))):w.heap.size≤gb109));have n3_:=Aside0.mk ((by rw [hg];exact (below_size (by repeat (first|(with_reducible first|exact HB.out|apply below_alloc|apply pw_below_drewN|apply below_drew1)|exact HB.out))):w.heap.size≤gb109));clear HB;have HB:=n0_;have BK109:=n1_;have GW109:=n2_;have GE109:=n3_;clear n0_ n1_ n2_ n3_;clear hb hbox hg;have hcz10_0:w9.cell? ⟨gb109,0,none⟩=some (.int .i64 a0_0):=(blk_cell BK109.out 0).trans rfl;have hcz10_1:w9.cell? ⟨gb109,1,none⟩=some (.int .i64 a0_1):=(blk_cell BK109.out 1).trans rfl;have hcz10_2:w9.cell? ⟨gb109,2,none⟩=some (.int .i64 a0_2):=(blk_cell BK109.out 2).trans rfl;have hcz10_3:w9.cell? ⟨gb109,3,none⟩=some (.int .i64 a0_3):=(blk_cell BK109.out 3).trans rfl;have hcz10_4:w9.cell? ⟨gb109,4,none⟩=some (.slice A0_4 l0_4.length c0_4):=(blk_cell BK109.out 4).trans rfl;have hfz10_0:=blk_frozen BK109.out 0;have hfz10_1:=blk_frozen BK109.out 1;have hfz10_2:=blk_frozen BK109.out 2;have hfz10_3:=blk_frozen BK109.out 3;have hfz10_4:=blk_frozen BK109.out 4)|((with_reducible refine gate_callee (f:=70) rfl ?_);refine goesL_ (some 9) rfl rfl Tryd.func70 (by kernel_rfl) rfl #[.slice A0_4 l0_4.length c0_4] rfl (by (try simp only [List.map_toArray,List.map_cons,List.map_nil]);first|done|rfl|(simp only [List.length_drop,List.length_take];rfl)) ?_;(with_reducible refine (hunk_count.calls k _ _ l0_4 t110 t111 true _ ?side1 ?side2 A2.out).mono ?_);(case side1=>repeat (first|exact (Kd.C_below HR0_4.out HB.out)|(with_reducible refine Kd.C_alloc ?_ _)|(with_reducible refine Kd.C_drewN ?_ _)|(with_reducible refine Kd.C_drew ?_)));(case side2=>exact HC0_4.out);rintro e w' ⟨rfl,⟨nd,rfl⟩⟩;refine ⟨_,rfl,?_⟩))
     go_ret
     exact ⟨by first|rfl|(simp [errW_none,errW_some]<;>rfl)|(simp [*,errW_none,errW_some]<;>rfl),by repeat (first|(with_reducible first|exact HB.out|apply below_alloc|apply pw_below_drewN|apply below_drew1|refine below_set ?_ GE109.out)|exact HB.out)⟩
   ·rw [if_neg c5] at H
    have c5b0:decide (0≤a0_2)=false:=decide_eq_false c5
    clear c5
    obtain rfl:=Option.some.inj H
    go_enter Tryd.func52,Tryd.ntmps52
    go_wp2_with (first|((with_reducible refine gate_dst (N:=1) rfl ?_);refine box_event ?hg (N:=1) ?hd (cs:=#[.int .i64 a0_0,.int .i64 a0_1,.int .i64 a0_2,.int .i64 a0_3,.slice A0_4 l0_4.length c0_4]) (t:=41) ?hr ?_;(case hd=>rfl);(case hg=>rfl);(case hr=>first|(go_simp;done)|(go_simp;rfl));intro gb109 hg w11 hbox hb;have n0_:=Aside0.mk (below_step (by repeat (first|(with_reducible first|exact HB.out|apply below_alloc|apply pw_below_drewN|apply below_drew1)|exact HB.out)) hb);have n1_:=Aside0.mk (hbox);have n2_:=Aside0.mk ((by rw [hg];exact (below_size (by repeat (first|(with_reducible first|exact HB.out|apply below_alloc|apply pw_below_drewN|apply below_drew1)|exact HB.out))):w.heap.size≤gb109));have n3_:=Aside0.mk ((by rw [hg];exact (below_size (by repeat (first|(with_reducible first|exact HB.out|apply below_alloc|apply pw_below_drewN|apply below_drew1)|exact HB.out))):w.heap.size≤gb109));clear HB;have HB:=n0_;have BK109:=n1_;have GW109:=n2_;have GE109:=n3_;clear n0_ n1_ n2_ n3_;clear hb hbox hg;have hcz12_0:w11.cell? ⟨gb109,0,none⟩=some (.int .i64 a0_0):=(blk_cell BK109.out 0).trans rfl;have hcz12_1:w11.cell? ⟨gb109,1,none⟩=some (.int .i64 a0_1):=(blk_cell BK109.out 1).trans rfl;have hcz12_2:w11.cell? ⟨gb109,2,none⟩=some (.int .i64 a0_2):=(blk_cell BK109.out 2).trans rfl;have hcz12_3:w11.cell? ⟨gb109,3,none⟩=some (.int .i64 a0_3):=(blk_cell BK109.out 3).trans rfl;have hcz12_4:w11.cell? ⟨gb109,4,none⟩=some (.slice A0_4 l0_4.length c0_4):=(blk_cell BK109.out 4).trans rfl;have hfz12_0:=blk_frozen BK109.out 0;have hfz12_1:=blk_frozen BK109.out 1;have hfz12_2:=blk_frozen BK109.out 2;have hfz12_3:=blk_frozen BK109.out 3;have hfz12_4:=blk_frozen BK109.out 4)|((with_reducible refine gate_callee (f:=70) rfl ?_);refine goesL_ (some 9) rfl rfl Tryd.func70 (by kernel_rfl) rfl #[.slice A0_4 l0_4.length c0_4] rfl (by (try simp only [List.map_toArray,List.map_cons,List.map_nil]);first|done|rfl|(simp only [List.length_drop,List.length_take];rfl)) ?_;(with_reducible refine (hunk_count.calls k _ _ l0_4 t110 t111 true _ ?side1 ?side2 A2.out).mono ?_);(case side1=>repeat (first|exact (Kd.C_below HR0_4.out HB.out)|(with_reducible refine Kd.C_alloc ?_ _)|(with_reducible refine Kd.C_drewN ?_ _)|(with_reducible refine Kd.C_drew ?_)));(case side2=>exact HC0_4.out);rintro e w' ⟨rfl,⟨nd,rfl⟩⟩;refine ⟨_,rfl,?_⟩))
    go_ret
    exact ⟨by first|rfl|(simp [errW_none,errW_some]<;>rfl)|(simp [*,errW_none,errW_some]<;>rfl),by repeat (first|(with_reducible first|exact HB.out|apply below_alloc|apply pw_below_drewN|apply below_drew1|refine below_set ?_ GE109.out)|exact HB.out)⟩
  ·rw [if_neg c4] at H
   have c4b0:decide (0≤a0_0)=false:=decide_eq_false c4
   clear c4
   obtain rfl:=Option.some.inj H
   go_enter Tryd.func52,Tryd.ntmps52
   go_wp2_with (first|((with_reducible refine gate_dst (N:=1) rfl ?_);refine box_event ?hg (N:=1) ?hd (cs:=#[.int .i64 a0_0,.int .i64 a0_1,.int .i64 a0_2,.int .i64 a0_3,.slice A0_4 l0_4.length c0_4]) (t:=41) ?hr ?_;(case hd=>rfl);(case hg=>rfl);(case hr=>first|(go_simp;done)|(go_simp;rfl));intro gb109 hg w13 hbox hb;have n0_:=Aside0.mk (below_step (by repeat (first|(with_reducible first|exact HB.out|apply below_alloc|apply pw_below_drewN|apply below_drew1)|exact HB.out)) hb);have n1_:=Aside0.mk (hbox);have n2_:=Aside0.mk ((by rw [hg];exact (below_size (by repeat (first|(with_reducible first|exact HB.out|apply below_alloc|apply pw_below_drewN|apply below_drew1)|exact HB.out))):w.heap.size≤gb109));have n3_:=Aside0.mk ((by rw [hg];exact (below_size (by repeat (first|(with_reducible first|exact HB.out|apply below_alloc|apply pw_below_drewN|apply below_drew1)|exact HB.out))):w.heap.size≤gb109));clear HB;have HB:=n0_;have BK109:=n1_;have GW109:=n2_;have GE109:=n3_;clear n0_ n1_ n2_ n3_;clear hb hbox hg;have hcz14_0:w13.cell? ⟨gb109,0,none⟩=some (.int .i64 a0_0):=(blk_cell BK109.out 0).trans rfl;have hcz14_1:w13.cell? ⟨gb109,1,none⟩=some (.int .i64 a0_1):=(blk_cell BK109.out 1).trans rfl;have hcz14_2:w13.cell? ⟨gb109,2,none⟩=some (.int .i64 a0_2):=(blk_cell BK109.out 2).trans rfl;have hcz14_3:w13.cell? ⟨gb109,3,none⟩=some (.int .i64 a0_3):=(blk_cell BK109.out 3).trans rfl;have hcz14_4:w13.cell? ⟨gb109,4,none⟩=some (.slice A0_4 l0_4.length c0_4):=(blk_cell BK109.out 4).trans rfl;have hfz14_0:=blk_frozen BK109.out 0;have hfz14_1:=blk_frozen BK109.out 1;have hfz14_2:=blk_frozen BK109.out 2;have hfz14_3:=blk_frozen BK109.out 3;have hfz14_4:=blk_frozen BK109.out 4)|((with_reducible refine gate_callee (f:=70) rfl ?_);refine goesL_ (some 9) rfl rfl Tryd.func70 (by kernel_rfl) rfl #[.slice A0_4 l0_4.length c0_4] rfl (by (try simp only [List.map_toArray,List.map_cons,List.map_nil]);first|done|rfl|(simp only [List.length_drop,List.length_take];rfl)) ?_;(with_reducible refine (hunk_count.calls k _ _ l0_4 t110 t111 true _ ?side1 ?side2 A2.out).mono ?_);(case side1=>repeat (first|exact (Kd.C_below HR0_4.out HB.out)|(with_reducible refine Kd.C_alloc ?_ _)|(with_reducible refine Kd.C_drewN ?_ _)|(with_reducible refine Kd.C_drew ?_)));(case side2=>exact HC0_4.out);rintro e w' ⟨rfl,⟨nd,rfl⟩⟩;refine ⟨_,rfl,?_⟩))
   go_ret
   exact ⟨by first|rfl|(simp [errW_none,errW_some]<;>rfl)|(simp [*,errW_none,errW_some]<;>rfl),by repeat (first|(with_reducible first|exact HB.out|apply below_alloc|apply pw_below_drewN|apply below_drew1|refine below_set ?_ GE109.out)|exact HB.out)⟩
 ·replace c3:=Bool.eq_false_iff.mpr c3
  subst c3
  have H1:(some false)=some r:=by rw [if_neg (show ¬ (false=true) by decide)] at H;exact H
  clear H
  have H:=H1
  clear H1
  obtain rfl:=Option.some.inj H
  go_enter Tryd.func52,Tryd.ntmps52
  go_wp2_with (first|((with_reducible refine gate_dst (N:=1) rfl ?_);refine box_event ?hg (N:=1) ?hd (cs:=#[.int .i64 a0_0,.int .i64 a0_1,.int .i64 a0_2,.int .i64 a0_3,.slice A0_4 l0_4.length c0_4]) (t:=41) ?hr ?_;(case hd=>rfl);(case hg=>rfl);(case hr=>first|(go_simp;done)|(go_simp;rfl));intro gb109 hg w15 hbox hb;have n0_:=Aside0.mk (below_step (by repeat (first|(with_reducible first|exact HB.out|apply below_alloc|apply pw_below_drewN|apply below_drew1)|exact HB.out)) hb);have n1_:=Aside0.mk (hbox);have n2_:=Aside0.mk ((by rw [hg];exact (below_size (by repeat (first|(with_reducible first|exact HB.out|apply below_alloc|apply pw_below_drewN|apply below_drew1)|exact HB.out))):w.heap.size≤gb109));have n3_:=Aside0.mk ((by rw [hg];exact (below_size (by repeat (first|(with_reducible first|exact HB.out|apply below_alloc|apply pw_below_drewN|apply below_drew1)|exact HB.out))):w.heap.size≤gb109));clear HB;have HB:=n0_;have BK109:=n1_;have GW109:=n2_;have GE109:=n3_;clear n0_ n1_ n2_ n3_;clear hb hbox hg;have hcz16_0:w15.cell? ⟨gb109,0,none⟩=some (.int .i64 a0_0):=(blk_cell BK109.out 0).trans rfl;have hcz16_1:w15.cell? ⟨gb109,1,none⟩=some (.int .i64 a0_1):=(blk_cell BK109.out 1).trans rfl;have hcz16_2:w15.cell? ⟨gb109,2,none⟩=some (.int .i64 a0_2):=(blk_cell BK109.out 2).trans rfl;have hcz16_3:w15.cell? ⟨gb109,3,none⟩=some (.int .i64 a0_3):=(blk_cell BK109.out 3).trans rfl;have hcz16_4:w15.cell? ⟨gb109,4,none⟩=some (.slice A0_4 l0_4.length c0_4):=(blk_cell BK109.out 4).trans rfl;have hfz16_0:=blk_frozen BK109.out 0;have hfz16_1:=blk_frozen BK109.out 1;have hfz16_2:=blk_frozen BK109.out 2;have hfz16_3:=blk_frozen BK109.out 3;have hfz16_4:=blk_frozen BK109.out 4)|((with_reducible refine gate_callee (f:=70) rfl ?_);refine goesL_ (some 9) rfl rfl Tryd.func70 (by kernel_rfl) rfl #[.slice A0_4 l0_4.length c0_4] rfl (by (try simp only [List.map_toArray,List.map_cons,List.map_nil]);first|done|rfl|(simp only [List.length_drop,List.length_take];rfl)) ?_;(with_reducible refine (hunk_count.calls k _ _ l0_4 t110 t111 false _ ?side1 ?side2 A2.out).mono ?_);(case side1=>repeat (first|exact (Kd.C_below HR0_4.out HB.out)|(with_reducible refine Kd.C_alloc ?_ _)|(with_reducible refine Kd.C_drewN ?_ _)|(with_reducible refine Kd.C_drew ?_)));(case side2=>exact HC0_4.out);rintro e w' ⟨rfl,⟨nd,rfl⟩⟩;refine ⟨_,rfl,?_⟩))
  go_ret
  exact ⟨by first|rfl|(simp [errW_none,errW_some]<;>rfl)|(simp [*,errW_none,errW_some]<;>rfl),by repeat (first|(with_reducible first|exact HB.out|apply below_alloc|apply pw_below_drewN|apply below_drew1|refine below_set ?_ GE109.out)|exact HB.out)⟩

end Go.Proofs.YtamojbfmphainaaDoor.Pr
-- shrunk
