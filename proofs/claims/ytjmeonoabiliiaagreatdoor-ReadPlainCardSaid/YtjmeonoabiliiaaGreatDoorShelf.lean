import Derived.Shelf.Strings.Builder1
import Derived.Shelf.Strings.Builder2
import Derived.Shelf.Strings.OnBuilder
import Derived.Shelf.Strings.Trim
import Derived.Shelf.Small.Utf8
import Derived.Shelf.Small.Strs
import Derived.Shelf.Strings.BuilderF
import Derived.Shelf.Strings.BuilderK
import Derived.Shelf.Strings.Builder2Cap
import Derived.Shelf.Strconv.Itoa0
import Derived.Shelf.Strconv.Itoa1
import Derived.Shelf.LaysM
import Derived.Shelf.Strconv.Itoa2
import Derived.Shelf.Strconv.Itoa3
import Derived.Shelf.Strconv.Itoa4
import Derived.Shelf.Strconv.ParseIntEmpty
import Derived.Shelf.Strconv.Clone
import Derived.Shelf.Strconv.SyntaxError
import Derived.Shelf.LaysC
import Derived.Shelf.Strconv.ToError
import Derived.Shelf.Strconv.Lower
import Derived.Shelf.Strconv.ParseUint10
import Derived.Shelf.Strconv.ParseUint10Empty
import Derived.Shelf.Strconv.ParseUint10Any
import Derived.Shelf.Strconv.ParseInt10
import Derived.Shelf.Strconv.RangeError
import Derived.Shelf.Strconv.ToErrorRange
import Derived.Shelf.Strconv.ParseUintEmpty
import Derived.Shelf.Strconv.ParseUint10b64
import Derived.Shelf.Strconv.ParseUint10b32
import Derived.Shelf.Strconv.ParseUint10b16
import Derived.Shelf.Strconv.ParseUint10b8
import Derived.Shelf.Strconv.ParseUint10At
import Derived.Shelf.Strconv.ParseInt10At64
import Derived.Shelf.Strconv.ParseInt10At32
import Derived.Shelf.Strconv.ParseInt10At16
import Derived.Shelf.Strconv.ParseInt10At8
import Derived.Shelf.Strconv.ParseInt10All
import Derived.Shelf.Strconv.ParseIntPublic10
import Derived.Shelf.Strings.Search1
import Derived.Shelf.Strings.Prefix
import Derived.Shelf.Strings.Runes
import Derived.Shelf.Strings.AsciiSet
import Derived.Shelf.Unicode.DecodeSlow
import Derived.Shelf.Strings.BuilderCap
import Derived.Shelf.Slices.Turned
import Derived.Test.YtjmeonoabiliiaaGreatDoorProg
set_option linter.all false
namespace Go.Proofs
open Go.Shelf
def Tryz.Jt:Go.Shelf.Ren:=⟨λ|160=>124|232=>167|231=>166|227=>168|234=>170|233=>169|236=>172|235=>171|228=>182|271=>185|151=>184|197=>183|120=>201|152=>200|260=>199|137=>65|119=>213|224=>214|225=>215|217=>107|266=>143|n=>n,λ|9=>9|4=>4|3=>3|5=>5|117=>199|116=>198|0=>0|124=>202|21=>21|105=>209|46=>216|119=>240|139=>243|138=>242|n=>n,λ|3=>3|4=>4|n=>n⟩
theorem Tryz.Yk:Go.Proofs.Lays.n160 Tryz.prog Tryz.Jt:={
  mixed:=by kernel_rfl
  f119:=Tryz.func213.trans (congrArg some (by kernel_rfl))
  f120:=Tryz.func201.trans (congrArg some (by kernel_rfl))
  f137:=Tryz.func65.trans (congrArg some (by kernel_rfl))
  f151:=Tryz.func184.trans (congrArg some (by kernel_rfl))
  f152:=Tryz.func200.trans (congrArg some (by kernel_rfl))
  f160:=Tryz.func124.trans (congrArg some (by kernel_rfl))
  f197:=Tryz.func183.trans (congrArg some (by kernel_rfl))
  f217:=Tryz.func107.trans (congrArg some (by kernel_rfl))
  f224:=Tryz.func214.trans (congrArg some (by kernel_rfl))
  f225:=Tryz.func215.trans (congrArg some (by kernel_rfl))
  f227:=Tryz.func168.trans (congrArg some (by kernel_rfl))
  f228:=Tryz.func182.trans (congrArg some (by kernel_rfl))
  f231:=Tryz.func166.trans (congrArg some (by kernel_rfl))
  f232:=Tryz.func167.trans (congrArg some (by kernel_rfl))
  f233:=Tryz.func169.trans (congrArg some (by kernel_rfl))
  f234:=Tryz.func170.trans (congrArg some (by kernel_rfl))
  f235:=Tryz.func171.trans (congrArg some (by kernel_rfl))
  f236:=Tryz.func172.trans (congrArg some (by kernel_rfl))
  f260:=Tryz.func199.trans (congrArg some (by kernel_rfl))
  f266:=Tryz.func143.trans (congrArg some (by kernel_rfl))
  f271:=Tryz.func185.trans (congrArg some (by kernel_rfl))
  t0:=Tryz.underlying0
  a0:=Tryz.isAgg0
  z0:=Tryz.sizeOf0
  v0:=Tryz.zeroValue0
  t3:=Tryz.underlying3
  a3:=Tryz.isAgg3
  z3:=Tryz.sizeOf3
  v3:=Tryz.zeroValue3
  t4:=Tryz.underlying4
  a4:=Tryz.isAgg4
  z4:=Tryz.sizeOf4
  v4:=Tryz.zeroValue4
  t5:=Tryz.underlying5
  a5:=Tryz.isAgg5
  z5:=Tryz.sizeOf5
  v5:=Tryz.zeroValue5
  t9:=Tryz.underlying9
  a9:=Tryz.isAgg9
  z9:=Tryz.sizeOf9
  v9:=Tryz.zeroValue9
  t21:=Tryz.underlying21
  a21:=Tryz.isAgg21
  z21:=Tryz.sizeOf21
  v21:=Tryz.zeroValue21
  t46:=Tryz.underlying216
  a46:=Tryz.isAgg216
  z46:=Tryz.sizeOf216
  v46:=Tryz.zeroValue216
  t105:=Tryz.underlying209
  a105:=Tryz.isAgg209
  z105:=Tryz.sizeOf209
  v105:=Tryz.zeroValue209
  t116:=Tryz.underlying198
  a116:=Tryz.isAgg198
  z116:=Tryz.sizeOf198
  t117:=Tryz.underlying199
  a117:=Tryz.isAgg199
  z117:=Tryz.sizeOf199
  v117:=Tryz.zeroValue199
  t119:=Tryz.underlying240
  a119:=Tryz.isAgg240
  z119:=Tryz.sizeOf240
  t124:=Tryz.underlying202
  a124:=Tryz.isAgg202
  z124:=Tryz.sizeOf202
  v124:=Tryz.zeroValue202
  t138:=Tryz.underlying242
  a138:=Tryz.isAgg242
  z138:=Tryz.sizeOf242
  v138:=Tryz.zeroValue242
  t139:=Tryz.underlying243
  a139:=Tryz.isAgg243
  z139:=Tryz.sizeOf243
  v139:=Tryz.zeroValue243
  g3:=by kernel_rfl
  g4:=by kernel_rfl}
def Tryz.JR:Go.Shelf.Ren:=⟨λ|137=>65|217=>107|266=>143|n=>n,λ|9=>9|5=>5|3=>3|n=>n,λ|n=>n⟩
theorem Tryz.Yh:Go.Proofs.Lays.n137 Tryz.prog Tryz.JR:={
  mixed:=by kernel_rfl
  f137:=Tryz.func65.trans (congrArg some (by kernel_rfl))
  f217:=Tryz.func107.trans (congrArg some (by kernel_rfl))
  f266:=Tryz.func143.trans (congrArg some (by kernel_rfl))
  t3:=Tryz.underlying3
  a3:=Tryz.isAgg3
  z3:=Tryz.sizeOf3
  v3:=Tryz.zeroValue3
  t5:=Tryz.underlying5
  a5:=Tryz.isAgg5
  z5:=Tryz.sizeOf5
  v5:=Tryz.zeroValue5
  t9:=Tryz.underlying9
  a9:=Tryz.isAgg9
  z9:=Tryz.sizeOf9
  v9:=Tryz.zeroValue9}
open Go.RowKit in
theorem Tryz.strings_IndexByte(s:ByteArray)(c:Int)(w:World):
    Calls Tryz.prog 65 #[.string s,.int .u8 c] w λe w'=>e=.returned (.int .i64 (Lib.indexByte s.data.toList c.toNat.toUInt8))/\w'=w:=Any.strings_IndexByte Tryz.Yh s c w
def Tryz.Hf:Go.Shelf.Ren:=⟨λ|174=>125|247=>173|245=>174|287=>186|279=>187|280=>188|281=>189|282=>190|321=>202|322=>203|316=>204|171=>206|205=>205|243=>216|246=>191|283=>207|284=>208|285=>209|286=>210|129=>218|317=>217|318=>219|319=>220|320=>221|337=>224|338=>225|n=>n,λ|9=>9|3=>3|2=>2|75=>170|85=>171|4=>4|167=>212|5=>5|53=>213|175=>214|46=>216|168=>217|37=>116|0=>0|210=>231|21=>21|127=>239|145=>249|143=>247|171=>234|173=>237|212=>251|51=>252|20=>20|213=>253|232=>260|233=>261|80=>139|n=>n,λ|15=>1|16=>2|17=>5|18=>6|19=>7|n=>n⟩
theorem Tryz.KI:Go.Proofs.LaysC.n174 Tryz.prog Tryz.Hf:={
  mixed:=by kernel_rfl
  f129:=Tryz.func218.trans (congrArg some (by kernel_rfl))
  f171:=Tryz.func206.trans (congrArg some (by kernel_rfl))
  f174:=Tryz.func125.trans (congrArg some (by kernel_rfl))
  f205:=Tryz.func205.trans (congrArg some (by kernel_rfl))
  f243:=Tryz.func216.trans (congrArg some (by kernel_rfl))
  f245:=Tryz.func174.trans (congrArg some (by kernel_rfl))
  f246:=Tryz.func191.trans (congrArg some (by kernel_rfl))
  f247:=Tryz.func173.trans (congrArg some (by kernel_rfl))
  f279:=Tryz.func187.trans (congrArg some (by kernel_rfl))
  f280:=Tryz.func188.trans (congrArg some (by kernel_rfl))
  f281:=Tryz.func189.trans (congrArg some (by kernel_rfl))
  f282:=Tryz.func190.trans (congrArg some (by kernel_rfl))
  f283:=Tryz.func207.trans (congrArg some (by kernel_rfl))
  f284:=Tryz.func208.trans (congrArg some (by kernel_rfl))
  f285:=Tryz.func209.trans (congrArg some (by kernel_rfl))
  f286:=Tryz.func210.trans (congrArg some (by kernel_rfl))
  f287:=Tryz.func186.trans (congrArg some (by kernel_rfl))
  f316:=Tryz.func204.trans (congrArg some (by kernel_rfl))
  f317:=Tryz.func217.trans (congrArg some (by kernel_rfl))
  f318:=Tryz.func219.trans (congrArg some (by kernel_rfl))
  f319:=Tryz.func220.trans (congrArg some (by kernel_rfl))
  f320:=Tryz.func221.trans (congrArg some (by kernel_rfl))
  f321:=Tryz.func202.trans (congrArg some (by kernel_rfl))
  f322:=Tryz.func203.trans (congrArg some (by kernel_rfl))
  f337:=Tryz.func224.trans (congrArg some (by kernel_rfl))
  f338:=Tryz.func225.trans (congrArg some (by kernel_rfl))
  t0:=Tryz.underlying0
  a0:=Tryz.isAgg0
  z0:=Tryz.sizeOf0
  v0:=Tryz.zeroValue0
  t2:=Tryz.underlying2
  a2:=Tryz.isAgg2
  z2:=Tryz.sizeOf2
  v2:=Tryz.zeroValue2
  t3:=Tryz.underlying3
  a3:=Tryz.isAgg3
  z3:=Tryz.sizeOf3
  v3:=Tryz.zeroValue3
  t4:=Tryz.underlying4
  a4:=Tryz.isAgg4
  z4:=Tryz.sizeOf4
  v4:=Tryz.zeroValue4
  t5:=Tryz.underlying5
  a5:=Tryz.isAgg5
  z5:=Tryz.sizeOf5
  v5:=Tryz.zeroValue5
  t9:=Tryz.underlying9
  a9:=Tryz.isAgg9
  z9:=Tryz.sizeOf9
  v9:=Tryz.zeroValue9
  t20:=Tryz.underlying20
  a20:=Tryz.isAgg20
  z20:=Tryz.sizeOf20
  v20:=Tryz.zeroValue20
  t21:=Tryz.underlying21
  a21:=Tryz.isAgg21
  z21:=Tryz.sizeOf21
  v21:=Tryz.zeroValue21
  t37:=Tryz.underlying116
  a37:=Tryz.isAgg116
  z37:=Tryz.sizeOf116
  v37:=Tryz.zeroValue116
  t46:=Tryz.underlying216
  a46:=Tryz.isAgg216
  z46:=Tryz.sizeOf216
  v46:=Tryz.zeroValue216
  t51:=Tryz.underlying252
  a51:=Tryz.isAgg252
  z51:=Tryz.sizeOf252
  v51:=Tryz.zeroValue252
  t53:=Tryz.underlying213
  a53:=Tryz.isAgg213
  z53:=Tryz.sizeOf213
  v53:=Tryz.zeroValue213
  t75:=Tryz.underlying170
  a75:=Tryz.isAgg170
  z75:=Tryz.sizeOf170
  v75:=Tryz.zeroValue170
  t85:=Tryz.underlying171
  a85:=Tryz.isAgg171
  z85:=Tryz.sizeOf171
  v85:=Tryz.zeroValue171
  t127:=Tryz.underlying239
  a127:=Tryz.isAgg239
  z127:=Tryz.sizeOf239
  v127:=Tryz.zeroValue239
  t143:=Tryz.underlying247
  a143:=Tryz.isAgg247
  z143:=Tryz.sizeOf247
  v143:=Tryz.zeroValue247
  t145:=Tryz.underlying249
  a145:=Tryz.isAgg249
  z145:=Tryz.sizeOf249
  v145:=Tryz.zeroValue249
  t167:=Tryz.underlying212
  a167:=Tryz.isAgg212
  z167:=Tryz.sizeOf212
  v167:=Tryz.zeroValue212
  t168:=Tryz.underlying217
  a168:=Tryz.isAgg217
  z168:=Tryz.sizeOf217
  v168:=Tryz.zeroValue217
  t171:=Tryz.underlying234
  a171:=Tryz.isAgg234
  z171:=Tryz.sizeOf234
  v171:=Tryz.zeroValue234
  t173:=Tryz.underlying237
  a173:=Tryz.isAgg237
  z173:=Tryz.sizeOf237
  v173:=Tryz.zeroValue237
  t175:=Tryz.underlying214
  a175:=Tryz.isAgg214
  z175:=Tryz.sizeOf214
  v175:=Tryz.zeroValue214
  t210:=Tryz.underlying231
  a210:=Tryz.isAgg231
  z210:=Tryz.sizeOf231
  v210:=Tryz.zeroValue231
  t212:=Tryz.underlying251
  a212:=Tryz.isAgg251
  z212:=Tryz.sizeOf251
  v212:=Tryz.zeroValue251
  t213:=Tryz.underlying253
  a213:=Tryz.isAgg253
  z213:=Tryz.sizeOf253
  t232:=Tryz.underlying260
  a232:=Tryz.isAgg260
  z232:=Tryz.sizeOf260
  v232:=Tryz.zeroValue260
  t233:=Tryz.underlying261
  a233:=Tryz.isAgg261
  z233:=Tryz.sizeOf261
  v233:=Tryz.zeroValue261
  g15:=by kernel_rfl
  g16:=by kernel_rfl
  g17:=by kernel_rfl
  g18:=by kernel_rfl
  g19:=by kernel_rfl
  t80:=Tryz.underlying139
  a80:=Tryz.isAgg139
  z80:=Tryz.sizeOf139
  v80:=Tryz.zeroValue139
  i0:=by kernel_rfl
  i2:=by kernel_rfl
  i3:=by kernel_rfl
  i4:=by kernel_rfl
  i5:=by kernel_rfl
  i9:=by kernel_rfl
  i20:=by kernel_rfl
  i21:=by kernel_rfl
  i37:=by kernel_rfl
  i46:=by kernel_rfl
  i51:=by kernel_rfl
  i53:=by kernel_rfl
  i75:=by kernel_rfl
  i80:=by kernel_rfl
  i85:=by kernel_rfl
  i127:=by kernel_rfl
  i143:=by kernel_rfl
  i145:=by kernel_rfl
  i167:=by kernel_rfl
  i168:=by kernel_rfl
  i171:=by kernel_rfl
  i173:=by kernel_rfl
  i175:=by kernel_rfl
  i210:=by kernel_rfl
  i212:=by kernel_rfl
  i232:=by kernel_rfl
  i233:=by kernel_rfl
  m15:=by kernel_rfl
  m16:=by kernel_rfl
  m17:=by kernel_rfl
  m18:=by kernel_rfl
  m19:=by kernel_rfl
  c0:=by kernel_rfl
  c2:=by kernel_rfl
  c3:=by kernel_rfl
  c4:=by kernel_rfl
  c5:=by kernel_rfl
  c9:=by kernel_rfl
  c20:=by kernel_rfl
  c21:=by kernel_rfl
  c37:=by kernel_rfl
  c46:=by kernel_rfl
  c51:=by kernel_rfl
  c53:=by kernel_rfl
  c75:=by kernel_rfl
  c80:=by kernel_rfl
  c85:=by kernel_rfl
  c127:=by kernel_rfl
  c143:=by kernel_rfl
  c145:=by kernel_rfl
  c167:=by kernel_rfl
  c168:=by kernel_rfl
  c171:=by kernel_rfl
  c173:=by kernel_rfl
  c175:=by kernel_rfl
  c210:=by kernel_rfl
  c212:=by kernel_rfl
  c213:=by kernel_rfl
  c232:=by kernel_rfl
  c233:=by kernel_rfl}
open Go.RowKit in
theorem Tryz.strconv_ParseInt_10_at64_ok(s:ByteArray)(ak5:s.size<=9223372036854775806)(v:Int)(h:Lib.parseIntB 64 s.data.toList=.ok v)(w:World):
    Calls Tryz.prog 125 #[.string s,.int .i64 10,.int .i64 64] w λe w'=>e=.returned (.tuple #[.int .i64 v,.nilIface])/\(w'=w\/∃t,w'=Lib.bytesWorld w 5 t):=Any.strconv_ParseInt_10_at64_ok Tryz.KI s ak5 v h w
open Go.RowKit in
theorem Tryz.strconv_ParseInt_10_at64_range(s:ByteArray)(ak6:s.size<=281474976710656)(h:Lib.parseIntB 64 s.data.toList=.range)(ev:Value)(w:World)(hv:w.cell? ⟨2,0,none⟩=some ev)(tp:ev=.nilIface\/∃te pe,ev=.iface te pe):
    Calls Tryz.prog 125 #[.string s,.int .i64 10,.int .i64 64] w λe w'=>∃N,e=.returned (.tuple #[.int .i64 (Lib.intSat 64 s.data.toList),.iface 217 (.pointer (some ⟨N,0,none⟩))])/\w.heap.size<=N/\w'.heap[N]? =some (.cells #[.string ⟨#[80,97,114,115,101,73,110,116]⟩,.string s,ev] 231 (0,0))/\Below w.heap.size w w':=Any.strconv_ParseInt_10_at64_range Tryz.KI s ak6 h ev w hv tp
def Tryz.Ml:Go.Shelf.Ren:=⟨λ|99=>84|206=>126|n=>n,λ|9=>9|4=>4|3=>3|n=>n,λ|n=>n⟩
theorem Tryz.acR:Go.Proofs.Lays.n99 Tryz.prog Tryz.Ml:={
  mixed:=by kernel_rfl
  f99:=Tryz.func84.trans (congrArg some (by kernel_rfl))
  f206:=Tryz.func126.trans (congrArg some (by kernel_rfl))
  t3:=Tryz.underlying3
  a3:=Tryz.isAgg3
  z3:=Tryz.sizeOf3
  v3:=Tryz.zeroValue3
  t4:=Tryz.underlying4
  a4:=Tryz.isAgg4
  z4:=Tryz.sizeOf4
  v4:=Tryz.zeroValue4
  t9:=Tryz.underlying9
  a9:=Tryz.isAgg9
  z9:=Tryz.sizeOf9
  v9:=Tryz.zeroValue9}
open Go.RowKit Go.Lib in
theorem Tryz.strings_HasPrefix(s p:ByteArray)(w:World):
    Calls Tryz.prog 84 #[.string s,.string p] w λe w'=>e=.returned (.bool (Lib.hasPrefix s.data.toList p.data.toList))/\w'=w:=Any.strings_HasPrefix Tryz.acR s p w
def Tryz.KM:Go.Shelf.Ren:=⟨λ|101=>123|208=>165|206=>126|n=>n,λ|9=>9|4=>4|3=>3|n=>n,λ|n=>n⟩
theorem Tryz.Zf:Go.Proofs.Lays.n101 Tryz.prog Tryz.KM:={
  mixed:=by kernel_rfl
  f101:=Tryz.func123.trans (congrArg some (by kernel_rfl))
  f206:=Tryz.func126.trans (congrArg some (by kernel_rfl))
  f208:=Tryz.func165.trans (congrArg some (by kernel_rfl))
  t3:=Tryz.underlying3
  a3:=Tryz.isAgg3
  z3:=Tryz.sizeOf3
  v3:=Tryz.zeroValue3
  t4:=Tryz.underlying4
  a4:=Tryz.isAgg4
  z4:=Tryz.sizeOf4
  v4:=Tryz.zeroValue4
  t9:=Tryz.underlying9
  a9:=Tryz.isAgg9
  z9:=Tryz.sizeOf9
  v9:=Tryz.zeroValue9}
open Go.RowKit Go.Lib in
theorem Tryz.strings_TrimPrefix(s p:ByteArray)(w:World):
    Calls Tryz.prog 123 #[.string s,.string p] w λe w'=>e=.returned (.string ⟨(Lib.trimPrefix s.data.toList p.data.toList).toArray⟩)/\w'=w:=Any.strings_TrimPrefix Tryz.Zf s p w
end Go.Proofs
