/-
  Part 4 of 9 of the proof of InferFrames: what it leans on. No conditions.
-/
import Derived.Test.YtgjenhndpfcjkaaGreatDoorZInferFrames3
import Derived.Shelf.Strings.Builder1
import Derived.Shelf.Small.Bits
import Derived.Shelf.Small.Wraps
import Derived.Shelf.Strconv.Itoa0
import Derived.Shelf.Strconv.Itoa1
import Derived.Shelf.LaysM
import Derived.Shelf.Strconv.Itoa2
import Derived.Shelf.Strconv.Itoa3
import Derived.Shelf.Sort.Plain
import Derived.Ground.Names2Prog
import Derived.Shelf.Slices.Clone
import Derived.Shelf.Slices.CompactI
import Derived.Shelf.Slices.SearchI
import Derived.Shelf.Slices.Cells
import Derived.Shelf.Slices.In.SortNone
import Derived.Ground.SlgnProg
import Derived.Shelf.SlicesE.Clone
import Derived.Ground.SlsfProg
import Derived.Shelf.SlSortCmp.InsertionK
import Derived.Shelf.SlSortCmp.SiftDownK
import Derived.Shelf.SlSortCmp.HeapSortK
import Derived.Shelf.SlSortCmp.MedianK
import Derived.Shelf.SlSortCmp.PivotK
import Derived.Shelf.SlSortCmp.ReverseRangeK
import Derived.Shelf.SlSortCmp.PartialInsertionK
import Derived.Shelf.SlSortCmp.PartitionEqualK
import Derived.Shelf.SlSortCmp.PartitionK
import Derived.Shelf.SlSortCmp.PdqK
import Derived.Shelf.SlSortCmp.WholeK
import Derived.Shelf.SlSortCmp.NoneTotal
import Derived.Test.YtgjenhndpfcjkaaGreatDoorProg
import Derived.Maps.RangeRun
import Derived.WideKeyArr
import Derived.Laws.StructEq
set_option maxRecDepth 100000
set_option maxHeartbeats 4000000
namespace Go.Proofs.YtgjenhndpfcjkaaGreatDoor
end Go.Proofs.YtgjenhndpfcjkaaGreatDoor
namespace Go.Fw
open Go.Proofs.YtgjenhndpfcjkaaGreatDoor Go.Proofs Go.RowKit Go.Shelf Go.ChangeShapes Go.WideShapes Go.Maps Go.Sort Go.Lib Tryz
end Go.Fw
namespace Go.Proofs
open Go.Fw Go.RowKit Go.Shelf Go.ChangeShapes Go.WideShapes Go.Maps Go.Sort Go.Lib Tryz
def Tryz.lays169_ren:Go.Shelf.Ren:=⟨fun|169=>90|n=>n,fun|70=>146|9=>9|0=>0|72=>148|37=>54|127=>213|3=>3|5=>5|n=>n,fun|n=>n⟩
theorem Tryz.lays169:Go.Proofs.Lays.n169 prog Tryz.lays169_ren:={
 mixed:=by kernel_rfl
 f169:=func90.trans (congrArg some (by kernel_rfl))
 t0:=Tryz.underlying0
 a0:=Tryz.isAgg0
 z0:=Tryz.sizeOf0
 v0:=Tryz.zeroValue0
 t3:=Tryz.underlying3
 a3:=Tryz.isAgg3
 z3:=Tryz.sizeOf3
 v3:=Tryz.zeroValue3
 t9:=Tryz.underlying9
 a9:=Tryz.isAgg9
 z9:=Tryz.sizeOf9
 v9:=Tryz.zeroValue9
 t37:=Tryz.underlying54
 a37:=Tryz.isAgg54
 z37:=Tryz.sizeOf54
 v37:=Tryz.zeroValue54
 t70:=Tryz.underlying146
 a70:=Tryz.isAgg146
 z70:=Tryz.sizeOf146
 v70:=Tryz.zeroValue146
 t72:=Tryz.underlying148
 a72:=Tryz.isAgg148
 z72:=Tryz.sizeOf148
 v72:=Tryz.zeroValue148
 t127:=Tryz.underlying213
 a127:=Tryz.isAgg213
 z127:=Tryz.sizeOf213
 v127:=Tryz.zeroValue213 }
theorem Tryz.Builder_Extra_169:Builder.Extra prog Tryz.lays169_ren:={
 sizeBuilder:=by kernel_rfl
 liesBuilder:=by kernel_rfl
 t5:=Tryz.underlying5
 a5:=Tryz.isAgg5
 z5:=Tryz.sizeOf5
 v5:=Tryz.zeroValue5
 infoByte:=by kernel_rfl
 cellsByte:=by kernel_rfl
 sizeByte:=by kernel_rfl
 neB5:=by decide }
open Go.RowKit in
theorem Tryz.Builder_String_any(B b:Nat)(l:List UInt8)(w:World)(h:Lib.IsBuilder 148 5 B b (Lib.byteCells l) w)(hBw:B≤w.heap.size):
 Calls prog 90 #[.pointer (some ⟨b,0,none⟩)] w fun e w'=>e=.returned (.string ⟨l.toArray⟩)∧Below B w w':=Any.Builder_String_any Tryz.lays169 Tryz.Builder_Extra_169 B b l w h hBw
def Tryz.lays122_ren:Go.Shelf.Ren:=⟨fun|122=>162|215=>222|n=>n,fun|3=>3|4=>4|n=>n,fun|n=>n⟩
theorem Tryz.lays122:Go.Proofs.Lays.n122 prog Tryz.lays122_ren:={
 mixed:=by kernel_rfl
 f122:=func162.trans (congrArg some (by kernel_rfl))
 f215:=func222.trans (congrArg some (by kernel_rfl))
 t3:=Tryz.underlying3
 a3:=Tryz.isAgg3
 z3:=Tryz.sizeOf3
 v3:=Tryz.zeroValue3
 t4:=Tryz.underlying4
 a4:=Tryz.isAgg4
 z4:=Tryz.sizeOf4
 v4:=Tryz.zeroValue4 }
open Go.RowKit in
theorem Tryz.cmp_Compare_int(x y:Int)(w:World):
 Calls prog 162 #[.int .i64 x,.int .i64 y] w fun e w'=>e=.returned (.int .i64 (Lib.compareInt x y))∧w'=w:=Any.cmp_Compare_int Tryz.lays122 x y w
def Tryz.lays171_ren:Go.Shelf.Ren:=⟨fun|171=>89|243=>142|246=>198|283=>261|284=>262|285=>263|286=>264|129=>209|317=>301|318=>302|319=>303|320=>304|337=>315|338=>316|n=>n,fun|3=>3|9=>9|2=>2|4=>4|171=>292|0=>0|53=>258|37=>54|5=>5|173=>294|212=>321|51=>256|20=>20|213=>322|46=>177|232=>332|233=>333|n=>n,fun|17=>2|18=>3|19=>4|n=>n⟩
theorem Tryz.lays171:Go.Proofs.Lays.n171 prog Tryz.lays171_ren:={
 mixed:=by kernel_rfl
 f129:=func209.trans (congrArg some (by kernel_rfl))
 f171:=func89.trans (congrArg some (by kernel_rfl))
 f243:=func142.trans (congrArg some (by kernel_rfl))
 f246:=func198.trans (congrArg some (by kernel_rfl))
 f283:=func261.trans (congrArg some (by kernel_rfl))
 f284:=func262.trans (congrArg some (by kernel_rfl))
 f285:=func263.trans (congrArg some (by kernel_rfl))
 f286:=func264.trans (congrArg some (by kernel_rfl))
 f317:=func301.trans (congrArg some (by kernel_rfl))
 f318:=func302.trans (congrArg some (by kernel_rfl))
 f319:=func303.trans (congrArg some (by kernel_rfl))
 f320:=func304.trans (congrArg some (by kernel_rfl))
 f337:=func315.trans (congrArg some (by kernel_rfl))
 f338:=func316.trans (congrArg some (by kernel_rfl))
 t0:=Tryz.underlying0
 a0:=Tryz.isAgg0
 z0:=Tryz.sizeOf0
 v0:=Tryz.zeroValue0
 t2:=Tryz.underlying2
 a2:=Tryz.isAgg2
 z2:=Tryz.sizeOf2
 v2:=Tryz.zeroValue2
 t3:=Tryz.underlying3
 a3:=Tryz.isAgg3
 z3:=Tryz.sizeOf3
 v3:=Tryz.zeroValue3
 t4:=Tryz.underlying4
 a4:=Tryz.isAgg4
 z4:=Tryz.sizeOf4
 v4:=Tryz.zeroValue4
 t5:=Tryz.underlying5
 a5:=Tryz.isAgg5
 z5:=Tryz.sizeOf5
 v5:=Tryz.zeroValue5
 t9:=Tryz.underlying9
 a9:=Tryz.isAgg9
 z9:=Tryz.sizeOf9
 v9:=Tryz.zeroValue9
 t20:=Tryz.underlying20
 a20:=Tryz.isAgg20
 z20:=Tryz.sizeOf20
 v20:=Tryz.zeroValue20
 t37:=Tryz.underlying54
 a37:=Tryz.isAgg54
 z37:=Tryz.sizeOf54
 v37:=Tryz.zeroValue54
 t46:=Tryz.underlying177
 a46:=Tryz.isAgg177
 z46:=Tryz.sizeOf177
 v46:=Tryz.zeroValue177
 t51:=Tryz.underlying256
 a51:=Tryz.isAgg256
 z51:=Tryz.sizeOf256
 v51:=Tryz.zeroValue256
 t53:=Tryz.underlying258
 a53:=Tryz.isAgg258
 z53:=Tryz.sizeOf258
 v53:=Tryz.zeroValue258
 t171:=Tryz.underlying292
 a171:=Tryz.isAgg292
 z171:=Tryz.sizeOf292
 v171:=Tryz.zeroValue292
 t173:=Tryz.underlying294
 a173:=Tryz.isAgg294
 z173:=Tryz.sizeOf294
 v173:=Tryz.zeroValue294
 t212:=Tryz.underlying321
 a212:=Tryz.isAgg321
 z212:=Tryz.sizeOf321
 v212:=Tryz.zeroValue321
 t213:=Tryz.underlying322
 a213:=Tryz.isAgg322
 z213:=Tryz.sizeOf322
 t232:=Tryz.underlying332
 a232:=Tryz.isAgg332
 z232:=Tryz.sizeOf332
 v232:=Tryz.zeroValue332
 t233:=Tryz.underlying333
 a233:=Tryz.isAgg333
 z233:=Tryz.sizeOf333
 v233:=Tryz.zeroValue333
 g17:=by kernel_rfl
 g18:=by kernel_rfl
 g19:=by kernel_rfl }
open Go.RowKit Go.Sort Go.Lib in
theorem Tryz.strconv_Itoa_small(i:Nat)(hi:i<100)(w:World):
 Calls prog 89 #[.int .i64 i] w fun e w'=>e=.returned (.string ⟨(Lib.decDigits i).toArray⟩)∧w'=w:=Any.strconv_Itoa_small Tryz.lays171 i hi w
def Tryz.lays189_ren:Go.Shelf.Ren:=⟨fun|189=>92|125=>148|257=>147|128=>208|129=>209|294=>199|295=>200|296=>201|297=>202|298=>203|299=>204|216=>205|300=>206|301=>207|328=>265|329=>266|330=>267|331=>268|332=>269|215=>222|343=>305|n=>n,fun|28=>48|3=>3|46=>177|0=>0|51=>256|53=>258|4=>4|183=>249|182=>248|131=>253|5=>5|9=>9|218=>296|222=>300|228=>323|229=>324|n=>n,fun|n=>n⟩
theorem Tryz.lays189:Go.Proofs.Lays.n189 prog Tryz.lays189_ren:={
 mixed:=by kernel_rfl
 f125:=func148.trans (congrArg some (by kernel_rfl))
 f128:=func208.trans (congrArg some (by kernel_rfl))
 f129:=func209.trans (congrArg some (by kernel_rfl))
 f189:=func92.trans (congrArg some (by kernel_rfl))
 f215:=func222.trans (congrArg some (by kernel_rfl))
 f216:=func205.trans (congrArg some (by kernel_rfl))
 f257:=func147.trans (congrArg some (by kernel_rfl))
 f294:=func199.trans (congrArg some (by kernel_rfl))
 f295:=func200.trans (congrArg some (by kernel_rfl))
 f296:=func201.trans (congrArg some (by kernel_rfl))
 f297:=func202.trans (congrArg some (by kernel_rfl))
 f298:=func203.trans (congrArg some (by kernel_rfl))
 f299:=func204.trans (congrArg some (by kernel_rfl))
 f300:=func206.trans (congrArg some (by kernel_rfl))
 f301:=func207.trans (congrArg some (by kernel_rfl))
 f328:=func265.trans (congrArg some (by kernel_rfl))
 f329:=func266.trans (congrArg some (by kernel_rfl))
 f330:=func267.trans (congrArg some (by kernel_rfl))
 f331:=func268.trans (congrArg some (by kernel_rfl))
 f332:=func269.trans (congrArg some (by kernel_rfl))
 f343:=func305.trans (congrArg some (by kernel_rfl))
 t0:=Tryz.underlying0
 a0:=Tryz.isAgg0
 z0:=Tryz.sizeOf0
 v0:=Tryz.zeroValue0
 t3:=Tryz.underlying3
 a3:=Tryz.isAgg3
 z3:=Tryz.sizeOf3
 v3:=Tryz.zeroValue3
 t4:=Tryz.underlying4
 a4:=Tryz.isAgg4
 z4:=Tryz.sizeOf4
 v4:=Tryz.zeroValue4
 t5:=Tryz.underlying5
 a5:=Tryz.isAgg5
 z5:=Tryz.sizeOf5
 v5:=Tryz.zeroValue5
 t9:=Tryz.underlying9
 a9:=Tryz.isAgg9
 z9:=Tryz.sizeOf9
 v9:=Tryz.zeroValue9
 t28:=Tryz.underlying48
 a28:=Tryz.isAgg48
 z28:=Tryz.sizeOf48
 v28:=Tryz.zeroValue48
 t46:=Tryz.underlying177
 a46:=Tryz.isAgg177
 z46:=Tryz.sizeOf177
 v46:=Tryz.zeroValue177
 t51:=Tryz.underlying256
 a51:=Tryz.isAgg256
 z51:=Tryz.sizeOf256
 v51:=Tryz.zeroValue256
 t53:=Tryz.underlying258
 a53:=Tryz.isAgg258
 z53:=Tryz.sizeOf258
 v53:=Tryz.zeroValue258
 t131:=Tryz.underlying253
 a131:=Tryz.isAgg253
 z131:=Tryz.sizeOf253
 v131:=Tryz.zeroValue253
 t182:=Tryz.underlying248
 a182:=Tryz.isAgg248
 z182:=Tryz.sizeOf248
 v182:=Tryz.zeroValue248
 t183:=Tryz.underlying249
 a183:=Tryz.isAgg249
 z183:=Tryz.sizeOf249
 v183:=Tryz.zeroValue249
 t218:=Tryz.underlying296
 a218:=Tryz.isAgg296
 z218:=Tryz.sizeOf296
 v218:=Tryz.zeroValue296
 t222:=Tryz.underlying300
 a222:=Tryz.isAgg300
 z222:=Tryz.sizeOf300
 v222:=Tryz.zeroValue300
 t228:=Tryz.underlying323
 a228:=Tryz.isAgg323
 z228:=Tryz.sizeOf323
 v228:=Tryz.zeroValue323
 t229:=Tryz.underlying324
 a229:=Tryz.isAgg324
 z229:=Tryz.sizeOf324
 v229:=Tryz.zeroValue324 }
open Go.Sort Go.RowKit in
theorem Tryz.slices_Sort_int(blk off cap:Nat)(zs:List Int)(w:World)(hH:Holds (Value.int .i64) w blk off zs.toArray)(hblk:blk<w.heap.size)(hsz:zs.length<4611686018427387904):
 Calls prog 92 #[.slice (some ⟨blk,off,none⟩) zs.length cap] w fun e w' =>
  e=.returned (.tuple #[])∧∃n os,w'=grow (putRow (Value.int .i64) (Sort.ahead w n) blk off (zs.mergeSort fun x y=>decide (x≤y)).toArray) os:=Any.slices_Sort_int Tryz.lays189 blk off cap zs w hH hblk hsz
def Tryz.laysNm220_ren:Go.Shelf.Ren:=⟨fun|20=>132|n=>n,fun|22=>48|3=>3|4=>4|0=>0|n=>n,fun|n=>n⟩
theorem Tryz.laysNm220:Go.Proofs.Lays2.n20 prog Tryz.laysNm220_ren:={
 mixed:=by kernel_rfl
 f20:=func132.trans (congrArg some (by kernel_rfl))
 t0:=Tryz.underlying0
 a0:=Tryz.isAgg0
 z0:=Tryz.sizeOf0
 v0:=Tryz.zeroValue0
 t3:=Tryz.underlying3
 a3:=Tryz.isAgg3
 z3:=Tryz.sizeOf3
 v3:=Tryz.zeroValue3
 t4:=Tryz.underlying4
 a4:=Tryz.isAgg4
 z4:=Tryz.sizeOf4
 v4:=Tryz.zeroValue4
 t22:=Tryz.underlying48
 a22:=Tryz.isAgg48
 z22:=Tryz.sizeOf48
 v22:=Tryz.zeroValue48
 i3:=by kernel_rfl }
open Go.RowKit Go.Lib Go.Sort in
theorem Tryz.slices_Compact_int(blk off cap:Nat)(zs:List Int)(w:World)(hH:Holds (Value.int .i64) w blk off zs.toArray)(hsz:zs.length≤9223372036854775807)(hcap:zs.length≤cap):
 Calls prog 132 #[.slice (some ⟨blk,off,none⟩) zs.length cap] w fun e w'=>e=.returned (.slice (some ⟨blk,off,none⟩) (Lib.compact zs).length cap)∧∃q,w'=putRow (Value.int .i64) (Sort.ahead w q) blk off (Lib.compact zs++List.replicate (zs.length-(Lib.compact zs).length) 0).toArray:=Any.slices_Compact_int Tryz.laysNm220 blk off cap zs w hH hsz hcap
open Go.RowKit Go.Lib Go.Sort in
theorem Tryz.slices_Compact_int_empty(a:Option Addr)(cap:Nat)(w:World):
 Calls prog 132 #[.slice a 0 cap] w fun e w'=>e=.returned (.slice a 0 cap)∧w'=w:=Any.slices_Compact_int_empty Tryz.laysNm220 a cap w
open Go.RowKit Go.Sort in
theorem Tryz.slices_Sort_int_none(p:Option Addr)(cap:Nat)(w:World):
 Calls prog 92 #[.slice p 0 cap] w fun e w'=>e=.returned (.tuple #[])∧w'=w:=Any.slices_Sort_int_none Tryz.lays189 p cap w
def Tryz.laysSlF06_f95_ren:Go.Shelf.Ren:=⟨fun|6=>95|15=>148|14=>160|28=>208|29=>209|20=>214|21=>215|22=>216|23=>217|24=>218|25=>219|26=>220|27=>221|46=>270|47=>266|48=>267|49=>271|50=>272|57=>306|n=>n,fun|22=>41|24=>44|25=>161|3=>3|39=>177|0=>0|53=>256|55=>258|4=>4|46=>249|45=>248|50=>253|5=>5|9=>9|66=>296|70=>300|76=>323|77=>324|n=>n,fun|n=>n⟩
theorem Tryz.laysSlF06_f95:Go.Proofs.SlLaysF0.n6 prog Tryz.laysSlF06_f95_ren:={
 mixed:=by kernel_rfl
 f6:=⟨Tryz.f95.name,by decide,func95.trans (congrArg some (by kernel_rfl))⟩
 f14:=⟨Tryz.f160.name,by decide,func160.trans (congrArg some (by kernel_rfl))⟩
 f15:=func148.trans (congrArg some (by kernel_rfl))
 f20:=⟨Tryz.f214.name,by decide,func214.trans (congrArg some (by kernel_rfl))⟩
 f21:=⟨Tryz.f215.name,by decide,func215.trans (congrArg some (by kernel_rfl))⟩
 f22:=⟨Tryz.f216.name,by decide,func216.trans (congrArg some (by kernel_rfl))⟩
 f23:=⟨Tryz.f217.name,by decide,func217.trans (congrArg some (by kernel_rfl))⟩
 f24:=⟨Tryz.f218.name,by decide,func218.trans (congrArg some (by kernel_rfl))⟩
 f25:=⟨Tryz.f219.name,by decide,func219.trans (congrArg some (by kernel_rfl))⟩
 f26:=⟨Tryz.f220.name,by decide,func220.trans (congrArg some (by kernel_rfl))⟩
 f27:=⟨Tryz.f221.name,by decide,func221.trans (congrArg some (by kernel_rfl))⟩
 f28:=func208.trans (congrArg some (by kernel_rfl))
 f29:=func209.trans (congrArg some (by kernel_rfl))
 f46:=⟨Tryz.f270.name,by decide,func270.trans (congrArg some (by kernel_rfl))⟩
 f47:=func266.trans (congrArg some (by kernel_rfl))
 f48:=func267.trans (congrArg some (by kernel_rfl))
 f49:=⟨Tryz.f271.name,by decide,func271.trans (congrArg some (by kernel_rfl))⟩
 f50:=⟨Tryz.f272.name,by decide,func272.trans (congrArg some (by kernel_rfl))⟩
 f57:=⟨Tryz.f306.name,by decide,func306.trans (congrArg some (by kernel_rfl))⟩
 t0:=Tryz.underlying0
 a0:=Tryz.isAgg0
 z0:=Tryz.sizeOf0
 v0:=Tryz.zeroValue0
 t3:=Tryz.underlying3
 a3:=Tryz.isAgg3
 z3:=Tryz.sizeOf3
 v3:=Tryz.zeroValue3
 t4:=Tryz.underlying4
 a4:=Tryz.isAgg4
 z4:=Tryz.sizeOf4
 v4:=Tryz.zeroValue4
 t5:=Tryz.underlying5
 a5:=Tryz.isAgg5
 z5:=Tryz.sizeOf5
 v5:=Tryz.zeroValue5
 t9:=Tryz.underlying9
 a9:=Tryz.isAgg9
 z9:=Tryz.sizeOf9
 v9:=Tryz.zeroValue9
 t22:=Tryz.underlying41
 a22:=Tryz.isAgg41
 z22:=Tryz.sizeOf41
 v22:=Tryz.zeroValue41
 t25:=Tryz.underlying161
 a25:=Tryz.isAgg161
 z25:=Tryz.sizeOf161
 v25:=Tryz.zeroValue161
 t39:=Tryz.underlying177
 a39:=Tryz.isAgg177
 z39:=Tryz.sizeOf177
 v39:=Tryz.zeroValue177
 t45:=Tryz.underlying248
 a45:=Tryz.isAgg248
 z45:=Tryz.sizeOf248
 v45:=Tryz.zeroValue248
 t46:=Tryz.underlying249
 a46:=Tryz.isAgg249
 z46:=Tryz.sizeOf249
 v46:=Tryz.zeroValue249
 t50:=Tryz.underlying253
 a50:=Tryz.isAgg253
 z50:=Tryz.sizeOf253
 v50:=Tryz.zeroValue253
 t53:=Tryz.underlying256
 a53:=Tryz.isAgg256
 z53:=Tryz.sizeOf256
 v53:=Tryz.zeroValue256
 t55:=Tryz.underlying258
 a55:=Tryz.isAgg258
 z55:=Tryz.sizeOf258
 v55:=Tryz.zeroValue258
 t66:=Tryz.underlying296
 a66:=Tryz.isAgg296
 z66:=Tryz.sizeOf296
 v66:=Tryz.zeroValue296
 t70:=Tryz.underlying300
 a70:=Tryz.isAgg300
 z70:=Tryz.sizeOf300
 v70:=Tryz.zeroValue300
 t76:=Tryz.underlying323
 a76:=Tryz.isAgg323
 z76:=Tryz.sizeOf323
 v76:=Tryz.zeroValue323
 t77:=Tryz.underlying324
 a77:=Tryz.isAgg324
 z77:=Tryz.sizeOf324
 v77:=Tryz.zeroValue324 }
open Go.RowKit Go.Lib Go.Sort in
theorem Tryz.slices_SortFunc_none{α:Type}[Inhabited α](p:Option Addr)(cap:Nat)(fv:Value)(w:World):
 Calls prog 95 #[.slice p 0 cap,fv] w fun e w'=>e=.returned (.tuple #[])∧w'=w:=AnyF.slices_SortFunc_none Tryz.laysSlF06_f95 p cap fv w
open Go.RowKit Go.Lib Go.Sort in
theorem Tryz.slices_SortFunc_total{α:Type}[Inhabited α](k:Nat)(aE:∀w,(isAgg 44).run prog w=.ok true w)(zE:∀w,(Go.sizeOf 44).run prog w=.ok k w)(enc:α→List Value)(hk:∀x,(enc x).length=k)(h1:∀x,∀v∈enc x,v.oneCell'=true)(cf:α→α→Int)(hO:SWO (ltOf cf))(g:Nat)(cb:Array Value)(blk off cap:Nat)(d:Array α)(w:World)(eg:∀args w,(callFunc g args).run prog w=.ok (.enter g args) w)(hcmp:CmpLays prog g cb enc k cf blk off d.size w)(hH:HoldsK enc k w blk off d)(hblk:blk<w.heap.size)(hsz:d.size<4611686018427387904)(hT:∀x y,(ltOf cf) x y=false→(ltOf cf) y x=false→x=y):
 Calls prog 95 #[.slice (some ⟨blk,off,none⟩) d.size cap,.func (.func g) #[] cb] w fun e w' =>
  e=.returned (.tuple #[])∧∃n os,w'=sortWorldK enc k w blk off n (d.toList.mergeSort fun x y=>!(ltOf cf) y x).toArray os:=AnyQ.slices_SortFunc_total Tryz.laysSlF06_f95 k aE zE enc hk h1 cf hO g cb blk off cap d w eg hcmp hH hblk hsz hT
end Go.Proofs
namespace Go.Fw
open Go.Proofs.YtgjenhndpfcjkaaGreatDoor Go.Proofs Go.RowKit Go.Shelf Go.ChangeShapes Go.WideShapes Go.Maps Go.Sort Go.Lib Tryz
def I7a(M:List Nat)(w:World):Prop:=0∉M∧∀(i:Nat) (l:List UInt8),f2b[i]?=some l→w.cell? ⟨0,i,none⟩=some (.string (B6a l))
theorem I7a.keep{M:List Nat}{w w':World}(h:I7a M w)(hk:y0a M w w'):I7a M w':=⟨h.1,fun i l hi=>hk.cell (a:=⟨0,i,none⟩) h.1 (h.2 i l hi)⟩
theorem I7a.less{M M':List Nat}{w:World}(h:I7a M w)(hM:∀g∈M',g∈M):I7a M' w:=⟨fun hh=>h.1 (hM _ hh),h.2⟩
theorem I7a.more{M M':List Nat}{w:World}(h:I7a M w)(hM:∀g∈M',g∈M∨w.heap.size≤g):I7a M' w:=by
 refine⟨fun hh=>?_,h.2⟩;rcases hM _ hh with h'|h'
 ·exact h.1 h'
 ·have:=World.block_lt_of_cell? w _ (h.2 0 _ Z);simp at this;omega
def RB(B g:Nat)(w:World)(e:E)(b o:Nat):Prop:=∀M,(∀x∈M,x=g∨B≤x)→RdP M w e b o
def NB(B g:Nat)(w:World):Prop:=∀M,(∀x∈M,x=g∨B≤x)→I7a M w
theorem RB.keep{B g:Nat}{w w':World}{e:E}{b o:Nat}(h:RB B g w e b o)(k:y0a (MB B g w) w w'):RB B g w' e b o:=fun M hM =>
 (((h (M++MB B g w) (fun x hx=>by rcases List.mem_append.1 hx with h|h;exact hM x h;exact(E7a.1 h).imp id And.left)).keep (k.mono fun x hx=>List.mem_append_right _ hx))).less fun x hx=>List.mem_append_left _ hx
theorem NB.keep{B g:Nat}{w w':World}(h:NB B g w)(k:y0a (MB B g w) w w'):NB B g w':=fun M hM =>
 (((h (M++MB B g w) (fun x hx=>by rcases List.mem_append.1 hx with h|h;exact hM x h;exact(E7a.1 h).imp id And.left)).keep (k.mono fun x hx=>List.mem_append_right _ hx))).less fun x hx=>List.mem_append_left _ hx
theorem R2d{B g:Nat}{w:World}:∀x∈MB B g w,x=g∨B≤x:=fun _ hx=>(E7a.1 hx).imp id And.left
theorem RB.kid{B g:Nat}{w:World}{e:E}{b o:Nat}(h:RB B g w e b o){A:Option Addr}{n c:Nat}(h3:w.cell? ⟨b,o+3,none⟩=some (.slice A n c))(hn:n=e.kids.length)(i:Nat)(hi:i<e.kids.length):∃bk ok,A=some ⟨bk,ok,none⟩∧RB B g w e.kids[i] bk (ok+i*4):=by
 obtain⟨-,-,-,-,-,-,-,A1,n1,c1,hc,-,-,-,-,hk,-⟩:=(h [] (by simp)).open_;obtain⟨rfl,rfl,rfl⟩:A=A1∧n=n1∧c=c1:=by
  have:=h3.symm.trans hc;simpa using this
 obtain⟨bk,ok,rfl,-,-⟩:=hk (by omega);refine⟨bk,ok,Z,fun M hM=>?_⟩;obtain⟨-,-,-,-,-,-,-,A2,n2,c2,c0,-,-,-,-,d0,-⟩:=(h M hM).open_;obtain⟨rfl,rfl,rfl⟩:some ⟨bk,ok,none⟩=A2∧n=n2∧c=c2:=by
  have:=h3.symm.trans c0;simpa using this
 obtain⟨a0,f0,he,b0,e0⟩:=d0 (by omega);obtain⟨rfl,rfl⟩:bk=a0∧ok=f0:=by simpa using he
 exact RdP.kid b0 e0 i hi
theorem m6a(n:Int)(h0:0≤n)(h1:n<100)(w0:World):
 O0a prog 89 #[.int .i64 n] w0 fun v w'=>v=.string (B6a (z9b n))∧Bw w0 w':=by
 obtain⟨k,rfl⟩:=Int.eq_ofNat_of_zero_le h0;refine Calls.mono (Tryz.strconv_Itoa_small k (by omega) w0) ?_;rintro e w' ⟨rfl,rfl⟩;exact⟨_,Z,Z,Below.refl _ _⟩
theorem U9a(op:Int)(w0:World):
 O0a prog 88 #[.int .i64 op] w0 fun v w'=>v=.string (B6a (H0c op))∧Bw w0 w':=by
 have S:=St.refl w0;refine a0a func88 Z ntmps88 Z ?_;refine wB0 Z U (fun h5=>?_) fun h5=>?_
 ·refine lR0 Z U (A0a Z ?_);refine⟨?_,S.fin⟩;unfold H0c;have z:op=2:=h5;rw[if_pos z];rfl
 refine lB0 Z U (fun h7=>?_) fun h7=>?_
 ·refine lR0 Z U (A0a Z ?_);refine⟨?_,S.fin⟩;unfold H0c;have z:¬op=2:=h5;have z2:op=3:=h7;rw[if_neg z,if_pos z2];rfl
 refine lR0 Z U (A0a Z ?_);refine⟨?_,S.fin⟩;unfold H0c;have z:¬op=2:=h5;have z2:¬op=3:=h7;rw[if_neg z,if_neg z2];rfl
theorem L1d:prog.globalNamed ((Rows.inferInterferenceRow.laid[4]?.map (·.1)).getD "")=some 0:=by kernel_rfl
theorem F2d:(prog.globals[0]?).map (·.type)=some 154:=by kernel_rfl
theorem c1d:prog.cellsOf 154=11:=by kernel_rfl
theorem q3d:prog.cellsOf 9=1:=by kernel_rfl
theorem V9c{s:ByteArray}{l:List UInt8}(h:s.data.toList=l):s=B6a l:=by
 cases s;subst h;simp[B6a]
theorem K3b{W:World}(h:laidMetH prog Rows.inferInterferenceRow.laid W):I7a [] W:=by
 rw[MakeChecks.laidMetH_plain _ _ _ (by kernel_rfl)] at h;obtain⟨_,d0,-⟩:=h;obtain⟨_,_,c0,_,_,g0,o0,p0,m0⟩:=Q5b d0 (i:=4) Z;obtain rfl:=Option.some.inj (L1d.symm.trans g0);obtain rfl:=Option.some.inj (F2d.symm.trans o0);obtain⟨xs,_,rfl,b0,e0,_,f0⟩:=DataW.trod_array Tryz.underlying154 m0;rw[c1d] at e0;simp only[q3d,Nat.mul_one] at f0;refine⟨by simp,fun i l hi=>?_⟩;have n0:i<11:=(List.getElem?_eq_some_iff.1 hi).1;have a0:=World.var?_cell g0 p0 i;have i0:i<xs.length:=by omega
 have he:=f0 i (by omega);rw[List.getElem?_eq_getElem i0] at he;obtain⟨k,e1,e2,-⟩:=DataW.trod_string Tryz.underlying9 he;have j0:c0.toList[i]?=some (.string k):=by
  have h1:((c0.toList.drop i).take 1)[0]?=some (Value.string k):=by rw[e1];rfl
  rw[List.getElem?_take,if_pos (by omega),List.getElem?_drop] at h1;simpa using h1
 rw[a0];have e3:c0[i]?=some (.string k):=by simpa using j0
 rw[e3];have b0:(DataW.agg _=DataW.agg _∧_):=Prod.mk.inj b0;have b0:=DataW.agg.inj b0.1;have e4:(xs.map (·.1))[i]?=some (.lit (.string k.data.toList)):=by rw[List.getElem?_map,List.getElem?_eq_getElem i0,e2];rfl
 rw[←b0] at e4;have key:l=k.data.toList:=by
  rcases(show i=0∨i=1∨i=2∨i=3∨i=4∨i=5∨i=6∨i=7∨i=8∨i=9∨i=10 by omega) with rfl|rfl|rfl|rfl|rfl|rfl|rfl|rfl|rfl|rfl|rfl<;>(cases hi;injection e4 with e4;injection e4 with e4;injection e4)
 rw[V9c key.symm]
def W1b:List Int→Int
 | []=>0
 | x::l=>x+W1b l
theorem O9a(a b:List Int):W1b (a++b)=W1b a+W1b b:=by
 induction a with
 | nil=>simp[W1b]
 | cons x l ih=>simp only[List.cons_append,W1b,ih];omega
theorem y0c{l:List Int}{k:Nat}{x:Int}(h:l[k]?=some x):W1b (l.take (k+1))=W1b (l.take k)+x:=by
 rw[t0a h,O9a];simp[W1b]
theorem q7b{l:List Int}(h:∀x∈l,1≤x∧x≤8):(l.length:Int)≤W1b l∧W1b l≤8*l.length:=by
 induction l with
 | nil=>simp[W1b]
 | cons x l ih =>
   have h1:=h x (by simp);have h2:=ih fun y hy=>h y (List.mem_cons_of_mem _ hy);simp only[W1b,List.length_cons];omega
theorem p4b{l:List Int}(h:∀x∈l,1≤x∧x≤8)(k:Nat):0≤W1b (l.take k)∧W1b (l.take k)≤W1b l:=by
 have h1:=O9a (l.take k) (l.drop k);rw[List.take_append_drop] at h1;have h2:=q7b (l:=l.take k) fun x hx=>h x (List.mem_of_mem_take hx);have h3:=q7b (l:=l.drop k) fun x hx=>h x (List.mem_of_mem_drop hx);omega
theorem b3b{C:List Int}(h:C.Pairwise (·<·))(hc:∀c∈C,0≤c∧c<32):C.length≤32:=by
 have key:∀(l:List Int) (m:Int),l.Pairwise (·<·)→(∀c∈l,m≤c∧c<32)→m≤32→(l.length:Int)≤32-m:=by
  intro l
  induction l with
  | nil=>intro m _ _ hm;simp;omega
  | cons x l ih =>
    intro m h1 h2 _;rw[List.pairwise_cons] at h1;have h3:=h2 x (by simp);have h4:=ih (x+1) h1.2 (fun c hc=>⟨by have:=h1.1 c hc;omega,(h2 c (List.mem_cons_of_mem _ hc)).2⟩) (by omega);simp only[List.length_cons];omega
 have:=key C 0 h hc (by omega);omega
theorem p1c{p:List I1a}{c:Int}(hc:0≤c∧c<p.length)(hw:∀c∈p,1≤c.w∧c.w≤8):1≤wAt p c∧wAt p c≤8:=by
 have h2:c.toNat<p.length:=by omega
 unfold wAt;rw[if_pos hc.1,List.getElem?_eq_getElem h2];exact hw _ (List.getElem_mem h2)
def O7b(w0 w:World)(v:Value)(l:List Int):Prop:=∀M:List Nat,(∀g∈M,g<w0.heap.size)→RdI M w v l
theorem O7b.keep{w0 w w':World}{v:Value}{l:List Int}(h:O7b w0 w v l)(hk:y0a [] w w'):O7b w0 w' v l:=fun M hM=>(h M hM).keep hk.of_nil
theorem O7b.form{w0 w:World}{v:Value}{l:List Int}(h:O7b w0 w v l):∃A n c,v=.slice A n c:=(h [] (by simp)).form
theorem O7b.later{w0 w1 w w':World}{v:Value}{l:List Int}{G:List Nat}(h:O7b w1 w v l)(hk:y0a G w w')(hG:∀g∈G,g<w1.heap.size)(h0:w0.heap.size≤w1.heap.size):O7b w0 w' v l:=fun M hM =>
 ((h (G++M) (fun g hg=>by rcases List.mem_append.1 hg with h|h;exact hG g h;exact Nat.lt_of_lt_of_le (hM g h) h0)).keep (hk.mono fun g hg=>List.mem_append_left _ hg)).less fun g hg=>List.mem_append_right _ hg
theorem O7b.at_{w1 w w':World}{v:Value}{l:List Int}{G:List Nat}(h:O7b w1 w v l)(hk:y0a G w w')(hG:∀g∈G,g<w1.heap.size):RdI [] w' v l:=((h G hG).keep hk).less (by simp)
theorem i7c{M:List Nat}{w:World}{op wd:Int}{a:E}{ca:List Value}{g:Nat}(h1:i64 op)(h2:i64 wd)(hg:g∉M)(hc:Cells w g 0 ca)(ha:RdE M w a ca):
 RdE M w ⟨op,wd,0,[a]⟩ [.int .i64 op,.int .i64 wd,.int .i64 0,.slice (some ⟨g,0,none⟩) 1 1]:=by
 rw[RdE];refine⟨_,1,1,Z,h1,h2,by unfold i64;simp,Z,Nat.le_refl _,by unfold maxLen;omega,by omega,fun _=>⟨g,0,Z,hg,fun i hi=>?_⟩⟩;have a0:i<1:=hi;obtain rfl:i=0:=by omega
 exact⟨ca,by simpa using hc,ha⟩
theorem a1c{M M':List Nat}{w w':World}{op wd n:Int}{cs:List Value}(h:RdE M w ⟨op,wd,n,[]⟩ cs):RdE M' w' ⟨op,wd,n,[]⟩ cs:=by
 rw[RdE] at h ⊢;obtain⟨A,k,c,h1,h2,h3,h4,h5,h6,h7,h8,_⟩:=h;exact⟨A,k,c,h1,h2,h3,h4,h5,h6,h7,h8,fun hk=>absurd hk (by simp at h5;omega)⟩
def RdL(M:List Nat)(w:World)(v:Value)(l:List E):Prop:=RdE M w ⟨0,0,0,l⟩ [.int .i64 0,.int .i64 0,.int .i64 0,v]
theorem RdL.open_{M:List Nat}{w:World}{v:Value}{l:List E}(h:RdL M w v l):∃A n c,v=.slice A n c∧n=l.length∧n≤c∧c≤maxLen∧n≤140737488355328 ∧
 (0<n→∃b o,A=some ⟨b,o,none⟩∧b∉M∧∀(i:Nat) (h:i<l.length),∃a0,Cells w b (o+i*4) a0∧RdE M w l[i] a0):=by
 obtain⟨A,n,c,h1,-,-,-,h2,h3,h4,h5,h6⟩:=RdE.open_ h;cases h1;exact⟨A,n,c,Z,h2,h3,h4,h5,h6⟩
theorem RdL.at{M:List Nat}{w:World}{A:Option Addr}{n c:Nat}{l:List E}(h:RdL M w (.slice A n c) l):n=l.length∧n≤c∧c≤maxLen∧n≤140737488355328 ∧
 (0<n→∃b o,A=some ⟨b,o,none⟩∧b∉M∧∀(i:Nat) (h:i<l.length),∃a0,Cells w b (o+i*4) a0∧RdE M w l[i] a0):=by
 obtain⟨A,n,c,h1,h2⟩:=h.open_;cases h1;exact h2
theorem RdL.made{M:List Nat}{w:World}{A:Option Addr}{n c:Nat}{l:List E}(h2:n=l.length)(h3:n≤c)(h4:c≤maxLen)(h5:n≤140737488355328)
 (h6:0<n→∃b o,A=some ⟨b,o,none⟩∧b∉M∧∀(i:Nat) (h:i<l.length),∃a0,Cells w b (o+i*4) a0∧RdE M w l[i] a0):RdL M w (.slice A n c) l:=by
 unfold RdL;rw[RdE];exact⟨A,n,c,Z,by unfold i64;simp,by unfold i64;simp,by unfold i64;simp,h2,h3,h4,h5,h6⟩
theorem RdL.keep{M:List Nat}{w w':World}{v:Value}{l:List E}(h:RdL M w v l)(hk:y0a M w w'):RdL M w' v l:=RdE.keep hk _ _ h
theorem RdL.more{M M':List Nat}{w:World}{v:Value}{l:List E}(h:RdL M w v l)(hM:∀g∈M',g∈M∨w.heap.size≤g):RdL M' w v l:=RdE.more hM _ _ h
section
variable {P:Program} {r:Option Nat} {N:Nat} {D:List Deferred} {e:Env} {w w0:World} {ops:Array Oper} {rest:List Oper} {K:List Deferred→Env→World→Prop} {L:List Ent} {M:List Nat}
variable {d:Nat} {t:TypeId} {p:String} {af:Array Edge} {f:FuncId} {args:Array Operand} {at_:Array TypeId} {vs:List Value} {x:Operand}
theorem Q4c{α:Type}{l:List α}{k:Nat}{x:α}(h:l[k]?=some x):l.set k x=l:=by
 obtain⟨a0,he⟩:=List.getElem?_eq_some_iff.1 h;rw[←he];exact List.set_getElem_self a0
theorem g0b{α:Type}{R0:List Value→α→Prop}{size:Nat}(hL:M4a (fun(_:List Nat) (_:World)=>R0) size){M2 M3:List Nat}{ty el a0 k c m:Nat}{A2:Option Addr}{y:Operand}{z v:Value}{G:Option Nat}{cs:List Value}{l l2:List α}(S:St M w0 w L)(hS:SlZ P ty el size z a0)(hk:L[k]?=some (G,el,cs))(hR:y1a (fun _ _=>R0) size M2 w G cs v l)
 (hx:ev e x=v) (hy:ev e y=.slice A2 m c) (h2:RdS M3 w size R0 (.slice A2 m c) l2) (f0:l.length+l2.length≤1000000) (hd:Nat.ble (d+1) N=true)
 (h:∀v' G' c0 w1,St M w0 w1 (L.set k (G',el,c0))→y1a (fun _ _=>R0) size M2 w1 G' c0 v' (l++l2)→y0a G.toList w w1→(∀g∈G'.toList,g∈G.toList∨w.heap.size≤g)→WL P r N ops rest K D (upd e d v') w1) (e0:a0≤1000:=by decide) :
 WL P r N ops (⟨some d,.call { callee:=.builtin .append,args:=#[x,y],argTypes:=#[ty,ty] },t,p,af,none⟩::rest) K D e w:=by
 obtain⟨hm,-,-⟩:=h2.len;by_cases h0:l2=[]
 ·subst h0;obtain⟨A,c',rfl⟩:=hR.form;have g0:m=0:=by simpa using hm
  subst g0;have i0:l.length≤c':=by
   obtain⟨css,_,_,q3,_⟩:=hR;rcases q3.2 with⟨-,q5,q6⟩|⟨g,j0,-,q5,q6,-⟩
   ·simp only[Value.slice.injEq] at q5;omega
   ·simp only[Value.slice.injEq] at q5;omega
  refine j5b hS hx i0 hy hd ?_;have:=h (.slice A l.length c') G cs w (by rw[Q4c hk];exact S) (by rw[List.append_nil];exact hR) (y0a.refl _ _) (fun g hg=>.inl hg);exact this
 ·have b0:0<l2.length:=List.length_pos_iff.2 h0;obtain⟨b,o,hA⟩:∃b o,A2=some ⟨b,o,none⟩:=by
   obtain⟨_,_,_,_,h5⟩:=h2.at;obtain⟨b',o',d0,-⟩:=h5 (by omega);exact⟨b',o',d0⟩
  obtain⟨css,c1,c2,c3⟩:=RdS.all h2 hA b0;subst hA;exact N4b hL S hS e0 hk hR hx hy hm c1 c2 c3 f0 hd h
end
def Raw(size:Nat)(cs x:List Value):Prop:=cs=x∧x.length=size∧∀u∈x,u.oneCell'=true
theorem J1c(size:Nat):M4a (fun(_:List Nat) (_:World)=>Raw size) size where
 len h:=by rw[h.1];exact h.2.1
 one h u hu:=by rw[h.1] at hu;exact h.2.2 u hu
 keep _ h:=h
 more _ h:=h
abbrev M8b(size:Nat)(w0:World)(G:Option Nat)(cs:List Value)(v:Value)(css:List (List Value)):Prop:=y1a (fun _ _=>Raw size) size [] w0 G cs v css
section
variable {size:Nat}
theorem M7b{u:Value}:∀(css:List (List Value)) (i j:Nat) (c:List Value),(∀x∈css,x.length=size)→css[i]?=some c→j<size→css.flatten.set (i*size+j) u=(css.set i (c.set j u)).flatten
 | [],i,j,c,_,hi,_=>by simp at hi
 | x::css,0,j,c,hl,hi,hj=>by
   simp at hi;subst hi;have hx:=hl x (by simp);rw[List.flatten_cons,Nat.zero_mul,Nat.zero_add,List.set_append_left _ _ (by omega)];simp
 | x::css,i+1,j,c,hl,hi,hj=>by
   have hx:=hl x (by simp);have:=M7b (u:=u) css i j c (fun y hy=>hl y (by simp[hy])) (by simpa using hi) hj;rw[List.flatten_cons,List.set_append_right _ _ (by rw[Nat.add_mul];omega),List.set_cons_succ,List.flatten_cons,←this]
   congr 2
   rw[Nat.add_mul];omega
theorem f7a:∀(us:List Value) (css:List (List Value)) (i j:Nat) (c:List Value),(∀x∈css,x.length=size)→css[i]?=some c→j+us.length≤size→d0a css.flatten (i*size+j) us=(css.set i (d0a c j us)).flatten
 | [],css,i,j,c,_,hi,_=>by rw[d0a,d0a,B7b hi]
 | u::us,css,i,j,c,hl,hi,hj=>by
   have b0:=(List.getElem?_eq_some_iff.1 hi).1;have a0:=hl c (List.mem_of_getElem? hi);simp only[List.length_cons] at hj;rw[d0a,M7b css i j c hl hi (by omega),show i*size+j+1=i*size+(j+1) by omega];rw[f7a us (css.set i (c.set j u)) i (j+1) (c.set j u) (fun x hx=>by
    rcases List.mem_or_eq_of_mem_set hx with h|h
    ·exact hl x h
    ·rw[h,List.length_set];exact a0) (by rw[List.getElem?_set_self b0]) (by omega)]
   rw[List.set_set,d0a]
theorem X5a:∀(us cs:List Value) (o n:Nat),(d0a cs o us).take n=d0a (cs.take n) o us
 | [],_,_,_=>rfl
 | u::us,cs,o,n=>by rw[d0a,X5a us,d0a,List.take_set]
theorem R1b:∀(us cs:List Value) (o:Nat),(∀u∈cs,u.oneCell'=true)→(∀u∈us,u.oneCell'=true)→∀u∈d0a cs o us,u.oneCell'=true
 | [],_,_,h,_=>h
 | v::us,cs,o,h,h2=>by
   rw[d0a];refine R1b us _ _ (fun u hu=>?_) (fun u hu=>h2 u (by simp[hu]));rcases List.mem_or_eq_of_mem_set hu with hu|rfl
   ·exact h u hu
   ·exact h2 u (by simp)
theorem M8b.put{w0:World}{G:Option Nat}{cs us c:List Value}{v:Value}{css:List (List Value)}{i j o:Nat}(h:M8b size w0 G cs v css)(hi:css[i]?=some c)(ho:o=i*size+j)(hj:j+us.length≤size)(h1:∀u∈us,u.oneCell'=true):M8b size w0 G (d0a cs o us) v (css.set i (d0a c j us)):=by
 subst ho;obtain⟨xs,_,q2,⟨_,hr⟩,q4⟩:=h;have hx:xs=css:=by
  refine List.ext_getElem? fun k=>?_;cases hk:css[k]? with
  | none=>rw[List.getElem?_eq_none_iff] at hk ⊢;omega
  | some x=>obtain⟨y,h5,h6⟩:=q4 k x hk;rw[h5,h6.1]
 subst hx;have f0:=(List.getElem?_eq_some_iff.1 hi).1;have d0:∀u∈c,u.oneCell'=true:=by
  obtain⟨y,h5,h6⟩:=q4 i c hi;exact h6.2.2
 have c0:=q2 c (List.mem_of_getElem? hi);have e0:(d0a c j us).length=size:=by rw[a5a];exact c0
 have a0:∀x∈xs.set i (d0a c j us),x.length=size:=fun x hx=>by
  rcases List.mem_or_eq_of_mem_set hx with h|rfl
  ·exact q2 x h
  ·exact e0
 refine⟨xs.set i (d0a c j us),Z,a0,⟨?_,?_⟩,fun k x hk=>?_⟩
 ·rw[v3a _ a0]
 ·rcases hr with⟨rfl,rfl,h0⟩|⟨g,b0,rfl,rfl,r1,r2,r3,r4⟩
  ·omega
  ·refine .inr ⟨g,b0,Z,by rw[List.length_set],by rw[List.length_set];exact r1,r2,by rw[a5a];exact r3,?_⟩;rw[X5a,List.length_set,r4,f7a us xs i j c q2 hi hj]
 ·refine⟨x,hk,Z,?_,?_⟩
  ·exact a0 x (List.mem_of_getElem? hk)
  ·rcases List.mem_or_eq_of_mem_set (List.mem_of_getElem? hk) with h|rfl
   ·obtain⟨n,hn⟩:=List.getElem?_of_mem h;obtain⟨y,h5,h6⟩:=q4 n x hn;exact h6.2.2
   ·exact R1b us c j d0 h1
theorem M8b.len{w0:World}{G:Option Nat}{cs:List Value}{A:Option Addr}{n c:Nat}{css:List (List Value)}(h:M8b size w0 G cs (.slice A n c) css):n=css.length:=by
 obtain⟨_,_,he⟩:=h.form;simp only[Value.slice.injEq] at he;exact he.2.1
theorem M8b.at{w0:World}{G:Option Nat}{cs:List Value}{A:Option Addr}{n c:Nat}{css:List (List Value)}(h:M8b size w0 G cs (.slice A n c) css)(h0:0<n):∃g,G=some g∧A=some ⟨g,0,none⟩:=by
 have hn:=h.len;obtain⟨_,_,_,⟨_,hr⟩,_⟩:=h;rcases hr with⟨rfl,he,h5⟩|⟨g,a0,rfl,he,-⟩
 ·omega
 ·simp only[Value.slice.injEq] at he;exact⟨g,Z,he.1⟩
theorem M8b.cap{w0:World}{G:Option Nat}{cs:List Value}{v:Value}{css:List (List Value)}(h:M8b size w0 G cs v css):css.length*size≤cs.length∨css=[]:=by
 obtain⟨_,_,_,⟨_,hr⟩,_⟩:=h;rcases hr with⟨rfl,he,h5⟩|⟨g,a0,rfl,he,r1,r2,r3,r4⟩
 ·exact .inr (List.length_eq_zero_iff.1 h5)
 ·left;rw[r3];exact Nat.mul_le_mul_right _ r1
theorem M8b.rd{α:Type}{R:List Value→α→Prop}{M M':List Nat}{w0 w:World}{L:List Ent}{k el:Nat}{G:Option Nat}{cs:List Value}{v:Value}{css:List (List Value)}{l:List α}(h:M8b size w0 G cs v css)(S:St M' w0 w L)(hk:L[k]?=some (G,el,cs))(hM:∀g,G=some g→g∉M)(hl:l.length≤1000000)(b0:css.length=l.length)
 (he:∀(i:Nat) (x:α),l[i]?=some x→∃c,css[i]?=some c∧R c x):RdS M w size R v l:=by
 obtain⟨A,n,c,rfl,_,h2,h3,h4,h5⟩:=y1a.rd (M:=M) (J1c size) (w:=w) (show y1a (fun _ _=>Raw size) size M w G cs v css from h) S hk hM (by omega);refine⟨A,n,c,Z,by omega,h2,h3,h4,fun hp=>?_⟩;obtain⟨b,o,hA,hb,a0⟩:=h5 hp;refine⟨b,o,hA,hb,fun i x hi=>?_⟩;obtain⟨y,h6,h7⟩:=he i x hi;obtain⟨z,z1,z2,z3⟩:=a0 i y h6;exact⟨z,z1,z2,by rw[z3.1];exact h7⟩
theorem RdS.raw{α:Type}{R:List Value→α→Prop}{M:List Nat}{w:World}{v:Value}{l:List α}(h:RdS M w size R v l)(hR:∀cs x,R cs x→cs.length=size∧∀u∈cs,u.oneCell'=true):
 ∃css:List (List Value),css.length=l.length∧RdS M w size (Raw size) v css∧∀(i:Nat) (x:α),l[i]?=some x→∃c,css[i]?=some c∧R c x:=by
 obtain⟨A,n,c,rfl,h1,h2,h3,h4,h5⟩:=h;by_cases h0:l=[]
 ·subst h0;refine⟨[],Z,⟨A,n,c,Z,h1,h2,h3,h4,fun hp=>?_⟩,fun i x hi=>by simp at hi⟩;simp at h1;omega
 have b0:0<l.length:=List.length_pos_iff.2 h0;obtain⟨b,o,hA,hb,a0⟩:=h5 (by omega);have key:∀(l2:List α) (q:Nat),(∀i x,l2[i]?=some x→∃cs,cs.length=size∧Cells w b (o+(q+i)*size) cs∧R cs x)→∃css:List (List Value),css.length=l2.length∧∀(i:Nat) (x:α),l2[i]?=some x→∃c,css[i]?=some c∧Cells w b (o+(q+i)*size) c∧R c x:=by
  intro l2
  induction l2 with
  | nil=>intro q _;exact⟨[],Z,fun i x hi=>by simp at hi⟩
  | cons a l2 ih =>
    intro q hq;obtain⟨cs,_,k2,k3⟩:=hq 0 a Z;obtain⟨css,m1,m2⟩:=ih (q+1) (fun i x hi=>by
     obtain⟨cs,n1,n2,n3⟩:=hq (i+1) x (by simpa using hi);exact⟨cs,n1,by rw[show q+1+i=q+(i+1) by omega];exact n2,n3⟩)
    refine⟨cs::css,by simp[m1],fun i x hi=>?_⟩;cases i with
    | zero=>simp at hi;subst hi;exact⟨cs,Z,k2,k3⟩
    | succ i =>
      obtain⟨c,c1,c2,c3⟩:=m2 i x (by simpa using hi);exact⟨c,by simpa using c1,by rw[show q+(i+1)=q+1+i by omega];exact c2,c3⟩
 obtain⟨css,m1,m2⟩:=key l 0 (fun i x hi=>by simpa using a0 i x hi);refine⟨css,m1,⟨A,n,c,Z,by omega,h2,h3,h4,fun _=>⟨b,o,hA,hb,fun i x hi=>?_⟩⟩,fun i x hi=>?_⟩
 ·have c0:=(List.getElem?_eq_some_iff.1 hi).1;obtain⟨c',c1,c2,c3⟩:=m2 i (l[i]'(by omega)) (List.getElem?_eq_getElem _);rw[hi] at c1;cases c1;obtain⟨r1,r2⟩:=hR x _ c3;exact⟨x,r1,by simpa using c2,Z,r1,r2⟩
 ·obtain⟨c',c1,c2,c3⟩:=m2 i x hi;exact⟨c',c1,c3⟩
end
def RX(M:List Nat)(w:World)(cs:List Value)(e:E):Prop:=RdE M w e cs
theorem V3a:M4a RX 4 where
 len h:=RdE.length h
 one h u hu:=by
  obtain⟨_,_,_,rfl,-⟩:=RdE.open_ h;simp at hu;rcases hu with rfl|rfl|rfl|rfl<;>rfl
 keep hk h:=RdE.keep hk _ _ h
 more hm h:=RdE.more hm _ _ h
theorem s4b:∀(us a r:List Value),r.length=us.length→d0a (a++r) a.length us=a++us
 | [],a,[],_=>rfl
 | [],_,_::_,h=>by simp at h
 | _::_,_,[],h=>by simp at h
 | u::us,a,x::r,h=>by
   have:=s4b us (a++[u]) r (by simpa using h);rw[d0a,List.set_append_right _ _ (Nat.le_refl _),Nat.sub_self,List.set_cons_zero];simpa using this
theorem y1a.setM{α:Type}{R:List Nat→World→List Value→α→Prop}{size:Nat}{M:List Nat}{w:World}{G:Option Nat}{cs us:List Value}{v:Value}{l:List α}{i o:Nat}{x y:α}(hL:M4a R size)(h:y1a R size M w G cs v l)(hi:l[i]?=some x)(ho:o=i*size)(hy:R (G.toList++M) w us y):
 y1a R size M w G (d0a cs o us) v (l.set i y):=by
 obtain⟨css,q1,q2,q3,q4⟩:=h;have b0:=(List.getElem?_eq_some_iff.1 hi).1;have c0:M8b size w G cs v css:=⟨css,Z,q2,by rw[q1];exact q3,fun i x hi=>⟨x,hi,Z,q2 x (List.mem_of_getElem? hi),fun u hu=>by
  have d0:=(List.getElem?_eq_some_iff.1 hi).1;obtain⟨c,h5,h6⟩:=q4 i _ (List.getElem?_eq_getElem (by omega));obtain rfl:x=c:=Option.some.inj (hi.symm.trans h5);exact hL.one h6 u hu⟩⟩
 obtain⟨c,h4,h5⟩:=q4 i x hi;have f0:us.length=size:=hL.len hy;have e0:c.length=size:=hL.len h5;have hp:=c0.put h4 (us:=us) (j:=0) (o:=o) (by omega) (by omega) (hL.one hy);rw[show d0a c 0 us=us from s4b us [] c (by omega)] at hp;obtain⟨xs,r1,r2,r3,r4⟩:=hp;refine⟨xs,by simp[r1,q1],r2,by simpa[q1] using r3,fun k z hz=>?_⟩;have d0:=(List.getElem?_eq_some_iff.1 h4).1;have a0:∀c',(css.set i us)[k]?=some c'→xs[k]?=some c':=fun c' hc=>by
  obtain⟨c2,h7,h8⟩:=r4 k c' hc;rw[h7,h8.1]
 by_cases hk:i=k
 ·subst hk;rw[List.getElem?_set_self b0] at hz;obtain rfl:=Option.some.inj hz;exact⟨us,a0 us (List.getElem?_set_self d0),hy⟩
 ·rw[List.getElem?_set_ne hk] at hz;obtain⟨c2,h7,h8⟩:=q4 k z hz;exact⟨c2,a0 c2 (by rw[List.getElem?_set_ne hk];exact h7),h8⟩
theorem y1a.own_{α:Type}{R:List Nat→World→List Value→α→Prop}{size:Nat}{M:List Nat}{w:World}{G:Option Nat}{cs:List Value}{A:Option Addr}{n c:Nat}{l:List α}(h:y1a R size M w G cs (.slice A n c) l)(h0:0<l.length):∃g,G=some g∧A=some ⟨g,0,none⟩∧l.length*size≤cs.length:=by
 obtain⟨_,_,_,⟨_,hr⟩,_⟩:=h;rcases hr with⟨rfl,he,h5⟩|⟨g,a0,rfl,he,r1,r2,r3,r4⟩
 ·omega
 ·simp only[Value.slice.injEq] at he;exact⟨g,Z,he.1,by rw[r3];exact Nat.mul_le_mul_right _ r1⟩
theorem y1a.mapR{α:Type}{R R2:List Nat→World→List Value→α→Prop}{size:Nat}{M M2:List Nat}{w w2:World}{G:Option Nat}{cs:List Value}{v:Value}{l:List α}(h:y1a R size M w G cs v l)(hm:∀c x,x∈l→R (G.toList++M) w c x→R2 (G.toList++M2) w2 c x):y1a R2 size M2 w2 G cs v l:=by
 obtain⟨css,q1,q2,q3,q4⟩:=h;refine⟨css,q1,q2,q3,fun i x hi=>?_⟩;obtain⟨c,h5,h6⟩:=q4 i x hi;exact⟨c,h5,hm c x (List.mem_of_getElem? hi) h6⟩
theorem RdL.rdS{M:List Nat}{w:World}{v:Value}{l:List E}(h:RdL M w v l):RdS M w 4 (RX M w) v l:=by
 obtain⟨A,n,c,rfl,h1,h2,h3,h4,h5⟩:=h.open_;refine⟨A,n,c,Z,h1,h2,h3,h4,fun h0=>?_⟩;obtain⟨b,o,hA,hb,hk⟩:=h5 h0;refine⟨b,o,hA,hb,fun i x hi=>?_⟩;have a0:=(List.getElem?_eq_some_iff.1 hi).1;obtain⟨c,h6,h7⟩:=hk i a0;rw[List.getElem?_eq_getElem a0] at hi;obtain rfl:=Option.some.inj hi;exact⟨c,h7.length,h6,h7⟩
theorem Y1d{M:List Nat}{w:World}{v:Value}{l:List E}(h:RdS M w 4 (RX M w) v l):RdL M w v l:=by
 obtain⟨_,_,c,rfl,h1,h2,h3,h4,h5⟩:=h;refine RdL.made h1 h2 h3 h4 fun h0=>?_;obtain⟨b,o,hA,hb,hk⟩:=h5 h0;refine⟨b,o,hA,hb,fun i hi=>?_⟩;obtain⟨c,-,h6,h7⟩:=hk i _ (List.getElem?_eq_getElem hi);exact⟨c,h6,h7⟩
def zE:E:=⟨0,0,0,[]⟩
def jnE(op:Int)(a b:E):E:=⟨op,1,0,[a,b]⟩
def C4a(op unit:Int):List E→E
 | []=>⟨1,1,unit,[]⟩
 | e::es=>es.foldl (jnE op) e
def b5a(e:E):Bool:=decide (e.w=1)&&e.wf
def T3a(l:List E):List E:=l.filter fun e=>decide (e.op≠1)
def isC(e:E)(n:Int):Bool:=decide (e.op=1∧e.n=n)
def d3a(op unit:Int)(l:List E):E :=
 if l.all b5a then(if l.any (fun e=>isC e (1-unit)) then⟨1,1,1-unit,[]⟩ else if(C4a op unit (T3a l)).wf then C4a op unit (T3a l) else zE) else zE
theorem T9b(op unit:Int)(l:List E)(e:E):C4a op unit (l++[e])=if l=[] then e else jnE op (C4a op unit l) e:=by
 cases l with
 | nil=>simp[C4a]
 | cons x xs=>simp[C4a,List.foldl_append]
theorem F8b(op:Int):∀(es:List E) (acc:E) (d:Int),(es.foldl (jnE op) acc).good d=true→acc.good (d-es.length)=true
 | [],acc,d,h=>by simpa using h
 | e::es,acc,d,h=>by
   have h1:=F8b op es (jnE op acc e) d h;obtain⟨_,h2⟩:=b1a h1;have:=h2 acc (by simp[jnE]);rw[show d-((e::es).length:Nat)=d-(es.length:Nat)-1 by simp;omega];exact this
theorem B1d{op unit:Int}{l:List E}(h:(C4a op unit l).wf=true):l.length≤40:=by
 cases l with
 | nil=>simp
 | cons e es =>
   have h1:=F8b op es e 40 (t5a h);rw[E.good_def] at h1;simp only[Bool.and_eq_true,decide_eq_true_eq] at h1;simp;omega
theorem d6c(op:Int):∀(es:List E) (acc:E),(es.foldl (jnE op) acc).cnt=acc.cnt+E.cnts es+es.length
 | [],acc=>by simp[E.cnts]
 | e::es,acc=>by
   rw[List.foldl_cons,d6c op es,E.cnt_def (jnE op acc e)];simp only[jnE,E.cnts,List.length_cons];omega
theorem W2c{op unit:Int}{l:List E}(h:l≠[]):(C4a op unit l).cnt=E.cnts l+(l.length-1):=by
 cases l with
 | nil=>exact absurd Z h
 | cons e es=>show(es.foldl (jnE op) e).cnt=_;rw[d6c];simp[E.cnts]
theorem X1b(l:List E)(e:E):T3a (l++[e])=if e.op=1 then T3a l else T3a l++[e]:=by
 unfold T3a;rw[List.filter_append];by_cases h:e.op=1<;>simp[h]
theorem N7b{e:E}(h:b5a e=true)(ho:e.op=1):e.n=0∨e.n=1:=by
 unfold b5a at h;simp only[Bool.and_eq_true,decide_eq_true_eq] at h;have hs:=(C9a ho).1 (b1a (t5a h.2)).1;have hp:m2a e.w.toNat=2:=by rw[h.1];decide
 omega
theorem A2b(op unit:Int)(l:List E)(k:Nat)(hk:k<l.length):C4a op unit (l.take (k+1))=if k=0 then l[k] else jnE op (C4a op unit (l.take k)) l[k]:=by
 rw[List.take_add_one,List.getElem?_eq_getElem hk,Option.toList_some,T9b];by_cases h:k=0
 ·subst h;simp
 ·rw[if_neg h,if_neg];intro hh;have:=congrArg List.length hh;rw[List.length_take,List.length_nil] at this;omega
section
variable {x y:Nat}
theorem y6b{n:Nat}(h:n<2 ^ 62):(BitVec.ofInt 64 (n:Int)).toNat=n:=by
 rw[BitVec.ofInt_natCast,BitVec.toNat_ofNat,Nat.mod_eq_of_lt (by omega)]
theorem s4c(hx:x<2 ^ 62)(hy:y<2 ^ 62):f1b x y=((x &&& y:Nat):Int):=by
 have hb:f1b x y=IntKind.i64.wrap ((BitVec.ofInt 64 (x:Int) &&& BitVec.ofInt 64 (y:Int)).toNat:Int):=Z;rw[hb,BitVec.toNat_and,y6b hx,y6b hy];have:=Nat.and_lt_two_pow x hy;exact q6a _
theorem Z9c(hx:x<2 ^ 62)(hy:y<2 ^ 62):bor x y=((x ||| y:Nat):Int):=by
 have hb:bor x y=IntKind.i64.wrap ((BitVec.ofInt 64 (x:Int) ||| BitVec.ofInt 64 (y:Int)).toNat:Int):=Z;rw[hb,BitVec.toNat_or,y6b hx,y6b hy];have:=Nat.or_lt_two_pow hx hy;exact q6a _
theorem f5c(hx:x<2 ^ 62)(hy:y<2 ^ 62):T7b x y=((x ^^^ y:Nat):Int):=by
 have hb:T7b x y=IntKind.i64.wrap ((BitVec.ofInt 64 (x:Int) ^^^ BitVec.ofInt 64 (y:Int)).toNat:Int):=Z;rw[hb,BitVec.toNat_xor,y6b hx,y6b hy];have:=Nat.xor_lt_two_pow hx hy;exact q6a _
theorem u8b(hx:x<2 ^ 62:=by omega):T7b (-1) x=-1-(x:Int):=by
 have hb:T7b (-1) x=IntKind.i64.wrap ((BitVec.ofInt 64 (-1) ^^^ BitVec.ofInt 64 (x:Int)).toNat:Int):=Z;have h1:BitVec.ofInt 64 (-1)=BitVec.allOnes 64:=by decide
 have h2:(BitVec.allOnes 64 ^^^ BitVec.ofInt 64 (x:Int)).toNat=2 ^ 64-1-x:=by
  rw[BitVec.allOnes_xor,BitVec.toNat_not,y6b hx]
 rw[hb,h1,h2];have h3:(((2 ^ 64-1-x:Nat)):Int)=18446744073709551615-(x:Int):=by omega
 rw[h3];unfold IntKind.wrap;have hm:((18446744073709551615:Int)-x) % (2 ^ IntKind.i64.bits:Int)=18446744073709551615-x:=Int.emod_eq_of_lt (by omega) (by simp[IntKind.bits];omega);simp only[hm];rw[if_pos]
 ·simp[IntKind.bits];omega
 ·simp[IntKind.bits,IntKind.signed];omega
end
def T1b(s:ByteArray):Bool:=decide (1≤s.size)&&decide (s.size≤64)&&s.data.toList.all fun b=>decide (33≤b.toNat)&&decide (b.toNat≤126)
theorem L7a{s:ByteArray}(h:T1b s=true):O6a s:=by
 simp only[T1b,Bool.and_eq_true,decide_eq_true_eq,List.all_eq_true] at h;refine⟨h.1.1,h.1.2,fun i hi=>?_⟩;exact h.2 s[i] (by rw[ByteArray.getElem_eq_getElem_data];simp)
def inB(i:Int)(n:Nat):Bool:=decide (0≤i)&&decide (i<n)
theorem F8a{i:Int}{n:Nat}(h:inB i n=true):K1a i n:=by simpa[inB,K1a] using h
def E4b(cells:List I1a)(e:E)(sh:Bool)(t:Int):Bool:=(e.sup 3++e.sup 2).all fun x=>(decide (q1a cells x≠-1)||sh)&&(decide (q1a cells x<0)||decide (q1a cells x=t))
theorem o7a{cells:List I1a}{e:E}{sh:Bool}{t:Int}(h:E4b cells e sh t=true):h4a cells e sh t:=fun x hx=>by
 have:=List.all_eq_true.1 h x hx;simp only[Bool.and_eq_true,Bool.or_eq_true,decide_eq_true_eq] at this;exact⟨fun e=>this.1.resolve_left (fun h=>h e),fun e=>this.2.resolve_left (by omega)⟩
def a2b(cells:List I1a)(e:E)(pair:Bool)(t:Int):Bool:=e.valid cells pair&&decide (e.w=1)&&E4b cells e true t
theorem M7a{cells:List I1a}{e:E}{a0:Bool}{t:Int}(h:a2b cells e a0 t=true):Y4a cells e a0 t:=by
 simp only[a2b,Bool.and_eq_true,decide_eq_true_eq] at h;exact⟨h.1.1,h.1.2,o7a h.2⟩
def C0b:List Int→Bool
 | []=>true
 | x::l=>(l.all fun y=>decide (x<y))&&C0b l
theorem h8a:∀{l:List Int},C0b l=true→A5a l
 | [],_=>List.Pairwise.nil
 | x::l,h=>by
   simp only[C0b,Bool.and_eq_true,List.all_eq_true,decide_eq_true_eq] at h;exact List.Pairwise.cons h.1 (h8a h.2)
def pwB{α:Type}(r:α→α→Bool):List α→Bool
 | []=>true
 | x::l=>l.all (r x)&&pwB r l
theorem y2b{α:Type}{r:α→α→Bool}{R:α→α→Prop}(hr:∀a b,r a b=true→R a b):∀{l:List α},pwB r l=true→l.Pairwise R
 | [],_=>List.Pairwise.nil
 | x::l,h=>by
   simp only[pwB,Bool.and_eq_true,List.all_eq_true] at h;exact List.Pairwise.cons (fun y hy=>hr _ _ (h.1 y hy)) (y2b hr h.2)
def e7b(e:E):Bool:=decide (e.op=0)&&decide (e.w=0)&&decide (e.n=0)&&e.kids.isEmpty
theorem Q9b{e:E}(h:e7b e=true):e.absent:=by
 simp only[e7b,Bool.and_eq_true,decide_eq_true_eq,List.isEmpty_iff] at h;exact⟨h.1.1.1,h.1.1.2,h.1.2,h.2⟩
def b4d(e:E):Bool:=decide (e.op=1)&&decide (e.w=1)&&decide (e.n=1)&&e.kids.isEmpty
theorem M8c{e:E}(h:b4d e=true):e=⟨1,1,1,[]⟩:=by
 simp only[b4d,Bool.and_eq_true,decide_eq_true_eq,List.isEmpty_iff] at h;cases e;simp_all
def ifB(c:Prop)[Decidable c](b:Bool):Bool:=!decide c||b
theorem s7a{c:Prop}[Decidable c]{b:Bool}(h:ifB c b=true)(hc:c):b=true:=by simpa[ifB,hc] using h
def e7c(p:j0a)(t:Int)(s:Z0a):Bool :=
 E4b p.cells s.guard (decide (s.kind=4)) t &&
 ((List.range s.set.length).all fun i=>match s.set[i]? with|some a=>ifB (0<i∨s.kind≠2) (E4b p.cells a.to (decide (s.kind=4)) t)|none=>true) &&
 (s.set.all fun a=>decide (q1a p.cells a.cell=t∨q1a p.cells a.cell=-1)) &&
 ifB (s.kind=1) (s.set.all fun a=>decide (q1a p.cells a.cell=t)) &&
 ifB (s.kind=2) (match s.set with|[]=>false|a::l=>decide (q1a p.cells a.cell=t∧W7a p.cells a.cell=false∧a.to.op=2∧q1a p.cells a.to.n=-1∧W7a p.cells a.to.n=false)&&l.all fun b=>decide (q1a p.cells b.cell=t∧W7a p.cells b.cell=true)) &&
 ifB (s.kind=3) (match s.set with|[]=>false|a::l=>decide (q1a p.cells a.cell=-1∧W7a p.cells a.cell=false)&&l.all fun b=>decide (W7a p.cells b.cell=true)) &&
 ifB (5≤s.kind) (s.set.isEmpty&&b4d s.guard) &&
 ifB (6≤s.kind) (inB s.target p.threads.length&&decide (s.target≠t)) &&
 ifB (s.kind=6) (match p.threads[s.target.toNat]? with|some u=>u.asleep|none=>true)
theorem s5c{p:j0a}{t:Int}{s:Z0a}(h:e7c p t s=true):L8a p t s:=by
 simp only[e7c,Bool.and_eq_true] at h;obtain⟨⟨⟨⟨⟨⟨⟨⟨a1,a2⟩,a3⟩,a4⟩,a5⟩,a6⟩,a7⟩,a8⟩,a9⟩:=h;refine⟨o7a a1,fun i hi hc=>?_,fun a ha=>of_decide_eq_true (List.all_eq_true.1 a3 a ha),fun hk a ha=>of_decide_eq_true (List.all_eq_true.1 (s7a a4 hk) a ha),fun hk=>?_,fun hk=>?_,fun hk=>?_,fun hk=>?_,fun hk u hu=>?_⟩
 ·have:=List.all_eq_true.1 a2 i (List.mem_range.2 hi);rw[List.getElem?_eq_getElem hi] at this;exact o7a (s7a this hc)
 ·have:=s7a a5 hk
  split at this
  ·cases this
  ·rename_i a l hs;rw[Bool.and_eq_true] at this;obtain⟨b1,b2,b3,b4,b5⟩:=of_decide_eq_true this.1;exact⟨a,l,hs,b1,b2,b3,b4,b5,fun b hb=>of_decide_eq_true (List.all_eq_true.1 this.2 b hb)⟩
 ·have:=s7a a6 hk
  split at this
  ·cases this
  ·rename_i a l hs;rw[Bool.and_eq_true] at this;obtain⟨b1,b2⟩:=of_decide_eq_true this.1;exact⟨a,l,hs,b1,b2,fun b hb=>of_decide_eq_true (List.all_eq_true.1 this.2 b hb)⟩
 ·have:=s7a a7 hk;rw[Bool.and_eq_true,List.isEmpty_iff] at this;exact⟨this.1,M8c this.2⟩
 ·have:=s7a a8 hk;rw[Bool.and_eq_true] at this;exact⟨F8a this.1,of_decide_eq_true this.2⟩
 ·have:=s7a a9 hk;rw[hu] at this;exact this
def stepB(p:j0a)(t:Int)(points:Int)(s:Z0a):Bool :=
 decide (1≤s.kind∧s.kind≤7)&&decide (0≤s.frm∧s.frm<points-1)&&decide (0≤s.to∧s.to<points)&&inB s.module_ p.modules.length&&ifB (s.release=true) (decide (s.kind=3)) &&
 ifB (s.target≠0) (decide (s.kind=6∨s.kind=7))&&(s.guard.valid p.cells false&&decide (s.guard.w=1)) &&
 (s.set.all fun a=>inB a.cell p.cells.length&&a.to.valid p.cells false&&decide (a.to.w=wAt p.cells a.cell))&&pwB (fun a b=>decide (a.cell≠b.cell)) s.set&&e7c p t s
theorem R4c{p:j0a}{t points:Int}{s:Z0a}(h:stepB p t points s=true):G4a p t points s:=by
 simp only[stepB,Bool.and_eq_true] at h;obtain⟨⟨⟨⟨⟨⟨⟨⟨⟨a1,a2⟩,a3⟩,a4⟩,a5⟩,a6⟩,a7,b0⟩,a8⟩,a9⟩,a0⟩:=h;refine⟨of_decide_eq_true a1,of_decide_eq_true a2,of_decide_eq_true a3,F8a a4,fun hr=>of_decide_eq_true (s7a a5 hr),fun hr=>of_decide_eq_true (s7a a6 hr),⟨a7,of_decide_eq_true b0⟩,fun a ha=>?_,y2b (fun a b h=>of_decide_eq_true h) a9,s5c a0⟩;have:=List.all_eq_true.1 a8 a ha;simp only[Bool.and_eq_true] at this;exact⟨F8a this.1.1,this.1.2,of_decide_eq_true this.2⟩
def G7c(p:j0a)(t points:Int)(l:I5b):Bool:=decide (0≤l.head∧l.head<points)&&C0b l.body&&(l.body.all fun x=>decide (0≤x∧x<points∧x≠l.head))&&(l.variant.valid p.cells false&&E4b p.cells l.variant true t)
theorem u4c{p:j0a}{t points:Int}{l:I5b}(h:G7c p t points l=true):K7b p t points l:=by
 simp only[G7c,Bool.and_eq_true] at h;obtain⟨⟨⟨a1,a2⟩,a3⟩,a4,a5⟩:=h;exact⟨of_decide_eq_true a1,h8a a2,fun x hx=>of_decide_eq_true (List.all_eq_true.1 a3 x hx),a4,o7a a5⟩
def m7b(p:j0a)(t:Nat)(x:s1a):Bool :=
 T1b x.name&&decide (1≤x.points∧x.points≤48)&&decide (x.steps.length≤64)&&decide (x.loops.length≤8)&&decide ((x.asserts.length:Int)=x.points)&&decide ((x.modules.length:Int)=x.points) &&
 (x.modules.all fun m=>inB m p.modules.length)&&(x.asserts.all fun e=>a2b p.cells e false t)&&(x.steps.all fun s=>stepB p t x.points s)&&(x.loops.all fun l=>G7c p t x.points l)
theorem c9b{p:j0a}{t:Nat}{x:s1a}(h:m7b p t x=true):D4a p t x:=by
 simp only[m7b,Bool.and_eq_true] at h;obtain⟨⟨⟨⟨⟨⟨⟨⟨⟨a1,a2⟩,a3⟩,a4⟩,a5⟩,a6⟩,a7⟩,a8⟩,a9⟩,a0⟩:=h;exact⟨L7a a1,of_decide_eq_true a2,of_decide_eq_true a3,of_decide_eq_true a4,of_decide_eq_true a5,of_decide_eq_true a6,fun m hm=>F8a (List.all_eq_true.1 a7 m hm),fun m hm=>M7a (List.all_eq_true.1 a8 m hm),
  fun m hm=>R4c (List.all_eq_true.1 a9 m hm),fun m hm=>u4c (List.all_eq_true.1 a0 m hm)⟩
def n9c(p:j0a)(c:I1a):Bool:=T1b c.name&&decide (1≤c.w∧c.w≤8)&&decide (0≤c.init∧c.init<m2a c.w.toNat)&&decide (-1≤c.thread∧c.thread<p.threads.length)&&inB c.module_ p.modules.length
theorem G3c{p:j0a}{c:I1a}(h:n9c p c=true):n2b p c:=by
 simp only[n9c,Bool.and_eq_true] at h;obtain⟨⟨⟨⟨a1,a2⟩,a3⟩,a4⟩,a5⟩:=h;exact⟨L7a a1,of_decide_eq_true a2,of_decide_eq_true a3,of_decide_eq_true a4,F8a a5⟩
def t3d(p:j0a)(m:P0a):Bool:=T1b m.name&&T1b m.owner&&(e7b m.rely||a2b p.cells m.rely true (-1))&&a2b p.cells m.guar true (-1)&&(m.frame.all fun x=>inB x p.cells.length&&decide (q1a p.cells x=-1))&&C0b m.frame
theorem Y7c{p:j0a}{m:P0a}(h:t3d p m=true):q3c p m:=by
 simp only[t3d,Bool.and_eq_true,Bool.or_eq_true] at h;obtain⟨⟨⟨⟨⟨a1,a2⟩,a3⟩,a4⟩,a5⟩,a6⟩:=h;refine⟨L7a a1,L7a a2,a3.imp Q9b M7a,M7a a4,fun x hx=>?_,h8a a6⟩;have:=List.all_eq_true.1 a5 x hx;rw[Bool.and_eq_true] at this;exact⟨F8a this.1,of_decide_eq_true this.2⟩
def S6c(p:j0a)(l:e5b):Bool:=inB l.cell p.cells.length&&decide (q1a p.cells l.cell=-1∧wAt p.cells l.cell=1∧W7a p.cells l.cell=false)&&inB l.module_ p.modules.length&&a2b p.cells l.inv false (-1)
theorem U3c{p:j0a}{l:e5b}(h:S6c p l=true):k5b p l:=by
 simp only[S6c,Bool.and_eq_true] at h;obtain⟨⟨⟨a1,a2⟩,a3⟩,a4⟩:=h;exact⟨⟨F8a a1,of_decide_eq_true a2⟩,F8a a3,M7a a4⟩
def W1d(p:j0a):Bool :=
 decide (p.cells.length≤32)&&decide (p.modules.length≤6)&&decide (p.locks.length≤4)&&decide (p.threads.length≤4) &&
 p.cells.all (n9c p)&&pwB (fun a b=>decide (a.name≠b.name)) p.cells&&p.modules.all (t3d p)&&pwB (fun a b=>decide (a.name≠b.name)) p.modules&&p.locks.all (S6c p)&&pwB (fun a b=>decide (a.cell≠b.cell)) p.locks &&
 ((List.range p.threads.length).all fun t=>match p.threads[t]? with|some x=>m7b p t x|none=>true)&&pwB (fun a b=>decide (a.name≠b.name)) p.threads
theorem p4c{p:j0a}(h:W1d p=true):p1a p:=by
 simp only[W1d,Bool.and_eq_true] at h;obtain⟨⟨⟨⟨⟨⟨⟨⟨⟨⟨⟨a1,a2⟩,a3⟩,a4⟩,a5⟩,a6⟩,a7⟩,a8⟩,a9⟩,a0⟩,b0⟩,c0⟩:=h;refine⟨of_decide_eq_true a1,of_decide_eq_true a2,of_decide_eq_true a3,of_decide_eq_true a4,fun c hc=>G3c (List.all_eq_true.1 a5 c hc),y2b (fun _ _ h=>of_decide_eq_true h) a6,fun c hc=>Y7c (List.all_eq_true.1 a7 c hc),
  y2b (fun _ _ h=>of_decide_eq_true h) a8,fun c hc=>U3c (List.all_eq_true.1 a9 c hc),y2b (fun _ _ h=>of_decide_eq_true h) a0,fun t ht=>?_,y2b (fun _ _ h=>of_decide_eq_true h) c0⟩
 have:=List.all_eq_true.1 b0 t (List.mem_range.2 ht);rw[List.getElem?_eq_getElem ht] at this;exact c9b this
section
variable {P:Program} {r:Option Nat} {N:Nat} {D:List Deferred} {e:Env} {w:World} {ops:Array Oper} {rest:List Oper} {K:List Deferred→Env→World→Prop}
variable {d:Nat} {t:TypeId} {p:String} {af:Array Edge} {x y:Operand} {xt yt:TypeId} {kd:IntKind} {a b:Int} {C:World→Prop} {Kq:Env→Prop}
theorem r4c(w:World)(h0:0≤a)(h1:0<b):(Op.intDiv .rem kd a b).run P w=.ok (.int kd (a % b)) w:=by
 have hb:b≠0:=by omega
 have ht:a.tmod b=a % b:=Int.tmod_eq_emod_of_nonneg h0;simp[Op.intDiv,hb,ht]
theorem Z3d(hx:ev e x=.int kd a)(hy:ev e y=.int kd b)(h0:0≤a)(h1:0<b)(hd:Nat.ble (d+1) N=true)(h:WL P r N ops rest K D (upd e d (.int kd (a % b))) w):
 WL P r N ops (⟨some d,.binOp .rem xt x y yt,t,p,af,none⟩::rest) K D e w :=
 X0a Z Z hd (by simp[execOp,hx,hy,eqGuard,binOp,r4c w h0 h1]) h
end
section
variable {α:Type} {M:List Nat} {w:World} {size:Nat} {R:List Value→α→Prop} {g:Nat}
theorem N2c{css:List (List Value)}{l:List α}{n:Nat}(hg:g∉M)(hc:Cells w g 0 css.flatten)(hn:n=l.length)(hl:css.length=l.length)(h4:∀x∈css,x.length=size)(hR:∀(i:Nat) (x:α),l[i]?=some x→∃c,css[i]?=some c∧R c x)(a0:l.length≤1000000:=by simp):RdS M w size R (.slice (some ⟨g,0,none⟩) n n) l:=by
 subst hn;refine⟨_,_,_,Z,Z,Nat.le_refl _,by unfold maxLen;omega,by omega,fun _=>⟨g,0,Z,hg,fun i x hi=>?_⟩⟩;obtain⟨c,h5,h6⟩:=hR i x hi;exact⟨c,h4 c (List.mem_of_getElem? h5),fun j u hj=>by simpa using hc _ u (o9b css i c h4 h5 j u hj),h6⟩
theorem r5c{c:List Value}{x:α}(hc:Cells w g 0 c)(h4:c.length=size)(hr:R c x)(hg:g∉M:=by simp):RdS M w size R (.slice (some ⟨g,0,none⟩) 1 1) [x] :=
 N2c (css:=[c]) hg (by simpa using hc) Z Z (by simpa using h4) (fun i y hi=>by
  match i,hi with
  | 0,hi=>cases hi;exact⟨c,Z,hr⟩)
theorem o3c{c c2:List Value}{x x2:α}(hc:Cells w g 0 (c++c2))(h4:c.length=size)(h5:c2.length=size)(hr:R c x)(a0:R c2 x2)(hg:g∉M:=by simp):RdS M w size R (.slice (some ⟨g,0,none⟩) 2 2) [x,x2] :=
 N2c (css:=[c,c2]) hg (by simpa using hc) Z Z (by simpa using⟨h4,h5⟩) (fun i y hi=>by
  match i,hi with
  | 0,hi=>cases hi;exact⟨c,Z,hr⟩
  | 1,hi=>cases hi;exact⟨c2,Z,a0⟩)
end
theorem h7a{P:Program}{f:FuncId}{args:Array Value}{w:World}{b:Bool}(h:O0a P f args w fun v w'=>v=.bool b∧Below w.heap.size w w')(hb:b=true):O0a P f args w fun v w'=>v=.bool true∧Below w.heap.size w w':=by
 subst hb;exact h
theorem H7a:∀(vs a r:List Value),vs.length≤r.length→d0a (a++r) a.length vs=a++vs++r.drop vs.length:=by
 intro vs
 induction vs with
 | nil=>intro a r _;simp[d0a]
 | cons v vs ih =>
   intro a r h;cases r with
   | nil=>simp at h
   | cons x r =>
     have h1:(a++x::r).set a.length v=(a++[v])++r:=by simp
     have:=ih (a++[v]) r (by simpa using h);simp only[d0a,h1];rw[show a.length+1=(a++[v]).length by simp,this];simp
section
variable {P:Program} {r:Option Nat} {N:Nat} {D:List Deferred} {e:Env} {w w0:World} {ops:Array Oper} {rest:List Oper} {K:List Deferred→Env→World→Prop} {L:List Ent} {M:List Nat}
variable {d:Nat} {t:TypeId} {p:String} {af:Array Edge} {x y:Operand}
theorem p6b{ty el a0 n:Nat}{z:Value}{kl kc:IntKind}(S:St M w0 w L)(hS:SlZ P ty el 4 z a0)(hx:ev e x=.int kl (n:Int))(hy:ev e y=.int kc (n:Int))(hd:Nat.ble (d+1) N=true)
 (h:∀g w1 cs,cs.length=n*4→St M w0 w1 ((some g,el,cs)::L)→y0a [] w w1→w.heap.size≤g→WL P r N ops rest K D (upd e d (.slice (some ⟨g,0,none⟩) n n)) w1) (hb:a0*n≤140737488355328:=by omega) (hc:n≤140737488355328:=by omega) :
 WL P r N ops (⟨some d,.makeSlice ty x y,t,p,af,none⟩::rest) K D e w:=by
 obtain⟨i,hi,hz,d0,c0⟩:=hS.parts;have b0:(i.bytes:Int)*(n:Int)≤281474976710656:=by
  have:((a0*n:Nat):Int)≤281474976710656:=by omega
  rw[c0];rwa [Int.natCast_mul] at this
 have hr:=run_make (P:=P) w ty el i z hS.und hi hz kl kc n n (by omega) (by omega) b0 (by omega);simp only[Int.toNat_natCast] at hr;have hm:madeCells z.cells (n*i.size)=(madeCells z.cells (n*i.size)).toList.toArray:=by simp
 rw[hm] at hr;refine X0a (v:=.slice (some ⟨w.heap.size,0,none⟩) n n) Z Z hd ?_ (h _ _ (madeCells z.cells (n*i.size)).toList (by rw[Array.length_toList,size_madeCells,d0]) (S.alloc el _) (W1a _ _ _) (Nat.le_refl _));simp only[execOp,hx,hy,Sem.run_bind,hr,Result.andThen_ok,Sem.run_pure]
end
theorem F2c{M:List Nat}{w:World}{op wd n:Int}{ks:List E}{g:Nat}{css:List (List Value)}{rest:List Value}(h1:i64 op)(h2:i64 wd)(h3:i64 n)(hg:g∉M)(hc:Cells w g 0 (css.flatten++rest))(hl:css.length=ks.length)(h4:∀x∈css,x.length=4)
 (hk:∀(i:Nat) (h:i<ks.length),∃c,css[i]?=some c∧RdE M w ks[i] c) (hb:ks.length≤1000):RdE M w ⟨op,wd,n,ks⟩ [.int .i64 op,.int .i64 wd,.int .i64 n,.slice (some ⟨g,0,none⟩) ks.length ks.length]:=by
 rw[RdE];refine⟨_,_,_,Z,h1,h2,h3,Z,Nat.le_refl _,by unfold maxLen;omega,by show ks.length≤_;omega,fun _=>⟨g,0,Z,hg,fun i hi=>?_⟩⟩;obtain⟨c,q1,q2⟩:=hk i hi;refine⟨c,fun j v hj=>?_,q2⟩;have hf:=o9b css i c h4 q1 j v hj;have a0:i*4+j<css.flatten.length:=(List.getElem?_eq_some_iff.1 hf).1;have:=hc (i*4+j) v (by rw[List.getElem?_append_left a0];exact hf);rw[←Nat.add_assoc] at this;exact this
theorem R1a(n wd:Int)(hn:i64 n)(hw:i64 wd)(M:List Nat)(w0:World):
 O0a prog 151 #[.int .i64 n,.int .i64 wd] w0 fun v w'=>(∃cs:List Value,v=.agg cs.toArray∧RdE M w' ⟨1,wd,n,[]⟩ cs)∧Bw w0 w':=by
 have S:=St.refl w0;refine a0a func151 Z ntmps151 Z ?_;refine wO0 Z U (h0a S w1a Z Z ?_);intro g4 w4 S4 X4 G4;refine lO0 Z U (j1a I2a (vs:=[(0,.int .i64 _),(1,.int .i64 _),(2,.int .i64 _)]) (cs:=[_,_,_,_]) Z Z Z Z ?_)
 first|refine b0a (kk:=0) (vs:=[_,_,_,_]) S4 w0a Z Z Z Z Z Z Z ?_
 intro c0 a0 b0;dsimp only[d0a,List.set] at a0;refine lR0 Z U ?_;exact g0a Z m0a Z (a0.cells 0 Z) Z ⟨⟨_,Z,L1a (by unfold i64;omega) hw hn⟩,a0.fin⟩
theorem v0a(e:E)(n:Int)(M:List Nat)(w0:World)(cs:List Value)(hR:RdE M w0 e cs):
 O0a prog 150 #[.agg cs.toArray,.int .i64 n] w0 fun v w'=>v=.bool (decide (e.op=1∧e.n=n))∧Bw w0 w':=by
 obtain⟨_,k,_,rfl,-⟩:=hR.open_;have S:=St.refl w0;refine a0a func150 Z ntmps150 Z ?_;refine wO0 Z U (r0a S Z ?_);intro g2 w2 S2 X2 G2;refine lB S2.k [.o 0] Z ⟨Z,U⟩ (fun h7=>?_) fun h7=>?_
 ·refine lB S2.k [.o 0] Z ⟨Z,U⟩ (fun a0=>?_) fun a0=>?_
  ·refine lT Z U Z ⟨congrArg Value.bool ?_,S2.fin⟩;exact(decide_eq_true ⟨h7,a0⟩).symm
  refine lT Z U Z ⟨congrArg Value.bool ?_,S2.fin⟩;exact(decide_eq_false (fun h=>a0 h.2)).symm
 refine lT Z U Z ⟨congrArg Value.bool ?_,S2.fin⟩;exact(decide_eq_false (fun h=>h7 h.1)).symm
theorem X3b(e:E)(M:List Nat)(w0:World)(cs:List Value)(hR:RdE M w0 e cs)(hK:k2a M w0):
 O0a prog 149 #[.agg cs.toArray] w0 fun v w'=>v=.bool (decide (e.w=1)&&e.wf)∧Bw w0 w':=by
 obtain⟨_,k,_,rfl,-⟩:=hR.open_;have S:=St.refl w0;refine a0a func149 Z ntmps149 Z ?_;refine wO0 Z U (r0a S Z ?_);intro g1 w1 S1 X1 G1;refine lB S1.k [.o 0] Z ⟨Z,U⟩ (fun h5=>?_) fun h5=>?_
 ·refine lO S1.k [.w 0] Z ⟨⟨Z,by rfl⟩,U⟩ (f0a S1 I8a Z Z (p2a e M _ _ (RdE.keep (S1.keep0 M) _ _ hR) (hK.keep (S1.keep0 M))) (fun h8 w8 S8 X8=>?_) (fun h8 w8 S8 X8=>?_))
  ·refine lT Z U Z ⟨congrArg Value.bool ?_,S8.fin⟩;simp[h5,h8];done
  refine lT Z U Z ⟨congrArg Value.bool ?_,S8.fin⟩;simp[h5,h8];done
 refine lT Z U Z ⟨congrArg Value.bool ?_,S1.fin⟩;simp[h5];done
theorem s9b(e:E)(M:List Nat)(w0:World)(cs:List Value)(hR:RdE M w0 e cs)(hK:k2a M w0):
 O0a prog 153 #[.agg cs.toArray] w0 fun v w'=>(∃cs:List Value,v=.agg cs.toArray∧RdE M w' (if e.wf=true then e else⟨0,0,0,[]⟩) cs)∧Bw w0 w':=by
 obtain⟨_,k,_,rfl,-⟩:=hR.open_;have S:=St.refl w0;refine a0a func153 Z ntmps153 Z ?_;refine wO0 Z U (r0a S Z ?_);intro g1 w1 S1 X1 G1;refine h0a S1 w1a Z Z ?_;intro g2 w2 S2 X2 G2;refine lO S2.k [.w 1] Z ⟨⟨Z,by rfl⟩,U⟩ (f0a S2 I8a Z Z (p2a e M _ _ (RdE.keep (S2.keep0 M) _ _ hR) (hK.keep (S2.keep0 M))) (fun h4 w4 S4 X4=>?_) (fun h4 w4 S4 X4=>?_))
 ·refine lO S4.k [.w 1] Z ⟨⟨Z,by rfl⟩,U⟩ (b0a (kk:=0) (vs:=[_,_,_,_]) S4 w0a Z Z Z Z Z Z Z ?_);intro f0 a0 d0;dsimp only[d0a,List.set] at a0;refine lR0 Z U ?_;exact g0a Z m0a Z (a0.cells 0 Z) Z ⟨⟨_,Z,by rw[if_pos h4];exact RdE.keep (a0.keep0 M) _ _ hR⟩,a0.fin⟩
 refine lO0 Z U (j1a I2a (vs:=[]) (cs:=[_,_,_,_]) Z Z Z Z ?_);refine b0a (kk:=0) (vs:=[_,_,_,_]) S4 w0a Z Z Z Z Z Z Z ?_;intro e0 b0 c0;dsimp only[d0a,List.set] at b0;refine lR0 Z U ?_;exact g0a Z m0a Z (b0.cells 0 Z) Z ⟨⟨_,Z,by rw[if_neg (by simp[h4])];exact L1a (by unfold i64;omega) (by unfold i64;omega) (by unfold i64;omega)⟩,b0.fin⟩
theorem N8b(e:E)(M:List Nat)(w0:World)(b o:Nat)(hR:RdP M w0 e b o)(hk:e.kids.length=0:=by omega):
 O0a prog 156 #[.pointer (some ⟨b,o,none⟩)] w0 fun v w'=>(∃cs:List Value,v=.agg cs.toArray∧∀M',RdE M' w' e cs)∧Bw w0 w':=by
 obtain⟨_,o1,o2,o3,c0,c1,c2,-⟩:=hR.open_;have S:=St.refl w0;have he:e=⟨e.op,e.w,e.n,[]⟩:=by
  obtain⟨_,b,_⟩:=e;simp at hk;rw[hk]
 refine a0a func156 Z ntmps156 Z ?_;refine wO0 Z U (h0a S w1a Z Z ?_);intro g2 w2 S2 X2 G2;refine lC0 Z U (H0a c0a [0,1,2,3,4,5,6,7,8,9,10,11,12] [] [13] Z (Cl _ _ _ _) (Cl.start S2) ?_);refine qO0 Z U (k0a D0a Z (fun w1 hw=>by exact hw.1.old c0) Z ?_);refine qO0 Z U (k0a D0a Z (fun w1 hw=>by exact hw.1.old c1) Z ?_);refine qO0 Z U (k0a D0a Z (fun w1 hw=>by exact hw.1.old c2) Z ?_);refine m3a I2a (vs:=[(0,.int .i64 _),(1,.int .i64 _),(2,.int .i64 _)]) (cs:=[_,_,_,_]) Z Z Z Z ?_;refine qD Z U ?_;rintro f0 ⟨e0,_⟩
 first|refine b0a (kk:=0) (vs:=[_,_,_,_]) e0 w0a Z Z Z Z Z Z Z ?_
 intro d0 a0 b0;dsimp only[d0a,List.set] at a0;refine lR0 Z U ?_;exact g0a Z m0a Z (a0.cells 0 Z) Z ⟨⟨_,Z,fun M'=>by rw[he];exact L1a o1 o2 o3⟩,a0.fin⟩
theorem B6b:∀(e:E) (M:List Nat) (w0:World) (b o:Nat) (v0:Int),RdP M w0 e b o→e.good v0=true→(∀g∈M,g<w0.heap.size) →
 O0a prog 210 #[.pointer (some ⟨b,o,none⟩),.func (.func 156) #[] #[]] w0 fun v w'=>(∃cs:List Value,v=.agg cs.toArray∧RdE M w' e cs)∧Bw w0 w':=by
 intro e
 induction e using E.induct with
 | _ e ih =>
 intro M w0 b o v0 hR hg hM;obtain⟨_,o1,o2,o3,c0,c1,c2,_,n,c,c3,hn,_,hm,_,S0,_⟩:=hR.open_;obtain⟨V0,Q0⟩:=b1a hg;have a1:=(M1a V0).2.2.1;have O0:=h1a e.op;have h3:e.kids.length≤3:=by omega
 subst hn;have S:=St.refl w0;refine a0a func210 Z ntmps210 Z ?_;refine wO0 Z U (h0a S w1a Z Z ?_);intro g4 w4 S4 X4 G4;refine lO0 Z U (L0a r1a Z (by exact S4.old c3) Z ?_);refine lB0 Z U (fun J0=>?_) fun J0=>?_
 ·refine lO0 Z U (j9a S4 k1c Z Z Z (N8b e M _ b o (hR.keep (S4.keep0 M))) ?_);rintro d1 g1 ⟨_,rfl,D0⟩ E0 Y0;obtain⟨_,_,_,rfl,-⟩:=(D0 []).open_
  first|refine b0a (kk:=0) (vs:=[_,_,_,_]) E0 w0a Z Z Z Z Z Z Z ?_
  intro W0 f0 q0;dsimp only[d0a,List.set] at f0;exact lR0 Z U (g0a Z m0a Z (f0.cells 0 Z) Z ⟨⟨_,Z,RdE.more (fun g hg=>.inl (by simp[hg])) _ _ (RdE.keep (q0.mono (by simp)) _ _ (D0 (g4::M)))⟩,f0.fin⟩)
 refine lO0 Z U (L0a r1a Z (by exact S4.old c3) Z ?_);refine lO0 Z U (p6b (n:=e.kids.length) S4 R0a Z Z Z ?_);intro d0 i1 r0 C0 F0 Z0 X0;refine lC0 Z U (wL (fun μ D ε w=>D=[]∧∃k:Nat,∃css:List (List Value),∃rest:List Value,(k+μ=e.kids.length)∧(css.length=k)∧(∀x∈css,x.length=4)∧(rest.length=μ*4)∧(∀(i:Nat) (h:i<e.kids.length),i<k→∃c,css[i]?=some c∧RdE (d0::g4::M) w e.kids[i] c)∧St [] w0 w [(some d0,38,css.flatten++rest),(some g4,38,[.int .i64 0,.int .i64 0,.int .i64 0,.slice none 0 0])]∧ε 0=.pointer (some ⟨b,o,none⟩)∧ε 1=.func (.func 156) #[] #[]∧ε 4=.pointer (some ⟨g4,0,none⟩)∧ε 5=.slice (some ⟨d0,0,none⟩) e.kids.length e.kids.length∧ε 23=.int .i64 e.kids.length∧ε 24=.int .i64 k) (μ:=e.kids.length) ⟨Z,0,[],r0,by omega,Z,by simp,by omega,fun i h h0=>absurd h0 (by omega),F0,Z,Z,Z,Z,Z,Z⟩ ?_);rintro μ D ε w ⟨rfl,k,css,rest,_,hl,h4,T0,B0,S,e0,e1,e4,e5,z0,A0⟩;refine s0a 0 e0 (s0a 1 e1 (s0a 4 e4 (s0a 5 e5 (s0a 23 z0 (s0a 24 A0 ?_)))));clear e0 e1 e4 e5 z0 A0;have L0:∀g∈d0::g4::M,g∈M∨w0.heap.size≤g:=by
  intro g hg;simp at hg;rcases hg with rfl|rfl|hg
  ·right;simpa using S.new 0 Z
  ·right;simpa using S.new 1 Z
  ·exact .inl hg
 have N0:∀g∈d0::g4::M,g<w.heap.size:=by
  intro g hg;simp at hg;rcases hg with rfl|rfl|hg
  ·exact S.lt 0 Z
  ·exact S.lt 1 Z
  ·have:=hM g hg;have:=S.size;omega
 refine wB0 Z U (fun K0=>?_) fun K0=>?_
 ·refine lO0 Z U (L0a r1a Z (by exact S.old c3) Z ?_);refine lO0 Z U ?_;have u0:k<e.kids.length:=by omega
  obtain⟨bk,ok,_,s0,R0⟩:=S0 (by omega);refine M0a R0a.slT Z (by assumption) Z Z ?_;refine lO0 Z U (o0a S p2c Z Z (ih e.kids[k] (List.getElem_mem u0) (d0::g4::M) _ bk (ok+k*4) (v0-1) (((RdP.kid s0 R0 k u0).more L0).keep (S.keep0 _)) (Q0 _ (List.getElem_mem u0)) N0) ?_);rintro f1 j1 ⟨g0,rfl,x0⟩ y0 H0;have i0:=x0.length;obtain⟨_,_,_,n0,-⟩:=x0.open_;refine lO y0.k [.i] Z ⟨by omega,U⟩ ?_;refine b0a (kk:=0) (vs:=g0) y0 w0a Z Z (by simp) i0 (by rw[n0];rfl) Z (by rw[Nat.ble_eq,List.length_append,v3a css h4,hl,T0];simp;omega) ?_;intro o0 S7 b0;have P0:css.flatten.length=k*4:=by rw[v3a css h4,hl]
  have U0:d0a (css.flatten++rest) (0+(k:Int).toNat*4) g0=(css++[g0]).flatten++rest.drop 4:=by
   rw[show(0+(k:Int).toNat*4)=css.flatten.length by simp[P0],H7a g0 css.flatten rest (by omega),i0];simp
  have j0:St [] w0 o0 [(some d0,38,(css++[g0]).flatten++rest.drop 4),(some g4,38,[.int .i64 0,.int .i64 0,.int .i64 0,.slice none 0 0])]:=by rw[←U0];exact S7
  refine lP0 Z ⟨by omega,U⟩ ?_;refine⟨μ-1,by omega,Z,k+1,css++[g0],rest.drop 4,by omega,by simp[hl],fun x hx=>?_,by rw[List.length_drop];omega,fun i hi b1=>?_,?_,Z,Z,Z,Z,Z,Z⟩
  ·rcases List.mem_append.1 hx with hx|hx
   ·exact h4 x hx
   ·simp at hx;subst hx;exact i0
  ·by_cases t0:i<k
   ·obtain⟨q,q1,q2⟩:=B0 i hi t0;exact⟨q,by rw[List.getElem?_append_left (by omega)];exact q1,RdE.keep (b0.mono (by simp)) _ _ (RdE.keep H0.of_nil _ _ q2)⟩
   ·obtain rfl:i=k:=by omega
    exact⟨g0,by rw[List.getElem?_append_right (by omega),hl];simp,RdE.keep (b0.mono (by simp)) _ _ x0⟩
  ·exact j0
 refine lC0 Z U (H0a c0a [0,1,2,3,4,5,6,7,8,9,10,11,12,13] [] [14] Z (Cl _ _ _ _) (Cl.start S) ?_);refine qO0 Z U (k0a D0a Z (fun w1 hw=>by exact hw.1.old c0) Z ?_);refine qO0 Z U (k0a D0a Z (fun w1 hw=>by exact hw.1.old c1) Z ?_);refine qO0 Z U (k0a D0a Z (fun w1 hw=>by exact hw.1.old c2) Z ?_);refine qO0 Z U (m3a I2a (vs:=[(0,.int .i64 _),(1,.int .i64 _),(2,.int .i64 _),(3,.slice _ _ _)]) (cs:=[_,_,_,_]) Z Z Z Z ?_);refine qD Z U ?_;rintro m1 ⟨G0,I0⟩;refine b0a (kk:=1) (vs:=[_,_,_,_]) G0 w0a Z Z Z Z Z Z Z ?_;intro p0 a0 m0;dsimp only[d0a,List.set] at a0;refine lR0 Z U (g0a Z m0a Z (a0.cells 1 Z) Z ⟨⟨_,Z,?_⟩,a0.fin⟩);have he:(⟨e.op,e.w,e.n,e.kids⟩:E)=e:=by cases e;rfl
 suffices hq:RdE M p0 ⟨e.op,e.w,e.n,e.kids⟩ [.int .i64 e.op,.int .i64 e.w,.int .i64 e.n,.slice (some ⟨d0,0,none⟩) e.kids.length e.kids.length] by rw[he] at hq;exact hq
 refine F2c (css:=css) (rest:=rest) o1 o2 o3 (fun hm=>?_) (a0.cells 0 Z) (by omega) h4 (fun i hi=>?_) (by omega)
 ·have h1:=hM _ hm;have h2:=a0.new 0 Z;simp at h2;omega
 ·obtain⟨q,q1,q2⟩:=B0 i hi (by omega);exact⟨q,q1,RdE.more (fun g hg=>.inl (by simp[hg])) _ _ (RdE.keep (m0.mono (by simp)) _ _ (RdE.keep I0.of_nil _ _ q2))⟩
theorem B0c(e:E)(M:List Nat)(w0:World)(cs:List Value)(c0:Int)(hR:RdE M w0 e cs)(hg:e.good c0=true)(hM:∀g∈M,g<w0.heap.size):
 O0a prog 152 #[.agg cs.toArray] w0 fun v w'=>(∃cs:List Value,v=.agg cs.toArray∧RdE M w' e cs)∧Bw w0 w':=by
 obtain⟨_,_,_,rfl,-⟩:=hR.open_;have S:=St.refl w0;refine a0a func152 Z ntmps152 Z ?_;refine wO0 Z U (r0a S Z ?_);intro g1 w1 S1 X1 G1;refine h0a S1 w1a Z Z ?_;intro g2 w2 S2 X2 G2;refine lO0 Z U ?_;have d0:∀g∈g2::M,g∈M∨w0.heap.size≤g:=by
  intro g hg;rcases List.mem_cons.1 hg with rfl|hg
  ·right;simpa using S2.new 0 Z
  ·exact .inl hg
 have hP:RdP (g2::M) w2 e g1 0:=⟨fun hm=>by
  rcases List.mem_cons.1 hm with hm|hm
  ·exact absurd (P6a S2.apart (i:=1) (j:=0) Z Z Z (congrArg some hm.symm)) (by decide)
  ·have h1:=hM _ hm;have h2:=S2.new 1 Z;simp at h2;omega,_,S2.cells 1 Z,RdE.keep (S2.keep0 _) _ _ (RdE.more d0 _ _ hR)⟩
 refine o0a S2 p2c Z Z (B6b e (g2::M) _ g1 0 c0 hP hg (fun g hg=>by rcases List.mem_cons.1 hg with rfl|hg;exact S2.lt 0 Z;have:=hM g hg;have:=S2.size;omega)) ?_;rintro v3 w3 ⟨_,rfl,r3⟩ S3 X3;obtain⟨_,_,_,rfl,-⟩:=r3.open_;refine b0a (kk:=0) (vs:=[_,_,_,_]) S3 w0a Z Z Z Z Z Z Z ?_;intro e0 a0 b0;dsimp only[d0a,List.set] at a0;replace r3:=RdE.keep (b0.mono (by simp)) _ _ r3;exact lR0 Z U (g0a Z m0a Z (a0.cells 0 Z) Z ⟨⟨_,Z,RdE.more (fun g hg=>.inl (by simp[hg])) _ _ r3⟩,a0.nil.fin⟩)
def k4d(M:List Nat)(w0:World)(cs:List Value)(e:E):Prop:=RdE M w0 e cs
theorem o7c(M:List Nat)(w0:World):M4a (fun(_:List Nat) (_:World)=>k4d M w0) 4 where
 len h:=RdE.length h
 one h u hu:=by
  obtain⟨_,_,_,rfl,-⟩:=RdE.open_ h;simp at hu;rcases hu with rfl|rfl|rfl|rfl<;>rfl
 keep _ h:=h
 more _ h:=h
theorem z5b{op unit:Int}{l:List E}{e:E}(he:e∈l)(h:b5a e=false):d3a op unit l=zE:=by
 unfold d3a;rw[if_neg];intro hh;rw[List.all_eq_true.1 hh e he] at h;cases h
theorem B4b{op unit:Int}{l:List E}(h:∀e∈l,b5a e=true)(hd:l.any (fun e=>isC e (1-unit))=true):d3a op unit l=⟨1,1,1-unit,[]⟩:=by
 unfold d3a;rw[if_pos (List.all_eq_true.2 h),if_pos hd]
theorem v6a{op unit:Int}{l:List E}(h:∀e∈l,b5a e=true)(hd:l.any (fun e=>isC e (1-unit))=false):d3a op unit l=if(C4a op unit (T3a l)).wf then C4a op unit (T3a l) else zE:=by
 unfold d3a;rw[if_pos (List.all_eq_true.2 h),if_neg (by rw[hd];decide)]
theorem r9b{op unit:Int}{l:List E}(h:∀e∈l,b5a e=true)(hd:l.any (fun e=>isC e (1-unit))=false)(hk:40<(T3a l).length):d3a op unit l=zE:=by
 rw[v6a h hd,if_neg];intro hh;have:=B1d hh;omega
theorem P9b{op unit:Int}{l:List E}(hu:unit=0∨unit=1)(h:∀e∈l,b5a e=true)(hd:l.any (fun e=>isC e (1-unit))=false)(hk:T3a l=[]):d3a op unit l=⟨1,1,unit,[]⟩:=by
 rw[v6a h hd,hk];rcases hu with rfl|rfl
 ·rfl
 ·rfl
def p3a(l:List E)(k:Nat):List E:=(T3a (l.take k)).take 41
theorem g0c(l:List E)(k:Nat):(p3a l k).length≤41:=by unfold p3a;rw[List.length_take];omega
theorem r5b(l:List E):(p3a l l.length).length=min 41 (T3a l).length:=by unfold p3a;rw[List.length_take,List.take_length]
theorem U3b{l:List E}{k:Nat}{e:E}(h:l[k]?=some e)(hn:e.op=1∨41≤(p3a l k).length):p3a l (k+1)=p3a l k:=by
 unfold p3a at hn ⊢;rw[t0a h,X1b]
 split
 ·rfl
 ·rename_i ho;rw[List.length_take] at hn;rw[List.take_append_of_le_length (by omega)]
theorem O0c{l:List E}{k:Nat}{e:E}(h:l[k]?=some e)(ho:e.op≠1)(hn:(p3a l k).length≤40):p3a l (k+1)=p3a l k++[e]:=by
 unfold p3a at hn ⊢;rw[List.length_take] at hn;rw[t0a h,X1b,if_neg ho,List.take_of_length_le (l:=T3a (l.take k)) (by omega),List.take_of_length_le (by simp;omega)]
theorem i9a{α:Type}{l:List α}{k:Nat}{e:α}(f:α→Bool)(h:l[k]?=some e):(l.take (k+1)).any f=((l.take k).any f||f e):=by
 rw[t0a h];simp
theorem P4c(a b:E)(op:Int)(ho:i64 op)(ca cb:List Value)(g:Nat)(M:List Nat)(w0:World)(hM:∀g∈M,g<w0.heap.size)(ha:RdE M w0 a ca)(hb:RdE M w0 b cb)(hg:w0.cell? ⟨g,0,none⟩=some (.int .i64 op)):
 O0a prog 155 #[.agg ca.toArray,.agg cb.toArray,.pointer (some ⟨g,0,none⟩)] w0 fun v w'=>(∃cs:List Value,v=.agg cs.toArray∧RdE M w' (jnE op a b) cs)∧Bw w0 w':=by
 have S:=St.refl w0;obtain⟨_,_,_,rfl,-⟩:=ha.open_;obtain⟨_,_,_,rfl,-⟩:=hb.open_;refine a0a func155 Z ntmps155 Z ?_;refine wO0 Z U (r0a S Z ?_);intro g3 w3 S3 X3 G3;refine r0a S3 Z ?_;intro g4 w4 S4 X4 G4;refine h0a S4 w1a Z Z ?_;intro g5 w5 S5 X5 G5;refine lO0 Z U (L0a D0a Z (by exact S5.old hg) Z ?_);refine lO S5.k [.w 2,.w 1] Z ⟨⟨Z,by rfl⟩,⟨Z,by rfl⟩,U⟩ (C0a S5 R0a (vs:=[.agg _,.agg _]) (cs:=[_,_,_,_,_,_,_,_]) Z Z Z Z Z Z ?_);intro g9 w9 S9 X9 G9;refine j1a I2a (vs:=[(0,.int .i64 _),(1,.int .i64 _),(3,.slice _ _ _)]) (cs:=[_,_,_,_]) Z Z Z Z ?_;refine b0a (kk:=1) (vs:=[_,_,_,_]) S9 w0a Z Z Z Z Z Z Z ?_;intro c0 a0 b0;dsimp only[d0a,List.set] at a0;refine lR0 Z U ?_;refine g0a Z m0a Z (a0.cells 1 Z) Z ⟨⟨_,Z,T5b ho (by unfold i64;omega) (fun hm=>?_) (a0.cells 0 Z) (RdE.keep (a0.keep0 M) _ _ ha) (RdE.keep (a0.keep0 M) _ _ hb)⟩,a0.fin⟩;have h1:=hM _ hm;have h2:=a0.new 0 Z;simp at h2;omega
theorem Y3c(l:List E)(op unit:Int)(ho:i64 op)(y0:0<l.length)(S0:l.length≤1000)(M:List Nat)(w0:World)(vl:Value)(g:Nat)(hL:RdL M w0 vl l)(hM:∀g∈M,g<w0.heap.size)(hg:w0.cell? ⟨g,0,none⟩=some (.int .i64 op)):
 O0a prog 154 #[vl,.func (.func 155) #[] #[.pointer (some ⟨g,0,none⟩)]] w0 fun v w'=>(∃cs:List Value,v=.agg cs.toArray∧RdE M w' (C4a op unit l) cs)∧Bw w0 w':=by
 obtain⟨_,n,c,rfl,_,hc,_,_,I0⟩:=hL.open_;obtain⟨b,o,rfl,u0,x0⟩:=I0 (by omega);have S:=St.refl w0;refine a0a func154 Z ntmps154 Z ?_;refine wO0 Z U (h0a S w1a Z Z ?_);intro g4 w4 S4 X4 G4;refine lO0 Z U ?_;obtain⟨_,p0,j0⟩:=x0 0 y0;obtain⟨_,_,_,rfl,-⟩:=j0.open_;refine M0a R0a.slT Z (by rfl) Z Z ?_;refine L2a m0a Z (p0.keep (S4.keep0 M) u0) Z ?_;refine h0a S4 w1a Z Z ?_;intro g5 w5 S5 X5 G5;refine b0a (kk:=0) (vs:=[_,_,_,_]) S5 w0a Z Z Z Z Z Z Z ?_;intro N0 b0 D0;dsimp only[d0a,List.set] at b0;refine lO0 Z U (K6a (lo:=1) (hi:=n) R0a.slT Z (.inr Z) (.inl ⟨Z,Z⟩) hc hc Z ?_);obtain⟨m0,i0⟩:∃m0:Addr,(if c=1 then(⟨b,o,none⟩:Addr) else⟨b,o+1*4,none⟩)=m0:=⟨_,Z⟩;rw[i0];have G0:1<n→some m0=some (⟨b,o+4,none⟩:Addr):=fun h=>by rw[←i0,if_neg (by omega)]
 refine lC0 Z U ?_;refine wL (fun μ D ε w=>D=[]∧∃k:Nat,∃co:List Value,∃out:E,(k+1+μ=l.length)∧(out=C4a op unit (l.take (k+1)))∧(RdE (g4::g5::M) w out co)∧St [] w0 w [(some g5,38,co),(some g4,38,[.int .i64 0,.int .i64 0,.int .i64 0,.slice none 0 0])]∧ε 0=.slice (some ⟨b,o,none⟩) n c∧ε 1=.func (.func 155) #[] #[.pointer (some ⟨g,0,none⟩)]∧ε 4=.pointer (some ⟨g4,0,none⟩)∧ε 5=.pointer (some ⟨g5,0,none⟩)∧ε 12=.slice (some m0) (n-1) (c-1)∧ε 13=.int .i64 ((n-1:Nat):Int)∧ε 14=.int .i64 k) (μ:=l.length-1) ⟨Z,0,_,l[0],by omega,by rw[A2b op unit l 0 y0,if_pos rfl],RdE.keep (b0.keep0 _) _ _ (RdE.more (fun x hx=>by simp at hx;rcases hx with rfl|rfl|hx;right;simpa using b0.new 1 Z;right;simpa using b0.new 0 Z;exact .inl hx) _ _ j0),b0,Z,Z,Z,Z,Z,Z,Z⟩ ?_;rintro μ D ε w ⟨rfl,k,co,out,_,d0,ro,S,e0,e1,e4,e5,r0,s0,t0⟩;refine s0a 0 e0 (s0a 1 e1 (s0a 4 e4 (s0a 5 e5 (s0a 12 r0 (s0a 13 s0 (s0a 14 t0 ?_))))));clear e0 e1 e4 e5 r0 s0 t0;obtain⟨_,_,_,rfl,-⟩:=ro.open_;have H0:∀x∈g4::g5::M,x<w.heap.size:=by
  intro x hx;simp at hx;rcases hx with rfl|rfl|hx
  ·exact S.lt 1 Z
  ·exact S.lt 0 Z
  ·have:=hM x hx;have:=S.size;omega
 refine wB0 Z U (fun E0=>?_) fun E0=>?_
 ·refine lO0 Z U ?_;have z0:k+1<l.length:=by omega
  have F0:=G0 (by omega);obtain⟨_,v0,A0⟩:=x0 (k+1) z0;obtain⟨_,_,_,rfl,-⟩:=A0.open_;rw[show o+(k+1)*4=o+4+k*4 by omega] at v0;refine M0a R0a.slT Z (by assumption) Z Z ?_;refine L2a m0a Z (v0.keep (S.keep0 M) u0) Z ?_;refine h0a S w1a Z Z ?_;intro g7 w7 S7 X7 G7;have L0:=RdE.keep X7.of_nil _ _ (RdE.more (M':=g7::g4::g5::M) (fun x hx=>by rcases List.mem_cons.1 hx with rfl|hx;exact .inr G7;exact .inl hx) _ _ ro);have T0:=X7.size;refine b0a (kk:=0) (vs:=[_,_,_,_]) S7 w0a Z Z Z Z Z Z Z ?_;intro O0 a0 g0;dsimp only[d0a,List.set] at a0;refine lO a0.k [.w 1] Z ⟨⟨Z,by rfl⟩,U⟩ (L2a (hn:=Z) m0a Z (a0.cells 0 Z) Z ?_);have K0:=RdE.more (M':=g4::g5::M) (fun x hx=>.inl (List.mem_cons_of_mem _ hx)) _ _ (RdE.keep (g0.mono (by simp)) _ _ L0);refine j9a a0 r9c Z Z Z (P4c out l[k+1] op ho _ _ g (g4::g5::M) _ (fun x hx=>by have:=H0 x hx;have:=g0.size;omega) K0 (RdE.keep (a0.keep0 _) _ _ (RdE.more (fun x hx=>by simp at hx;rcases hx with rfl|rfl|hx;right;simpa using a0.new 2 Z;right;simpa using a0.new 1 Z;exact .inl hx) _ _ A0)) (a0.old hg)) ?_;rintro U0 V0 ⟨_,rfl,B0⟩ C0 R0;obtain⟨_,_,_,rfl,-⟩:=B0.open_;refine b0a (kk:=1) (vs:=[_,_,_,_]) C0 w0a Z Z Z Z Z Z Z ?_;intro P0 f0 n0;dsimp only[d0a,List.set] at f0;have q0:=RdE.keep (n0.mono (by simp)) _ _ B0;refine lP0 Z ⟨by omega,U⟩ ?_;have hs:=A2b op unit l (k+1) z0;rw[if_neg (by omega),←d0] at hs;exact⟨μ-1,by omega,Z,k+1,_,jnE op out l[k+1],by omega,hs.symm,q0,f0.tail,Z,Z,Z,Z,Z,Z,Z⟩
 refine lO S.k [.w 0] Z ⟨⟨Z,by rfl⟩,U⟩ (b0a (kk:=1) (vs:=[_,_,_,_]) S w0a Z Z Z Z Z Z Z ?_);intro Q0 c0 o0;dsimp only[d0a,List.set] at c0;refine lR0 Z U ?_;have J0:l.take (k+1)=l:=List.take_of_length_le (by omega);rw[J0] at d0;exact g0a Z m0a Z (c0.cells 1 Z) Z ⟨⟨_,Z,by rw[←d0];exact RdE.more (fun x hx=>.inl (by simp[hx])) _ _ (RdE.keep (o0.mono (by simp)) _ _ ro)⟩,c0.fin⟩
theorem m0b(l:List E)(op unit:Int)(ho:i64 op)(hu:unit=0∨unit=1)(M:List Nat)(w0:World)(vl:Value)(hL:RdL M w0 vl l)(hM:∀g∈M,g<w0.heap.size)(hK:k2a M w0):
 O0a prog 93 #[vl,.int .i64 op,.int .i64 unit] w0 fun v w'=>(∃cs:List Value,v=.agg cs.toArray∧RdE M w' (d3a op unit l) cs)∧Bw w0 w':=by
 have N0:=hL.rdS;obtain⟨A,n,c,rfl⟩:=N0.form;obtain⟨_,_⟩:=N0.len;have S:=(St.refl w0).nilEnt 38;refine a0a func93 Z ntmps93 Z ?_;refine wO0 Z U (U1b S (v:=.int .i64 _) Z Z Z ?_);intro g4 w4 S4 X4 G4;refine h0a S4 w1a Z Z ?_;intro g6 w6 S6 X6 G6;refine lOn 4 S6.k [] Z U (G0a Z ?_);refine lC0 Z U (wL (fun μk D ε w=>D=[]∧∃k:Nat,∃G:Option Nat,∃A0:List Value,∃v:Value,∃dc:Bool,(k+μk=(l.length))∧(e1a (l) k (fun e=>b5a e=true))∧(dc=(l.take k).any (fun e=>isC e (1-unit)))∧(y1a (fun _ _=>k4d M w0) 4 [] w0 G A0 v (p3a l k))∧St [] w0 w [(some g6,38,[.int .i64 0,.int .i64 0,.int .i64 0,.slice none 0 0]),(some g4,3,[.int .i64 op]),(G,38,A0)]∧Sl ε [(2,.int .i64 unit),(4,.pointer (some ⟨g4,0,none⟩)),(6,.pointer (some ⟨g6,0,none⟩)),(7,v),(8,.bool dc),(12,.slice A n c),(13,.int .i64 n),(14,.int .i64 k)]) (μ:=(l.length)) ⟨Z,0,none,[],.slice none 0 0,false,by omega,e1a.zero,Z,y1a.nil,S6,Z⟩ ?_);rintro μk D ε w ⟨rfl,k,G,A0,v,dc,_,D0,o0,b0,S,eZ⟩;refine wK eZ ?_;obtain⟨_,cv,rfl⟩:=b0.form;refine wB0 Z U (fun D1=>?_) fun D1=>?_
 ·obtain⟨e,A1,N1,_,c0,L0,_,R0,P0,G0⟩:=RdS.get (N0) (k) (by omega);obtain⟨_,_,_,rfl,_⟩:=RdE.cells G0;have J0:RdE M w0 e _:=G0;refine lO (S.k.a P0) [.x A1 N1,.v 0] Z ⟨⟨Z,R0⟩,⟨L0,by omega⟩,U⟩ (h0a S w1a Z Z ?_);intro h2 o2 p1 Z1 W1;refine b0a (kk:=0) (vs:=[_,_,_,_]) p1 w0a Z Z Z Z Z Z Z ?_;intro T1 i0 x1;dsimp only[d0a,List.set] at i0;refine lO i0.k [.w 0] Z ⟨⟨Z,by rfl⟩,U⟩ (f0a i0 a7c Z Z (X3b e M _ _ (RdE.keep (i0.keep0 M) _ _ J0) (hK.keep (i0.keep0 M))) (fun s0 P1 u0 u1=>?_) (fun s0 P1 u0 u1=>?_))
  ·refine lO u0.k [.w 0] Z ⟨by omega,⟨Z,by rfl⟩,U⟩ (f0a u0 c1a Z Z (v0a e (1-unit) M _ _ (RdE.keep (u0.keep0 M) _ _ J0)) (fun p0 Q1 x0 v1=>?_) (fun p0 Q1 x0 v1=>?_))
   ·refine lP0 Z ⟨by omega,U⟩ ⟨μk-1,by omega,Z,(k+1),(_),(_),(_),(_),(by omega),(D0.succ c0 (s0)),?_,?_,x0.tail,Z⟩
    ·rw[i9a _ c0,←o0];rw[show isC e (1-unit)=true from p0];simp;done
    ·rw[U3b c0 (.inl (of_decide_eq_true p0).1)];exact b0
   refine lO x0.k [.w 0] Z ⟨⟨Z,by rfl⟩,U⟩ (f0a x0 c1a Z Z (v0a e unit M _ _ (RdE.keep (x0.keep0 M) _ _ J0)) (fun I0 R1 q0 w1=>?_) (fun I0 R1 q0 w1=>?_))
   ·refine lP0 Z ⟨by omega,U⟩ ⟨μk-1,by omega,Z,(k+1),(_),(_),(_),(_),(by omega),(D0.succ c0 (s0)),?_,?_,q0.tail,Z⟩
    ·rw[i9a _ c0,←o0];rw[show isC e (1-unit)=false from p0];simp;done
    ·rw[U3b c0 (.inl (of_decide_eq_true I0).1)];exact b0
   refine lOn 2 q0.k [] Z U (n5a Z Z Z ?_);refine N0a Z ?_;refine lB0 Z U (fun E1=>?_) fun E1=>?_
   ·refine lOn 6 q0.k [] Z U (N0a Z ?_);refine lO q0.k [.w 0] Z ⟨⟨Z,by rfl⟩,U⟩ (C0a q0 R0a (vs:=[.agg _]) (cs:=[_,_,_,_]) Z Z Z Z Z Z ?_);intro i2 p2 T0 a2 X1;refine P1a (o7c M w0) (k:=4) (M2:=[]) (e1:=e) T0 R0a Z b0 Z Z (T0.cells 0 Z) J0 (by have:=g0c l k;omega) Z ?_;intro j2 Y1 C1 q2 q1 t0 b2 V1;refine G0a Z ?_;refine lP0 Z ⟨by omega,U⟩ ⟨μk-1,by omega,Z,(k+1),(_),(_),(_),(_),(by omega),(D0.succ c0 (s0)),?_,?_,q1.tail.tail,Z⟩
    ·rw[i9a _ c0,←o0];rw[show isC e (1-unit)=false from p0];simp;done
    ·rw[O0c c0 (fun F0=>(N7b s0 F0).elim (fun z=>hu.elim (fun u=>of_decide_eq_false I0 ⟨F0,by omega⟩) (fun u=>of_decide_eq_false p0 ⟨F0,by omega⟩)) (fun z=>hu.elim (fun u=>of_decide_eq_false p0 ⟨F0,by omega⟩) (fun u=>of_decide_eq_false I0 ⟨F0,by omega⟩))) (by omega)];exact t0
   refine lP0 Z ⟨by omega,U⟩ ⟨μk-1,by omega,Z,(k+1),(_),(_),(_),(_),(by omega),(D0.succ c0 (s0)),?_,?_,q0.tail,Z⟩
   ·rw[i9a _ c0,←o0];rw[show isC e (1-unit)=false from p0];simp;done
   ·rw[U3b c0 (.inr (by omega))];exact b0
  refine lO0 Z U (j1a I2a (vs:=[]) (cs:=[_,_,_,_]) Z Z Z Z ?_);refine b0a (kk:=1) (vs:=[_,_,_,_]) u0 w0a Z Z Z Z Z Z Z ?_;intro U1 r0 z1;dsimp only[d0a,List.set] at r0;refine lR0 Z U ?_;exact g0a Z m0a Z (r0.cells 1 Z) Z ⟨⟨_,Z,by rw[z5b (e0a c0) s0];exact L1a (by unfold i64;omega) (by unfold i64;omega) (by unfold i64;omega)⟩,r0.tail.tail.tail.nil.fin⟩
 obtain rfl:k=l.length:=by omega
 have j0:∀e∈l,b5a e=true:=D0.all (Nat.le_refl _);rw[List.take_length] at o0;refine lOn 10 S.k [] Z U ?_;cases n0:dc
 ·refine N0a (hv:=Z) (v:=.bool _) Z ?_;refine lOn 6 S.k [] Z U (N0a Z ?_);refine lB0 Z U (fun F1=>?_) fun F1=>?_
  ·refine lO0 Z U ?_;refine o0a S r4a Z Z (R1a unit 1 (by unfold i64;omega) (by unfold i64;omega) [] _) ?_;rintro v53 s2 ⟨_,rfl,g1⟩ s1 e2;obtain⟨_,_,_,rfl,-⟩:=g1.open_;refine b0a (kk:=0) (vs:=[_,_,_,_]) s1 w0a Z Z Z Z Z Z Z ?_;intro j1 e0 X0;dsimp only[d0a,List.set] at e0;refine lR0 Z U ?_;exact g0a Z m0a Z (e0.cells 0 Z) Z ⟨⟨_,Z,by rw[P9b hu j0 (by rw[←o0,n0]) (List.length_eq_zero_iff.1 (by have:=r5b l;omega))];exact a1c g1⟩,e0.nil.fin⟩
  refine lOn 6 S.k [] Z U (N0a Z ?_);refine lB0 Z U (fun Z0=>?_) fun Z0=>?_
  ·refine lO0 Z U (j1a I2a (vs:=[]) (cs:=[_,_,_,_]) Z Z Z Z ?_);refine b0a (kk:=0) (vs:=[_,_,_,_]) S w0a Z Z Z Z Z Z Z ?_;intro m1 f0 Y0;dsimp only[d0a,List.set] at f0;refine lR0 Z U ?_;exact g0a Z m0a Z (f0.cells 0 Z) Z ⟨⟨_,Z,by rw[r9b j0 (by rw[←o0,n0]) (by have:=r5b l;omega)];exact L1a (by unfold i64;omega) (by unfold i64;omega) (by unfold i64;omega)⟩,f0.nil.fin⟩
  refine lCn 9 S.k [] Z U ?_;have b1:p3a l l.length=T3a l:=by
   have B0:=Z0;unfold p3a at B0 ⊢;rw[List.length_take,List.take_length] at B0;rw[List.take_length,List.take_of_length_le (by omega)]
  obtain⟨g,rfl,rfl,_⟩:=b0.own_ (by omega);have K1:w0.heap.size≤g:=by simpa using S.new 2 Z
  have c1:∀x∈g::g6::M,x∈M∨w0.heap.size≤x:=by
   intro x hx;simp at hx;rcases hx with rfl|rfl|hx
   ·exact .inr K1
   ·right;simpa using S.new 0 Z
   ·exact .inl hx
  have a0:y1a RX 4 (g6::M) w (some g) A0 (.slice (some ⟨g,0,none⟩) (p3a l l.length).length cv) (p3a l l.length):=b0.mapR (fun c x _ hx=>RdE.keep (S.keep0 _) _ _ (RdE.more c1 _ _ hx));have E0:∀e∈p3a l l.length,e.good 40=true:=fun e he=>by
   rw[b1] at he;have:=j0 e (List.mem_filter.1 he).1;unfold b5a at this;simp only[Bool.and_eq_true] at this;exact t5a this.2
  refine wOn 1 S.k [] Z U (N0a Z ?_);refine lC0 Z U (wL (fun μj D ε w=>D=[]∧∃j:Nat,∃cs2:List Value,(j+μj=((p3a l l.length).length))∧(y1a RX 4 (g6::M) w (some g) cs2 (.slice (some ⟨g,0,none⟩) (p3a l l.length).length cv) (p3a l l.length))∧St [] w0 w [(some g6,38,[.int .i64 0,.int .i64 0,.int .i64 0,.slice none 0 0]),(some g4,3,[.int .i64 op]),(some g,38,cs2)]∧Sl ε [(4,.pointer (some ⟨g4,0,none⟩)),(6,.pointer (some ⟨g6,0,none⟩)),(7,.slice (some ⟨g,0,none⟩) (p3a l l.length).length cv),(60,.int .i64 (p3a l l.length).length),(61,.int .i64 j)]) (μ:=((p3a l l.length).length)) ⟨Z,0,A0,by omega,a0,S,Z⟩ ?_);rintro μj D ε w ⟨rfl,j,cs2,_,a0,S,eZ⟩;refine wK eZ ?_;have a1:∀x∈g::g6::M,x<w.heap.size:=by
   intro x hx;simp at hx;rcases hx with rfl|rfl|hx
   ·exact S.lt 2 Z
   ·exact S.lt 0 Z
   ·have:=hM x hx;have:=S.size;omega
  obtain⟨_,_⟩:=a0.own_ (by omega);refine wB0 Z U (fun G1=>?_) fun G1=>?_
  ·have M1:j<(p3a l l.length).length:=by omega
   obtain⟨x,hx⟩:∃x,(p3a l l.length)[j]?=some x:=⟨_,List.getElem?_eq_getElem M1⟩;obtain⟨_,_,_,J1,_,_,H0,d1⟩:=a0.get (k:=2) S Z hx;cases J1;obtain⟨_,_,_,rfl,-⟩:=RdE.open_ d1;refine lO S.k [.i] Z ⟨by omega,U⟩ (L2a m0a Z (H0) Z ?_);refine o0a S n0d Z Z (B0c x (g::g6::M) _ _ 40 d1 (E0 _ (List.mem_of_getElem? hx)) a1) ?_;rintro v70 t2 ⟨B1,rfl,S0⟩ U0 y1;have Q0:=S0.length;obtain⟨_,_,_,C0,-⟩:=S0.open_;refine lO U0.k [.i] Z ⟨by omega,U⟩ ?_;refine b0a (kk:=2) (vs:=B1) U0 w0a Z Z (by simp) Q0 (by rw[C0];rfl) Z (by rw[Nat.ble_eq];simp;omega) ?_;intro n1 v0 y0;have m0:=((a0.keep V3a (y1.of_nil)).setM V3a hx (show 0+(j:Int).toNat*4=j*4 by simp) S0).keep V3a (y0.mono (by simp));rw[B7b hx] at m0;refine lP0 Z ⟨by omega,U⟩ ⟨μj-1,by omega,Z,(j+1),(_),(by omega),(m0),v0,Z⟩
  refine lCn 7 S.k [] Z U ?_;have I1:∀x∈g6::M,x<w.heap.size:=fun x hx=>a1 x (List.mem_cons_of_mem _ hx);have O0:RdL (g6::M) w (.slice (some ⟨g,0,none⟩) (p3a l l.length).length cv) (p3a l l.length):=Y1d (y1a.rd (M:=g6::M) V3a a0 S (k:=2) Z (fun x hx hm=>by
   cases hx;rcases List.mem_cons.1 hm with hm|hm
   ·exact absurd (P6a S.apart (i:=2) (j:=0) Z Z Z (congrArg some hm.symm)) (by decide)
   ·have h1:=hM _ hm;omega) (by omega))
  have H1:=hK.more (M':=g6::M) (fun x hx=>c1 x (List.mem_cons_of_mem _ hx));refine wOn 1 S.k [] Z U (N0a Z ?_);refine U1a Z Z ?_;refine o0a S N8c Z Z (Y3c (p3a l l.length) op unit ho (by omega) (by omega) (g6::M) _ (.slice (some ⟨g,0,none⟩) (p3a l l.length).length cv) g4 O0 I1 (S.cell 1 Z Z)) ?_;rintro n2 u2 ⟨_,rfl,O1⟩ V0 f2;refine o0a V0 t7c Z Z (s9b _ (g6::M) _ _ O1 (H1.keep (V0.keep0 _))) ?_;rintro v76 v2 ⟨_,rfl,K0⟩ t1 g2;obtain⟨_,_,_,rfl,-⟩:=K0.open_;refine b0a (kk:=0) (vs:=[_,_,_,_]) t1 w0a Z Z Z Z Z Z Z ?_;intro o1 g0 z0;dsimp only[d0a,List.set] at g0;replace K0:=RdE.keep (z0.mono (by simp)) _ _ K0;refine lR0 Z U (g0a Z m0a Z (g0.cells 0 Z) Z ⟨⟨_,Z,?_⟩,g0.nil.fin⟩);rw[v6a j0 (by rw[←o0,n0]),←b1];exact RdE.more (fun x hx=>.inl (by simp[hx])) _ _ K0
 refine N0a (hv:=Z) (v:=.bool _) Z ?_;refine lO0 Z ⟨by omega,U⟩ ?_;refine o0a S r4a Z Z (R1a (1-unit) 1 (by unfold i64;omega) (by unfold i64;omega) [] _) ?_;rintro m2 r2 ⟨_,rfl,f1⟩ r1 d2;obtain⟨_,_,_,rfl,-⟩:=f1.open_;refine b0a (kk:=0) (vs:=[_,_,_,_]) r1 w0a Z Z Z Z Z Z Z ?_;intro i1 d0 W0;dsimp only[d0a,List.set] at d0;refine lR0 Z U ?_;exact g0a Z m0a Z (d0.cells 0 Z) Z ⟨⟨_,Z,by rw[B4b j0 (by rw[←o0,n0])];exact a1c f1⟩,d0.nil.fin⟩
theorem Y6c(l:List E)(M:List Nat)(w0:World)(vl:Value)(hL:RdL M w0 vl l)(hM:∀g∈M,g<w0.heap.size)(hK:k2a M w0):
 O0a prog 105 #[vl] w0 fun v w'=>(∃cs:List Value,v=.agg cs.toArray∧RdE M w' (d3a 5 1 l) cs)∧Bw w0 w':=by
 obtain⟨_,_,_,rfl,-⟩:=hL.open_;have S:=St.refl w0;refine a0a func105 Z ntmps105 Z ?_;refine wO0 Z U (h0a S w1a Z Z ?_);intro g2 w2 S2 X2 G2;refine lO0 Z U ?_;have c0:∀g∈g2::M,g∈M∨w0.heap.size≤g:=o5a S2 (k:=0) Z;refine o0a S2 B6c Z Z (m0b l 5 1 (by unfold i64;omega) (.inr Z) (g2::M) _ _ ((hL.more c0).keep (S2.keep0 _)) (fun g hg=>by rcases List.mem_cons.1 hg with rfl|hg;exact S2.lt 0 Z;have:=hM g hg;have:=S2.size;omega) ((hK.more c0).keep (S2.keep0 _))) ?_;rintro v4 w4 ⟨_,rfl,r4⟩ S4 X4;obtain⟨_,_,_,rfl,-⟩:=r4.open_
 first|refine b0a (kk:=0) (vs:=[_,_,_,_]) S4 w0a Z Z Z Z Z Z Z ?_
 intro d0 a0 b0;dsimp only[d0a,List.set] at a0;replace r4:=RdE.keep (b0.mono (by simp)) _ _ r4;exact lR0 Z U (g0a Z m0a Z (a0.cells 0 Z) Z ⟨⟨_,Z,RdE.more (fun g hg=>.inl (by simp[hg])) _ _ r4⟩,a0.nil.fin⟩)
theorem I1d(l:List E)(M:List Nat)(w0:World)(vl:Value)(hL:RdL M w0 vl l)(hM:∀g∈M,g<w0.heap.size)(hK:k2a M w0):
 O0a prog 51 #[vl] w0 fun v w'=>(∃cs:List Value,v=.agg cs.toArray∧RdE M w' (d3a 6 0 l) cs)∧Bw w0 w':=by
 obtain⟨_,_,_,rfl,-⟩:=hL.open_;have S:=St.refl w0;refine a0a func51 Z ntmps51 Z ?_;refine wO0 Z U (h0a S w1a Z Z ?_);intro g2 w2 S2 X2 G2;refine lO0 Z U ?_;have c0:∀g∈g2::M,g∈M∨w0.heap.size≤g:=o5a S2 (k:=0) Z;refine o0a S2 B6c Z Z (m0b l 6 0 (by unfold i64;omega) (.inl Z) (g2::M) _ _ ((hL.more c0).keep (S2.keep0 _)) (fun g hg=>by rcases List.mem_cons.1 hg with rfl|hg;exact S2.lt 0 Z;have:=hM g hg;have:=S2.size;omega) ((hK.more c0).keep (S2.keep0 _))) ?_;rintro v4 w4 ⟨_,rfl,r4⟩ S4 X4;obtain⟨_,_,_,rfl,-⟩:=r4.open_
 first|refine b0a (kk:=0) (vs:=[_,_,_,_]) S4 w0a Z Z Z Z Z Z Z ?_
 intro d0 a0 b0;dsimp only[d0a,List.set] at a0;replace r4:=RdE.keep (b0.mono (by simp)) _ _ r4;exact lR0 Z U (g0a Z m0a Z (a0.cells 0 Z) Z ⟨⟨_,Z,RdE.more (fun g hg=>.inl (by simp[hg])) _ _ r4⟩,a0.nil.fin⟩)
theorem B0b{e:E}(h:b5a e=true):e.w=1∧e.wf=true:=by
 unfold b5a at h;simpa using h
theorem y1a.newRow{M:List Nat}{w0 w1 w:World}{L:List Ent}{k el:Nat}{G:Option Nat}{cs:List Value}{v:Value}{l:List Int}(h:y1a (fun _ _=>e9c) 1 M w1 G cs v l)(S:St [] w0 w L)(hk:L[k]?=some (G,el,cs)):z3a el w0 w v l:=by
 obtain⟨css,h1,_,h3,h4⟩:=h;have e1:css.flatten=l.map (Value.int .i64):=by
  have key:∀(css:List (List Value)) (l:List Int),css.length=l.length→(∀(i:Nat) (x:Int),l[i]?=some x→∃c,css[i]?=some c∧e9c c x)→css.flatten=l.map (Value.int .i64):=by
   intro css
   induction css with
   | nil=>intro l hl _;cases l with
     | nil=>rfl
     | cons=>simp at hl
   | cons c css ih =>
     intro l hl hx;cases l with
     | nil=>simp at hl
     | cons x l =>
       obtain⟨_,hc,hr⟩:=hx 0 x Z;simp at hc;subst hc;rw[List.flatten_cons,hr.1,ih l (by simpa using hl) (fun i y hy=>by simpa using hx (i+1) y (by simpa using hy))];rfl
  exact key css l h1 h4
 rw[e1] at h3;refine⟨G,cs,h3,fun g hg=>?_⟩;subst hg;exact⟨by simpa using S.new k hk,S.blk k hk⟩
def R2b(M:List Nat)(w:World)(G:Option Nat)(cs:List Value)(v:Value)(l:List E):Prop:=y1a RX 4 M w G cs v l
theorem R2b.keep{M:List Nat}{w w':World}{G:Option Nat}{cs:List Value}{v:Value}{l:List E}(h:R2b M w G cs v l)(hk:y0a (G.toList++M) w w'):R2b M w' G cs v l:=y1a.keep V3a h hk
theorem R2b.nil{M:List Nat}{w:World}:R2b M w none [] (.slice none 0 0) []:=y1a.nil
theorem R2b.rdL{M M':List Nat}{w0 w:World}{L:List Ent}{k el:Nat}{G:Option Nat}{cs:List Value}{v:Value}{l:List E}(h:R2b M w G cs v l)(S:St M' w0 w L)(hk:L[k]?=some (G,el,cs))(hM:∀g,G=some g→g∉M)(hl:l.length≤1000000):RdL M w v l:=Y1d (y1a.rd V3a h S hk hM hl)
theorem Z4c{M:List Nat}{w:World}{g:Nat}{cs:List Value}{e:E}(h:RdE (g::M) w e cs):R2b M w (some g) cs (.slice (some ⟨g,0,none⟩) 1 1) [e]:=by
 have hl:=h.length;refine⟨[cs],Z,by simpa using hl,⟨by simp[hl],.inr ⟨g,1,Z,Z,Nat.le_refl _,by unfold maxLen;omega,by omega,by simp;exact List.take_of_length_le (by omega)⟩⟩,fun i x hi=>?_⟩;cases i with
 | zero=>simp at hi;subst hi;exact⟨cs,Z,h⟩
 | succ i=>simp at hi
theorem RdL.node{M:List Nat}{w:World}{v:Value}{l:List E}{op wd n:Int}(h:RdL M w v l)(h1:i64 op)(h2:i64 wd)(h3:i64 n):RdE M w ⟨op,wd,n,l⟩ [.int .i64 op,.int .i64 wd,.int .i64 n,v]:=by
 obtain⟨A,m,c,rfl,q1,q2,q3,q4,q5⟩:=h.open_;rw[RdE];exact⟨A,m,c,Z,h1,h2,h3,q1,q2,q3,q4,q5⟩
theorem Y3a{M:List Nat}{w0 w:World}{L:List Ent}{g t k:Nat}{cs:List Value}(S:St [] w0 w L)(hk:L[k]?=some (some g,t,cs))(hM:∀g∈M,g<w0.heap.size):g∉M:=fun hh=>by
 rcases S.new k hk with h|h
 ·have:=hM g hh;omega
 ·cases h
theorem A4a{M M':List Nat}{w0 w:World}{L:List Ent}(S:St M' w0 w L)(hM:∀g∈M,g<w0.heap.size):∀x∈b1b L++M,x<w.heap.size:=fun x hx=>by
 rcases List.mem_append.1 hx with h|h
 ·obtain⟨b,hb,he⟩:=i4a.1 h;exact(S.own b hb x he).2.lt
 ·have:=hM x h;have:=S.size;omega
theorem F3a{M:List Nat}{w0 w:World}{L:List Ent}(S:St [] w0 w L):∀x∈b1b L++M,x∈M∨w0.heap.size≤x:=fun x hx=>by
 rcases List.mem_append.1 hx with h|h
 ·obtain⟨b,hb,he⟩:=i4a.1 h;rcases(S.own b hb x he).1 with h|h
  ·exact .inr h
  ·cases h
 ·exact .inl h
theorem e2b{M M':List Nat}{w0 w:World}{L:List Ent}(S:St M' w0 w L)(k:Nat){g t:Nat}{cs:List Value}(hk:L[k]?=some (some g,t,cs))(hM:∀g∈M,g<w0.heap.size):∀x∈g::M,x<w.heap.size:=fun x hx=>by
 rcases List.mem_cons.1 hx with rfl|h
 ·exact S.lt k hk
 ·have:=hM x h;have:=S.size;omega
theorem RdE.addNew{M:List Nat}{w w':World}{e:E}{cs:List Value}{g:Nat}(h:RdE M w e cs)(X:y0a [] w w')(hg:w.heap.size≤g):RdE (g::M) w' e cs :=
 RdE.keep X.of_nil _ _ (RdE.more (fun x hx=>by
  rcases List.mem_cons.1 hx with rfl|h
  ·exact .inr hg
  ·exact .inl h) _ _ h)
theorem S1b{M:List Nat}{L:List Ent}(j:Nat){g t':Nat}{a0:List Value}(hj:L[j]?=some (some g,t',a0)):∀x∈g::M,x∈b1b L++M:=fun x hx=>by
 rcases List.mem_cons.1 hx with rfl|h
 ·exact List.mem_append_left _ (i4a.2 ⟨_,List.mem_of_getElem? hj,Z⟩)
 ·exact List.mem_append_right _ h
theorem D5a{M M2:List Nat}{L:List Ent}(k:Nat){G:Option Nat}{t:Nat}{cs:List Value}(hk:L[k]?=some (G,t,cs))(h2:∀x∈M2,x∈b1b L++M):∀x∈G.toList++M2,x∈b1b L++M:=fun x hx=>by
 rcases List.mem_append.1 hx with h|h
 ·refine List.mem_append_left _ (i4a.2 ⟨_,List.mem_of_getElem? hk,?_⟩);cases G with
  | none=>cases h
  | some g=>rw[show x=g by simpa using h]
 ·exact h2 x h
theorem H8a{P:Program}{f:FuncId}{args:Array Value}{w:World}{el:Nat}{l:List Int}{M:List Nat}(h:O0a P f args w fun v w'=>z3a el w w' v l∧Below w.heap.size w w')(hM:∀g∈M,g<w.heap.size)(hl:∀x∈l,i64 x)(a0:l.length≤140737488355328:=by omega):
 O0a P f args w fun v w'=>RdI M w' v l∧Below w.heap.size w w':=h.mono fun _ _ ⟨h1,h2⟩=>⟨h1.rd hM hl h2 a0,h2⟩
theorem RdE.addKeep{M:List Nat}{w w':World}{e:E}{cs:List Value}{g:Nat}(h:RdE M w e cs)(K:y0a M w w')(hg:w.heap.size≤g):RdE (g::M) w' e cs :=
 RdE.keep (K.mono fun _ hx=>List.mem_cons_of_mem _ hx) _ _ (RdE.more (fun x hx=>by
  rcases List.mem_cons.1 hx with rfl|h
  ·exact .inr hg
  ·exact .inl h) _ _ h)
def r3c(p:j0a)(t:Int)(k:Nat):List Int:=((List.range k).filter fun i=>q1a p.cells (i:Nat)=t).map Int.ofNat
def ofL(p:j0a)(t:Int):List Int:=r3c p t p.cells.length
theorem h5b{p:j0a}{t:Int}{k:Nat}{c:I1a}(h:p.cells[k]?=some c):r3c p t (k+1)=if c.thread=t then r3c p t k++[(k:Int)] else r3c p t k:=by
 unfold r3c;rw[List.range_succ,List.filter_append,List.map_append];have ht:q1a p.cells (k:Int)=c.thread:=m1a (by simpa using h);by_cases hc:c.thread=t
 ·simp[ht,hc]
 ·simp[ht,hc]
theorem j5c{p:j0a}{t:Int}{k:Nat}{x:Int}:x∈r3c p t k↔0≤x∧x<k∧q1a p.cells x=t:=by
 unfold r3c;simp only[List.mem_map,List.mem_filter,List.mem_range,decide_eq_true_eq];constructor
 ·rintro⟨i,⟨h1,h2⟩,rfl⟩;exact⟨Int.natCast_nonneg i,Int.ofNat_lt.2 h1,h2⟩
 ·rintro⟨h0,h1,h2⟩;obtain⟨i,rfl⟩:=Int.eq_ofNat_of_zero_le h0;exact⟨i,⟨by omega,h2⟩,Z⟩
theorem B8b(p:j0a)(t:Int)(k:Nat):(r3c p t k).length≤k:=by
 unfold r3c;rw[List.length_map];exact Nat.le_trans (List.length_filter_le _ _) (by simp)
theorem V7a{p:j0a}{t:Int}{x:Int}:x∈ofL p t↔0≤x∧x<p.cells.length∧q1a p.cells x=t:=j5c
def g4a(p:j0a)(c:Int):E:=⟨11,1,0,[⟨3,wAt p.cells c,c,[]⟩,⟨2,wAt p.cells c,c,[]⟩]⟩
def C3c(f:List Int)(l:List Int):List Int:=l.filter fun c=>!decide (c∈f)
def m8a(p:j0a)(m:P0a):List E:=m.guar::(C3c m.frame (ofL p (-1))).map (g4a p)
theorem q4b{f l:List Int}{k:Nat}{c:Int}(h:l[k]?=some c):C3c f (l.take (k+1))=if c∈f then C3c f (l.take k) else C3c f (l.take k)++[c]:=by
 unfold C3c;rw[t0a h,List.filter_append];by_cases hc:c∈f<;>simp[hc]
theorem k8b(f l:List Int):(C3c f l).length≤l.length:=List.length_filter_le _ _
def O7c(p:j0a)(m:Nat):P0a:=p.modules.getD m ⟨ByteArray.empty,ByteArray.empty,zE,zE,[]⟩
def q2a(p:j0a)(m:Int):E:=d3a 5 1 (m8a p (O7c p m.toNat))
theorem S8b:∀(e:E) (M:List Nat) (w0:World) (cs:List Value) (s0:Int),RdE M w0 e cs→e.good s0=true→(∀g∈M,g<w0.heap.size) →
 O0a prog 101 #[.agg cs.toArray] w0 fun v w'=>(∃cs:List Value,v=.agg cs.toArray∧RdE M w' e cs)∧Bw w0 w':=by
 intro e
 induction e using E.induct with
 | _ e ih =>
 intro M w0 cs s0 hR hg hM;obtain⟨A,n,c,rfl,o1,o2,o3,hn,hc,hm,o0,G0⟩:=hR.open_;obtain⟨H0,F0⟩:=b1a hg;have R0:=(M1a H0).2.2.1;have E0:=h1a e.op;have h3:e.kids.length≤3:=by omega
 have hK:RdS M w0 4 (RX M w0) (.slice A n c) e.kids:=(RdL.made hn hc hm o0 G0).rdS;have S:=(St.refl w0).nilEnt 38;refine a0a func101 Z ntmps101 Z ?_;refine wO0 Z U (r0a S Z ?_);intro g1 w1 S1 X1 G1;refine h0a S1 w1a Z Z ?_;intro g2 w2 S2 X2 G2;refine lOn 4 S2.k [] Z U (G0a Z ?_);refine lC S2.k [.o 1] Z ⟨Z,U⟩ (wL (fun μk D ε w=>D=[]∧∃k:Nat,∃G:Option Nat,∃m0:List Value,∃v:Value,(k+μk=(e.kids.length))∧(R2b (g2::M) w G m0 v (e.kids.take k))∧St [] w0 w [(some g2,38,[.int .i64 0,.int .i64 0,.int .i64 0,.slice none 0 0]),(some g1,38,[.int .i64 e.op,.int .i64 e.w,.int .i64 e.n,.slice A n c]),(G,38,m0)]∧Sl ε [(1,.pointer (some ⟨g1,0,none⟩)),(2,.pointer (some ⟨g2,0,none⟩)),(3,v),(7,.slice A n c),(8,.int .i64 n),(9,.int .i64 k)]) (μ:=(e.kids.length)) ⟨Z,0,none,[],.slice none 0 0,by omega,R2b.nil,S2,Z⟩ ?_);rintro μk D ε w ⟨rfl,k,G,m0,v,_,d0,S,eZ⟩;refine wK eZ ?_;have KQ:=y0a.refl (G.toList++g2::M) w;refine wB0 Z U (fun D0=>?_) fun D0=>?_
 ·obtain⟨y,B0,I0,_,r0,n0,_,q0,p0,e0⟩:=RdS.get (hK) (k) (by omega);obtain⟨_,_,_,rfl,_⟩:=RdE.cells e0;refine lO (S.k.a p0) [.x B0 I0,.v 0] Z ⟨⟨Z,q0⟩,⟨n0,by omega⟩,U⟩ (h0a S w1a Z Z ?_);intro g5 w5 S5 X5 G5;have g0:=Nat.le_trans KQ.size G5;replace KQ:=KQ.trans (X5.of_nil);refine b0a (kk:=0) (vs:=[_,_,_,_]) S5 w0a Z Z Z Z Z Z Z ?_;intro J0 a0 i0;dsimp only[d0a,List.set] at a0;replace KQ:=KQ.fresh2 i0 (by exact .inl g0);refine lOn 3 a0.k [] Z U (N0a Z ?_);refine lO a0.k [.w 0] Z ⟨⟨Z,by rfl⟩,U⟩ ?_;have x0:=A4a (M:=M) a0 hM;refine o0a a0 x1c Z Z (ih y (e0a r0) _ _ _ (s0-1) (RdE.keep (a0.keep0 _) _ _ (RdE.more (F3a a0) _ _ e0)) (F0 _ (e0a r0)) x0) ?_;rintro S0 U0 ⟨_,rfl,f0⟩ y0 A0;replace KQ:=KQ.trans (A0.of_nil);obtain⟨_,_,_,rfl,-⟩:=f0.open_;refine C0a y0 R0a (vs:=[.agg _]) (cs:=[_,_,_,_]) Z Z Z Z Z Z ?_;intro Q0 V0 t0 u0 N0;replace f0:=RdE.keep (u0.of_nil) _ _ f0;replace KQ:=KQ.trans (u0.of_nil);have b0:=d0.keep KQ;refine P1a V3a (k:=4) (M2:=g2::M) (e1:=y) t0 R0a Z b0 Z Z (t0.cells 0 Z) (RdE.less (fun x hx=>by cases G<;>simp[b1b] at hx ⊢<;>grind) _ _ f0) (by rw[List.length_take];omega) Z ?_;intro T0 O0 C0 W0 z0 b0 P0 L0;refine G0a Z ?_;refine lP0 Z ⟨by omega,U⟩ ⟨μk-1,by omega,Z,(k+1),(_),(_),(_),(by omega),?_,z0.tail.tail,Z⟩;rw[t0a r0];exact b0
 refine lCn 7 S.k [] Z U ?_;obtain⟨Av,cv,rfl⟩:=y1a.form d0;have v0:RdL (g2::M) w (.slice Av (e.kids.take k).length cv) (e.kids.take k):=d0.rdL S (k:=2) Z (fun g hg=>by
  subst hg;intro hh;rcases List.mem_cons.1 hh with hh|hh
  ·exact S.ne 0 2 Z Z (by omega) hh.symm
  ·exact Y3a S (k:=2) Z hM hh) (by rw[List.length_take];omega)
 rw[show e.kids.take k=e.kids from List.take_of_length_le (by omega)] at v0 ⊢;refine wOn 7 S.k [.o 1,.o 1,.o 1] Z ⟨Z,Z,Z,U⟩ (N0a Z ?_);refine j1a I2a (vs:=[(0,.int .i64 _),(1,.int .i64 _),(2,.int .i64 _),(3,.slice _ _ _)]) (cs:=[_,_,_,_]) Z Z Z Z ?_;refine b0a (kk:=0) (vs:=[_,_,_,_]) S w0a Z Z Z Z Z Z Z ?_;intro K0 c0 j0;dsimp only[d0a,List.set] at c0;refine lR0 Z U (g0a Z m0a Z (c0.cells 0 Z) Z ⟨⟨_,Z,?_⟩,c0.fin⟩);have he:(⟨e.op,e.w,e.n,e.kids⟩:E)=e:=by cases e;rfl
 have hq:=RdE.less (M':=M) (fun g hg=>List.mem_cons_of_mem _ hg) _ _ (RdE.keep (j0.mono (by simp)) _ _ (v0.node o1 o2 o3));rw[he] at hq;exact hq
theorem R4b(p:j0a)(c:Int)(h0:0≤c)(hc:c<p.cells.length)(M:List Nat)(w0:World)(cs:List Value)(hR:a1a M w0 p cs)(hM:∀g∈M,g<w0.heap.size)(hw:i64 c):
 O0a prog 104 #[.agg cs.toArray,.int .i64 c] w0 fun v w'=>(∃cs:List Value,v=.agg cs.toArray∧RdE M w' (g4a p c) cs)∧Bw w0 w':=by
 obtain⟨_,_,_,_,_,_,_,_,cl,_,_,_,rfl,hC,_⟩:=hR.open_;have S:=St.refl w0;refine a0a func104 Z ntmps104 Z ?_;refine wO0 Z U (r0a S Z ?_);intro g2 w2 S2 X2 G2;refine h0a S2 w1a Z Z ?_;intro g4 w4 S4 X4 G4;obtain⟨cl,b9,p9,_,b0,f0,_,_,g0,i0⟩:=RdS.get (hC) (c.toNat) (by omega);obtain⟨rfl,c0,_⟩:=U2a.open_ i0;refine lO (S4.k.a g0) [.o 1,.x b9 p9,.f 0 1] Z ⟨Z,⟨f0,by omega⟩,Z,U⟩ (j1a I2a (vs:=[(0,.int .i64 _),(1,.int .i64 _),(2,.int .i64 _)]) (cs:=[_,_,_,_]) Z Z Z Z ?_);refine lO0 Z U (j1a I2a (vs:=[(0,.int .i64 _),(1,.int .i64 _),(2,.int .i64 _)]) (cs:=[_,_,_,_]) Z Z Z Z ?_);refine C0a S4 R0a (vs:=[.agg _,.agg _]) (cs:=[_,_,_,_,_,_,_,_]) Z Z Z Z Z Z ?_;intro g18 o0 d0 n0 m0;refine j1a I2a (vs:=[(0,.int .i64 _),(1,.int .i64 _),(3,.slice _ _ _)]) (cs:=[_,_,_,_]) Z Z Z Z ?_;refine b0a (kk:=1) (vs:=[_,_,_,_]) d0 w0a Z Z Z Z Z Z Z ?_;intro j0 a0 e0;dsimp only[d0a,List.set] at a0;refine lR0 Z U (g0a Z m0a Z (a0.cells 1 Z) Z ⟨⟨_,Z,?_⟩,a0.fin⟩);unfold g4a;rw[S4a (h0:=h0) b0];exact T5b (by unfold i64;omega) (by unfold i64;omega) (Y3a a0 (k:=0) Z hM) (a0.cells 0 Z) (L1a (by unfold i64;omega) c0 hw) (L1a (by unfold i64;omega) c0 hw)
theorem R9b(p:j0a)(t:Int)(M:List Nat)(w0:World)(cs:List Value)(hR:a1a M w0 p cs)(hl:p.cells.length≤32):
 O0a prog 164 #[.agg cs.toArray,.int .i64 t] w0 fun v w'=>z3a 3 w0 w' v (ofL p t)∧Bw w0 w':=by
 obtain⟨Ac,nc,cc,Am,nm,cm,Al,nl,cl,At,nt,ct,rfl,hC,_⟩:=hR.open_;have S:=(St.refl w0).nilEnt 3;refine a0a func164 Z ntmps164 Z ?_;refine wO0 Z U (r0a S Z ?_);intro g2 w2 S2 X2 G2;refine lOn 5 S2.k [] Z U (G0a Z ?_);refine lC S2.k [.o 0] Z ⟨Z,U⟩ (wL (fun μk D ε w=>D=[]∧∃k:Nat,∃G:Option Nat,∃e0:List Value,∃v:Value,(k+μk=(p.cells.length))∧(y1a u7b 1 [] w0 G e0 v (r3c p t k))∧St [] w0 w [(some g2,27,[.slice Ac nc cc,.slice Am nm cm,.slice Al nl cl,.slice At nt ct]),(G,3,e0)]∧Sl ε [(1,.int .i64 t),(5,v),(9,.slice Ac nc cc),(10,.int .i64 nc),(11,.int .i64 k)]) (μ:=(p.cells.length)) ⟨Z,0,none,[],.slice none 0 0,by omega,y1a.nil,S2,Z⟩ ?_);rintro μk D ε w ⟨rfl,k,G,e0,v,_,b0,S,eZ⟩;refine wK eZ (wB0 Z U (fun s0=>?_) fun s0=>?_)
 ·obtain⟨cl,q0,t0,_,d0,g0,_,j0,i0,m0⟩:=RdS.get (hC) (k) (by omega);obtain⟨rfl,_⟩:=U2a.open_ m0;refine lO (S.k.a i0) [.x q0 t0,.v 0] Z ⟨⟨Z,j0⟩,⟨g0,by omega⟩,U⟩ (h0a S B9c Z Z ?_);intro g7 w7 S7 X7 G7;refine lO0 Z U (b0a (kk:=0) (vs:=[_,_,_,_,_,_]) S7 n8c Z Z Z Z Z Z Z ?_);intro u0 a0 p0;dsimp only[d0a,List.set] at a0;refine lB a0.k [.o 0] Z ⟨Z,U⟩ (fun f0=>?_) fun f0=>?_
  ·refine lOn 4 a0.k [] Z U (N0a Z ?_);refine lO0 Z U (C0a a0 T0a (vs:=[.int .i64 _]) (cs:=[_]) Z Z Z Z Z Z ?_);intro B0 D0 n0 z0 x0;refine P1a p8a (k:=3) (M2:=[]) (e1:=(k:Int)) n0 T0a Z b0 Z Z (n0.cells 0 Z) ⟨Z,by unfold i64;omega⟩ (by have:=B8b p t k;omega) Z ?_;intro C0 y0 r0 E0 o0 c0 A0 v0;refine G0a Z ?_;refine lP0 Z ⟨by omega,U⟩ ⟨μk-1,by omega,Z,(k+1),(_),(_),(_),(by omega),?_,o0.tail.tail,Z⟩;rw[h5b d0];rw[if_pos f0];exact c0
  refine lP0 Z ⟨by omega,U⟩ ⟨μk-1,by omega,Z,(k+1),(_),(_),(_),(by omega),?_,a0.tail,Z⟩;rw[h5b d0];rw[if_neg f0];exact b0
 refine lOn 8 S.k [] Z U (N0a Z ?_);refine G0a Z ?_;refine lR0 Z U (A0a Z ?_);obtain rfl:k=p.cells.length:=by omega
 exact⟨b0.newRow S (k:=1) Z,S.fin⟩
theorem X6b(p:j0a)(M:List Nat)(w0:World)(cs:List Value)(hR:a1a M w0 p cs)(hl:p.cells.length≤32):
 O0a prog 102 #[.agg cs.toArray] w0 fun v w'=>z3a 3 w0 w' v (ofL p (-1))∧Bw w0 w':=by
 obtain⟨_,_,_,_,_,_,_,_,_,_,_,_,rfl,-⟩:=id hR.open_;have S:=St.refl w0;refine a0a func102 Z ntmps102 Z ?_;refine wO0 Z U (r0a S Z ?_);intro g1 w1 S1 X1 G1;refine lO S1.k [.w 0] Z ⟨⟨Z,Z⟩,U⟩ (o0a S1 W6c Z Z (R9b p (-1) M _ _ (hR.keep (S1.keep0 M)) hl) ?_);rintro v4 w4 ⟨G4,c0,b0,a0⟩ S4 X4;obtain⟨_,_,_,rfl⟩:=b0.form;refine lR0 Z U (A0a Z ?_);exact⟨⟨G4,c0,b0,fun g hg=>⟨Nat.le_trans S1.size (a0 g hg).1,(a0 g hg).2⟩⟩,S4.nil.fin⟩
theorem R1c(p:j0a)(m:Nat)(md:P0a)(d0:p.modules[m]?=some md)(M:List Nat)(w0:World)(cs:List Value)(hI:InP p M w0 cs):
 O0a prog 58 #[.agg cs.toArray,.int .i64 m] w0 fun v w'=>(∃cs:List Value,v=.agg cs.toArray∧RdE M w' (q2a p m) cs)∧Bw w0 w':=by
 obtain⟨Ac,nc,cc,Am,nm,cm,Al,nl,cl,At,nt,ct,rfl,_,t1,_⟩:=hI.rd.open_;have S:=St.refl w0;have hM:=hI.lt;have hp:=hI.ok;have n1:=hp.ncells;have u1:=hp.modules md (e0a d0);have F1:=M2a d0;have n3:=hp.nmodules;have H1:(ofL p (-1)).length≤32:=Nat.le_trans (B8b p (-1) _) n1;refine a0a func58 Z ntmps58 Z ?_;refine wO0 Z U (r0a S Z ?_);intro g2 w2 S2 X2 G2;refine h0a S2 w1a Z Z ?_;intro g4 w4 S4 X4 G4;obtain⟨_,o1,v1,_,L0,z0,_,H0,F0,I0⟩:=RdS.get (t1) (m) (by omega);obtain rfl:=Option.some.inj (d0.symm.trans L0);obtain⟨r0,R0,x0,q0,Q0,v0,p0,P0,u0,rfl,_,C0,B0,_⟩:=x0a.open_ I0;refine lO (S4.k.a F0) [.o 1,.x o1 v1,.v 0] Z ⟨⟨Z,H0⟩,⟨z0,by omega⟩,Z,U⟩ (h0a S4 m2c Z Z ?_);intro g5 w5 S5 X5 G5;refine b0a (kk:=0) (vs:=[_,_,_,_,_,_,_,_,_,_,_]) S5 p0c Z Z Z Z Z Z Z ?_;intro x1 c0 i1;dsimp only[d0a,List.set] at c0;refine lO c0.k [.o 0] Z ⟨Z,U⟩ (o0a c0 x1c Z Z (S8b md.guar (g4::M) _ _ 40 (RdE.keep (c0.keep0 _) _ _ (RdE.more (o5a c0 (k:=1) Z) _ _ C0)) (t5a (O2a u1.guar.1).1) (e2b c0 1 Z hM)) ?_);rintro I1 O1 ⟨_,rfl,W0⟩ Z0 C1;obtain⟨_,_,_,rfl,-⟩:=W0.open_;refine C0a Z0 R0a (vs:=[.agg _]) (cs:=[_,_,_,_]) Z Z Z Z Z Z ?_;intro g17 P1 m0 f1 Y0;refine G0a Z ?_;refine lO m0.k [.w 3] Z ⟨⟨Z,Z⟩,U⟩ ?_;have a0:=Z4c (W0.addNew f1 Y0);refine o0a m0 p9c Z Z (H8a (M:=g17::g4::M) (X6b p M _ _ (hI.rd.keep (m0.keep0 M)) n1) (fun x hx=>A4a m0 hM x (D5a (G:=some g17) 0 Z (S1b 2 Z) x hx)) (fun x hx=>by have:=V7a.1 hx;unfold i64;omega)) ?_;rintro J1 S0 K0 a1 g1;obtain⟨As,ns,q1,rfl⟩:=K0.form;have G1:=K0.len.1;have KS:=y0a.refl [g17] S0;replace a0:=R2b.keep a0 g1.of_nil;refine lC0 Z U (wL (fun μk D ε w=>D=[]∧∃k:Nat,∃G:Option Nat,∃cs2:List Value,∃v:Value,(k+μk=((ofL p (-1)).length))∧(R2b (g4::M) w G cs2 v (md.guar::(C3c md.frame ((ofL p (-1)).take k)).map (g4a p)))∧(∀g∈G.toList,S0.heap.size≤g∨g∈[g17])∧(y0a [g17] S0 w)∧St [] w0 w [(G,38,cs2),(some g5,66,[.string md.name,.string md.owner,.int .i64 md.rely.op,.int .i64 md.rely.w,.int .i64 md.rely.n,.slice r0 R0 x0,.int .i64 md.guar.op,.int .i64 md.guar.w,.int .i64 md.guar.n,.slice q0 Q0 v0,.slice p0 P0 u0]),(some g4,38,[.int .i64 0,.int .i64 0,.int .i64 0,.slice none 0 0]),(some g2,27,[.slice Ac nc cc,.slice Am nm cm,.slice Al nl cl,.slice At nt ct])]∧Sl ε [(2,.pointer (some ⟨g2,0,none⟩)),(4,.pointer (some ⟨g4,0,none⟩)),(5,.pointer (some ⟨g5,0,none⟩)),(6,v),(19,.slice As ns q1),(20,.int .i64 ns),(21,.int .i64 k)]) (μ:=((ofL p (-1)).length)) ⟨Z,0,some g17,_,_,by omega,a0,by simp,KS,a1,Z⟩ ?_);rintro μk D ε w ⟨rfl,k,G,cs2,v,_,i0,G0,KS,S,eZ⟩;refine wK eZ ?_;have KQ:=y0a.refl (G.toList++g4::M) w;refine wB0 Z U (fun s1=>?_) fun s1=>?_
 ·obtain⟨c,p1,w1,_,N0,A0,E0,_,g0,J0⟩:=RdS.get (K0.keep (KS.mono (by simp))) (k) (by omega);obtain⟨rfl,O0⟩:=id J0;have V0:=V7a.1 (e0a N0);refine lO (S.k.b g0) [.x p1 w1,.f 0 0,.o 1] Z ⟨Z,Z,⟨A0,by omega⟩,U⟩ (f0a S u0d Z Z (Q4b M _ _ md.frame c (B0.keep (S.keep0 M))) (fun y0 y1 e0 j0=>?_) (fun y0 y1 e0 j0=>?_))
  ·replace g0:=g0.keep (j0.of_nil) E0;replace KS:=KS.trans (j0.of_nil);replace KQ:=KQ.trans (j0.of_nil);refine lP0 Z ⟨by omega,U⟩ ⟨μk-1,by omega,Z,(k+1),(_),(_),(_),(by omega),?_,?_,(KS),e0,Z⟩
   ·rw[q4b N0];rw[if_pos (of_decide_eq_true y0)];exact i0.keep KQ
   ·exact G0
  replace KS:=KS.trans (j0.of_nil);replace KQ:=KQ.trans (j0.of_nil);refine lOn 5 e0.k [] Z U (N0a Z ?_);refine lO e0.k [.w 3] Z ⟨⟨Z,Z⟩,U⟩ (o0a e0 G8c Z Z (R4b p c V0.1 V0.2.1 (G.toList++g4::M) _ _ ((hI.rd.more (fun x hx=>F3a e0 x (D5a 0 Z (S1b 2 Z) x hx))).keep (e0.keep0 _)) (fun x hx=>A4a e0 hM x (D5a 0 Z (S1b 2 Z) x hx)) O0) ?_);rintro K1 Q1 ⟨_,rfl,n0⟩ b1 U0;replace KS:=KS.trans (U0.of_nil);replace KQ:=KQ.trans (U0.of_nil);obtain⟨_,_,_,rfl,-⟩:=n0.open_;refine C0a b1 R0a (vs:=[.agg _]) (cs:=[_,_,_,_]) Z Z Z Z Z Z ?_;intro E1 R1 T0 s0 A1;replace n0:=RdE.keep (s0.of_nil) _ _ n0;replace KS:=KS.trans (s0.of_nil);replace KQ:=KQ.trans (s0.of_nil);have b0:=i0.keep KQ;refine P1a V3a (k:=1) (M2:=g4::M) (e1:=g4a p c) T0 R0a Z b0 Z Z (T0.cells 0 Z) n0 (by have:=k8b md.frame ((ofL p (-1)).take k);rw[List.length_take] at this;simp;omega) Z ?_;intro M1 B1 r1 T1 c1 b0 j1 X0;have m1:=KS.size;replace KS:=KS.freshL j1 G0;refine G0a Z ?_;refine lP0 Z ⟨by omega,U⟩ ⟨μk-1,by omega,Z,(k+1),(_),(_),(_),(by omega),?_,?_,(KS),c1.tail,Z⟩
  ·rw[q4b N0];rw[if_neg (of_decide_eq_false y0),List.map_append];exact b0
  ·intro g hg;rcases X0 g hg with h|h;exact G0 g h;exact .inl (Nat.le_trans m1 h)
 refine lOn 8 S.k [] Z U (N0a Z ?_);have D0:RdL (g4::M) w v (m8a p md):=by
  have hr:=i0;rw[List.take_of_length_le (by omega)] at hr;exact hr.rdL S (k:=0) Z (fun g hg hh=>by
   subst hg;rcases List.mem_cons.1 hh with hh|hh
   ·exact S.ne 0 2 Z Z (by omega) hh
   ·exact Y3a S (k:=0) Z hM hh) (by have:=k8b md.frame (ofL p (-1));simp;omega)
 refine o0a S t9c Z Z (Y6c (m8a p md) (g4::M) _ _ D0 (e2b S 2 Z hM) ((hI.msk.more (o5a S (k:=2) Z)).keep (S.keep0 _))) ?_;rintro N1 U1 ⟨_,rfl,o0⟩ d1 D1;obtain⟨_,_,_,rfl,-⟩:=o0.open_;refine b0a (kk:=2) (vs:=[_,_,_,_]) d1 w0a Z Z Z Z Z Z Z ?_;intro z1 f0 t0;dsimp only[d0a,List.set] at f0;replace o0:=RdE.keep (t0.mono (by simp)) _ _ o0;refine lR0 Z U (g0a Z m0a Z (f0.cells 2 Z) Z ⟨⟨_,Z,?_⟩,f0.fin⟩);unfold q2a O7c;rw[show((m:Int).toNat)=m by simp,getD_some d0];exact RdE.less (fun x hx=>List.mem_cons_of_mem _ hx) _ _ o0
section
variable {P:Program} {r:Option Nat} {N:Nat} {D:List Deferred} {e:Env} {w w0:World} {ops:Array Oper} {rest:List Oper} {K:List Deferred→Env→World→Prop} {L:List Ent} {M:List Nat}
variable {d:Nat} {t:TypeId} {p:String} {af:Array Edge} {x y z:Operand} {α:Type} {enc:α→Value}
def x7a(enc:α→Value)(w:World)(b:Nat)(l:List α):Prop :=
 ∃es clock,w.heap[b]?=some (.map es clock)∧es.toList.map (fun x=>(x.key,x.val))=l.map (fun a=>(enc a,Value.bool true))∧(∀x∈es.toList,x.born<clock)∧(es.toList.map (·.born)).Nodup
theorem x7a.keep{b:Nat}{l:List α}{w':World}(h:x7a enc w b l)(hk:y0a M w w')(hb:b∉M):x7a enc w' b l:=by
 obtain⟨es,a0,h1,h2⟩:=h;exact⟨es,a0,by rw[hk.same b (Array.getElem?_eq_some_iff.1 h1).1 hb];exact h1,h2⟩
theorem x7a.lt{b:Nat}{l:List α}(h:x7a enc w b l):b<w.heap.size:=by
 obtain⟨_,_,h1,_⟩:=h;exact(Array.getElem?_eq_some_iff.1 h1).1
theorem x7a.ne{b g tb:Nat}{cs:List Value}{l:List α}(h:x7a enc w b l)(hg:p0a w (g,tb,cs)):b≠g:=by
 obtain⟨_,_,h1,_⟩:=h;rintro rfl;unfold p0a at hg;rw[h1] at hg;cases hg
theorem x7a.mk_{b:Nat}{k:TypeId}{w1:World}(h:i3a P k w1 b []):x7a enc w1 b []:=by
 obtain⟨es,a0,h1,h2,_⟩:=h;have h0:es.toList=[]:=List.map_eq_nil_iff.1 h2;exact⟨es,a0,h1,by simp[h0],by simp[h0],by simp[h0]⟩
open Classical in
noncomputable def insL(l:List α)(a:α):List α:=if a∈l then l else l++[a]
theorem J4a{l:List α}{a x:α}:x∈insL l a↔x∈l∨x=a:=by
 unfold insL;split
 ·rename_i h;exact⟨.inl,fun h'=>h'.elim id (fun hh=>hh▸h)⟩
 ·simp
theorem T7a{l:List α}{a:α}(h:l.Nodup):(insL l a).Nodup:=by
 unfold insL;split
 ·exact h
 ·rename_i hn;rw[List.nodup_append];exact⟨h,by simp,fun x hx y hy=>by rw[List.mem_singleton.1 hy];exact fun hh=>hn (hh▸hx)⟩
theorem W2b{l:List α}{a:α}:(insL l a).length≤l.length+1:=by
 unfold insL;split<;>simp
theorem F3b{k el:TypeId}{ty b:Nat}{l:List α}{a:α}(S:St M w0 w L)(Kd:Keyed P k)(ht:P.underlying ty=some (.map k el))(d0:∀a b,enc a=enc b→a=b)(f0:∀a∈l,∃q,keyOf P k (enc a)=some q)(q0:∃q,keyOf P k (enc a)=some q)(h:x7a enc w b l)
 (hx:ev e x=.map (some b)) (hy:ev e y=enc a) (hz:ev e z=.bool true) (hb:w0.heap.size≤b∨b∈M)
 (hk:∀w1,St M w0 w1 L→y0a [b] w w1→x7a enc w1 b (insL l a)→WL P r N ops rest K D e w1) :
 WL P r N ops (⟨none,.mapUpdate ty x y z,t,p,af,none⟩::rest) K D e w:=by
 have c0:=h;obtain⟨es,a0,h1,h2,h3,h4⟩:=h;obtain⟨q,hq⟩:=q0;have s0:b<w.heap.size:=(Array.getElem?_eq_some_iff.1 h1).1;have m0:∀x∈es.toList,∃a∈l,x.key=enc a∧x.val=.bool true:=fun x hx=>by
  have:(x.key,x.val)∈es.toList.map (fun x=>(x.key,x.val)):=List.mem_map.2 ⟨x,hx,Z⟩;rw[h2] at this;obtain⟨a,ha,he⟩:=List.mem_map.1 this;simp only[Prod.mk.injEq] at he;exact⟨a,ha,he.1.symm,he.2.symm⟩
 have r0:∀a∈l,∃x∈es.toList,x.key=enc a:=fun a ha=>by
  have:(enc a,Value.bool true)∈l.map (fun a=>(enc a,Value.bool true)):=List.mem_map.2 ⟨a,ha,Z⟩;rw[←h2] at this;obtain⟨x,hx,he⟩:=List.mem_map.1 this;simp only[Prod.mk.injEq] at he;exact⟨x,hx,he.1⟩
 rcases Kd.find w hq es.toList (fun x hx=>by obtain⟨a,ha,he,_⟩:=m0 x hx;rw[he];exact f0 a ha) with⟨h5,h6⟩|⟨j,e0,h5,h6,h7⟩
 ·have t0:a∉l:=fun ha=>by obtain⟨x,hx,he⟩:=r0 a ha;exact h6 x hx he
  have b0:∀g,g≠b→(w.heap.setIfInBounds b (.map (es.push ⟨enc a,.bool true,a0⟩) (a0+1)))[g]?=w.heap[g]?:=fun g hg=>Array.getElem?_setIfInBounds_ne (fun e=>hg e.symm);refine o8a (w':={ w with heap:=w.heap.setIfInBounds b (.map (es.push ⟨enc a,.bool true,a0⟩) (a0+1)) }) Z Z ?_ (hk _ ?_ ?_ ?_)
  ·simp[execOp,hx,hy,hz,Instr.mapUpdate,run_underlying ht,MapKept.run_getObj_map h1,Kd.check w false hq,h5,MapKept.run_setObj_map _ h1,Result.andThen]
  ·refine S.keeps ⟨S.below.os,S.below.tape,S.below.output,by simpa using S.below.size,fun g hg hm=>?_⟩ (fun x' u0 g hg=>b0 g (fun hh=>by subst hh;exact c0.ne (S.own x' u0 g hg).2 Z));refine(b0 g (fun hh=>?_)).trans (S.below.block g hg hm);subst hh;rcases hb with hb|hb
   ·omega
   ·exact hm hb
  ·exact⟨by simp,fun g _ hm=>b0 g (fun hh=>hm (by simp[hh]))⟩
  ·refine⟨es.push ⟨enc a,.bool true,a0⟩,a0+1,by simp[s0],by simp[insL,t0,h2],fun x hx=>?_,?_⟩
   ·simp only[Array.toList_push,List.mem_append,List.mem_singleton] at hx;rcases hx with hx|rfl
    ·have:=h3 x hx;omega
    ·exact Nat.lt_succ_self _
   ·simp only[Array.toList_push,List.map_append,List.map_cons,List.map_nil];rw[List.nodup_append];exact⟨h4,by simp,fun i hi j hj=>by
     rw[List.mem_singleton.1 hj];obtain⟨x,hx,rfl⟩:=List.mem_map.1 hi;have:=h3 x hx;omega⟩
 ·have g0:=List.mem_of_getElem? h6;obtain⟨a',n0,p0,_⟩:=m0 e0 g0;have o0:a'=a:=d0 _ _ (by rw[←p0,h7]);subst o0;have i0:es.modify j (fun x=>{ x with key:=enc a',val:=.bool true })=es:=by
   apply Array.ext';rw[Array.toList_modify];apply List.ext_getElem?;intro i;rw[List.getElem?_modify];by_cases j0:j=i
   ·subst j0;rw[h6];simp;cases e0;simp_all
   ·simp[j0]
  refine o8a (w':=w) Z Z ?_ (hk w S (y0a.refl _ _) (by rw[insL,if_pos n0];exact c0));have hw:({ w with heap:=w.heap.setIfInBounds b (.map es a0) }:World)=w:=by
   have:w.heap.setIfInBounds b (.map es a0)=w.heap:=by
    apply Array.ext_getElem?;intro i;rw[Array.getElem?_setIfInBounds]
    split
    ·rename_i h;subst h;rw[h1]
    ·rfl
   rw[this]
  have hj:es[j]?=some e0:=by rw[←Array.getElem?_toList];exact h6
  simp only[execOp,hx,hy,hz,Instr.mapUpdate,Sem.run_bind,run_underlying ht,Result.andThen_ok,MapKept.run_getObj_map h1,Kd.check w false hq,h5,hj,Option.map_some,Option.getD_some,h7,Kd.stays w hq,i0,MapKept.run_setObj_map _ h1,hw,Sem.run_pure]
def z7a(enc:α→Value)(w:World)(b r:Nat)(left:List α)(cur:Option α):Prop :=
 ∃es clock since seen c0,w.heap[b]?=some (.map es clock)∧w.heap[r]?=some (.mapIter (some b) since seen c0)∧(∀x∈es.toList,x.born<since)∧since≤c0∧since≤clock∧(es.toList.map (·.born)).Nodup ∧
  ((leftOf es seen).toList.map (·.key)).Perm (left.map enc)∧∀a,cur=some a→c0=clock∧∃x∈es.toList,x.key=enc a∧∃seen':Array Nat,seen=seen'.push x.born
theorem z7a.keep{b q:Nat}{b0:List α}{f0:Option α}{w':World}(h:z7a enc w b q b0 f0)(hk:y0a M w w')(hb:b∉M)(hq:q∉M):z7a enc w' b q b0 f0:=by
 obtain⟨es,a0,d0,e0,c0,h1,h2,h3⟩:=h;exact⟨es,a0,d0,e0,c0,by rw[hk.same b (Array.getElem?_eq_some_iff.1 h1).1 hb];exact h1,by rw[hk.same q (Array.getElem?_eq_some_iff.1 h2).1 hq];exact h2,h3⟩
theorem z7a.ne{b q g tb:Nat}{cs:List Value}{a0:List α}{b0:Option α}(h:z7a enc w b q a0 b0)(hg:p0a w (g,tb,cs)):b≠g∧q≠g:=by
 obtain⟨_,_,_,_,_,h1,h2,_⟩:=h;unfold p0a at hg;exact⟨fun hh=>by subst hh;rw[h1] at hg;(cases hg),fun hh=>by subst hh;rw[h2] at hg;(cases hg)⟩
theorem z7a.keepC{b q:Nat}{a0:List α}{b0:Option α}{w':World}{Gs:List Nat}(h:z7a enc w b q a0 b0)(hk:y0a Gs w w')(hG:∀g∈Gs,∃tb cs,p0a w (g,tb,cs)):z7a enc w' b q a0 b0:=h.keep hk
 (fun hb=>by obtain⟨tb,cs,hh⟩:=hG b hb;exact(h.ne hh).1 Z) (fun hb=>by obtain⟨tb,cs,hh⟩:=hG q hb;exact(h.ne hh).2 Z)
theorem St.optBlk(S:St M w0 w L)(k:Nat){G:Option Nat}{t:TypeId}{cs:List Value}(hk:L[k]?=some (G,t,cs)):∀g∈G.toList,∃tb cs,p0a w (g,tb,cs):=fun g hg=>by
 have hG:G=some g:=by cases G with
  | none=>simp at hg
  | some x=>simp at hg;rw[hg]
 subst hG;exact⟨t,cs,S.blk k hk⟩
theorem A8b{k el:TypeId}{ty b:Nat}{l:List α}(S:St M w0 w L)(ht:P.underlying ty=some (.map k el))(h:x7a enc w b l)(hx:ev e x=.map (some b))(hd:Nat.ble (d+1) N=true)
 (hk:∀q w1,St M w0 w1 L→y0a [] w w1→w.heap.size≤q→z7a enc w1 b q l none→WL P r N ops rest K D (upd e d (.pointer (some ⟨q,0,none⟩))) w1) :
 WL P r N ops (⟨some d,.range ty x,t,p,af,none⟩::rest) K D e w:=by
 obtain⟨es,a0,h1,h2,h3,h4⟩:=h;refine X0a (v:=.pointer (some ⟨w.heap.size,0,none⟩)) (w':=w.alloc (.mapIter (some b) a0 #[] a0)) Z Z hd ?_ (hk _ _ (S.keeps (S.below.alloc _) fun b hb g hg=>Below.heap_alloc w _ g ((S.own b hb g hg).2.lt)) (W1a _ _ _) (Nat.le_refl _) ⟨es,a0,a0,#[],a0,?_,?_,h3,Nat.le_refl _,Nat.le_refl _,h4,?_,fun a ha=>by cases ha⟩)
 ·simp[execOp,hx,run_range_map w ty k el b es a0 ht h1]
 ·rw[Below.heap_alloc w _ b (Array.getElem?_eq_some_iff.1 h1).1];exact h1
 ·exact Go.heap_alloc_new w _
 ·have e1:(leftOf es #[]).toList=es.toList:=by simp[leftOf]
  have e2:es.toList.map (·.key)=l.map enc:=by
   have:=congrArg (List.map Prod.fst) h2;simpa[List.map_map,Function.comp_def] using this
  rw[e1,e2]
theorem Q0b{β γ:Type}[BEq γ][LawfulBEq γ](f:β→γ):∀(l:List β),(l.map f).Nodup→∀a∈l,l.Perm (a::l.filter (fun x=>f x != f a))
 | [],_,a,h=>by cases h
 | x::l,hn,a,h=>by
   rw[List.map_cons,List.nodup_cons] at hn;rcases List.mem_cons.1 h with rfl|h
   ·have:l.filter (fun x=>f x != f a)=l:=List.filter_eq_self.2 fun y hy=>by
     simp only[bne_iff_ne];exact fun hh=>hn.1 (by rw[←hh];exact List.mem_map.2 ⟨y,hy,Z⟩)
    rw[List.filter_cons_of_neg (by simp),this]
   ·have hx:f x≠f a:=fun hh=>hn.1 (by rw[hh];exact List.mem_map.2 ⟨a,h,Z⟩);rw[List.filter_cons_of_pos (by simpa using hx)];exact((Q0b f l hn.2 a h).cons x).trans (List.Perm.swap _ _ _)
theorem h1c{b q:Nat}{g0:List α}{p0:Option α}(S:St M w0 w L)(h:z7a enc w b q g0 p0)(hq:w0.heap.size≤q∨q∈M)(hx:ev e x=.pointer (some ⟨q,0,none⟩))(hd:Nat.ble (d+1) N=true)
 (h1:g0=[]→WL P r N ops rest K D (upd e d (.tuple #[.bool false])) w)
 (h2:∀a i0 v w1,g0.Perm (a::i0)→St M w0 w1 L→y0a [q] w w1→z7a enc w1 b q i0 (some a)→WL P r N ops rest K D (upd e d (.tuple #[.bool true,enc a,v])) w1) :
 WL P r N ops (⟨some d,.next x false,t,p,af,none⟩::rest) K D e w:=by
 have hm:=h;obtain⟨es,b0,f0,a0,c0,k1,k2,k3,k4,k8,k5,k6,_⟩:=h;rcases run_next_at (P:=P) w t q b f0 c0 a0 es b0 k2 k1 k3 k4 with⟨q1,q2⟩|⟨e0,q1,w1,q2,q3⟩
 ·refine X0a (v:=.tuple #[.bool false]) (w':=w) Z Z hd (by simp[execOp,hx,q2]) (h1 ?_);have h0:(leftOf es a0).toList=[]:=by
   have:(leftOf es a0).toList.length=0:=by simpa using q1
   exact List.length_eq_zero_iff.1 this
  rw[h0] at k6;have h9:=k6.length_eq;exact List.length_eq_zero_iff.1 (by simpa using h9.symm)
 ·have s0:e0.key∈g0.map enc:=k6.subset (List.mem_map.2 ⟨e0,q1,Z⟩);obtain⟨a,ha,o0⟩:=List.mem_map.1 s0;obtain⟨s,u,rfl⟩:=List.append_of_mem ha;have t0:q<w.heap.size:=(Array.getElem?_eq_some_iff.1 k2).1;have n0:w1.heap=w.heap:=by rcases q2 with rfl|rfl<;>rfl
  have d0:∀g,g≠q→(ChangeMaps.setBlock w1 q (.mapIter (some b) f0 (a0.push e0.born) b0)).heap[g]?=w.heap[g]?:=fun g hg=>by
   show(w1.heap.setIfInBounds q _)[g]?=_
   rw[Array.getElem?_setIfInBounds_ne (fun e=>hg e.symm),n0]
  have r0:b≠q:=by rintro rfl;rw[k1] at k2;cases k2
  refine X0a (v:=.tuple #[.bool true,e0.key,e0.val]) Z Z hd (by simp only[execOp,hx,Sem.run_bind];rw[q3];rfl) (?_:WL P r N ops rest K D (upd e d (.tuple #[.bool true,e0.key,e0.val])) _);rw[←o0];have j0:=mem_left q1;refine h2 a (s++u) _ _ List.perm_middle ?_ ?_ ?_
  ·refine S.keeps ⟨?_,?_,?_,?_,fun g hg m0=>?_⟩ (fun x' u0 g hg=>d0 g (fun hh=>by subst hh;exact(hm.ne (S.own x' u0 g hg).2).2 Z))
   ·rcases q2 with rfl|rfl<;>exact S.below.os
   ·rcases q2 with rfl|rfl<;>exact S.below.tape
   ·rcases q2 with rfl|rfl<;>exact S.below.output
   ·show _≤(w1.heap.setIfInBounds q _).size
    rw[Array.size_setIfInBounds,n0];exact S.below.size
   ·refine(d0 g (fun hh=>?_)).trans (S.below.block g hg m0);subst hh;rcases hq with hq|hq
    ·omega
    ·exact m0 hq
  ·exact⟨by show _≤(w1.heap.setIfInBounds q _).size;rw[Array.size_setIfInBounds,n0];exact Nat.le_refl _,fun g _ m0=>d0 g (fun hh=>m0 (by simp[hh]))⟩
  ·refine⟨es,b0,f0,a0.push e0.born,b0,by rw[d0 b r0];exact k1,?_,k3,k8,k8,k5,?_,fun a' q0=>?_⟩
   ·show(w1.heap.setIfInBounds q _)[q]?=_
    rw[Array.getElem?_setIfInBounds_self_of_lt];rw[n0];exact t0
   ·have hp:=Q0b (fun(x:MapEntry)=>x.born) (leftOf es a0).toList (by
     have:(leftOf es a0).toList=es.toList.filter (fun e=>!a0.contains e.born):=by simp[leftOf]
     rw[this];exact k5.sublist (List.Sublist.map _ List.filter_sublist)) e0 q1
    have hf:(leftOf es a0).toList.filter (fun x=>x.born != e0.born)=(leftOf es (a0.push e0.born)).toList:=by
     simp only[leftOf,Array.toList_filter,List.filter_filter];apply List.filter_congr;intro x _;rw[contains_push];cases a0.contains x.born<;>simp[bne]
    rw[hf] at hp;have h8:=(hp.map (·.key)).symm.trans k6;rw[List.map_cons,←o0] at h8;have h9:((s++a::u).map enc).Perm (enc a::(s++u).map enc):=by
     rw[←List.map_cons];exact List.perm_middle.map enc
    exact(h8.trans h9).cons_inv
   ·cases q0;exact⟨Z,e0,j0.1,o0.symm,a0,Z⟩
theorem w7b{b q:Nat}{c0:List α}{a:α}(h:z7a enc w b q c0 (some a))(hx:ev e x=.pointer (some ⟨q,0,none⟩))(hd:Nat.ble (d+1) N=true)
 (h1:∀v,WL P r N ops rest K D (upd e d (.tuple #[enc a,v])) w):WL P r N ops (⟨some d,.entry x,t,p,af,none⟩::rest) K D e w:=by
 obtain⟨es,_,b0,_,_,k1,k2,_,_,_,k5,_,k7⟩:=h;obtain⟨rfl,x0,d0,hk,a0,rfl⟩:=k7 a Z;have hr:=run_entry_at (P:=P) w q b b0 a0 es _ x0 k2 k1 d0 k5;have h2:=h1 x0.val;rw[←hk] at h2;refine X0a Z Z hd ?_ h2;simp only[execOp,hx,Sem.run_bind];rw[hr];rfl
end
structure W6b where
 id:ByteArray
 kind:Int
 module_:Int
 thread:Int
 item:Int
 other:Int
 hyp:E
 goal:E
def O1b(M:List Nat)(w:World)(c:W6b)(cs:List Value):Prop :=
 ∃ch cg,cs=[.string c.id,.int .i64 c.kind,.int .i64 c.module_,.int .i64 c.thread,.int .i64 c.item,.int .i64 c.other]++ch++cg∧RdE M w c.hyp ch∧RdE M w c.goal cg
theorem O1b.keep{M:List Nat}{w w':World}{c:W6b}{cs:List Value}(h:O1b M w c cs)(hk:y0a M w w'):O1b M w' c cs:=by
 obtain⟨ch,cg,h1,h2,h3⟩:=h;exact⟨ch,cg,h1,RdE.keep hk _ _ h2,RdE.keep hk _ _ h3⟩
theorem O1b.more{M M':List Nat}{w:World}{c:W6b}{cs:List Value}(h:O1b M w c cs)(hM:∀g∈M',g∈M∨w.heap.size≤g):O1b M' w c cs:=by
 obtain⟨ch,cg,h1,h2,h3⟩:=h;exact⟨ch,cg,h1,RdE.more hM _ _ h2,RdE.more hM _ _ h3⟩
def W6b.sup(op:Int)(c:W6b):List Int:=J1d (c.hyp.sup op) (c.goal.sup op)
def W6b.formed(cells:List I1a)(c:W6b):Bool:=c.hyp.valid cells true&&(c.goal.valid cells true&&(decide (c.hyp.w=1)&&decide (c.goal.w=1)))
theorem s0d(k:Nat)(hk:k≤1000000)(w0:World):O0a prog 182 #[.slice none 0 0,.int .i64 (k:Int)] w0 fun v w'=>z3a 3 w0 w' v []∧Bw w0 w':=by
 have S:=St.refl w0;refine a0a func182 Z ntmps182 Z ?_;refine wB0 Z U (fun h6=>by exfalso;omega) fun h6=>?_;refine lB0 Z ⟨by omega,by omega,U⟩ (fun e0=>?_) fun e0=>?_
 ·refine lO0 Z U (p9b T0a.slT Z Z Z ?_);refine lO0 Z U ?_;refine C0c (k:=k) S T0a Z Tryz.underlying3 Z (by show Value.int .i64 _=_;exact congrArg _ (by omega)) (by omega) (by omega) (by omega) Z ?_;intro c0 a0 j0 b0 i0 f0 g0 d0;refine lO0 Z U (y7c (k:=0) T0a.slT Z Z (by omega) (by omega) Z ?_);refine lR0 Z U (A0a Z ?_);exact⟨⟨some c0,List.replicate a0 (.int .i64 0),⟨Z,.inr ⟨c0,a0,Z,Z,Nat.zero_le _,f0,by simp,by simp⟩⟩,fun g hg=>by cases hg;exact⟨d0,b0.blk 0 Z⟩⟩,b0.nil.fin⟩
 refine lR0 Z U (A0a Z ?_);exact⟨⟨none,[],b4a.nil 1,fun g hg=>by cases hg⟩,S.fin⟩
theorem h7b(ls:List (List Int))(k:Nat)(h:k<ls.length):(ls.take (k+1)).flatten=(ls.take k).flatten++ls[k]:=by
 induction ls generalizing k with
 | nil=>simp at h
 | cons x xs ih =>
   cases k with
   | zero=>simp
   | succ k=>simp only[List.take_succ_cons,List.flatten_cons,List.getElem_cons_succ];rw[ih k (by simpa using h),List.append_assoc]
theorem t0d(ls:List (List Int))(hl:∀l∈ls,l.length≤1000)(k:Nat):k≤ls.length→(ls.take k).flatten.length≤1000*k:=by
 induction k with
 | zero=>intro _;simp
 | succ k ih =>
   intro h;rw[h7b ls k (by omega),List.length_append];have:=ih (by omega);have:=hl ls[k] (List.getElem_mem (by omega));omega
theorem V5a(M:List Nat)(w0:World)(g:Nat)(ls:List (List Int))(hl:∀l∈ls,l.length≤1000)(H0:ls.length≤100)
 (s0:∀(k:Nat) (h:k<ls.length),∃A n c,w0.cell? ⟨g,0+k*1,none⟩=some (.slice A n c)∧RdI M w0 (.slice A n c) ls[k]) :
 O0a prog 130 #[.slice (some ⟨g,0,none⟩) ls.length ls.length] w0 fun v w'=>z3a 3 w0 w' v ls.flatten∧Bw w0 w':=by
 have S:=St.refl w0;refine a0a func130 Z ntmps130 Z ?_;refine wC0 Z U (wL (fun μ D ε w=>D=[]∧∃k:Nat,(k+μ=ls.length)∧St [] w0 w []∧ε 0=.slice (some ⟨g,0,none⟩) ls.length ls.length∧ε 3=.int .i64 ((ls.take k).flatten.length:Nat)∧ε 9=.slice (some ⟨g,0,none⟩) ls.length ls.length∧ε 10=.int .i64 (ls.length:Nat)∧ε 11=.int .i64 (k:Nat)) (μ:=ls.length) ⟨Z,0,by omega,S,Z,Z,Z,Z,Z⟩ ?_);rintro μ D ε w ⟨rfl,k,_,S,e0,e3,e9,n0,o0⟩;refine s0a 0 e0 (s0a 3 e3 (s0a 9 e9 (s0a 10 n0 (s0a 11 o0 ?_))));clear e0 e3 e9 n0 o0;refine wB0 Z U (fun y0=>?_) fun y0=>?_
 ·have f0:k<ls.length:=by omega
  obtain⟨A,n,c,a0,hR⟩:=s0 k f0;obtain⟨hn,_⟩:=hR.at;have g0:=h7b ls k f0;have t0:=t0d ls hl (k+1) (by omega);have B0:(ls.take (k+1)).flatten.length=(ls.take k).flatten.length+n:=by rw[g0,List.length_append,hn]
  refine lO S.k [.i] Z ⟨by omega,U⟩ (L0a L5a Z (by first|exact S.old a0) Z ?_);refine lB0 Z ⟨by omega,U⟩ (fun z0=>by exfalso;omega) fun z0=>?_;refine lP0 Z ⟨by omega,U⟩ ⟨μ-1,by omega,Z,k+1,by omega,S,Z,?_,Z,Z,Z⟩;rw[B0];rfl
 refine lO0 Z U ?_;refine o0a S O6c Z Z (s0d _ (by have:=t0d ls hl k (by omega);omega) _) ?_;rintro D0 I0 C0 i0 F0;obtain⟨u0,j0,c0,i0⟩:=C0.open_ i0 S;refine G0a Z ?_;refine lC0 Z U (wL (fun μ D ε w=>D=[]∧∃k2:Nat,∃G:Option Nat,∃cs:List Value,∃v:Value,(k2+μ=ls.length)∧(b4a G 1 (ls.take k2).flatten.length cs v ((ls.take k2).flatten.map (Value.int .i64)))∧St [] w0 w [(G,3,cs)]∧ε 6=v∧ε 25=.slice (some ⟨g,0,none⟩) ls.length ls.length∧ε 26=.int .i64 (ls.length:Nat)∧ε 27=.int .i64 (k2:Nat)) (μ:=ls.length) ⟨Z,0,u0,j0,D0,by omega,by simpa using c0,i0,Z,Z,Z,Z⟩ ?_);rintro μ D ε w ⟨rfl,k2,G,cs,v,_,b0,S,e6,p0,q0,r0⟩;refine s0a 6 e6 (s0a 25 p0 (s0a 26 q0 (s0a 27 r0 ?_)));clear e6 p0 q0 r0;refine wB0 Z U (fun A0=>?_) fun A0=>?_
 ·have f0:k2<ls.length:=by omega
  obtain⟨A,n,c,a0,hR⟩:=s0 k2 f0;have g0:=h7b ls k2 f0;have t0:=t0d ls hl (k2+1) (by omega);rw[g0,List.length_append] at t0;refine lO S.k [.i] Z ⟨by omega,U⟩ (L0a L5a Z (by exact S.old a0) Z ?_);refine lOn 4 S.k [] Z U (N0a Z ?_);refine lO0 Z U (h5a (k:=0) S T0a Z b0 Z Z (hR.keep (S.keep0 M)) (by omega) Z ?_);intro E0 v0 m0 J0 x0 d0 G0;refine G0a Z ?_;refine lP0 Z ⟨by omega,U⟩ ⟨μ-1,by omega,Z,k2+1,v0,m0,E0,by omega,?_,x0,Z,Z,Z,Z⟩;rw[g0];exact d0
 refine lOn 8 S.k [] Z U (N0a Z ?_);refine G0a Z ?_;refine lR0 Z U (A0a Z ?_);obtain rfl:k2=ls.length:=by omega
 rw[List.take_length] at b0;exact⟨⟨G,cs,b0,fun g hg=>by subst hg;exact⟨by have:=S.new 0 Z;simpa using this,S.blk 0 Z⟩⟩,S.nil.fin⟩
theorem u2b{w:World}{g el:Nat}{cs:List Value}{d:List Int}(hb:p0a w (g,el,cs))(hd:d.length≤cs.length:=by omega):
 p0a (putRow (Value.int .i64) w g 0 d.toArray) (g,el,d.map (Value.int .i64)++cs.drop d.length):=by
 have a0:w.heap[g]?=some (.cells cs.toArray el (0,0)):=hb;unfold p0a putRow mapBlock;simp only[Array.getElem?_modify,if_true,a0,Option.map_some,onCells]
 congr 2
 apply Array.ext
 ·simp[putCells];omega
 ·intro i h1 h2;simp only[putCells,Array.size_mapIdx,List.size_toArray] at h1;simp only[putCells,Array.getElem_mapIdx,List.getElem_toArray,Nat.zero_le,true_and,Nat.zero_add,List.size_toArray,Nat.sub_zero];by_cases hi:i<d.length
  ·rw[if_pos hi,List.getElem_append_left (by simpa using hi)];simp[hi]
  ·rw[if_neg hi,List.getElem_append_right (by simpa using hi)];simp
   congr 1
   omega
theorem W8a{w:World}{g q:Nat}{d:List Int}(os:Array Obj):E0a [g] w (grow (putRow (Value.int .i64) (Sort.ahead w q) g 0 d.toArray) os):=by
 refine⟨Z,Z,Z,?_,fun i hi hm=>?_⟩
 ·simp[grow,putRow,mapBlock,Sort.ahead]
 ·have a0:¬g=i:=fun h=>hm (by simp[h]);simp only[grow,putRow,mapBlock,Sort.ahead];rw[Array.getElem?_append_left (by simpa using hi),Array.getElem?_modify,if_neg a0]
theorem U4b{w:World}{g el:Nat}{cs:List Value}{zs:List Int}(hb:p0a w (g,el,cs))(hc:cs.take zs.length=zs.map (Value.int .i64)):Holds (Value.int .i64) w g 0 zs.toArray:=by
 intro j hj;have a0:j<zs.length:=by simpa using hj
 refine⟨?_,hb.frozen _⟩;rw[Nat.zero_add];refine hb.cell ?_;have h1:(cs.take zs.length)[j]?=some (.int .i64 zs[j]):=by rw[hc];simp[a0]
 rw[List.getElem?_take,if_pos a0] at h1;rw[h1];simp[a0]
def o3a(zs:List Int):List Int:=zs.mergeSort fun x y=>decide (x≤y)
theorem P9c(w:World)(g el b0:Nat)(cs:List Value)(zs:List Int)(hb:p0a w (g,el,cs))(hc:cs.take zs.length=zs.map (Value.int .i64))(hl:zs.length≤cs.length)(hz:zs.length≤1000000):
 O0a prog 92 #[.slice (some ⟨g,0,none⟩) zs.length b0] w fun _ w'=>E0a [g] w w'∧p0a w' (g,el,(o3a zs).map (Value.int .i64)++cs.drop zs.length):=by
 refine Calls.mono (Tryz.slices_Sort_int g 0 b0 zs w (U4b hb hc) hb.lt (by omega)) ?_;rintro e w' ⟨rfl,n,os,rfl⟩;have a0:(o3a zs).length=zs.length:=by simp[o3a]
 refine⟨_,Z,W8a os,?_⟩;have c0:p0a (Sort.ahead w n) (g,el,cs):=hb;have:=u2b (d:=o3a zs) c0;rw[a0] at this;unfold p0a at this ⊢;rw[heap_grow_old _ os (by simpa[putRow,mapBlock,Sort.ahead] using hb.lt)];exact this
theorem m9b(w:World)(g el b0:Nat)(cs:List Value)(zs:List Int)(hb:p0a w (g,el,cs))(hc:cs.take zs.length=zs.map (Value.int .i64))(hl:zs.length≤cs.length)(hz:zs.length≤1000000)(c0:zs.length≤b0):
 O0a prog 132 #[.slice (some ⟨g,0,none⟩) zs.length b0] w fun v w'=>v=.slice (some ⟨g,0,none⟩) (Lib.compact zs).length b0∧E0a [g] w w' ∧
  p0a w' (g,el,(Lib.compact zs++List.replicate (zs.length-(Lib.compact zs).length) 0).map (Value.int .i64)++cs.drop zs.length):=by
 refine Calls.mono (Tryz.slices_Compact_int g 0 b0 zs w (U4b hb hc) (by omega) c0) ?_;rintro e w' ⟨rfl,n,rfl⟩;have g0:=Lib.compact_length_le zs;have d0:(Lib.compact zs++List.replicate (zs.length-(Lib.compact zs).length) 0).length=zs.length:=by simp;omega
 have e0:p0a (Sort.ahead w n) (g,el,cs):=hb;have:=u2b (d:=Lib.compact zs++List.replicate (zs.length-(Lib.compact zs).length) 0) e0;rw[d0] at this;have a0:=W8a (w:=w) (g:=g) (q:=n) (d:=Lib.compact zs++List.replicate (zs.length-(Lib.compact zs).length) 0) #[];have f0:∀W:World,grow W #[]=W:=fun W=>by simp[grow]
 rw[f0] at a0;exact⟨_,Z,Z,a0,this⟩
theorem B2b:∀(a b:List Int),a.Pairwise (·<·)→b.Pairwise (·<·)→(∀x,x∈a↔x∈b)→a=b
 | [],[],_,_,_=>rfl
 | [],y::b,_,_,h=>absurd ((h y).2 (by simp)) (by simp)
 | x::a,[],_,_,h=>absurd ((h x).1 (by simp)) (by simp)
 | x::a,y::b,ha,hb,h=>by
   rw[List.pairwise_cons] at ha hb;have a0:x=y:=by
    have h1:=(h x).1 (by simp);have h2:=(h y).2 (by simp);rcases List.mem_cons.1 h1 with h1|h1
    ·exact h1
    ·rcases List.mem_cons.1 h2 with h2|h2
     ·exact h2.symm
     ·have:=ha.1 y h2;have:=hb.1 x h1;omega
   subst a0;rw[B2b a b ha.2 hb.2 fun z=>?_];constructor
   ·intro hz;rcases List.mem_cons.1 ((h z).1 (by simp[hz])) with h3|h3
    ·have:=ha.1 z hz;omega
    ·exact h3
   ·intro hz;rcases List.mem_cons.1 ((h z).2 (by simp[hz])) with h3|h3
    ·have:=hb.1 z hz;omega
    ·exact h3
theorem y1a.toV{M:List Nat}{w1:World}{G:Option Nat}{cs:List Value}{v:Value}{l:List Int}(h:y1a (fun _ _=>e9c) 1 M w1 G cs v l):b4a G 1 l.length cs v (l.map (Value.int .i64)):=by
 obtain⟨css,h1,_,h3,h4⟩:=h;have e1:css.flatten=l.map (Value.int .i64):=by
  have key:∀(css:List (List Value)) (l:List Int),css.length=l.length→(∀(i:Nat) (x:Int),l[i]?=some x→∃c,css[i]?=some c∧e9c c x)→css.flatten=l.map (Value.int .i64):=by
   intro css
   induction css with
   | nil=>intro l hl _;cases l with
     | nil=>rfl
     | cons=>simp at hl
   | cons c css ih =>
     intro l hl hx;cases l with
     | nil=>simp at hl
     | cons x l =>
       obtain⟨_,hc,hr⟩:=hx 0 x Z;simp at hc;subst hc;rw[List.flatten_cons,hr.1,ih l (by simpa using hl) (fun i y hy=>by simpa using hx (i+1) y (by simpa using hy))];rfl
  exact key css l h1 h4
 rwa [e1] at h3
def R3b(p:j0a)(t k j:Nat)(x:Int):Prop:=(∃u th s,u<k∧u≠t∧p.threads[u]?=some th∧s∈th.steps∧s.module_=x)∨∃th s,p.threads[k]?=some th∧s∈th.steps.take j∧s.module_=x
theorem R3b.zero{p:j0a}{t:Nat}{x:Int}:¬R3b p t 0 0 x:=by
 rintro(⟨u,th,s,h,_⟩|⟨th,s,_,h,_⟩)
 ·omega
 ·simp at h
theorem R3b.step{p:j0a}{t k j:Nat}{th:s1a}{s:Z0a}{x:Int}(h:p.threads[k]?=some th)(hs:th.steps[j]?=some s):R3b p t k (j+1) x↔R3b p t k j x∨x=s.module_:=by
 unfold R3b;rw[or_assoc];refine or_congr Iff.rfl ?_;constructor
 ·rintro⟨a0,s',h1,h2,h3⟩;rw[h] at h1;cases h1;rw[t0a hs] at h2;rcases List.mem_append.1 h2 with h2|h2
  ·exact .inl ⟨th,s',h,h2,h3⟩
  ·rw[List.mem_singleton.1 h2] at h3;exact .inr h3.symm
 ·rintro(⟨a0,s',h1,h2,h3⟩|h1)
  ·rw[h] at h1;cases h1;exact⟨th,s',h,by rw[t0a hs];exact List.mem_append_left _ h2,h3⟩
  ·exact⟨th,s,h,by rw[t0a hs];simp,h1.symm⟩
theorem R3b.next{p:j0a}{t k:Nat}{th:s1a}{x:Int}(h:p.threads[k]?=some th)(hk:k≠t):R3b p t (k+1) 0 x↔R3b p t k th.steps.length x:=by
 unfold R3b;constructor
 ·rintro(⟨u,a0,s,h1,h2,h3,h4⟩|⟨a0,s,_,h2,_⟩)
  ·by_cases hu:u=k
   ·subst hu;rw[h] at h3;cases h3;exact .inr ⟨th,s,h,by rw[List.take_length];exact h4⟩
   ·exact .inl ⟨u,a0,s,by omega,h2,h3,h4⟩
  ·simp at h2
 ·rintro(⟨u,a0,s,h1,h2⟩|⟨a0,s,h1,h2⟩)
  ·exact .inl ⟨u,a0,s,by omega,h2⟩
  ·rw[h] at h1;cases h1;rw[List.take_length] at h2;exact .inl ⟨k,th,s,by omega,hk,h,h2⟩
theorem R3b.skip{p:j0a}{t k:Nat}{x:Int}(hk:k=t):R3b p t (k+1) 0 x↔R3b p t k 0 x:=by
 unfold R3b;constructor
 ·rintro(⟨u,a0,s,h1,h2,h3⟩|⟨a0,s,_,h2,_⟩)
  ·exact .inl ⟨u,a0,s,by omega,h2,h3⟩
  ·simp at h2
 ·rintro(⟨u,a0,s,h1,h2⟩|⟨a0,s,h1,h2,_⟩)
  ·exact .inl ⟨u,a0,s,by omega,h2⟩
  ·simp at h2
def q4d(p:j0a)(t m:Nat):Bool:=(List.range p.threads.length).any fun u=>decide (u≠t)&&(b3a p u).any fun s=>decide (s.module_=m)
def f7c(p:j0a)(t:Nat):List Int:=((List.range p.modules.length).filter (q4d p t)).map Int.ofNat
theorem D2b(p:j0a)(M:List Nat)(w0:World)(cs:List Value)(hI:InP p M w0 cs):
 O0a prog 53 #[.agg cs.toArray] w0 fun v w'=>v=.bool true∧Bw w0 w':=by
 obtain⟨_,_,_,_,_,_,_,_,_,_,_,_,rfl,_⟩:=hI.rd.open_;have S:=St.refl w0;refine a0a func53 Z ntmps53 Z ?_;refine wO0 Z U (r0a S Z ?_);intro g1 w1 S1 X1 G1;refine lO S1.k [.w 0] Z ⟨⟨Z,by rfl⟩,U⟩ (W0a S1 p2b Z Z (M5a p M _ _ (hI.keep (S1.keep0 M)).rd hI.ok (hI.keep (S1.keep0 M)).msk (hI.keep (S1.keep0 M)).lt) ?_);intro w8 S8 X8;refine lB0 Z U (fun a0=>?_) (fun a0=>by exfalso;omega);exact lT Z U Z ⟨Z,S8.fin⟩
theorem u5b(a b:Int)(h:Value.int .i64 a=.int .i64 b):a=b:=by injection h
theorem e8c{op unit:Int}{l:List E}(h:∀e∈l,e.w=1):(C4a op unit l).w=1:=by
 cases l with
 | nil=>rfl
 | cons e es =>
   have key:∀(es:List E) (acc:E),acc.w=1→(es.foldl (jnE op) acc).w=1:=by
    intro es
    induction es with
    | nil=>intro acc h;exact h
    | cons x xs ih=>intro acc _;exact ih _ Z
   exact key es e (h e (by simp))
theorem S9a{op unit:Int}(hu:unit=0∨unit=1)(l:List E):d3a op unit l=zE∨((d3a op unit l).wf=true∧(d3a op unit l).w=1):=by
 unfold d3a
 split
 ·rename_i h
  split
  ·right;rcases hu with rfl|rfl
   ·exact⟨by decide,Z⟩
   ·exact⟨by decide,Z⟩
  ·split
   ·rename_i hw;exact .inr ⟨hw,e8c fun e he=>(B0b (List.all_eq_true.1 h e (List.mem_filter.1 he).1)).1⟩
   ·exact .inl Z
 ·exact .inl Z
def W3d(p:j0a)(t:Nat):E:=d3a 6 0 ((f7c p t).map (q2a p))
def onE(p:j0a)(t:Nat):E:=d3a 5 1 (W3d p t::(ofL p t).map (g4a p))
theorem w8a(p:j0a)(m:Nat)(md:P0a)(b0:p.modules[m]?=some md)(M:List Nat)(w0:World)(cs:List Value)(hI:InP p M w0 cs):
 O0a prog 20 #[.agg cs.toArray,.int .i64 m] w0 fun v w'=>(∃cs:List Value,v=.agg cs.toArray∧RdE M w' (q2a p m) cs)∧Bw w0 w':=by
 obtain⟨_,_,_,_,_,_,_,_,_,_,_,_,rfl,_⟩:=hI.rd.open_;have S:=St.refl w0;have hM:=hI.lt;have n0:=M2a b0;refine a0a func20 Z ntmps20 Z ?_;refine wO0 Z U (r0a S Z ?_);intro g2 w2 S2 X2 G2;refine h0a S2 w1a Z Z ?_;intro g4 w4 S4 X4 G4;refine lB0 Z U (fun h6=>by exfalso;omega) fun h6=>?_;refine lB S4.k [.o 1] Z ⟨Z,U⟩ (fun g0=>by exfalso;omega) fun g0=>?_;refine lO S4.k [.w 1] Z ⟨⟨Z,Z⟩,U⟩ (W0a S4 e6c Z Z (D2b p M _ _ (hI.keep (S4.keep0 M))) ?_);intro o0 d0 j0;refine lO d0.k [.w 1] Z ⟨⟨Z,Z⟩,U⟩ (o0a d0 n1d Z Z (R1c p m md b0 (g4::M) _ _ (hI.add d0 (k:=0) Z)) ?_);rintro v22 p0 ⟨_,rfl,c0⟩ f0 m0;obtain⟨_,_,_,rfl,-⟩:=c0.open_;refine b0a (kk:=0) (vs:=[_,_,_,_]) f0 w0a Z Z Z Z Z Z Z ?_;intro i0 a0 e0;dsimp only[d0a,List.set] at a0;replace c0:=RdE.keep (e0.mono (by simp)) _ _ c0;exact lR0 Z U (g0a Z m0a Z (a0.cells 0 Z) Z ⟨⟨_,Z,RdE.less (fun x hx=>List.mem_cons_of_mem _ hx) _ _ c0⟩,a0.fin⟩)
theorem s8c{w w':World}(h:Below w.heap.size w w')(hd:w.drawn≤w'.drawn):∃q os,w'=grow (w.drewN q) os:=by
 refine⟨w'.drawn-w.drawn,w'.heap.extract w.heap.size w'.heap.size,?_⟩;obtain⟨h1,h2,h3,_,h5⟩:=h;cases w;cases w';simp only[grow,World.drewN] at *;subst h1 h2 h3
 congr 1
 ·apply Array.ext_getElem?;intro i;rw[Array.getElem?_append]
  split
  ·rename_i h;exact h5 i h
  ·rename_i h;rw[Array.getElem?_extract]
   split
   ·congr 1;omega
   ·rw[Array.getElem?_eq_none (by omega)]
 ·omega
section
variable {P:Program} {r:Option Nat} {N:Nat} {D:List Deferred} {e:Env} {w w0:World} {ops:Array Oper} {rest:List Oper} {K:List Deferred→Env→World→Prop} {L:List Ent} {M:List Nat}
variable {d:Nat} {t:TypeId} {p:String} {af:Array Edge} {x y:Operand}
theorem f6c{el:TypeId}{x:Operand}{cs:List Value}(S:St M w0 w L)(hd:Nat.ble (d+1) N=true)
 (h:∀g w1,St M w0 w1 ((some g,el,cs)::L)→y0a [] w w1→w1.drawn=w.drawn→WL P r N ops rest K D (upd e d (.pointer (some ⟨g,0,none⟩))) w1) (hv:ev e x=.agg cs.toArray:=by conv=>lhs;whnf) :
 WL P r N ops (⟨some d,.box el x,t,p,af,none⟩::rest) K D e w:=by
 refine X0a (v:=.pointer (some ⟨w.heap.size,0,none⟩)) (w':=w.alloc (.cells cs.toArray el)) Z Z hd ?_ (h _ _ (S.alloc el cs) (W1a _ _ _) Z);simp[execOp,Instr.box,newVar,newRow,hv,Value.cells]
theorem m3b{ty el size b0 n:Nat}{z:Value}{a0:Array (Nat×Operand)}{vs:List Value}{cs:List Value}(S:St M w0 w L)(hS:SlZ P ty el size z b0)
 (f0:a0.toList.map (fun q=>(q.1,ev e q.2))=(vs.zipIdx 0).map fun q=>(q.2,q.1)) (hn:vs.length=n) (h0:Nat.ble 1 n=true) (c0:Nat.ble (n*size) 16777216=true) (hv:vs.map (·.cells.size)=List.replicate n size)
 (e0:vs.flatMap (·.cells.toList)=cs) (hd:Nat.ble (d+1) N=true)
 (h:∀g w1,St M w0 w1 ((some g,el,cs)::L)→y0a [] w w1→w1.drawn=w.drawn→WL P r N ops rest K D (upd e d (.slice (some ⟨g,0,none⟩) n n)) w1) :
 WL P r N ops (⟨some d,.buildSlice ty n a0,t,p,af,none⟩::rest) K D e w:=by
 have hp:(a0.map fun(i,x)=>(i,ev e x))=((vs.zipIdx 0).map fun q=>(q.2,q.1)).toArray:=by rw[←f0];apply Array.ext';simp
 have hv':∀v∈vs,v.cells.size=size:=fun v hm=>by
  have:v.cells.size∈vs.map (·.cells.size):=List.mem_map.2 ⟨v,hm,Z⟩;rw[hv] at this;exact(List.mem_replicate.1 this).2
 have d0:=K3a hS hn (Nat.le_of_ble_eq_true h0) (Nat.le_of_ble_eq_true c0) hv' w;subst e0;refine X0a (v:=.slice (some ⟨w.heap.size,0,none⟩) n n) (w':=w.alloc (.cells (vs.flatMap (·.cells.toList)).toArray el)) Z Z hd ?_ (h _ _ (S.alloc el _) (W1a _ _ _) Z);simp only[execOp,hp,Sem.run_bind,d0,Result.andThen_ok,Sem.run_pure]
end
def Z5c(a b:Int×Int):Int:=if Lib.compareInt a.1 b.1=0 then Lib.compareInt a.2 b.2 else Lib.compareInt a.1 b.1
def pc(a:Int×Int):List Value:=[.int .i64 a.1,.int .i64 a.2]
def pcs(l:List (Int×Int)):List Value:=(l.map pc).flatten
theorem V6a(l:List (Int×Int)):(pcs l).length=l.length*2:=by
 unfold pcs;rw[v3a (size:=2) _ (fun x hx=>by obtain⟨a,_,rfl⟩:=List.mem_map.1 hx;rfl)];simp
theorem u1c{l:List (Int×Int)}{i:Nat}{a:Int×Int}(h:l[i]?=some a)(j:Nat)(u:Value)(hj:(pc a)[j]?=some u):(pcs l)[i*2+j]?=some u :=
 o9b (size:=2) (l.map pc) i (pc a) (fun x hx=>by obtain⟨a,_,rfl⟩:=List.mem_map.1 hx;rfl) (by simp[h]) j u hj
theorem P7b(l:List (Int×Int)):flatK pc 2 l.toArray=(pcs l).toArray:=by
 apply Array.ext
 ·simp[V6a]
 ·intro t h1 h2;simp only[size_flatK,List.size_toArray] at h1;have hi:t / 2<l.length:=by omega
  have hp:=u1c (l:=l) (i:=t / 2) (List.getElem?_eq_getElem hi) (t % 2) ((pc l[t / 2])[t % 2]'(by simp[pc];omega)) (List.getElem?_eq_getElem _);rw[show t / 2*2+t % 2=t by omega] at hp;have hq:=(List.getElem?_eq_some_iff.1 hp).2;simp only[List.getElem_toArray];rw[hq];simp[flatK,hi,pc];rw[List.getElem?_eq_getElem (by simp;omega)];rfl
theorem K7a(a b:Int):Lib.compareInt a b=if a<b then -1 else if b<a then 1 else 0:=by unfold Lib.compareInt;rfl
theorem Q7c(a b:Int×Int):Z5c a b<0↔a.1<b.1∨a.1=b.1∧a.2<b.2:=by
 unfold Z5c;rw[K7a,K7a]
 split<;>split<;>omega
def lt2(a b:Int×Int):Prop:=a.1<b.1∨a.1=b.1∧a.2<b.2
instance (a b:Int×Int):Decidable (lt2 a b):=by unfold lt2;infer_instance
def F5a(l:List (Int×Int)):List (Int×Int):=l.mergeSort fun a b=>!decide (lt2 b a)
theorem R5a(a b:Int×Int):Go.Proofs.ltOf Z5c a b=decide (lt2 a b):=by
 unfold Go.Proofs.ltOf;exact decide_eq_decide.2 (Q7c a b)
theorem o4d:Go.Sort.SWO (Go.Proofs.ltOf Z5c) where
 irrefl a:=by rw[R5a];simp[lt2]
 trans a b c h1 h2:=by
  rw[R5a] at *;have h3:=of_decide_eq_true h1;have h4:=of_decide_eq_true h2;unfold lt2 at h3 h4;exact decide_eq_true (by unfold lt2;omega)
 ntrans a b c h1 h2:=by
  rw[R5a] at *;have h3:=of_decide_eq_false h1;have h4:=of_decide_eq_false h2;unfold lt2 at h3 h4;exact decide_eq_false (by unfold lt2;omega)
theorem t5b{a b:Int×Int}(h1:¬lt2 a b)(h2:¬lt2 b a):a=b:=by
 unfold lt2 at h1 h2;exact Prod.ext (by omega) (by omega)
theorem e5c(g:Nat)(a b:Int)(w0:World)(ha:w0.cell? ⟨g,0,none⟩=some (.int .i64 a))(hb:w0.cell? ⟨g,1,none⟩=some (.int .i64 b)):
 O0a prog 161 #[.slice (some ⟨g,0,none⟩) 2 2] w0 fun v w'=>v=.int .i64 (if a=0 then b else a)∧w'=w0:=by
 have S:=St.refl w0;have c0:∀k:Nat,k<2→w0.cell? ⟨g,0+k*1,none⟩=some (.int .i64 (if k=0 then a else b)):=fun k hk=>by
  rcases(show k=0∨k=1 by omega) with rfl|rfl
  ·exact ha
  ·exact hb
 refine a0a func161 Z ntmps161 Z ?_;refine wC0 Z U (wL (fun μk D ε w=>D=[]∧∃k:Nat,(k+μk=(2))∧(w=w0)∧(0<k→a=0)∧(1<k→b=0)∧St [] w0 w []∧Sl ε [(3,.int .i64 0),(6,.slice (some ⟨g,0,none⟩) 2 2),(7,.int .i64 2),(8,.int .i64 k)]) (μ:=(2)) ⟨Z,0,by omega,Z,(fun h=>absurd h (by omega)),(fun h=>absurd h (by omega)),S,Z⟩ ?_);rintro μk D ε w ⟨rfl,k,hk,hw,hz,d0,S,eZ⟩;refine wK eZ (wB0 Z U (fun h9=>?_) fun h9=>?_)
 ·have a0:=c0 k (by omega);rw[←hw] at a0;refine lO S.k [.i] Z ⟨by omega,U⟩ (L0a D0a Z (by exact a0) Z ?_);refine lB0 Z U (fun b0=>?_) fun b0=>?_
  ·refine lT Z U Z ⟨congrArg (Value.int .i64) ?_,hw⟩;by_cases h0:k=0
   ·rw[if_pos h0] at b0 ⊢;rw[if_neg b0];done
   ·rw[if_neg h0];rw[if_pos (hz (by omega))];done
  refine lP0 Z ⟨by omega,U⟩ ⟨μk-1,by omega,Z,(k+1),(by omega),(hw),?_,?_,S,Z⟩
  ·intro _;by_cases h0:k=0
   ·rw[if_pos h0] at b0;exact b0
   ·exact hz (by omega)
  ·intro h1;rw[if_neg (show ¬k=0 by omega)] at b0;exact b0
 refine lT Z U Z ⟨congrArg (Value.int .i64) ?_,hw⟩;by_cases h0:k=0
 ·exfalso;omega
 ·rw[if_pos (hz (by omega)),d0 (by omega)];done
theorem A9b(x y:Int×Int)(w0:World):
 O0a prog 96 #[.agg (pc x).toArray,.agg (pc y).toArray] w0 fun v w'=>v=.int .i64 (Z5c x y)∧Below w0.heap.size w0 w'∧w0.drawn≤w'.drawn:=by
 have S:=St.refl w0;refine a0a func96 Z ntmps96 Z ?_;refine wO0 Z U (f6c S Z ?_);intro g2 w2 S2 X2 D2;refine f6c S2 Z ?_;intro g3 w3 S3 X3 D3;refine lC0 Z U ?_;have b0:∀(a b:Int) (w:World),(Cl [] w0 w3 [(some g3,44,pc y),(some g2,44,pc x)] w∧w0.drawn≤w.drawn)→O0a prog 162 #[.int .i64 a,.int .i64 b] w fun v' w'=>v'=.int .i64 (Lib.compareInt a b)∧(Cl [] w0 w3 [(some g3,44,pc y),(some g2,44,pc x)] w'∧w0.drawn≤w'.drawn)∧y0a [] w w':=fun a b w hw =>
  Calls.mono (Tryz.cmp_Compare_int a b w) fun e w' ⟨h1,h2⟩=>⟨_,h1,Z,by rw[h2];exact hw,by rw[h2];exact y0a.refl _ _⟩
 refine H0a c0a [0,1,2,3,4,5,6,7,8,9] [] [10,11,12] Z (fun w=>Cl [] w0 w3 [(some g3,44,pc y),(some g2,44,pc x)] w∧w0.drawn≤w.drawn) ⟨Cl.start S3,by show w0.drawn≤w3.drawn+1;omega⟩ ?_;refine e2a t2b Z Z Z ?_;refine k0a D0a Z (fun w1 hw=>hw.1.1.cell 1 Z Z) Z ?_;refine e2a t2b Z Z Z ?_;refine k0a D0a Z (fun w1 hw=>hw.1.1.cell 0 Z Z) Z ?_;refine c1c E0c Z Z (b0 _ _) ?_;refine e2a t2b Z Z Z ?_;refine k0a D0a Z (fun w1 hw=>hw.1.1.cell 1 Z Z) Z ?_;refine e2a t2b Z Z Z ?_;refine k0a D0a Z (fun w1 hw=>hw.1.1.cell 0 Z Z) Z ?_;refine c1c E0c Z Z (b0 _ _) ?_;refine qN0 Z U (R3a ?_);refine O1a ?_;rintro w4 ⟨⟨S4,_⟩,_⟩;refine m3b S4 T0a (vs:=[.int .i64 _,.int .i64 _]) (cs:=[_,_]) (by rfl) Z Z Z Z Z Z ?_;intro c0 d0 a0 f0 e0;refine a2a Q9c Z Z (e5c c0 _ _ d0 (a0.cell 0 Z Z) (a0.cell 0 Z Z)) ?_;rintro g0 i0 ⟨rfl,rfl⟩;refine lR0 Z U (A0a (hv:=(Z:_=Value.int .i64 (Z5c x y))) Z ⟨Z,a0.fin,by omega⟩)
open Go.Sort in
theorem a2c{w:World}{g el:Nat}{cs d:List Value}(hb:p0a w (g,el,cs))(hd:d.length≤cs.length):
 p0a (putRow id w g 0 d.toArray) (g,el,d++cs.drop d.length):=by
 have hb':w.heap[g]?=some (.cells cs.toArray el (0,0)):=hb;unfold p0a putRow mapBlock;simp only[Array.getElem?_modify,if_true,hb',Option.map_some,onCells]
 congr 2
 apply Array.ext
 ·simp[putCells];omega
 ·intro i h1 h2;simp only[putCells,Array.size_mapIdx,List.size_toArray] at h1;simp only[putCells,Array.getElem_mapIdx,List.getElem_toArray,Nat.zero_le,true_and,Nat.zero_add,List.size_toArray,Nat.sub_zero];by_cases hi:i<d.length
  ·rw[if_pos hi,List.getElem_append_left (by simpa using hi)];simp[hi]
  ·rw[if_neg hi,List.getElem_append_right (by simpa using hi)];simp
   congr 1
   omega
open Go.Sort in
theorem p1b{w:World}{g q:Nat}{d:List Value}(os:Array Obj):E0a [g] w (grow (putRow id (Sort.ahead w q) g 0 d.toArray) os):=by
 refine⟨Z,Z,Z,?_,fun i hi hm=>?_⟩
 ·simp[grow,putRow,mapBlock,Sort.ahead]
 ·have hne:¬g=i:=fun h=>hm (by simp[h]);simp only[grow,putRow,mapBlock,Sort.ahead];rw[Array.getElem?_append_left (by simpa using hi),Array.getElem?_modify,if_neg hne]
open Go.Sort in
theorem D5c(w:World)(g el cap:Nat)(cs:List Value)(l:List (Int×Int))(hb:p0a w (g,el,cs))(hc:cs.take (l.length*2)=pcs l)(hl:l.length*2≤cs.length)(hz:l.length≤1000000):
 O0a prog 95 #[.slice (some ⟨g,0,none⟩) l.length cap,.func (.func 96) #[] #[]] w fun _ w'=>E0a [g] w w'∧p0a w' (g,el,pcs (F5a l)++cs.drop (l.length*2)):=by
 have hH:HoldsK pc 2 w g 0 l.toArray:=by
  unfold HoldsK;rw[P7b];intro j hj;have hj':j<(pcs l).length:=by simpa using hj
  refine⟨?_,hb.frozen _⟩;rw[Nat.zero_add];refine hb.cell ?_;have h1:(cs.take (l.length*2))[j]?=some (pcs l)[j]:=by rw[hc];simp[hj']
  rw[V6a] at hj';rw[List.getElem?_take,if_pos hj'] at h1;rw[h1];simp[V6a,hj']
 have h:=Tryz.slices_SortFunc_total 2 Tryz.isAgg44 Tryz.sizeOf44 pc (fun _=>rfl) (fun x v hv=>by simp[pc] at hv;rcases hv with rfl|rfl<;>rfl) Z5c o4d 96 #[] g 0 cap l.toArray w (fun args w=>m2d args w)
  (fun m os dk _ x y=>Calls.mono (A9b x y _) fun e w' ⟨v,he,hv,h1,h2⟩=>⟨by rw[he,hv],s8c h1 h2⟩) hH hb.lt (by simp;omega)
  (fun x y h1 h2=>by rw[R5a] at h1 h2;exact t5b (of_decide_eq_false h1) (of_decide_eq_false h2))
 refine Calls.mono h ?_;rintro e w' ⟨rfl,n,os,rfl⟩;have hs:(l.toArray.toList.mergeSort fun x y=>!(Go.Proofs.ltOf Z5c) y x)=F5a l:=by
  unfold F5a;simp only[R5a]
 have hlen:(pcs (F5a l)).length=l.length*2:=by rw[V6a];simp[F5a]
 rw[hs];unfold sortWorldK putRowK;rw[P7b];refine⟨_,Z,p1b os,?_⟩;have hb2:p0a (Sort.ahead w n) (g,el,cs):=hb;have:=a2c (d:=pcs (F5a l)) hb2 (by omega);rw[hlen] at this;unfold p0a at this ⊢;rw[heap_grow_old _ os (by simpa[putRow,mapBlock,Sort.ahead] using hb.lt)];exact this
theorem C1c(w:World)(A:Option Addr)(a0:Nat):O0a prog 95 #[.slice A 0 a0,.func (.func 96) #[] #[]] w fun _ w'=>w'=w:=by
 refine Calls.mono (Tryz.slices_SortFunc_none (α:=Int×Int) A a0 _ w) ?_;rintro e w' ⟨rfl,rfl⟩;exact⟨_,Z,Z⟩
section
variable {P:Program} {r:Option Nat} {N:Nat} {D:List Deferred} {e:Env} {w w0:World} {ops:Array Oper} {rest:List Oper} {K:List Deferred→Env→World→Prop} {L:List Ent} {M:List Nat}
variable {d:Nat} {t:TypeId} {p:String} {af:Array Edge} {x y:Operand} {xt yt:TypeId}
def Eq2(P:Program)(ty:TypeId):Prop:=P.eqGuardType P.depth ty=false∧∀(w:World) (a b a' b':Int),
 (binOp .eql ty (.agg #[.int .i64 a,.int .i64 b]) (.agg #[.int .i64 a',.int .i64 b'])).run P w=.ok (.bool (decide (a=a'∧b=b'))) w
theorem P1d{ty:TypeId}{a b:Int×Int}(hE:Eq2 P ty)(hx:ev e x=.agg (pc a).toArray)(hy:ev e y=.agg (pc b).toArray)(hd:Nat.ble (d+1) N=true)(h:WL P r N ops rest K D (upd e d (.bool (decide (a=b)))) w):
 WL P r N ops (⟨some d,.binOp .eql ty x y yt,t,p,af,none⟩::rest) K D e w:=by
 have a0:ev e x=.agg #[.int .i64 a.1,.int .i64 a.2]:=hx;have b0:ev e y=.agg #[.int .i64 b.1,.int .i64 b.2]:=hy;refine X0a Z Z hd ?_ h;simp only[execOp,a0,b0,Sem.run_bind,run_eqGuard_agg w _ _ _ _ _ _ hE.1,Result.andThen_ok,hE.2,Sem.run_pure]
 congr 3
 exact decide_eq_decide.2 (Prod.ext_iff.symm)
theorem e9a(zc:Array Value)(n:Nat)(h0:0<zc.size):(Builtin.zeroCells zc n).size=n*zc.size∧∀v∈(Builtin.zeroCells zc n).toList,v∈zc.toList:=by
 unfold Builtin.zeroCells;refine⟨by simp,fun v hv=>?_⟩;simp only[Array.toList_map,Array.toList_range,List.mem_map,List.mem_range] at hv;obtain⟨i,_,rfl⟩:=hv;have hi:i % zc.size<zc.size:=Nat.mod_lt _ h0;rw[getElem!_pos zc _ hi];exact Array.getElem_mem_toList hi
theorem n4c{ty el size a0 g o c tb kk n:Nat}{z:Value}{cs:List Value}(S:St M w0 w L)(hS:SlZ P ty el size z a0)(hx:ev e x=.slice (some ⟨g,o,none⟩) n c)(hk:L[kk]?=some (some g,tb,cs))(c0:z.cells.size=size)(h0:0<size)(hn:0<n)(ho:o+n*size≤cs.length)(h1:∀v∈z.cells.toList,i9c v=true)
 (h:∀w1 us,us.length=n*size→St M w0 w1 (L.set kk (some g,tb,d0a cs o us))→y0a [g] w w1→WL P r N ops rest K D e w1) :
 WL P r N ops (⟨none,.call { callee:=.builtin .clear,args:=#[x],argTypes:=#[ty] },t,p,af,none⟩::rest) K D e w:=by
 obtain⟨_,hi,hz,_⟩:=hS.parts;obtain⟨z1,z2⟩:=e9a z.cells n (by omega);have b0:(Builtin.zeroCells z.cells n).toList.length=n*size:=by rw[Array.length_toList,z1,c0]
 obtain⟨w1,h2,h3,h4⟩:=St.setN (P:=P) (o:=o) (Builtin.zeroCells z.cells n).toList 0 cs w L hk S (by simp only[Nat.add_zero];omega) (fun v hv=>h1 v (z2 v hv));have d0:∀w,(zeroValue el).run P w=.ok z w:=fun w=>by simp[zeroValue,typeInfo,hi,hz]
 refine U8c (v:=.tuple #[]) Z Z (by simp) ?_ (h w1 _ b0 h3 h4);obtain⟨m,rfl⟩:∃m,n=m+1:=⟨n-1,by omega⟩;simp[execOp,resolve,invoke,builtin,Builtin.clear_,hx,run_underlying hS.und,d0,h2]
end
section
variable {α:Type} [DecidableEq α]
def e6a(l:List α)(k:Nat):List α:=((List.range k).filter fun j=>decide (j=0∨l[j]?≠l[j-1]?)).filterMap (l[·]?)
theorem H5a{l:List α}{k:Nat}{a:α}(h:l[k]?=some a):e6a l (k+1)=if k=0∨l[k]?≠l[k-1]? then e6a l k++[a] else e6a l k:=by
 unfold e6a;rw[List.range_succ,List.filter_append,List.filterMap_append];by_cases hc:k=0∨l[k]?≠l[k-1]?
 ·rw[if_pos hc,List.filter_cons_of_pos (by simpa using hc)];simp[h]
 ·rw[if_neg hc,List.filter_cons_of_neg (by simpa using hc)];simp
theorem v7b(l:List α)(k:Nat):(e6a l k).length≤k:=by
 unfold e6a;refine Nat.le_trans (List.length_filterMap_le _ _) (Nat.le_trans (List.length_filter_le _ _) (by simp))
theorem q9a{l:List α}:∀{k:Nat},k≤l.length→(∀j,0<j→j<k→l[j]?≠l[j-1]?)→e6a l k=l.take k
 | 0,_,_=>by simp[e6a]
 | k+1,hk,h=>by
   have hx:l[k]?=some l[k]:=List.getElem?_eq_getElem (by omega);rw[H5a hx,if_pos,q9a (by omega) (fun j h0 h1=>h j h0 (by omega)),t0a hx];rcases Nat.eq_zero_or_pos k with h0|h0
   ·exact .inl h0
   ·exact .inr (h k h0 (by omega))
end
theorem n7c(w:World)(a b a' b':Int):(binOp .eql 44 (.agg #[.int .i64 a,.int .i64 b]) (.agg #[.int .i64 a',.int .i64 b'])).run prog w=.ok (.bool (decide (a=a'∧b=b'))) w:=by
 have a0:∀w,(isAgg 3).run prog w=.ok false w:=fun w=>by simp[isAgg,run_underlying Tryz.underlying3]
 rw[run_eql_struct];unfold Op.equalIn;simp[run_underlying Tryz.underlying44,Tryz.sizeOf3];rw[show List.range' 0 2=[0,1] from rfl];by_cases h1:a=a'<;>by_cases h2:b=b'<;>simp[List.forIn_cons,part,a0,run_equalIn_int _ 9998 _ .i64 .i64 _ _ Tryz.underlying3,h1,h2]
theorem F4c:Eq2 prog 44:=⟨by kernel_rfl,n7c⟩
theorem Z7b(a b:Int×Int)(w0:World):
 O0a prog 98 #[.agg (pc a).toArray,.agg (pc b).toArray] w0 fun v w'=>v=.bool (decide (a=b))∧Bw w0 w':=by
 have S:=St.refl w0;refine a0a func98 Z ntmps98 Z ?_;refine wO0 Z U (r0a S Z ?_);intro g2 w2 S2 X2 G2;refine r0a S2 Z ?_;intro g3 w3 S3 X3 G3;refine lOn 7 S3.k [.w 1,.w 0] Z ⟨⟨Z,by rfl⟩,⟨Z,by rfl⟩,U⟩ (P1d (a:=a) (b:=b) F4c Z Z Z ?_);exact lT Z U Z ⟨Z,S3.fin⟩
theorem p6a{w:World}{g el:Nat}{cs:List Value}{a0:List (Int×Int)}(hb:p0a w (g,el,cs))(hc:cs.take (a0.length*2)=pcs a0){i:Nat}{a:Int×Int}(h:a0[i]?=some a):Cells w g (0+i*2) (pc a):=fun j u hj=>by
 have h1:=u1c h j u hj;have h2:=(List.getElem?_eq_some_iff.1 h1).1;rw[V6a] at h2;rw[←hc,List.getElem?_take,if_pos h2] at h1;exact hb.cell (by rw[Nat.zero_add];exact h1)
theorem D7c{a0:List (Int×Int)}{cs:List Value}{i:Nat}{a x:Int×Int}(hc:cs.take (a0.length*2)=pcs a0)(hx:a0[i]?=some x):(d0a cs (i*2) (pc a)).take (a0.length*2)=pcs (a0.set i a):=by
 rw[X5a,hc];unfold pcs;have h2:∀c∈a0.map pc,c.length=2:=fun c hc=>by obtain⟨a,_,rfl⟩:=List.mem_map.1 hc;rfl
 have:=f7a (size:=2) (pc a) (a0.map pc) i 0 (pc x) h2 (by simp[hx]) (by simp[pc]);rw[Nat.add_zero] at this;rw[this,List.map_set];rfl
theorem w5c{a0:List (Int×Int)}{cs:List Value}{n m:Nat}(hc:cs.take (n*2)=pcs a0)(h:m≤n):cs.take (m*2)=pcs (a0.take m):=by
 have h2:∀c∈a0.map pc,c.length=2:=fun c hc=>by obtain⟨a,_,rfl⟩:=List.mem_map.1 hc;rfl
 have h3:cs.take (m*2)=(cs.take (n*2)).take (m*2):=by rw[List.take_take];congr 1;omega
 rw[h3,hc];unfold pcs;rw[f5b (size:=2) _ m h2,List.map_take]
theorem g7b(g b0:Nat)(l:List (Int×Int))(cs:List Value)(w0:World)(hB:p0a w0 (g,44,cs))(hc:cs.take (l.length*2)=pcs l)(y0:cs.length=b0*2)(d0:l.length≤b0)(hz:l.length≤1000000):
 O0a prog 97 #[.slice (some ⟨g,0,none⟩) l.length b0,.func (.func 98) #[] #[]] w0 fun v w'=>v=.slice (some ⟨g,0,none⟩) (e6a l l.length).length b0∧E0a [g] w0 w' ∧
  ∃u0,u0.length=b0*2∧p0a w' (g,44,u0)∧u0.take ((e6a l l.length).length*2)=pcs (e6a l l.length):=by
 have S:=St.borrow1 hB;refine a0a func97 Z ntmps97 Z ?_;refine wB0 Z U (fun L0=>?_) fun L0=>?_
 ·refine lR0 Z U (A0a Z ?_);have hd:e6a l l.length=l:=by rw[q9a (Nat.le_refl _) (fun j h1 h2=>by exfalso;omega),List.take_length]
  rw[hd];exact⟨Z,S.below,cs,y0,S.blk 0 Z,hc⟩
 refine lC0 Z U (wL (fun μi D ε w=>D=[]∧∃i:Nat,(i+μi=max (l.length) 1)∧(1≤i)∧(∀j,0<j→j<i→l[j]?≠l[j-1]?)∧St [g] w0 w [(some g,44,cs)]∧Sl ε [(0,.slice (some ⟨g,0,none⟩) l.length b0),(1,.func (.func 98) #[] #[]),(5,.int .i64 i)]) (μ:=(max (l.length) 1-1)) ⟨Z,1,by omega,by omega,(fun j h1 h2=>absurd h1 (by omega)),S,Z⟩ ?_);rintro μi D ε w ⟨rfl,i,hi,_,D0,S,eZ⟩;refine wK eZ (wB0 Z U (fun N0=>?_) fun N0=>?_)
 ·refine lCn 8 S.k [] Z U ?_;obtain⟨a,r0⟩:∃a,l[i]?=some a:=⟨_,List.getElem?_eq_getElem (by omega)⟩;obtain⟨b,E0⟩:∃b,l[i-1]?=some b:=⟨_,List.getElem?_eq_getElem (by omega)⟩;have p0:∀w',p0a w' (g,44,cs)→Cells w' g (0+(i:Int).toNat*2) (pc a):=fun w' hb=>p6a hb hc r0;have x0:∀w',p0a w' (g,44,cs)→Cells w' g (0+((i:Int)-1).toNat*2) (pc b):=fun w' hb=>by
   rw[show((i:Int)-1).toNat=i-1 by omega];exact p6a hb hc E0
  refine H0a c0a [0,1,2,3,4,5,6,7,8,9] [] [10] Z (Cl _ _ _ _) (Cl.start S) ?_;refine qO S.q [.i] Z ⟨by omega,U⟩ (C1a X7a Z (fun w1 hw=>p0 _ (hw.1.blk 0 Z)) (by rfl) Z ?_);refine qO S.q [.i] Z ⟨by omega,by omega,U⟩ (C1a X7a Z (fun w1 hw=>x0 _ (hw.1.blk 0 Z)) (by rfl) Z ?_);refine qD Z U ?_;rintro d1 ⟨K0,_⟩;refine j9a K0 t6c Z Z Z (Z7b a b _) ?_;rintro v28 b1 rfl s0 U0;cases n0:decide (a=b)
  ·refine lP0 Z ⟨by omega,U⟩ ⟨μi-1,by omega,Z,(i+1),(by omega),(by omega),?_,s0,Z⟩;intro j h1 h2;rcases Nat.lt_or_ge j i with h3|h3
   ·exact D0 j h1 h3
   ·obtain rfl:j=i:=by omega
    rw[r0,E0];exact fun hh=>of_decide_eq_false n0 (Option.some.inj hh)
  refine lO0 Z U (K6a (lo:=i) (hi:=l.length) Q8a.slT Z (.inr Z) (.inl ⟨Z,Z⟩) d0 d0 Z ?_);rw[if_neg (show ¬b0=i by omega)];refine lCn 5 s0.k [] Z U ?_;have B0:l[i]?=l[i-1]?:=by rw[r0,E0,of_decide_eq_true n0]
  have z0:e6a l (i+1)=l.take i:=by
   rw[H5a r0,if_neg (fun h=>h.elim (fun z=>by omega) (fun z=>z B0)),q9a (by omega) D0]
  refine wC0 Z U ?_;refine wL (fun μk D ε w=>D=[]∧∃k:Nat,∃c0:List (Int×Int),∃cs2:List Value,∃i2:Int,(k+μk=max ((l.length-i)) 1)∧(1≤k)∧(c0.length=l.length)∧(cs2.take (l.length*2)=pcs c0)∧(cs2.length=b0*2)∧(i2=(e6a l (i+k)).length)∧(c0.take (e6a l (i+k)).length=e6a l (i+k))∧((e6a l (i+k)).length≤i+k-1)∧(∀j,i+k-1≤j→c0[j]?=l[j]?)∧St [g] w0 w [(some g,44,cs2)]∧Sl ε [(0,.slice (some ⟨g,0,none⟩) l.length b0),(1,.func (.func 98) #[] #[]),(5,.int .i64 i2),(6,.slice (some ⟨g,0+i*2,none⟩) (l.length-i) (b0-i)),(7,.int .i64 k)]) (μ:=(max ((l.length-i)) 1-1)) ⟨Z,1,l,cs,i,by omega,by omega,Z,hc,y0,(by rw[z0,List.length_take];omega),(by rw[z0,List.length_take,Nat.min_eq_left (by omega)]),(by rw[z0,List.length_take];omega),(fun _ _=>rfl),s0,Z⟩ ?_;rintro μk D ε w ⟨rfl,k,c0,cs2,i2,_,_,f0,i0,e0,q0,j0,_,g0,S,eZ⟩;refine wK eZ ?_;have W0:=v7b l (i+k);refine wB0 Z U (fun O0=>?_) fun O0=>?_
  ·refine lCn 8 S.k [] Z U ?_;obtain⟨a2,o0⟩:∃a,l[i+k]?=some a:=⟨_,List.getElem?_eq_getElem (by omega)⟩;obtain⟨b2,G0⟩:∃b,l[i+k-1]?=some b:=⟨_,List.getElem?_eq_getElem (by omega)⟩;have F0:c0[i+k]?=some a2:=(g0 (i+k) (by omega)).trans o0;have H0:c0[i+k-1]?=some b2:=(g0 (i+k-1) (by omega)).trans G0;have v0:cs2.take (c0.length*2)=pcs c0:=by rw[f0];exact i0
   have p0:∀w',p0a w' (g,44,cs2)→Cells w' g (0+i*2+(k:Int).toNat*2) (pc a2):=fun w' hb=>by
    have:=p6a hb v0 F0;rw[show 0+i*2+(k:Int).toNat*2=0+(i+k)*2 by rw[Int.toNat_natCast,Nat.add_mul];omega];exact this
   have x0:∀w',p0a w' (g,44,cs2)→Cells w' g (0+i*2+((k:Int)-1).toNat*2) (pc b2):=fun w' hb=>by
    have:=p6a hb v0 H0;rw[show 0+i*2+((k:Int)-1).toNat*2=0+(i+k-1)*2 by rw[show((k:Int)-1).toNat=k-1 by omega];omega];exact this
   have A0:a2=b2→e6a l (i+(k+1))=e6a l (i+k):=fun hh=>by
    rw[←Nat.add_assoc,H5a o0,if_neg (fun h=>h.elim (fun z=>by omega) (fun z=>z (by rw[o0,G0,hh])))]
   have C0:¬a2=b2→e6a l (i+(k+1))=e6a l (i+k)++[a2]:=fun hh=>by
    rw[←Nat.add_assoc,H5a o0,if_pos (.inr (fun z=>hh (Option.some.inj (o0.symm.trans (z.trans G0)))))]
   obtain⟨xi,Q0⟩:∃x,c0[(e6a l (i+k)).length]?=some x:=⟨_,List.getElem?_eq_getElem (by omega)⟩;refine H0a c0a [0,1,2,3,4,5,6,7,8,9] [] [10,11] Z (Cl _ _ _ _) (Cl.start S) ?_;refine qO S.q [.i] Z ⟨by omega,U⟩ (C1a X7a Z (fun w1 hw=>p0 _ (hw.1.blk 0 Z)) (by rfl) Z ?_);refine qO S.q [.i] Z ⟨by omega,by omega,U⟩ (C1a X7a Z (fun w1 hw=>x0 _ (hw.1.blk 0 Z)) (by rfl) Z ?_);refine qD Z U ?_;rintro R0 ⟨t0,_⟩;refine j9a t0 t6c Z Z Z (Z7b a2 b2 _) ?_;rintro Y0 c1 rfl m0 V0;cases a0:decide (a2=b2)
   ·refine lO m0.k [.i] Z ⟨by omega,U⟩ (L2a X7a Z (p0 _ (m0.blk 0 Z)) Z ?_);refine lO m0.k [.i] Z ⟨by omega,U⟩ ?_;refine b0a (kk:=0) (vs:=pc a2) m0 m9c Z Z Z Z Z Z (by rw[Nat.ble_eq,e0];simp;omega) ?_;intro Z0 J0 S0;refine lP0 Z ⟨by omega,by omega,U⟩ ⟨μk-1,by omega,Z,(k+1),?_,(_),(_),(by omega),(by omega),?_,?_,?_,?_,?_,?_,?_,J0,Z⟩;exact c0.set (e6a l (i+k)).length a2
    ·simp[f0]
    ·have:=D7c (a:=a2) v0 Q0;rw[f0] at this;rw[show 0+i2.toNat*2=(e6a l (i+k)).length*2 by rw[q0];simp];exact this
    ·rw[a5a];exact e0
    ·rw[C0 (of_decide_eq_false a0),List.length_append];simp;omega
    ·rw[C0 (of_decide_eq_false a0),List.length_append,List.length_singleton,t0a (by rw[List.getElem?_set_self (by omega)]),List.take_set_of_le (Nat.le_refl _),j0]
    ·rw[C0 (of_decide_eq_false a0),List.length_append];simp;omega
    ·intro j hj;rw[List.getElem?_set_ne (by omega)];exact g0 j (by omega)
   refine lP0 Z ⟨by omega,U⟩ ⟨μk-1,by omega,Z,(k+1),?_,(_),(_),(by omega),(by omega),?_,?_,?_,?_,?_,?_,?_,m0,Z⟩;exact c0
   ·exact f0
   ·exact i0
   ·exact e0
   ·rw[A0 (of_decide_eq_true a0)];exact q0
   ·rw[A0 (of_decide_eq_true a0)];exact j0
   ·rw[A0 (of_decide_eq_true a0)];omega
   ·exact fun j hj=>g0 j (by omega)
  refine lO0 Z U ?_;refine K6a (lo:=(e6a l (i+k)).length) (hi:=l.length) Q8a.slT Z (.inr (by rw[←q0];rfl)) (.inl ⟨Z,Z⟩) d0 d0 Z ?_;rw[if_neg (show ¬b0=(e6a l (i+k)).length by omega)];refine n4c (kk:=0) S Q8a Z Z Z (by omega) (by omega) (by rw[e0];omega) (by simp[Value.cells,i9c]) ?_;intro a1 us X0 I0 T0;refine lO0 Z U ?_;refine K6a (lo:=0) (hi:=(e6a l (i+k)).length) Q8a.slT Z (.inl ⟨Z,Z⟩) (.inr (by rw[←q0];rfl)) (by omega) d0 Z ?_;rw[if_neg (show ¬b0=0 by omega),Nat.zero_mul,Nat.add_zero,Nat.sub_zero,Nat.sub_zero];refine lR0 Z U (A0a Z ?_);have P0:i+k=l.length:=by omega
  rw[←P0];refine⟨Z,I0.below,_,by rw[a5a];exact e0,I0.blk 0 Z,?_⟩;rw[i0b _ _ _ _ (by omega)];have ht:=w5c (m:=(e6a l (i+k)).length) i0 (by omega);rw[ht,j0]
 refine lR0 Z U (A0a Z ?_);have hd:e6a l l.length=l:=by rw[q9a (Nat.le_refl _) (fun j h1 h2=>D0 j h1 (by omega)),List.take_length]
 rw[hd];exact⟨Z,S.below,cs,y0,S.blk 0 Z,hc⟩
def j8c(cs:List Value)(a:Int×Int):Prop:=cs=pc a∧i64 a.1∧i64 a.2
theorem q4c:M4a (fun(_:List Nat) (_:World)=>j8c) 2 where
 len h:=by rw[h.1];rfl
 one h u hu:=by rw[h.1] at hu;simp[pc] at hu;rcases hu with rfl|rfl<;>rfl
 keep _ h:=h
 more _ h:=h
abbrev N5c:List Nat→World→List Value→Int×Int→Prop:=fun _ _=>j8c
abbrev x1d(M:List Nat)(w:World)(v:Value)(l:List (Int×Int)):Prop:=RdS M w 2 j8c v l
def V5b(a:Int×Int):Value:=.agg (pc a).toArray
theorem O4c(a b:Int×Int)(h:V5b a=V5b b):a=b:=by
 simp[V5b,pc] at h;exact Prod.ext h.1 h.2
theorem y1a.toVP{M:List Nat}{w1:World}{G:Option Nat}{cs:List Value}{v:Value}{l:List (Int×Int)}(h:y1a N5c 2 M w1 G cs v l):b4a G 2 l.length cs v (pcs l):=by
 obtain⟨css,_,_,h3,h4⟩:=h;have e1:css=l.map pc:=by
  apply List.ext_getElem?;intro i;by_cases hi:i<l.length
  ·obtain⟨_,h5,h6⟩:=h4 i l[i] (List.getElem?_eq_getElem hi);rw[h5,List.getElem?_map,List.getElem?_eq_getElem hi,h6.1];rfl
  ·rw[List.getElem?_eq_none (by omega),List.getElem?_eq_none (by simp;omega)]
 subst e1;exact h3
def ddP(l:List (Int×Int)):List (Int×Int):=e6a (F5a l) (F5a l).length
theorem F4b(l:List (Int×Int)):(F5a l).length=l.length:=by simp[F5a]
theorem g1c{l:List (Int×Int)}{x:Int×Int}:x∈F5a l↔x∈l:=(List.mergeSort_perm l _).mem_iff
theorem S7b(l:List (Int×Int)):(F5a l).Pairwise fun a b=>¬lt2 b a:=by
 have h:=List.pairwise_mergeSort (le:=fun a b:Int×Int=>!decide (lt2 b a)) (fun a b c h1 h2=>by
  simp only[Bool.not_eq_true',decide_eq_false_iff_not] at *;unfold lt2 at *;omega) (fun a b=>by
  simp only[Bool.or_eq_true,Bool.not_eq_true',decide_eq_false_iff_not];unfold lt2;omega) l
 exact h.imp fun hh=>by simpa using hh
theorem F0b{l:List (Int×Int)}(h:l.Pairwise fun a b=>¬lt2 b a):∀k,k≤l.length→(e6a l k).Pairwise lt2∧(∀x,x∈e6a l k↔x∈l.take k)∧∀a,0<k→l[k-1]?=some a→(e6a l k).getLast?=some a
 | 0,_=>by simp[e6a]
 | k+1,hk=>by
   obtain⟨h1,h2,h3⟩:=F0b h k (by omega);have hx:l[k]?=some l[k]:=List.getElem?_eq_getElem (by omega);rw[H5a hx];by_cases hc:k=0∨l[k]?≠l[k-1]?
   ·rw[if_pos hc];refine⟨?_,fun x=>?_,fun a _ ha=>?_⟩
    ·rw[List.pairwise_append];refine⟨h1,by simp,fun a ha b hb=>?_⟩;rw[List.mem_singleton.1 hb];have e0:=(h2 a).1 ha;obtain⟨j,hj,rfl⟩:=List.getElem_of_mem e0;rw[List.length_take] at hj;rw[List.getElem_take];have f0:j<k:=by omega
     have c0:j<l.length:=by omega
     have hn:=List.pairwise_iff_getElem.1 h j k c0 (by omega) f0;have hp:k-1<l.length:=by omega
     have d0:l[k]≠l[k-1]:=fun hh=>by
      rcases hc with hc|hc
      ·omega
      ·exact hc (by rw[hx,List.getElem?_eq_getElem hp,hh])
     rcases Nat.lt_or_ge j (k-1) with b0|b0
     ·have ha:=List.pairwise_iff_getElem.1 h j (k-1) c0 hp b0;have hb:=List.pairwise_iff_getElem.1 h (k-1) k hp (by omega) (by omega);by_cases a0:lt2 l[j] l[k]
      ·exact a0
      ·exfalso;apply d0;unfold lt2 at *;exact Prod.ext (by omega) (by omega)
     ·obtain rfl:j=k-1:=by omega
      by_cases a0:lt2 l[k-1] l[k]
      ·exact a0
      ·exact absurd (t5b hn a0) d0
    ·rw[List.mem_append,h2,t0a hx,List.mem_append]
    ·rw[List.getLast?_append];rw[show k+1-1=k by omega,hx] at ha;simpa using ha
   ·rw[if_neg hc];have g0:0<k:=by omega
    have he:l[k]?=l[k-1]?:=by
     by_cases hh:l[k]?=l[k-1]?
     ·exact hh
     ·exact absurd (.inr hh) hc
    refine⟨h1,fun x=>?_,fun a _ ha=>?_⟩
    ·rw[h2,t0a hx,List.mem_append,List.mem_singleton];refine⟨.inl,fun hh=>hh.elim id fun hh=>?_⟩;subst hh;rw[hx] at he;refine List.mem_of_getElem? (i:=k-1) ?_;rw[List.getElem?_take,if_pos (by omega)];exact he.symm
    ·rw[show k+1-1=k by omega] at ha;exact h3 a g0 (by rw[←he];exact ha)
theorem K5c(l:List (Int×Int)):(ddP l).Pairwise lt2:=(F0b (S7b l) _ (Nat.le_refl _)).1
theorem e1c{l:List (Int×Int)}{x:Int×Int}:x∈ddP l↔x∈l:=by
 unfold ddP;rw[(F0b (S7b l) _ (Nat.le_refl _)).2.1,List.take_length,g1c]
theorem r0d(l:List (Int×Int)):(ddP l).length≤l.length:=by
 have:=v7b (F5a l) (F5a l).length;exact Nat.le_trans this (by rw[F4b];exact Nat.le_refl _)
theorem m5b:Go.WideMaps.ArrKey prog 44 3 2:=⟨Tryz.underlying44,by kernel_rfl,by kernel_rfl,by kernel_rfl⟩
theorem f1c:Go.Maps.Keyed prog 44:=Go.Maps.Keyed.of_law m5b.law
theorem h2c{a:Int×Int}(h1:i64 a.1)(h2:i64 a.2):∃q,keyOf prog 44 (V5b a)=some q:=by
 obtain⟨m,hm⟩:∃m,prog.types.size=m+1:=⟨prog.types.size-1,by
  have:Nat.ble 1 prog.types.size=true:=by kernel_rfl
  have:=Nat.le_of_ble_eq_true this;omega⟩
 have hk:=m5b.keyType ⟨m,hm⟩;have w1:(Lit.int .i64 a.1).wf=true:=by unfold i64 at h1;simp[Lit.wf,IntKind.min,IntKind.max,IntKind.signed,IntKind.bits];omega
 have w2:(Lit.int .i64 a.2).wf=true:=by unfold i64 at h2;simp[Lit.wf,IntKind.min,IntKind.max,IntKind.signed,IntKind.bits];omega
 unfold keyOf;rw[Tryz.underlying44];have hf:(V5b a).formed prog 44=true:=by simp[V5b,pc,Value.formed,Tryz.underlying44,m5b.size]
 simp only[hk,hf,Bool.and_self,if_true];have hl:prog.keyLits (prog.types.size+1) 44 (V5b a).cells.toList=some [.int .i64 a.1,.int .i64 a.2]:=by
  rw[hm];have h3:∀n,prog.keyLits (m+1) 3 [.int .i64 n]=if(Lit.int .i64 n).wf=true then some [.int .i64 n] else none:=fun n=>by
   unfold Program.keyLits;rw[Tryz.underlying3];simp
  unfold Program.keyLits;rw[Tryz.underlying44];simp[V5b,pc,Value.cells,m5b.size,m5b.one,List.range_succ,h3,w1,w2]
 rw[hl];exact⟨_,Z⟩
theorem c4b(A:Option Addr)(a0:Nat)(w0:World):
 O0a prog 97 #[.slice A 0 a0,.func (.func 98) #[] #[]] w0 fun v w'=>v=.slice A 0 a0∧Bw w0 w':=by
 have S:=St.refl w0;refine a0a func97 Z ntmps97 Z ?_;refine wB0 Z U (fun b0=>?_) (fun b0=>by exfalso;omega);exact lT Z U Z ⟨Z,S.fin⟩
theorem K4b(w0:World)(a0:Nat)(A:Option Addr):O0a prog 54 #[.slice A 0 a0] w0 fun v w'=>v=.slice A 0 a0∧Bw w0 w':=by
 have S:=St.refl w0;refine a0a func54 Z ntmps54 Z ?_;refine wO0 Z U (a2a k6c Z Z (C1c _ A a0) ?_);rintro v4 _ rfl;refine lO0 Z U (o0a S r6c Z Z (c4b A a0 _) ?_);rintro v6 w6 rfl S6 X6;exact lT Z U Z ⟨Z,S6.fin⟩
theorem A4b(g a0:Nat)(l:List (Int×Int))(cs:List Value)(w0:World)(hB:p0a w0 (g,44,cs))(hc:cs.take (l.length*2)=pcs l)(i0:cs.length=a0*2)(g0:l.length≤a0)(hz:l.length≤1000000):
 O0a prog 54 #[.slice (some ⟨g,0,none⟩) l.length a0] w0 fun v w'=>v=.slice (some ⟨g,0,none⟩) (ddP l).length a0∧E0a [g] w0 w' ∧
  ∃b0,b0.length=a0*2∧p0a w' (g,44,b0)∧b0.take ((ddP l).length*2)=pcs (ddP l):=by
 have S:=St.borrow1 hB;have d0:=F4b l;refine a0a func54 Z ntmps54 Z ?_;refine wO0 Z U (a2a k6c Z Z (D5c _ g _ a0 cs l (S.blk 0 Z) hc (by omega) hz) ?_);rintro v4 w4 ⟨B4,f0⟩;have S4:=S.changed1 0 Z B4 f0;refine lO0 Z U ?_;have c0:=g7b g a0 (F5a l) (pcs (F5a l)++cs.drop (l.length*2)) w4 (S4.blk 0 Z) (List.take_left' (V6a _)) (by rw[List.length_append,V6a,List.length_drop];omega) (by omega) (by omega);rw[d0] at c0;refine a2a r6c Z Z c0 ?_;rintro v6 w6 ⟨rfl,B6,e0,q1,q2,q3⟩;have S6:=S4.changed1 0 Z B6 q2;refine lR0 Z U (A0a Z ?_);have hd:e6a (F5a l) l.length=ddP l:=by unfold ddP;rw[d0]
 rw[hd] at q3 ⊢;exact⟨Z,S6.below,e0,q1,S6.blk 0 Z,q3⟩
theorem E5b{f g:Nat→Option (Nat×Nat)}(h:∀i q,f i=some q→g i=some q):∀(a0:List (Nat×Value)) (z cs:Array Value),Instr.fill f z a0=some cs→Instr.fill g z a0=some cs
 | [],_,_,e=>e
 | (i,v)::rest,z,cs,e=>by
   unfold Instr.fill at e ⊢;cases hf:f i with
   | none=>rw[hf] at e;cases e
   | some q =>
     rw[hf] at e;rw[h i q hf];obtain⟨_,_⟩:=q;dsimp only at e ⊢
     split at e
     ·cases e
     ·rename_i hc;rw[if_neg hc];exact E5b h rest _ _ e
theorem p0d{P:Program}{ty n el size:Nat}{z:List Value}(hu:P.underlying ty=some (.array n el))(hz:∀w,(zeroValue ty).run P w=.ok (.agg z.toArray) w)(hs:∀w,(sizeOf el).run P w=.ok size w)(pl:List (Nat×Nat))(hp:pl=(List.range n).map fun i=>(i*size,size)):Bld P ty z pl:=by
 intro w a0 cs hf;simp only[Instr.build,Sem.run_bind,hz,Result.andThen_ok,run_underlying hu,Value.cells,hs];rw[E5b (g:=fun i=>some (i*size,size)) (fun i q h=>by
  subst hp;rw[List.getElem?_map] at h;cases hr:(List.range n)[i]? with
  | none=>rw[hr] at h;cases h
  | some j =>
    rw[hr] at h;have:j=i:=by
     have:=List.getElem?_eq_some_iff.1 hr;obtain⟨_,h2⟩:=this;simpa using h2.symm
    subst this;simpa using h) _ _ _ hf]
 rfl
def uV(n:Nat):Value:=.int .u64 (n:Int)
def mW(m:List Nat):List Value:=m.map uV
def K3c:List Nat:=List.replicate 64 0
structure x5b (m:List Nat) (R:Nat→Nat→Prop):Prop where
 len:m.length=64
 lt:∀r∈m,r<2 ^ 64
 bit:∀x y,x<64→y<64→((m.getD x 0).testBit y=true↔R x y)
theorem x5b.at_{m:List Nat}{R:Nat→Nat→Prop}(h:x5b m R){x:Nat}(hx:x<64):m[x]?=some (m.getD x 0)∧m.getD x 0<2 ^ 64:=by
 have hl:x<m.length:=by rw[h.len];exact hx
 have he:m.getD x 0=m[x]:=by rw[List.getD_eq_getElem?_getD,List.getElem?_eq_getElem hl];rfl
 rw[he];exact⟨List.getElem?_eq_getElem hl,h.lt _ (List.getElem_mem hl)⟩
theorem x5b.cell{m:List Nat}{R:Nat→Nat→Prop}(h:x5b m R){x:Nat}(hx:x<64):(mW m)[x]?=some (uV (m.getD x 0)):=by
 unfold mW;rw[List.getElem?_map,(h.at_ hx).1];rfl
theorem x5b.zero:x5b K3c fun _ _=>False:=by
 refine⟨by simp[K3c],fun r hr=>?_,fun x y hx hy=>?_⟩
 ·rw[(List.mem_replicate.1 hr).2];exact Nat.two_pow_pos _
 ·have:K3c.getD x 0=0:=by
   rw[List.getD_eq_getElem?_getD,K3c,List.getElem?_replicate,if_pos hx];rfl
  rw[this];simp
theorem x5b.put{m:List Nat}{R:Nat→Nat→Prop}(h:x5b m R){x v:Nat}(hx:x<64)(hv:v<2 ^ 64):x5b (m.set x v) fun a b=>if a=x then v.testBit b=true else R a b:=by
 refine⟨by rw[List.length_set];exact h.len,fun r hr=>?_,fun a b ha hb=>?_⟩
 ·rcases List.mem_or_eq_of_mem_set hr with h1|rfl
  ·exact h.lt r h1
  ·exact hv
 ·by_cases a0:a=x
  ·subst a0;rw[if_pos rfl,List.getD_eq_getElem?_getD,List.getElem?_set_self (by rw[h.len];exact ha)];rfl
  ·rw[if_neg a0,List.getD_eq_getElem?_getD,List.getElem?_set_ne (fun hh=>a0 hh.symm),←List.getD_eq_getElem?_getD];exact h.bit a b ha hb
theorem x5b.congr{m:List Nat}{R R':Nat→Nat→Prop}(h:x5b m R)(hr:∀x y,x<64→y<64→(R x y↔R' x y)):x5b m R' :=
 ⟨h.len,h.lt,fun x y hx hy=>(h.bit x y hx hy).trans (hr x y hx hy)⟩
theorem x5b.row{m:List Nat}{R:Nat→Nat→Prop}(h:x5b m R){x y:Nat}(hx:x<64)(hy:y<64):x5b (m.set x (m.getD x 0 ||| m.getD y 0)) fun a b=>R a b∨(a=x∧R y b):=by
 refine(h.put hx (Nat.or_lt_two_pow (h.at_ hx).2 (h.at_ hy).2)).congr fun a b ha hb=>?_;by_cases a0:a=x
 ·subst a0;rw[if_pos rfl,Nat.testBit_or,Bool.or_eq_true,h.bit a b ha hb,h.bit y b hy hb];simp
 ·rw[if_neg a0];exact⟨.inl,fun hh=>hh.elim id fun h=>absurd h.1 a0⟩
def o3d(m:List Nat)(x n:Nat):List (Int×Int):=((List.range n).filter fun(y:Nat)=>(m.getD x 0).testBit y).map fun(y:Nat)=>((x:Int),(y:Int))
def H3d(m:List Nat)(k:Nat):List (Int×Int):=(List.range k).flatMap fun x=>o3d m x 64
theorem m4c{m:List Nat}{x n:Nat}{a:Int×Int}:a∈o3d m x n↔∃y,y<n∧(m.getD x 0).testBit y=true∧a=((x:Int),(y:Int)):=by
 unfold o3d;simp only[List.mem_map,List.mem_filter,List.mem_range];constructor
 ·rintro⟨y,⟨h1,h2⟩,rfl⟩;exact⟨y,h1,h2,Z⟩
 ·rintro⟨y,h1,h2,rfl⟩;exact⟨y,⟨h1,h2⟩,Z⟩
theorem N4c{m:List Nat}{k:Nat}{a:Int×Int}:a∈H3d m k↔∃x y,x<k∧y<64∧(m.getD x 0).testBit y=true∧a=((x:Int),(y:Int)):=by
 unfold H3d;simp only[List.mem_flatMap,List.mem_range,m4c];constructor
 ·rintro⟨x,h1,y,h2,h3,h4⟩;exact⟨x,y,h1,h2,h3,h4⟩
 ·rintro⟨x,y,h1,h2,h3,h4⟩;exact⟨x,h1,y,h2,h3,h4⟩
theorem x5b.mem{m:List Nat}{R:Nat→Nat→Prop}(h:x5b m R)(a:Int×Int):a∈H3d m 64↔∃x y,x<64∧y<64∧R x y∧a=((x:Int),(y:Int)):=by
 rw[N4c];constructor
 ·rintro⟨x,y,h1,h2,h3,h4⟩;exact⟨x,y,h1,h2,(h.bit x y h1 h2).1 h3,h4⟩
 ·rintro⟨x,y,h1,h2,h3,h4⟩;exact⟨x,y,h1,h2,(h.bit x y h1 h2).2 h3,h4⟩
def C6a(p:j0a)(t j:Nat)(x:Int×Int):Prop:=∃u th uh s n,u<j∧u≠t∧p.threads[t]?=some th∧p.threads[u]?=some uh∧s∈th.steps∧n∈uh.modules∧x=(s.module_,n)
def d7a(p:j0a)(k:Nat)(x:Int×Int):Prop:=∃t,t<k∧C6a p t p.threads.length x
theorem d7a.zero{p:j0a}{x:Int×Int}:¬d7a p 0 x:=fun⟨_,h,_⟩=>by omega
theorem d7a.succ{p:j0a}{k:Nat}{x:Int×Int}:d7a p (k+1) x↔d7a p k x∨C6a p k p.threads.length x:=by
 unfold d7a;constructor
 ·rintro⟨t,h,h2⟩;by_cases ht:t=k
  ·subst ht;exact .inr h2
  ·exact .inl ⟨t,by omega,h2⟩
 ·rintro(⟨t,h,h2⟩|h)
  ·exact⟨t,by omega,h2⟩
  ·exact⟨k,by omega,h⟩
theorem C6a.zero{p:j0a}{t:Nat}{x:Int×Int}:¬C6a p t 0 x:=fun⟨_,_,_,_,_,h,_⟩=>by omega
theorem C6a.skip{p:j0a}{t j:Nat}{x:Int×Int}(h:j=t):C6a p t (j+1) x↔C6a p t j x:=by
 unfold C6a;constructor
 ·rintro⟨u,th,uh,s,n,h1,h2,h3⟩;exact⟨u,th,uh,s,n,by omega,h2,h3⟩
 ·rintro⟨u,th,uh,s,n,h1,h2,h3⟩;exact⟨u,th,uh,s,n,by omega,h2,h3⟩
theorem C6a.succ{p:j0a}{t j:Nat}{th uh:s1a}{x:Int×Int}(h:j≠t)(ht:p.threads[t]?=some th)(hu:p.threads[j]?=some uh):C6a p t (j+1) x↔C6a p t j x∨∃s∈th.steps,∃n∈uh.modules,x=(s.module_,n):=by
 unfold C6a;constructor
 ·rintro⟨u,b0,a0,s,n,h1,h2,h3,h4,h5,h6,h7⟩;rw[ht] at h3;cases h3;by_cases hj:u=j
  ·subst hj;rw[hu] at h4;cases h4;exact .inr ⟨s,h5,n,h6,h7⟩
  ·exact .inl ⟨u,th,a0,s,n,by omega,h2,ht,h4,h5,h6,h7⟩
 ·rintro(⟨u,b0,a0,s,n,h1,h2⟩|⟨s,h5,n,h6,h7⟩)
  ·exact⟨u,b0,a0,s,n,by omega,h2⟩
  ·exact⟨j,th,uh,s,n,by omega,h,ht,hu,h5,h6,h7⟩
theorem K2a{α:Type}{l:List α}{k:Nat}{a:α}(h:l[k]?=some a)(P:α→Prop):(∃s∈l.take (k+1),P s)↔(∃s∈l.take k,P s)∨P a:=by
 rw[t0a h];constructor
 ·rintro⟨s,h1,h2⟩;rcases List.mem_append.1 h1 with h3|h3
  ·exact .inl ⟨s,h3,h2⟩
  ·rw[List.mem_singleton.1 h3] at h2;exact .inr h2
 ·rintro(⟨s,h1,h2⟩|h)
  ·exact⟨s,List.mem_append_left _ h1,h2⟩
  ·exact⟨a,by simp,h⟩
theorem S3c{M:List Nat}{w:World}{g a0 t:Nat}{cs:List Value}{l:List (Int×Int)}(h2:cs.take (l.length*2)=pcs l)(hok:∀x∈l,i64 x.1∧i64 x.2)(hl:l.length≤a0)(hs:l.length≤140737488355328)(hc:a0≤maxLen)(hb:p0a w (g,t,cs))(hg:g∉M):x1d M w (.slice (some ⟨g,0,none⟩) l.length a0) l:=by
 refine⟨_,l.length,a0,Z,Z,hl,hc,hs,fun _=>⟨g,0,Z,hg,fun i x hi=>⟨pc x,Z,fun j v hj=>?_,Z,hok x (List.mem_of_getElem? hi)⟩⟩⟩;rw[Nat.zero_add];have h3:=u1c hi j v hj;rw[←h2,List.getElem?_take] at h3
 split at h3
 ·exact hb.cell h3
 ·cases h3
theorem Q1d:Bld prog 44 [.int .i64 0,.int .i64 0] [(0,1),(1,1)]:=p0d (size:=1) Tryz.underlying44 (fun _=>by kernel_rfl) (fun _=>by kernel_rfl) _ Z
theorem x2b(p:j0a)(M:List Nat)(w0:World)(cs:List Value)(hI:InP p M w0 cs):
 O0a prog 18 #[.agg cs.toArray] w0 fun v w'=>(∃l,x1d M w' v l∧l.Pairwise lt2∧(∀x,x∈l↔d7a p p.threads.length x)∧l.length≤50000)∧Bw w0 w':=by
 obtain⟨Ac,nc,cc,Am,nm,cm,Al,nl,cl,At,nt,ct,rfl,_,_,_,h2,_⟩:=hI.rd.open_;have S:=(St.refl w0).nilEnt 44;have hM:=hI.lt;have hp:=hI.ok;have n2:=hp.nthreads;refine a0a func18 Z ntmps18 Z ?_;refine wO0 Z U (r0a S Z ?_);intro g1 w1 S1 X1 G1;refine lO S1.k [.w 0] Z ⟨⟨Z,Z⟩,U⟩ (W0a S1 e6c Z Z (D2b p M _ _ (hI.keep (S1.keep0 M))) ?_);intro H3 a2 s3;refine lO0 Z U (s3a (k:=44) a2 Z ?_);intro g17 I3 b2 t3 o3 o1;have E1:w0.heap.size≤g17:=by have:=a2.size;omega
 have Ms:=x7a.mk_ (enc:=V5b) o1;refine lC b2.k [.o 0] Z ⟨Z,U⟩ (wL (fun μk D ε w=>D=[]∧∃k:Nat,∃l1:List (Int×Int),(k+μk=(p.threads.length))∧(x7a V5b w g17 l1)∧(∀x,x∈l1↔d7a p k x)∧(l1.Nodup)∧(∀x∈l1,i64 x.1∧i64 x.2)∧(l1.length≤12288*k)∧St [] w0 w [(some g1,27,[.slice Ac nc cc,.slice Am nm cm,.slice Al nl cl,.slice At nt ct]),(none,44,[])]∧Sl ε [(1,.pointer (some ⟨g1,0,none⟩)),(3,.map (some g17)),(19,.slice At nt ct),(20,.int .i64 nt),(21,.int .i64 k)]) (μ:=(p.threads.length)) ⟨Z,0,[],by omega,Ms,(fun x=>⟨fun h=>(by cases h),fun h=>absurd h d7a.zero⟩),List.nodup_nil,(fun x hx=>by cases hx),by simp,b2,Z⟩ ?_);rintro μk D ε w ⟨rfl,k,l1,_,Ms,j2,V2,y0,_,S,eZ⟩;refine wK eZ (wB0 Z U (fun N2=>?_) fun N2=>?_)
 ·obtain⟨th,H2,b3,_,B0,v1,_,F1,A1,P1⟩:=RdS.get (h2) (k) (by omega);obtain⟨n0,D0,t0,p0,F0,v0,c0,a0,e0,o0,E0,u0,rfl,_,_,_,T0,_⟩:=K0a.open_ P1;have B3:=(hp.thread B0).nsteps;refine lO (S.k.a A1) [.x H2 b3,.v 0] Z ⟨⟨Z,F1⟩,⟨v1,by omega⟩,U⟩ (h0a S g7a Z Z ?_);intro g5 w5 S5 X5 G5;replace Ms:=Ms.keep X5 (List.not_mem_nil);refine lO0 Z U (b0a (kk:=0) (vs:=[_,_,_,_,_,_,_]) S5 r7a Z Z Z Z Z Z Z ?_);intro i3 s0 p1;dsimp only[d0a,List.set] at s0;replace Ms:=Ms.keep p1 (fun hh=>by rw[List.mem_singleton] at hh;exact Ms.ne (S5.blk 0 Z) hh);refine lC s0.k [.o 1] Z ⟨Z,U⟩ (wL (fun μj D ε w=>D=[]∧∃j:Nat,∃l2:List (Int×Int),(j+μj=(p.threads.length))∧(x7a V5b w g17 l2)∧(∀x,x∈l2↔x∈l1∨C6a p k j x)∧(l2.Nodup)∧(∀x∈l2,i64 x.1∧i64 x.2)∧(l2.length≤12288*k+3072*j)∧St [] w0 w [(some g5,58,[.string th.name,.int .i64 th.points,.slice n0 D0 t0,.slice p0 F0 v0,.slice c0 a0 e0,.slice o0 E0 u0,.bool th.asleep]),(some g1,27,[.slice Ac nc cc,.slice Am nm cm,.slice Al nl cl,.slice At nt ct]),(none,44,[])]∧Sl ε [(1,.pointer (some ⟨g1,0,none⟩)),(3,.map (some g17)),(4,.int .i64 k),(5,.pointer (some ⟨g5,0,none⟩)),(19,.slice At nt ct),(20,.int .i64 nt),(21,.int .i64 k),(27,.slice At nt ct),(28,.int .i64 nt),(29,.int .i64 j)]) (μ:=(p.threads.length)) ⟨Z,0,l1,by omega,Ms,(fun x=>⟨.inl,fun h=>h.elim id (fun h=>absurd h C6a.zero)⟩),V2,y0,by omega,s0,Z⟩ ?_);rintro μj D ε w ⟨rfl,j,l2,_,m0,J1,K1,z0,_,S,eZ⟩;refine wK eZ (wB0 Z U (fun O2=>?_) fun O2=>?_)
  ·obtain⟨uh,I2,d3,_,C0,x1,_,H1,B1,Q1⟩:=RdS.get (h2) (j) (by omega);obtain⟨G0,c1,P0,q0,j0,x0,I0,f1,R0,H0,d1,Q0,rfl,_,_,S0,_⟩:=K0a.open_ Q1;have X2:=(hp.thread C0).nmod;have Y2:=(hp.thread C0).points;refine lO (S.k.a B1) [.x I2 d3,.v 0] Z ⟨⟨Z,H1⟩,⟨x1,by omega⟩,U⟩ (h0a S g7a Z Z ?_);intro g7 w7 S7 X7 G7;replace m0:=m0.keep X7 (List.not_mem_nil);refine lO0 Z U (b0a (kk:=0) (vs:=[_,_,_,_,_,_,_]) S7 r7a Z Z Z Z Z Z Z ?_);intro m3 f0 r1;dsimp only[d0a,List.set] at f0;replace m0:=m0.keep r1 (fun hh=>by rw[List.mem_singleton] at hh;exact m0.ne (S7.blk 0 Z) hh);refine lB0 Z U (fun P2=>?_) fun P2=>?_
   ·refine lP0 Z ⟨by omega,U⟩ ⟨μj-1,by omega,Z,(j+1),?_,(by omega),?_,?_,?_,?_,?_,f0.tail,Z⟩;exact l2
    ·exact m0
    ·intro x;rw[C6a.skip (by omega)];exact J1 x
    ·exact K1
    ·exact z0
    ·omega
   refine lC f0.k [.o 1] Z ⟨Z,U⟩ (wL (fun μi D ε w=>D=[]∧∃i:Nat,∃l3:List (Int×Int),(i+μi=(th.steps.length))∧(x7a V5b w g17 l3)∧(∀x,x∈l3↔x∈l2∨∃s∈th.steps.take i,∃n∈uh.modules,x=(s.module_,n))∧(l3.Nodup)∧(∀x∈l3,i64 x.1∧i64 x.2)∧(l3.length≤12288*k+3072*j+48*i)∧St [] w0 w [(some g7,58,[.string uh.name,.int .i64 uh.points,.slice G0 c1 P0,.slice q0 j0 x0,.slice I0 f1 R0,.slice H0 d1 Q0,.bool uh.asleep]),(some g5,58,[.string th.name,.int .i64 th.points,.slice n0 D0 t0,.slice p0 F0 v0,.slice c0 a0 e0,.slice o0 E0 u0,.bool th.asleep]),(some g1,27,[.slice Ac nc cc,.slice Am nm cm,.slice Al nl cl,.slice At nt ct]),(none,44,[])]∧Sl ε [(1,.pointer (some ⟨g1,0,none⟩)),(3,.map (some g17)),(4,.int .i64 k),(5,.pointer (some ⟨g5,0,none⟩)),(7,.pointer (some ⟨g7,0,none⟩)),(19,.slice At nt ct),(20,.int .i64 nt),(21,.int .i64 k),(27,.slice At nt ct),(28,.int .i64 nt),(29,.int .i64 j),(38,.slice c0 a0 e0),(39,.int .i64 a0),(40,.int .i64 i)]) (μ:=(th.steps.length)) ⟨Z,0,l2,by omega,m0,(fun x=>⟨.inl,fun h=>h.elim id (fun⟨_,h,_⟩=>by simp at h)⟩),K1,z0,by omega,f0,Z⟩ ?_);rintro μi D ε w ⟨rfl,i,l3,_,r0,m2,p2,W0,_,S,eZ⟩;refine wK eZ (wB0 Z U (fun Q2=>?_) fun Q2=>?_)
   ·obtain⟨s,J2,e3,_,s2,y1,_,I1,C1,R1⟩:=RdS.get (T0) (i) (by omega);obtain⟨m1,V1,t1,n1,W1,u1,rfl,⟨_,_,_,_,U1⟩,_⟩:=z1a.open_ R1;have U2:=((hp.thread B0).steps s (e0a s2)).mod;have a1:=U1;refine lO (S.k.a C1) [.x J2 e3,.v 0] Z ⟨⟨Z,I1⟩,⟨y1,by omega⟩,U⟩ (h0a S J3b Z Z ?_);intro g9 w9 S9 X9 G9;replace r0:=r0.keep X9 (List.not_mem_nil);refine b0a (kk:=0) (vs:=[_,_,_,_,_,_,_,_,_,_,_]) S9 O3b Z Z Z Z Z Z Z ?_;intro t2 d0 N0;dsimp only[d0a,List.set] at d0;replace r0:=r0.keep N0 (fun hh=>by rw[List.mem_singleton] at hh;exact r0.ne (S9.blk 0 Z) hh);refine lC d0.k [.o 1] Z ⟨Z,U⟩ (wL (fun μq D ε w=>D=[]∧∃q:Nat,∃l4:List (Int×Int),(q+μq=(uh.modules.length))∧(x7a V5b w g17 l4)∧(∀x,x∈l4↔x∈l3∨∃n∈uh.modules.take q,x=(s.module_,n))∧(l4.Nodup)∧(∀x∈l4,i64 x.1∧i64 x.2)∧(l4.length≤12288*k+3072*j+48*i+q)∧St [] w0 w [(some g9,61,[.int .i64 s.kind,.int .i64 s.frm,.int .i64 s.to,.int .i64 s.guard.op,.int .i64 s.guard.w,.int .i64 s.guard.n,.slice m1 V1 t1,.slice n1 W1 u1,.bool s.release,.int .i64 s.target,.int .i64 s.module_]),(some g7,58,[.string uh.name,.int .i64 uh.points,.slice G0 c1 P0,.slice q0 j0 x0,.slice I0 f1 R0,.slice H0 d1 Q0,.bool uh.asleep]),(some g5,58,[.string th.name,.int .i64 th.points,.slice n0 D0 t0,.slice p0 F0 v0,.slice c0 a0 e0,.slice o0 E0 u0,.bool th.asleep]),(some g1,27,[.slice Ac nc cc,.slice Am nm cm,.slice Al nl cl,.slice At nt ct]),(none,44,[])]∧Sl ε [(1,.pointer (some ⟨g1,0,none⟩)),(3,.map (some g17)),(4,.int .i64 k),(5,.pointer (some ⟨g5,0,none⟩)),(7,.pointer (some ⟨g7,0,none⟩)),(9,.pointer (some ⟨g9,0,none⟩)),(19,.slice At nt ct),(20,.int .i64 nt),(21,.int .i64 k),(27,.slice At nt ct),(28,.int .i64 nt),(29,.int .i64 j),(38,.slice c0 a0 e0),(39,.int .i64 a0),(40,.int .i64 i),(45,.slice q0 j0 x0),(46,.int .i64 j0),(47,.int .i64 q)]) (μ:=(uh.modules.length)) ⟨Z,0,l3,by omega,r0,(fun x=>⟨.inl,fun h=>h.elim id (fun⟨_,h,_⟩=>by simp at h)⟩),p2,W0,by omega,d0,Z⟩ ?_);rintro μq D ε w ⟨rfl,q,l4,_,Z1,o2,r2,g0,_,S,eZ⟩;refine wK eZ (wB0 Z U (fun R2=>?_) fun R2=>?_)
    ·obtain⟨n,K2,f3,_,a3,z1,_,_,D1,T1⟩:=RdS.get (S0) (q) (by omega);obtain⟨rfl,Z0⟩:=id T1;refine lO (S.k.a D1) [.x K2 f3,.f 0 0,.o 0] Z ⟨Z,Z,⟨z1,by omega⟩,U⟩ (j1a Q1d (vs:=[(0,.int .i64 _),(1,.int .i64 _)]) (cs:=[_,_]) Z Z Z Z ?_);refine F3b (k:=44) (enc:=V5b) (a:=(s.module_,n)) S f1c Tryz.underlying112 O4c (fun a ha=>h2c (g0 a ha).1 (g0 a ha).2) (h2c a1 Z0) Z1 Z Z Z (.inl E1) ?_;intro v2 L0 f2 A2;refine lP0 Z ⟨by omega,U⟩ ⟨μq-1,by omega,Z,(q+1),(_),(by omega),(A2),?_,(T7a r2),?_,(Nat.le_trans W2b (by omega)),L0,Z⟩
     ·intro x;rw[J4a,o2,K2a a3,or_assoc]
     ·intro x hx;rcases J4a.1 hx with h|h;exact g0 x h;subst h;exact⟨a1,Z0⟩
    refine lP0 Z ⟨by omega,U⟩ ⟨μi-1,by omega,Z,(i+1),(l4),(by omega),(Z1),?_,(r2),(g0),(by omega),S.tail,Z⟩;intro x;rw[o2,m2,or_assoc,K2a s2,List.take_of_length_le (l:=uh.modules) (by omega)]
   refine lP0 Z ⟨by omega,U⟩ ⟨μj-1,by omega,Z,(j+1),?_,(by omega),?_,?_,?_,?_,?_,S.tail,Z⟩;exact l3
   ·exact r0
   ·intro x;rw[m2,J1,C6a.succ (by omega) B0 C0,or_assoc,List.take_of_length_le (l:=th.steps) (by omega)]
   ·exact p2
   ·exact W0
   ·omega
  refine lP0 Z ⟨by omega,U⟩ ⟨μk-1,by omega,Z,(k+1),(l2),(by omega),(m0),?_,(K1),(z0),(by omega),S.tail,Z⟩;intro x;rw[J1,d7a.succ,j2,show j=p.threads.length by omega]
 refine lOn 8 S.k [] Z U (G0a Z ?_);refine lO0 Z U (A8b S Tryz.underlying112 Ms Z Z ?_);intro Y1 J3 C2 u3 z2 It;have O1:w0.heap.size≤Y1:=Nat.le_trans S.size z2;refine lC0 Z U (wL (fun μ D ε w=>D=[]∧∃G:Option Nat,∃j1:List Value,∃v:Value,∃acc:List (Int×Int),∃i0:List (Int×Int),∃g2:Option (Int×Int),(i0.length=μ)∧(z7a V5b w g17 Y1 i0 g2)∧((acc++i0).Perm l1)∧(y1a N5c 2 [] w0 G j1 v acc)∧St [] w0 w [(some g1,27,[.slice Ac nc cc,.slice Am nm cm,.slice Al nl cl,.slice At nt ct]),(G,44,j1)]∧Sl ε [(12,v),(61,.pointer (some ⟨Y1,0,none⟩))]) (μ:=l1.length) ⟨Z,none,[],.slice none 0 0,[],l1,none,Z,It,List.Perm.refl _,y1a.nil,C2,Z⟩ ?_);rintro μ D ε w ⟨rfl,G,j1,v,acc,i0,g2,_,It,X0,Y0,S,eZ⟩;refine wK eZ ?_;have KI:=y0a.refl G.toList w;refine wO0 Z U (h1c S It (.inl O1) Z Z (fun hz=>?_) (fun a b1 D3 h3 M1 d2 v3 K0=>?_))
 ·have N1:acc.Perm l1:=by rw[hz,List.append_nil] at X0;exact X0
  have Z2:=Y0.toVP;have C3:=N1.length_eq;have i2:acc.length≤50000:=by omega
  have z3:=r0d acc;have V0:∀x,x∈ddP acc↔d7a p p.threads.length x:=fun x=>by rw[e1c,N1.mem_iff,j2,show k=p.threads.length by omega]
  have hok:∀x∈ddP acc,i64 x.1∧i64 x.2:=fun x hx=>y0 x (N1.subset (e1c.1 hx));refine lOn 9 S.k [] Z U ?_;rcases Z2 with⟨A3,⟨rfl,rfl,W2⟩|⟨g9,s1,rfl,rfl,q1,q2,q3,q4⟩⟩;all_goals refine N0a Z ?_
  ·refine o0a S U5c Z Z (K4b _ 0 none) ?_;rintro g3 j3 rfl i1 w3;refine lR0 Z U (A0a Z ?_);exact⟨⟨ddP acc,⟨none,0,0,Z,by omega,Nat.le_refl _,by unfold maxLen;omega,by omega,fun h=>absurd h (by omega)⟩,K5c _,V0,by omega⟩,i1.fin⟩
  refine a2a U5c Z Z (A4b g9 s1 acc j1 _ (S.blk 1 Z) q4 q3 (by omega) (by omega)) ?_;rintro g3 j3 ⟨rfl,x2,_,_,U0,u2⟩;have i1:=S.changed1 1 Z x2 U0;refine lR0 Z U (A0a Z ?_);refine⟨⟨ddP acc,?_,K5c _,V0,by omega⟩,i1.fin⟩;exact S3c u2 hok (by omega) (by omega) q2 U0 (fun hm=>by have:=hM _ hm;have:=i1.new 1 Z;simp at this;omega)
 have KI:=y0a.refl G.toList h3;refine lO0 Z U ?_;have T2:=X0.length_eq;rw[List.length_append] at T2;have i2:=M1.length_eq;rw[List.length_cons] at i2;have S2:i64 a.1∧i64 a.2:=y0 a (X0.subset (List.mem_append_right _ (M1.symm.subset (by simp))));refine w7b K0 Z Z (fun E3=>?_);refine lO0 Z U (h0a d2 W0d Z Z ?_);intro x3 G3 B2 E2 y2;have J0:=Nat.le_trans KI.size y2;replace KI:=KI.trans (E2.of_nil);refine b0a (kk:=0) (vs:=[_,_]) B2 m9c Z Z Z Z Z Z Z ?_;intro w2 b0 O0;dsimp only[d0a,List.set] at b0;replace KI:=KI.fresh2 O0 (by exact .inl J0);refine lOn 3 b0.k [] Z U (N0a Z ?_);refine lO b0.k [.w 0] Z ⟨⟨Z,by rfl⟩,U⟩ (C0a b0 Q8a (vs:=[.agg _]) (cs:=[_,_]) Z Z Z Z Z Z ?_);intro y3 K3 e2 F2 p3;replace KI:=KI.trans (F2.of_nil);refine P1a q4c (k:=3) (M2:=[]) (e1:=a) e2 Q8a Z Y0 Z Z (e2.cells 0 Z) ⟨Z,S2⟩ (by omega) Z ?_;intro F3 r3 L2 L3 D2 A0 G2 n3;refine G0a Z ?_;refine lP0 Z U ⟨μ-1,by omega,Z,(_),(_),(_),(acc++[a]),(b1),(some a),?_,?_,?_,?_,D2.tail.tail,Z⟩
 ·omega
 ·exact K0.keepC (KI.trans G2) (d2.optBlk 1 Z)
 ·rw[List.append_assoc];exact(M1.symm.append_left acc).trans X0
 ·exact A0
def F3c(w0 w:World)(v:Value)(l:List (Int×Int)):Prop:=∀M:List Nat,(∀g∈M,g<w0.heap.size)→x1d M w v l
theorem F3c.later{w0 w1 w w':World}{v:Value}{l:List (Int×Int)}{G:List Nat}(h:F3c w1 w v l)(hk:y0a G w w')(hG:∀g∈G,g<w1.heap.size)(h0:w0.heap.size≤w1.heap.size):F3c w0 w' v l:=fun M hM =>
 ((h (G++M) (fun g hg=>by rcases List.mem_append.1 hg with h|h;exact hG g h;exact Nat.lt_of_lt_of_le (hM g h) h0)).keep (hk.mono fun g hg=>List.mem_append_left _ hg)).less fun g hg=>List.mem_append_right _ hg
theorem F3c.at_{w1 w w':World}{v:Value}{l:List (Int×Int)}{G:List Nat}(h:F3c w1 w v l)(hk:y0a G w w')(hG:∀g∈G,g<w1.heap.size):x1d [] w' v l:=((h G hG).keep hk).less (by simp)
theorem F3c.form{w0 w:World}{v:Value}{l:List (Int×Int)}(h:F3c w0 w v l):∃A n c,v=.slice A n c:=(h [] (by simp)).form
inductive Clo (R:Nat→Nat→Prop) (n:Nat):Nat→Nat→Prop where
 | refl {x:Nat} (h:x<n):Clo R n x x
 | tail {x y z:Nat} (h:Clo R n x y) (h2:R y z) (h3:z<n):Clo R n x z
theorem Clo.lt{R:Nat→Nat→Prop}{n x y:Nat}(h:Clo R n x y):x<n∧y<n:=by
 induction h with
 | refl h=>exact⟨h,h⟩
 | tail _ _ h3 ih=>exact⟨ih.1,h3⟩
theorem Clo.trans{R:Nat→Nat→Prop}{n x y z:Nat}(h:Clo R n x y)(h2:Clo R n y z):Clo R n x z:=by
 induction h2 with
 | refl _=>exact h
 | tail _ h3 h4 ih=>exact .tail ih h3 h4
theorem Clo.mono{R R':Nat→Nat→Prop}{n x y:Nat}(h:Clo R n x y)(hr:∀a b,R a b→R' a b):Clo R' n x y:=by
 induction h with
 | refl h=>exact .refl h
 | tail _ h2 h3 ih=>exact .tail ih (hr _ _ h2) h3
structure j6b (R:Nat→Nat→Prop) (n k:Nat) (V:Nat→Nat→Prop):Prop where
 snd:∀x y,V x y→Clo R n x y
 base:∀x y,x<n→y<n→R x y→V x y
 rfl_:∀x,x<n→V x x
 thr:∀x y z,y<k→V x y→V y z→V x z
theorem j6b.succ{R:Nat→Nat→Prop}{n k:Nat}{V:Nat→Nat→Prop}(h:j6b R n k V):j6b R n (k+1) fun a b=>V a b∨(V a k∧V k b):=by
 refine⟨fun x y hh=>?_,fun x y hx hy hr=>.inl (h.base x y hx hy hr),fun x hx=>.inl (h.rfl_ x hx),fun x y z hy h1 h2=>?_⟩
 ·rcases hh with h1|⟨h1,h2⟩
  ·exact h.snd _ _ h1
  ·exact(h.snd _ _ h1).trans (h.snd _ _ h2)
 ·by_cases d0:y=k
  ·subst d0;exact .inr ⟨h1.elim id fun h=>h.1,h2.elim id fun h=>h.2⟩
  ·have a0:y<k:=by omega
   rcases h1 with h1|⟨h1,c0⟩<;>rcases h2 with h2|⟨h2,b0⟩
   ·exact .inl (h.thr x y z a0 h1 h2)
   ·exact .inr ⟨h.thr x y k a0 h1 h2,b0⟩
   ·exact .inr ⟨h1,h.thr k y z a0 c0 h2⟩
   ·exact .inr ⟨h1,b0⟩
theorem j6b.fin{R:Nat→Nat→Prop}{n:Nat}{V:Nat→Nat→Prop}(h:j6b R n n V)(x y:Nat):V x y↔Clo R n x y:=by
 refine⟨h.snd x y,fun hc=>?_⟩
 induction hc with
 | refl hx=>exact h.rfl_ _ hx
 | tail hc h2 h3 ih=>exact h.thr _ _ _ hc.lt.2 ih (h.base _ _ hc.lt.2 h3 h2)
theorem j6b.start{R:Nat→Nat→Prop}{n:Nat}(hR:∀x y,R x y→x<n∧y<n):j6b R n 0 fun a b=>R a b∨(a=b∧a<n):=by
 refine⟨fun x y hh=>?_,fun x y _ _ hr=>.inl hr,fun x hx=>.inr ⟨Z,hx⟩,fun x y z hy=>by omega⟩;rcases hh with h|⟨rfl,h⟩
 ·exact .tail (.refl (hR _ _ h).1) h (hR _ _ h).2
 ·exact .refl h
structure F0d (w0 w:World) (v:Value) (C W:List Int) (R:Nat→Nat→Prop) (n:Nat):Prop where
 get:∃a b c l,v=.agg #[a,b,c]∧O7b w0 w a C∧O7b w0 w b W∧F3c w0 w c l∧l.Pairwise lt2∧l.length≤4096∧∀p,p∈l↔∃x y,Clo R n x y∧p=((x:Int),(y:Int))
theorem F0d.later{w0 w1 w w':World}{v:Value}{C W:List Int}{R:Nat→Nat→Prop}{n:Nat}{G:List Nat}(h:F0d w1 w v C W R n)(hk:y0a G w w')(hG:∀g∈G,g<w1.heap.size)(h0:w0.heap.size≤w1.heap.size):F0d w0 w' v C W R n:=by
 obtain⟨a,b,c,l,h1,h2,h3,h4,h5⟩:=h.get;exact⟨a,b,c,l,h1,h2.later hk hG h0,h3.later hk hG h0,h4.later hk hG h0,h5⟩
theorem p0a.same{w w':World}{b:Blk}(h:p0a w b)(e:w'.heap[b.1]?=w.heap[b.1]?):p0a w' b:=e.trans h
def V1b(a b:List Int):List Int:=Lib.compact (o3a (a++b))
theorem Y4b(d:Array Int):∀m,(∀i j,i≤j→j<m→d[i]! ≤ d[j]!)→(Lib.compactUpTo d m).Pairwise (·<·)∧∀x,x∈Lib.compactUpTo d m↔∃j,j<m∧d[j]! = x:=by
 intro m
 induction m with
 | zero=>intro _;simp[Lib.compactUpTo]
 | succ m ih =>
   intro a0;obtain⟨h1,h2⟩:=ih (fun i j d0 hj=>a0 i j d0 (by omega));rw[Lib.compactUpTo_succ];by_cases hk:Lib.keeps d m=true
   ·rw[if_pos hk];refine⟨List.pairwise_append.2 ⟨h1,by simp,fun x hx y hy=>?_⟩,fun x=>?_⟩
    ·simp at hy;subst hy;obtain⟨j,hj,rfl⟩:=(h2 x).1 hx;have h3:=a0 j (m-1) (by omega) (by omega);have h4:=a0 (m-1) m (by omega) (by omega);have h5:d[m]! ≠ d[m-1]! := by
      simp only[Lib.keeps,decide_eq_true_eq] at hk;rcases hk with h|h
      ·omega
      ·exact h
     omega
    ·simp only[List.mem_append,h2,List.mem_singleton];constructor
     ·rintro(⟨j,hj,rfl⟩|rfl)
      ·exact⟨j,by omega,Z⟩
      ·exact⟨m,by omega,Z⟩
     ·rintro⟨j,hj,rfl⟩;by_cases b0:j=m
      ·subst b0;exact .inr Z
      ·exact .inl ⟨j,by omega,Z⟩
   ·rw[if_neg hk];have c0:¬(m=0∨d[m]! ≠ d[m-1]!):=by simpa[Lib.keeps] using hk
    have h5:d[m]! = d[m-1]! := Classical.byContradiction fun h=>c0 (.inr h);have h6:m≠0:=fun h=>c0 (.inl h);refine⟨by simpa using h1,fun x=>?_⟩;simp only[List.append_nil,h2];constructor
    ·rintro⟨j,hj,rfl⟩;exact⟨j,by omega,Z⟩
    ·rintro⟨j,hj,rfl⟩;by_cases b0:j=m
     ·subst b0;exact⟨j-1,by omega,h5.symm⟩
     ·exact⟨j,by omega,Z⟩
theorem v0b(a b:List Int):(V1b a b).Pairwise (·<·)∧∀x,x∈V1b a b↔x∈a∨x∈b:=by
 have hs:(o3a (a++b)).Pairwise (fun x y=>x≤y):=by
  have:=List.pairwise_mergeSort (le:=fun(x y:Int)=>decide (x≤y)) (fun a b c=>by simp;omega) (fun a b=>by simp;omega) (a++b);simpa[o3a] using this
 have hm:∀x,x∈o3a (a++b)↔x∈a∨x∈b:=fun x=>by simp[o3a]
 generalize hz:o3a (a++b)=zs at hs hm;have hu:V1b a b=Lib.compactUpTo zs.toArray zs.length:=by unfold V1b Lib.compact;rw[hz]
 have hg:∀i,i<zs.length→zs.toArray[i]! = zs.getD i 0:=fun i hi=>by simp[hi]
 obtain⟨h1,h2⟩:=Y4b zs.toArray zs.length (fun i j a0 hj=>by
  rw[hg i (by omega),hg j hj];by_cases he:i=j
  ·subst he;exact Int.le_refl _
  ·have:=List.pairwise_iff_getElem.1 hs i j (by omega) hj (by omega);simpa[show i<zs.length by omega,hj] using this)
 rw[hu];refine⟨h1,fun x=>?_⟩;rw[h2,←hm];constructor
 ·rintro⟨j,hj,rfl⟩;rw[hg j hj];simp[hj]
 ·intro hx;obtain⟨j,hj,rfl⟩:=List.getElem_of_mem hx;exact⟨j,hj,by rw[hg j hj];simp[hj]⟩
theorem St.changedO{M:List Nat}{w0 w w':World}{L:List Ent}{G:Option Nat}{t t':Nat}{cs a0:List Value}(S:St M w0 w L)(i:Nat)(hi:L[i]?=some (G,t,cs))(hb:E0a G.toList w w')(h1:∀g,G=some g→p0a w' (g,t',a0)):St M w0 w' (L.set i (G,t',a0)):=by
 cases G with
 | some g=>exact S.changed1 i hi hb (h1 g Z)
 | none =>
   have hB:Below w.heap.size w w':=hb.nil;exact S.replace i hi (S.later hB).below (fun b b0 _=>hb.block b b0 (by simp)) (fun g hg=>by cases hg)
theorem St.pushO{M:List Nat}{w0 w w1:World}{L:List Ent}{G:Option Nat}{el:Nat}{cs:List Value}(S1:St M w0 w1 L)(Sw:St M w0 w L)(h:∀g,G=some g→w.heap.size≤g∧p0a w1 (g,el,cs)):St M w0 w1 ((G,el,cs)::L):=by
 cases G with
 | none=>exact(S1.nilEnt el).changedO 0 Z (E0a.refl _ _) (fun g hg=>by cases hg)
 | some g=>exact S1.push_new Sw (h g Z).2 (h g Z).1
theorem q3b(w:World)(G:Option Nat)(el:Nat)(cs:List Value)(v:Value)(zs:List Int)(hR:b4a G 1 zs.length cs v (zs.map (Value.int .i64)))(hb:∀g,G=some g→p0a w (g,el,cs))(hz:zs.length≤1000000):
 O0a prog 92 #[v] w fun _ w'=>∃d0,E0a G.toList w w'∧(∀g,G=some g→p0a w' (g,el,d0))∧b4a G 1 (o3a zs).length d0 v ((o3a zs).map (Value.int .i64)):=by
 have b0:(o3a zs).length=zs.length:=by simp[o3a]
 obtain⟨_,⟨rfl,rfl,a0⟩|⟨g,c0,rfl,rfl,_,q2,_,q4⟩⟩:=hR
 ·refine Calls.mono (Tryz.slices_Sort_int_none none 0 w) ?_;rintro e w' ⟨rfl,rfl⟩;exact⟨_,Z,cs,E0a.refl _ _,fun g hg=>(by cases hg),by rw[b0,a0,List.length_eq_zero_iff.1 a0];simp[o3a],.inl ⟨Z,Z,by rw[b0];exact a0⟩⟩
 ·refine(P9c w g el c0 cs zs (hb g Z) (by simpa using q4) (by omega) hz).mono ?_;rintro _ w' ⟨B,h1⟩;refine⟨_,B,fun g' hg=>(by cases hg;exact h1),by simp,.inr ⟨g,c0,Z,by rw[b0],by omega,q2,?_,?_⟩⟩
  ·rw[List.length_append,List.length_map,List.length_drop,b0];omega
  ·rw[Nat.mul_one];exact List.take_left' (by simp)
theorem y0b(w:World)(G:Option Nat)(el:Nat)(cs:List Value)(v:Value)(zs:List Int)(hR:b4a G 1 zs.length cs v (zs.map (Value.int .i64)))(hb:∀g,G=some g→p0a w (g,el,cs))(hz:zs.length≤1000000):
 O0a prog 132 #[v] w fun v' w'=>∃c0,E0a G.toList w w'∧(∀g,G=some g→p0a w' (g,el,c0))∧b4a G 1 (Lib.compact zs).length c0 v' ((Lib.compact zs).map (Value.int .i64)):=by
 have e0:=Lib.compact_length_le zs;obtain⟨_,⟨rfl,rfl,a0⟩|⟨g,b0,rfl,rfl,_,q2,_,q4⟩⟩:=hR
 ·have d0:=List.length_eq_zero_iff.1 a0;subst d0;refine Calls.mono (Tryz.slices_Compact_int_empty none 0 w) ?_;rintro e w' ⟨rfl,rfl⟩;exact⟨_,Z,cs,E0a.refl _ _,fun g hg=>(by cases hg),by simp[Lib.compact,Lib.compactUpTo],.inl ⟨Z,Z,by simp[Lib.compact,Lib.compactUpTo]⟩⟩
 ·refine(m9b w g el b0 cs zs (hb g Z) (by simpa using q4) (by omega) hz (by omega)).mono ?_;rintro _ w' ⟨rfl,B,h1⟩;refine⟨_,B,fun g' hg=>(by cases hg;exact h1),by simp,.inr ⟨g,b0,Z,Z,by omega,q2,?_,?_⟩⟩
  ·rw[List.length_append,List.length_map,List.length_append,List.length_replicate,List.length_drop];omega
  ·rw[Nat.mul_one,List.map_append,List.append_assoc];exact List.take_left' (by simp)
section
variable {P:Program} {r:Option Nat} {N:Nat} {l:List Oper} {D:List Deferred} {C:World→Prop} {K:List Deferred→Env→World→Prop} {pur:Nat→Bool}
def T8a(e:Env)(d:Option Nat)(v:Value):Env:=match d with|some d=>upd e d v|none=>e
def t1b(N:Nat)(o:Oper):Prop:=∀d,o.dst=some d→d<N
theorem j4a{a:Act}(o:Oper)(v:Value)(h:t1b a.tmps.size o):Y0a (a.put o.dst v)=T8a (Y0a a) o.dst v:=by
 cases hd:o.dst with
 | none=>rfl
 | some d=>exact n1a v (h d hd)
theorem P7a(a:Act)(o:Oper)(v:Value):(a.put o.dst v).tmps.size=a.tmps.size:=by
 cases o.dst<;>simp[Act.put]
theorem I3a(a:Act)(o:Oper)(v:Value):(a.put o.dst v).defers=a.defers:=by
 cases o.dst<;>simp[Act.put]
theorem g5a{e:Env}{o:Oper}{v:Value}(hN:t1b N o)(hz:∀i,N≤i→e i=undef):∀i,N≤i→T8a e o.dst v i=undef:=by
 cases hd:o.dst with
 | none=>exact hz
 | some d=>exact J1a (hN d hd) hz
theorem x2a{o:Oper}{K1:List Deferred→Env→World→Prop}{e e1:Env}{w:World}(hN:t1b N o)(j0:Op.isSelect o.op=false)(d0:∀c,o.op≠.defer c)(hz:∀i,N≤i→e1 i=undef)
 (b0:∀s∈Oper.looksAt l.toArray o,e s=e1 s) (h:WL P r N l.toArray [o] K1 D e1 w):WL P r N l.toArray [o] (fun D' e' w'=>∃v,e'=T8a e o.dst v∧K1 D' (T8a e1 o.dst v) w') D e w:=by
 unfold WL at *;intro a Q hs hD he hK;obtain⟨a1,i0,g0,e0⟩:=s6a e1 N D hz;have h1:=h a1 (fun ex a' w'=>ex=.normal∧K1 a'.defers (Y0a a') w') i0 g0 e0 (fun a' w' _ hk=>⟨Z,hk⟩);have hw:Region.wanted o (yielded l.toArray a.tmps)=Region.wanted o (yielded l.toArray a1.tmps):=by rw[A1a,A1a,he,e0];exact V0a b0
 have c0:∀(v:Value) (w':World),K1 (a1.put o.dst v).defers (Y0a (a1.put o.dst v)) w'→Q .normal (a.put o.dst v) w':=by
  intro v w' hk;rw[j4a o v (by rw[i0];exact hN),e0,I3a,g0] at hk;refine hK _ _ (by rw[P7a,hs]) ⟨v,by rw[j4a o v (by rw[hs];exact hN),he],?_⟩;rw[I3a,hD];exact hk
 simp only[wpListIn] at h1 ⊢;rw[hw]
 split
 ·rename_i n0;simp only[n0,if_true] at h1;refine⟨I0a _ _ _,?_⟩;have h4:=h1.2;have m0:Oper.semAt (fc r).round a.eval o=Oper.semAt (fc r).round a1.eval o:=by
   rw[Oper.semAt_eq _ _ _ d0,Oper.semAt_eq _ _ _ d0,C2a,C2a,he,e0];exact t1a j0 b0
  rw[m0]
  revert h4
  generalize (Oper.semAt (fc r).round a1.eval o).run P w=p0;intro h4;cases p0 with
  | ok x w' =>
    cases x with
    | value v=>simp only[Oper.uponIn] at h4 ⊢;exact c0 v w' h4.2
    | skip=>simp only[Oper.uponIn] at h4 ⊢;exact c0 undef w' h4.2
    | defer dd =>
      simp only[Oper.uponIn] at h4 ⊢;have hk:=h4.2;have o0:Y0a ({ a1 with defers:=dd::a1.defers }:Act)=e1:=e0;have ee:Y0a ({ a with defers:=dd::a.defers }:Act)=e:=he;rw[j4a (a:={ a1 with defers:=dd::a1.defers }) o undef (by rw[show({ a1 with defers:=dd::a1.defers }:Act).tmps.size=N from i0];exact hN),o0,I3a] at hk;refine hK _ _ (by rw[P7a];exact hs) ⟨undef,by rw[j4a (a:={ a with defers:=dd::a.defers }) o undef (by rw[show({ a with defers:=dd::a.defers }:Act).tmps.size=N from hs];exact hN),ee],?_⟩;rw[I3a];show K1 (dd::a.defers) _ _;rw[hD,←g0];exact hk
    | enter f args =>
      simp only[Oper.uponIn] at h4 ⊢;exact⟨h4.1,CallsIn.mono h4.2 (fun en q0 hh=>by
       cases en
       ·exact c0 _ _ hh.2
       ·exact absurd hh.1 (by simp)
       ·obtain⟨a0,w0,hh⟩:=hh;exact absurd hh.1 (by simp))⟩
    | row r0 args=>simp only[Oper.uponIn] at h4 ⊢;exact⟨h4.1,RowsIn.mono h4.2 (fun _ _ hh=>c0 _ _ hh.2)⟩
    | round l' f tmps f0 body =>
      simp only[Oper.uponIn] at h4 ⊢;exact⟨h4.1,RoundIn.mono h4.2 (fun en q0 hh=>by
       cases en
       ·exact c0 _ _ hh.2
       ·exact absurd hh.1 (by simp)
       ·obtain⟨a0,w0,hh⟩:=hh;exact absurd hh.1 (by simp))⟩
    | _=>simp only[Oper.uponIn] at h4
  | halt x w'=>cases x<;>simp only[Oper.uponIn] at h4 ⊢<;>exact absurd h4.1 (by simp)
 ·rename_i n0;simp only[n0] at h1;exact⟨I0a _ _ _,c0 undef w h1.2.2⟩
theorem J8b{o:Oper}{K1:List Deferred→Env→World→Prop}{e:Env}{w:World}(hN:t1b N o)(hz:∀i,N≤i→e i=undef)
 (h:WL P r N l.toArray [o] K1 D e w):∃D' v w',K1 D' (T8a e o.dst v) w':=by
 unfold WL at h;obtain⟨a1,e0,f0,d0⟩:=s6a e N D hz;have h1:=h a1 (fun ex a' w'=>ex=.normal∧K1 a'.defers (Y0a a') w') e0 f0 d0 (fun a' w' _ hk=>⟨Z,hk⟩);have b0:∀(v:Value) (w':World),K1 (a1.put o.dst v).defers (Y0a (a1.put o.dst v)) w'→∃D' v w',K1 D' (T8a e o.dst v) w':=by
  intro v w' hk;rw[j4a o v (by rw[e0];exact hN),d0] at hk;exact⟨_,v,w',hk⟩
 simp only[wpListIn] at h1
 split at h1
 ·have h4:=h1.2
  revert h4
  generalize (Oper.semAt (fc r).round a1.eval o).run P w=g0;intro h4;cases g0 with
  | ok x w' =>
    cases x with
    | value v=>simp only[Oper.uponIn] at h4;exact b0 v w' h4.2
    | skip=>simp only[Oper.uponIn] at h4;exact b0 undef w' h4.2
    | defer dd =>
      simp only[Oper.uponIn] at h4;have hk:=h4.2;rw[j4a (a:={ a1 with defers:=dd::a1.defers }) o undef (by rw[show({ a1 with defers:=dd::a1.defers }:Act).tmps.size=N from e0];exact hN),show Y0a ({ a1 with defers:=dd::a1.defers }:Act)=e from d0] at hk;exact⟨_,_,_,hk⟩
    | enter f args =>
      simp only[Oper.uponIn] at h4;obtain⟨en,w2,_,hR,_⟩:=h4.2.2 [] (room_wide _);cases en
      ·exact b0 _ _ hR.2
      ·exact absurd hR.1 (by simp)
      ·obtain⟨a0,w0,hh⟩:=hR;exact absurd hh.1 (by simp)
    | row i0 args =>
      simp only[Oper.uponIn] at h4;obtain⟨v,w2,hR,_⟩:=h4.2 default [] (room_wide _);exact b0 _ _ hR.2
    | round l' f tmps c0 body =>
      simp only[Oper.uponIn] at h4;obtain⟨en,w2,hR,_⟩:=h4.2.2 default [] (room_wide _);cases en
      ·exact b0 _ _ hR.2
      ·exact absurd hR.1 (by simp)
      ·obtain⟨a0,w0,hh⟩:=hR;exact absurd hh.1 (by simp)
    | _=>simp only[Oper.uponIn] at h4
  | halt x w'=>cases x<;>simp only[Oper.uponIn] at h4<;>exact absurd h4.1 (by simp)
 ·exact b0 undef w h1.2.2
def WN(P:Program)(r:Option Nat)(N:Nat)(l:List Oper)(C:World→Prop)(pur:Nat→Bool)(K:List Deferred→Env→World→Prop)(D:List Deferred):List Nat→Env→World→Prop
 | [],e,w=>C w∧K D e w
 | i::rest,e,w=>C w∧∃o,l[i]?=some o∧t1b N o ∧
  ((pur i=true∧∃d v,o.dst=some d∧PV P l C o e v∧WN P r N l C pur K D rest (upd e d v) w) ∨
   (pur i=false∧WL P r N l.toArray [o] (fun D' e' w'=>D'=D∧WN P r N l C pur K D rest e' w') D e w))
theorem WN.inC{a0:List Nat}{e:Env}{w:World}(h:WN P r N l C pur K D a0 e w):C w:=by cases a0<;>exact h.1
def a4a(l:List Oper)(pur:Nat→Bool)(j i:Nat):Bool :=
 match l[j]?,l[i]? with
 | some p,some q=>(pur i||pur j)&&(match p.dst,q.dst with
   | some c,some d=>!(c==d)&&!(Oper.looksAt l.toArray p).contains d&&!(Oper.looksAt l.toArray q).contains c
   | some c,none=>pur j&&!(Oper.looksAt l.toArray q).contains c
   | none,some d=>pur i&&!(Oper.looksAt l.toArray p).contains d
   | _,_=>false)
 | _,_=>false
structure u4d (l:List Oper) (pur:Nat→Bool) (j i:Nat) (o1 o2:Oper):Prop where
 pur:pur i=true∨pur j=true
 dst:∀c d,o1.dst=some c→o2.dst=some d→c≠d
 p:∀d,o2.dst=some d→d∉Oper.looksAt l.toArray o1
 q:∀c,o1.dst=some c→c∉Oper.looksAt l.toArray o2
theorem w4a{j i:Nat}{p q:Oper}(h:a4a l pur j i=true)(hj:l[j]?=some p)(hi:l[i]?=some q):u4d l pur j i p q:=by
 unfold a4a at h;simp only[hj,hi,Bool.and_eq_true,Bool.or_eq_true] at h;obtain⟨h1,h2⟩:=h;cases hc:p.dst with
 | none =>
   cases hd:q.dst with
   | none=>simp[hc,hd] at h2
   | some d =>
     simp only[hc,hd,Bool.and_eq_true,Bool.not_eq_true',List.contains_eq_mem,decide_eq_false_iff_not] at h2;exact⟨h1,fun c d h=>(by rw[hc] at h;cases h),fun x hx=>(by rw[hd] at hx;cases hx;exact h2.2),fun c h=>(by rw[hc] at h;cases h)⟩
 | some c =>
   cases hd:q.dst with
   | none =>
     simp only[hc,hd,Bool.and_eq_true,Bool.not_eq_true',List.contains_eq_mem,decide_eq_false_iff_not] at h2;exact⟨h1,fun c d _ h=>(by rw[hd] at h;cases h),fun d h=>(by rw[hd] at h;cases h),fun x hx=>(by rw[hc] at hx;cases hx;exact h2.2)⟩
   | some d =>
     simp only[hc,hd,Bool.and_eq_true,Bool.not_eq_true',beq_eq_false_iff_ne,List.contains_eq_mem,decide_eq_false_iff_not] at h2;exact⟨h1,fun x y hx hy=>(by rw[hc] at hx;rw[hd] at hy;cases hx;cases hy;exact h2.1.1),fun x hx=>(by rw[hd] at hx;cases hx;exact h2.1.2),fun x hx=>(by rw[hc] at hx;cases hx;exact h2.2)⟩
theorem m4a{e:Env}{o:Oper}{u:Value}{s:Nat}{X:List Nat}(hc:∀c,o.dst=some c→c∉X)(hs:s∈X):T8a e o.dst u s=e s:=by
 cases hd:o.dst with
 | none=>rfl
 | some c=>exact u1a (hc c hd) hs
theorem v7a(e:Env){p q:Oper}(u v:Value)(h:∀c d,p.dst=some c→q.dst=some d→c≠d):T8a (T8a e p.dst u) q.dst v=T8a (T8a e q.dst v) p.dst u:=by
 cases hc:p.dst with
 | none=>rfl
 | some c =>
   cases hd:q.dst with
   | none=>rfl
   | some d=>exact A2a e u v (h c d hc hd)
theorem WN.first(a0:L3a l=true){i:Nat}{g0:List Nat}:∀(e0:List Nat) (e:Env) (w:World),(∀j∈e0,a4a l pur j i=true)→(∀i,N≤i→e i=undef)→WN P r N l C pur K D (e0++i::g0) e w →
 ∃o,l[i]?=some o∧t1b N o ∧
  ((pur i=true∧∃d v,o.dst=some d∧PV P l C o e v∧WN P r N l C pur K D (e0++g0) (upd e d v) w) ∨
   (pur i=false∧WL P r N l.toArray [o] (fun D' e' w'=>D'=D∧∃v,e'=T8a e o.dst v∧WN P r N l C pur K D (e0++g0) e' w') D e w)):=by
 intro e0
 induction e0 with
 | nil =>
   intro e w _ hz h;obtain⟨hC,o,ho,hN,h⟩:=h;refine⟨o,ho,hN,?_⟩;rcases h with h|⟨hp,h⟩
   ·exact .inl h
   ·refine .inr ⟨hp,?_⟩;have h2:=x2a (e:=e) (e1:=e) hN (z0a a0 ho).1 (z0a a0 ho).2 hz (fun _ _=>rfl) h;unfold WL at *;exact fun a Q hs hD he hK=>h2 a Q hs hD he (fun a' w' m0 ⟨v,h1,h3,h4⟩=>hK a' w' m0 ⟨h3,v,h1,by rw[h1];exact h4⟩)
 | cons q e0 ih =>
   intro e w i0 hz h;obtain⟨hC,p,hp,d0,h⟩:=h;have hq:=i0 q (by simp);have b0:∀j∈e0,a4a l pur j i=true:=fun j hj=>i0 j (by simp[hj]);rcases h with⟨j0,c,u,hc,hu,h⟩|⟨j0,h⟩
   ·obtain⟨o,ho,hN,h2⟩:=ih (upd e c u) w b0 (J1a (d0 c hc) hz) h;have hI:=w4a hq hp ho;refine⟨o,ho,hN,?_⟩;rcases h2 with⟨f0,d,v,hd,hv,h2⟩|⟨f0,h2⟩
    ·refine .inl ⟨f0,d,v,hd,hv.congr (z0a a0 ho).1 (fun s hs=>u1a (hI.q c hc) hs),hC,p,hp,d0,.inl ⟨j0,c,u,hc,hu.congr (z0a a0 hp).1 (fun s hs=>(u1a (hI.p d hd) hs).symm),?_⟩⟩;rw[←A2a _ _ _ (hI.dst c d hc hd)];exact h2
    ·refine .inr ⟨f0,?_⟩;have h3:=x2a (e:=e) (e1:=upd e c u) hN (z0a a0 ho).1 (z0a a0 ho).2 (J1a (d0 c hc) hz) (fun s hs=>(u1a (hI.q c hc) hs).symm) h2;unfold WL at *;refine fun a Q hs hD he hK=>h3 a Q hs hD he (fun a' w' m0 hh=>hK a' w' m0 ?_);obtain⟨v,h1,h4,_,h5,h6⟩:=hh;refine⟨h4,v,h1,?_⟩;rw[h1];refine⟨h6.inC,p,hp,d0,.inl ⟨j0,c,u,hc,hu.congr (z0a a0 hp).1 (fun s hs=>(m4a hI.p hs).symm),?_⟩⟩;have e1:T8a (upd e c u) o.dst v=upd (T8a e o.dst v) c u:=by
      have:=v7a e (p:=p) (q:=o) u v hI.dst;rw[hc] at this;exact this
     rw[←e1];exact h6
   ·have h0:=x2a (e:=e) (e1:=e) d0 (z0a a0 hp).1 (z0a a0 hp).2 hz (fun _ _=>rfl) h;obtain⟨_,u1,w1,_,r0,_,h1⟩:=J8b d0 hz h0;rw[←r0] at h1;obtain⟨o,ho,hN,h2⟩:=ih (T8a e p.dst u1) w1 b0 (g5a d0 hz) h1;have hI:=w4a hq hp ho;have f0:pur i=true:=by
     rcases hI.pur with h|h
     ·exact h
     ·rw[j0] at h;cases h
    rcases h2 with⟨_,d,v0,hd,s0,_⟩|⟨c0,_⟩
    ·have n0:PV P l C o e v0:=s0.congr (z0a a0 ho).1 (fun s hs=>m4a hI.q hs);refine⟨o,ho,hN,.inl ⟨f0,d,v0,hd,n0,hC,p,hp,d0,.inr ⟨j0,?_⟩⟩⟩;have h3:=x2a (e:=upd e d v0) (e1:=e) d0 (z0a a0 hp).1 (z0a a0 hp).2 hz (fun s hs=>u1a (hI.p d hd) hs) h;unfold WL at *;refine fun a Q hs hD he hK=>h3 a Q hs hD he (fun a' w' m0 hh=>hK a' w' m0 ?_);obtain⟨u,hu,o0,h4⟩:=hh;refine⟨o0,?_⟩;obtain⟨o',q0,_,h5⟩:=ih (T8a e p.dst u) w' b0 (g5a d0 hz) h4;obtain rfl:o'=o:=Option.some.inj (q0.symm.trans ho);rcases h5 with⟨_,d',v,p0,hv,h5⟩|⟨c0,_⟩
     ·obtain rfl:d'=d:=Option.some.inj (p0.symm.trans hd);have hv':PV P l C o' e v:=hv.congr (z0a a0 ho).1 (fun s hs=>m4a hI.q hs);obtain rfl:v=v0:=PV.uniq hC hv' n0;have e1:upd (T8a e p.dst u) d' v=T8a (upd e d' v) p.dst u:=by
       have:=v7a e (p:=p) (q:=o') u v hI.dst;rw[hd] at this;exact this
      rw[hu,←e1];exact h5
     ·rw[f0] at c0;cases c0
    ·rw[f0] at c0;cases c0
def Y4c(l:List Oper)(pur:Nat→Bool)(x y:Nat):List Nat→List Nat→Bool
 | _,[]=>true
 | acc,i::rest=>(acc.all fun j=>(x4a l i).contains j||a4a l pur j i||(j==x&&i==y))&&Y4c l pur x y (acc++[i]) rest
theorem N1b{x y:Nat}:∀(ix acc:List Nat),Y4c l pur x y acc ix=true→∀(b0:List Nat) (i:Nat) (a0:List Nat),ix=b0++i::a0→∀j∈acc++b0,j∈x4a l i∨a4a l pur j i=true∨(j=x∧i=y)
 | [],_,_,b0,i,a0,h=>by simp at h
 | k::ix,acc,h,b0,i,a0,he=>by
   simp only[Y4c,Bool.and_eq_true] at h;cases b0 with
   | nil =>
     simp at he;obtain⟨rfl,-⟩:=he;intro j hj;rw[List.append_nil] at hj;have:=List.all_eq_true.1 h.1 j hj;simp only[Bool.or_eq_true,List.contains_eq_mem,decide_eq_true_eq,Bool.and_eq_true,beq_iff_eq] at this;rcases this with(h|h)|h
     ·exact .inl h
     ·exact .inr (.inl h)
     ·exact .inr (.inr h)
   | cons q b0 =>
     simp at he;obtain⟨rfl,he⟩:=he;intro j hj;exact N1b ix (acc++[k]) h.2 b0 i a0 he j (by simpa using hj)
def j0d(ix:List Nat)(f:Nat→Bool):List Nat:=ix.filter fun i=>!f i
theorem q9b{ix:List Nat}(c0:ix.Nodup)(f:Nat→Bool){i:Nat}(hi:i∈ix)(hf:f i=false):∃b0 a0 P Q,ix=P++i::Q∧j0d ix f=b0++i::a0∧j0d ix (fun j=>f j||j==i)=b0++a0∧∀j∈b0,j∈P∧f j=false:=by
 obtain⟨P,Q,rfl⟩:=List.append_of_mem hi;rw[List.nodup_append] at c0;obtain⟨_,h2,h3⟩:=c0;rw[List.nodup_cons] at h2;refine⟨P.filter fun j=>!f j,Q.filter fun j=>!f j,P,Q,Z,?_,?_,?_⟩
 ·unfold j0d;rw[List.filter_append,List.filter_cons];simp[hf]
 ·unfold j0d;rw[List.filter_append,List.filter_cons];simp only[beq_self_eq_true,Bool.or_true,Bool.not_true,Bool.false_eq_true,if_false]
  congr 1
  ·apply List.filter_congr;intro j hj;have:(j==i)=false:=by simp;exact fun e=>h3 j hj i (by simp) e
   simp[this]
  ·apply List.filter_congr;intro j hj;have:(j==i)=false:=by simp;exact fun e=>h2.1 (e▸hj)
   simp[this]
 ·intro j hj;rw[List.mem_filter] at hj;exact⟨hj.1,by simpa using hj.2⟩
def e8b:List Nat→Bool
 | []=>true
 | x::l=>!l.contains x&&e8b l
theorem S4b:∀{l:List Nat},e8b l=true→l.Nodup
 | [],_=>List.nodup_nil
 | x::l,h=>by
   simp only[e8b,Bool.and_eq_true,Bool.not_eq_true',List.contains_eq_mem,decide_eq_false_iff_not] at h;exact List.nodup_cons.2 ⟨h.1,S4b h.2⟩
def S7c(n:Nat)(ix:List Nat):Bool:=e8b ix&&(List.range n).all (fun i=>ix.contains i)&&ix.all (fun i=>decide (i<n))
theorem WN.step{ix:List Nat}{x y:Nat}(f0:L3a l=true)(c0:ix.Nodup)(e0:Y4c l pur x y [] ix=true){f:Nat→Bool}(a0:∀i,f i=true→∀j∈k1a l i,f j=true){i:Nat}{o:Oper}(hi:i∈ix)(ho:l[i]?=some o)(b0:f i=false)
 (g0:∀j∈k1a l i,f j=true) (j0:i=y→f x=true) {e:Env} {w:World} (hz:∀i,N≤i→e i=undef) (h:WN P r N l C pur K D (j0d ix f) e w) :
 t1b N o∧((pur i=true∧∃d v,o.dst=some d∧PV P l C o e v∧WN P r N l C pur K D (j0d ix (fun j=>f j||j==i)) (upd e d v) w) ∨
  (pur i=false∧WL P r N l.toArray [o] (fun D' e' w'=>D'=D∧∃v,e'=T8a e o.dst v∧WN P r N l C pur K D (j0d ix (fun j=>f j||j==i)) e' w') D e w)):=by
 obtain⟨m0,_,A,B,h1,h2,h3,h4⟩:=q9b c0 f hi b0;rw[h2] at h;have i0:∀j∈x4a l i,f j=true:=a3a a0 _ _ g0;obtain⟨o',d0,hN,h5⟩:=WN.first f0 m0 e w (fun j hj=>by
  obtain⟨h6,h7⟩:=h4 j hj;rcases N1b ix [] e0 A i B h1 j (by simpa using h6) with h|h|⟨h,h'⟩
  ·have:=i0 j h;rw[h7] at this;cases this
  ·exact h
  ·subst h;have:=j0 h';rw[h7] at this;cases this) hz h
 obtain rfl:o'=o:=Option.some.inj (d0.symm.trans ho);rw[h3];exact⟨hN,h5⟩
variable {e:Env} {w:World}
end
inductive t2a where
 | nil
 | op (i:Nat) (t:t2a)
 | two (a b:t2a)
section
variable {P:Program} {r:Option Nat} {N:Nat} {l:List Oper} {C:World→Prop} {pur:Nat→Bool} {K:List Deferred→Env→World→Prop} {D:List Deferred}
def WT(P:Program)(r:Option Nat)(N:Nat)(l:List Oper)(C:World→Prop)(pur:Nat→Bool)(K:List Deferred→Env→World→Prop)(D:List Deferred):t2a→Env→World→Prop
 | .nil,e,w=>C w∧K D e w
 | .op i t,e,w=>C w∧∃o,l[i]?=some o∧t1b N o ∧
  ((pur i=true∧∃d v,o.dst=some d∧PV P l C o e v∧WT P r N l C pur K D t (upd e d v) w) ∨
   (pur i=false∧WL P r N l.toArray [o] (fun D' e' w'=>D'=D∧WT P r N l C pur K D t e' w') D e w))
 | .two a b,e,w=>WT P r N l C pur K D a e w∧WT P r N l C pur K D b e w
theorem WT.inC:∀{t:t2a} {e:Env} {w:World},WT P r N l C pur K D t e w→C w
 | .nil,_,_,h=>h.1
 | .op _ _,_,_,h=>h.1
 | .two _ _,_,_,h=>WT.inC h.1
def t2a.del(i:Nat):t2a→t2a
 | .nil=>.nil
 | .op j t=>if j=i then t else .op j (t.del i)
 | .two a b=>.two (a.del i) (b.del i)
def frA(l:List Oper)(pur:Nat→Bool)(i:Nat):t2a→Bool
 | .nil=>false
 | .op j t=>j==i||(a4a l pur j i&&frA l pur i t)
 | .two a b=>frA l pur i a&&frA l pur i b
def frO(l:List Oper)(pur:Nat→Bool)(i:Nat):t2a→Bool
 | .nil=>false
 | .op j t=>j==i||(pur j&&a4a l pur j i&&frO l pur i t)
 | .two a b=>frO l pur i a||frO l pur i b
def t2a.sel(l:List Oper)(pur:Nat→Bool)(i:Nat):t2a→t2a
 | .nil=>.nil
 | .op j t=>if j=i then t else .op j (t.sel l pur i)
 | .two a b=>bif frO l pur i a then a.sel l pur i else b.sel l pur i
theorem WT.quiet(a0:L3a l=true){i:Nat}(c0:pur i=true):∀(t:t2a) (e:Env) (w:World),frA l pur i t=true→(∀i,N≤i→e i=undef)→WT P r N l C pur K D t e w →
 ∃o d v,l[i]?=some o∧t1b N o∧o.dst=some d∧PV P l C o e v∧WT P r N l C pur K D (t.del i) (upd e d v) w
 | .nil,_,_,hf,_,_=>by simp[frA] at hf
 | .two a b,e,w,hf,hz,h=>by
   simp only[frA,Bool.and_eq_true] at hf;obtain⟨o,d,v,h1,h2,h3,h4,h5⟩:=WT.quiet a0 c0 a e w hf.1 hz h.1;obtain⟨o',d',v',g1,_,g3,g4,g5⟩:=WT.quiet a0 c0 b e w hf.2 hz h.2;obtain rfl:o'=o:=Option.some.inj (g1.symm.trans h1);obtain rfl:d'=d:=Option.some.inj (g3.symm.trans h3);obtain rfl:v'=v:=PV.uniq h.1.inC g4 h4;exact⟨o',d',v',h1,h2,h3,h4,h5,g5⟩
 | .op j t,e,w,hf,hz,h=>by
   obtain⟨hC,p,hp,b0,h⟩:=h;by_cases f0:j=i
   ·subst f0;rcases h with⟨_,d,v,hd,hv,h⟩|⟨i0,_⟩
    ·exact⟨p,d,v,hp,b0,hd,hv,by simpa[t2a.del] using h⟩
    ·rw[c0] at i0;cases i0
   ·have hq:a4a l pur j i=true∧frA l pur i t=true:=by simpa[frA,f0] using hf
    have e0:(t2a.op j t).del i=.op j (t.del i):=by simp[t2a.del,f0]
    rw[e0];rcases h with⟨g0,c,u,hc,hu,h⟩|⟨g0,h⟩
    ·obtain⟨o,d,v,ho,hN,hd,hv,h2⟩:=WT.quiet a0 c0 t (upd e c u) w hq.2 (J1a (b0 c hc) hz) h;have hI:=w4a hq.1 hp ho;refine⟨o,d,v,ho,hN,hd,hv.congr (z0a a0 ho).1 (fun s hs=>u1a (hI.q c hc) hs),hC,p,hp,b0,.inl ⟨g0,c,u,hc,hu.congr (z0a a0 hp).1 (fun s hs=>(u1a (hI.p d hd) hs).symm),?_⟩⟩;rw[←A2a _ _ _ (hI.dst c d hc hd)];exact h2
    ·have h0:=x2a (e:=e) (e1:=e) b0 (z0a a0 hp).1 (z0a a0 hp).2 hz (fun _ _=>rfl) h;obtain⟨_,u1,w1,_,p0,_,h1⟩:=J8b b0 hz h0;rw[←p0] at h1;obtain⟨o,d,v0,ho,hN,hd,q0,h2⟩:=WT.quiet a0 c0 t (T8a e p.dst u1) w1 hq.2 (g5a b0 hz) h1;have hI:=w4a hq.1 hp ho;have d0:PV P l C o e v0:=q0.congr (z0a a0 ho).1 (fun s hs=>m4a hI.q hs);refine⟨o,d,v0,ho,hN,hd,d0,hC,p,hp,b0,.inr ⟨g0,?_⟩⟩;have h3:=x2a (e:=upd e d v0) (e1:=e) b0 (z0a a0 hp).1 (z0a a0 hp).2 hz (fun s hs=>u1a (hI.p d hd) hs) h;unfold WL at *;refine fun a Q hs hD he hK=>h3 a Q hs hD he (fun a' w' o0 hh=>hK a' w' o0 ?_);obtain⟨u,hu,j0,h4⟩:=hh;refine⟨j0,?_⟩;obtain⟨o',d',v,n0,_,m0,hv,h5⟩:=WT.quiet a0 c0 t (T8a e p.dst u) w' hq.2 (g5a b0 hz) h4;obtain rfl:o'=o:=Option.some.inj (n0.symm.trans ho);obtain rfl:d'=d:=Option.some.inj (m0.symm.trans hd);have hv':PV P l C o' e v:=hv.congr (z0a a0 ho).1 (fun s hs=>m4a hI.q hs);obtain rfl:v=v0:=PV.uniq hC hv' d0;have e1:upd (T8a e p.dst u) d' v=T8a (upd e d' v) p.dst u:=by
      have:=v7a e (p:=p) (q:=o') u v hI.dst;rw[hd] at this;exact this
     rw[hu,←e1];exact h5
theorem WT.loud(a0:L3a l=true){i:Nat}(d0:pur i=false):∀(t:t2a) (e:Env) (w:World),frO l pur i t=true→(∀i,N≤i→e i=undef)→WT P r N l C pur K D t e w →
 ∃o,l[i]?=some o∧t1b N o∧WL P r N l.toArray [o] (fun D' e' w'=>D'=D∧∃v,e'=T8a e o.dst v∧WT P r N l C pur K D (t.sel l pur i) e' w') D e w
 | .nil,_,_,hf,_,_=>by simp[frO] at hf
 | .two a b,e,w,hf,hz,h=>by
   simp only[frO,Bool.or_eq_true] at hf;cases ha:frO l pur i a with
   | true =>
     have:=WT.loud a0 d0 a e w ha hz h.1;simpa[t2a.sel,ha] using this
   | false =>
     have:=WT.loud a0 d0 b e w (hf.resolve_left (by rw[ha];simp)) hz h.2;simpa[t2a.sel,ha] using this
 | .op j t,e,w,hf,hz,h=>by
   obtain⟨_,p,hp,c0,h⟩:=h;by_cases f0:j=i
   ·subst f0;rcases h with⟨i0,_⟩|⟨_,h⟩
    ·rw[d0] at i0;cases i0
    ·refine⟨p,hp,c0,?_⟩;have b0:(t2a.op j t).sel l pur j=t:=by simp[t2a.sel]
     rw[b0];have h2:=x2a (e:=e) (e1:=e) c0 (z0a a0 hp).1 (z0a a0 hp).2 hz (fun _ _=>rfl) h;unfold WL at *;exact fun a Q hs hD he hK=>h2 a Q hs hD he (fun a' w' g0 ⟨v,h1,h3,h4⟩=>hK a' w' g0 ⟨h3,v,h1,by rw[h1];exact h4⟩)
   ·have hq:(pur j=true∧a4a l pur j i=true)∧frO l pur i t=true:=by simpa[frO,f0] using hf
    have b0:(t2a.op j t).sel l pur i=.op j (t.sel l pur i):=by simp[t2a.sel,f0]
    rw[b0];rcases h with⟨e0,c,u,hc,hu,h⟩|⟨e0,_⟩
    ·obtain⟨o,ho,hN,h2⟩:=WT.loud a0 d0 t (upd e c u) w hq.2 (J1a (c0 c hc) hz) h;have hI:=w4a hq.1.2 hp ho;refine⟨o,ho,hN,?_⟩;have h3:=x2a (e:=e) (e1:=upd e c u) hN (z0a a0 ho).1 (z0a a0 ho).2 (J1a (c0 c hc) hz) (fun s hs=>(u1a (hI.q c hc) hs).symm) h2;unfold WL at *;refine fun a Q hs hD he hK=>h3 a Q hs hD he (fun a' w' g0 hh=>hK a' w' g0 ?_);obtain⟨v,h1,h4,_,_,h6⟩:=hh;refine⟨h4,v,h1,?_⟩;rw[h1];refine⟨h6.inC,p,hp,c0,.inl ⟨e0,c,u,hc,hu.congr (z0a a0 hp).1 (fun s hs=>(m4a hI.p hs).symm),?_⟩⟩;have e1:T8a (upd e c u) o.dst v=upd (T8a e o.dst v) c u:=by
      have:=v7a e (p:=p) (q:=o) u v hI.dst;rw[hc] at this;exact this
     rw[←e1];exact h6
    ·rw[hq.1.1] at e0;cases e0
def t2a.paths:t2a→List (List Nat)
 | .nil=>[[]]
 | .op i t=>t.paths.map (i::·)
 | .two a b=>a.paths++b.paths
theorem t2a.paths_ne:∀t:t2a,∃π,π∈t.paths
 | .nil=>⟨[],by simp[t2a.paths]⟩
 | .op i t=>by obtain⟨π,h⟩:=t.paths_ne;exact⟨i::π,List.mem_map.2 ⟨π,h,Z⟩⟩
 | .two a b=>by obtain⟨π,h⟩:=a.paths_ne;exact⟨π,List.mem_append_left _ h⟩
theorem t2a.paths_del{i:Nat}:∀(t:t2a) (ρ:List Nat),ρ∈(t.del i).paths→∃π∈t.paths,ρ=π.erase i
 | .nil,ρ,h=>⟨[],by simp[t2a.paths],by simpa[t2a.del,t2a.paths] using h⟩
 | .two a b,ρ,h=>by
   rcases List.mem_append.1 h with h|h
   ·obtain⟨π,h1,h2⟩:=a.paths_del ρ h;exact⟨π,List.mem_append_left _ h1,h2⟩
   ·obtain⟨π,h1,h2⟩:=b.paths_del ρ h;exact⟨π,List.mem_append_right _ h1,h2⟩
 | .op j t,ρ,h=>by
   by_cases hj:j=i
   ·subst hj;simp only[t2a.del,if_pos] at h;exact⟨j::ρ,List.mem_map.2 ⟨ρ,h,Z⟩,by simp⟩
   ·simp only[t2a.del,if_neg hj,t2a.paths] at h;obtain⟨ρ',h2,rfl⟩:=List.mem_map.1 h;obtain⟨π,h1,rfl⟩:=t.paths_del ρ' h2;exact⟨j::π,List.mem_map.2 ⟨π,h1,Z⟩,by rw[List.erase_cons_tail (by simpa using hj)]⟩
theorem t2a.paths_sel{i:Nat}:∀(t:t2a) (ρ:List Nat),ρ∈(t.sel l pur i).paths→∃π∈t.paths,ρ=π.erase i
 | .nil,ρ,h=>⟨[],by simp[t2a.paths],by simpa[t2a.sel,t2a.paths] using h⟩
 | .two a b,ρ,h=>by
   cases ha:frO l pur i a with
   | true =>
     simp only[t2a.sel,ha,cond_true] at h;obtain⟨π,h1,h2⟩:=a.paths_sel ρ h;exact⟨π,List.mem_append_left _ h1,h2⟩
   | false =>
     simp only[t2a.sel,ha,cond_false] at h;obtain⟨π,h1,h2⟩:=b.paths_sel ρ h;exact⟨π,List.mem_append_right _ h1,h2⟩
 | .op j t,ρ,h=>by
   by_cases hj:j=i
   ·subst hj;simp only[t2a.sel,if_pos] at h;exact⟨j::ρ,List.mem_map.2 ⟨ρ,h,Z⟩,by simp⟩
   ·simp only[t2a.sel,if_neg hj,t2a.paths] at h;obtain⟨ρ',h2,rfl⟩:=List.mem_map.1 h;obtain⟨π,h1,rfl⟩:=t.paths_sel ρ' h2;exact⟨j::π,List.mem_map.2 ⟨π,h1,Z⟩,by rw[List.erase_cons_tail (by simpa using hj)]⟩
def h3d(l:List Oper)(pur:Nat→Bool)(j i:Nat):Bool:=(x4a l i).contains j||a4a l pur j i||(!pur j&&!pur i)
def pwT(l:List Oper)(pur:Nat→Bool):List Nat→Bool
 | []=>true
 | j::π=>π.all (h3d l pur j)&&pwT l pur π
theorem F6c:∀{π:List Nat},pwT l pur π=true→π.Pairwise fun j i=>h3d l pur j i=true
 | [],_=>.nil
 | j::π,h=>by
   simp only[pwT,Bool.and_eq_true,List.all_eq_true] at h;exact .cons h.1 (F6c h.2)
def t2a.nxts(pur:Nat→Bool):t2a→List Nat
 | .nil=>[]
 | .op j t=>bif pur j then t.nxts pur else[j]
 | .two a b=>a.nxts pur++b.nxts pur
def v4b(l:List Oper)(pur:Nat→Bool)(acc:List Nat)(t:t2a):Bool:=(List.range l.length).all fun i=>pur i||acc.contains i||(t.nxts pur).contains i||(x4a l i).any fun j=>!pur j&&!acc.contains j
def Y3b(l:List Oper)(pur:Nat→Bool):List Nat→t2a→Bool
 | _,.nil=>true
 | acc,.op j t=>bif pur j then Y3b l pur acc t else v4b l pur (j::acc) t&&Y3b l pur (j::acc) t
 | acc,.two a b=>Y3b l pur acc a&&Y3b l pur acc b
def j6c(l:List Oper)(pur:Nat→Bool)(t:t2a):Bool :=
 L3a l&&((List.range l.length).all fun i=>(k1a l i).all fun j=>decide (j<i))&&(t.paths.all fun π=>S7c l.length π&&pwT l pur π)&&v4b l pur [] t&&Y3b l pur [] t
theorem c6a{i:Nat}(hi:pur i=true):∀t:t2a,(t.del i).nxts pur=t.nxts pur
 | .nil=>rfl
 | .two a b=>by simp[t2a.del,t2a.nxts,c6a hi a,c6a hi b]
 | .op j t=>by
   by_cases hj:j=i
   ·subst hj;simp[t2a.del,t2a.nxts,hi]
   ·simp only[t2a.del,if_neg hj,t2a.nxts];rw[c6a hi t]
theorem N7a{i:Nat}(hi:pur i=true):∀(t:t2a) (acc:List Nat),Y3b l pur acc t=true→Y3b l pur acc (t.del i)=true
 | .nil,_,h=>h
 | .two a b,acc,h=>by
   simp only[t2a.del,Y3b,Bool.and_eq_true] at h ⊢;exact⟨N7a hi a acc h.1,N7a hi b acc h.2⟩
 | .op j t,acc,h=>by
   by_cases hj:j=i
   ·subst hj;simpa[t2a.del,Y3b,hi] using h
   ·simp only[t2a.del,if_neg hj,Y3b] at h ⊢;cases hp:pur j with
    | true=>rw[hp] at h;exact N7a hi t acc h
    | false =>
      rw[hp] at h;simp only[cond_false,Bool.and_eq_true] at h ⊢;exact⟨by have:=h.1;unfold v4b at this ⊢;rw[c6a hi t];exact this,N7a hi t _ h.2⟩
theorem u9a{i:Nat}(hi:pur i=false):∀(t:t2a) (acc:List Nat),frO l pur i t=true→Y3b l pur acc t=true→v4b l pur (i::acc) (t.sel l pur i)=true∧Y3b l pur (i::acc) (t.sel l pur i)=true
 | .nil,_,hf,_=>by simp[frO] at hf
 | .two a b,acc,hf,h=>by
   simp only[frO,Bool.or_eq_true] at hf;simp only[Y3b,Bool.and_eq_true] at h;cases ha:frO l pur i a with
   | true=>simp only[t2a.sel,ha,cond_true];exact u9a hi a acc ha h.1
   | false=>simp only[t2a.sel,ha,cond_false];exact u9a hi b acc (hf.resolve_left (by rw[ha];simp)) h.2
 | .op j t,acc,hf,h=>by
   by_cases hj:j=i
   ·subst hj;simp only[t2a.sel,if_pos,Y3b,hi,cond_false,Bool.and_eq_true] at h ⊢;exact h
   ·have hq:(pur j=true∧a4a l pur j i=true)∧frO l pur i t=true:=by simpa[frO,hj] using hf
    simp only[Y3b,hq.1.1,cond_true] at h;have:=u9a hi t acc hq.2 h;simp only[t2a.sel,if_neg hj,Y3b,hq.1.1,cond_true];refine⟨?_,this.2⟩;have h1:=this.1;unfold v4b at h1 ⊢;simpa[t2a.nxts,hq.1.1] using h1
theorem v3b{i:Nat}:∀t:t2a,(∀π∈t.paths,i∈π∧∀A B,π=A++i::B→i∉A→∀j∈A,a4a l pur j i=true)→frA l pur i t=true
 | .nil,h=>by have:=(h [] (by simp[t2a.paths])).1;cases this
 | .two a b,h=>by
   simp only[frA,Bool.and_eq_true];exact⟨v3b a fun π hπ=>h π (List.mem_append_left _ hπ),v3b b fun π hπ=>h π (List.mem_append_right _ hπ)⟩
 | .op j t,h=>by
   by_cases hj:j=i
   ·simp[frA,hj]
   ·have a0:∀π∈t.paths,i∈π:=fun π hπ=>by
     have:=(h (j::π) (List.mem_map.2 ⟨π,hπ,Z⟩)).1;rcases List.mem_cons.1 this with h|h
     ·exact absurd h.symm hj
     ·exact h
    have hq:a4a l pur j i=true:=by
     obtain⟨π,hπ⟩:=t.paths_ne;obtain⟨A,B,he,hA⟩:=List.eq_append_cons_of_mem (a0 π hπ);exact(h (j::π) (List.mem_map.2 ⟨π,hπ,Z⟩)).2 (j::A) B (by rw[he];rfl) (by simp[hA];exact fun e=>hj e.symm) j (by simp)
    simp only[frA,Bool.or_eq_true,Bool.and_eq_true];refine .inr ⟨hq,v3b t fun π hπ=>⟨a0 π hπ,fun A B he hA k hk=>?_⟩⟩;exact(h (j::π) (List.mem_map.2 ⟨π,hπ,Z⟩)).2 (j::A) B (by rw[he];rfl) (by simp[hA];exact fun e=>hj e.symm) k (by simp[hk])
theorem E3b{i:Nat}(hi:pur i=false):∀t:t2a,i∈t.nxts pur→(∀π∈t.paths,∀A B,π=A++i::B→∀j∈A,pur j=true→a4a l pur j i=true)→frO l pur i t=true∧∃π∈t.paths,i∈π
 | .nil,hn,_=>by simp[t2a.nxts] at hn
 | .two a b,hn,h=>by
   rcases List.mem_append.1 hn with hn|hn
   ·obtain⟨h1,π,h2,h3⟩:=E3b hi a hn fun π hπ=>h π (List.mem_append_left _ hπ);exact⟨by simp[frO,h1],π,List.mem_append_left _ h2,h3⟩
   ·obtain⟨h1,π,h2,h3⟩:=E3b hi b hn fun π hπ=>h π (List.mem_append_right _ hπ);exact⟨by simp[frO,h1],π,List.mem_append_right _ h2,h3⟩
 | .op j t,hn,h=>by
   cases hp:pur j with
   | false =>
     have:i=j:=by simpa[t2a.nxts,hp] using hn
     subst this;obtain⟨π,hπ⟩:=t.paths_ne;exact⟨by simp[frO],i::π,List.mem_map.2 ⟨π,hπ,Z⟩,by simp⟩
   | true =>
     obtain⟨h1,π,h2,h3⟩:=E3b hi t (by simpa[t2a.nxts,hp] using hn) fun π hπ A B he k hk a0=>h (j::π) (List.mem_map.2 ⟨π,hπ,Z⟩) (j::A) B (by rw[he];rfl) k (by simp[hk]) a0;obtain⟨A,B,he⟩:=List.append_of_mem h3;have hq:=h (j::π) (List.mem_map.2 ⟨π,h2,Z⟩) (j::A) B (by rw[he];rfl) j (by simp) hp;exact⟨by simp[frO,hp,hq,h1],j::π,List.mem_map.2 ⟨π,h2,Z⟩,by simp[h3]⟩
theorem WT.done:∀{t:t2a} {e:Env} {w:World},(∀π∈t.paths,π=[])→WT P r N l C pur K D t e w→K D e w
 | .nil,_,_,_,h=>h.2
 | .op i t,_,_,hp,_=>by
   obtain⟨π,hπ⟩:=t.paths_ne;have:=hp (i::π) (List.mem_map.2 ⟨π,hπ,Z⟩);cases this
 | .two a b,_,_,hp,h=>WT.done (fun π hπ=>hp π (List.mem_append_left _ hπ)) h.1
structure v6c (l:List Oper) (pur:Nat→Bool) (t:t2a) (f:Nat→Bool) (acc:List Nat):Prop where
 nd:∀π∈t.paths,π.Nodup
 full:∀π∈t.paths,∀i,i∈π↔(i<l.length∧f i=false)
 ord:∀π∈t.paths,π.Pairwise fun j i=>h3d l pur j i=true
 here_:v4b l pur acc t=true
 sub:Y3b l pur acc t=true
 got:∀i,i∈acc→f i=true
 out:∀i,pur i=false→f i=true→i∈acc
theorem v6c.ahead{t:t2a}{f:Nat→Bool}{acc:List Nat}(h:v6c l pur t f acc)(a0:∀i,f i=true→∀j∈k1a l i,f j=true){i:Nat}(b0:∀j∈k1a l i,f j=true){π:List Nat}(hπ:π∈t.paths){A B:List Nat}(he:π=A++i::B){j:Nat}(hj:j∈A)(hq:pur j=true∨pur i=true):a4a l pur j i=true:=by
 have h1:=h.ord π hπ;rw[he,List.pairwise_append] at h1;have h2:=h1.2.2 j hj i (by simp);have h3:=(h.full π hπ j).1 (by rw[he];simp[hj]);unfold h3d at h2;simp only[Bool.or_eq_true,List.contains_eq_mem,decide_eq_true_eq,Bool.and_eq_true,Bool.not_eq_true'] at h2;rcases h2 with(h2|h2)|h2
 ·have:=a3a a0 _ _ b0 j h2;rw[h3.2] at this;cases this
 ·exact h2
 ·rcases hq with hq|hq
  ·rw[hq] at h2;cases h2.1
  ·rw[hq] at h2;cases h2.2
theorem v6c.erase{t t':t2a}{f:Nat→Bool}{acc a0:List Nat}{i:Nat}(h:v6c l pur t f acc)(hp:∀ρ∈t'.paths,∃π∈t.paths,ρ=π.erase i)(h1:v4b l pur a0 t'=true)(h2:Y3b l pur a0 t'=true)(h3:∀j,j∈a0→j∈acc∨j=i)(h4:∀j,j∈acc∨(j=i∧pur i=false)→j∈a0):v6c l pur t' (fun j=>f j||j==i) a0 where
 nd ρ hρ:=by obtain⟨π,hπ,rfl⟩:=hp ρ hρ;exact(h.nd π hπ).erase i
 full ρ hρ j:=by
  obtain⟨π,hπ,rfl⟩:=hp ρ hρ;rw[(h.nd π hπ).mem_erase_iff,h.full π hπ j];simp only[Bool.or_eq_false_iff,beq_eq_false_iff_ne];exact⟨fun z=>⟨z.2.1,z.2.2,z.1⟩,fun z=>⟨z.2.2,z.1,z.2.1⟩⟩
 ord ρ hρ:=by obtain⟨π,hπ,rfl⟩:=hp ρ hρ;exact(h.ord π hπ).sublist List.erase_sublist
 here_:=h1
 sub:=h2
 got j hj:=by
  rcases h3 j hj with z|rfl
  ·simp[h.got j z]
  ·simp
 out j hj hf:=by
  simp only[Bool.or_eq_true,beq_iff_eq] at hf;rcases hf with z|rfl
  ·exact h4 j (.inl (h.out j hj z))
  ·exact h4 j (.inr ⟨Z,hj⟩)
theorem U8a{id:Nat}{n t:List Deferred→Env→World→Prop}{b:Nat→List Deferred→Env→World→Prop}{e:Env}{w:World}(hm:P.follows .mixedOrders=true)(pur:Nat→Bool)(T:t2a)(C:World→Prop)
 (hW:WT P r N l C pur n D T e w.drew) (hok:j6c l pur T=true:=by kernel_rfl):W P r N (.region id l.toArray true) ⟨n,b,t⟩ D e w:=by
 unfold j6c at hok;simp only[Bool.and_eq_true] at hok;obtain⟨⟨⟨⟨m0,t0⟩,x0⟩,u0⟩,A0⟩:=hok;have a0:=fun π (hπ:π∈T.paths)=>List.all_eq_true.1 x0 π hπ;have hz:(∀i,N≤i→e i=undef)→W P r N (.region id l.toArray true) ⟨n,b,t⟩ D e w:=by
  intro hz;refine V4c hm t0 (fun f e w=>(∀i,N≤i→e i=undef)∧(∀i,f i=true→∀j∈k1a l i,f j=true)∧∃t acc,v6c l pur t f acc∧WT P r N l C pur n D t e w) ⟨hz,by simp,T,[],⟨fun π hπ=>?_,fun π hπ i=>?_,fun π hπ=>?_,u0,A0,by simp,by simp⟩,hW⟩ ?_ ?_
  ·have:=a0 π hπ;unfold S7c at this;simp only[Bool.and_eq_true] at this;exact S4b this.1.1.1
  ·have:=a0 π hπ;unfold S7c at this;simp only[Bool.and_eq_true] at this;refine⟨fun h=>⟨by simpa using List.all_eq_true.1 this.1.2 i h,Z⟩,fun h=>by simpa using List.all_eq_true.1 this.1.1.2 i (List.mem_range.2 h.1)⟩
  ·have:=a0 π hπ;simp only[Bool.and_eq_true] at this;exact F6c this.2
  ·rintro f e w i o ⟨hz,e0,t,acc,hA,hT⟩ ho p0 g0;have q0:i<l.length:=(List.getElem?_eq_some_iff.1 ho).1;have c0:∀k,(f k||k==i)=true→∀j∈k1a l k,(f j||j==i)=true:=by
    intro k hk j hj;simp only[Bool.or_eq_true,beq_iff_eq] at hk ⊢;rcases hk with hk|rfl
    ·exact .inl (e0 k hk j hj)
    ·exact .inl (g0 j hj)
   cases b0:pur i with
   | true =>
     have f0:frA l pur i t=true:=v3b t fun π hπ=>⟨(hA.full π hπ i).2 ⟨q0,p0⟩,fun A B he _ j hj=>hA.ahead e0 g0 hπ he hj (.inr b0)⟩
     obtain⟨o',d,v,j0,hN,hd,hv,h5⟩:=WT.quiet m0 b0 t e w f0 hz hT;obtain rfl:o'=o:=Option.some.inj (j0.symm.trans ho);have d0:v6c l pur (t.del i) (fun j=>f j||j==i) acc:=hA.erase (t2a.paths_del t) (by have:=hA.here_;unfold v4b at this ⊢;rw[c6a b0 t];exact this) (N7a b0 t acc hA.sub) (fun j hj=>.inl hj) (fun j hj=>hj.elim (fun z=>z) (fun z=>by rw[b0] at z;cases z.2));have r0:=hT.inC;rcases hv with⟨o0,hv⟩|⟨o0,rfl⟩
     ·unfold WL;intro a Q hs hD he hK;simp only[wpListIn];have n0:Region.wanted o' (yielded l.toArray a.tmps)=true:=by rw[A1a,he];exact o0
      simp only[n0,if_true];refine⟨I0a _ _ _,?_⟩;rw[Oper.semAt_eq _ _ _ (z0a m0 ho).2,C2a,he,hv w r0,Oper.uponIn_value];refine hK _ _ (by rw[P7a,hs]) ⟨by rw[I3a,hD],?_⟩;rw[hd,n1a v (by rw[hs];exact hN d hd),he];exact⟨J1a (hN d hd) hz,c0,_,_,d0,h5⟩
     ·unfold WL;intro a Q hs hD he hK;simp only[wpListIn];have n0:Region.wanted o' (yielded l.toArray a.tmps)=false:=by rw[A1a,he];exact o0
      simp only[n0];refine⟨I0a _ _ _,?_⟩;refine hK _ _ (by rw[P7a,hs]) ⟨by rw[I3a,hD],?_⟩;rw[hd,n1a undef (by rw[hs];exact hN d hd),he];exact⟨J1a (hN d hd) hz,c0,_,_,d0,h5⟩
   | false =>
     have v0:i∈t.nxts pur:=by
      have h1:=List.all_eq_true.1 hA.here_ i (List.mem_range.2 q0);simp only[Bool.or_eq_true,b0,Bool.false_eq_true,false_or,List.contains_eq_mem,decide_eq_true_eq,List.any_eq_true,Bool.and_eq_true,Bool.not_eq_true',decide_eq_false_iff_not] at h1;rcases h1 with(h1|h1)|⟨j,h1,h2,h3⟩
      ·have:=hA.got i h1;rw[p0] at this;cases this
      ·exact h1
      ·exact absurd (hA.out j h2 (a3a e0 _ _ g0 j h1)) h3
     obtain⟨f0,-⟩:=E3b (l:=l) b0 t v0 fun π hπ A B he j hj y0=>hA.ahead e0 g0 hπ he hj (.inl y0);obtain⟨o',j0,hN,h5⟩:=WT.loud m0 b0 t e w f0 hz hT;obtain rfl:o'=o:=Option.some.inj (j0.symm.trans ho);have h6:=u9a b0 t acc f0 hA.sub;have d0:v6c l pur (t.sel l pur i) (fun j=>f j||j==i) (i::acc):=hA.erase (t2a.paths_sel t) h6.1 h6.2 (fun j hj=>by rcases List.mem_cons.1 hj with h|h;exact .inr h;exact .inl h) (fun j hj=>by rcases hj with h|h;simp[h];simp[h.1]);unfold WL at *;refine fun a Q hs hD he hK=>h5 a Q hs hD he (fun a' w' z0 hh=>hK a' w' z0 ?_);obtain⟨s0,v,hv,h7⟩:=hh;exact⟨s0,by rw[hv];exact g5a hN hz,c0,_,_,d0,h7⟩
  ·rintro f e w ⟨_,_,t,acc,hA,hT⟩ i0;refine WT.done (fun π hπ=>?_) hT;rw[List.eq_nil_iff_forall_not_mem];intro i hi;have:=(hA.full π hπ i).1 hi;rw[i0 i this.1] at this;cases this.2
 unfold W at *;intro a hs hd he;refine hz (fun i hi=>?_) a hs hd he;rw[←he];simp only[Y0a,Array.getD_eq_getD_getElem?];rw[Array.getElem?_eq_none (by omega)];rfl
variable {e:Env} {w:World}
theorem e3a(hC:C w)(h:K D e w):WT P r N l C pur K D .nil e w:=⟨hC,h⟩
theorem Z5a{a b:t2a}(h1:WT P r N l C pur K D a e w)(h2:WT P r N l C pur K D b e w):WT P r N l C pur K D (.two a b) e w:=⟨h1,h2⟩
theorem B1a{i:Nat}{t:t2a}{o:Oper}(hC:C w)(ho:l[i]?=some o)(hp:pur i=true)(hv:L3c o.op=true)(h:QL P N l.toArray C [o] (fun e'=>WT P r N l C pur K D t e' w) e):WT P r N l C pur K D (.op i t) e w:=by
 unfold QL at h;obtain⟨pa,hl,hq,hk⟩:=h;obtain⟨d,v,h1,h2,h3,h4⟩:=hq 0 o Z;obtain rfl:pa=[(d,v)]:=by
  match pa,hl,h1 with
  | [x],_,h1=>simpa using h1
 refine⟨hC,o,ho,fun d' a0=>by rw[h2] at a0;cases a0;exact h3,.inl ⟨hp,d,v,h2,?_,hk⟩⟩;rcases h4 with⟨h5,h6⟩|h5
 ·refine .inl ⟨h5,fun w hw=>?_⟩;rcases h6 w hw with h7|⟨f,args,h7,_⟩
  ·exact h7
  ·obtain⟨_,hv'⟩:=a7a hv h7;cases hv'
 ·exact .inr h5
theorem u2a{i:Nat}{t:t2a}{o:Oper}(hC:C w)(ho:l[i]?=some o)(hp:pur i=false)(hN:(o.dst.all fun d=>Nat.ble (d+1) N)=true)
 (h:WL P r N l.toArray [o] (fun D' e' w'=>D'=D∧WT P r N l C pur K D t e' w') D e w):WT P r N l C pur K D (.op i t) e w :=
 ⟨hC,o,ho,fun d hd=>by rw[hd] at hN;exact Nat.le_of_ble_eq_true (by simpa using hN),.inr ⟨hp,h⟩⟩
end
abbrev clE{M:List Nat}{w0 w:World}{L:List Ent}(_:St M w0 w L)(k:Nat)(K:List Nat):World→Prop:=fun w1=>St M w0 w1 (L.eraseIdx k)∧y0a K w w1
theorem St.er{M:List Nat}{w0 w:World}{L:List Ent}(S:St M w0 w L)(k:Nat):St M w0 w (L.eraseIdx k):=S.sublist (List.eraseIdx_sublist L k)
section
variable {P:Program} {r:Option Nat} {N:Nat} {D:List Deferred} {e:Env} {w:World}
theorem W8c{l p N:Nat}{rc:Loop}{x:Value}{a0 body:Code}{R:Value→World→Prop}(hl:w.heap[l]?=some (.loop rc))(hr:rc.state=.ready)(hN:rc.tmps.size=N)(f0:Y0a { tmps:=rc.tmps,defers:=[] }=e)(b0:rc.params=#[p])(d0:rc.assign=a0)(e0:rc.body=body)(hp:Nat.ble (p+1) N=true)
 (h:W P (some l) N a0 ⟨fun D e w1=>w1.heap[l]?=some (.loop rc) ∧
   W P (some l) N body ⟨fun _ _ w3=>D9a l none R w3,fun id _ _ w3=>D9a l (some (.exit id)) R w3,fun _ _ w3=>D9a l (some .ret) R w3⟩ D e (w1.putObj l (.loop { rc with state:=.busy })),
   fun _ _ _ _=>False,fun _ _ _=>False⟩ [] (upd e p x) w):Yld P l #[x] w R:=by
 subst f0 d0 e0;have i0:=Nat.le_of_ble_eq_true hp;refine⟨rc,hl,by simp[b0],?_⟩;have hz:(rc.params.zip #[x]).foldl (fun tmps (t,a)=>tmps.setIfInBounds t a) rc.tmps=rc.tmps.setIfInBounds p x:=by rw[b0];simp
 rw[hz];refine roundIn_of_wpIn (F:=Fence.wide) trivial ?_;unfold W at h;have he:Y0a { tmps:=rc.tmps.setIfInBounds p x,defers:=[] }=upd (Y0a { tmps:=rc.tmps,defers:=[] }) p x:=by
  have h1:=n1a (a:={ tmps:=rc.tmps,defers:=[] }) (d:=p) x (by simp;omega);simp only[Act.put] at h1;rw[←h1]
 refine wpIn_mono (h { tmps:=rc.tmps.setIfInBounds p x,defers:=[] } (by simp[hN]) Z he) fun ex a w1 hq=>?_;cases ex with
 | normal =>
   obtain⟨hs,g0,hb⟩:=hq;refine⟨_,run_beginRound g0 hr,wpIn_mono (hb a hs Z Z) fun ex a w3 hq=>?_⟩;cases ex with
   | normal=>obtain⟨_,c0,h3,hR⟩:=hq;exact⟨_,_,run_endRound none h3,_,Z,hR⟩
   | ret=>obtain⟨_,c0,h3,hR⟩:=hq;exact⟨_,_,run_endRound (some .ret) h3,_,Z,hR⟩
   | exit id=>obtain⟨_,c0,h3,hR⟩:=hq;exact⟨_,_,run_endRound (some (.exit id)) h3,_,Z,hR⟩
   | goto l=>exact hq.elim
   | panic c=>exact hq.elim
   | outgrown=>exact hq.elim
 | exit id=>exact hq.2
 | ret=>exact hq.2
 | goto l=>exact hq.elim
 | panic c=>exact hq.elim
 | outgrown=>exact hq.elim
end
theorem O7b.over{wb w w1 w2:World}{v:Value}{l:List Int}{g:Nat}(h:O7b wb w v l)(Kx:y0a [] w w1)(Ks:y0a [g] w1 w2)(hg:g<wb.heap.size∨w.heap.size≤g)(_hl:l.length≤1000):RdI [] w2 v l:=by
 rcases hg with hg|hg
 ·exact(((h [g] (by simp;exact hg)).keep Kx.of_nil).keep Ks).less (by simp)
 ·exact((((h [] (by simp)).more (by omega) (fun x hx=>by rw[List.mem_singleton.1 hx];exact .inr hg)).keep Kx.of_nil).keep Ks).less (by simp)
theorem F3c.over{wb w w1 w2:World}{v:Value}{l:List (Int×Int)}{g:Nat}(h:F3c wb w v l)(Kx:y0a [] w w1)(Ks:y0a [g] w1 w2)(hg:g<wb.heap.size∨w.heap.size≤g)(_hl:l.length≤10000):x1d [] w2 v l:=by
 rcases hg with hg|hg
 ·exact(((h [g] (by simp;exact hg)).keep Kx.of_nil).keep Ks).less (by simp)
 ·exact((((h [] (by simp)).more (by omega) (fun x hx=>by rw[List.mem_singleton.1 hx];exact .inr hg)).keep Kx.of_nil).keep Ks).less (by simp)
theorem F0d.congr{w0 w:World}{v:Value}{C W:List Int}{R R':Nat→Nat→Prop}{n:Nat}(h:F0d w0 w v C W R n)(hr:∀x y,R x y↔R' x y):F0d w0 w v C W R' n:=by
 obtain⟨a,b,c,l,h1,h2,h3,h4,h5,h6,h7⟩:=h.get;refine⟨a,b,c,l,h1,h2,h3,h4,h5,h6,fun p=>(h7 p).trans ?_⟩;constructor
 ·rintro⟨x,y,h,rfl⟩;exact⟨x,y,h.mono fun a b=>(hr a b).1,Z⟩
 ·rintro⟨x,y,h,rfl⟩;exact⟨x,y,h.mono fun a b=>(hr a b).2,Z⟩
def b5c(o n:List Int)(e:E):Prop:=e.val o n=0∨e.val o n=1
theorem D0c{e:E}(h:b5a e=true)(o n:List Int):b5c o n e:=by
 obtain⟨hw,hf⟩:=B0b h;have:=i2a (t5a hf) o n;rw[hw] at this;have h2:m2a (1:Int).toNat=2:=by decide
 unfold b5c;omega
theorem L7c{a b:E}{o n:List Int}(ha:b5c o n a)(hb:b5c o n b):b5c o n (jnE 5 a b)∧((jnE 5 a b).val o n=1↔a.val o n=1∧b.val o n=1):=by
 have he:(jnE 5 a b).val o n=f1b (f1b (a.val o n) (b.val o n)) 1:=by rw[E.val_def];rfl
 unfold b5c at *;rw[he];rcases ha with ha|ha<;>rcases hb with hb|hb<;>rw[ha,hb]<;>decide
theorem z4b{o n:List Int}:∀(es:List E) (acc:E),b5c o n acc→(∀e∈es,b5c o n e)→((es.foldl (jnE 5) acc).val o n=1↔acc.val o n=1∧∀e∈es,e.val o n=1)
 | [],acc,_,_=>by simp
 | e::es,acc,ha,h=>by
   have h1:=L7c ha (h e (by simp));rw[List.foldl_cons,z4b es _ h1.1 fun x hx=>h x (List.mem_cons_of_mem _ hx),h1.2];simp[and_assoc]
theorem P0b(w n:Int)(o q:List Int):(⟨1,w,n,[]⟩:E).val o q=n:=by rw[E.val_def];rfl
theorem i1c{e:E}(h:e.op=1)(o n:List Int):e.val o n=e.n:=by rw[E.val_def,if_pos h]
theorem r6b{op unit:Int}{l:List E}(h:d3a op unit l≠zE):∀e∈l,b5a e=true:=fun e he=>by
 cases hc:b5a e with
 | true=>rfl
 | false=>exact absurd (z5b he hc) h
theorem z9a{l:List E}{e:E}:e∈T3a l↔e∈l∧e.op≠1:=by unfold T3a;simp
theorem M6c{l:List E}(h:d3a 5 1 l≠zE)(o n:List Int):(d3a 5 1 l).val o n=1↔∀e∈l,e.val o n=1:=by
 have hc:=r6b h;cases hd:l.any (fun e=>isC e (1-1)) with
 | true =>
   rw[B4b hc hd,P0b];obtain⟨e,he,h1⟩:=List.any_eq_true.1 hd;unfold isC at h1;have h2:=of_decide_eq_true h1;refine⟨fun h=>by omega,fun hh=>?_⟩;have:=hh e he;rw[i1c h2.1] at this;omega
 | false =>
   have hj:=v6a (op:=5) hc hd;have hw:(C4a 5 1 (T3a l)).wf=true:=by
    cases hw:(C4a 5 1 (T3a l)).wf with
    | true=>rfl
    | false=>rw[hw] at hj;exact absurd hj h
   rw[hj,if_pos hw];have key:(C4a 5 1 (T3a l)).val o n=1↔∀e∈T3a l,e.val o n=1:=by
    have hb:∀e∈T3a l,b5c o n e:=fun e he=>D0c (hc e (z9a.1 he).1) o n;cases hk:T3a l with
    | nil=>simp[C4a,P0b]
    | cons e es =>
      rw[hk] at hb;rw[show C4a 5 1 (e::es)=es.foldl (jnE 5) e from rfl,z4b es e (hb e (by simp)) fun x hx=>hb x (List.mem_cons_of_mem _ hx)];simp
   rw[key];refine⟨fun hh e he=>?_,fun hh e he=>hh e (z9a.1 he).1⟩;by_cases ho:e.op=1
   ·rw[i1c ho];rcases N7b (hc e he) ho with h1|h1
    ·have:l.any (fun e=>isC e (1-1))=true:=List.any_eq_true.2 ⟨e,he,by unfold isC;exact decide_eq_true ⟨ho,by omega⟩⟩;rw[hd] at this;cases this
    ·exact h1
   ·exact hh e (z9a.2 ⟨he,ho⟩)
theorem x7c{op:Int}(b0:op=5∨op=6){cells:List I1a}{a0:Bool}{a b:E}(ha:a.over cells a0=true)(hb:b.over cells a0=true):(jnE op a b).over cells a0=true:=by
 rw[E.over_def,Bool.and_eq_true];refine⟨decide_eq_true ⟨fun h=>?_,fun h=>?_⟩,(E.overs_iff _ _ _).2 fun k hk=>?_⟩
 ·simp only[jnE] at h;omega
 ·simp only[jnE] at h;omega
 ·simp only[jnE,List.mem_cons,List.not_mem_nil,or_false] at hk;rcases hk with rfl|rfl
  ·exact ha
  ·exact hb
theorem a5b{op:Int}(b0:op=5∨op=6){cells:List I1a}{a0:Bool}:∀(es:List E) (acc:E),acc.over cells a0=true→(∀e∈es,e.over cells a0=true)→(es.foldl (jnE op) acc).over cells a0=true
 | [],_,h,_=>h
 | e::es,acc,h,hl=>a5b b0 es _ (x7c b0 h (hl e (by simp))) fun x hx=>hl x (List.mem_cons_of_mem _ hx)
theorem m2b(w n:Int)(cells:List I1a)(a0:Bool):(⟨1,w,n,[]⟩:E).over cells a0=true:=by
 rw[E.over_def,Bool.and_eq_true];exact⟨decide_eq_true ⟨fun h=>by simp only at h;omega,fun h=>by simp only at h;omega⟩,Z⟩
theorem s0c(cells:List I1a)(a0:Bool):zE.over cells a0=true:=by
 rw[E.over_def,Bool.and_eq_true];exact⟨decide_eq_true ⟨fun h=>by simp only[zE] at h;omega,fun h=>by simp only[zE] at h;omega⟩,Z⟩
theorem F9b{op unit:Int}(c0:op=5∨op=6){cells:List I1a}{a0:Bool}{l:List E}(h:∀e∈l,e.over cells a0=true):(d3a op unit l).over cells a0=true:=by
 unfold d3a
 split
 ·split
  ·exact m2b _ _ _ _
  ·split
   ·have hk:∀e∈T3a l,e.over cells a0=true:=fun e he=>h e (z9a.1 he).1;cases b0:T3a l with
    | nil=>exact m2b _ _ _ _
    | cons e es=>rw[b0] at hk;exact a5b c0 es e (hk e (by simp)) fun x hx=>hk x (List.mem_cons_of_mem _ hx)
   ·exact s0c _ _
 ·exact s0c _ _
theorem C2c{p:j0a}{c:Int}(hc:0≤c∧c<p.cells.length):(g4a p c).over p.cells true=true:=by
 rw[E.over_def,Bool.and_eq_true];refine⟨decide_eq_true ⟨fun _=>rfl,fun h=>by simp only[g4a] at h;omega⟩,(E.overs_iff _ _ _).2 fun k hk=>?_⟩;simp only[g4a,List.mem_cons,List.not_mem_nil,or_false] at hk;rcases hk with rfl|rfl<;>rw[E.over_def,Bool.and_eq_true]
 ·exact⟨decide_eq_true ⟨fun _=>rfl,fun _=>⟨hc.2,Z⟩⟩,Z⟩
 ·exact⟨decide_eq_true ⟨fun _=>rfl,fun _=>⟨hc.2,Z⟩⟩,Z⟩
theorem k4b{p:j0a}{m:Int}(h:0≤m∧m<p.modules.length):∃md,p.modules[m.toNat]?=some md∧O7c p m.toNat=md:=by
 have h1:m.toNat<p.modules.length:=by omega
 refine⟨p.modules[m.toNat],List.getElem?_eq_getElem h1,?_⟩;unfold O7c;rw[List.getD_eq_getElem?_getD,List.getElem?_eq_getElem h1];rfl
theorem T2c{p:j0a}(hp:p1a p){m:Int}(h:0≤m∧m<p.modules.length):(q2a p m).over p.cells true=true:=by
 obtain⟨md,hm,he⟩:=k4b h;unfold q2a m8a;rw[he];refine F9b (.inl Z) fun e hx=>?_;rcases List.mem_cons.1 hx with rfl|hx
 ·exact(O2a (hp.modules md (List.mem_of_getElem? hm)).guar.1).2.2
 ·obtain⟨_,hc,rfl⟩:=List.mem_map.1 hx;have:=V7a.1 (List.mem_filter.1 hc).1;exact C2c ⟨this.1,this.2.1⟩
theorem j9b{p:j0a}(hp:p1a p){m:Int}(hm:0≤m∧m<p.modules.length)(h:q2a p m≠zE):(q2a p m).valid p.cells true=true:=by
 rcases S9a (op:=5) (unit:=1) (.inr Z) (m8a p (O7c p m.toNat)) with h1|h1
 ·exact absurd h1 h
 ·unfold E.valid;rw[Bool.and_eq_true];exact⟨h1.1,T2c hp hm⟩
def o4c(p:j0a)(o n:List Int)(c:Int):Prop:=o.getD c.toNat 0 % m2a (wAt p.cells c).toNat=n.getD c.toNat 0 % m2a (wAt p.cells c).toNat
theorem x7b{p:j0a}{c:Int}(hw:1≤wAt p.cells c∧wAt p.cells c≤8)(o n:List Int):(g4a p c).val o n=1↔o4c p o n c:=by
 have he:(g4a p c).val o n=f1b (if f1b (o.getD c.toNat 0) (m2a (wAt p.cells c).toNat-1)=f1b (n.getD c.toNat 0) (m2a (wAt p.cells c).toNat-1) then 1 else 0) 1:=by
  rw[E.val_def];rfl
 rw[he,U3a _ _,U3a _ _];unfold o4c
 split
 ·rename_i h;exact⟨fun _=>h,fun _=>by decide⟩
 ·rename_i h;exact⟨fun hh=>absurd hh (by decide),fun hh=>absurd hh h⟩
theorem Z2b{p:j0a}(hp:p1a p){c:Int}(hc:0≤c∧c<p.cells.length):1≤wAt p.cells c∧wAt p.cells c≤8:=p1c hc fun c h=>(hp.cells c h).w
theorem z5c{p:j0a}(hp:p1a p){m:Int}(h:q2a p m≠zE)(o n:List Int):(q2a p m).val o n=1↔(O7c p m.toNat).guar.val o n=1∧∀c:Int,0≤c→c<p.cells.length→q1a p.cells c=-1→c∉(O7c p m.toNat).frame→o4c p o n c:=by
 unfold q2a at h ⊢;rw[M6c h];unfold m8a;rw[List.forall_mem_cons];refine and_congr_right fun _=>⟨fun hh c h0 h1 h2 h3=>?_,fun hh e he=>?_⟩
 ·exact(x7b (Z2b hp ⟨h0,h1⟩) o n).1 (hh _ (List.mem_map.2 ⟨c,List.mem_filter.2 ⟨V7a.2 ⟨h0,h1,h2⟩,by simpa using h3⟩,Z⟩))
 ·obtain⟨c,hc,rfl⟩:=List.mem_map.1 he;obtain⟨h1,h2⟩:=List.mem_filter.1 hc;obtain⟨h3,h4,h5⟩:=V7a.1 h1;exact(x7b (Z2b hp ⟨h3,h4⟩) o n).2 (hh c h3 h4 h5 (by simpa using h2))
def v2a:E:=⟨1,1,1,[]⟩
def y1c:E:=⟨13,1,0,[⟨3,1,0,[]⟩,⟨2,1,0,[]⟩]⟩
theorem X4b:∀(a b:List (Int×Int)),a.Pairwise lt2→b.Pairwise lt2→(∀x,x∈a↔x∈b)→a=b
 | [],[],_,_,_=>rfl
 | [],y::b,_,_,h=>by have:=(h y).2 (by simp);cases this
 | x::a,[],_,_,h=>by have:=(h x).1 (by simp);cases this
 | x::a,y::b,ha,hb,h=>by
   rw[List.pairwise_cons] at ha hb;have a0:∀p:Int×Int,¬lt2 p p:=fun p hp=>by unfold lt2 at hp;omega
   have b0:∀p q:Int×Int,lt2 p q→lt2 q p→False:=fun p q h1 h2=>by unfold lt2 at h1 h2;omega
   have c0:x=y:=by
    rcases List.mem_cons.1 ((h x).1 (by simp)) with h1|h1
    ·exact h1
    ·rcases List.mem_cons.1 ((h y).2 (by simp)) with h2|h2
     ·exact h2.symm
     ·exact(b0 _ _ (hb.1 x h1) (ha.1 y h2)).elim
   subst c0
   congr 1
   refine X4b a b ha.2 hb.2 fun z=>⟨fun hz=>?_,fun hz=>?_⟩
   ·rcases List.mem_cons.1 ((h z).1 (List.mem_cons_of_mem _ hz)) with h1|h1
    ·subst h1;exact(a0 _ (ha.1 z hz)).elim
    ·exact h1
   ·rcases List.mem_cons.1 ((h z).2 (List.mem_cons_of_mem _ hz)) with h1|h1
    ·subst h1;exact(a0 _ (hb.1 z hz)).elim
    ·exact h1
mutual
def E.beq:E→E→Bool
 | ⟨o,w,n,ks⟩,⟨o',w',n',ks'⟩=>decide (o=o'∧w=w'∧n=n')&&E.beqs ks ks'
def E.beqs:List E→List E→Bool
 | [],[]=>true
 | a::l,b::r=>E.beq a b&&E.beqs l r
 | _,_=>false
end
theorem E.beqs_iff:∀(l r:List E),(∀a∈l,∀b,E.beq a b=true↔a=b)→(E.beqs l r=true↔l=r)
 | [],[],_=>by simp[E.beqs]
 | [],_::_,_=>by simp[E.beqs]
 | _::_,[],_=>by simp[E.beqs]
 | a::l,b::r,h=>by
   simp only[E.beqs,Bool.and_eq_true,List.cons.injEq];rw[h a (by simp),E.beqs_iff l r fun x hx=>h x (by simp[hx])]
theorem E.beq_iff:∀(a b:E),E.beq a b=true↔a=b:=by
 intro a
 induction a using E.induct with
 | _ a ih =>
   intro b;obtain⟨_,_,_,ks⟩:=a;obtain⟨_,_,_,a0⟩:=b;simp only[E.beq,Bool.and_eq_true,decide_eq_true_eq,E.mk.injEq];rw[E.beqs_iff ks a0 ih];simp only[and_assoc]
theorem T6b:∀(e:E) (d d':Int),d≤d'→e.good d=true→e.good d'=true:=by
 intro e
 induction e using E.induct with
 | _ e ih =>
   intro d d' hd h;rw[E.good_def] at h ⊢;simp only[Bool.and_eq_true,decide_eq_true_eq] at h ⊢;exact⟨⟨by omega,h.1.2⟩,(E.goods_iff _ _).2 fun k hk=>ih k hk _ _ (by omega) ((E.goods_iff _ _).1 h.2 k hk)⟩
def isO(e:E):Bool:=isC e (m2a e.w.toNat-1)
def z7b(e:E):E:=if e.op=4 then e.kids.headD zE else⟨4,e.w,0,[e]⟩
def opS(n a b:E):E :=
 if n.op=5 then(if isC a 0||isC b 0 then⟨1,n.w,0,[]⟩ else if isO a then b else if isO b||E.beq a b then a else n)
 else if n.op=6 then(if isO a||isO b then⟨1,n.w,m2a n.w.toNat-1,[]⟩ else if isC a 0 then b else if isC b 0||E.beq a b then a else n)
 else if n.op=7∨n.op=8 then(if isC a 0 then b else if isC b 0 then a else if E.beq a b&&decide (n.op=7) then⟨1,n.w,0,[]⟩ else n)
 else if n.op=9 then(if isC b 0 then a else if E.beq a b then⟨1,n.w,0,[]⟩ else n)
 else if n.op=10 then(if isC a 0||isC b 0 then⟨1,n.w,0,[]⟩ else if isC a 1 then b else if isC b 1 then a else n)
 else n
def z6a(n a b:E):E :=
 if n.op=12 then(if E.beq a b||isC b 0 then⟨1,1,0,[]⟩ else n)
 else if E.beq a b then⟨1,1,1,[]⟩
 else if n.op=13 then(if isC a 0||isO b then⟨1,1,1,[]⟩ else n)
 else if 1<a.w then n
 else if isC a 1 then b else if isC b 1 then a else if isC a 0 then z7b b else if isC b 0 then z7b a else n
def n7a(n t a b:E):E :=
 if isC t 1||(E.beq a b&&!isC t 0) then a else if isC t 0 then b
 else if decide (n.w=1)&&(isC a 1&&isC b 0) then t
 else if decide (n.w=1)&&(isC a 0&&isC b 1) then z7b t else n
def B4a(n:E):E :=
 if n.kids.all (fun k=>decide (k.op=1)) then⟨1,n.w,n.val [] [],[]⟩
 else if n.op=4 then(if(n.kids.getD 0 zE).op=4 then(n.kids.getD 0 zE).kids.headD zE else n)
 else if 11≤n.op∧n.op≤13 then z6a n (n.kids.getD 0 zE) (n.kids.getD 1 zE)
 else if n.op=14 then n7a n (n.kids.getD 0 zE) (n.kids.getD 1 zE) (n.kids.getD 2 zE)
 else opS n (n.kids.getD 0 zE) (n.kids.getD 1 zE)
mutual
def d1b:E→E
 | ⟨op,w,n,ks⟩=>if ks.isEmpty then⟨op,w,n,[]⟩ else B4a ⟨op,w,n,z3c ks⟩
def z3c:List E→List E
 | []=>[]
 | k::ks=>d1b k::z3c ks
end
theorem B2c(ks:List E):z3c ks=ks.map d1b:=by
 induction ks with
 | nil=>simp[z3c]
 | cons k ks ih=>simp[z3c,ih]
theorem E8b(e:E):d1b e=if e.kids.isEmpty then⟨e.op,e.w,e.n,[]⟩ else B4a ⟨e.op,e.w,e.n,e.kids.map d1b⟩:=by cases e;simp only[d1b,B2c]
structure d4a (n s:E) (d:Int):Prop where
 w:s.w=n.w
 good:s.good d=true
 cnt:s.cnt≤n.cnt
 val:∀o q,s.val o q=n.val o q
 over:∀cells pair,n.over cells pair=true→s.over cells pair=true
theorem d4a.refl{n:E}{d:Int}(h:n.good d=true):d4a n n d:=⟨Z,h,Nat.le_refl _,fun _ _=>rfl,fun _ _ h=>h⟩
theorem H0b:∀{ks:List E} {k:E},k∈ks→k.cnt≤E.cnts ks
 | x::xs,k,h=>by
   rcases List.mem_cons.1 h with rfl|h
   ·simp only[E.cnts];omega
   ·have:=H0b h;simp only[E.cnts];omega
theorem j6a{n k:E}(hk:k∈n.kids){cells:List I1a}{a0:Bool}(h:n.over cells a0=true):k.over cells a0=true:=by
 rw[E.over_def,Bool.and_eq_true] at h;exact(E.overs_iff _ _ _).1 h.2 k hk
theorem d4a.kid{n k:E}{d:Int}(hn:n.good d=true)(hk:k∈n.kids)(hw:k.w=n.w)(hv:∀o q,k.val o q=n.val o q):d4a n k d :=
 ⟨hw,T6b _ _ _ (by omega) ((b1a hn).2 k hk),by rw[E.cnt_def n];have:=H0b hk;omega,hv,fun _ _ h=>j6a hk h⟩
theorem O8b{w c d:Int}(hd:1≤d)(hw:1≤w∧w≤8)(hc:0≤c∧c<m2a w.toNat):E.good ⟨1,w,c,[]⟩ d=true:=by
 rw[E.good_def];simp only[Bool.and_eq_true,decide_eq_true_eq];refine⟨⟨hd,?_⟩,Z⟩;unfold E.shapeB;exact decide_eq_true ((C9a Z).2 ⟨hw.1,hw.2,Z,hc.1,hc.2⟩)
theorem i3b{e:E}{d:Int}(h:e.good d=true):1≤d:=by
 rw[E.good_def] at h;simp only[Bool.and_eq_true,decide_eq_true_eq] at h;exact h.1.1
theorem d4a.const{n:E}{d c:Int}(hn:n.good d=true)(hc:0≤c∧c<m2a n.w.toNat)(hv:∀o q,c=n.val o q):d4a n ⟨1,n.w,c,[]⟩ d:=by
 have a0:=M1a (b1a hn).1;refine⟨Z,O8b (i3b hn) ⟨a0.1,a0.2.1⟩ hc,E.cnt_pos n,fun o q=>?_,fun cells b0 _=>?_⟩
 ·rw[E.val_def];exact hv o q
 ·rw[E.over_def,Bool.and_eq_true];exact⟨decide_eq_true ⟨fun h=>by simp at h,fun h=>by simp at h⟩,Z⟩
theorem E1a{e:E}{c:Int}(h:isC e c=true)(o q:List Int):e.val o q=c:=by
 have h2:=of_decide_eq_true h;rw[E.val_def,if_pos h2.1];exact h2.2
theorem g4d{n a b:E}(hk:n.kids=[a,b])(hw:n.w≤8)(o q:List Int)(ho:5≤n.op∧n.op≤13:=by omega):n.val o q=J2a n.op (a.val o q) (b.val o q) 0 % m2a n.w.toNat:=by
 rw[E.val_def,if_neg (by omega),if_neg (by omega),if_neg (by omega),hk,U3a _ _];rfl
theorem X7b{y w:Nat}(hy:y<2 ^ w):(2 ^ w-1) &&& y=y:=by
 rw[Nat.and_comm,Nat.and_two_pow_sub_one_eq_mod,Nat.mod_eq_of_lt hy]
theorem f3c{y w:Nat}(hy:y<2 ^ w):(2 ^ w-1) ||| y=2 ^ w-1:=by
 apply Nat.eq_of_testBit_eq;intro i;rw[Nat.testBit_or,Nat.testBit_two_pow_sub_one];by_cases h:i<w
 ·simp[h]
 ·have:y<2 ^ i:=Nat.lt_of_lt_of_le hy (Nat.pow_le_pow_right (by omega) (by omega));rw[Nat.testBit_lt_two_pow this];simp[h]
theorem U7b{v:Int}{w:Nat}(h:0≤v∧v<m2a w):∃x:Nat,v=x∧x<2 ^ w:=by
 rw[X2a] at h;exact⟨v.toNat,by omega,by omega⟩
theorem D8b{w x:Nat}(hw:w≤8)(hx:x<2 ^ w):x<256:=Nat.lt_of_lt_of_le hx (Nat.pow_le_pow_right (n:=2) (by omega) hw:2 ^ w≤2 ^ 8)
theorem D2a{v:Int}{w:Nat}(h:0≤v∧v<m2a w):v % m2a w=v:=Int.emod_eq_of_lt h.1 h.2
theorem q2c{e:E}{d:Int}(h:e.good d=true)(hw:e.w=1)(o q:List Int):E.val o q ⟨4,e.w,0,[e]⟩=1-e.val o q:=by
 have hr:=i2a h o q;rw[hw,show m2a (1:Int).toNat=2 by decide] at hr;have he:E.val o q ⟨4,e.w,0,[e]⟩=f1b (T7b (-1) (e.val o q)) (m2a e.w.toNat-1):=by rw[E.val_def];rfl
 rw[he,hw,U3a (hn:=(by decide)) _ _,show m2a (1:Int).toNat=2 by decide];rcases(show e.val o q=0∨e.val o q=1 by omega) with h1|h1<;>rw[h1]<;>decide
theorem d4a.neg{n k:E}{d:Int}(hn:n.good d=true)(hk:k∈n.kids)(hw:k.w=1)(g0:n.w=1)(hc:2+k.cnt≤n.cnt)(hv:∀o q,1-k.val o q=n.val o q):d4a n (z7b k) d:=by
 have a0:=(b1a hn).2 k hk;unfold z7b;by_cases h4:k.op=4
 ·rw[if_pos h4];obtain⟨e0,d0⟩:=b1a a0;have h:=(U6a h4).1 e0
  match hks:k.kids with
  | []=>rw[hks] at h;simp at h
  | [x] =>
    have hx:x∈k.kids:=by rw[hks];simp
    have c0:x.w=1:=by have:=h.2.2.2.2;rw[E.kw,hks] at this;simp at this;omega
    have b0:=d0 x hx;show d4a n x d;have he:k=⟨4,x.w,0,[x]⟩:=by
     obtain⟨_,_⟩:=k;simp only at h4 hks hw h;subst h4;subst hks;rw[h.2.2.2.1,hw,c0]
    refine⟨by omega,T6b _ _ _ (by omega) b0,?_,fun o q=>?_,fun _ _ h=>j6a hx (j6a hk h)⟩
    ·have:=H0b hx;rw[E.cnt_def k] at hc;omega
    ·rw[←hv o q,he,q2c b0 c0];omega
  | _::_::_=>rw[hks] at h;simp at h
 ·rw[if_neg h4];refine⟨by show k.w=n.w;omega,?_,?_,fun o q=>by rw[q2c a0 hw];exact hv o q,fun cells f0 h=>?_⟩
  ·rw[E.good_def];simp only[Bool.and_eq_true,decide_eq_true_eq];refine⟨⟨i3b hn,?_⟩,by simp[E.goods,a0]⟩;unfold E.shapeB;exact decide_eq_true ((U6a Z).2 ⟨by show 1≤k.w;omega,by show k.w≤8;omega,Z,Z,by simp[E.kw]⟩)
  ·rw[E.cnt_def ⟨4,k.w,0,[k]⟩];simp only[E.cnts];omega
  ·rw[E.over_def,Bool.and_eq_true];exact⟨decide_eq_true ⟨fun h=>by simp at h,fun h=>by simp at h⟩,by simp[E.overs,j6a hk h]⟩
section
variable {n a b:E} {d:Int} (hn:n.good d=true) (hk:n.kids=[a,b])
include hk in
theorem P6c:n.cnt=1+a.cnt+b.cnt:=by rw[E.cnt_def n,hk];simp only[E.cnts];omega
include hn hk in
theorem b2d(ho:5≤n.op∧n.op≤10):d4a n (opS n a b) d:=by
 obtain⟨hsh,hkg⟩:=b1a hn;have hs:=(E9a ho).1 hsh;have ha:a∈n.kids:=by rw[hk];simp
 have hb:b∈n.kids:=by rw[hk];simp
 have wa:a.w=n.w:=by have:=hs.2.2.2.2.1;rw[E.kw,hk] at this;simpa using this
 have wb:b.w=n.w:=by have:=hs.2.2.2.2.2;rw[E.kw,hk] at this;simpa using this
 have hv:=fun o q=>g4d hk hs.2.1 o q;have h8:n.w.toNat≤8:=by omega
 have z0:(0:Int)≤0∧(0:Int)<m2a n.w.toNat:=⟨by omega,m5a _⟩;have zm:0≤m2a n.w.toNat-1∧m2a n.w.toNat-1<m2a n.w.toNat:=by have:=m5a n.w.toNat;omega
 have ra:=fun o q=>wa▸i2a (hkg a ha) o q;have rb:=fun o q=>wb▸i2a (hkg b hb) o q;have ma:isO a=true→∀o q,a.val o q=m2a n.w.toNat-1:=fun h o q=>by rw[E1a h,wa]
 have mb:isO b=true→∀o q,b.val o q=m2a n.w.toNat-1:=fun h o q=>by rw[E1a h,wb]
 have na:=fun o q=>U7b (ra o q);have nb:=fun o q=>U7b (rb o q);have pm:m2a n.w.toNat-1=((2 ^ n.w.toNat-1:Nat):Int):=by rw[X2a];have:=Nat.pow_pos (n:=n.w.toNat) (show 0<2 by omega);omega
 have one2:(1:Int)<m2a n.w.toNat:=by
  have:=h0b 1 n.w.toNat;simp only[m2a] at this;omega
 unfold opS;rcases(show n.op=5∨n.op=6∨n.op=7∨n.op=8∨n.op=9∨n.op=10 by omega) with e|e|e|e|e|e<;>simp only[e,if_true,if_false,Int.reduceEq,or_true,or_false,decide_true,decide_false,Bool.and_true,Bool.and_false]
 ·have hv':∀o q,n.val o q=f1b (a.val o q) (b.val o q) % m2a n.w.toNat:=fun o q=>by rw[hv,e];rfl
  have key:∀o q,∃x y:Nat,a.val o q=x∧b.val o q=y∧x<2 ^ n.w.toNat∧y<2 ^ n.w.toNat∧n.val o q=((x &&& y:Nat):Int):=fun o q=>by
   obtain⟨x,hx,hx2⟩:=na o q;obtain⟨y,hy,hy2⟩:=nb o q;have:=D8b h8 hx2;have:=D8b h8 hy2;have:=Nat.and_lt_two_pow x hy2;exact⟨x,y,hx,hy,hx2,hy2,by rw[hv',hx,hy,s4c (by omega) (by omega),D2a (by rw[X2a];omega)]⟩
  split
  ·rename_i h;refine d4a.const hn z0 fun o q=>?_;obtain⟨x,y,h1,h2,-,-,h5⟩:=key o q;rw[Bool.or_eq_true] at h;rcases h with h|h
   ·have:=E1a h o q;rw[h5,show x=0 by omega];simp
   ·have:=E1a h o q;rw[h5,show y=0 by omega];simp
  split
  ·rename_i h;refine d4a.kid hn hb wb fun o q=>?_;obtain⟨x,y,h1,h2,h3,h4,h5⟩:=key o q;have:=ma h o q;rw[h5,h2,show x=2 ^ n.w.toNat-1 by omega,X7b h4]
  split
  ·rename_i h;refine d4a.kid hn ha wa fun o q=>?_;obtain⟨x,y,h1,h2,h3,h4,h5⟩:=key o q;rw[Bool.or_eq_true] at h;rcases h with h|h
   ·have:=mb h o q;rw[h5,h1,show y=2 ^ n.w.toNat-1 by omega,Nat.and_comm,X7b h3]
   ·rw[E.beq_iff] at h;subst h;rw[h5,h1,show y=x by omega,Nat.and_self]
  ·exact .refl hn
 ·have hv':∀o q,n.val o q=bor (a.val o q) (b.val o q) % m2a n.w.toNat:=fun o q=>by rw[hv,e];rfl
  have key:∀o q,∃x y:Nat,a.val o q=x∧b.val o q=y∧x<2 ^ n.w.toNat∧y<2 ^ n.w.toNat∧n.val o q=((x ||| y:Nat):Int):=fun o q=>by
   obtain⟨x,hx,hx2⟩:=na o q;obtain⟨y,hy,hy2⟩:=nb o q;have:=D8b h8 hx2;have:=D8b h8 hy2;have:=Nat.or_lt_two_pow hx2 hy2;exact⟨x,y,hx,hy,hx2,hy2,by rw[hv',hx,hy,Z9c (by omega) (by omega),D2a (by rw[X2a];omega)]⟩
  split
  ·rename_i h;refine d4a.const hn zm fun o q=>?_;obtain⟨x,y,h1,h2,h3,h4,h5⟩:=key o q;rw[Bool.or_eq_true] at h;rcases h with h|h
   ·have:=ma h o q;rw[h5,show x=2 ^ n.w.toNat-1 by omega,f3c h4];exact pm
   ·have:=mb h o q;rw[h5,show y=2 ^ n.w.toNat-1 by omega,Nat.or_comm,f3c h3];exact pm
  split
  ·rename_i h;refine d4a.kid hn hb wb fun o q=>?_;obtain⟨x,y,h1,h2,h3,h4,h5⟩:=key o q;have:=E1a h o q;rw[h5,h2,show x=0 by omega,Nat.zero_or]
  split
  ·rename_i h;refine d4a.kid hn ha wa fun o q=>?_;obtain⟨x,y,h1,h2,h3,h4,h5⟩:=key o q;rw[Bool.or_eq_true] at h;rcases h with h|h
   ·have:=E1a h o q;rw[h5,h1,show y=0 by omega,Nat.or_zero]
   ·rw[E.beq_iff] at h;subst h;rw[h5,h1,show y=x by omega,Nat.or_self]
  ·exact .refl hn
 ·have hv':∀o q,n.val o q=T7b (a.val o q) (b.val o q) % m2a n.w.toNat:=fun o q=>by rw[hv,e];rfl
  have key:∀o q,∃x y:Nat,a.val o q=x∧b.val o q=y∧n.val o q=((x ^^^ y:Nat):Int):=fun o q=>by
   obtain⟨x,hx,hx2⟩:=na o q;obtain⟨y,hy,hy2⟩:=nb o q;have:=D8b h8 hx2;have:=D8b h8 hy2;have:=Nat.xor_lt_two_pow hx2 hy2;exact⟨x,y,hx,hy,by rw[hv',hx,hy,f5c (by omega) (by omega),D2a (by rw[X2a];omega)]⟩
  split
  ·rename_i h;refine d4a.kid hn hb wb fun o q=>?_;obtain⟨x,y,h1,h2,h5⟩:=key o q;have:=E1a h o q;rw[h5,h2,show x=0 by omega,Nat.zero_xor]
  split
  ·rename_i h;refine d4a.kid hn ha wa fun o q=>?_;obtain⟨x,y,h1,h2,h5⟩:=key o q;have:=E1a h o q;rw[h5,h1,show y=0 by omega,Nat.xor_zero]
  split
  ·rename_i h;refine d4a.const hn z0 fun o q=>?_;obtain⟨x,y,h1,h2,h5⟩:=key o q;rw[E.beq_iff] at h;subst h;rw[h5,show y=x by omega,Nat.xor_self];rfl
  ·exact .refl hn
 ·have hv':∀o q,n.val o q=wr (a.val o q+b.val o q) % m2a n.w.toNat:=fun o q=>by rw[hv,e];rfl
  have sm:∀o q,a.val o q<256∧b.val o q<256:=fun o q=>by
   obtain⟨x,hx,hx2⟩:=na o q;obtain⟨y,hy,hy2⟩:=nb o q;have:=D8b h8 hx2;have:=D8b h8 hy2;omega
  split
  ·rename_i h;refine d4a.kid hn hb wb fun o q=>?_;have:=E1a h o q;have:=sm o q;have:=rb o q;rw[hv',E1a h,Int.zero_add,wr,W2a (by unfold i64;omega),D2a (rb o q)]
  split
  ·rename_i h;refine d4a.kid hn ha wa fun o q=>?_;have:=E1a h o q;have:=sm o q;have:=ra o q;rw[hv',E1a h,Int.add_zero,wr,W2a (by unfold i64;omega),D2a (ra o q)]
  ·exact .refl hn
 ·have hv':∀o q,n.val o q=wr (a.val o q+wr (0-b.val o q)) % m2a n.w.toNat:=fun o q=>by rw[hv,e];rfl
  have sm:∀o q,a.val o q<256∧b.val o q<256:=fun o q=>by
   obtain⟨x,hx,hx2⟩:=na o q;obtain⟨y,hy,hy2⟩:=nb o q;have:=D8b h8 hx2;have:=D8b h8 hy2;omega
  have hv2:∀o q,n.val o q=(a.val o q-b.val o q) % m2a n.w.toNat:=fun o q=>by
   have:=sm o q;have:=ra o q;have:=rb o q;rw[hv',wr,wr,W2a (n:=0-b.val o q) (by unfold i64;omega),W2a (by unfold i64;omega)]
   congr 1;omega
  split
  ·rename_i h;refine d4a.kid hn ha wa fun o q=>?_;rw[hv2,E1a h,Int.sub_zero,D2a (ra o q)]
  split
  ·rename_i h;refine d4a.const hn z0 fun o q=>?_;rw[E.beq_iff] at h;subst h;rw[hv2,Int.sub_self,Int.zero_emod]
  ·exact .refl hn
 ·have hv':∀o q,n.val o q=wr (a.val o q*b.val o q) % m2a n.w.toNat:=fun o q=>by rw[hv,e];rfl
  have sm:∀o q,a.val o q<256∧b.val o q<256:=fun o q=>by
   obtain⟨x,hx,hx2⟩:=na o q;obtain⟨y,hy,hy2⟩:=nb o q;have:=D8b h8 hx2;have:=D8b h8 hy2;omega
  split
  ·rename_i h;refine d4a.const hn z0 fun o q=>?_;rw[Bool.or_eq_true] at h;rcases h with h|h
   ·rw[hv',E1a h,Int.zero_mul,wr,W2a (by unfold i64;omega),Int.zero_emod]
   ·rw[hv',E1a h,Int.mul_zero,wr,W2a (by unfold i64;omega),Int.zero_emod]
  split
  ·rename_i h;refine d4a.kid hn hb wb fun o q=>?_;have:=sm o q;have:=rb o q;rw[hv',E1a h,Int.one_mul,wr,W2a (by unfold i64;omega),D2a (rb o q)]
  split
  ·rename_i h;refine d4a.kid hn ha wa fun o q=>?_;have:=sm o q;have:=ra o q;rw[hv',E1a h,Int.mul_one,wr,W2a (by unfold i64;omega),D2a (ra o q)]
  ·exact .refl hn
include hn hk in
theorem o9c(ho:11≤n.op∧n.op≤13):d4a n (z6a n a b) d:=by
 obtain⟨hsh,hkg⟩:=b1a hn;have hs:=(h9a ho).1 hsh;have ha:a∈n.kids:=by rw[hk];simp
 have hb:b∈n.kids:=by rw[hk];simp
 have wab:a.w=b.w:=by have:=hs.2.2.2;simp only[E.kw,hk] at this;simpa using this
 have hw:=hs.2.2.1;have p1:m2a n.w.toNat=2:=by rw[hw];decide
 have hv:=fun o q=>g4d hk (by omega) o q;have ra:=fun o q=>i2a (hkg a ha) o q;have rb:=fun o q=>wab▸i2a (hkg b hb) o q;have hc:=P6c hk;have c1:=E.cnt_pos a;have c2:=E.cnt_pos b;have z0:(0:Int)≤0∧(0:Int)<m2a n.w.toNat:=by rw[p1];omega
 have z1:(0:Int)≤1∧(1:Int)<m2a n.w.toNat:=by rw[p1];omega
 have K0:(∀o q,(0:Int)=n.val o q)→d4a n ⟨1,1,0,[]⟩ d:=fun h=>hw▸d4a.const hn z0 h;have K1:(∀o q,(1:Int)=n.val o q)→d4a n ⟨1,1,1,[]⟩ d:=fun h=>hw▸d4a.const hn z1 h;unfold z6a;rcases(show n.op=11∨n.op=12∨n.op=13 by omega) with e|e|e<;>simp only[e,if_true,if_false,Int.reduceEq]
 ·have hv':∀o q,n.val o q=if a.val o q=b.val o q then 1 else 0:=fun o q=>by
   rw[hv,e,p1,show J2a 11 (a.val o q) (b.val o q) 0=if a.val o q=b.val o q then 1 else 0 from rfl];split<;>rfl
  split
  ·rename_i h;rw[E.beq_iff] at h;subst h;exact K1 fun o q=>by rw[hv',if_pos rfl]
  split
  ·exact .refl hn
  have hsa:=(M1a (b1a (hkg a ha)).1).1;have wa:a.w=1:=by omega
  have ra':∀o q,0≤a.val o q∧a.val o q<2:=fun o q=>by have:=ra o q;rw[wa] at this;exact this
  have rb':∀o q,0≤b.val o q∧b.val o q<2:=fun o q=>by have:=rb o q;rw[wa] at this;exact this
  split
  ·rename_i h;refine d4a.kid hn hb (by omega) fun o q=>?_;have:=rb' o q;rw[hv',E1a h];split<;>omega
  split
  ·rename_i h;refine d4a.kid hn ha (by omega) fun o q=>?_;have:=ra' o q;rw[hv',E1a h];split<;>omega
  split
  ·rename_i h;refine d4a.neg hn hb (by omega) hw (by omega) fun o q=>?_;have:=rb' o q;rw[hv',E1a h];split<;>omega
  split
  ·rename_i h;refine d4a.neg hn ha wa hw (by omega) fun o q=>?_;have:=ra' o q;rw[hv',E1a h];split<;>omega
  ·exact .refl hn
 ·have hv':∀o q,n.val o q=if a.val o q<b.val o q then 1 else 0:=fun o q=>by
   rw[hv,e,p1,show J2a 12 (a.val o q) (b.val o q) 0=if a.val o q<b.val o q then 1 else 0 from rfl];split<;>rfl
  split
  ·rename_i h;refine K0 fun o q=>?_;rw[Bool.or_eq_true] at h;rw[hv',if_neg];rcases h with h|h
   ·rw[E.beq_iff] at h;subst h;omega
   ·have:=E1a h o q;have:=ra o q;omega
  ·exact .refl hn
 ·have hv':∀o q,n.val o q=if a.val o q≤b.val o q then 1 else 0:=fun o q=>by
   rw[hv,e,p1,show J2a 13 (a.val o q) (b.val o q) 0=if a.val o q=b.val o q then 1 else if a.val o q<b.val o q then 1 else 0 from rfl];by_cases h1:a.val o q=b.val o q
   ·rw[if_pos h1,if_pos (by omega)];rfl
   ·rw[if_neg h1];by_cases h2:a.val o q<b.val o q
    ·rw[if_pos h2,if_pos (by omega)];rfl
    ·rw[if_neg h2,if_neg (by omega)];rfl
  split
  ·rename_i h;rw[E.beq_iff] at h;subst h;exact K1 fun o q=>by rw[hv',if_pos (by omega)]
  split
  ·rename_i h;refine K1 fun o q=>?_;rw[Bool.or_eq_true] at h;rw[hv',if_pos];rcases h with h|h
   ·have:=E1a h o q;have:=rb o q;omega
   ·have:=E1a h o q;have:=ra o q;rw[wab] at this;omega
  ·exact .refl hn
end
theorem D9c{n t a b:E}{d:Int}(hn:n.good d=true)(hk:n.kids=[t,a,b])(ho:n.op=14):d4a n (n7a n t a b) d:=by
 obtain⟨b0,a0⟩:=b1a hn;have hs:=(o9a ho).1 b0;have ht:t∈n.kids:=by rw[hk];simp
 have ha:a∈n.kids:=by rw[hk];simp
 have hb:b∈n.kids:=by rw[hk];simp
 have wt:t.w=1:=by have:=hs.2.2.2.2.1;rw[E.kw,hk] at this;simpa using this
 have wa:a.w=n.w:=by have:=hs.2.2.2.2.2.1;rw[E.kw,hk] at this;simpa using this
 have wb:b.w=n.w:=by have:=hs.2.2.2.2.2.2;rw[E.kw,hk] at this;simpa using this
 have rt:∀o q,0≤t.val o q∧t.val o q<2:=fun o q=>by have:=i2a (a0 t ht) o q;rw[wt] at this;exact this
 have ra:=fun o q=>wa▸i2a (a0 a ha) o q;have rb:=fun o q=>wb▸i2a (a0 b hb) o q;have hc:n.cnt=1+t.cnt+a.cnt+b.cnt:=by rw[E.cnt_def n,hk];simp only[E.cnts];omega
 have c1:=E.cnt_pos a;have hv:∀o q,n.val o q=if t.val o q=1 then a.val o q else b.val o q:=fun o q=>by
  have e1:n.val o q=(if t.val o q=1 then a.val o q else b.val o q) % m2a n.w.toNat:=by
   rw[E.val_def,if_neg (by omega),if_neg (by omega),if_neg (by omega),hk,ho,U3a _ _];rfl
  rw[e1];split
  ·exact D2a (ra o q)
  ·exact D2a (rb o q)
 unfold n7a
 split
 ·rename_i h;refine d4a.kid hn ha wa fun o q=>?_;rw[Bool.or_eq_true,Bool.and_eq_true] at h;rw[hv];rcases h with h|h
  ·rw[E1a h,if_pos rfl]
  ·have h1:=(E.beq_iff _ _).1 h.1;subst h1;rw[ite_self]
 split
 ·rename_i h;refine d4a.kid hn hb wb fun o q=>?_;rw[hv,E1a h,if_neg (by omega)]
 split
 ·rename_i h;simp only[Bool.and_eq_true,decide_eq_true_eq] at h;refine d4a.kid hn ht (by omega) fun o q=>?_;have:=rt o q;rw[hv,E1a h.2.1,E1a h.2.2];split<;>omega
 split
 ·rename_i h;simp only[Bool.and_eq_true,decide_eq_true_eq] at h;refine d4a.neg hn ht wt h.1 (by omega) fun o q=>?_;have:=rt o q;rw[hv,E1a h.2.1,E1a h.2.2];split<;>omega
 ·exact .refl hn
theorem Z8b{n:E}(hk:∀k∈n.kids,k.op=1)(ho:n.op≠2∧n.op≠3)(o q o' q':List Int):n.val o q=n.val o' q':=by
 rw[E.val_def,E.val_def,if_neg ho.1,if_neg ho.2,if_neg ho.1,if_neg ho.2];have:n.kids.map (E.val o q)=n.kids.map (E.val o' q'):=List.map_congr_left fun k a0=>by rw[E.val_def,E.val_def,if_pos (hk k a0),if_pos (hk k a0)]
 rw[this]
theorem B4c{n:E}(h:n.kids.length=1):∃a,n.kids=[a]:=by
 match hk:n.kids with
 | [a]=>exact⟨a,Z⟩
 | []=>rw[hk] at h;simp at h
 | _::_::_=>rw[hk] at h;simp at h
theorem f9b{n:E}(h:n.kids.length=2):∃a b,n.kids=[a,b]:=by
 match hk:n.kids with
 | [a,b]=>exact⟨a,b,Z⟩
 | []=>rw[hk] at h;simp at h
 | [_]=>rw[hk] at h;simp at h
 | _::_::_::_=>rw[hk] at h;simp at h
theorem z1d{n:E}(h:n.kids.length=3):∃t a b,n.kids=[t,a,b]:=by
 match hk:n.kids with
 | [t,a,b]=>exact⟨t,a,b,Z⟩
 | []=>rw[hk] at h;simp at h
 | [_]=>rw[hk] at h;simp at h
 | [_,_]=>rw[hk] at h;simp at h
 | _::_::_::_::_=>rw[hk] at h;simp at h
theorem Z3c{n:E}{d:Int}(hn:n.good d=true)(h0:n.kids≠[]):d4a n (B4a n) d:=by
 obtain⟨b0,i0⟩:=b1a hn;have o0:=M1a b0;have p0:=h1a n.op;have hl:0<n.kids.length:=List.length_pos_iff.2 h0;unfold B4a
 split
 ·rename_i h;exact d4a.const hn (i2a hn [] []) fun o q=>Z8b (fun k hk=>of_decide_eq_true (List.all_eq_true.1 h k hk)) (by omega) _ _ _ _
 split
 ·rename_i h4;have hs:=(U6a h4).1 b0;obtain⟨k,a0⟩:=B4c hs.2.2.1;have hk:k∈n.kids:=by rw[a0];simp
  rw[a0];show d4a n (if k.op=4 then k.kids.headD zE else n) d
  split
  ·rename_i g0;obtain⟨e0,j0⟩:=b1a (i0 k hk);have n0:=(U6a g0).1 e0;obtain⟨x,c0⟩:=B4c n0.2.2.1;have hx:x∈k.kids:=by rw[c0];simp
   have kw:k.w=n.w:=by have:=hs.2.2.2.2;rw[E.kw,a0] at this;simpa using this
   have xw:x.w=k.w:=by have:=n0.2.2.2.2;rw[E.kw,c0] at this;simpa using this
   rw[c0];refine⟨by show x.w=n.w;omega,T6b _ _ _ (by omega) (j0 x hx),?_,fun o q=>?_,fun _ _ h=>j6a hx (j6a hk h)⟩
   ·have:=H0b hx;have:=H0b hk;rw[E.cnt_def n];rw[E.cnt_def k] at this;show x.cnt≤_;omega
   ·show x.val o q=_
    have hr:=i2a (j0 x hx) o q;rw[xw,kw] at hr;have h8:n.w.toNat≤62:=by omega
    have e2:k.val o q=(-1-x.val o q) % m2a n.w.toNat:=by
     obtain⟨y,hy,f0⟩:=U7b hr;have:=D8b (show n.w.toNat≤8 by omega) f0;rw[E.val_def,if_neg (by omega),if_neg (by omega),if_neg (by omega),g0,c0,kw,U3a (hn:=h8) _ _];show T7b (-1) (x.val o q) % _=_;rw[hy,u8b]
    have m0:=i2a (i0 k hk) o q;rw[kw] at m0;have e1:n.val o q=(-1-k.val o q) % m2a n.w.toNat:=by
     obtain⟨y,hy,f0⟩:=U7b m0;have:=D8b (show n.w.toNat≤8 by omega) f0;rw[E.val_def,if_neg (by omega),if_neg (by omega),if_neg (by omega),h4,a0,U3a (hn:=h8) _ _];show T7b (-1) (k.val o q) % _=_;rw[hy,u8b]
    rw[e1,e2];have e3:(-1-x.val o q) % m2a n.w.toNat=m2a n.w.toNat-1-x.val o q:=by
     rw[←Int.add_emod_right,D2a (by omega)];omega
    rw[e3,←Int.add_emod_right,D2a (by omega)];omega
  ·exact .refl hn
 split
 ·rename_i hc;obtain⟨a,b,a0⟩:=f9b ((h9a hc).1 b0).1;rw[a0];exact o9c hn a0 hc
 split
 ·rename_i d0;obtain⟨_,a,b,a0⟩:=z1d ((o9a d0).1 b0).2.2.1;rw[a0];exact D9c hn a0 d0
 ·rename_i h4 hc d0;have ho:5≤n.op∧n.op≤10:=by omega
  obtain⟨a,b,a0⟩:=f9b ((E9a ho).1 b0).2.2.1;rw[a0];exact b2d hn a0 ho
theorem I7b{e:E}{d:Int}(he:e.good d=true){f:E→E}(hf:∀k∈e.kids,d4a k (f k) (d-1)):d4a e ⟨e.op,e.w,e.n,e.kids.map f⟩ d:=by
 obtain⟨c0,_⟩:=b1a he;have e0:∀i,E.kw ⟨e.op,e.w,e.n,e.kids.map f⟩ i=e.kw i:=fun i=>by
  simp only[E.kw,List.getElem?_map,Option.map_map];cases hx:e.kids[i]? with
  | none=>rfl
  | some k=>exact(hf k (List.mem_of_getElem? hx)).w
 have a0:∀o q,(e.kids.map f).map (E.val o q)=e.kids.map (E.val o q):=fun o q=>by
  rw[List.map_map];exact List.map_congr_left fun k hk=>(hf k hk).val o q
 have d0:∀ks:List E,(∀k∈ks,(f k).cnt≤k.cnt)→E.cnts (ks.map f)≤E.cnts ks:=by
  intro ks
  induction ks with
  | nil=>intro _;exact Nat.le_refl _
  | cons k ks ih =>
    intro h;have h1:=h k (by simp);have h2:=ih fun x hx=>h x (by simp[hx]);simp only[List.map_cons,E.cnts];omega
 refine⟨Z,?_,?_,fun o q=>?_,fun cells b0 h=>?_⟩
 ·rw[E.good_def];simp only[Bool.and_eq_true,decide_eq_true_eq];refine⟨⟨i3b he,?_⟩,(E.goods_iff _ _).2 fun x hx=>?_⟩
  ·unfold E.shapeB;refine decide_eq_true ?_;unfold E.Shape at c0 ⊢;simp only[e0,List.length_map];exact c0
  ·obtain⟨k,hk,rfl⟩:=List.mem_map.1 hx;exact(hf k hk).good
 ·rw[E.cnt_def e,E.cnt_def ⟨e.op,e.w,e.n,e.kids.map f⟩];have:=d0 e.kids fun k hk=>(hf k hk).cnt;show E.cnts (e.kids.map f)+1≤_;omega
 ·rw[E.val_def,E.val_def o q e];show(if e.op=1 then e.n else _)=_;rw[a0]
 ·rw[E.over_def,Bool.and_eq_true] at h ⊢;refine⟨h.1,(E.overs_iff _ _ _).2 fun x hx=>?_⟩;obtain⟨k,hk,rfl⟩:=List.mem_map.1 hx;exact(hf k hk).over cells b0 ((E.overs_iff _ _ _).1 h.2 k hk)
theorem d4a.trans{a b c:E}{d:Int}(h1:d4a a b d)(h2:d4a b c d):d4a a c d :=
 ⟨h2.w.trans h1.w,h2.good,Nat.le_trans h2.cnt h1.cnt,fun o q=>(h2.val o q).trans (h1.val o q),fun cells a0 h=>h2.over cells a0 (h1.over cells a0 h)⟩
theorem r8c:∀(e:E) (d:Int),e.good d=true→d4a e (d1b e) d:=by
 intro e
 induction e using E.induct with
 | _ e ih =>
   intro d he;rw[E8b];cases hk:e.kids with
   | nil =>
     have:e=⟨e.op,e.w,e.n,[]⟩:=by obtain⟨a,b,c,ks⟩:=e;simp only at hk;rw[hk]
     simp only[List.isEmpty_nil,if_true];rw[←this];exact .refl he
   | cons k ks =>
     simp only[List.isEmpty_cons,Bool.false_eq_true,if_false];rw[←hk];have h1:=I7b he (f:=d1b) fun x hx=>ih x hx (d-1) ((b1a he).2 x hx);exact h1.trans (Z3c h1.good (by rw[hk];simp))
def D0d(e:E):E:=if e.wf=true then d1b e else zE
theorem E3d{a b:E}(h:a=b):Value.bool true=.bool (E.beq a b):=by rw[(E.beq_iff a b).2 h]
theorem u2c{a b:E}(h:a≠b):Value.bool false=.bool (E.beq a b):=by
 cases hb:E.beq a b with
 | true=>exact absurd ((E.beq_iff a b).1 hb) h
 | false=>rfl
theorem E.eq_of{a b:E}(h1:a.op=b.op)(h2:a.w=b.w)(h3:a.n=b.n)(h4:a.kids=b.kids):a=b:=by
 cases a;cases b;simp only at h1 h2 h3 h4;subst h1 h2 h3 h4;rfl
theorem f0b:∀(a b:E) (w0:World) (ba oa bb ob:Nat),RdP [] w0 a ba oa→RdP [] w0 b bb ob →
 O0a prog 211 #[.pointer (some ⟨ba,oa,none⟩),.pointer (some ⟨bb,ob,none⟩)] w0 fun v w'=>v=.bool (E.beq a b)∧Bw w0 w':=by
 intro a
 induction a using E.induct with
 | _ a ih =>
 intro b w0 ba oa bb ob ha hb;obtain⟨-,_,_,_,c0,c1,c2,_,n,_,c3,_,_,_,_,x0,-⟩:=ha.open_;obtain⟨-,_,_,_,d0,d1,d2,_,_,_,d3,_,_,_,_,j0,-⟩:=hb.open_;have S:=St.refl w0;refine a0a func211 Z ntmps211 Z ?_;refine wC0 Z U (H0a c0a [0,1,2,3,4,5,6,7,8,9,10,11,12,13,14,15,16,17,18,19,20,21,22,23,24,25,26,27,28,29,30,31,32,33,34,35,36,37,38,39,40,41,42,43] [] [] Z (Cl _ _ _ _) (Cl.start S) ?_);refine qO0 Z U (k0a D0a Z (fun w1 hw=>by exact hw.1.old c0) Z ?_);refine qO0 Z U (k0a D0a Z (fun w1 hw=>by exact hw.1.old d0) Z ?_);refine qB0 Z U (fun q0=>?_) fun q0=>?_
 ·refine qD Z U ?_;rintro f0 ⟨a0,e0⟩;refine lR0 Z U (A0a Z ?_);refine⟨u2c fun h=>?_,a0.fin⟩;subst h;omega
 refine qO0 Z U (k0a D0a Z (fun w1 hw=>by exact hw.1.old c1) Z ?_);refine qO0 Z U (k0a D0a Z (fun w1 hw=>by exact hw.1.old d1) Z ?_);refine qB0 Z U (fun r0=>?_) fun r0=>?_
 ·refine qD Z U ?_;rintro f0 ⟨a0,e0⟩;refine lR0 Z U (A0a Z ?_);refine⟨u2c fun h=>?_,a0.fin⟩;subst h;omega
 refine qO0 Z U (k0a D0a Z (fun w1 hw=>by exact hw.1.old c2) Z ?_);refine qO0 Z U (k0a D0a Z (fun w1 hw=>by exact hw.1.old d2) Z ?_);refine qB0 Z U (fun s0=>?_) fun s0=>?_
 ·refine qD Z U ?_;rintro f0 ⟨a0,e0⟩;refine lR0 Z U (A0a Z ?_);refine⟨u2c fun h=>?_,a0.fin⟩;subst h;omega
 refine qO0 Z U (k0a r1a Z (fun w1 hw=>by exact hw.1.old c3) Z ?_);refine qO0 Z U (k0a r1a Z (fun w1 hw=>by exact hw.1.old d3) Z ?_);refine qB0 Z U (fun t0=>?_) fun t0=>?_
 ·refine qD Z U ?_;rintro f0 ⟨a0,e0⟩;refine lR0 Z U (A0a Z ?_);refine⟨u2c fun h=>?_,a0.fin⟩;subst h;omega
 refine qD Z U ?_;rintro f0 ⟨a0,e0⟩;refine lO0 Z U (L0a r1a Z (by exact a0.old c3) Z ?_);refine lC0 Z U (wL (fun μk D ε w=>D=[]∧∃k:Nat,(k+μk=(a.kids.length))∧(a.kids.take k=b.kids.take k)∧St [] w0 w []∧Sl ε [(0,.pointer (some ⟨ba,oa,none⟩)),(1,.pointer (some ⟨bb,ob,none⟩)),(54,.int .i64 n),(55,.int .i64 k)]) (μ:=(a.kids.length)) ⟨Z,0,by omega,by simp,a0,Z⟩ ?_);rintro μk D ε w ⟨rfl,k,_,hs,S,eZ⟩;refine wK eZ (wB0 Z U (fun u0=>?_) fun u0=>?_)
 ·obtain⟨bk,ok,_,-,v0⟩:=x0 (by omega);obtain⟨p0,A0,_,-,i0⟩:=j0 (by omega);have m0:k<a.kids.length:=by omega
  have o0:k<b.kids.length:=by omega
  have y0:a.kids[k]?=some a.kids[k]:=List.getElem?_eq_getElem m0;have z0:b.kids[k]?=some b.kids[k]:=List.getElem?_eq_getElem o0;refine lC0 Z U (H0a c0a [0,1,2,3,4,5,6,7,8,9,10,11] [] [12,13] Z (Cl _ _ _ _) (Cl.start S) ?_);refine qO0 Z U (k0a r1a Z (fun w1 hw=>by exact hw.1.old c3) Z ?_);refine qO0 Z U (q0a R0a.slT Z (by assumption) Z Z ?_);refine qO0 Z U (k0a r1a Z (fun w1 hw=>by exact hw.1.old d3) Z ?_);refine qO0 Z U (q0a R0a.slT Z (by assumption) Z Z ?_);refine qD Z U ?_;rintro D0 ⟨g0,_⟩;refine W0a (V:=.bool (E.beq a.kids[k] b.kids[k])) g0 d3b Z Z (by have z:=ih a.kids[k] (List.getElem_mem m0) b.kids[k] _ bk (ok+k*4) p0 (A0+k*4) ((RdP.kid (by simp) v0 k m0).keep (g0.keep0 [])) ((RdP.kid (by simp) i0 k o0).keep (g0.keep0 []));exact z) ?_;intro C0 n0 B0;rcases Bool.eq_false_or_eq_true (E.beq a.kids[k] b.kids[k]) with b0|b0<;>rw[b0]
  ·refine lP0 Z ⟨by omega,U⟩ ⟨μk-1,by omega,Z,(k+1),(by omega),?_,n0,Z⟩;rw[t0a y0,t0a z0,hs,(E.beq_iff _ _).1 b0]
  refine lR0 Z U (A0a Z ?_);refine⟨u2c fun h=>?_,n0.fin⟩;subst h;rw[(E.beq_iff _ _).2 rfl] at b0;cases b0;done
 refine lR0 Z U (A0a Z ?_);refine⟨E3d (E.eq_of (by omega) (by omega) (by omega) ?_),S.fin⟩;rwa [List.take_of_length_le (by omega),List.take_of_length_le (by omega)] at hs
theorem J5a(e:E)(M:List Nat)(w0:World)(cs:List Value)(hR:RdE M w0 e cs)(hK:k2a M w0)(hw:1≤e.w∧e.w≤8:=by omega):
 O0a prog 212 #[.agg cs.toArray] w0 fun v w'=>v=.bool (isO e)∧Bw w0 w':=by
 obtain⟨_,_,_,rfl,-⟩:=hR.open_;have S:=St.refl w0;refine a0a func212 Z ntmps212 Z ?_;refine wO0 Z U (r0a S Z ?_);intro g1 w1 S1 X1 G1;refine lC0 Z U (H0a c0a [0,1,2,3,4,5,6] [] [] Z (Cl _ _ _ _) (Cl.start S1) ?_);refine qO S1.q [.w 0,.o 0] Z ⟨Z,⟨Z,by rfl⟩,U⟩ (e2a W6a Z Z Z ?_);refine k0a D0a Z (fun w1 hw=>by exact hw.1.old (hK.at (by omega) (by omega))) Z ?_;refine g2a c1a Z Z (fun w1 S1 X1=>v0a e (m2a e.w.toNat-1) M _ _ (RdE.keep (S1.keep0 M) _ _ hR)) ?_;refine qD Z U ?_;rintro b0 ⟨a0,_⟩;exact lT Z U Z ⟨Z,a0.fin⟩
theorem O5a(e:E)(M:List Nat)(w0:World)(cs:List Value)(hR:RdE M w0 e cs)(hM:∀g∈M,g<w0.heap.size)(hk:e.op=4→∃x,e.kids=[x]):
 O0a prog 213 #[.agg cs.toArray] w0 fun v w'=>(∃cs:List Value,v=.agg cs.toArray∧RdE M w' (z7b e) cs)∧Bw w0 w':=by
 obtain⟨_,n,_,rfl,_,o2,_,hn,_,hm,_,j0⟩:=hR.open_;have S:=St.refl w0;refine a0a func213 Z ntmps213 Z ?_;refine wO0 Z U (r0a S Z ?_);intro g1 w1 S1 X1 G1;refine h0a S1 w1a Z Z ?_;intro g2 w2 S2 X2 G2;refine lB S2.k [.o 1] Z ⟨Z,U⟩ (fun h5=>?_) fun h5=>?_
 ·refine lO S2.k [.o 1] Z ⟨Z,U⟩ ?_;obtain⟨x,hx⟩:=hk h5;rw[hx] at hn;replace hn:n=1:=hn;obtain⟨_,_,_,_,i0⟩:=j0 (by omega);obtain⟨_,g0,c0⟩:=i0 0 (by rw[hx];simp);simp only[hx,List.getElem_cons_zero] at c0;obtain⟨_,_,_,rfl,-⟩:=c0.open_;refine M0a R0a.slT Z (by assumption) Z Z ?_;refine L2a m0a Z ((fun j v hj=>S2.old (g0 j v hj))) Z ?_;refine b0a (kk:=0) (vs:=[_,_,_,_]) S2 w0a Z Z Z Z Z Z Z ?_;intro m0 b0 e0;dsimp only[d0a,List.set] at b0;refine lR0 Z U (g0a Z m0a Z (b0.cells 0 Z) Z ⟨⟨_,Z,?_⟩,b0.fin⟩);rw[show z7b e=x by unfold z7b;rw[if_pos h5,hx];rfl];exact RdE.keep (b0.keep0 M) _ _ c0
 refine lO S2.k [.o 1,.w 1] Z ⟨⟨Z,by rfl⟩,Z,U⟩ (C0a S2 R0a (vs:=[.agg _]) (cs:=[_,_,_,_]) Z Z Z Z Z Z ?_);intro q0 r0 d0 p0 o0;refine j1a I2a (vs:=[(0,.int .i64 _),(1,.int .i64 _),(3,.slice _ _ _)]) (cs:=[_,_,_,_]) Z Z Z Z ?_;refine b0a (kk:=1) (vs:=[_,_,_,_]) d0 w0a Z Z Z Z Z Z Z ?_;intro n0 a0 f0;dsimp only[d0a,List.set] at a0;refine lR0 Z U (g0a Z m0a Z (a0.cells 1 Z) Z ⟨⟨_,Z,?_⟩,a0.fin⟩);rw[show z7b e=⟨4,e.w,0,[e]⟩ by unfold z7b;rw[if_neg h5]];refine i7c (by unfold i64;omega) o2 (fun hm=>?_) (a0.cells 0 Z) (RdE.keep (a0.keep0 M) _ _ hR);have h1:=hM _ hm;have h2:=a0.new 0 Z;simp at h2;omega
end Go.Fw
