/- Part 21 of the proof: Shelf. -/
import Derived.Shelf.Small.Strs
import Derived.Shelf.Small.Wraps
import Derived.Shelf.Utf8.RuneCount
import Derived.Shelf.Strings.Search1
import Derived.Shelf.Strings.Search2
import Derived.Shelf.Strings.Search3
import Derived.Shelf.Strings.Cut
import Derived.Shelf.Strings.Count
import Derived.Shelf.LaysM
import Derived.Shelf.Strings.Shaped
import Derived.Shelf.Strings.Prefix
import Derived.Shelf.Strings.Split
import Derived.Shelf.Strings.SplitShaped
import Derived.Shelf.Unicode.Decode
import Derived.Shelf.Strings.RuneCount
import Derived.Shelf.Strings.Explode
import Derived.Shelf.Unicode.DecodeSlow
import Derived.Shelf.Unicode.DecodeAny
import Derived.Test.YtlffomedflegdaaGreatDoorProg
import Derived.Test.YtlffomedflegdaaGreatDoorPd00
set_option linter.all false
set_option maxHeartbeats 16000000
set_option maxRecDepth 100000
namespace Go.Proofs.YtlffomedflegdaaGreatDoor
open Go.Proofs.Tryz
open Go.RowKit
end Go.Proofs.YtlffomedflegdaaGreatDoor
namespace Go.Proofs
open Go.Shelf
def Tryz.Sc:Go.Shelf.Ren:=⟨fun|145=>59|220=>99|219=>155|217=>202|225=>203|224=>204|267=>205|266=>226|314=>227|n=>n,fun|9=>9|4=>4|59=>142|3=>3|5=>5|46=>215|146=>305|51=>304|n=>n,fun|1=>1|n=>n⟩
theorem Tryz.kY:Go.Proofs.Lays.n145 prog Tryz.Sc:={
 mixed:=by kernel_rfl
 f145:=func59.trans (congrArg some (by kernel_rfl))
 f217:=func202.trans (congrArg some (by kernel_rfl))
 f219:=func155.trans (congrArg some (by kernel_rfl))
 f220:=func99.trans (congrArg some (by kernel_rfl))
 f224:=func204.trans (congrArg some (by kernel_rfl))
 f225:=func203.trans (congrArg some (by kernel_rfl))
 f266:=func226.trans (congrArg some (by kernel_rfl))
 f267:=func205.trans (congrArg some (by kernel_rfl))
 f314:=func227.trans (congrArg some (by kernel_rfl))
 t3:=underlying3
 a3:=Tryz.isAgg3
 z3:=Tryz.sizeOf3
 v3:=Tryz.zeroValue3
 t4:=underlying4
 a4:=Tryz.isAgg4
 z4:=Tryz.sizeOf4
 v4:=Tryz.zeroValue4
 t5:=underlying5
 a5:=Tryz.isAgg5
 z5:=Tryz.sizeOf5
 v5:=Tryz.zeroValue5
 t9:=underlying9
 a9:=Tryz.isAgg9
 z9:=Tryz.sizeOf9
 v9:=Tryz.zeroValue9
 t46:=underlying215
 a46:=Tryz.isAgg215
 z46:=Tryz.sizeOf215
 v46:=Tryz.zeroValue215
 t51:=underlying304
 a51:=Tryz.isAgg304
 z51:=Tryz.sizeOf304
 v51:=Tryz.zeroValue304
 t59:=underlying142
 a59:=Tryz.isAgg142
 z59:=Tryz.sizeOf142
 v59:=Tryz.zeroValue142
 t146:=underlying305
 a146:=Tryz.isAgg305
 z146:=Tryz.sizeOf305
 v146:=Tryz.zeroValue305
 g1:=by kernel_rfl}
open Go.RowKit Go.Lib in
theorem Tryz.strings_Cut(s sep:ByteArray)(m:Int)(w:World)(hs:s.size<4294967281)(hm:w.cell? ⟨1,0,none⟩=some (.int .i64 m)):Calls prog 59 #[.string s,.string sep] w fun e w'=>e=.returned (.tuple #[.string ⟨(Lib.cut s.data.toList sep.data.toList).1.toArray⟩,.string ⟨(Lib.cut s.data.toList sep.data.toList).2.1.toArray⟩,.bool (Lib.cut s.data.toList sep.data.toList).2.2])/\∃n,w'=w.drewN n:=Any.strings_Cut Tryz.kY s sep m w hs hm
def Tryz.SY:Go.Shelf.Ren:=⟨fun|146=>58|221=>98|268=>152|138=>153|143=>154|195=>199|197=>200|218=>201|219=>155|260=>225|217=>202|225=>203|224=>204|267=>205|266=>226|314=>227|n=>n,fun|9=>9|31=>78|3=>3|4=>4|0=>0|105=>285|21=>21|5=>5|46=>215|119=>321|139=>324|138=>323|146=>305|51=>304|n=>n,fun|1=>1|3=>3|4=>4|n=>n⟩
theorem Tryz.kX:Go.Proofs.Lays.n146 prog Tryz.SY:={
 mixed:=by kernel_rfl
 f138:=func153.trans (congrArg some (by kernel_rfl))
 f143:=func154.trans (congrArg some (by kernel_rfl))
 f146:=func58.trans (congrArg some (by kernel_rfl))
 f195:=func199.trans (congrArg some (by kernel_rfl))
 f197:=func200.trans (congrArg some (by kernel_rfl))
 f217:=func202.trans (congrArg some (by kernel_rfl))
 f218:=func201.trans (congrArg some (by kernel_rfl))
 f219:=func155.trans (congrArg some (by kernel_rfl))
 f221:=func98.trans (congrArg some (by kernel_rfl))
 f224:=func204.trans (congrArg some (by kernel_rfl))
 f225:=func203.trans (congrArg some (by kernel_rfl))
 f260:=func225.trans (congrArg some (by kernel_rfl))
 f266:=func226.trans (congrArg some (by kernel_rfl))
 f267:=func205.trans (congrArg some (by kernel_rfl))
 f268:=func152.trans (congrArg some (by kernel_rfl))
 f314:=func227.trans (congrArg some (by kernel_rfl))
 t0:=underlying0
 a0:=Tryz.isAgg0
 z0:=Tryz.sizeOf0
 v0:=Tryz.zeroValue0
 t3:=underlying3
 a3:=Tryz.isAgg3
 z3:=Tryz.sizeOf3
 v3:=Tryz.zeroValue3
 t4:=underlying4
 a4:=Tryz.isAgg4
 z4:=Tryz.sizeOf4
 v4:=Tryz.zeroValue4
 t5:=underlying5
 a5:=Tryz.isAgg5
 z5:=Tryz.sizeOf5
 v5:=Tryz.zeroValue5
 t9:=underlying9
 a9:=Tryz.isAgg9
 z9:=Tryz.sizeOf9
 v9:=Tryz.zeroValue9
 t21:=underlying21
 a21:=Tryz.isAgg21
 z21:=Tryz.sizeOf21
 v21:=Tryz.zeroValue21
 t31:=underlying78
 a31:=Tryz.isAgg78
 z31:=Tryz.sizeOf78
 v31:=Tryz.zeroValue78
 t46:=underlying215
 a46:=Tryz.isAgg215
 z46:=Tryz.sizeOf215
 v46:=Tryz.zeroValue215
 t51:=underlying304
 a51:=Tryz.isAgg304
 z51:=Tryz.sizeOf304
 v51:=Tryz.zeroValue304
 t105:=underlying285
 a105:=Tryz.isAgg285
 z105:=Tryz.sizeOf285
 v105:=Tryz.zeroValue285
 t119:=underlying321
 a119:=Tryz.isAgg321
 z119:=Tryz.sizeOf321
 t138:=underlying323
 a138:=Tryz.isAgg323
 z138:=Tryz.sizeOf323
 v138:=Tryz.zeroValue323
 t139:=underlying324
 a139:=Tryz.isAgg324
 z139:=Tryz.sizeOf324
 v139:=Tryz.zeroValue324
 t146:=underlying305
 a146:=Tryz.isAgg305
 z146:=Tryz.sizeOf305
 v146:=Tryz.zeroValue305
 g1:=by kernel_rfl
 g3:=by kernel_rfl
 g4:=by kernel_rfl}
open Go.RowKit Go.Lib in
theorem Tryz.strings_Split(s sep:ByteArray)(m:Int)(w:World)(hs:s.size<4294967281)(hm:w.cell? ⟨1,0,none⟩=some (.int .i64 m))(h1:1<=sep.size):Calls prog 58 #[.string s,.string sep] w fun e w'=> e=.returned (.slice (some ⟨w.heap.size,0,none⟩) (Lib.countB s sep+1) (Lib.countB s sep+1))/\w'=w.alloc (.cells ((Lib.splitB sep 0 (Lib.countB s sep) s).map Value.string).toArray 9):=Any.strings_Split Tryz.kX (by kernel_rfl) s sep m w hs hm h1
end Go.Proofs
namespace Go.Proofs.YtlffomedflegdaaGreatDoor
end Go.Proofs.YtlffomedflegdaaGreatDoor
