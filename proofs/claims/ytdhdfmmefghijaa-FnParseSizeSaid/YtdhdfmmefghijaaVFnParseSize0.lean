/- CONTRACTS and lemmas: each contract says that a Go function of the program, called over the translation under the theorem's own hypotheses, returns what the Lean function beside it computes. -/
import Derived.Shelf.Small.Strs
import Derived.Shelf.Strings.Search1
import Derived.Shelf.Strings.Search2
import Derived.Shelf.Strings.Cut
import Derived.Shelf.LaysM
import Derived.Shelf.Strings.Shaped
import Derived.Test.YtdhdfmmefghijaaProg
namespace Go.Proofs
open Go.Shelf
def Try.lays137_ren:Go.Shelf.Ren:=⟨fun | 137=>47 | 217=>66 | 266=>78|n=>n,fun | 9=>9 | 5=>5 | 3=>3|n=>n,fun|n=>n⟩
theorem Try.lays137:Go.Proofs.Lays.n137 Try.prog Try.lays137_ren:={
 mixed:=by kernel_rfl
 f137:=Try.func47.trans (congrArg some (by kernel_rfl))
 f217:=Try.func66.trans (congrArg some (by kernel_rfl))
 f266:=Try.func78.trans (congrArg some (by kernel_rfl))
 t3:=Try.underlying3
 a3:=Try.isAgg3
 z3:=Try.sizeOf3
 v3:=Try.zeroValue3
 t5:=Try.underlying5
 a5:=Try.isAgg5
 z5:=Try.sizeOf5
 v5:=Try.zeroValue5
 t9:=Try.underlying9
 a9:=Try.isAgg9
 z9:=Try.sizeOf9
 v9:=Try.zeroValue9 }
open Go.RowKit in
theorem Try.strings_IndexByte (s:ByteArray) (c:Int) (w:World) :
  Calls Try.prog 47 #[.string s,.int .u8 c] w fun e w'=>e=.returned (.int .i64 (Lib.indexByte s.data.toList c.toNat.toUInt8))∧w'=w:=Any.strings_IndexByte Try.lays137 s c w
def Try.lays219_ren:Go.Shelf.Ren:=⟨fun | 219=>82 | 217=>66 | 225=>83 | 224=>84 | 267=>85 | 266=>78 | 314=>86|n=>n,fun | 9=>9 | 3=>3 | 4=>4 | 5=>5 | 46=>81 | 146=>83 | 51=>82|n=>n,fun | 1=>0|n=>n⟩
theorem Try.lays219:Go.Proofs.Lays.n219 Try.prog Try.lays219_ren:={
 mixed:=by kernel_rfl
 f217:=Try.func66.trans (congrArg some (by kernel_rfl))
 f219:=Try.func82.trans (congrArg some (by kernel_rfl))
 f224:=Try.func84.trans (congrArg some (by kernel_rfl))
 f225:=Try.func83.trans (congrArg some (by kernel_rfl))
 f266:=Try.func78.trans (congrArg some (by kernel_rfl))
 f267:=Try.func85.trans (congrArg some (by kernel_rfl))
 f314:=Try.func86.trans (congrArg some (by kernel_rfl))
 t3:=Try.underlying3
 a3:=Try.isAgg3
 z3:=Try.sizeOf3
 v3:=Try.zeroValue3
 t4:=Try.underlying4
 a4:=Try.isAgg4
 z4:=Try.sizeOf4
 v4:=Try.zeroValue4
 t5:=Try.underlying5
 a5:=Try.isAgg5
 z5:=Try.sizeOf5
 v5:=Try.zeroValue5
 t9:=Try.underlying9
 a9:=Try.isAgg9
 z9:=Try.sizeOf9
 v9:=Try.zeroValue9
 t46:=Try.underlying81
 a46:=Try.isAgg81
 z46:=Try.sizeOf81
 v46:=Try.zeroValue81
 t51:=Try.underlying82
 a51:=Try.isAgg82
 z51:=Try.sizeOf82
 v51:=Try.zeroValue82
 t146:=Try.underlying83
 a146:=Try.isAgg83
 z146:=Try.sizeOf83
 v146:=Try.zeroValue83
 g1:=by kernel_rfl }
open Go.RowKit Go.Lib in
theorem Try.stringslite_Index_one (s:ByteArray) (c:UInt8) (w:World) :
  Calls Try.prog 82 #[.string s,.string ⟨#[c]⟩] w fun e w'=>e=.returned (.int .i64 (Lib.indexByte s.data.toList c))∧w'=w:=Any.stringslite_Index_one Try.lays219 s c w
open Go.RowKit Go.Lib in
theorem Try.stringslite_Index (s sub:ByteArray) (m:Int) (w:World) (hs:s.size < 4294967281) (hm:w.cell? ⟨0,0,none⟩=some (.int .i64 m)) :
  Calls Try.prog 82 #[.string s,.string sub] w fun e w'=>e=.returned (.int .i64 (Lib.index s.data.toList sub.data.toList))∧w'=w:=Any.stringslite_Index Try.lays219 s sub m w hs hm
def Try.lays220_ren:Go.Shelf.Ren:=⟨fun | 220=>79 | 219=>82 | 217=>66 | 225=>83 | 224=>84 | 267=>85 | 266=>78 | 314=>86|n=>n,fun | 9=>9 | 4=>4 | 3=>3 | 5=>5 | 46=>81 | 146=>83 | 51=>82|n=>n,fun | 1=>0|n=>n⟩
theorem Try.lays220:Go.Proofs.Lays.n220 Try.prog Try.lays220_ren:={
 mixed:=by kernel_rfl
 f217:=Try.func66.trans (congrArg some (by kernel_rfl))
 f219:=Try.func82.trans (congrArg some (by kernel_rfl))
 f220:=Try.func79.trans (congrArg some (by kernel_rfl))
 f224:=Try.func84.trans (congrArg some (by kernel_rfl))
 f225:=Try.func83.trans (congrArg some (by kernel_rfl))
 f266:=Try.func78.trans (congrArg some (by kernel_rfl))
 f267:=Try.func85.trans (congrArg some (by kernel_rfl))
 f314:=Try.func86.trans (congrArg some (by kernel_rfl))
 t3:=Try.underlying3
 a3:=Try.isAgg3
 z3:=Try.sizeOf3
 v3:=Try.zeroValue3
 t4:=Try.underlying4
 a4:=Try.isAgg4
 z4:=Try.sizeOf4
 v4:=Try.zeroValue4
 t5:=Try.underlying5
 a5:=Try.isAgg5
 z5:=Try.sizeOf5
 v5:=Try.zeroValue5
 t9:=Try.underlying9
 a9:=Try.isAgg9
 z9:=Try.sizeOf9
 v9:=Try.zeroValue9
 t46:=Try.underlying81
 a46:=Try.isAgg81
 z46:=Try.sizeOf81
 v46:=Try.zeroValue81
 t51:=Try.underlying82
 a51:=Try.isAgg82
 z51:=Try.sizeOf82
 v51:=Try.zeroValue82
 t146:=Try.underlying83
 a146:=Try.isAgg83
 z146:=Try.sizeOf83
 v146:=Try.zeroValue83
 g1:=by kernel_rfl }
open Go.RowKit Go.Lib in
theorem Try.stringslite_Cut (s sep:ByteArray) (m:Int) (w:World) (hs:s.size < 4294967281) (hm:w.cell? ⟨0,0,none⟩=some (.int .i64 m)) :
  Calls Try.prog 79 #[.string s,.string sep] w fun e w'=>e=.returned (.tuple #[.string ⟨(Lib.cut s.data.toList sep.data.toList).1.toArray⟩,.string ⟨(Lib.cut s.data.toList sep.data.toList).2.1.toArray⟩,.bool (Lib.cut s.data.toList sep.data.toList).2.2])∧∃ n,w'=w.drewN n:=Any.stringslite_Cut Try.lays220 s sep m w hs hm
def Try.lays145_ren:Go.Shelf.Ren:=⟨fun | 145=>68 | 220=>79 | 219=>82 | 217=>66 | 225=>83 | 224=>84 | 267=>85 | 266=>78 | 314=>86|n=>n,fun | 9=>9 | 4=>4 | 59=>69 | 3=>3 | 5=>5 | 46=>81 | 146=>83 | 51=>82|n=>n,fun | 1=>0|n=>n⟩
theorem Try.lays145:Go.Proofs.Lays.n145 Try.prog Try.lays145_ren:={
 mixed:=by kernel_rfl
 f145:=Try.func68.trans (congrArg some (by kernel_rfl))
 f217:=Try.func66.trans (congrArg some (by kernel_rfl))
 f219:=Try.func82.trans (congrArg some (by kernel_rfl))
 f220:=Try.func79.trans (congrArg some (by kernel_rfl))
 f224:=Try.func84.trans (congrArg some (by kernel_rfl))
 f225:=Try.func83.trans (congrArg some (by kernel_rfl))
 f266:=Try.func78.trans (congrArg some (by kernel_rfl))
 f267:=Try.func85.trans (congrArg some (by kernel_rfl))
 f314:=Try.func86.trans (congrArg some (by kernel_rfl))
 t3:=Try.underlying3
 a3:=Try.isAgg3
 z3:=Try.sizeOf3
 v3:=Try.zeroValue3
 t4:=Try.underlying4
 a4:=Try.isAgg4
 z4:=Try.sizeOf4
 v4:=Try.zeroValue4
 t5:=Try.underlying5
 a5:=Try.isAgg5
 z5:=Try.sizeOf5
 v5:=Try.zeroValue5
 t9:=Try.underlying9
 a9:=Try.isAgg9
 z9:=Try.sizeOf9
 v9:=Try.zeroValue9
 t46:=Try.underlying81
 a46:=Try.isAgg81
 z46:=Try.sizeOf81
 v46:=Try.zeroValue81
 t51:=Try.underlying82
 a51:=Try.isAgg82
 z51:=Try.sizeOf82
 v51:=Try.zeroValue82
 t59:=Try.underlying69
 a59:=Try.isAgg69
 z59:=Try.sizeOf69
 v59:=Try.zeroValue69
 t146:=Try.underlying83
 a146:=Try.isAgg83
 z146:=Try.sizeOf83
 v146:=Try.zeroValue83
 g1:=by kernel_rfl }
open Go.RowKit Go.Lib in
theorem Try.strings_Cut (s sep:ByteArray) (m:Int) (w:World) (hs:s.size < 4294967281) (hm:w.cell? ⟨0,0,none⟩=some (.int .i64 m)) :
  Calls Try.prog 68 #[.string s,.string sep] w fun e w'=>e=.returned (.tuple #[.string ⟨(Lib.cut s.data.toList sep.data.toList).1.toArray⟩,.string ⟨(Lib.cut s.data.toList sep.data.toList).2.1.toArray⟩,.bool (Lib.cut s.data.toList sep.data.toList).2.2])∧∃ n,w'=w.drewN n:=Any.strings_Cut Try.lays145 s sep m w hs hm
end Go.Proofs
