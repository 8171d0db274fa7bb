/- CLOSED FACTS over the translation, told once for all laws of the seat: the table of types, and who calls whom; no condition. -/
import Derived.Test.YtbijachmecgpgaaRows
import Derived.ClosedOfChecked
import Derived.KernelRfl
namespace Go.Proofs.Ytbijachmecgpgaa
theorem closed3 : laidOutB Try.prog = true ∧ mapsRowed Try.prog = true ∧ Try.prog.plainKeys = true := Go.ClosedOfChecked.closed_of_checked Try.checked (by kernel_rfl) (by kernel_rfl) (by kernel_rfl)
/-- who calls whom -/
def edgesL : List (List Nat) := [[], [], [1], [], [15, 16], [17, 17, 19, 19, 18, 19, 19, 20, 19, 21, 19, 21], [22, 24, 23, 24, 25, 24, 26], [22, 24, 27, 24, 28, 24, 26], [22, 22, 24, 24, 29, 24, 24, 30, 24, 26, 24, 26], [17, 19, 31, 19, 32, 19, 21], [17, 19, 33, 19, 34, 19, 21], [17, 19, 35, 19, 36, 19, 21], [17, 17, 19, 19, 37, 19, 19, 38, 21, 19, 21, 19, 21, 39, 39, 21, 39, 40, 19, 19, 38, 21, 40], [17, 19, 41, 19, 42, 21, 19, 21, 39, 21, 39, 40, 19, 42, 21, 40], [17, 19, 43, 19, 44, 19, 21], [], [45], [46], [], [47], [48], [49], [50], [51], [52], [25], [53], [27], [28], [29], [30], [54], [55], [31, 56, 56], [32, 57], [31, 58], [32, 57], [31, 31, 59, 31], [32, 32, 60, 32], [61], [61], [31, 62, 31], [32, 63, 32], [31, 64], [32, 65, 66], [67], [], [], [], [], [22], [51], [24], [26], [15], [16], [68], [], [56], [], [69], [], [], [69], [56], [70], [71, 72, 72, 72, 73], [74], [], [], [75, 76, 76, 76, 76, 76, 71, 72, 77, 77, 77, 73, 72, 73], [78, 79], [78], [], [], [80, 81], [82], [], [83], [84], [], [], [], [], [], [], [], [], [], [], [], [], [], [], [], [], [], [], [], [], [], []]
theorem edges : Try.prog.funcs.toList.map Try.prog.leadsTo = edgesL := by kernel_rfl
/-- what a function comes to, over the table alone -/
def clo (E : List (List Nat)) : Nat → List Nat → List Nat → List Nat
  | 0, _, seen => seen.reverse
  | _, [], seen => seen.reverse
  | n + 1, f :: todo, seen => if seen.contains f then clo E n todo seen else clo E n ((E[f]?).getD [] ++ todo) (f :: seen)
set_option maxRecDepth 100000 in
theorem elim_edges (f : Nat) : (Try.prog.funcs[f]?).elim [] Try.prog.leadsTo = (edgesL[f]?).getD [] := by
  rw [← edges, List.getElem?_map, Array.getElem?_toList]
  cases Try.prog.funcs[f]? <;> rfl
theorem closureVia_clo : ∀ (n : Nat) (todo seen : List Nat), Try.prog.closureVia n todo seen = clo edgesL n todo seen
  | 0, _, _ => by simp [Program.closureVia, clo]
  | n + 1, [], _ => by simp [Program.closureVia, clo]
  | n + 1, f :: todo, seen => by
    rw [Program.closureVia, clo, elim_edges, closureVia_clo n, closureVia_clo n]
def fuelE : Nat := 1 + (edgesL.map fun l => l.length + 1).sum
set_option maxRecDepth 100000 in
theorem fuel_eq : 1 + (Try.prog.funcs.toList.map fun g => (Try.prog.leadsTo g).length + 1).sum = fuelE := by
  rw [fuelE, ← edges, List.map_map]
  rfl
theorem closure_clo (f : Nat) : Try.prog.closure f = clo edgesL fuelE [f] [] := by
  rw [Program.closure, fuel_eq, closureVia_clo]
/-- functions that hold a call of a value that isn't known, or an entry that calls -/
noncomputable def unfB (fn : Func) : Bool := match fn.body with | some c => c.unfollowed | none => entryCalls fn
noncomputable def unfL : List Bool := Try.prog.funcs.toList.map unfB
set_option maxRecDepth 100000 in
theorem any_unf (f : Nat) : ((Try.prog.funcs[f]?).any fun fn => match fn.body with | some c => c.unfollowed | none => entryCalls fn) = (unfL[f]?).getD false := by
  rw [unfL, List.getElem?_map, Array.getElem?_toList]
  cases Try.prog.funcs[f]? <;> rfl
set_option maxRecDepth 100000 in
theorem unfollowed_of {f : Nat} {L : List Nat} (h : clo edgesL fuelE [f] [] = L) : Try.prog.unfollowed f = L.any fun g => (unfL[g]?).getD false := by
  rw [Program.unfollowed, closure_clo, h]
  congr 1
  funext g
  exact any_unf g
set_option maxRecDepth 100000 in
theorem recurses_of {f : Nat} {L : List Nat} (h : clo edgesL fuelE [f] [] = L) : Try.prog.recurses f = ((L.any fun g => (unfL[g]?).getD false) || L.any fun g => ((edgesL[g]?).getD []).any fun h => (clo edgesL fuelE [h] []).contains g) := by
  rw [Program.recurses, unfollowed_of h, closure_clo, h]
  congr 1
  congr 1
  funext g
  rw [elim_edges]
  congr 1
  funext h
  rw [closure_clo]
/-- the heading's words, told as lists of signs -/
def signs : List Char := ([104, 97, 114, 110, 101, 115, 115, 32, 54, 53, 53, 98, 53, 99, 98, 56, 55, 53, 55, 57, 49, 50, 49, 53, 54, 51, 52, 57, 99, 48, 48, 98, 100, 48, 99, 55, 53, 50, 55, 98, 98, 98, 55, 100, 98, 48, 98, 98, 49, 101, 98, 98, 56, 52, 98, 101, 100, 53, 101, 51, 98, 57, 50, 101, 57, 53, 48, 50, 56, 50, 102, 57, 32, 99, 117, 116, 32, 97, 116, 32, 108, 111, 111, 112, 46, 101, 120, 97, 109, 112, 108, 101, 47, 100, 111, 99, 97, 108, 103, 101, 98, 114, 97, 47, 108, 97, 119, 115, 46, 70, 110, 69, 120, 97, 99, 116, 67, 111, 110, 115, 116, 97, 110, 116, 115, 32, 108, 111, 111, 112, 46, 101, 120, 97, 109, 112, 108, 101, 47, 100, 111, 99, 97, 108, 103, 101, 98, 114, 97, 47, 108, 97, 119, 115, 46, 70, 110, 69, 120, 97, 99, 116, 84, 101, 120, 116, 86, 97, 108, 105, 100, 32, 108, 111, 111, 112, 46, 101, 120, 97, 109, 112, 108, 101, 47, 100, 111, 99, 97, 108, 103, 101, 98, 114, 97, 47, 108, 97, 119, 115, 46, 70, 110, 69, 120, 97, 99, 116, 76, 97, 121, 111, 117, 116, 83, 97, 109, 101, 32, 108, 111, 111, 112, 46, 101, 120, 97, 109, 112, 108, 101, 47, 100, 111, 99, 97, 108, 103, 101, 98, 114, 97, 47, 108, 97, 119, 115, 46, 70, 110, 69, 120, 97, 99, 116, 68, 111, 99, 83, 105, 122, 101, 32, 108, 111, 111, 112, 46, 101, 120, 97, 109, 112, 108, 101, 47, 100, 111, 99, 97, 108, 103, 101, 98, 114, 97, 47, 108, 97, 119, 115, 46, 70, 110, 69, 120, 97, 99, 116, 67, 111, 117, 110, 116, 79, 112, 115, 32, 108, 111, 111, 112, 46, 101, 120, 97, 109, 112, 108, 101, 47, 100, 111, 99, 97, 108, 103, 101, 98, 114, 97, 47, 108, 97, 119, 115, 46, 70, 110, 69, 120, 97, 99, 116, 68, 111, 99, 83, 97, 109, 101, 32, 108, 111, 111, 112, 46, 101, 120, 97, 109, 112, 108, 101, 47, 100, 111, 99, 97, 108, 103, 101, 98, 114, 97, 47, 108, 97, 119, 115, 46, 70, 110, 69, 120, 97, 99, 116, 76, 97, 121, 111, 117, 116, 86, 97, 108, 105, 100, 32, 108, 111, 111, 112, 46, 101, 120, 97, 109, 112, 108, 101, 47, 100, 111, 99, 97, 108, 103, 101, 98, 114, 97, 47, 108, 97, 119, 115, 46, 70, 110, 69, 120, 97, 99, 116, 76, 97, 121, 111, 117, 116, 87, 105, 100, 116, 104, 32, 108, 111, 111, 112, 46, 101, 120, 97, 109, 112, 108, 101, 47, 100, 111, 99, 97, 108, 103, 101, 98, 114, 97, 47, 108, 97, 119, 115, 46, 70, 110, 69, 120, 97, 99, 116, 79, 118, 101, 114, 102, 108, 111, 119, 32, 108, 111, 111, 112, 46, 101, 120, 97, 109, 112, 108, 101, 47, 100, 111, 99, 97, 108, 103, 101, 98, 114, 97, 47, 108, 97, 119, 115, 46, 70, 110, 69, 120, 97, 99, 116, 67, 97, 116, 76, 97, 121, 111, 117, 116, 115, 32, 108, 111, 111, 112, 46, 101, 120, 97, 109, 112, 108, 101, 47, 100, 111, 99, 97, 108, 103, 101, 98, 114, 97, 47, 108, 97, 119, 115, 46, 70, 110, 69, 120, 97, 99, 116, 78, 101, 115, 116, 76, 97, 121, 111, 117, 116, 32, 108, 111, 111, 112, 46, 101, 120, 97, 109, 112, 108, 101, 47, 100, 111, 99, 97, 108, 103, 101, 98, 114, 97, 47, 108, 97, 119, 115, 46, 70, 110, 69, 120, 97, 99, 116, 76, 97, 121, 111, 117, 116, 84, 101, 120, 116] : List Nat).map Char.ofNat
def wordsL : List (List Char) := ([[104, 97, 114, 110, 101, 115, 115], [54, 53, 53, 98, 53, 99, 98, 56, 55, 53, 55, 57, 49, 50, 49, 53, 54, 51, 52, 57, 99, 48, 48, 98, 100, 48, 99, 55, 53, 50, 55, 98, 98, 98, 55, 100, 98, 48, 98, 98, 49, 101, 98, 98, 56, 52, 98, 101, 100, 53, 101, 51, 98, 57, 50, 101, 57, 53, 48, 50, 56, 50, 102, 57], [99, 117, 116], [97, 116], [108, 111, 111, 112, 46, 101, 120, 97, 109, 112, 108, 101, 47, 100, 111, 99, 97, 108, 103, 101, 98, 114, 97, 47, 108, 97, 119, 115, 46, 70, 110, 69, 120, 97, 99, 116, 67, 111, 110, 115, 116, 97, 110, 116, 115], [108, 111, 111, 112, 46, 101, 120, 97, 109, 112, 108, 101, 47, 100, 111, 99, 97, 108, 103, 101, 98, 114, 97, 47, 108, 97, 119, 115, 46, 70, 110, 69, 120, 97, 99, 116, 84, 101, 120, 116, 86, 97, 108, 105, 100], [108, 111, 111, 112, 46, 101, 120, 97, 109, 112, 108, 101, 47, 100, 111, 99, 97, 108, 103, 101, 98, 114, 97, 47, 108, 97, 119, 115, 46, 70, 110, 69, 120, 97, 99, 116, 76, 97, 121, 111, 117, 116, 83, 97, 109, 101], [108, 111, 111, 112, 46, 101, 120, 97, 109, 112, 108, 101, 47, 100, 111, 99, 97, 108, 103, 101, 98, 114, 97, 47, 108, 97, 119, 115, 46, 70, 110, 69, 120, 97, 99, 116, 68, 111, 99, 83, 105, 122, 101], [108, 111, 111, 112, 46, 101, 120, 97, 109, 112, 108, 101, 47, 100, 111, 99, 97, 108, 103, 101, 98, 114, 97, 47, 108, 97, 119, 115, 46, 70, 110, 69, 120, 97, 99, 116, 67, 111, 117, 110, 116, 79, 112, 115], [108, 111, 111, 112, 46, 101, 120, 97, 109, 112, 108, 101, 47, 100, 111, 99, 97, 108, 103, 101, 98, 114, 97, 47, 108, 97, 119, 115, 46, 70, 110, 69, 120, 97, 99, 116, 68, 111, 99, 83, 97, 109, 101], [108, 111, 111, 112, 46, 101, 120, 97, 109, 112, 108, 101, 47, 100, 111, 99, 97, 108, 103, 101, 98, 114, 97, 47, 108, 97, 119, 115, 46, 70, 110, 69, 120, 97, 99, 116, 76, 97, 121, 111, 117, 116, 86, 97, 108, 105, 100], [108, 111, 111, 112, 46, 101, 120, 97, 109, 112, 108, 101, 47, 100, 111, 99, 97, 108, 103, 101, 98, 114, 97, 47, 108, 97, 119, 115, 46, 70, 110, 69, 120, 97, 99, 116, 76, 97, 121, 111, 117, 116, 87, 105, 100, 116, 104], [108, 111, 111, 112, 46, 101, 120, 97, 109, 112, 108, 101, 47, 100, 111, 99, 97, 108, 103, 101, 98, 114, 97, 47, 108, 97, 119, 115, 46, 70, 110, 69, 120, 97, 99, 116, 79, 118, 101, 114, 102, 108, 111, 119], [108, 111, 111, 112, 46, 101, 120, 97, 109, 112, 108, 101, 47, 100, 111, 99, 97, 108, 103, 101, 98, 114, 97, 47, 108, 97, 119, 115, 46, 70, 110, 69, 120, 97, 99, 116, 67, 97, 116, 76, 97, 121, 111, 117, 116, 115], [108, 111, 111, 112, 46, 101, 120, 97, 109, 112, 108, 101, 47, 100, 111, 99, 97, 108, 103, 101, 98, 114, 97, 47, 108, 97, 119, 115, 46, 70, 110, 69, 120, 97, 99, 116, 78, 101, 115, 116, 76, 97, 121, 111, 117, 116], [108, 111, 111, 112, 46, 101, 120, 97, 109, 112, 108, 101, 47, 100, 111, 99, 97, 108, 103, 101, 98, 114, 97, 47, 108, 97, 119, 115, 46, 70, 110, 69, 120, 97, 99, 116, 76, 97, 121, 111, 117, 116, 84, 101, 120, 116]] : List (List Nat)).map (List.map Char.ofNat)
theorem headI : Try.prog.initOrder = String.ofList signs := by kernel_rfl
theorem headS : wordsSigns Try.prog.initOrder.toList = wordsL := by
  rw [headI, String.toList_ofList]
  kernel_rfl
theorem headLifts_of {P : Program} {ws} (h : wordsSigns P.initOrder.toList = ws) : P.headLifts = if ((stripLifts liftWords (behindMainWord ws)).2.head? == some "cut".toList) = true then (stripLifts liftWords (behindMainWord ws)).1 else [] := by
  subst h; rfl
theorem headL : Try.prog.headLifts = [] := (headLifts_of headS).trans (by kernel_rfl)
theorem liftsFinal_of {P : Program} {ws l} (h : wordsSigns P.initOrder.toList = ws) (hl : P.headLifts = l) : P.liftsFinal = (((behindMainWord ws).head? == some "carried".toList && (behindMainWord ws).take 3 != ["carried".toList, "gc".toList, "cut".toList]) || l.contains "finals") := by
  subst h; subst hl; rfl
theorem liftsF : Try.prog.liftsFinal = false := (liftsFinal_of headS headL).trans (by kernel_rfl)
theorem mayEnter_of {P : Program} (h : wordsSigns P.initOrder.toList = wordsL) (h1 : P.laysLater = false) (h2 : P.bearsReflect = false) : P.mayEnter = P.doorFits [] := by
  delta Program.mayEnter
  rw [h, h1, h2]
  kernel_rfl
theorem mayE : Try.prog.mayEnter = true := (mayEnter_of headS (by kernel_rfl) (by kernel_rfl)).trans (by kernel_rfl)
theorem make_of {P : Program} (h : wordsSigns P.initOrder.toList = wordsL) : P.make = some .cut := by
  delta Program.make
  rw [h]
  kernel_rfl
theorem makeC : Try.prog.make = some .cut := make_of headS
end Go.Proofs.Ytbijachmecgpgaa
