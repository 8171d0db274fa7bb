/- CLOSED FACTS over the translation, told once for all laws of the seat: the table of types, and who calls whom; no condition. -/
import Derived.Test.YtmccfpniolikhaaRows
import Derived.ClosedOfChecked
import Derived.KernelRfl
namespace Go.Proofs.Ytmccfpniolikhaa
theorem closed3 : laidOutB Try.prog = true ∧ mapsRowed Try.prog = true ∧ Try.prog.plainKeys = true := Go.ClosedOfChecked.closed_of_checked Try.checked (by kernel_rfl) (by kernel_rfl) (by kernel_rfl)
/-- who calls whom -/
def edgesL : List (List Nat) := [[], [], [1], [15, 17, 16, 17, 18, 17, 19], [15, 17, 20, 17, 21, 17, 19], [15, 15, 17, 17, 22, 17, 17, 23, 19, 17, 19, 17, 19, 24, 24, 19, 24, 25, 17, 17, 23, 19, 25], [15, 17, 26, 17, 27, 28, 17, 19, 24, 28, 29, 30, 17, 27, 28, 30], [31, 32, 19, 24, 25, 32, 19, 25], [15, 17, 33, 17, 34, 28, 17, 19, 24, 28, 29, 30, 17, 34, 28, 30], [15, 17, 35, 17, 36, 37, 17, 19, 24, 37, 38, 39, 17, 36, 37, 39], [15, 40, 17, 42, 41, 17, 42, 43, 17, 19, 42, 28], [15, 17, 44, 17, 45, 28, 17, 19, 24, 28, 29, 30, 17, 45, 28, 30], [15, 17, 46, 17, 47, 37, 17, 19, 24, 37, 38, 39, 17, 47, 37, 39], [15, 17, 48, 17, 49, 28, 17, 19, 24, 28, 29, 30, 17, 49, 28, 30], [40, 42, 50, 42, 51, 42, 28], [52], [53, 54], [55], [56, 57], [58], [53, 59], [56, 60], [61, 53, 62], [64, 63], [65], [66], [53, 67], [56, 68], [69], [70], [70], [71, 53], [72, 56], [20, 73], [21, 74], [20, 73], [21, 74], [28], [29], [30], [75], [35, 76], [77], [36, 79, 78], [81], [82, 83], [35, 76], [36, 84, 78], [81], [82, 85], [86, 87], [88, 89, 90], [15], [91, 92], [93, 54, 54, 54, 54], [17], [94], [57, 57, 57, 57], [19], [59, 59, 59, 59, 95], [60, 96], [], [62], [56, 97], [], [70, 65], [70, 66], [67, 98, 67, 67, 99, 67], [68, 100, 68, 68, 101, 68], [], [], [102, 103, 103, 103], [104, 105, 106, 107, 108, 72, 109], [73, 98, 59, 73, 73, 99, 95, 73, 110, 73, 67], [74, 100, 60, 74, 74, 101, 96, 111, 74, 68], [], [112], [], [113], [80], [114], [35, 115, 115], [36], [], [80], [88, 116], [117], [118], [119], [120], [121, 122, 122, 122, 123], [124, 125, 91], [92], [93], [126, 94], [95], [96], [97], [], [], [127], [127], [], [71], [128], [], [129], [], [130], [131], [110], [111], [], [], [], [86, 118, 118], [], [125], [132], [126], [133, 108, 108, 108, 108, 108, 121, 122, 134, 134, 134, 123, 122, 123], [135, 136], [135], [], [], [], [104], [], [137], [138], [], [130], [], [139, 140], [], [141], [142], [], [128, 143, 128, 144, 143, 145], [], [], [], [], [], [], [146], [], [], [], [], [], [], [], [], [], [], [], [], [], [], [], [], [], []]
theorem edges : Try.prog.funcs.toList.map Try.prog.leadsTo = edgesL := by kernel_rfl
/-- what a function comes to, over the table alone -/
def clo (E : List (List Nat)) : Nat → List Nat → List Nat → List Nat
  | 0, _, seen => seen.reverse
  | _, [], seen => seen.reverse
  | n + 1, f :: todo, seen => if seen.contains f then clo E n todo seen else clo E n ((E[f]?).getD [] ++ todo) (f :: seen)
set_option maxRecDepth 100000 in
theorem elim_edges (f : Nat) : (Try.prog.funcs[f]?).elim [] Try.prog.leadsTo = (edgesL[f]?).getD [] := by
  rw [← edges, List.getElem?_map, Array.getElem?_toList]
  cases Try.prog.funcs[f]? <;> rfl
theorem closureVia_clo : ∀ (n : Nat) (todo seen : List Nat), Try.prog.closureVia n todo seen = clo edgesL n todo seen
  | 0, _, _ => by simp [Program.closureVia, clo]
  | n + 1, [], _ => by simp [Program.closureVia, clo]
  | n + 1, f :: todo, seen => by
    rw [Program.closureVia, clo, elim_edges, closureVia_clo n, closureVia_clo n]
def fuelE : Nat := 1 + (edgesL.map fun l => l.length + 1).sum
set_option maxRecDepth 100000 in
theorem fuel_eq : 1 + (Try.prog.funcs.toList.map fun g => (Try.prog.leadsTo g).length + 1).sum = fuelE := by
  rw [fuelE, ← edges, List.map_map]
  rfl
theorem closure_clo (f : Nat) : Try.prog.closure f = clo edgesL fuelE [f] [] := by
  rw [Program.closure, fuel_eq, closureVia_clo]
/-- functions that hold a call of a value that isn't known, or an entry that calls -/
noncomputable def unfB (fn : Func) : Bool := match fn.body with | some c => c.unfollowed | none => entryCalls fn
noncomputable def unfL : List Bool := Try.prog.funcs.toList.map unfB
set_option maxRecDepth 100000 in
theorem any_unf (f : Nat) : ((Try.prog.funcs[f]?).any fun fn => match fn.body with | some c => c.unfollowed | none => entryCalls fn) = (unfL[f]?).getD false := by
  rw [unfL, List.getElem?_map, Array.getElem?_toList]
  cases Try.prog.funcs[f]? <;> rfl
set_option maxRecDepth 100000 in
theorem unfollowed_of {f : Nat} {L : List Nat} (h : clo edgesL fuelE [f] [] = L) : Try.prog.unfollowed f = L.any fun g => (unfL[g]?).getD false := by
  rw [Program.unfollowed, closure_clo, h]
  congr 1
  funext g
  exact any_unf g
set_option maxRecDepth 100000 in
theorem recurses_of {f : Nat} {L : List Nat} (h : clo edgesL fuelE [f] [] = L) : Try.prog.recurses f = ((L.any fun g => (unfL[g]?).getD false) || L.any fun g => ((edgesL[g]?).getD []).any fun h => (clo edgesL fuelE [h] []).contains g) := by
  rw [Program.recurses, unfollowed_of h, closure_clo, h]
  congr 1
  congr 1
  funext g
  rw [elim_edges]
  congr 1
  funext h
  rw [closure_clo]
/-- the heading's words, told as lists of signs -/
def signs : List Char := ([104, 97, 114, 110, 101, 115, 115, 32, 98, 57, 98, 53, 56, 57, 53, 100, 97, 56, 52, 53, 49, 54, 98, 102, 53, 102, 51, 55, 54, 97, 99, 48, 53, 53, 100, 100, 52, 56, 56, 50, 99, 49, 55, 49, 55, 102, 55, 102, 52, 102, 56, 54, 98, 49, 52, 57, 53, 101, 56, 52, 102, 102, 52, 101, 51, 55, 50, 57, 51, 97, 98, 101, 32, 99, 117, 116, 32, 97, 116, 32, 108, 111, 111, 112, 46, 101, 120, 97, 109, 112, 108, 101, 47, 100, 111, 99, 97, 108, 103, 101, 98, 114, 97, 47, 108, 97, 119, 115, 46, 70, 110, 69, 120, 97, 99, 116, 70, 111, 114, 109, 97, 116, 68, 111, 99, 32, 108, 111, 111, 112, 46, 101, 120, 97, 109, 112, 108, 101, 47, 100, 111, 99, 97, 108, 103, 101, 98, 114, 97, 47, 108, 97, 119, 115, 46, 70, 110, 69, 120, 97, 99, 116, 67, 111, 117, 110, 116, 67, 104, 111, 105, 99, 101, 115, 32, 108, 111, 111, 112, 46, 101, 120, 97, 109, 112, 108, 101, 47, 100, 111, 99, 97, 108, 103, 101, 98, 114, 97, 47, 108, 97, 119, 115, 46, 70, 110, 69, 120, 97, 99, 116, 67, 97, 116, 68, 111, 99, 115, 32, 108, 111, 111, 112, 46, 101, 120, 97, 109, 112, 108, 101, 47, 100, 111, 99, 97, 108, 103, 101, 98, 114, 97, 47, 108, 97, 119, 115, 46, 70, 110, 69, 120, 97, 99, 116, 79, 112, 101, 110, 76, 97, 121, 111, 117, 116, 32, 108, 111, 111, 112, 46, 101, 120, 97, 109, 112, 108, 101, 47, 100, 111, 99, 97, 108, 103, 101, 98, 114, 97, 47, 108, 97, 119, 115, 46, 70, 110, 69, 120, 97, 99, 116, 80, 97, 114, 115, 101, 68, 111, 99, 32, 108, 111, 111, 112, 46, 101, 120, 97, 109, 112, 108, 101, 47, 100, 111, 99, 97, 108, 103, 101, 98, 114, 97, 47, 108, 97, 119, 115, 46, 70, 110, 69, 120, 97, 99, 116, 67, 104, 111, 105, 99, 101, 79, 102, 32, 108, 111, 111, 112, 46, 101, 120, 97, 109, 112, 108, 101, 47, 100, 111, 99, 97, 108, 103, 101, 98, 114, 97, 47, 108, 97, 119, 115, 46, 70, 110, 69, 120, 97, 99, 116, 76, 97, 121, 111, 117, 116, 115, 79, 102, 32, 108, 111, 111, 112, 46, 101, 120, 97, 109, 112, 108, 101, 47, 100, 111, 99, 97, 108, 103, 101, 98, 114, 97, 47, 108, 97, 119, 115, 46, 70, 110, 69, 120, 97, 99, 116, 72, 97, 115, 76, 97, 121, 111, 117, 116, 32, 108, 111, 111, 112, 46, 101, 120, 97, 109, 112, 108, 101, 47, 100, 111, 99, 97, 108, 103, 101, 98, 114, 97, 47, 108, 97, 119, 115, 46, 70, 110, 69, 120, 97, 99, 116, 83, 104, 111, 114, 116, 101, 115, 116, 32, 108, 111, 111, 112, 46, 101, 120, 97, 109, 112, 108, 101, 47, 100, 111, 99, 97, 108, 103, 101, 98, 114, 97, 47, 108, 97, 119, 115, 46, 70, 110, 69, 120, 97, 99, 116, 68, 105, 115, 116, 105, 110, 99, 116, 76, 97, 121, 111, 117, 116, 115, 32, 108, 111, 111, 112, 46, 101, 120, 97, 109, 112, 108, 101, 47, 100, 111, 99, 97, 108, 103, 101, 98, 114, 97, 47, 108, 97, 119, 115, 46, 70, 110, 69, 120, 97, 99, 116, 78, 97, 114, 114, 111, 119, 101, 115, 116, 32, 108, 111, 111, 112, 46, 101, 120, 97, 109, 112, 108, 101, 47, 100, 111, 99, 97, 108, 103, 101, 98, 114, 97, 47, 108, 97, 119, 115, 46, 70, 110, 69, 120, 97, 99, 116, 76, 97, 121, 111, 117, 116, 84, 101, 120, 116] : List Nat).map Char.ofNat
def wordsL : List (List Char) := ([[104, 97, 114, 110, 101, 115, 115], [98, 57, 98, 53, 56, 57, 53, 100, 97, 56, 52, 53, 49, 54, 98, 102, 53, 102, 51, 55, 54, 97, 99, 48, 53, 53, 100, 100, 52, 56, 56, 50, 99, 49, 55, 49, 55, 102, 55, 102, 52, 102, 56, 54, 98, 49, 52, 57, 53, 101, 56, 52, 102, 102, 52, 101, 51, 55, 50, 57, 51, 97, 98, 101], [99, 117, 116], [97, 116], [108, 111, 111, 112, 46, 101, 120, 97, 109, 112, 108, 101, 47, 100, 111, 99, 97, 108, 103, 101, 98, 114, 97, 47, 108, 97, 119, 115, 46, 70, 110, 69, 120, 97, 99, 116, 70, 111, 114, 109, 97, 116, 68, 111, 99], [108, 111, 111, 112, 46, 101, 120, 97, 109, 112, 108, 101, 47, 100, 111, 99, 97, 108, 103, 101, 98, 114, 97, 47, 108, 97, 119, 115, 46, 70, 110, 69, 120, 97, 99, 116, 67, 111, 117, 110, 116, 67, 104, 111, 105, 99, 101, 115], [108, 111, 111, 112, 46, 101, 120, 97, 109, 112, 108, 101, 47, 100, 111, 99, 97, 108, 103, 101, 98, 114, 97, 47, 108, 97, 119, 115, 46, 70, 110, 69, 120, 97, 99, 116, 67, 97, 116, 68, 111, 99, 115], [108, 111, 111, 112, 46, 101, 120, 97, 109, 112, 108, 101, 47, 100, 111, 99, 97, 108, 103, 101, 98, 114, 97, 47, 108, 97, 119, 115, 46, 70, 110, 69, 120, 97, 99, 116, 79, 112, 101, 110, 76, 97, 121, 111, 117, 116], [108, 111, 111, 112, 46, 101, 120, 97, 109, 112, 108, 101, 47, 100, 111, 99, 97, 108, 103, 101, 98, 114, 97, 47, 108, 97, 119, 115, 46, 70, 110, 69, 120, 97, 99, 116, 80, 97, 114, 115, 101, 68, 111, 99], [108, 111, 111, 112, 46, 101, 120, 97, 109, 112, 108, 101, 47, 100, 111, 99, 97, 108, 103, 101, 98, 114, 97, 47, 108, 97, 119, 115, 46, 70, 110, 69, 120, 97, 99, 116, 67, 104, 111, 105, 99, 101, 79, 102], [108, 111, 111, 112, 46, 101, 120, 97, 109, 112, 108, 101, 47, 100, 111, 99, 97, 108, 103, 101, 98, 114, 97, 47, 108, 97, 119, 115, 46, 70, 110, 69, 120, 97, 99, 116, 76, 97, 121, 111, 117, 116, 115, 79, 102], [108, 111, 111, 112, 46, 101, 120, 97, 109, 112, 108, 101, 47, 100, 111, 99, 97, 108, 103, 101, 98, 114, 97, 47, 108, 97, 119, 115, 46, 70, 110, 69, 120, 97, 99, 116, 72, 97, 115, 76, 97, 121, 111, 117, 116], [108, 111, 111, 112, 46, 101, 120, 97, 109, 112, 108, 101, 47, 100, 111, 99, 97, 108, 103, 101, 98, 114, 97, 47, 108, 97, 119, 115, 46, 70, 110, 69, 120, 97, 99, 116, 83, 104, 111, 114, 116, 101, 115, 116], [108, 111, 111, 112, 46, 101, 120, 97, 109, 112, 108, 101, 47, 100, 111, 99, 97, 108, 103, 101, 98, 114, 97, 47, 108, 97, 119, 115, 46, 70, 110, 69, 120, 97, 99, 116, 68, 105, 115, 116, 105, 110, 99, 116, 76, 97, 121, 111, 117, 116, 115], [108, 111, 111, 112, 46, 101, 120, 97, 109, 112, 108, 101, 47, 100, 111, 99, 97, 108, 103, 101, 98, 114, 97, 47, 108, 97, 119, 115, 46, 70, 110, 69, 120, 97, 99, 116, 78, 97, 114, 114, 111, 119, 101, 115, 116], [108, 111, 111, 112, 46, 101, 120, 97, 109, 112, 108, 101, 47, 100, 111, 99, 97, 108, 103, 101, 98, 114, 97, 47, 108, 97, 119, 115, 46, 70, 110, 69, 120, 97, 99, 116, 76, 97, 121, 111, 117, 116, 84, 101, 120, 116]] : List (List Nat)).map (List.map Char.ofNat)
theorem headI : Try.prog.initOrder = String.ofList signs := by kernel_rfl
theorem headS : wordsSigns Try.prog.initOrder.toList = wordsL := by
  rw [headI, String.toList_ofList]
  kernel_rfl
theorem headLifts_of {P : Program} {ws} (h : wordsSigns P.initOrder.toList = ws) : P.headLifts = if ((stripLifts liftWords (behindMainWord ws)).2.head? == some "cut".toList) = true then (stripLifts liftWords (behindMainWord ws)).1 else [] := by
  subst h; rfl
theorem headL : Try.prog.headLifts = [] := (headLifts_of headS).trans (by kernel_rfl)
theorem liftsFinal_of {P : Program} {ws l} (h : wordsSigns P.initOrder.toList = ws) (hl : P.headLifts = l) : P.liftsFinal = (((behindMainWord ws).head? == some "carried".toList && (behindMainWord ws).take 3 != ["carried".toList, "gc".toList, "cut".toList]) || l.contains "finals") := by
  subst h; subst hl; rfl
theorem liftsF : Try.prog.liftsFinal = false := (liftsFinal_of headS headL).trans (by kernel_rfl)
theorem mayEnter_of {P : Program} (h : wordsSigns P.initOrder.toList = wordsL) (h1 : P.laysLater = false) (h2 : P.bearsReflect = false) : P.mayEnter = P.doorFits [] := by
  delta Program.mayEnter
  rw [h, h1, h2]
  kernel_rfl
theorem mayE : Try.prog.mayEnter = true := (mayEnter_of headS (by kernel_rfl) (by kernel_rfl)).trans (by kernel_rfl)
theorem make_of {P : Program} (h : wordsSigns P.initOrder.toList = wordsL) : P.make = some .cut := by
  delta Program.make
  rw [h]
  kernel_rfl
theorem makeC : Try.prog.make = some .cut := make_of headS
end Go.Proofs.Ytmccfpniolikhaa
