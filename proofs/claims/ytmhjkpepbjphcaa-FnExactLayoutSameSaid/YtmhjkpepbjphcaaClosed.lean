/- CLOSED FACTS over the translation, told once for all laws of the seat: the table of types, and who calls whom; no condition. -/
import Derived.Test.YtmhjkpepbjphcaaRows
import Derived.ClosedOfChecked
import Derived.KernelRfl
namespace Go.Proofs.Ytmhjkpepbjphcaa
theorem closed3 : laidOutB Try.prog = true ∧ mapsRowed Try.prog = true ∧ Try.prog.plainKeys = true := Go.ClosedOfChecked.closed_of_checked Try.checked (by kernel_rfl) (by kernel_rfl) (by kernel_rfl)
/-- who calls whom -/
def edgesL : List (List Nat) := [[], [], [1], [], [10, 11], [12, 12, 14, 14, 13, 14, 14, 15, 14, 16, 14, 16], [17, 19, 18, 19, 20, 19, 21], [17, 19, 22, 19, 23, 19, 21], [17, 17, 19, 19, 24, 19, 19, 25, 19, 21, 19, 21], [12, 14, 26, 14, 27, 14, 16], [], [28], [29], [], [30], [31], [32], [33], [34], [35], [20], [36], [22], [23], [24], [25], [37], [38], [39], [], [], [], [], [17], [34], [19], [21], [10], [11], [40], [], [], [], [], [], [], [], [], [], [], [], [], [], [], [], [], []]
theorem edges : Try.prog.funcs.toList.map Try.prog.leadsTo = edgesL := by kernel_rfl
/-- what a function comes to, over the table alone -/
def clo (E : List (List Nat)) : Nat → List Nat → List Nat → List Nat
  | 0, _, seen => seen.reverse
  | _, [], seen => seen.reverse
  | n + 1, f :: todo, seen => if seen.contains f then clo E n todo seen else clo E n ((E[f]?).getD [] ++ todo) (f :: seen)
set_option maxRecDepth 100000 in
theorem elim_edges (f : Nat) : (Try.prog.funcs[f]?).elim [] Try.prog.leadsTo = (edgesL[f]?).getD [] := by
  rw [← edges, List.getElem?_map, Array.getElem?_toList]
  cases Try.prog.funcs[f]? <;> rfl
theorem closureVia_clo : ∀ (n : Nat) (todo seen : List Nat), Try.prog.closureVia n todo seen = clo edgesL n todo seen
  | 0, _, _ => by simp [Program.closureVia, clo]
  | n + 1, [], _ => by simp [Program.closureVia, clo]
  | n + 1, f :: todo, seen => by
    rw [Program.closureVia, clo, elim_edges, closureVia_clo n, closureVia_clo n]
def fuelE : Nat := 1 + (edgesL.map fun l => l.length + 1).sum
set_option maxRecDepth 100000 in
theorem fuel_eq : 1 + (Try.prog.funcs.toList.map fun g => (Try.prog.leadsTo g).length + 1).sum = fuelE := by
  rw [fuelE, ← edges, List.map_map]
  rfl
theorem closure_clo (f : Nat) : Try.prog.closure f = clo edgesL fuelE [f] [] := by
  rw [Program.closure, fuel_eq, closureVia_clo]
/-- functions that hold a call of a value that isn't known, or an entry that calls -/
noncomputable def unfB (fn : Func) : Bool := match fn.body with | some c => c.unfollowed | none => entryCalls fn
noncomputable def unfL : List Bool := Try.prog.funcs.toList.map unfB
set_option maxRecDepth 100000 in
theorem any_unf (f : Nat) : ((Try.prog.funcs[f]?).any fun fn => match fn.body with | some c => c.unfollowed | none => entryCalls fn) = (unfL[f]?).getD false := by
  rw [unfL, List.getElem?_map, Array.getElem?_toList]
  cases Try.prog.funcs[f]? <;> rfl
set_option maxRecDepth 100000 in
theorem unfollowed_of {f : Nat} {L : List Nat} (h : clo edgesL fuelE [f] [] = L) : Try.prog.unfollowed f = L.any fun g => (unfL[g]?).getD false := by
  rw [Program.unfollowed, closure_clo, h]
  congr 1
  funext g
  exact any_unf g
set_option maxRecDepth 100000 in
theorem recurses_of {f : Nat} {L : List Nat} (h : clo edgesL fuelE [f] [] = L) : Try.prog.recurses f = ((L.any fun g => (unfL[g]?).getD false) || L.any fun g => ((edgesL[g]?).getD []).any fun h => (clo edgesL fuelE [h] []).contains g) := by
  rw [Program.recurses, unfollowed_of h, closure_clo, h]
  congr 1
  congr 1
  funext g
  rw [elim_edges]
  congr 1
  funext h
  rw [closure_clo]
/-- the heading's words, told as lists of signs -/
def signs : List Char := ([104, 97, 114, 110, 101, 115, 115, 32, 51, 51, 101, 55, 98, 97, 53, 97, 98, 101, 100, 57, 97, 51, 51, 102, 99, 53, 99, 55, 56, 53, 50, 53, 99, 101, 54, 48, 52, 56, 50, 102, 50, 51, 55, 49, 51, 54, 102, 99, 57, 56, 48, 52, 50, 98, 53, 53, 55, 98, 50, 49, 97, 101, 101, 101, 51, 98, 98, 98, 55, 100, 56, 50, 32, 99, 117, 116, 32, 97, 116, 32, 108, 111, 111, 112, 46, 101, 120, 97, 109, 112, 108, 101, 47, 100, 111, 99, 97, 108, 103, 101, 98, 114, 97, 47, 108, 97, 119, 115, 46, 70, 110, 69, 120, 97, 99, 116, 67, 111, 110, 115, 116, 97, 110, 116, 115, 32, 108, 111, 111, 112, 46, 101, 120, 97, 109, 112, 108, 101, 47, 100, 111, 99, 97, 108, 103, 101, 98, 114, 97, 47, 108, 97, 119, 115, 46, 70, 110, 69, 120, 97, 99, 116, 84, 101, 120, 116, 86, 97, 108, 105, 100, 32, 108, 111, 111, 112, 46, 101, 120, 97, 109, 112, 108, 101, 47, 100, 111, 99, 97, 108, 103, 101, 98, 114, 97, 47, 108, 97, 119, 115, 46, 70, 110, 69, 120, 97, 99, 116, 76, 97, 121, 111, 117, 116, 83, 97, 109, 101, 32, 108, 111, 111, 112, 46, 101, 120, 97, 109, 112, 108, 101, 47, 100, 111, 99, 97, 108, 103, 101, 98, 114, 97, 47, 108, 97, 119, 115, 46, 70, 110, 69, 120, 97, 99, 116, 68, 111, 99, 83, 105, 122, 101, 32, 108, 111, 111, 112, 46, 101, 120, 97, 109, 112, 108, 101, 47, 100, 111, 99, 97, 108, 103, 101, 98, 114, 97, 47, 108, 97, 119, 115, 46, 70, 110, 69, 120, 97, 99, 116, 67, 111, 117, 110, 116, 79, 112, 115, 32, 108, 111, 111, 112, 46, 101, 120, 97, 109, 112, 108, 101, 47, 100, 111, 99, 97, 108, 103, 101, 98, 114, 97, 47, 108, 97, 119, 115, 46, 70, 110, 69, 120, 97, 99, 116, 68, 111, 99, 83, 97, 109, 101, 32, 108, 111, 111, 112, 46, 101, 120, 97, 109, 112, 108, 101, 47, 100, 111, 99, 97, 108, 103, 101, 98, 114, 97, 47, 108, 97, 119, 115, 46, 70, 110, 69, 120, 97, 99, 116, 76, 97, 121, 111, 117, 116, 86, 97, 108, 105, 100] : List Nat).map Char.ofNat
def wordsL : List (List Char) := ([[104, 97, 114, 110, 101, 115, 115], [51, 51, 101, 55, 98, 97, 53, 97, 98, 101, 100, 57, 97, 51, 51, 102, 99, 53, 99, 55, 56, 53, 50, 53, 99, 101, 54, 48, 52, 56, 50, 102, 50, 51, 55, 49, 51, 54, 102, 99, 57, 56, 48, 52, 50, 98, 53, 53, 55, 98, 50, 49, 97, 101, 101, 101, 51, 98, 98, 98, 55, 100, 56, 50], [99, 117, 116], [97, 116], [108, 111, 111, 112, 46, 101, 120, 97, 109, 112, 108, 101, 47, 100, 111, 99, 97, 108, 103, 101, 98, 114, 97, 47, 108, 97, 119, 115, 46, 70, 110, 69, 120, 97, 99, 116, 67, 111, 110, 115, 116, 97, 110, 116, 115], [108, 111, 111, 112, 46, 101, 120, 97, 109, 112, 108, 101, 47, 100, 111, 99, 97, 108, 103, 101, 98, 114, 97, 47, 108, 97, 119, 115, 46, 70, 110, 69, 120, 97, 99, 116, 84, 101, 120, 116, 86, 97, 108, 105, 100], [108, 111, 111, 112, 46, 101, 120, 97, 109, 112, 108, 101, 47, 100, 111, 99, 97, 108, 103, 101, 98, 114, 97, 47, 108, 97, 119, 115, 46, 70, 110, 69, 120, 97, 99, 116, 76, 97, 121, 111, 117, 116, 83, 97, 109, 101], [108, 111, 111, 112, 46, 101, 120, 97, 109, 112, 108, 101, 47, 100, 111, 99, 97, 108, 103, 101, 98, 114, 97, 47, 108, 97, 119, 115, 46, 70, 110, 69, 120, 97, 99, 116, 68, 111, 99, 83, 105, 122, 101], [108, 111, 111, 112, 46, 101, 120, 97, 109, 112, 108, 101, 47, 100, 111, 99, 97, 108, 103, 101, 98, 114, 97, 47, 108, 97, 119, 115, 46, 70, 110, 69, 120, 97, 99, 116, 67, 111, 117, 110, 116, 79, 112, 115], [108, 111, 111, 112, 46, 101, 120, 97, 109, 112, 108, 101, 47, 100, 111, 99, 97, 108, 103, 101, 98, 114, 97, 47, 108, 97, 119, 115, 46, 70, 110, 69, 120, 97, 99, 116, 68, 111, 99, 83, 97, 109, 101], [108, 111, 111, 112, 46, 101, 120, 97, 109, 112, 108, 101, 47, 100, 111, 99, 97, 108, 103, 101, 98, 114, 97, 47, 108, 97, 119, 115, 46, 70, 110, 69, 120, 97, 99, 116, 76, 97, 121, 111, 117, 116, 86, 97, 108, 105, 100]] : List (List Nat)).map (List.map Char.ofNat)
theorem headI : Try.prog.initOrder = String.ofList signs := by kernel_rfl
theorem headS : wordsSigns Try.prog.initOrder.toList = wordsL := by
  rw [headI, String.toList_ofList]
  kernel_rfl
theorem headLifts_of {P : Program} {ws} (h : wordsSigns P.initOrder.toList = ws) : P.headLifts = if ((stripLifts liftWords (behindMainWord ws)).2.head? == some "cut".toList) = true then (stripLifts liftWords (behindMainWord ws)).1 else [] := by
  subst h; rfl
theorem headL : Try.prog.headLifts = [] := (headLifts_of headS).trans (by kernel_rfl)
theorem liftsFinal_of {P : Program} {ws l} (h : wordsSigns P.initOrder.toList = ws) (hl : P.headLifts = l) : P.liftsFinal = (((behindMainWord ws).head? == some "carried".toList && (behindMainWord ws).take 3 != ["carried".toList, "gc".toList, "cut".toList]) || l.contains "finals") := by
  subst h; subst hl; rfl
theorem liftsF : Try.prog.liftsFinal = false := (liftsFinal_of headS headL).trans (by kernel_rfl)
theorem mayEnter_of {P : Program} (h : wordsSigns P.initOrder.toList = wordsL) (h1 : P.laysLater = false) (h2 : P.bearsReflect = false) : P.mayEnter = P.doorFits [] := by
  delta Program.mayEnter
  rw [h, h1, h2]
  kernel_rfl
theorem mayE : Try.prog.mayEnter = true := (mayEnter_of headS (by kernel_rfl) (by kernel_rfl)).trans (by kernel_rfl)
theorem make_of {P : Program} (h : wordsSigns P.initOrder.toList = wordsL) : P.make = some .cut := by
  delta Program.make
  rw [h]
  kernel_rfl
theorem makeC : Try.prog.make = some .cut := make_of headS
end Go.Proofs.Ytmhjkpepbjphcaa
