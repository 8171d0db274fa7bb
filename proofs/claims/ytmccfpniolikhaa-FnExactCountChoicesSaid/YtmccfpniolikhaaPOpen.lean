/- OPENINGS: arguments that are structs, slices of structs and trees, out of their readings as data. -/
import Derived.Test.YtmccfpniolikhaaPx0
import Derived.Deep.Slices
import Derived.ChangeSame
import Derived.KernelRfl
namespace Go.Proofs.Ytmccfpniolikhaa.P
open Go.ChangeShapes Go.WideShapes Go.Deep Go.Proofs.YtmccfpniolikhaaW.PrintWords
set_option linter.unusedVariables false
theorem listOf {α : Type} (n : Nat) (P : Nat → α → Prop) (h : ∀ i, i < n → ∃ x, P i x) : ∃ l : List α, l.length = n ∧ ∀ (i : Nat) (x : α), l[i]? = some x → P i x := by
  induction n with
  | zero => exact ⟨[], rfl, fun i x hx => by simp at hx⟩
  | succ n ih =>
    obtain ⟨l, hl, hP⟩ := ih (fun i hi => h i (by omega))
    obtain ⟨y, hy⟩ := h n (by omega)
    refine ⟨l ++ [y], by simp [hl], fun i x hx => ?_⟩
    rcases Nat.lt_or_ge i l.length with hi | hi
    · rw [List.getElem?_append_left hi] at hx; exact hP i x hx
    · have hlt := (List.getElem?_eq_some_iff.1 hx).1
      rw [List.length_append, List.length_singleton] at hlt
      have : i = l.length := by omega
      subst this
      have hx' : y = x := by simpa using hx
      subst hx'
      rw [hl]; exact hy

set_option maxRecDepth 100000 in
theorem open24 {H : Type} {enc : TypeId × Value → H} {w : World} {base : Nat} {spare : Nat → Bool} {held : Bool} : ∀ (fuel : Nat) (cs : List Value) (x : DataW H × List MemPlace), DataW.trod enc Try.prog w base spare held fuel 24 cs = some x → ∃ d : SLDoc, k24.K w d cs ∧ FineNLDoc fuel d := by
  intro fuel
  induction fuel using Nat.strongRecOn with
  | _ fuel ih =>
  intro cs x h
  obtain ⟨xs, n, rfl, _, hlen, hxl, hf⟩ := DataW.trod_struct Try.underlying24 h
  rw [show Try.prog.cellsOf 24 = 4 from by kernel_rfl] at hlen
  match cs, hlen with
  | [c0, c1, c2, c3], _ =>
  have hxn : xs.length = 4 := hxl
  have e0 : DataW.trod enc Try.prog w base spare held n 3 (List.take (Try.prog.cellsOf 3) (List.drop 0 [c0, c1, c2, c3])) = xs[0]? := hf 0 _ rfl
  rw [show Try.prog.cellsOf 3 = 1 from by kernel_rfl] at e0
  replace e0 : DataW.trod enc Try.prog w base spare held n 3 [c0] = some (xs[0]'(by omega)) := e0.trans (List.getElem?_eq_getElem (by omega))
  have e1 : DataW.trod enc Try.prog w base spare held n 3 (List.take (Try.prog.cellsOf 3) (List.drop 1 [c0, c1, c2, c3])) = xs[1]? := hf 1 _ rfl
  rw [show Try.prog.cellsOf 3 = 1 from by kernel_rfl] at e1
  replace e1 : DataW.trod enc Try.prog w base spare held n 3 [c1] = some (xs[1]'(by omega)) := e1.trans (List.getElem?_eq_getElem (by omega))
  have e2 : DataW.trod enc Try.prog w base spare held n 9 (List.take (Try.prog.cellsOf 9) (List.drop 2 [c0, c1, c2, c3])) = xs[2]? := hf 2 _ rfl
  rw [show Try.prog.cellsOf 9 = 1 from by kernel_rfl] at e2
  replace e2 : DataW.trod enc Try.prog w base spare held n 9 [c2] = some (xs[2]'(by omega)) := e2.trans (List.getElem?_eq_getElem (by omega))
  have e3 : DataW.trod enc Try.prog w base spare held n 22 (List.take (Try.prog.cellsOf 22) (List.drop 3 [c0, c1, c2, c3])) = xs[3]? := hf 3 _ rfl
  rw [show Try.prog.cellsOf 22 = 1 from by kernel_rfl] at e3
  replace e3 : DataW.trod enc Try.prog w base spare held n 22 [c3] = some (xs[3]'(by omega)) := e3.trans (List.getElem?_eq_getElem (by omega))
  obtain ⟨i0, hc0, _, w0⟩ := DataW.trod_int Try.underlying3 e0
  obtain rfl : c0 = .int .i64 i0 := by simpa using hc0
  obtain ⟨i1, hc1, _, w1⟩ := DataW.trod_int Try.underlying3 e1
  obtain rfl : c1 = .int .i64 i1 := by simpa using hc1
  obtain ⟨i2, hc2, _, w2⟩ := DataW.trod_string Try.underlying9 e2
  obtain rfl : c2 = .string i2 := by simpa using hc2
  rcases DataW.trod_slice Try.underlying22 e3 with ⟨hc, _⟩ | ⟨a, len, cap, elems, rest, m, rfl, hc, _, _, hl, hm, hel, hget, _⟩
  · obtain rfl : c3 = .slice none 0 0 := by simpa using hc
    exact ⟨⟨i0, i1, i2, []⟩, k24_mk w ⟨i0, i1, i2, []⟩ (A3 := none) (c3 := 0) (Nat.le_refl 0) (Kd.C_nil _ w), ⟨w0, w1, w2, Nat.zero_le _, fun y hy => absurd hy (by simp)⟩⟩
  · obtain rfl : c3 = .slice (some a) len cap := by simpa using hc
    obtain ⟨ds, hdl, hds⟩ := listOf len (fun i d => ∃ cs', w.cells? base (a.add (i * 4)) 4 = some cs' ∧ k24.K w d cs' ∧ FineNLDoc m d) (fun i hi => by
      have hg := hget i hi
      rw [show Try.prog.cellsOf 24 = 4 from by kernel_rfl, List.getElem?_eq_getElem (by omega)] at hg
      obtain ⟨cs', h1, h2⟩ := Option.bind_eq_some_iff.1 hg
      obtain ⟨d, h3, h4⟩ := ih m (by omega) cs' _ h2
      exact ⟨d, cs', h1, h3, h4⟩)
    subst hdl
    have hC : Kd.C k24 w (some a) ds.length ds := ⟨rfl, Nat.le_trans hl hm, fun _ => ⟨a, rfl, fun i p hp => by
      obtain ⟨cs', h1, h2, _⟩ := hds i p hp
      obtain ⟨_, hcl, hat⟩ := World.cells?_some h1
      refine ⟨cs', hcl, h2, fun q u hu => ?_⟩
      have hq : q < 4 := by have := (List.getElem?_eq_some_iff.1 hu).1; omega
      have := hat q hq
      rw [Go.Deep.add_add] at this
      show w.cell? (a.add (i * 4 + q)) = some u
      rw [this, hu]⟩⟩
    refine ⟨⟨i0, i1, i2, ds⟩, k24_mk w ⟨i0, i1, i2, ds⟩ (A3 := some a) hl hC, ⟨w0, w1, w2, Nat.le_trans hl hm, fun y hy => ?_⟩⟩
    obtain ⟨i, hi⟩ := List.getElem?_of_mem hy
    obtain ⟨_, _, _, h4⟩ := hds i y hi
    exact FineNLDoc_mono (Nat.le_succ _) h4
set_option maxRecDepth 100000 in
theorem openS24 {H : Type} {enc : TypeId × Value → H} {w : World} {base : Nat} {spare : Nat → Bool} {held : Bool} {t : TypeId} {a : Option Addr} {len cap : Nat} {d : DataW H} {ps : List MemPlace} (ht : Try.prog.underlying t = some (.slice 24)) (h : DataW.Trod enc Try.prog w base spare held t (.slice a len cap) d ps) : ∃ xs : List SLDoc, xs.length = len ∧ len ≤ cap ∧ Kd.C k24 w a len xs ∧ ∀ x ∈ xs, FineLDoc x := by
  obtain ⟨fuel, hf⟩ := h
  rcases DataW.trod_slice ht hf with ⟨hc, _⟩ | ⟨ad, len', cap', elems, rest, m, rfl, hc, _, _, hl, hm, hel, hget, _⟩
  · simp [Value.cells] at hc
    obtain ⟨rfl, rfl, rfl⟩ := hc
    exact ⟨[], rfl, Nat.le_refl _, Kd.C_nil _ w, fun x hx => absurd hx (by simp)⟩
  · simp [Value.cells] at hc
    obtain ⟨rfl, rfl, rfl⟩ := hc
    obtain ⟨ds, hdl, hds⟩ := listOf len (fun i d => ∃ cs', w.cells? base (ad.add (i * 4)) 4 = some cs' ∧ k24.K w d cs' ∧ FineLDoc d) (fun i hi => by
      have hg := hget i hi
      rw [show Try.prog.cellsOf 24 = 4 from by kernel_rfl, List.getElem?_eq_getElem (by omega)] at hg
      obtain ⟨cs', h1, h2⟩ := Option.bind_eq_some_iff.1 hg
      obtain ⟨d, h3, h4⟩ := open24 m cs' _ h2
      exact ⟨d, cs', h1, h3, ⟨m, h4⟩⟩)
    subst hdl
    refine ⟨ds, rfl, hl, ⟨rfl, Nat.le_trans hl hm, fun _ => ⟨ad, rfl, fun i p hp => ?_⟩⟩, fun x hx => ?_⟩
    · obtain ⟨cs', h1, h2, _⟩ := hds i p hp
      obtain ⟨_, hcl, hat⟩ := World.cells?_some h1
      refine ⟨cs', hcl, h2, fun q u hu => ?_⟩
      have hq : q < 4 := by have := (List.getElem?_eq_some_iff.1 hu).1; omega
      have := hat q hq
      rw [Go.Deep.add_add] at this
      show w.cell? (ad.add (i * 4 + q)) = some u
      rw [this, hu]
    · obtain ⟨i, hi⟩ := List.getElem?_of_mem hx
      obtain ⟨_, _, _, h4⟩ := hds i x hi
      exact h4
end Go.Proofs.Ytmccfpniolikhaa.P
