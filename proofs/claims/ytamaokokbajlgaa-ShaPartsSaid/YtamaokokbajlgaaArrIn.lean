/-
  An array of numbers that came in, as a list.
-/
import Derived.WideShapes
import Derived.ChangeArms
import Derived.RowKit
import Derived.ChangeShapes
import Derived.WalkKit
namespace Go.Proofs.Ytamaokokbajlgaa
set_option linter.unusedVariables false
open Go.ChangeShapes Go.WideShapes Go.RowKit

theorem list2 {α : Type} {l : List α} (h : l.length = 2) : ∃ p q, l = [p, q] :=
  match l, h with
  | [p, q], _ => ⟨p, q, rfl⟩
theorem list8 {α : Type} {l : List α} (h : l.length = 8) : ∃ a b c d e f g i, l = [a, b, c, d, e, f, g, i] :=
  match l, h with
  | [a, b, c, d, e, f, g, i], _ => ⟨a, b, c, d, e, f, g, i, rfl⟩
theorem mapM_all {α β : Type} {f : α → Option β} : ∀ {l : List α} {xs : List β}, l.mapM f = some xs → ∀ a ∈ l, ∃ y, f a = some y
  | [], _, _, a, ha => by cases ha
  | b :: l, xs, h, a, ha => by
    rw [List.mapM_cons] at h
    cases hb : f b with
    | none => simp [hb] at h
    | some y =>
      rw [hb] at h
      cases hl : l.mapM f with
      | none => simp [hl] at h
      | some ys =>
        rcases List.mem_cons.1 ha with rfl | ha
        · exact ⟨y, hb⟩
        · exact mapM_all hl a ha
theorem open_array {H : Type} {enc : TypeId × Value → H} {P : Program} {W : World} {base : Nat} {sp : Nat → Bool} {held : Bool} {r : Reach} {b0 : Nat} {t e : TypeId} {n : Nat} {k : IntKind} {v : Value} {d : DataW H} {ps : List MemPlace}
    (ht : P.underlying t = some (.array n e)) (he : P.underlying e = some (.int k)) (ce : P.cellsOf e = 1) (ct : P.cellsOf t = n) (hok : Value.okWide P W r b0 t v) (h : DataW.Trod enc P W base sp held t v d ps) :
    ∃ l : List Int, v = .agg (l.map (Value.int k)).toArray ∧ l.length = n ∧ ∀ x ∈ l, (Lit.int k x).wf = true := by
  obtain ⟨cs, rfl, hsz⟩ : ∃ cs, v = .agg cs ∧ cs.size = P.cellsOf t := by
    simp only [Value.okWide, ht] at hok
    obtain ⟨cs, h1, h2, _⟩ := hok
    exact ⟨cs, h1, h2⟩
  rw [ct] at hsz
  obtain ⟨fuel, hf⟩ := h
  cases fuel with
  | zero => simp [DataW.trod] at hf
  | succ m =>
    unfold DataW.trod at hf
    simp only [ht, Value.cells] at hf
    have hlen : cs.toList.length = P.cellsOf t := by rw [ct]; simpa using hsz
    rw [if_pos hlen] at hf
    obtain ⟨xs, hxs, _⟩ := Option.map_eq_some_iff.1 hf
    have hall : ∀ i, i < n → ∃ q, cs.toList[i]? = some (.int k q) ∧ (Lit.int k q).wf = true := fun i hi => by
      obtain ⟨y, hy⟩ := mapM_all hxs i (List.mem_range.2 hi)
      obtain ⟨q, hq, _, hw⟩ := DataW.trod_int he hy
      refine ⟨q, ?_, hw⟩
      rw [ce, Nat.mul_one] at hq
      have := congrArg (fun l => l[0]?) hq
      simp only [List.getElem?_take, List.getElem?_drop] at this
      simpa using this
    refine ⟨cs.toList.map intOf, ?_, by simpa using hsz, fun x hx => ?_⟩
    · congr 1
      apply Array.ext_getElem?
      intro i
      rw [List.map_map]
      rcases Nat.lt_or_ge i n with hi | hi
      · obtain ⟨q, hq, _⟩ := hall i hi
        have hq' : cs[i]? = some (.int k q) := by simpa using hq
        simp [hq', intOf]
      · rw [Array.getElem?_eq_none (by omega)]
        symm
        refine Array.getElem?_eq_none ?_
        simp
        omega
    · obtain ⟨y, hy, rfl⟩ := List.mem_map.1 hx
      obtain ⟨i, hi, rfl⟩ := List.getElem_of_mem hy
      have hin : i < n := by rw [← hsz]; simpa using hi
      obtain ⟨q, hq, hw⟩ := hall i hin
      rw [List.getElem?_eq_getElem hi] at hq
      injection hq with hq
      rw [hq]
      exact hw
theorem open_array_cells {H : Type} {enc : TypeId × Value → H} {P : Program} {W : World} {base : Nat} {sp : Nat → Bool} {held : Bool} {t e : TypeId} {n : Nat} {k : IntKind} {fuel : Nat} {cs : List Value} {x : DataW H × List MemPlace}
    (ht : P.underlying t = some (.array n e)) (he : P.underlying e = some (.int k)) (ce : P.cellsOf e = 1) (ct : P.cellsOf t = n) (hn : cs.length = n) (h : DataW.trod enc P W base sp held fuel t cs = some x) :
    ∃ l : List Int, cs = l.map (Value.int k) ∧ l.length = n ∧ ∀ x ∈ l, (Lit.int k x).wf = true := by
  cases fuel with
  | zero => simp [DataW.trod] at h
  | succ m =>
    unfold DataW.trod at h
    simp only [ht] at h
    rw [if_pos (by rw [ct]; exact hn)] at h
    obtain ⟨xs, hxs, _⟩ := Option.map_eq_some_iff.1 h
    have hall : ∀ i, i < n → ∃ q, cs[i]? = some (.int k q) ∧ (Lit.int k q).wf = true := fun i hi => by
      obtain ⟨y, hy⟩ := mapM_all hxs i (List.mem_range.2 hi)
      obtain ⟨q, hq, _, hw⟩ := DataW.trod_int he hy
      refine ⟨q, ?_, hw⟩
      rw [ce, Nat.mul_one] at hq
      have := congrArg (fun l => l[0]?) hq
      simp only [List.getElem?_take, List.getElem?_drop] at this
      simpa using this
    refine ⟨cs.map intOf, ?_, by simpa using hn, fun x hx => ?_⟩
    · apply List.ext_getElem?
      intro i
      rw [List.map_map, List.getElem?_map]
      rcases Nat.lt_or_ge i n with hi | hi
      · obtain ⟨q, hq, _⟩ := hall i hi
        simp [hq, intOf]
      · rw [List.getElem?_eq_none (by omega)]
        rfl
    · obtain ⟨y, hy, rfl⟩ := List.mem_map.1 hx
      obtain ⟨i, hi, rfl⟩ := List.getElem_of_mem hy
      obtain ⟨q, hq, hw⟩ := hall i (by omega)
      rw [List.getElem?_eq_getElem hi] at hq
      injection hq with hq
      rw [hq]
      exact hw
/-- A struct that came in: each field is read. -/
theorem open_struct {H : Type} {enc : TypeId × Value → H} {P : Program} {W : World} {base : Nat} {sp : Nat → Bool} {held : Bool} {t : TypeId} {fs : Array Field} {cs : Array Value} {d : DataW H} {ps : List MemPlace}
    (ht : P.underlying t = some (.struct fs)) (hn : cs.size = P.cellsOf t) (h : DataW.Trod enc P W base sp held t (.agg cs) d ps) :
    ∃ fuel, ∀ f ∈ fs.toList, ∃ y, DataW.trod enc P W base sp held fuel f.type ((cs.toList.drop f.offset).take (P.cellsOf f.type)) = some y := by
  obtain ⟨fuel, hf⟩ := h
  cases fuel with
  | zero => simp [DataW.trod] at hf
  | succ m =>
    unfold DataW.trod at hf
    simp only [ht, Value.cells] at hf
    rw [if_pos (by simpa using hn)] at hf
    obtain ⟨xs, hxs, _⟩ := Option.map_eq_some_iff.1 hf
    exact ⟨m, fun f hm => mapM_all hxs f hm⟩
theorem list11 {α : Type} {l : List α} (h : l.length = 11) : ∃ a b c0 c1 c2 c3 c4 c5 c6 c7 d, l = [a, b, c0, c1, c2, c3, c4, c5, c6, c7, d] :=
  match l, h with
  | [a, b, c0, c1, c2, c3, c4, c5, c6, c7, d], _ => ⟨a, b, c0, c1, c2, c3, c4, c5, c6, c7, d, rfl⟩
end Go.Proofs.Ytamaokokbajlgaa
