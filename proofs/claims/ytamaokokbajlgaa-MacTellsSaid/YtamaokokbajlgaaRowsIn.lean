/-
  A [][]byte that came in, as a list of lists.
-/
import Derived.Deep.Matrix
import Derived.SizedLaws
import Derived.Test.YtamaokokbajlgaaWSized
import Derived.Test.YtamaokokbajlgaaWWords
namespace Go.Proofs.Ytamaokokbajlgaa
set_option linter.unusedVariables false
open Go.Deep Go.RowKit Go.ChangeShapes Go.WideShapes Go.Proofs.YtamaokokbajlgaaW.PrintWords

theorem weights_mem_all {H : Type} {P : Program} {e : TypeId} : ∀ {l : List (DataW H)} {d : DataW H}, d ∈ l → ∀ n ∈ d.weights P e, n ∈ DataW.weightsAll P e l
  | d0 :: r, d, h, n, hn => by
    simp only [DataW.weightsAll, List.mem_append]
    rcases List.mem_cons.1 h with rfl | h
    · exact Or.inl hn
    · exact Or.inr (weights_mem_all h n hn)
/-- What is known of a row of rows of bytes that came in. -/
theorem open_rows {H : Type} {enc : TypeId × Value → H} {P : Program} {W : World} {base : Nat} {held : Bool} {t e q : TypeId} {a : Option Addr} {len cap : Nat} {d : DataW H} {ps : List MemPlace} {ts : List TypeId} {ds : List (DataW H)} {j : Nat}
    (hsz : (DataW.weightsEach P ts ds).all (· ≤ reachBytes) = true) (htj : ts[j]? = some t) (hdj : ds[j]? = some d)
    (ht : P.underlying t = some (.slice e)) (he : P.underlying e = some (.slice q)) (hq : P.underlying q = some (.int .u8)) (ce : P.cellsOf e = 1) (cq : P.cellsOf q = 1) (bq : P.bytesOf q = 1)
    (h : DataW.Trod enc P W base (fun _ => true) held t (.slice a len cap) d ps) :
    ∃ l : List (List Int), l.length = len ∧ len ≤ cap ∧ Kd.C (Kd.slice q (Kd.int .u8)) W a len l ∧ ∀ x ∈ l, (∀ n ∈ x, (Lit.int .u8 n).wf = true) ∧ x.length ≤ 140737488351232 := by
  obtain ⟨fuel, hf⟩ := h
  rcases open_int_rows ht he hq ce cq hf with ⟨hcs, _⟩ | ⟨x, l, c, A, L, C, Z, hcs, hb, hl, hm, hd, hx⟩
  · simp [Value.cells] at hcs
    obtain ⟨rfl, rfl, rfl⟩ := hcs
    exact ⟨[], rfl, Nat.le_refl _, ⟨rfl, by simp, fun h => absurd h (by simp)⟩, fun x hx => by simp at hx⟩
  simp [Value.cells] at hcs
  obtain ⟨rfl, rfl, rfl⟩ := hcs
  have hlt : ∀ r, r < len → ((Z r).take (L r)).length = L r := fun r hr => by
    obtain ⟨_, h1, _, h3, _⟩ := hx r (by omega)
    rw [List.length_take]
    omega
  refine ⟨(List.range len).map fun r => (Z r).take (L r), by simp, hl, ⟨by simp, by unfold maxLen at hm; omega, fun h0 => ⟨x, rfl, fun r p hr => ?_⟩⟩, fun y hy => ?_⟩
  · have hrl : r < len := by
      rcases Nat.lt_or_ge r len with h | h
      · exact h
      · rw [List.getElem?_eq_none (by simpa using h)] at hr
        cases hr
    have hp : p = (Z r).take (L r) := by
      simp [hrl] at hr
      exact hr.symm
    subst hp
    obtain ⟨h0', h1, h2, h3, h4, h5, h6⟩ := hx r (by omega)
    have hlr := hlt r hrl
    refine ⟨[.slice (A r) (L r) (C r)], rfl, ⟨A r, C r, by rw [hlr], by omega, ?_⟩, fun i u hu => ?_⟩
    · rw [hlr]
      refine Kd.C_of_reads (enc := Value.int .u8) (d := (0 : Int)) (h1 := fun _ => rfl) ⟨hlr, by unfold maxLen at h2; omega, fun hpos => ?_⟩
      cases hA : A r with
      | none =>
        have := h5 hA
        omega
      | some a' =>
        refine ⟨a', rfl, fun i hi => ?_⟩
        rw [(h6 a' hA).2 i (by omega)]
        rw [List.getD_eq_getElem?_getD, List.getD_eq_getElem?_getD, List.getElem?_take, if_pos hi]
    · rcases i with _ | i
      · have : (Kd.slice q (Kd.int .u8)).sz = 1 := rfl
        rw [this, Nat.mul_one, Nat.add_zero, h0']
        exact hu
      · cases hu
  · obtain ⟨r, hr, rfl⟩ := List.mem_map.1 hy
    have hrl := List.mem_range.1 hr
    obtain ⟨h0', h1, h2, h3, h4, h5, h6⟩ := hx r (by omega)
    refine ⟨fun n hn => h4 n (List.mem_of_mem_take hn), ?_⟩
    rw [hlt r hrl]
    cases hA : A r with
    | none =>
      have := h5 hA
      omega
    | some a' =>
      obtain ⟨hd, _⟩ := Prod.mk.inj hd
      have hmem : intRow .u8 (A r) (L r) (Z r) ∈ (List.range len).map fun r => intRow (H := H) .u8 (A r) (L r) (Z r) := List.mem_map.2 ⟨r, hr, rfl⟩
      have hw : (L r + (C r - L r)) * 1 ∈ (intRow (H := H) .u8 (A r) (L r) (Z r)).weights P e := by
        rw [hA]
        unfold intRow
        simp [DataW.weights, he, bq, lits, h3]
        left
        omega
      have hin : (L r + (C r - L r)) * 1 ∈ d.weights P t := by
        rw [hd]
        simp only [DataW.weights, ht]
        exact List.mem_cons_of_mem _ (List.mem_append.2 (Or.inl (weights_mem_all hmem _ hw)))
      have := List.all_eq_true.1 hsz _ (DataW.weights_mem_each htj hdj _ hin)
      simp [reachBytes] at this
      omega
end Go.Proofs.Ytamaokokbajlgaa
