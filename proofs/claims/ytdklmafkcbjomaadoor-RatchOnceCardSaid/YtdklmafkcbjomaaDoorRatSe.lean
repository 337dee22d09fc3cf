/-
  Layer 13, plain: places that are taken in whatever order.
-/
import Derived.Test.YtdklmafkcbjomaaDoorE8
import Derived.Test.YtdklmafkcbjomaaDoorE7
namespace Go.Proofs.YtdklmafkcbjomaaDoor
set_option linter.unusedVariables false
set_option linter.unusedSimpArgs false
open Go.RowKit Go.Shelf Go.Proofs.YtdklmafkcbjomaaDoorW.PrintWords Go.Proofs.YtdklmafkcbjomaaDoorW.PrintLast Go.Proofs.YtdklmafkcbjomaaDoorW.PrintMore Iter

theorem secS_add (s : List Int) (n : Nat) : ∀ d, secS (secS s 0 n) n d = secS s 0 (n + d)
  | 0 => rfl
  | d + 1 => by
    show nextS (secS (secS s 0 n) n d) (n + d) = nextS (secS s 0 (n + d)) (0 + (n + d))
    rw [secS_add s n d, Nat.zero_add]
theorem lockN_add (s : List Int) (n k : Nat) : lockN (secS s 0 n) n k = lockN s 0 (n + k) := by
  unfold lockN
  rw [secS_add, Nat.zero_add]
/-- The chain behind some takings: which places were taken. -/
def Once (s0 : List Int) (n : Nat) (L : List R.S43) (T : List Int) : Prop :=
  Good n (secS s0 0 n) L ∧ (∀ x, x ∈ L → ∃ p : Nat, x = lockN s0 0 p) ∧ ∀ X, X ∈ T → 0 ≤ X ∧ X < (n : Int) ∧ ∀ x, x ∈ L → x.f0 ≠ X
theorem once_start (s0 : List Int) (h : s0.length = 32) (o : byteOk s0 = true) : Once s0 0 [] [] :=
  ⟨⟨by decide, h, o, by decide, by intro x hx; simp at hx, by intro x hx; simp at hx, List.Pairwise.nil⟩, by intro x hx; simp at hx, by intro x hx; simp at hx⟩
theorem idxL_mem {L : List R.S43} {X : Int} (h : ∀ x, x ∈ L → x.f0 ≠ X) : idxL L X = none := idxL_none_of L X h
theorem rise_inj {n last : Int} {L : List R.S43} (h : RiseP n last L) {k : Nat} (hk : k < L.length) : ∀ x, x ∈ L.take k ++ L.drop (k + 1) → x.f0 ≠ (L.getD k R.z43).f0 := by
  intro x hx
  obtain ⟨j, hj, rfl⟩ := List.mem_iff_getElem.1 hx
  have := leave_length L k hk
  rw [← getD43 _ j hj, getD_leave L k j hk (by omega)]
  unfold fromJ
  split
  · have := rise_lt h (show k < j + 1 by omega) (by omega)
    omega
  · have := rise_lt h (show j < k by omega) hk
    omega
theorem once_step {s0 : List Int} {n : Nat} {L : List R.S43} {T : List Int} (h : Once s0 n L T) (X : Int) (hX : X ≤ (n : Int) + 20) (hn : n ≤ 1000) :
    ∃ (n' : Nat) (L' : List R.S43) (x : R.S43) (er : Int), takeF n (secS s0 0 n) L X = (n', secS s0 0 n', L', x, er) ∧ n ≤ n' ∧ n' ≤ n + 21 ∧ lockOk x ∧
      ((er = 0 ∧ X ∉ T ∧ (∃ p : Nat, (p : Int) = X ∧ p ≤ n + 20 ∧ x = lockN s0 0 p) ∧ Once s0 n' L' (T ++ [X])) ∨ ((er = 1 ∨ er = 9) ∧ (X ∈ T → er = 9) ∧ n' = n ∧ L' = L)) := by
  obtain ⟨hg, hl, ht⟩ := h
  by_cases h1 : X < 0
  · exact ⟨n, L, R.z43, 1, takeF_out _ _ _ X (.inl h1), Nat.le_refl _, by omega, lockOk_z, .inr ⟨.inl rfl, fun hm => by have := (ht X hm).1; omega, rfl, rfl⟩⟩
  cases hi : idxL L X with
  | some k =>
    have hk := idxL_lt L X k hi
    have hkm : L.getD k R.z43 ∈ L := by rw [getD43 L k hk.1]; exact List.getElem_mem hk.1
    obtain ⟨p, hp⟩ := hl _ hkm
    have hpX : (p : Int) = X := by rw [← hk.2, hp, lockN_f0]; omega
    have hb := hg.2.2.2.2.2.1 _ hkm
    rw [hk.2] at hb
    refine ⟨n, L.take k ++ L.drop (k + 1), L.getD k R.z43, 0, takeF_spare n _ L X k (by omega) (by omega) hi, Nat.le_refl _, by omega, by rw [hp]; exact lockN_ok _ _ _, .inl ⟨rfl, fun hm => (ht X hm).2.2 _ hkm hk.2, ⟨p, hpX, by omega, hp⟩, good_spare hg k, fun x hx => hl x ((take_drop_sub L k).subset hx), fun Y hY => ?_⟩⟩
    rcases List.mem_append.1 hY with hY | hY
    · have := ht Y hY
      exact ⟨this.1, this.2.1, fun x hx => this.2.2 x ((take_drop_sub L k).subset hx)⟩
    · obtain rfl : Y = X := by simpa using hY
      exact ⟨by omega, by omega, fun x hx => by rw [← hk.2]; exact rise_inj hg.2.2.2.2.2 hk.1 x hx⟩
  | none =>
    by_cases h2 : X < (n : Int)
    · exact ⟨n, L, R.z43, 9, takeF_stale n _ L X (by omega) h2 hg.1 hi, Nat.le_refl _, by omega, lockOk_z, .inr ⟨.inr rfl, fun _ => rfl, rfl, rfl⟩⟩
    · obtain ⟨d, hd⟩ : ∃ d : Nat, (X - (n : Int)).toNat = d := ⟨_, rfl⟩
      obtain rfl : X = ((n + d : Nat) : Int) := by omega
      have hg2 := good_next hg d (by omega)
      rw [secS_add] at hg2
      refine ⟨n + (d + 1), _, _, 0, by rw [takeF_next hg d (by omega) (by omega), secS_add], by omega, by omega, lockN_ok _ n d, .inl ⟨rfl, fun hm => by have := (ht _ hm).2.1; omega, ⟨n + d, rfl, by omega, lockN_add s0 n d⟩, hg2, fun x hx => ?_, fun Y hY => ?_⟩⟩
      · rcases List.mem_append.1 ((List.drop_sublist _ _).subset hx) with hx | hx
        · exact hl x hx
        · obtain ⟨k, hk, rfl⟩ := passed_rise _ n d x hx
          exact ⟨n + k, lockN_add s0 n k⟩
      · have hw : 0 ≤ Y ∧ Y < ((n + (d + 1) : Nat) : Int) ∧ ∀ x, x ∈ L ++ passed (secS s0 0 n) n d → x.f0 ≠ Y := by
          rcases List.mem_append.1 hY with hY | hY
          · have hb := ht Y hY
            refine ⟨hb.1, by omega, fun x hx => ?_⟩
            rcases List.mem_append.1 hx with hx | hx
            · exact hb.2.2 x hx
            · obtain ⟨k, hk, rfl⟩ := passed_rise _ n d x hx
              rw [lockN_f0]
              omega
          · obtain rfl : Y = ((n + d : Nat) : Int) := by simpa using hY
            refine ⟨by omega, by omega, fun x hx => ?_⟩
            rcases List.mem_append.1 hx with hx | hx
            · have := hg.2.2.2.2.2.1 x hx
              omega
            · obtain ⟨k, hk, rfl⟩ := passed_rise _ n d x hx
              rw [lockN_f0]
              omega
        exact ⟨hw.1, hw.2.1, fun x hx => hw.2.2 x ((List.drop_sublist _ _).subset hx)⟩
theorem onceLock_l0 (s : List Int) (h : s.length = 32) (o : byteOk s = true) (p : Nat) (hp : p < 1000) : ∀ (d n k : Nat), n + d = p → d < k → R.pyxlaw13_lock.l0 k (p : Int) (secS s 0 n) (n : Int) = some ((lockN s 0 p).f0, (lockN s 0 p).f1, (lockN s 0 p).f2)
  | 0, n, 0, hd, hk => absurd hk (by omega)
  | 0, n, k + 1, hd, hk => by
    obtain rfl : n = p := by omega
    unfold R.pyxlaw13_lock.l0
    rw [if_neg (by omega), refLock_some _ n (by omega) (secS_length s 0 h n) (byteOk_secS s 0 o n), Option.bind_some]
    unfold lockN
    rw [Nat.zero_add]
    rfl
  | d + 1, n, 0, hd, hk => absurd hk (by omega)
  | d + 1, n, k + 1, hd, hk => by
    unfold R.pyxlaw13_lock.l0
    have e : nextS (secS s 0 n) n = secS s 0 (n + 1) := by
      show _ = nextS (secS s 0 n) (0 + n)
      rw [Nat.zero_add]
    rw [if_pos (by omega), if_pos (by omega), refNext_some _ n (by omega) (secS_length s 0 h n) (byteOk_secS s 0 o n), Option.bind_some, e, show wrap64 ((n : Int) + 1) = ((n + 1 : Nat) : Int) by unfold wrap64; omega]
    exact onceLock_l0 s h o p hp d (n + 1) k (by omega) (by omega)
theorem onceLock_some (N : Int) (l0 : List Int) (L : List R.S43) (l : List Int) (h : l.length = 32) (o : byteOk l = true) (p : Nat) (hp : p < 1000) : R.pyxlaw13_lock.f 2300 N l0 L l (p : Int) = some ((lockN (leafS l 0 0) 0 p).f0, (lockN (leafS l 0 0) 0 p).f1, (lockN (leafS l 0 0) 0 p).f2) := by
  unfold R.pyxlaw13_lock.f
  rw [refLeaf_some l 1 0 o 2300 (by decide), Option.bind_some]
  have e : leafF l 1 0 = (leafS l 0 0, 0) := by
    unfold leafF
    rw [if_pos ⟨by decide, h, by decide, by decide⟩]
    rfl
  rw [e]
  exact onceLock_l0 (leafS l 0 0) (leafS_length l 0 0) (byteOk_leafS l 0 0) p hp p 0 2300 (by omega) (by omega)
end Go.Proofs.YtdklmafkcbjomaaDoor
