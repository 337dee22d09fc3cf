/-
  Layer 3 in closed forms, under the names that the printed texts call: mac.Same, mac.All, pyxref03's Key, Sum, All, Long.
-/
import Derived.Test.YtamaokokbajlgaaM1
namespace Go.Proofs.Ytamaokokbajlgaa
set_option linter.unusedVariables false
set_option linter.unusedSimpArgs false
open Go.RowKit Go.Proofs.YtamaokokbajlgaaW.PrintWords Go.Proofs.YtamaokokbajlgaaW.PrintLast Go.Proofs.YtamaokokbajlgaaW.PrintMore

theorem rd_at (l : List Int) (i : Nat) (h : i < l.length) : rd l (i : Int) = l[i] := by
  unfold rd
  rw [Int.toNat_natCast, List.getD_eq_getElem?_getD, List.getElem?_eq_getElem h]
  rfl
theorem rd_byte (l : List Int) (hl : byteOk l = true) (i : Nat) (h : i < l.length) : ∃ n : Nat, rd l (i : Int) = (n : Int) ∧ n < 256 := by
  rw [rd_at l i h]
  obtain ⟨h0, h1⟩ := (byteOk_iff l).1 hl _ (List.getElem_mem h)
  exact ⟨l[i].toNat, by omega, by omega⟩
theorem wrap_i (i : Nat) (h : i ≤ 9223372036854775800) : wrap64 ((i : Int) + 1) = ((i + 1 : Nat) : Int) := by unfold wrap64; omega
theorem ox_zero (p a b : Nat) : (p ||| (a ^^^ b) = 0) ↔ p = 0 ∧ a = b := by
  rw [Nat.or_eq_zero_iff]
  refine and_congr_right fun _ => ⟨fun h => ?_, fun h => by rw [h, Nat.xor_self]⟩
  have h2 := congrArg (· ^^^ b) h
  simpa [Nat.xor_assoc] using h2
theorem same_l0 (y x : List Int) (hy : byteOk y = true) (hx : byteOk x = true) (hxy : x.length = y.length) (hl : x.length ≤ 9223372036854775800) :
    ∀ (d k i p : Nat), i + d = x.length → d < k → p < 256 → M.mac_Same.l0 k y (p : Int) x (x.length : Int) (i : Int) = some (decide (p = 0) && (x.drop i == y.drop i))
  | 0, k, i, p, hi, hk, hp => by
    obtain ⟨k, rfl⟩ : ∃ m, k = m + 1 := ⟨k - 1, by omega⟩
    rw [M.mac_Same.l0, if_neg (by omega), List.drop_eq_nil_of_le (by omega), List.drop_eq_nil_of_le (by omega)]
    simp
    rw [Bool.eq_iff_iff]
    simp
  | d + 1, k, i, p, hi, hk, hp => by
    obtain ⟨k, rfl⟩ : ∃ m, k = m + 1 := ⟨k - 1, by omega⟩
    obtain ⟨a, ha, ha2⟩ := rd_byte x hx i (by omega)
    obtain ⟨b, hb, hb2⟩ := rd_byte y hy i (by omega)
    have hab : a ^^^ b < 2 ^ 8 := Nat.xor_lt_two_pow (by omega) (by omega)
    have hpab : p ||| (a ^^^ b) < 2 ^ 8 := Nat.or_lt_two_pow (by omega) hab
    rw [M.mac_Same.l0, if_pos (by omega), if_pos (by omega), if_pos (by omega), if_pos (by omega), ha, hb, u8_xor_nat a b ha2 hb2, u8_or_nat p (a ^^^ b) hp (by omega), wrap_i i (by omega),
      same_l0 y x hy hx hxy hl d k (i + 1) _ (by omega) (by omega) (by omega)]
    rw [List.drop_eq_getElem_cons (show i < x.length by omega), List.drop_eq_getElem_cons (show i < y.length by omega)]
    rw [rd_at x i (by omega)] at ha
    rw [rd_at y i (by omega)] at hb
    rw [ha, hb, Option.some.injEq, Bool.eq_iff_iff]
    simp only [Bool.and_eq_true, decide_eq_true_eq, beq_iff_eq, List.cons.injEq, ox_zero]
    constructor
    · rintro ⟨⟨h1, h2⟩, h3⟩
      exact ⟨h1, by omega, h3⟩
    · rintro ⟨h1, h2, h3⟩
      exact ⟨⟨h1, by omega⟩, h3⟩
theorem same_eq (x y : List Int) (hx : byteOk x = true) (hy : byteOk y = true) (hl : x.length ≤ 9223372036854775800) : M.mac_Same.f (x.length + 1) x y = some (x == y) := by
  unfold M.mac_Same.f
  by_cases h : x.length = y.length
  · rw [if_pos (by omega)]
    have := same_l0 y x hy hx h hl x.length (x.length + 1) 0 0 (by omega) (by omega) (by omega)
    simpa using this
  · rw [if_neg (by omega)]
    congr 1
    rw [eq_comm, beq_eq_false_iff_ne]
    intro e
    exact h (by rw [e])

namespace P
def mac_Same.f (l0 : List Int) (l1 : List Int) : Option (Bool) := if byteOk l0 = true ∧ byteOk l1 = true ∧ l0.length ≤ 9223372036854775800 then some (l0 == l1) else none
theorem mac_Same.calls (A0 : Option Addr) (c0 : Nat) (l0 : List Int) (A1 : Option Addr) (c1 : Nat) (l1 : List Int) (r : Bool) (w : World) (hr0 : Kd.C (Kd.int .u8) w A0 l0.length l0) (hc0 : l0.length ≤ c0) (hr1 : Kd.C (Kd.int .u8) w A1 l1.length l1) (hc1 : l1.length ≤ c1) (h : mac_Same.f l0 l1 = some r) :
    Calls Try.prog 33 #[.slice A0 l0.length c0, .slice A1 l1.length c1] w fun e w' => e = .returned (.bool r) ∧ Drawn0 w w' := by
  unfold mac_Same.f at h
  split at h
  case isFalse => cases h
  case isTrue hok => exact M.mac_Same.calls (l0.length + 1) A0 c0 l0 A1 c1 l1 r w hr0 hc0 hr1 hc1 (by rw [← h]; exact same_eq l0 l1 hok.1 hok.2.1 hok.2.2)
def mac_All.f (k : List Int) (l : List (List Int)) : Option (List Int) := if byteOk k = true ∧ byteOk l.flatten = true ∧ k.length ≤ 900000 ∧ l.flatten.length ≤ 800000 then some (macSum k l.flatten) else none
theorem mac_All.calls (A0 : Option Addr) (c0 : Nat) (l0 : List Int) (A1 : Option Addr) (c1 : Nat) (l1 : List (List Int)) (r : List Int) (w : World) (hr0 : Kd.C (Kd.int .u8) w A0 l0.length l0) (hc0 : l0.length ≤ c0) (hr1 : Kd.C (Kd.slice 5 (Kd.int .u8)) w A1 l1.length l1) (hc1 : l1.length ≤ c1) (h : mac_All.f l0 l1 = some r) :
    Calls Try.prog 37 #[.slice A0 l0.length c0, .slice A1 l1.length c1] w fun e w' => ∃ v0_ : Value, e = .returned (v0_) ∧ Kd.R (Kd.int .u8) 5 w' w.heap.size (fun _ => True) v0_ r ∧ Below w.heap.size w w' := by
  unfold mac_All.f at h
  split at h
  case isFalse => cases h
  case isTrue hok =>
    obtain ⟨h1, h2, h3, h4⟩ := hok
    refine M.mac_All.calls A0 c0 l0 A1 c1 l1 r w hr0 hc0 hr1 hc1 ?_
    rw [← h]
    unfold M.mac_All.f M.mac_joined.f P.slices_Concat.f P.mac_Sum.f
    rw [if_pos (by omega), Option.bind_some, Option.bind_some, if_pos ⟨h1, h2, h3, h4⟩, Option.bind_some]
end P

/-! The document's. -/
theorem refLong_l0 (l : List (List Int)) (hl : l.length ≤ 1000000) (hf : l.flatten.length ≤ 4611686018427387904) :
    ∀ (d k i : Nat), i + d = l.length → d < k → M.pyxref03_Long.l0 k l (((l.take i).flatten.length + i : Nat) : Int) (i : Int) = some ((l.flatten.length + l.length : Nat) : Int)
  | 0, k, i, hi, hk => by
    obtain ⟨k, rfl⟩ : ∃ m, k = m + 1 := ⟨k - 1, by omega⟩
    rw [M.pyxref03_Long.l0, if_neg (by omega), List.take_of_length_le (by omega)]
    congr 3
  | d + 1, k, i, hi, hk => by
    obtain ⟨k, rfl⟩ : ∃ m, k = m + 1 := ⟨k - 1, by omega⟩
    have hs := flat_take l i (by omega)
    have hle := flat_le l (i + 1)
    have hn : (l.take (i + 1)).flatten.length = (l.take i).flatten.length + (rowAt l i).length := by rw [hs, List.length_append]
    have e : M.rd_L1 l (i : Int) = rowAt l i := by unfold M.rd_L1 rowAt; rw [Int.toNat_natCast]
    have ih := refLong_l0 l hl hf d k (i + 1) (by omega) (by omega)
    rw [M.pyxref03_Long.l0, if_pos (by omega), if_pos (by omega), e, wrap_i i (by omega)]
    rw [← ih]
    congr 1
    unfold wrap64
    omega
theorem refKey_l0 : ∀ (d k : Nat) (x : List Int), x.length + d = 64 → d < k → M.pyxref03_Key.l0 k x = some (x ++ List.replicate (64 - x.length) 0)
  | 0, k, x, hx, hk => by
    obtain ⟨k, rfl⟩ : ∃ m, k = m + 1 := ⟨k - 1, by omega⟩
    rw [M.pyxref03_Key.l0, if_neg (by omega), show 64 - x.length = 0 by omega]
    simp
  | d + 1, k, x, hx, hk => by
    obtain ⟨k, rfl⟩ : ∃ m, k = m + 1 := ⟨k - 1, by omega⟩
    rw [M.pyxref03_Key.l0, if_pos (by omega), if_pos (by omega), refKey_l0 d k (x ++ [0]) (by simp; omega) (by omega)]
    rw [List.append_assoc]
    congr 2
    rw [List.length_append, List.length_singleton, show 64 - x.length = (64 - (x.length + 1)) + 1 by omega, List.replicate_succ]
    rfl
theorem refKey_eq (l : List Int) (hl : byteOk l = true) (hn : l.length ≤ 900000) (k : Nat) (hk : 66 < k) : M.pyxref03_Key.f k l = some (macKey l) := by
  obtain ⟨k, rfl⟩ : ∃ m, k = m + 1 := ⟨k - 1, by omega⟩
  have hlen := ownKey_length l
  unfold M.pyxref03_Key.f
  rw [Option.bind_some, List.nil_append, List.length_nil, if_pos (by omega)]
  by_cases h : 64 < l.length
  · have e : ownKey l = ofB (Sha.sum (toB l)) := by unfold ownKey; rw [if_pos h]
    rw [if_pos (by omega)]
    unfold P.pyxref02_Sum.f
    rw [if_pos ⟨hl, by omega⟩, Option.bind_some, M.pyxref03_Key.j0, ← e, refKey_l0 _ k _ (Nat.add_sub_cancel' hlen) (by omega)]
    rfl
  · have e : ownKey l = l := by unfold ownKey; rw [if_neg h]
    rw [e] at hlen
    rw [if_neg (by omega), M.pyxref03_Key.j0, refKey_l0 _ k _ (Nat.add_sub_cancel' hlen) (by omega)]
    unfold macKey
    rw [e]
theorem refWith_l0 (l : List Int) (y : Int) (hn : l.length ≤ 900000) : ∀ (d k i : Nat), i + d = l.length → d < k → M.pyxref03_with.l0 k l y (xorB (l.take i) y) (i : Int) = some (xorB l y)
  | 0, k, i, hi, hk => by
    obtain ⟨k, rfl⟩ : ∃ m, k = m + 1 := ⟨k - 1, by omega⟩
    rw [M.pyxref03_with.l0, if_neg (by omega), List.take_of_length_le (by omega)]
  | d + 1, k, i, hi, hk => by
    obtain ⟨k, rfl⟩ : ∃ m, k = m + 1 := ⟨k - 1, by omega⟩
    have e : xorB (l.take i) y ++ [Go.bits .xor .u8 (rd l (i : Int)) y] = xorB (l.take (i + 1)) y := by
      rw [rd_at l i (by omega), List.take_succ_eq_append_getElem (by omega)]
      unfold xorB
      rw [List.map_append]
      rfl
    rw [M.pyxref03_with.l0, if_pos (by omega), if_pos (by omega), if_pos (by rw [xorB_length, List.length_take]; omega), e, wrap_i i (by omega)]
    exact refWith_l0 l y hn d k (i + 1) (by omega) (by omega)
theorem refWith_eq (l : List Int) (y : Int) (hn : l.length = 64) (k : Nat) (hk : 66 < k) : M.pyxref03_with.f k l y = some (xorB l y) := by
  unfold M.pyxref03_with.f
  exact refWith_l0 l y (by omega) 64 k 0 (by omega) (by omega)
theorem refSum_eq (l b : List Int) (hl : byteOk l = true) (hb : byteOk b = true) (hn : l.length ≤ 900000) (hm : b.length ≤ 800000) (k : Nat) (hk : 66 < k) : M.pyxref03_Sum.f k l b = some (macSum l b) := by
  have hkl := macKey_length l
  have ok := byteOk_macKey l hl
  have o1 := byteOk_xorB (macKey l) 54 ok (by omega) (by omega)
  have o2 := byteOk_xorB (macKey l) 92 ok (by omega) (by omega)
  have n1 := xorB_length (macKey l) 54
  have n2 := xorB_length (macKey l) 92
  unfold M.pyxref03_Sum.f
  rw [refKey_eq l hl hn k hk, Option.bind_some, refWith_eq _ _ hkl k hk, Option.bind_some, if_pos (by omega)]
  have s1 : P.pyxref02_Sum.f (xorB (macKey l) 54 ++ b) = some (dig (xorB (macKey l) 54 ++ b)) := by
    unfold P.pyxref02_Sum.f
    rw [if_pos ⟨(byteOk_append _ _).2 ⟨o1, hb⟩, by rw [List.length_append]; omega⟩]
    rfl
  have n3 := dig_length (xorB (macKey l) 54 ++ b)
  have o3 := byteOk_dig (xorB (macKey l) 54 ++ b)
  have s2 : P.pyxref02_Sum.f (xorB (macKey l) 92 ++ dig (xorB (macKey l) 54 ++ b)) = some (macSum l b) := by
    unfold P.pyxref02_Sum.f
    rw [if_pos ⟨(byteOk_append _ _).2 ⟨o2, o3⟩, by rw [List.length_append]; omega⟩]
    rfl
  rw [s1, Option.bind_some, refWith_eq _ _ hkl k hk, Option.bind_some, if_pos (by omega), s2, Option.bind_some]
theorem refAll_l0 (q : List Int) (l : List (List Int)) (hq : byteOk q = true) (hl : byteOk l.flatten = true) (hn : q.length ≤ 900000) (hm : l.flatten.length ≤ 800000) (hc : l.length ≤ 9223372036854775800) :
    ∀ (d k i : Nat), i + d = l.length → d + 67 < k → M.pyxref03_All.l0 k q l (l.take i).flatten (i : Int) = some (macSum q l.flatten)
  | 0, k, i, hi, hk => by
    obtain ⟨k, rfl⟩ : ∃ m, k = m + 1 := ⟨k - 1, by omega⟩
    rw [M.pyxref03_All.l0, if_neg (by omega), List.take_of_length_le (by omega), refSum_eq q _ hq hl hn hm k (by omega), Option.bind_some]
  | d + 1, k, i, hi, hk => by
    obtain ⟨k, rfl⟩ : ∃ m, k = m + 1 := ⟨k - 1, by omega⟩
    have hs := flat_take l i (by omega)
    have hle := flat_le l (i + 1)
    have hn2 : (l.take (i + 1)).flatten.length = (l.take i).flatten.length + (rowAt l i).length := by rw [hs, List.length_append]
    have e : M.rd_L1 l (i : Int) = rowAt l i := by unfold M.rd_L1 rowAt; rw [Int.toNat_natCast]
    rw [M.pyxref03_All.l0, if_pos (by omega), if_pos (by omega), e, if_pos (by omega), ← hs, wrap_i i (by omega)]
    exact refAll_l0 q l hq hl hn hm hc d k (i + 1) (by omega) (by omega)

namespace P
def pyxref03_Long.f (l0 : List (List Int)) : Option (Int) := if l0.length ≤ 1000000 ∧ l0.flatten.length ≤ 4611686018427387904 then some ((l0.flatten.length + l0.length : Nat) : Int) else none
theorem pyxref03_Long.calls (A0 : Option Addr) (c0 : Nat) (l0 : List (List Int)) (r : Int) (w : World) (hr0 : Kd.C (Kd.slice 5 (Kd.int .u8)) w A0 l0.length l0) (hc0 : l0.length ≤ c0) (h : pyxref03_Long.f l0 = some r) :
    Calls Try.prog 34 #[.slice A0 l0.length c0] w fun e w' => e = .returned (.int .i64 r) ∧ Drawn0 w w' := by
  unfold pyxref03_Long.f at h
  split at h
  case isFalse => cases h
  case isTrue hok =>
    refine M.pyxref03_Long.calls (l0.length + 1) A0 c0 l0 r w hr0 hc0 ?_
    rw [← h]
    exact refLong_l0 l0 hok.1 hok.2 l0.length (l0.length + 1) 0 (by omega) (by omega)
def pyxref03_Key.f (l0 : List Int) : Option (List Int) := if byteOk l0 = true ∧ l0.length ≤ 900000 then some (macKey l0) else none
theorem pyxref03_Key.calls (A0 : Option Addr) (c0 : Nat) (l0 : List Int) (r : List Int) (w : World) (hr0 : Kd.C (Kd.int .u8) w A0 l0.length l0) (hc0 : l0.length ≤ c0) (h : pyxref03_Key.f l0 = some r) :
    Calls Try.prog 35 #[.slice A0 l0.length c0] w fun e w' => ∃ v0_ : Value, e = .returned (v0_) ∧ Kd.R (Kd.int .u8) 5 w' w.heap.size (fun _ => True) v0_ r ∧ Below w.heap.size w w' := by
  unfold pyxref03_Key.f at h
  split at h
  case isFalse => cases h
  case isTrue hok => exact M.pyxref03_Key.calls 70 A0 c0 l0 r w hr0 hc0 (by rw [← h]; exact refKey_eq l0 hok.1 hok.2 70 (by omega))
def pyxref03_Sum.f (l0 l1 : List Int) : Option (List Int) := if byteOk l0 = true ∧ byteOk l1 = true ∧ l0.length ≤ 900000 ∧ l1.length ≤ 800000 then some (macSum l0 l1) else none
theorem pyxref03_Sum.calls (A0 : Option Addr) (c0 : Nat) (l0 : List Int) (A1 : Option Addr) (c1 : Nat) (l1 : List Int) (r : List Int) (w : World) (hr0 : Kd.C (Kd.int .u8) w A0 l0.length l0) (hc0 : l0.length ≤ c0) (hr1 : Kd.C (Kd.int .u8) w A1 l1.length l1) (hc1 : l1.length ≤ c1) (h : pyxref03_Sum.f l0 l1 = some r) :
    Calls Try.prog 36 #[.slice A0 l0.length c0, .slice A1 l1.length c1] w fun e w' => ∃ v0_ : Value, e = .returned (v0_) ∧ Kd.R (Kd.int .u8) 5 w' w.heap.size (fun _ => True) v0_ r ∧ Below w.heap.size w w' := by
  unfold pyxref03_Sum.f at h
  split at h
  case isFalse => cases h
  case isTrue hok => exact M.pyxref03_Sum.calls 70 A0 c0 l0 A1 c1 l1 r w hr0 hc0 hr1 hc1 (by rw [← h]; exact refSum_eq l0 l1 hok.1 hok.2.1 hok.2.2.1 hok.2.2.2 70 (by omega))
def pyxref03_All.f (k : List Int) (l : List (List Int)) : Option (List Int) := if byteOk k = true ∧ byteOk l.flatten = true ∧ k.length ≤ 900000 ∧ l.flatten.length ≤ 800000 ∧ l.length ≤ 9223372036854775800 then some (macSum k l.flatten) else none
theorem pyxref03_All.calls (A0 : Option Addr) (c0 : Nat) (l0 : List Int) (A1 : Option Addr) (c1 : Nat) (l1 : List (List Int)) (r : List Int) (w : World) (hr0 : Kd.C (Kd.int .u8) w A0 l0.length l0) (hc0 : l0.length ≤ c0) (hr1 : Kd.C (Kd.slice 5 (Kd.int .u8)) w A1 l1.length l1) (hc1 : l1.length ≤ c1) (h : pyxref03_All.f l0 l1 = some r) :
    Calls Try.prog 38 #[.slice A0 l0.length c0, .slice A1 l1.length c1] w fun e w' => ∃ v0_ : Value, e = .returned (v0_) ∧ Kd.R (Kd.int .u8) 5 w' w.heap.size (fun _ => True) v0_ r ∧ Below w.heap.size w w' := by
  unfold pyxref03_All.f at h
  split at h
  case isFalse => cases h
  case isTrue hok =>
    refine M.pyxref03_All.calls (l1.length + 68) A0 c0 l0 A1 c1 l1 r w hr0 hc0 hr1 hc1 ?_
    rw [← h]
    exact refAll_l0 l0 l1 hok.1 hok.2.1 hok.2.2.1 hok.2.2.2.1 hok.2.2.2.2 l1.length (l1.length + 68) 0 (by omega) (by omega)
end P
end Go.Proofs.Ytamaokokbajlgaa
