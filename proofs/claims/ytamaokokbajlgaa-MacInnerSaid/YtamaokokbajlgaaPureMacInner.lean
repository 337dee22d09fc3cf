/-
  The plain law of MacInner: a tag is a digest of the key's block, turned, and a digest of it, turned otherwise, and the bytes.
-/
import Derived.Test.YtamaokokbajlgaaPMacInnery1
namespace Go.Proofs.Ytamaokokbajlgaa.Pure
open Go.RowKit Go.Proofs.Ytamaokokbajlgaa Go.Proofs.Ytamaokokbajlgaa.P Go.Proofs.YtamaokokbajlgaaW.PrintWords Go.Proofs.YtamaokokbajlgaaW.PrintLast

def inTo (k : List Int) (y : Int) (i : Nat) : List Int := xorB (k.take i) y ++ List.replicate (64 - i) 0
theorem inTo_length (k : List Int) (y : Int) (i : Nat) (hk : k.length = 64) (h : i ≤ 64) : (inTo k y i).length = 64 := by
  unfold inTo
  rw [List.length_append, xorB_length, List.length_take, List.length_replicate]
  omega
theorem inTo_set (k : List Int) (y : Int) (i : Nat) (hk : k.length = 64) (h : i < 64) : (inTo k y i).set i (Go.bits .xor .u8 (rd k (i : Int)) y) = inTo k y (i + 1) := by
  have e : xorB (k.take (i + 1)) y = xorB (k.take i) y ++ [Go.bits .xor .u8 (rd k (i : Int)) y] := by
    rw [rd_at k i (by omega), List.take_succ_eq_append_getElem (by omega)]
    unfold xorB
    rw [List.map_append]
    rfl
  have hl : (xorB (k.take i) y).length = i := by rw [xorB_length, List.length_take]; omega
  unfold inTo
  rw [e, List.set_append_right _ _ (by omega), hl, Nat.sub_self, show 64 - i = (64 - (i + 1)) + 1 by omega, List.replicate_succ, List.set_cons_zero, List.append_assoc]
  rfl
theorem inner_l0 (q b k : List Int) (hq : byteOk q = true) (hb : byteOk b = true) (hk : macKey q = k) (hn : q.length ≤ 200) (hm : b.length ≤ 300) :
    ∀ (d n i : Nat), i + d = 64 → d < n → pyxlaw03_MacInner.l0 n q b true k (inTo k 54 i) (inTo k 92 i) (i : Int) = some true
  | 0, n, i, hi, hd => by
    obtain ⟨n, rfl⟩ : ∃ m, n = m + 1 := ⟨n - 1, by omega⟩
    obtain rfl : i = 64 := by omega
    have hkl : k.length = 64 := by rw [← hk]; exact macKey_length q
    have ok : byteOk k = true := by rw [← hk]; exact byteOk_macKey q hq
    have e : ∀ y, inTo k y 64 = xorB k y := fun y => by
      unfold inTo
      rw [List.take_of_length_le (by omega)]
      simp
    have n1 := xorB_length k 54
    have n2 := xorB_length k 92
    have s1 : pyxref02_Sum.f (xorB k 54 ++ b) = some (dig (xorB k 54 ++ b)) := by
      unfold pyxref02_Sum.f
      rw [if_pos ⟨(byteOk_append _ _).2 ⟨byteOk_xorB k 54 ok (by omega) (by omega), hb⟩, by rw [List.length_append]; omega⟩]
      rfl
    have n3 := dig_length (xorB k 54 ++ b)
    have s2 : pyxref02_Sum.f (xorB k 92 ++ dig (xorB k 54 ++ b)) = some (dig (xorB k 92 ++ dig (xorB k 54 ++ b))) := by
      unfold pyxref02_Sum.f
      rw [if_pos ⟨(byteOk_append _ _).2 ⟨byteOk_xorB k 92 ok (by omega) (by omega), byteOk_dig _⟩, by rw [List.length_append]; omega⟩]
      rfl
    have s3 : mac_Sum.f q b = some (dig (xorB k 92 ++ dig (xorB k 54 ++ b))) := by
      unfold mac_Sum.f
      rw [if_pos ⟨hq, hb, by omega, by omega⟩]
      unfold macSum
      rw [hk]
    rw [pyxlaw03_MacInner.l0, if_neg (by omega), e, e, if_pos (by omega), s1, Option.bind_some, if_pos rfl, s3, Option.bind_some, if_pos (by omega), s2, Option.bind_some]
    unfold pyxref01_Same.f
    rw [if_pos ⟨byteOk_dig _, byteOk_dig _⟩, Option.bind_some, beq_self_eq_true]
  | d + 1, n, i, hi, hd => by
    obtain ⟨n, rfl⟩ : ∃ m, n = m + 1 := ⟨n - 1, by omega⟩
    have hkl : k.length = 64 := by rw [← hk]; exact macKey_length q
    have n1 := inTo_length k 54 i hkl (by omega)
    have n2 := inTo_length k 92 i hkl (by omega)
    rw [pyxlaw03_MacInner.l0, if_pos (by omega), if_pos (by omega), if_pos (by omega), if_pos (by omega), if_pos (by omega), Int.toNat_natCast, inTo_set k 54 i hkl (by omega), inTo_set k 92 i hkl (by omega), wrap_i i (by omega)]
    exact inner_l0 q b k hq hb hk hn hm d n (i + 1) (by omega) (by omega)

theorem MacInner : pyxlaw03_MacInner.Pure := by
  intro l0 l1 _ _ h0 _ _ h1
  have o0 := byteOk_of_wf l0 h0
  have o1 := byteOk_of_wf l1 h1
  refine ⟨70, ?_⟩
  unfold pyxlaw03_MacInner.f pyxlaw03_shown.f
  rw [Option.bind_some]
  by_cases c0 : 200 < l0.length
  · rw [if_pos (by omega), pyxlaw03_MacInner.j0, if_pos rfl]
  by_cases c1 : 300 < l1.length
  · rw [if_neg (by omega), pyxlaw03_MacInner.j0, if_pos (by simp; omega)]
  have hk : mac_Key.f l0 = some (macKey l0) := by unfold mac_Key.f; rw [if_pos ⟨o0, by omega⟩]
  have hkl := macKey_length l0
  rw [if_neg (by omega), pyxlaw03_MacInner.j0, if_neg (by simp; omega), hk, Option.bind_some, if_pos (by omega), if_pos (by decide)]
  exact inner_l0 l0 l1 (macKey l0) o0 o1 rfl (by omega) (by omega) 64 69 0 (by omega) (by omega)
end Go.Proofs.Ytamaokokbajlgaa.Pure
