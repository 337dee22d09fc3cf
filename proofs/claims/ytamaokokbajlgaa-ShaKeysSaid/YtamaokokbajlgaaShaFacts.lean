/-
  Facts of the plain digest: its length, its bytes; padded rows tell their rows.
-/
import Derived.Test.YtamaokokbajlgaaHandA
import Derived.OpenShut
namespace Go.Proofs.Ytamaokokbajlgaa
open Go.RowKit Go.Proofs.YtamaokokbajlgaaW.PrintWords Go.Proofs.YtamaokokbajlgaaW.PrintLast

theorem Sha.addTo_length (h v : List Nat) : ∀ i, (Sha.addTo h v i).length = h.length
  | 0 => rfl
  | i + 1 => by rw [Sha.addTo, List.length_set, Sha.addTo_length h v i]
theorem Sha.mixed_length (h b : List Nat) : (Sha.mixed h b).length = h.length := Sha.addTo_length _ _ _
theorem Sha.blkTo_length (b h : List Nat) : ∀ k, (Sha.blkTo b h k).length = h.length
  | 0 => rfl
  | k + 1 => by rw [Sha.blkTo, Sha.mixed_length, Sha.blkTo_length b h k]
theorem Sha.hTab_length : Sha.hTab.length = 8 := by decide +kernel
theorem Sha.out_length : ∀ l : List Nat, (l.flatMap Sha.out4).length = 4 * l.length
  | [] => rfl
  | x :: l => by rw [List.flatMap_cons, List.length_append, Sha.out_length l, List.length_cons, show (Sha.out4 x).length = 4 from rfl]; omega
theorem Sha.sum_length (b : List Nat) : (Sha.sum b).length = 32 := by
  unfold Sha.sum
  rw [Sha.out_length, Sha.blkTo_length, Sha.hTab_length]

theorem byteOk_iff (l : List Int) : byteOk l = true ↔ ∀ x ∈ l, 0 ≤ x ∧ x < 256 := by
  unfold byteOk
  rw [List.all_eq_true]
  simp
theorem byteOk_append (a b : List Int) : byteOk (a ++ b) = true ↔ byteOk a = true ∧ byteOk b = true := by
  simp [byteOk, List.all_append]
theorem byteOk_nat (b : List Nat) (h : ∀ x ∈ b, x < 256) : byteOk (ofB b) = true := by
  rw [byteOk_iff]
  intro x hx
  obtain ⟨y, hy, rfl⟩ := List.mem_map.1 hx
  have := h y hy
  omega
theorem byteOk_of_wf (l : List Int) (h : ∀ x ∈ l, (Lit.int .u8 x).wf = true) : byteOk l = true := by
  rw [byteOk_iff]
  intro x hx
  have h := Go.bounds_u8 (h x hx)
  omega
theorem byteOk_pad (n : Nat) : byteOk (ofB (Sha.pad n)) = true := by
  refine byteOk_nat _ fun x hx => ?_
  unfold Sha.pad at hx
  rcases List.mem_cons.1 hx with rfl | hx
  · omega
  rcases List.mem_append.1 hx with hx | hx
  · have := List.eq_of_mem_replicate hx
    omega
  · simp only [Sha.be, List.mem_cons, List.not_mem_nil, or_false] at hx
    omega
theorem byteOk_sum (b : List Nat) : byteOk (ofB (Sha.sum b)) = true := by
  refine byteOk_nat _ fun x hx => ?_
  unfold Sha.sum at hx
  obtain ⟨y, _, hy⟩ := List.mem_flatMap.1 hx
  simp only [Sha.out4, List.mem_cons, List.not_mem_nil, or_false] at hy
  omega
theorem padded_inj (a b : List Int) (ha : a.length ≤ 500) (hb : b.length ≤ 500) (h : a ++ ofB (Sha.pad a.length) = b ++ ofB (Sha.pad b.length)) : a = b := by
  have e : ∀ n, ofB (Sha.pad n) = ofB (128 :: List.replicate (Sha.padLen n - 1) 0) ++ ofB (Sha.be (n * 8)) := fun n => by rw [← ofB_append]; rfl
  have h' := h
  rw [e, e, ← List.append_assoc, ← List.append_assoc] at h'
  have h2 := List.append_inj_right' h' rfl
  have hl : a.length = b.length := by
    simp [ofB, Sha.be] at h2
    omega
  exact List.append_inj_left h hl
end Go.Proofs.Ytamaokokbajlgaa
