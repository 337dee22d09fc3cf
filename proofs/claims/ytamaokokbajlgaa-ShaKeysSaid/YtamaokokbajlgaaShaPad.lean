/-
  What stands behind so many bytes: the printed function tells the plain one.
-/
import Derived.Test.YtamaokokbajlgaaShaSpec
import Derived.Test.YtamaokokbajlgaaL1
namespace Go.Proofs.Ytamaokokbajlgaa
open Go.RowKit Go.Proofs.Ytamaokokbajlgaa.L Go.Proofs.YtamaokokbajlgaaW.PrintWords Go.Proofs.YtamaokokbajlgaaW.PrintLast Go.Proofs.YtamaokokbajlgaaW.PrintMore

def ofB (b : List Nat) : List Int := b.map fun (x : Nat) => (x : Int)
def toB (l : List Int) : List Nat := l.map Int.toNat
def byteOk (l : List Int) : Bool := l.all fun x => decide (0 ≤ x) && decide (x < 256)
theorem ofB_length (b : List Nat) : (ofB b).length = b.length := by simp [ofB]
theorem ofB_toB (l : List Int) (h : byteOk l = true) : ofB (toB l) = l := by
  unfold ofB toB
  rw [List.map_map]
  conv => rhs; rw [← List.map_id l]
  refine List.map_congr_left fun x hx => ?_
  unfold byteOk at h
  have := List.all_eq_true.1 h x hx
  simp only [Bool.and_eq_true, decide_eq_true_eq] at this
  simp
  omega
theorem toB_ofB (b : List Nat) : toB (ofB b) = b := by
  unfold ofB toB
  rw [List.map_map]
  conv => rhs; rw [← List.map_id b]
  exact List.map_congr_left fun x _ => by simp
theorem ofB_append (a b : List Nat) : ofB (a ++ b) = ofB a ++ ofB b := by simp [ofB]

theorem padLen_eq (n : Nat) : wrap64 (1 + (Int.tmod (wrap64 (119 - (Int.tmod (n : Int) 64))) 64)) = (Sha.padLen n : Int) := by
  have h1 : Int.tmod (n : Int) 64 = ((n % 64 : Nat) : Int) := rfl
  have h2 : wrap64 (119 - ((n % 64 : Nat) : Int)) = ((119 - n % 64 : Nat) : Int) := by unfold wrap64; omega
  have h3 : Int.tmod ((119 - n % 64 : Nat) : Int) 64 = (((119 - n % 64) % 64 : Nat) : Int) := rfl
  rw [h1, h2, h3]
  unfold Sha.padLen wrap64
  omega

theorem shr_at (n : Nat) (hn : n ≤ 1125899906842624) (s : Nat) (hs : s ≤ 56) : (shr .i64 (wrap64 ((n : Int) * 8)) (s : Int)) % 256 = ((n * 8 / 2 ^ s % 256 : Nat) : Int) := by
  have h1 : wrap64 ((n : Int) * 8) = ((n * 8 : Nat) : Int) := by unfold wrap64; omega
  rw [h1]
  show ((n * 8 : Nat) : Int) / 2 ^ (min (s : Int).toNat 64) % 256 = _
  rw [show min (s : Int).toNat 64 = s by omega]
  simp

def beTail (m : Nat) : Nat → List Nat
  | 0 => []
  | j + 1 => m / 2 ^ (8 * j) % 256 :: beTail m j
theorem beTail_eight (m : Nat) : beTail m 8 = Sha.be m := by simp [beTail, Sha.be]

theorem pad_loop (n : Nat) (hn : n ≤ 1125899906842624) : ∀ (j : Nat) (y : List Int), j ≤ 8 → y.length ≤ 100 - j → sha_Pad.l0 (j + 1) n y (8 * (j : Int) - 8) = some (y ++ ofB (beTail (n * 8) j))
  | 0, y, _, _ => by
    rw [sha_Pad.l0]
    rw [if_neg (by omega)]
    simp [beTail, ofB]
  | j + 1, y, hj, hy => by
    rw [sha_Pad.l0]
    have e : 8 * ((j + 1 : Nat) : Int) - 8 = ((8 * j : Nat) : Int) := by omega
    rw [e, if_pos (by omega), if_pos (by omega), if_pos (by omega), shr_at n hn (8 * j) (by omega), show wrap64 (((8 * j : Nat) : Int) - 8) = 8 * (j : Int) - 8 by unfold wrap64; omega]
    have ih := pad_loop n hn j (y ++ [((n * 8 / 2 ^ (8 * j) % 256 : Nat) : Int)]) (by omega) (by simp; omega)
    rw [ih, List.append_assoc]
    rfl

theorem pad_head (n : Nat) : (List.replicate (Sha.padLen n) (0 : Int)).set 0 128 = ofB (128 :: List.replicate (Sha.padLen n - 1) 0) := by
  have := (Sha.padLen_le n).1
  obtain ⟨k, hk⟩ : ∃ k, Sha.padLen n = k + 1 := ⟨Sha.padLen n - 1, by omega⟩
  rw [hk]
  simp [ofB, List.replicate_succ]

theorem pad_eq (n : Nat) (hn : n ≤ 1125899906842624) : sha_Pad.f 10 n = some (ofB (Sha.pad n)) := by
  have hp := Sha.padLen_le n
  unfold sha_Pad.f
  rw [if_neg (by omega), decide_eq_false (by omega)]
  simp only [sha_Pad.j0]
  rw [if_neg (by simp), padLen_eq n, if_pos (by omega), if_pos (by omega)]
  simp only [Option.bind_some, Int.toNat_natCast, List.length_replicate]
  rw [if_pos (by omega), show (0 : Int).toNat = 0 from rfl, pad_head]
  have h := pad_loop n hn 8 (ofB (128 :: List.replicate (Sha.padLen n - 1) 0)) (by omega) (by rw [ofB_length]; simp; omega)
  rw [show (8 * ((8 : Nat) : Int) - 8) = 56 by omega] at h
  rw [h, beTail_eight, ← ofB_append]
  rfl
theorem pad_none (k : Nat) (n : Int) (hn : n < 0 ∨ 1125899906842624 < n) : sha_Pad.f (k + 1) n = some [] := by
  unfold sha_Pad.f
  rcases hn with h | h
  · rw [if_pos h]
    simp [sha_Pad.j0]
  · rw [if_neg (by omega), decide_eq_true (by omega)]
    simp [sha_Pad.j0]
end Go.Proofs.Ytamaokokbajlgaa
