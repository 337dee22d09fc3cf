/-
  The plain law of KdfBegins: fewer bytes are the beginning of more, of keys and of passwords; as many come as are asked for.
-/
import Derived.Test.YtpdgeanicciaiaaPKdfBeginsy1
namespace Go.Proofs.Ytpdgeanicciaiaa.Pure
set_option linter.unusedSimpArgs false
open Go.RowKit Go.Proofs.Ytpdgeanicciaiaa Go.Proofs.Ytpdgeanicciaiaa.P Go.Proofs.YtpdgeanicciaiaaW.PrintWords Go.Proofs.YtpdgeanicciaiaaW.PrintLast

theorem wrap_small (x : Nat) (hx : x < 1000) : wrap64 (x : Int) = (x : Int) := by unfold wrap64; omega
theorem tmod_small (x k : Nat) (hx : x < 256) : Int.tmod (wrap64 (x : Int)) (k : Int) = ((x % k : Nat) : Int) := by
  rw [wrap_small x (by omega)]
  exact (Int.ofNat_tmod x k).symm
theorem KdfBegins (l0 l1 : List Int) (n m t : Nat) (hn : n < 256) (hm : m < 256) (ht : t < 256) (o0 : byteOk l0 = true) (o1 : byteOk l1 = true) : ∃ k, pyxlaw04_KdfBegins.f k l0 l1 (n : Int) (m : Int) (t : Int) = some true := by
  refine ⟨2, ?_⟩
  have up' : pyxlaw04_KdfBegins.j0 2 l0 l1 n m t true true = some true := by rw [pyxlaw04_KdfBegins.j0, if_pos rfl]
  unfold pyxlaw04_KdfBegins.f pyxlaw04_shown.f
  rw [Option.bind_some]
  by_cases c0 : 200 < l0.length
  · rw [if_pos (by omega), up']
  by_cases c1 : 200 < l1.length
  · rw [if_neg (by omega), decide_eq_true (show (l1.length : Int) > 200 by omega), up']
  rw [if_neg (by omega), decide_eq_false (show ¬ (l1.length : Int) > 200 by omega)]
  have e : ∀ x, byteOk x = true → pyxref01_Same.f x x = some true := fun x hx => by unfold pyxref01_Same.f; rw [if_pos ⟨hx, hx⟩, beq_self_eq_true]
  obtain ⟨i, hi⟩ : ∃ i : Nat, i = n % 100 := ⟨_, rfl⟩
  obtain ⟨q, hq⟩ : ∃ q : Nat, q = i + m % 100 := ⟨_, rfl⟩
  obtain ⟨u, hu⟩ : ∃ u : Nat, u = 1 + t % 4 := ⟨_, rfl⟩
  have g1 : i + m % 100 < 1000 := by omega
  have g2 : 1 + t % 4 < 1000 := by omega
  have g3 : i ≤ q := by omega
  have g4 : q ≤ 1024 := by omega
  have g5 : 1 ≤ u := by omega
  have g6 : u ≤ 1048576 := by omega
  have e1 : Int.tmod (wrap64 (n : Int)) 100 = (i : Int) := by rw [hi]; exact tmod_small n 100 hn
  have e2 : Int.tmod (wrap64 (m : Int)) 100 = ((m % 100 : Nat) : Int) := tmod_small m 100 hm
  have e3 : wrap64 ((i : Int) + ((m % 100 : Nat) : Int)) = (q : Int) := by rw [hq, ← Int.natCast_add]; exact wrap_small _ g1
  have e4 : Int.tmod (wrap64 (t : Int)) 4 = ((t % 4 : Nat) : Int) := tmod_small t 4 ht
  have e5 : wrap64 (1 + ((t % 4 : Nat) : Int)) = (u : Int) := by rw [hu]; exact wrap_small (1 + t % 4) g2
  rw [pyxlaw04_KdfBegins.j0, if_neg (by simp), e1, e2, e3, e4, e5]
  clear e1 e2 e3 e4 e5 hi hq hu g1 g2
  have ex : ∀ c : Nat, c ≤ 8160 → kdf_Expand.f l0 l1 (c : Int) = some (expandOf l0 l1 c, 0) := fun c hc => by
    unfold kdf_Expand.f
    rw [if_neg (by omega), if_neg (by omega), if_pos ⟨o0, o1, by omega, by omega⟩, Int.toNat_natCast]
  have pa : ∀ c : Nat, c ≤ 1024 → kdf_Pass.f l0 l1 (u : Int) (c : Int) = some (passOf l0 l1 u c, 0) := fun c hc => by
    unfold kdf_Pass.f
    rw [if_neg (by omega), if_neg (by omega), if_neg (by omega), if_neg (by omega), if_pos ⟨o0, o1, by omega, by omega⟩, Int.toNat_natCast, Int.toNat_natCast]
  have la := expandOf_length l0 l1 i
  have lb := expandOf_length l0 l1 q
  have lc := passOf_length l0 l1 u i
  have ld := passOf_length l0 l1 u q
  have t1 : (expandOf l0 l1 q).take i = expandOf l0 l1 i := firstOf_take _ (fun k => kdfT_length l0 l1 k) i q (by omega)
  have t2 : (passOf l0 l1 u q).take i = passOf l0 l1 u i := firstOf_take _ (fun k => passB_length l0 l1 u k) i q (by omega)
  rw [ex i (by omega), Option.bind_some, ex q (by omega), Option.bind_some, pa i (by omega), Option.bind_some, pa q (by omega), Option.bind_some, if_pos rfl, if_pos rfl, if_pos rfl, if_pos rfl,
    if_pos (by dsimp only; omega), if_pos (by dsimp only; omega), if_pos (by dsimp only; omega)]
  dsimp only
  rw [ld, bne_self_eq_false, pyxlaw04_KdfBegins.j1, if_neg (by simp), if_pos rfl, if_pos (by omega), if_pos (by omega), Int.toNat_natCast, t1, e _ (byteOk_expandOf _ _ _), Option.bind_some, if_pos rfl, if_pos (by omega), t2, e _ (byteOk_passOf _ _ _ _), Option.bind_some]
end Go.Proofs.Ytpdgeanicciaiaa.Pure
