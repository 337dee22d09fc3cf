/-
  Walks: sha.primes (a function value that gives the primes one by one).
-/
import Derived.Test.YtamaokokbajlgaaShaLeaf
import Derived.Test.YtamaokokbajlgaaIter
import Derived.OwnWalkIn
import Derived.TacticsInMore
import Derived.LoopNIn
import Derived.LoopIn
namespace Go.Proofs.Ytamaokokbajlgaa
open Go.RowKit Go.Shelf Iter

attribute [local go_sem] Oper.semAt_some

/-- What primes hands over in round k. -/
def PEl (k : Nat) (args : Array Value) (_ : World) : Prop := args = #[.int .i64 k, .int .u64 (Sha.pTab.getD k 0)]

theorem sq_le (d n : Nat) (hd : d ≤ 18) (hn : n ≤ 313) (h : d * d ≤ n) : d ≤ 17 := by
  rcases Nat.lt_or_ge d 18 with h1 | h1
  · omega
  · obtain rfl : d = 18 := by omega
    omega
theorem sq_bd (d : Nat) (hd : d ≤ 18) : d * d ≤ 324 := Nat.mul_le_mul hd hd

/-- What the inner loop knows of the number at hand. -/
def Tried (n d : Nat) (is : Bool) : Prop := if is = true then ∀ e, 2 ≤ e → e < d → 0 < n % e else ∃ e, 2 ≤ e ∧ e * e ≤ n ∧ n % e = 0
theorem Tried.next {n d : Nat} (h : Tried n d true) (h2 : 2 ≤ d) (hd : d * d ≤ n) : Tried n (d + 1) (decide (0 < n % d)) := by
  unfold Tried at h ⊢
  rw [if_pos rfl] at h
  by_cases h0 : 0 < n % d
  · rw [if_pos (by simp [h0])]
    intro e he hlt
    by_cases hed : e = d
    · rw [hed]; exact h0
    · exact h e he (by omega)
  · rw [if_neg (by simp [h0])]
    exact ⟨d, h2, hd, by omega⟩
theorem Tried.yes {n d : Nat} (h : Tried n d true) (hd : n < d * d) : Sha.isP n = true := Sha.isP_yes n d (by unfold Tried at h; rw [if_pos rfl] at h; exact h) hd
theorem Tried.no {n d : Nat} (h : Tried n d false) : Sha.isP n = false := by
  unfold Tried at h
  rw [if_neg (by simp)] at h
  obtain ⟨e, h2, he, hm⟩ := h
  exact Sha.isP_no n e h2 he hm

set_option maxRecDepth 100000 in
set_option maxHeartbeats 1000000 in
theorem primes_seq (B : Nat) (w0 : World) : SeqInf Try.prog 56 #[] PEl 65 B (fun _ _ _ => True) w0 := by
  intro n l J Jx W hW hJ hJx hY h0
  refine callsIn_of_wp Try.func56 rfl trivial ?_ rfl
  simp only [Try.ntmps56, List.size_toArray, List.length_cons, List.length_nil, Nat.reduceAdd, Nat.reduceSub, Array.replicate_succ, Array.replicate_zero, List.push_toArray, List.append_toArray, List.nil_append, List.cons_append]
  gi_wp2
  gi_loopw [2, 3] (fun i m wr => ∃ k c : Nat, i = .int .i64 k ∧ m = .int .u64 c ∧ 2 ≤ c ∧ c ≤ 313 ∧ k = Sha.cntP c ∧ J k wr ∧ Below B w0 wr) (fun _ m _ => 400 - (intOf m).toNat)
  case atStart => exact ⟨0, 2, rfl, rfl, by omega, by omega, Sha.cntP_two.symm, h0, hW⟩
  case round =>
    obtain ⟨k, c, rfl, rfl, h2, h3, hk, hj, hb⟩ := hrel
    have Hk := Lib.hid hk
    clear hk
    gi_wp2
    gi_loop [4, 5] (fun b d => ∃ (is : Bool) (e : Nat), b = .bool is ∧ d = .int .u64 e ∧ 2 ≤ e ∧ e ≤ 18 ∧ Hid (Tried c e is)) (fun _ d => 400 - (intOf d).toNat)
    case atStart => exact ⟨true, 2, rfl, rfl, by omega, by omega, Lib.hid (by unfold Tried; rw [if_pos rfl]; intro e _ _; omega)⟩
    case round =>
      obtain ⟨is, e, rfl, rfl, he2, he18, ht⟩ := hrel
      have hsq := sq_bd e he18
      have hs17 := sq_le e c he18 h3
      obtain ⟨q, hq⟩ : ∃ q, Hid (e * e = q) := ⟨_, Lib.hid rfl⟩
      have hmul : (e : Int) * (e : Int) = (q : Int) := by rw [← hq.out]; simp
      rw [hq.out] at hsq hs17
      cases is with
      | true =>
        by_cases hle : q ≤ c
        · have hle' : decide ((q : Int) ≤ (c : Int)) = true := by simp; omega
          have hnext := Lib.hid (ht.out.next he2 (by rw [hq.out]; exact hle))
          gi_wp2
          exact ⟨⟨_, e + 1, rfl, by go_num, by omega, by omega, by rw [show decide (0 < (c : Int) % (e : Int)) = decide (0 < c % e) from by rw [Bool.eq_iff_iff]; simp; omega]; exact hnext⟩, by simp [intOf]; omega⟩
        · have hle' : decide ((q : Int) ≤ (c : Int)) = false := by simp; omega
          have hp : Sha.isP c = true := ht.out.yes (by rw [hq.out]; omega)
          obtain ⟨hat, hlt⟩ := Sha.pTab_at c (by omega) h2 hp
          rw [← Hk.out] at hat hlt
          have hsucc := Sha.cntP_succ c h2
          rw [if_pos hp, ← Hk.out] at hsucc
          have hel : PEl k #[.int .i64 k, .int .u64 c] wr := by
            unfold PEl
            rw [hat]
          obtain ⟨fn, tmps, assign, body, hy, hR⟩ := hY k _ wr hlt hj hel hb
          have Hs := Lib.hid hsucc
          clear hat hsucc hp hel
          gi_wp2
          refine hR.mono ?_
          rintro e W' (⟨rfl, hk1, hj', hb', -⟩ | ⟨rfl, hx⟩)
          · have hc : c ≤ 312 := by
              rcases Nat.lt_or_ge c 313 with h | h
              · omega
              · obtain rfl : c = 313 := by omega
                have := Sha.cntP_313.1
                have := Hk.out
                omega
            gi_wp2
            go_roundw
            case rel => exact ⟨k + 1, c + 1, by go_num, by go_num, by omega, by omega, Hs.out.symm, hj', hb.trans hb'⟩
            case measure => simp [intOf]; omega
          · gi_wp2
            refine bodyPost_ret (results_none rfl _ _ _) rfl ?_
            exact ⟨⟨_, rfl⟩, k, hx⟩
      | false =>
        have hp : Sha.isP c = false := ht.out.no
        have hc : c ≤ 312 := by
          rcases Nat.lt_or_ge c 313 with h | h
          · omega
          · obtain rfl : c = 313 := by omega
            rw [Sha.cntP_313.2] at hp
            cases hp
        have hsucc := Sha.cntP_succ c h2
        rw [hp, if_neg (by simp), ← Hk.out] at hsucc
        have Hs := Lib.hid hsucc
        clear hsucc hp
        by_cases hle : q ≤ c
        · have hle' : decide ((q : Int) ≤ (c : Int)) = true := by simp; omega
          gi_wp2
          go_roundw
          case rel => exact ⟨k, c + 1, rfl, by go_num, by omega, by omega, Hs.out.symm, hj, hb⟩
          case measure => simp [intOf]; omega
        · have hle' : decide ((q : Int) ≤ (c : Int)) = false := by simp; omega
          gi_wp2
          go_roundw
          case rel => exact ⟨k, c + 1, rfl, by go_num, by omega, by omega, Hs.out.symm, hj, hb⟩
          case measure => simp [intOf]; omega
end Go.Proofs.Ytamaokokbajlgaa
