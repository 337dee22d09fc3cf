/-
  RatchSecrets' struct, opened; plain facts of a chain without spares.
-/
import Derived.Test.YtdklmafkcbjomaaDoorX6
namespace Go.Proofs.YtdklmafkcbjomaaDoor
set_option linter.unusedVariables false
open Go.RowKit Go.Shelf Go.Proofs.YtdklmafkcbjomaaDoorW.PrintWords Go.Proofs.YtdklmafkcbjomaaDoorW.PrintLast Go.Proofs.YtdklmafkcbjomaaDoorW.PrintMore

structure SecretsK where
  l : List Int
  n : Int
  i : Int
  k : Int
def secretsK : Kd SecretsK := Kd.iso (Kd.pair (Kd.slice 5 (Kd.int .u8)) (Kd.pair (Kd.int .u8) (Kd.pair (Kd.int .u8) (Kd.int .u8)))) (fun x : SecretsK => (x.l, x.n, x.i, x.k))
def secretsOk (x : SecretsK) : Prop := byteOk x.l = true ∧ (0 ≤ x.n ∧ x.n < 256) ∧ (0 ≤ x.i ∧ x.i < 256) ∧ (0 ≤ x.k ∧ x.k < 256)
theorem open_uint8 : Opens Tryd.prog 5 (Kd.int .u8) (fun n => 0 ≤ n ∧ n < 256) := (opens_int Tryd.underlying5 (by kernel_rfl)).imp u8_wf
theorem open_secrets : Opens Tryd.prog 58 secretsK secretsOk :=
  (opens_struct Tryd.underlying58 (by kernel_rfl) (opensF_cons open_bytes rfl rfl (opensF_cons open_uint8 rfl rfl (opensF_cons open_uint8 rfl rfl (opensF_one open_uint8 rfl)))) (fun x : SecretsK => (x.l, x.n, x.i, x.k)) (fun p => ⟨p.1, p.2.1, p.2.2.1, p.2.2.2⟩) (fun x => rfl)).imp (fun x h => h)
theorem secrets_open {w : World} {x : SecretsK} {cs : List Value} (h : secretsK.K w x cs) : ∃ A c, cs = [.slice A x.l.length c, .int .u8 x.n, .int .u8 x.i, .int .u8 x.k] ∧ x.l.length ≤ c ∧ Kd.C (Kd.int .u8) w A x.l.length x.l := by
  obtain ⟨_, _, rfl, ⟨A, c, rfl, l0, g0⟩, ⟨_, _, rfl, rfl, ⟨_, _, rfl, rfl, rfl⟩⟩⟩ := h
  exact ⟨A, c, rfl, l0, g0⟩
/-- A chain without spares. -/
theorem good_nil {n : Nat} {s : List Int} (hn : n ≤ 4294967294) (h : s.length = 32) (o : byteOk s = true) : Good n s [] :=
  ⟨hn, h, o, by decide, by intro x hx; simp at hx, by intro x hx; simp at hx, List.Pairwise.nil⟩
theorem takeF_nil (n : Nat) (s : List Int) (hn : n < 4294967294) (h : s.length = 32) (o : byteOk s = true) : takeF n s [] (n : Int) = (n + 1, nextS s n, [], lockS s n, 0) :=
  takeF_next (good_nil (by omega) h o) 0 (by decide) (by omega)
end Go.Proofs.YtdklmafkcbjomaaDoor
