/-
  The row of ShaParts: the words at first, the rounds' keys, what stands behind so many bytes, and eight words behind a block, are as the document says.
-/
import Derived.Test.YtamaokokbajlgaaRows
import Derived.Test.YtamaokokbajlgaaShaParts
import Derived.WalkKit
import Derived.ProofKit
import Derived.OpenShut
import Derived.ShutString
import Derived.ChangeOld
import Derived.Below
import Derived.SizedLaws
import Derived.Test.YtamaokokbajlgaaWSized
import Derived.Test.YtamaokokbajlgaaArrIn
namespace Go.Proofs.Ytamaokokbajlgaa.shaParts
open Go.ChangeShapes Go.WideShapes Go.ChangeAt Go.RowKit Go.Proofs.YtamaokokbajlgaaW.PrintWords Go.Proofs.YtamaokokbajlgaaW.PrintLast
open Go.ChangeMaps (open_string shut_string)
set_option linter.unusedVariables false
theorem own : ownKnob Try.prog.godebug = none := by kernel_rfl
theorem laidOut : laidOutB Try.prog = true := by kernel_rfl
def IsRow (k : IntKind) (w : World) (a : Option Addr) (len cap : Nat) (zs : List Int) : Prop :=
  (a = none ∧ len = 0 ∧ cap = 0 ∧ zs = []) ∨
  ∃ x, a = some x ∧ len ≤ cap ∧ cap ≤ maxLen ∧ zs.length = cap ∧ (∀ i, i < zs.length → w.cell? (x.add i) = some (.int k (zs.getD i 0))) ∧ ∀ n ∈ zs, (Lit.int k n).wf = true
set_option maxRecDepth 100000 in
set_option maxHeartbeats 2000000 in
theorem lifted (os : Os) (started : os.Started) (H : Type) (enc : TypeId × Value → H) :
    ReturnsInHanded {} Try.checked os 7 .any (Rows.shaPartsSpec.pre6 enc Try.prog Try.f7 Rows.shaPartsRow.domain false) (Rows.shaPartsSpec.post enc Try.prog Try.f7 false true false false) := by
  refine returnsInHanded_of_change_sized (C := Try.checked) own started (by kernel_rfl) Try.func7
    (ChangeSpec.witness6 (enc := enc) (C := Try.checked) false ⟨#[], #[.agg #[.int .i64 0, .int .i64 0, .int .u32 0, .int .u32 0, .int .u32 0, .int .u32 0, .int .u32 0, .int .u32 0, .int .u32 0, .int .u32 0, .slice none 0 0]], []⟩ 8 (by kernel_rfl) (by kernel_rfl) (by kernel_rfl) (by kernel_rfl)) ?_
  intro W base args ds gs before hval0 hW hcnd hsz0 _
  have hsz : (DataW.weightsEach Try.prog (Try.f7.params.toList ++ Rows.shaPartsSpec.plain.varTypes Try.prog) (ds ++ gs)).all (· ≤ reachBytes) = true := hsz0
  have hval : ∀ (j : Nat) t v, Try.f7.params[j]? = some t → args[j]? = some v → Value.okWide Try.prog W .any base t v := hval0
  have hW' := hW
  obtain ⟨p, q, hA0, hV, rfl, hfz, hnd⟩ := hW
  have hA : DataW.TrodAll enc Try.prog W 0 (fun _ => true) true Try.f7.params.toList args.toList ds p := hA0
  rw [Try.params7] at hA hval hsz
  obtain ⟨v0, vs0, d0, ds0, p0, q0, hargs, rfl, rfl, h0, r0⟩ := trodAll_cons hA
  obtain ⟨rfl, rfl, rfl⟩ := trodAll_nil r0
  obtain rfl : args = #[v0] := by cases args; simp_all
  obtain ⟨rfl, rfl⟩ := trodVars_none hV
  have k0 := h0
  have lt0 : ∀ x ∈ p0, x.block < W.heap.size := by obtain ⟨m, hm⟩ := k0; exact DataW.trod_lt m _ _ _ hm
  obtain ⟨⟨cl⟩, rfl, hs0⟩ := okWide_struct Try.underlying37 (hval 0 _ v0 rfl rfl)
  obtain ⟨fuel, hall⟩ := open_struct Try.underlying37 hs0 h0
  have hn0 : cl.length = 11 := by
    have e : Try.prog.cellsOf 37 = 11 := by kernel_rfl
    rw [e] at hs0
    simpa using hs0
  obtain ⟨ca, cb, c0, c1, c2, c3, c4, c5, c6, c7, cd, rfl⟩ := list11 hn0
  have cI : Try.prog.cellsOf 3 = 1 := by kernel_rfl
  have cH : Try.prog.cellsOf 31 = 8 := by kernel_rfl
  have cB : Try.prog.cellsOf 22 = 1 := by kernel_rfl
  obtain ⟨y0, hy0⟩ := hall _ (List.mem_cons_self ..)
  obtain ⟨y1, hy1⟩ := hall _ (List.mem_cons_of_mem _ (List.mem_cons_self ..))
  obtain ⟨y2, hy2⟩ := hall _ (List.mem_cons_of_mem _ (List.mem_cons_of_mem _ (List.mem_cons_self ..)))
  obtain ⟨y3, hy3⟩ := hall _ (List.mem_cons_of_mem _ (List.mem_cons_of_mem _ (List.mem_cons_of_mem _ (List.mem_cons_self ..))))
  simp only [cI, cH, cB, List.drop_zero, List.drop_succ_cons, List.take_succ_cons, List.take_zero] at hy0 hy1 hy2 hy3
  obtain ⟨i, ei, -, wi⟩ := DataW.trod_int Try.underlying3 hy0
  obtain ⟨n, en, -, -⟩ := DataW.trod_int Try.underlying3 hy1
  obtain ⟨lh, eh, nh, wh⟩ := open_array_cells Try.underlying31 Try.underlying28 (by kernel_rfl) cH rfl hy2
  obtain ⟨m0, m1, m2, m3, m4, m5, m6, m7, rfl⟩ := list8 nh
  simp only [List.map_cons, List.map_nil, List.cons.injEq, and_true] at ei en eh
  obtain ⟨rfl, rfl, rfl, rfl, rfl, rfl, rfl, rfl⟩ := eh
  subst ei
  subst en
  obtain ⟨ab, lenb, capb, rfl, zb, wb⟩ : ∃ a len cap, cd = .slice a len cap ∧ ∃ zs, IsRow .u8 W a len cap zs := by
    rcases open_ints Try.underlying22 Try.underlying5 (by kernel_rfl) hy3 with ⟨hcs, _⟩ | ⟨x, l, c, zs, hcs, _, hl, hm, hz, _, hcell, hwz⟩
    · simp only [List.cons.injEq, and_true] at hcs
      exact ⟨none, 0, 0, hcs, [], .inl ⟨rfl, rfl, rfl, rfl⟩⟩
    · simp only [List.cons.injEq, and_true] at hcs
      exact ⟨some x, l, c, hcs, zs, .inr ⟨_, rfl, hl, hm, by simpa using hz, hcell, hwz⟩⟩
  clear hA0 hval0 hsz0 hsz
  have bi := Go.bounds_i64 wi
  obtain ⟨lb, rfl, hrb, hmb, hwb, hcb⟩ := ReadsInt.ofRowC wb
  have hCb : Kd.C (Kd.int .u8) W ab lb.length lb := Kd.C_of_reads (enc := Value.int .u8) (d := (0 : Int)) (h1 := fun _ => rfl) hrb
  obtain ⟨-, ws0⟩ := agg_words _ wh
  have bn : ∀ x ∈ [m0, m1, m2, m3, m4, m5, m6, m7], 0 ≤ x := fun x hx => (by have := Go.bounds_u32 (wh x hx); omega)
  obtain ⟨x0, rfl⟩ := Int.eq_ofNat_of_zero_le (bn m0 (by simp))
  obtain ⟨x1, rfl⟩ := Int.eq_ofNat_of_zero_le (bn m1 (by simp))
  obtain ⟨x2, rfl⟩ := Int.eq_ofNat_of_zero_le (bn m2 (by simp))
  obtain ⟨x3, rfl⟩ := Int.eq_ofNat_of_zero_le (bn m3 (by simp))
  obtain ⟨x4, rfl⟩ := Int.eq_ofNat_of_zero_le (bn m4 (by simp))
  obtain ⟨x5, rfl⟩ := Int.eq_ofNat_of_zero_le (bn m5 (by simp))
  obtain ⟨x6, rfl⟩ := Int.eq_ofNat_of_zero_le (bn m6 (by simp))
  obtain ⟨x7, rfl⟩ := Int.eq_ofNat_of_zero_le (bn m7 (by simp))
  simp only [List.map_cons, List.map_nil, Int.toNat_natCast] at ws0
  refine (shaParts_calls i n x0 x1 x2 x3 x4 x5 x6 x7 _ _ lb W ws0 (by omega) (by omega) hCb hcb (byteOk_of_wf lb hwb)).mono fun e W' ⟨he, bel⟩ => ?_
  subst he
  exact ⟨_, rfl, _, _, _, [], _, [], hW', trodAll_mk1 (shut_bool Try.underlying4 _), (trodAll_cons_mk (Below.trod laidOut (by kernel_rfl) (of_decide_eq_true (by kernel_rfl)) k0 bel lt0) trodAll_mk0), rfl, bel.frame _, fun h => by cases h⟩
theorem over : Rows.shaPartsRow.holds Try.pinned (OpenSpec.ofChange Rows.shaPartsSpec) :=
  OpenClaim.holds_of_wide 7 Try.f7 rfl rfl rfl rfl rfl rfl rfl ⟨rfl, rfl, rfl, rfl, rfl⟩ rfl rfl rfl rfl rfl (by kernel_rfl) Try.func7 (by kernel_rfl)
    (of_decide_eq_true (by kernel_rfl)) (by unfold Func.isWrapper; first | (rw [if_pos (by decide +kernel)]; kernel_rfl) | (rw [if_neg (by decide +kernel)]; exact ⟨rfl, rfl⟩))
    (fun os started H enc _ => lifted os started H enc)
theorem proved : Rows.ShaPartsSaid := over
#print axioms proved
end Go.Proofs.Ytamaokokbajlgaa.shaParts
namespace Go.Proofs.Ytamaokokbajlgaa
/-- The row, under a short name, for the claim. -/
theorem shaParts_holds : Rows.ShaPartsSaid := shaParts.proved
end Go.Proofs.Ytamaokokbajlgaa
