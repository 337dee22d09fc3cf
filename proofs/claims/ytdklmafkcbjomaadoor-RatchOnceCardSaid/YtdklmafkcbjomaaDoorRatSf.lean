/-
  A row of whole numbers of one's own, all of whose block's cells are whole numbers: no other row lies in it.
-/
import Derived.Test.YtdklmafkcbjomaaDoorE8
import Derived.Maps.AppendAt
namespace Go.Proofs.YtdklmafkcbjomaaDoor
set_option linter.unusedVariables false
set_option linter.unusedSimpArgs false
open Go Go.RowKit Go.Shelf Go.Proofs.YtdklmafkcbjomaaDoorW.PrintWords Go.Proofs.YtdklmafkcbjomaaDoorW.PrintLast Go.Proofs.YtdklmafkcbjomaaDoorW.PrintMore Iter

def OwnI (w : World) (base : Nat) (v : Value) (T : List Int) : Prop :=
  ∃ g cap cur, v = .slice (some ⟨g, 0, none⟩) T.length cap ∧ base ≤ g ∧ w.heap[g]? = some (.cells cur 3 (0, 0)) ∧ T.length ≤ cap ∧ cap ≤ maxLen ∧ cur.size = cap ∧ cur.toList.take T.length = nums .i64 T ∧ ∀ u, u ∈ cur → ∃ n, u = .int .i64 n
theorem ownI_new (w : World) (base : Nat) (hb : base ≤ w.heap.size) : OwnI (w.alloc (.cells #[] 3)) base (.slice (some ⟨w.heap.size, 0, none⟩) 0 0) [] :=
  ⟨w.heap.size, 0, #[], rfl, hb, heap_alloc_new w _, Nat.le_refl _, Nat.zero_le _, rfl, rfl, by intro u hu; simp at hu⟩
theorem OwnI.step {w w' : World} {base : Nat} {v : Value} {T : List Int} (h : OwnI w base v T) (hs : ∀ k, v.ownBlock = some k → w'.heap[k]? = w.heap[k]?) : OwnI w' base v T := by
  obtain ⟨g, cap, cur, rfl, h1, h2, h3⟩ := h
  exact ⟨g, cap, cur, rfl, h1, (hs g rfl).trans h2, h3⟩
theorem OwnI.lt {w : World} {base : Nat} {v : Value} {T : List Int} (h : OwnI w base v T) : ∀ k, v.ownBlock = some k → k < w.heap.size := by
  obtain ⟨g, cap, cur, rfl, h1, h2, h3⟩ := h
  intro k hk
  obtain rfl : g = k := by simpa [Value.ownBlock] using hk
  exact (Array.getElem?_eq_some_iff.1 h2).1
theorem OwnI.below {w w' : World} {base : Nat} {v : Value} {T : List Int} (h : OwnI w base v T) (hb : Below w.heap.size w w') : OwnI w' base v T := h.step (fun k hk => hb.block k (h.lt k hk))
theorem OwnI.apart {w : World} {base : Nat} {v : Value} {T : List Int} (h : OwnI w base v T) {a : Addr} {u : Value} (hc : w.cell? a = some u) (hu : ∀ n, u ≠ .int .i64 n) : ∀ k, v.ownBlock = some k → a.block ≠ k := by
  obtain ⟨g, cap, cur, rfl, h1, h2, h3, h4, h5, h6, h7⟩ := h
  intro k hk e
  obtain rfl : g = k := by simpa [Value.ownBlock] using hk
  unfold World.cell? at hc
  rw [e, h2] at hc
  dsimp only at hc
  split at hc
  · exact absurd hc (by simp)
  · obtain ⟨n, hn⟩ := h7 _ (Array.mem_of_getElem? hc)
    exact hu n hn
theorem add_block (a : Addr) (k : Nat) : (a.add k).block = a.block := by unfold Addr.add; split <;> rfl
theorem OwnI.apart_bytes {w : World} {base : Nat} {v : Value} {T : List Int} (h : OwnI w base v T) {a : Addr} {n : Nat} {xs : List Int} (hC : Kd.C (Kd.int .u8) w (some a) n xs) (h0 : 0 < n) : ∀ k, v.ownBlock = some k → a.block ≠ k := by
  obtain ⟨ad, e1, hc⟩ := hC.2.2 h0
  obtain rfl : a = ad := Option.some.inj e1
  have hx : 0 < xs.length := by rw [hC.1]; exact h0
  obtain ⟨c, hl, hr, hcell⟩ := hc 0 _ (List.getElem?_eq_getElem hx)
  have hr : c = [Value.int .u8 xs[0]] := hr
  have := h.apart (hcell 0 (Value.int .u8 xs[0]) (by rw [hr]; rfl)) (by intro n; simp)
  rwa [add_block] at this
theorem OwnI.apart_locks {w : World} {base : Nat} {v : Value} {T : List Int} (h : OwnI w base v T) {a : Addr} {n : Nat} {L : List R.S43} (hC : Kd.C R.k43 w (some a) n L) (h0 : 0 < n) : ∀ k, v.ownBlock = some k → a.block ≠ k := by
  obtain ⟨ad, e1, hc⟩ := hC.2.2 h0
  obtain rfl : a = ad := Option.some.inj e1
  have hx : 0 < L.length := by rw [hC.1]; exact h0
  obtain ⟨c, hl, hr, hcell⟩ := hc 0 _ (List.getElem?_eq_getElem hx)
  obtain ⟨A1, c1, A2, c2, rfl, -, -, -, -⟩ := R.k43_open hr
  have := h.apart (hcell 1 _ rfl) (by intro n; simp)
  rwa [add_block] at this
theorem OwnI.ne_box {w : World} {base : Nat} {v : Value} {T : List Int} (h : OwnI w base v T) {g t : Nat} {cs : Array Value} (hb : Blk w g t cs) (ht : t ≠ 3) : ∀ k, v.ownBlock = some k → g ≠ k := by
  obtain ⟨g', cap, cur, rfl, h1, h2, h3⟩ := h
  intro k hk e
  obtain rfl : g' = k := by simpa [Value.ownBlock] using hk
  subst e
  rw [show w.heap[g]? = _ from hb] at h2
  injection h2 with h2
  injection h2 with _ h4
  exact ht h4
theorem OwnI.reads {w : World} {base : Nat} {v : Value} {T : List Int} (h : OwnI w base v T) : ∃ A c, v = .slice A T.length c ∧ T.length ≤ c ∧ Kd.C (Kd.int .i64) w A T.length T := by
  obtain ⟨g, cap, cur, rfl, h1, h2, h3, h4, h5, h6, h7⟩ := h
  refine ⟨_, _, rfl, h3, rfl, Nat.le_trans h3 (by unfold maxLen at h4; omega), fun h0 => ⟨_, rfl, fun j p hj => ⟨[.int .i64 p], rfl, rfl, fun i u hi => ?_⟩⟩⟩
  obtain ⟨hi0, rfl⟩ : i = 0 ∧ u = .int .i64 p := by
    cases i with
    | zero => simpa [eq_comm] using hi
    | succ i => simp at hi
  subst hi0
  have hjT := (List.getElem?_eq_some_iff.1 hj).1
  have hcj : cur[j]? = some (.int .i64 p) := by
    have h8 : (cur.toList.take T.length)[j]? = some (.int .i64 p) := by
      rw [h6]
      simp only [nums, List.getElem?_map, hj, Option.map_some]
    rw [List.getElem?_take, if_pos hjT] at h8
    simpa using h8
  have := cell_of_row w g j cur 3 (0, 0) h2
  rw [hcj] at this
  show w.cell? ((⟨g, 0, none⟩ : Addr).add (j * 1 + 0)) = _
  rw [Nat.mul_one, Nat.add_zero, add_plain]
  exact this
theorem mem_zeroCells (u : Value) (n : Nat) (h : u ∈ Builtin.zeroCells #[.int .i64 0] n) : u = .int .i64 0 := by
  simp only [Builtin.zeroCells, Array.mem_map] at h
  obtain ⟨i, -, rfl⟩ := h
  simp [Nat.mod_one]
theorem infoInt : (Tryd.prog.info? 3).map (fun i => (i.zero, i.size, i.bytes)) = some (some (.int .i64 0), 1, 8) := by kernel_rfl
theorem wpList_append_ints {ops : Array Oper} {rest : List Oper} {o : Oper} {a : Act} {Q : Exit → Act → World → Prop} {W : World} (base : Nat) (hgd : o.guard = none) (s x : Operand)
    (ho : o.op = .call { callee := .builtin .append, args := #[s, x], argTypes := #[50, 50] }) (v : Value) (T : List Int) (y : Int) (hs : a.eval s = v) (hx : a.eval x = .slice (some ⟨W.heap.size, 0, none⟩) 1 1)
    (HO : OwnI W base v T) (hbase : base ≤ W.heap.size) (hl : T.length ≤ 1000)
    (h : ∀ v1 w1, OwnI w1 base v1 (T ++ [y]) → Below base W w1 → (∀ b, b < W.heap.size → v.ownBlock ≠ some b → w1.heap[b]? = W.heap[b]?) → wpList Tryd.prog ops Q rest (a.put o.dst v1) w1) :
    wpList Tryd.prog ops Q (o :: rest) a (W.alloc (.cells #[.int .i64 y] 3)) := by
  obtain ⟨i, hi, hz⟩ := Option.map_eq_some_iff.1 infoInt
  simp only [Prod.mk.injEq] at hz
  obtain ⟨hz0, hz1, hz2⟩ := hz
  have HO' := HO.below ((Below.refl _ W).alloc (Nat.le_refl _) (.cells #[.int .i64 y] 3))
  obtain ⟨g, cap, cur, rfl, h1, h2, h3, h4, h5, h6, h7⟩ := HO'
  have hgW : g < W.heap.size := HO.lt g rfl
  have hnl : (nums IntKind.i64 T).length = T.length := nums_length _ _
  have hrun : ∃ v1 w1, (Builtin.append_ #[50, 50] o.type #[.slice (some ⟨g, 0, none⟩) T.length cap, .slice (some ⟨W.heap.size, 0, none⟩) 1 1]).run Tryd.prog (W.alloc (.cells #[.int .i64 y] 3)) = .ok v1 w1 ∧ OwnI w1 base v1 (T ++ [y]) ∧ Below base W w1 ∧ ∀ b, b < W.heap.size → (Value.slice (some ⟨g, 0, none⟩) T.length cap).ownBlock ≠ some b → w1.heap[b]? = W.heap[b]? := by
    by_cases hroom : T.length + 1 ≤ cap
    · have hr := run_append_room (P := Tryd.prog) (W.alloc (.cells #[.int .i64 y] 3)) 50 o.type 3 i Tryd.underlying50 hi g T.length cap cur h2 ⟨W.heap.size, 0, none⟩ 1 1 [.int .i64 y] (by rw [hz1]; rfl) (cell_one_new W _ _) (by intro u hu; obtain rfl : u = .int .i64 y := (by simpa using hu); rfl) hroom (by rw [hz1, h5]; simp; omega)
      refine ⟨_, _, hr, ?_, ?_, ?_⟩
      · refine ⟨g, cap, (cur.toList.take (T.length * i.size) ++ [Value.int .i64 y] ++ cur.toList.drop (T.length * i.size + 1)).toArray, by simp, h1, setRow_heap _ g cur _ 3 _ h2, by simpa using hroom, h4, ?_, ?_, ?_⟩
        · rw [hz1, Nat.mul_one]
          simp only [List.size_toArray, List.length_append, List.length_take, List.length_drop, Array.length_toList, List.length_cons, List.length_nil]
          omega
        · rw [hz1, Nat.mul_one, h6, nums_append, List.length_append]
          have e : T.length + [y].length = (nums IntKind.i64 T ++ [Value.int IntKind.i64 y]).length := by rw [List.length_append, hnl]; rfl
          rw [e]
          exact List.take_left
        · intro u hu
          rw [hz1, Nat.mul_one] at hu
          simp only [List.mem_toArray, List.mem_append, List.mem_cons, List.not_mem_nil, or_false] at hu
          rcases hu with (hu | rfl) | hu
          · exact h7 u (by simpa using List.mem_of_mem_take hu)
          · exact ⟨y, rfl⟩
          · exact h7 u (by simpa using List.mem_of_mem_drop hu)
      · have hb0 : Below base W (W.alloc (.cells #[.int .i64 y] 3)) := (Below.refl _ W).alloc hbase _
        exact ⟨hb0.os, hb0.tape, hb0.output, by simp, fun k hk => (setRow_other _ g k _ (by omega)).trans (hb0.block k hk)⟩
      · intro b hb hne
        have hgb : b ≠ g := fun e => hne (by rw [e]; rfl)
        exact (setRow_other _ g b _ hgb).trans (Below.heap_alloc W _ b hb)
    · have hc : cap = T.length := by omega
      have holds : ∀ j u, (nums IntKind.i64 T)[j]? = some u → (W.alloc (.cells #[.int .i64 y] 3)).cell? ((⟨g, 0, none⟩ : Addr).add j) = some u := by
        intro j u hj
        have hjT : j < T.length := by have := (List.getElem?_eq_some_iff.1 hj).1; rw [hnl] at this; exact this
        rw [add_plain]
        have := cell_of_row (W.alloc (.cells #[.int .i64 y] 3)) g j cur 3 (0, 0) h2
        rw [this]
        rw [← h6, List.getElem?_take, if_pos hjT] at hj
        simpa using hj
      have hr := run_append_grow (P := Tryd.prog) (W.alloc (.cells #[.int .i64 y] 3)) 50 o.type 3 i (.int .i64 0) Tryd.underlying50 hi hz0 ⟨g, 0, none⟩ T.length cap (nums .i64 T) (by rw [hz1, hnl, Nat.mul_one]) holds ⟨W.heap.size, 0, none⟩ 1 1 [.int .i64 y] (by rw [hz1]; rfl) (cell_one_new W _ _) (by omega) (by omega) (growslice_fits (by omega) (by rw [hz2]; omega))
      have hge := grownCap_ge (W.alloc (.cells #[.int .i64 y] 3)) (T.length + 1) cap 3
      have hcm : grownCap (W.alloc (.cells #[.int .i64 y] 3)) (T.length + 1) cap 3 ≤ maxLen := grownCap_le_maxLen _ _ _ _ (by unfold maxLen; omega)
      refine ⟨_, _, hr, ?_, ?_, ?_⟩
      · refine ⟨_, _, _, by simp, ?_, heap_alloc_new (W.alloc (.cells #[.int .i64 y] 3)).drew _, by simpa using hge, hcm, ?_, ?_, ?_⟩
        · simp
          omega
        · simp only [Array.size_append, List.size_toArray, size_zeroCells, hnl, show (Value.int IntKind.i64 0).cells.size = 1 from rfl, List.length_cons, List.length_nil]
          omega
        · simp only [Array.toList_append, List.append_assoc]
          rw [nums_append, List.length_append, ← List.append_assoc]
          have e : T.length + [y].length = (nums IntKind.i64 T ++ [Value.int IntKind.i64 y]).length := by rw [List.length_append, hnl]; rfl
          rw [e]
          exact List.take_left
        · intro u hu
          simp only [Array.mem_append, List.mem_toArray, List.mem_cons, List.not_mem_nil, or_false] at hu
          rcases hu with (hu | rfl) | hu
          · simp only [nums, List.mem_map] at hu
            obtain ⟨n, -, rfl⟩ := hu
            exact ⟨n, rfl⟩
          · exact ⟨y, rfl⟩
          · exact ⟨0, mem_zeroCells u _ hu⟩
      · exact (((Below.refl _ W).alloc hbase _).drew).alloc (by simp; omega) _
      · intro b hb hne
        exact (Below.heap_alloc (W.alloc (.cells #[.int .i64 y] 3)).drew _ b (by simp; omega)).trans (Below.heap_alloc W _ b hb)
  refine wpList_plain hgd fun K hK => ?_
  obtain ⟨v1, w1, hr, k1, k2, k3⟩ := hrun
  unfold Oper.wp execOp
  simp only [ho, resolve, invoke, builtin, Sem.run_bind, Sem.run_pure, Result.andThen_ok, List.map_toArray, List.map_cons, List.map_nil, hs, hx, hr]
  exact hK _ _ (h v1 w1 k1 k2 k3)
end Go.Proofs.YtdklmafkcbjomaaDoor
