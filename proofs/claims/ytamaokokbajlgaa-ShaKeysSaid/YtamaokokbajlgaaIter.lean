/-
  For loops over functions that never end by themselves: the loop's body must leave. Plain laws over the kit's own words.
-/
import Derived.RangeFuncNested
import Derived.RangeFuncLeaves
import Derived.Shelf.Abstract
import Derived.Laws.Rows
import Derived.Laws.Tables
import Derived.TacticsIn
namespace Go.Proofs.Ytamaokokbajlgaa.Iter
open Go Go.RowKit

/-- What is cells lies as it lay. -/
structure KeepsCells (W W' : World) : Prop where
  os : W'.os = W.os
  tape : W'.tape = W.tape
  output : W'.output = W.output
  size : W.heap.size ≤ W'.heap.size
  same : ∀ (k : Nat) (o : Obj), W.heap[k]? = some o → o.isCells = true → W'.heap[k]? = some o

theorem KeepsCells.refl (W : World) : KeepsCells W W := ⟨rfl, rfl, rfl, Nat.le_refl _, fun _ _ h _ => h⟩
theorem KeepsCells.trans {A B C : World} (h : KeepsCells A B) (k : KeepsCells B C) : KeepsCells A C :=
  ⟨k.os.trans h.os, k.tape.trans h.tape, k.output.trans h.output, Nat.le_trans h.size k.size, fun i o hi ho => k.same i o (h.same i o hi ho) ho⟩
theorem KeepsCells.of_below {W W' : World} (h : Below W.heap.size W W') : KeepsCells W W' :=
  ⟨h.os, h.tape, h.output, h.size, fun k _ hk _ => (h.block k (Array.getElem?_eq_some_iff.1 hk).1).trans hk⟩
theorem KeepsCells.putObj {W : World} {r : Nat} {o : Obj} (o' : Obj) (h : W.heap[r]? = some o) (hw : o.isCells = false) : KeepsCells W (W.putObj r o') :=
  ⟨rfl, rfl, rfl, by simp, fun k x hk hx => by
    by_cases e : k = r
    · subst e
      rw [h] at hk
      cases hk
      rw [hw] at hx
      cases hx
    · exact (World.putObj_heap_other e).trans hk⟩
theorem KeepsCells.cell {W W' : World} (h : KeepsCells W W') {a : Addr} {v : Value} (hc : W.cell? a = some v) : W'.cell? a = some v := by
  obtain ⟨o, ho, hcells⟩ := cells_of_cell hc
  exact (World.cell?_of_block ((h.same _ _ ho hcells).trans ho.symm)).trans hc
theorem below_putObj {B : Nat} {W : World} {r : Nat} (o : Obj) (h : B ≤ r) : Below B W (W.putObj r o) :=
  ⟨rfl, rfl, rfl, by simp, fun k hk => World.putObj_heap_other (by omega)⟩

def CellOwn {β : Type} (I : β → World → Prop) : Prop := ∀ s W W', I s W → KeepsCells W W' → I s W'

/-- A function value to range over that gives its elements one by one, without an end: the loop's body must leave before the N-th. El k: what is handed over in round k. Kp: what the body keeps of an element. -/
def SeqInf (P : Program) (g : Nat) (lb : Array Value) (El : Nat → Array Value → World → Prop) (N B : Nat) (Kp : Array Value → World → World → Prop) (w0 : World) : Prop :=
  ∀ (n l : Nat) (J Jx : Nat → World → Prop) (W : World), Below B w0 W →
    (∀ k W W', J k W → Below W.heap.size W W' → J k W') → (∀ k W W', Jx k W → Below W.heap.size W W' → Jx k W') →
    (∀ k args W1, k < N → J k W1 → El k args W1 → Below B w0 W1 → YieldAt Fence.wide n P l args W1 fun e W' =>
      (e = .returned (.bool true) ∧ k + 1 < N ∧ J (k + 1) W' ∧ Below B W1 W' ∧ Kp args W1 W') ∨ (e = .returned (.bool false) ∧ Jx k W')) →
    J 0 W →
    CallsIn Fence.wide (n + 1) P g (#[.func (.yield l) #[] #[]] ++ lb) W fun e W' => (∃ v, e = .returned v) ∧ ∃ k, Jx k W'

/-- How a round's body may be left. -/
def infPost (N B : Nat) (Kp : Array Value → World → World → Prop) (I : Nat → World → Prop) (Ix : Code → Nat → World → Prop) (k : Nat) (args : Array Value) (W : World) : Exit → Act → World → Prop
  | .normal, _, W' => KeepsOthers W W' ∧ k + 1 < N ∧ I (k + 1) W' ∧ Below B W W' ∧ Kp args W W'
  | .ret, _, W' => KeepsOthers W W' ∧ Ix .ret k W' ∧ Below B W W'
  | .exit id, _, W' => KeepsOthers W W' ∧ Ix (.exit id) k W' ∧ Below B W W'
  | .goto t, _, W' => KeepsOthers W W' ∧ Ix (.goto t) k W' ∧ Below B W W'
  | .panic _, _, _ => False
  | .outgrown, _, _ => False

variable {P : Program} {n : Nat}

theorem wpIn_range_inf {g : Operand} {ps : Array Tmp} {assign body : Code} {Q : Exit → Act → World → Prop} {a : Act} {w : World}
    {gf : Nat} {lb : Array Value} (hg : a.eval g = .func (.func gf) #[] lb) (eg : ∀ args w, (callFunc gf args).run P w = .ok (.enter gf args) w)
    {El : Nat → Array Value → World → Prop} {N B : Nat} {Kp : Array Value → World → World → Prop} {w0 : World}
    (hseq : SeqInf P gf lb El N B Kp w0) (hb0 : Below B w0 w) (hB : B ≤ w.heap.size)
    (hps : ∀ k args W, El k args W → args.size = ps.size)
    (hEl : ∀ k args W W', El k args W → KeepsCells W W' → El k args W')
    (hKp : ∀ args A A' C C', KeepsCells A A' → KeepsCells C C' → Kp args A' C → Kp args A C')
    (I : Nat → World → Prop) (Ix : Code → Nat → World → Prop) (hI : CellOwn I) (hIx : ∀ c, CellOwn (Ix c)) (h0 : I 0 w)
    (a₁ : Array Value → Act)
    (hassign : ∀ (l k : Nat) (args : Array Value) (W : World) (K : Act → World → Prop), El k args W → K (a₁ args) W →
      assign.wpIn (Fence.wide.inRound l) n P (Exit.then K (fun _ _ _ => False)) { tmps := (ps.zip args).foldl (fun t (p, v) => t.setIfInBounds p v) a.tmps, defers := [] } W)
    (hbody : ∀ (l k : Nat) (args : Array Value) (W : World), k < N → I k W → El k args W → Below B w0 W → body.wpIn (Fence.wide.inRound l) n P (infPost N B Kp I Ix k args W) (a₁ args) W)
    (hstop : ∀ (D : Nat) (c : Code) (k : Nat) (W : World), Ix c k W → Below B w0 W → W.heap[D]? = some (.deferred (some [])) → w.heap.size ≤ D →
      c.wpIn Fence.wide (n + 2) P Q { a with defers := { target := .collected D, args := #[] } :: a.defers } W) :
    (Code.rangeFunc g ps assign body).wpIn Fence.wide (n + 2) P Q a w := by
  refine wpIn_rangeFunc ?_
  intro fn hfn
  show ∃ (l : Nat) (mark : List Deferred) (w₁ : World) (d : Deferred) (w₁' : World) (f : FuncId) (args : Array Value) (w₂ : World),
      (Instr.enterLoop fn a.tmps ps assign body none).run P w = .ok (l, mark) w₁ ∧ _
  obtain ⟨rec, hrec⟩ : ∃ rec : LoopState → Option Code → Loop, rec = fun st pe => { state := st, pending := pe, fn, tmps := a.tmps, params := ps, assign, body, defers := w.heap.size } := ⟨_, rfl⟩
  obtain ⟨W1, hW1⟩ : ∃ W1, (w.alloc (.deferred (some []))).alloc (.loop (rec .ready none)) = W1 := ⟨_, rfl⟩
  have hL1 : W1.heap[w.heap.size + 1]? = some (.loop (rec .ready none)) := by
    rw [← hW1]
    have := World.alloc_heap_new (w.alloc (.deferred (some []))) (.loop (rec .ready none))
    rwa [World.size_alloc] at this
  have hD1 : W1.heap[w.heap.size]? = some (.deferred (some [])) := by
    rw [← hW1]
    exact (Below.heap_alloc _ _ _ (by simp)).trans (World.alloc_heap_new w _)
  have hg1 : Below w.heap.size w W1 := by
    rw [← hW1]
    exact ((Below.refl _ w).alloc (Nat.le_refl _) _).alloc (by simp) _
  have hI1 : I 0 W1 := hI _ _ _ h0 (KeepsCells.of_below hg1)
  have hb1 : Below B w0 W1 := hb0.trans (hg1.mono hB)
  refine ⟨w.heap.size + 1, [{ target := .collected w.heap.size, args := #[] }], W1, { target := .fn (.func gf) lb, args := #[.func (.yield (w.heap.size + 1)) #[] #[]] }, W1, gf,
    #[.func (.yield (w.heap.size + 1)) #[] #[]] ++ lb, W1, ?_, ?_, fun _ _ => trivial, ?_, fun h => by simp [Fence.wide] at h, ?_⟩
  · rw [← hW1, hrec]
    exact run_enterLoop_outer _ _ _ _ _
  · simp only [resolve, hg]
    simp [go_sem]
  · simp [invoke, go_sem, eg]
  · have hlt1 : w.heap.size + 1 < W1.heap.size := (Array.getElem?_eq_some_iff.1 hL1).1
    refine (hseq n (w.heap.size + 1)
      (fun k W => I k W ∧ W.heap[w.heap.size + 1]? = some (.loop (rec .ready none)) ∧ W.heap[w.heap.size]? = some (.deferred (some [])) ∧ Below B w0 W)
      (fun k W => ∃ c, Ix c k W ∧ W.heap[w.heap.size + 1]? = some (.loop (rec .done (some c))) ∧ W.heap[w.heap.size]? = some (.deferred (some [])) ∧ Below B w0 W)
      W1 hb1
      (fun k A C hs hAC => ⟨hI _ _ _ hs.1 (KeepsCells.of_below hAC), (hAC.block _ (Array.getElem?_eq_some_iff.1 hs.2.1).1).trans hs.2.1, (hAC.block _ (Array.getElem?_eq_some_iff.1 hs.2.2.1).1).trans hs.2.2.1, hs.2.2.2.trans (hAC.mono (by have h1 := (Array.getElem?_eq_some_iff.1 hs.2.1).1; omega))⟩)
      (fun k A C hs hAC => by
        obtain ⟨c, hc, hl, hk, hw⟩ := hs
        exact ⟨c, hIx c _ _ _ hc (KeepsCells.of_below hAC), (hAC.block _ (Array.getElem?_eq_some_iff.1 hl).1).trans hl, (hAC.block _ (Array.getElem?_eq_some_iff.1 hk).1).trans hk, hw.trans (hAC.mono (by have h1 := (Array.getElem?_eq_some_iff.1 hl).1; omega))⟩)
      ?_ ⟨hI1, hL1, hD1, hb1⟩).mono ?_
    · rintro k args W hkN ⟨hi, hl, hd, _⟩ hel hbW
      have hlt : w.heap.size + 1 < W.heap.size := (Array.getElem?_eq_some_iff.1 hl).1
      have hy := run_yield (P := P) (args := args) hl (by rw [hrec]; exact hps _ _ _ hel)
      rw [hrec] at hy
      refine ⟨fn, _, assign, body, hy, roundIn_of_wpIn hfn (hassign _ k args W _ hel ⟨_, run_beginRound hl (by rw [hrec]), ?_⟩)⟩
      obtain ⟨W2, hW2⟩ : ∃ W2, W.putObj (w.heap.size + 1) (.loop { rec .ready none with state := .busy }) = W2 := ⟨_, rfl⟩
      rw [hW2]
      have hl2 : W2.heap[w.heap.size + 1]? = some (.loop { rec .ready none with state := .busy }) := by
        rw [← hW2]
        exact World.putObj_heap_same hlt
      have hd2 : W2.heap[w.heap.size]? = some (.deferred (some [])) := by
        rw [← hW2]
        exact (World.putObj_heap_other (by omega)).trans hd
      have kc2 : KeepsCells W W2 := by
        rw [← hW2]
        exact KeepsCells.putObj _ hl rfl
      have hb2 : Below B W W2 := by
        rw [← hW2]
        exact below_putObj _ (by omega)
      refine wpIn_mono (hbody _ k args W2 hkN (hI _ _ _ hi kc2) (hEl _ _ _ _ hel kc2) (hbW.trans hb2)) ?_
      have fin : ∀ (jump : Option Code) (W3 : World), KeepsOthers W2 W3 → ∃ W4, (Instr.endRound (w.heap.size + 1) jump).run P W3 = .ok (.bool jump.isNone) W4 ∧
          KeepsCells W3 W4 ∧ Below B W3 W4 ∧ W4.heap[w.heap.size + 1]? = some (.loop (rec (if jump.isNone then .ready else .done) jump)) ∧ W4.heap[w.heap.size]? = some (.deferred (some [])) := fun jump W3 hk3 => by
        have hl3 := hk3.same _ _ hl2 rfl
        have hrun := run_endRound (P := P) jump hl3
        refine ⟨W3.putObj (w.heap.size + 1) (.loop (rec (if jump.isNone then .ready else .done) jump)), ?_, KeepsCells.putObj _ hl3 rfl, below_putObj _ (by omega), World.putObj_heap_same (Array.getElem?_eq_some_iff.1 hl3).1, (World.putObj_heap_other (by omega)).trans (hk3.same _ _ hd2 rfl)⟩
        rw [hrec] at hrun ⊢
        exact hrun
      rintro e a3 W3 hp
      cases e with
      | normal =>
        obtain ⟨hk3, hkn, hi3, hb3, hkp3⟩ := hp
        obtain ⟨W4, hr, kc4, hb4, hl4, hd4⟩ := fin none W3 hk3
        exact ⟨_, _, hr, .inl ⟨rfl, hkn, ⟨hI _ _ _ hi3 kc4, hl4, hd4, ((hbW.trans hb2).trans hb3).trans hb4⟩, (hb2.trans hb3).trans hb4, hKp _ _ _ _ _ kc2 kc4 hkp3⟩⟩
      | ret =>
        obtain ⟨hk3, hi3, hb3⟩ := hp
        obtain ⟨W4, hr, kc4, hb4, hl4, hd4⟩ := fin (some .ret) W3 hk3
        exact ⟨_, _, hr, .inr ⟨rfl, .ret, hIx _ _ _ _ hi3 kc4, hl4, hd4, ((hbW.trans hb2).trans hb3).trans hb4⟩⟩
      | exit id =>
        obtain ⟨hk3, hi3, hb3⟩ := hp
        obtain ⟨W4, hr, kc4, hb4, hl4, hd4⟩ := fin (some (.exit id)) W3 hk3
        exact ⟨_, _, hr, .inr ⟨rfl, .exit id, hIx _ _ _ _ hi3 kc4, hl4, hd4, ((hbW.trans hb2).trans hb3).trans hb4⟩⟩
      | goto t =>
        obtain ⟨hk3, hi3, hb3⟩ := hp
        obtain ⟨W4, hr, kc4, hb4, hl4, hd4⟩ := fin (some (.goto t)) W3 hk3
        exact ⟨_, _, hr, .inr ⟨rfl, .goto t, hIx _ _ _ _ hi3 kc4, hl4, hd4, ((hbW.trans hb2).trans hb3).trans hb4⟩⟩
      | panic ch => exact hp.elim
      | outgrown => exact hp.elim
    · rintro e W2 ⟨⟨v, rfl⟩, k, c, hi, hl, hd, hbe⟩
      have hrun := run_endLoop (P := P) hl (by rw [hrec]; simp)
      rw [hrec] at hrun
      refine ⟨some c, _, hrun, ?_⟩
      exact hstop _ c k _ (hIx c _ _ _ hi (KeepsCells.putObj _ hl rfl)) (hbe.trans (below_putObj _ (by omega))) ((World.putObj_heap_other (by omega)).trans hd) (Nat.le_refl _)

/-! A whole array, loaded and stored, in a fence. -/
theorem wpListIn_load_row {F : Fence} {ops : Array Oper} {rest : List Oper} {o : Oper} {a : Act} {w : World} {Q : Exit → Act → World → Prop} (hgd : o.guard = none) (ty : TypeId) (x : Operand) (ho : o.op = .load ty x)
    (g : Nat) (hx : a.eval x = .pointer (some ⟨g, 0, none⟩)) (t : TypeId) (cs : Array Value) (fr : Nat × Nat) (d : TypeDesc) (hg : w.heap[g]? = some (.cells cs t fr))
    (hu : P.underlying ty = some d) (hd : (match d with | .struct _ | .array _ _ => true | _ => false) = true) (hi : (P.info? ty).map (·.size) = some cs.size)
    (h : wpListIn F n P ops Q rest (a.put o.dst (.agg cs)) w) : wpListIn F n P ops Q (o :: rest) a w := by
  refine wpListIn_plain hgd fun K hK => ?_
  refine ⟨fun f hf => by simp [Oper.about, ho] at hf, ?_⟩
  rw [Oper.semAt_eq _ _ _ (by rw [ho]; intro c hc; cases hc)]
  unfold execOp
  simp only [ho, hx, Instr.loadAt, Instr.sureAddr, Sem.run_bind, Sem.run_pure, Result.andThen_ok, run_loadVar_row w g t ty cs fr d hg hu hd hi]
  exact hK _ _ h
theorem wpListIn_store_row {F : Fence} {ops : Array Oper} {rest : List Oper} {o : Oper} {a : Act} {w : World} {Q : Exit → Act → World → Prop} (hgd : o.guard = none) (ty : TypeId) (x y : Operand) (ho : o.op = .store ty x y)
    (g : Nat) (cells : Array Value) (hx : a.eval x = .pointer (some ⟨g, 0, none⟩)) (hy : a.eval y = .agg cells)
    (t : TypeId) (old : Array Value) (hg : w.heap[g]? = some (.cells old t (0, 0))) (hi : (P.info? ty).map (·.size) = some cells.size)
    (hold : old.size = cells.size) (h1 : cells.all (·.oneCell') = true)
    (h : wpListIn F n P ops Q rest (a.put o.dst undef) (w.setRow g cells)) : wpListIn F n P ops Q (o :: rest) a w := by
  refine wpListIn_plain hgd fun K hK => ?_
  refine ⟨fun f hf => by simp [Oper.about, ho] at hf, ?_⟩
  rw [Oper.semAt_eq _ _ _ (by rw [ho]; intro c hc; cases hc)]
  unfold execOp
  simp only [ho, hx, hy, Instr.storeAt, Instr.sureAddr, Sem.run_bind, Sem.run_pure, Result.andThen_ok, run_storeVar_row w g t ty old cells hg hi hold h1]
  exact hK _ _ h
theorem below_setRow {B : Nat} {W : World} {g : Nat} (cs : Array Value) (h : B ≤ g) : Below B W (W.setRow g cs) :=
  ⟨rfl, rfl, rfl, by simp, fun k hk => by
    show (W.heap.modify g _)[k]? = W.heap[k]?
    rw [Array.getElem?_modify, if_neg (by omega)]⟩

end Go.Proofs.Ytamaokokbajlgaa.Iter
