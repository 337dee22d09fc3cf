/-
  RatchOnce, between its rounds: what a place's taking leaves of the rows.
-/
import Derived.Test.YtdklmafkcbjomaaDoorRatSe
import Derived.Test.YtdklmafkcbjomaaDoorRatSf
namespace Go.Proofs.YtdklmafkcbjomaaDoor
set_option linter.unusedVariables false
set_option linter.unusedSimpArgs false
open Go Go.RowKit Go.Shelf Go.Proofs.YtdklmafkcbjomaaDoorW.PrintWords Go.Proofs.YtdklmafkcbjomaaDoorW.PrintLast Go.Proofs.YtdklmafkcbjomaaDoorW.PrintMore Iter

theorem OwnI.C {w : World} {base n c : Nat} {A : Option Addr} {T : List Int} (h : OwnI w base (.slice A n c) T) : Kd.C (Kd.int .i64) w A T.length T := by
  obtain ⟨A', c', e, -, hC⟩ := h.reads
  injection e with e1
  rw [e1]
  exact hC
theorem cell_in {W : World} {a : Addr} {g t : Nat} {cs : Array Value} (hb : Blk W g t cs) (e : a.block = g) (k : Nat) (u : Value) (h : W.cell? (a.add k) = some u) : cs[a.off + k]? = some u := by
  unfold World.cell? at h
  rw [add_block, e, show W.heap[g]? = _ from hb] at h
  unfold Addr.add at h
  dsimp only at h
  by_cases hk : k = 0
  · subst hk
    simp only [if_true] at h
    split at h
    · exact absurd h (by simp)
    · exact h
  · simp only [if_neg hk] at h
    exact h
theorem locks_apart_chain {W : World} {a : Addr} {n : Nat} {L : List R.S43} (h : Kd.C R.k43 W (some a) n L) (h0 : 0 < n) (hk : ∀ x, x ∈ L → x.f1.length = 32 ∧ x.f2.length = 12) {g t : Nat} {N : Int} {A1 A2 : Option Addr} {s c1 m c2 : Nat} (hb : Blk W g t #[.int .i64 N, .slice A1 s c1, .slice A2 m c2]) (hm : m ≤ L.length + 1) : a.block ≠ g := by
  intro e
  obtain ⟨ad, e1, hc⟩ := h.2.2 h0
  obtain rfl : a = ad := Option.some.inj e1
  have hx : 0 < L.length := by rw [h.1]; exact h0
  obtain ⟨c, hl, hr, hcell⟩ := hc 0 _ (List.getElem?_eq_getElem hx)
  obtain ⟨D1, d1, D2, d2, rfl, -, -, -, -⟩ := R.k43_open hr
  have h2 := cell_in hb e _ _ (hcell 2 _ rfl)
  have hoff : a.off = 0 := by
    have := (Array.getElem?_eq_some_iff.1 h2).1
    simp at this
    omega
  rw [hoff] at h2
  have h12 := (hk _ (List.getElem_mem hx)).2
  rw [show (#[Value.int IntKind.i64 N, .slice A1 s c1, .slice A2 m c2] : Array Value)[0 + (0 * R.k43.sz + 2)]? = some (.slice A2 m c2) from by simp] at h2
  injection h2 with h2
  injection h2 with _ h3
  have hx1 : 1 < L.length := by omega
  obtain ⟨c', hl', hr', hcell'⟩ := hc 1 _ (List.getElem?_eq_getElem hx1)
  obtain ⟨D3, d3, D4, d4, rfl, -, -, -, -⟩ := R.k43_open hr'
  have h4 := cell_in hb e _ _ (hcell' 0 _ rfl)
  have h5 := (Array.getElem?_eq_some_iff.1 h4).1
  have h6 : a.off + (1 * R.k43.sz + 0) = 3 := by rw [hoff]; rfl
  rw [h6] at h5
  simp at h5
theorem locks_sub {W W' : World} {ok : Nat → Prop} {A : Option Addr} {n : Nat} {L : List R.S43} (h : Kd.C R.k43 W A n L) (hs : ∀ b, ok b → W'.heap[b]? = W.heap[b]?) (hA : 0 < n → ∀ a, A = some a → ok a.block) (hB : ∀ (a : Addr) (m : Nat) (xs : List Int), Kd.C (Kd.int .u8) W (some a) m xs → 0 < m → ok a.block) : Kd.C R.k43 W' A n L := by
  refine ⟨h.1, h.2.1, fun h0 => ?_⟩
  obtain ⟨ad, e, hc⟩ := h.2.2 h0
  have ha := hA h0 ad e
  refine ⟨ad, e, fun j p hj => ?_⟩
  obtain ⟨c, hl, hr, hcell⟩ := hc j p hj
  have hC : ∀ {B : Option Addr} {m : Nat} {xs : List Int}, Kd.C (Kd.int .u8) W B m xs → Kd.C (Kd.int .u8) W' B m xs := fun hC => C_sub hC (fun h0 a ha => by subst ha; exact hs _ (hB _ _ _ hC h0))
  obtain ⟨A1, c1, A2, c2, rfl, l1, h1, l2, h2⟩ := R.k43_open hr
  exact ⟨_, hl, R.k43_mk W' p l1 (hC h1) l2 (hC h2), fun i u hi => (World.cell?_of_block (by rw [add_block]; exact hs _ ha)).trans (hcell i u hi)⟩
theorem locks_lt {W : World} {a : Addr} {n : Nat} {L : List R.S43} (h : Kd.C R.k43 W (some a) n L) (h0 : 0 < n) : a.block < W.heap.size := by
  obtain ⟨ad, e1, hc⟩ := h.2.2 h0
  obtain rfl : a = ad := Option.some.inj e1
  have hx : 0 < L.length := by rw [h.1]; exact h0
  obtain ⟨c, hl, hr, hcell⟩ := hc 0 _ (List.getElem?_eq_getElem hx)
  obtain ⟨A1, c1, A2, c2, rfl, -, -, -, -⟩ := R.k43_open hr
  have := World.block_lt_of_cell? W _ (hcell 0 _ rfl)
  rwa [add_block] at this
/-- What the next round wants of the memory. -/
def OnceM (w : World) (base : Nat) (gc : Nat) (cs : Array Value) (v : Value) (T : List Int) (B1 : Option Addr) (S : List Int) (B2 : Option Addr) (M : List R.S43) (W : World) : Prop :=
  Kd.C (Kd.int .u8) W B1 S.length S ∧ Kd.C R.k43 W B2 M.length M ∧ Blk W gc 25 cs ∧ OwnI W base v T ∧ Below base w W
/-- A chain is stored over another one. -/
theorem once_store {w W : World} {base gc : Nat} {N N' : Int} {A1 A2 B1 B2 : Option Addr} {s c1 m c2 e1 e2 : Nat} {v : Value} {T : List Int} {S : List Int} {M : List R.S43} (h : OnceM w base gc #[.int .i64 N, .slice A1 s c1, .slice A2 m c2] v T B1 S B2 M W) (hk : ∀ x, x ∈ M → x.f1.length = 32 ∧ x.f2.length = 12) (hm : m ≤ M.length + 1) (hg : base ≤ gc) :
    OnceM w base gc #[.int .i64 N', .slice B1 S.length e1, .slice B2 M.length e2] v T B1 S B2 M (((W.setCell ⟨gc, 0, none⟩ (.int .i64 N')).setCell ⟨gc, 1, none⟩ (.slice B1 S.length e1)).setCell ⟨gc, 2, none⟩ (.slice B2 M.length e2)) := by
  obtain ⟨h1, h2, h3, h4, h5⟩ := h
  have hs := fun b (h : b ≠ gc) => heap_set3 W gc (.int .i64 N') (.slice B1 S.length e1) (.slice B2 M.length e2) b h
  refine ⟨C_sub h1 (fun h0 a ha => by subst ha; exact hs _ (C_apart h1 h0 h3 (no_u8_3 _ _ _ _ _ _ _))), locks_sub h2 (ok := fun b => b ≠ gc) hs (fun h0 a ha => by subst ha; exact locks_apart_chain h2 h0 hk h3 hm) (fun a m xs hC h0 => C_apart hC h0 h3 (no_u8_3 _ _ _ _ _ _ _)), ((h3.set_ 0 _).set_ 1 _).set_ 2 _, h4.step (fun k hk => hs k (fun e => h4.ne_box h3 (by decide) k hk e.symm)), ?_⟩
  exact ((h5.setCell (p := ⟨gc, 0, none⟩) hg _).setCell (p := ⟨gc, 1, none⟩) hg _).setCell (p := ⟨gc, 2, none⟩) hg _
/-- A place is put down as taken: the rows are as they were. -/
theorem once_append {w W W' : World} {base gc gy : Nat} {cs cy : Array Value} {v v' : Value} {T : List Int} {y : Int} {B1 B2 : Option Addr} {S : List Int} {M : List R.S43} (h : OnceM w base gc cs v T B1 S B2 M W) (hy : Blk W gy 25 cy)
    (hO : OwnI W' base v' (T ++ [y])) (hb : Below base W W') (hs : ∀ b, b < W.heap.size → v.ownBlock ≠ some b → W'.heap[b]? = W.heap[b]?) (hw : base ≤ w.heap.size) : OnceM w base gc cs v' (T ++ [y]) B1 S B2 M W' ∧ Blk W' gy 25 cy := by
  obtain ⟨h1, h2, h3, h4, h5⟩ := h
  have hbox : ∀ {g : Nat} {cs : Array Value}, Blk W g 25 cs → Blk W' g 25 cs := fun {g cs} hB => (hs g hB.lt (fun e => h4.ne_box hB (by decide) g e rfl)).trans hB
  refine ⟨⟨C_sub h1 (fun h0 a ha => by subst ha; obtain ⟨ad, e, hlt⟩ := C_some h1 h0; obtain rfl := Option.some.inj e; exact hs _ hlt (fun e => h4.apart_bytes h1 h0 _ e rfl)), locks_sub h2 (ok := fun b => b < W.heap.size ∧ v.ownBlock ≠ some b) (fun b hb => hs b hb.1 hb.2) (fun h0 a ha => by subst ha; exact ⟨locks_lt h2 h0, fun e => h4.apart_locks h2 h0 _ e rfl⟩) (fun a m xs hC h0 => by obtain ⟨ad, e, hlt⟩ := C_some hC h0; obtain rfl := Option.some.inj e; exact ⟨hlt, fun e => h4.apart_bytes hC h0 _ e rfl⟩), hbox h3, hO, h5.trans hb⟩, hbox hy⟩
theorem take_mem (T : List Int) (X : Int) (j : Nat) (hj : j < T.length) : X ∈ T.take (j + 1) ↔ X ∈ T.take j ∨ rd T (j : Int) = X := by
  have : T.take (j + 1) = T.take j ++ [T[j]] := by rw [List.take_add_one, List.getElem?_eq_getElem hj]; rfl
  rw [this, List.mem_append, List.mem_singleton]
  unfold rd
  rw [Int.toNat_natCast, List.getD_eq_getElem?_getD, List.getElem?_eq_getElem hj, Option.getD_some]
  constructor
  · rintro (h | h)
    · exact .inl h
    · exact .inr h.symm
  · rintro (h | h)
    · exact .inl h
    · exact .inr h.symm
theorem good_locks {n : Nat} {s : List Int} {L : List R.S43} (h : Good n s L) : ∀ x, x ∈ L → x.f1.length = 32 ∧ x.f2.length = 12 := fun x hx => by have := h.2.2.2.2.2.1 x hx; exact this.2.2
theorem takeF_more {n : Nat} {s : List Int} {L : List R.S43} (h : Good n s L) (X : Int) {n' : Nat} {s' : List Int} {L' : List R.S43} {x : R.S43} {er : Int} (ht : takeF n s L X = (n', s', L', x, er)) : L.length ≤ L'.length + 1 := by
  have h32 := h.2.2.2.1
  unfold takeF at ht
  split at ht
  · injection ht with _ ht; injection ht with _ ht; injection ht with ht _; rw [← ht]; omega
  · cases hi : idxL L X with
    | some k =>
      rw [hi] at ht
      injection ht with _ ht; injection ht with _ ht; injection ht with ht _
      have hk := (idxL_lt L X k hi).1
      have := leave_length L k hk
      rw [← ht]
      omega
    | none =>
      rw [hi] at ht
      dsimp only at ht
      split at ht
      · injection ht with _ ht; injection ht with _ ht; injection ht with ht _; rw [← ht]; omega
      · split at ht
        · injection ht with _ ht; injection ht with _ ht; injection ht with ht _; rw [← ht]; omega
        · injection ht with _ ht; injection ht with _ ht; injection ht with ht _
          rw [← ht, List.length_drop, List.length_append, passed_length]
          omega
end Go.Proofs.YtdklmafkcbjomaaDoor
