/-
  Walk: pyxlaw13.RatchSpares.
-/
import Derived.Test.YtdklmafkcbjomaaDoorG5
import Derived.Deep.DrawnRows
import Derived.Deep.RegionHeld3
import Derived.Deep.DeepCutAuto
namespace Go.Proofs.YtdklmafkcbjomaaDoor
set_option linter.unusedVariables false
set_option linter.unusedSimpArgs false
open Go.RowKit Go.Shelf Go.Proofs.YtdklmafkcbjomaaDoorW.PrintWords Go.Proofs.YtdklmafkcbjomaaDoorW.PrintLast Go.Proofs.YtdklmafkcbjomaaDoorW.PrintMore Iter
attribute [local go_sem] Oper.semAt_some
attribute [local go_sem ↓] Go.wp_at_zero Go.wp_at_succ

theorem one_box (W : World) (cs : Array Value) (t : TypeId) : Blk (W.alloc (.cells cs t)) W.heap.size t cs ∧ Below W.heap.size W (W.alloc (.cells cs t)) := ⟨Blk.new W t cs, (Below.refl _ W).alloc (Nat.le_refl _) _⟩
theorem cell_kept {W V : World} {a : Addr} {v : Value} (h : W.cell? a = some v) (hb : Below W.heap.size W V) : V.cell? a = some v := (hb.cell (cell_lt h)).trans h
theorem below_next {n : Nat} {w W V : World} {p : Prop} (hn : n ≤ w.heap.size) (h : Below n w W ∧ p) (hb : Below W.heap.size W V) : Below n w V := h.1.trans (hb.mono (Nat.le_trans hn h.1.size))
theorem keep_alloc {n : Nat} {w W : World} {p : Prop} {o : Obj} (hn : n ≤ w.heap.size) (h : Below n w W ∧ p) : Below n w (W.alloc o) := h.1.alloc (Nat.le_trans hn h.1.size) o
theorem keep_set3 {n : Nat} {w W : World} {p : Prop} {a b c : Addr} {u v x : Value} (h : Below n w W ∧ p) (ha : n ≤ a.block) (hb : n ≤ b.block) (hc : n ≤ c.block) : Below n w (((W.setCell a u).setCell b v).setCell c x) := ((h.1.setCell ha u).setCell hb v).setCell hc x
theorem blk_drew {w : World} {g : Nat} {cs : Array Value} {t : TypeId} (h : Blk w g t cs) : Blk w.drew g t cs := h.below (B := g + 1) ((Below.refl _ _).drew) (Nat.lt_succ_self g)
theorem blk_one {w W_ : World} {cs : Array Value} {t : TypeId} (h : Below (w.alloc (.cells cs t)).drew.heap.size (w.alloc (.cells cs t)).drew W_) : Blk W_ w.heap.size t cs := by
  have k := blk_drew (Blk.new w t cs)
  exact k.below h k.lt
theorem blk_two {w W_ : World} {cs cs' : Array Value} {t t' : TypeId} (h : Below ((w.alloc (.cells cs t)).alloc (.cells cs' t')).drew.heap.size ((w.alloc (.cells cs t)).alloc (.cells cs' t')).drew W_) : Blk W_ w.heap.size t cs ∧ Blk W_ (w.alloc (.cells cs t)).heap.size t' cs' := by
  have k1 := blk_drew ((Blk.new w t cs).alloc (.cells cs' t'))
  have k2 := blk_drew (Blk.new (w.alloc (.cells cs t)) t' cs')
  exact ⟨k1.below h k1.lt, k2.below h k2.lt⟩
theorem small_wrap (n : Nat) (h : n < 256) : IntKind.i64.wrap (n : Int) = (n : Int) := IntWalk.i64_in _ ⟨by omega, by omega⟩
theorem wrap_is {a b c : Int} (h : a + b = c) (h1 : -9223372036854775808 ≤ c) (h2 : c < 9223372036854775808) : wrap64 (a + b) = c := by subst h; unfold wrap64; omega
theorem min_is (x : Int) (a b : Nat) (hx : x = (a : Int)) (h : b = min a 32) : (if (32 : Int) < x then 32 else x) = (b : Int) := by subst hx; split <;> omega
theorem spares_nums (m q lL lM by_ : Nat) (N X N2 : Int) (hN : (m : Int) = N) (hby : by_ < 256) (hq : by_ % 101 = q) (h4 : m ≤ 4000000000) (hX : ((m + q : Nat) : Int) = X) (hN2 : ((m + (q + 1) : Nat) : Int) = N2) (hlL : lL ≤ 32) (hlM : lM = min (lL + q) 32) :
    IntKind.i64.wrap (by_ : Int) = (by_ : Int) ∧ (by_ : Int) % 101 = (q : Int) ∧ wrap64 (N + (q : Int)) = X ∧ wrap64 ((lL : Int) + (q : Int)) = ((lL + q : Nat) : Int) ∧ wrap64 (X + 1) = N2 ∧ (if (32 : Int) < wrap64 ((lL : Int) + (q : Int)) then 32 else wrap64 ((lL : Int) + (q : Int))) = (lM : Int) :=
  ⟨IntWalk.i64_in _ ⟨by omega, by omega⟩, by omega, wrap_is (by omega) (by omega) (by omega), wrap_is (by omega) (by omega) (by omega), wrap_is (by omega) (by omega) (by omega), min_is _ (lL + q) _ (wrap_is (by omega) (by omega) (by omega)) hlM⟩
set_option maxRecDepth 100000 in
set_option maxHeartbeats 4000000 in
theorem spares_few (N : Int) (by_ kb : Nat) (s : List Int) (L : List R.S43) (A B : Option Addr) (c d : Nat) (w : World) (hT : TabOk w) (hs : Kd.C (Kd.int .u8) w A s.length s) (hc : s.length ≤ c) (hL : Kd.C R.k43 w B L.length L) (hd : L.length ≤ d) (hby : by_ < 256) (hkb : kb < 256) (hf : fewC s L = false) :
    Calls Tryd.prog 7 #[.agg #[.int .i64 N, .slice A s.length c, .slice B L.length d], .int .u8 (by_ : Int), .int .u8 (kb : Int)] w fun e w' => e = .returned (.bool true) ∧ Below w.heap.size w w' := by
  have HF := Lib.hid hf
  clear hf
  have HH := Lib.hid (And.intro hc hd)
  have H0 := Lib.hid (And.intro (hT) (And.intro (hs) (And.intro (hL) (Below.refl w.heap.size w))))
  clear hT hs hL hc hd hby hkb
  go_enter Tryd.func7, Tryd.ntmps7
  go_wp2_with fail
  obtain ⟨r1_, r3_⟩ := one_box w #[.int .i64 N, .slice A s.length c, .slice B L.length d] 25
  have H1 := Lib.hid (And.intro ((H0.out.1).below r3_ (H0.out.1).1) (And.intro (Kd.C_below (H0.out.2.1) r3_) (And.intro (Kd.C_below (H0.out.2.2.1) r3_) (And.intro (r1_) ((H0.out.2.2.2).trans (r3_.mono (H0.out.2.2.2).size))))))
  clear H0
  generalize (w.alloc (Obj.cells #[.int .i64 N, .slice A s.length c, .slice B L.length d] 25)) = W1 at *
  clear r1_ r3_
  refine (shown13_calls W1 (H1.out.1)).mono ?_
  rintro e W2 ⟨rfl, hb_⟩
  have H2 := Lib.hid (And.intro ((H1.out.1).below hb_ (H1.out.1).1) (And.intro (Kd.C_below (H1.out.2.1) hb_) (And.intro (Kd.C_below (H1.out.2.2.1) hb_) (And.intro ((H1.out.2.2.2.1).below hb_ (H1.out.2.2.2.1).lt) ((H1.out.2.2.2.2).trans (hb_.mono (H1.out.2.2.2.2).size))))))
  clear H1
  clear hb_
  have c_0 : W2.cell? ⟨w.heap.size, 0, none⟩ = some (.int .i64 N) := (H2.out.2.2.2.1).cell 0
  have c_1 : W2.cell? ⟨w.heap.size, 1, none⟩ = some (.slice A s.length c) := (H2.out.2.2.2.1).cell 1
  have c_2 : W2.cell? ⟨w.heap.size, 2, none⟩ = some (.slice B L.length d) := (H2.out.2.2.2.1).cell 2
  go_wp2_with fail
  clear c_0 c_1 c_2
  refine (R.pyxref13_Few.calls 50 N A c s B d L false W2 (H2.out.2.1) HH.out.1 (H2.out.2.2.1) HH.out.2 (by rw [few_some _ _ _ 50 (by decide), HF.out])).mono ?_
  rintro e W3 ⟨rfl, hb_⟩
  have H3 := Lib.hid (And.intro ((H2.out.1).below hb_ (H2.out.1).1) (And.intro (Kd.C_below (H2.out.2.1) hb_) (And.intro (Kd.C_below (H2.out.2.2.1) hb_) (And.intro ((H2.out.2.2.2.1).below hb_ (H2.out.2.2.2.1).lt) ((H2.out.2.2.2.2).trans (hb_.mono (H2.out.2.2.2.2).size))))))
  clear H2
  clear hb_
  go_wp2
  go_ret
  exact ⟨rfl, H3.out.2.2.2.2⟩
set_option maxRecDepth 100000 in
set_option maxHeartbeats 4000000 in
theorem spares_right (N : Int) (by_ kb : Nat) (s : List Int) (L : List R.S43) (A B : Option Addr) (c d : Nat) (w : World) (hT : TabOk w) (hs : Kd.C (Kd.int .u8) w A s.length s) (hc : s.length ≤ c) (hL : Kd.C R.k43 w B L.length L) (hd : L.length ≤ d) (hby : by_ < 256) (hkb : kb < 256) (hf : fewC s L = true) (hr : rightC N s L = false) :
    Calls Tryd.prog 7 #[.agg #[.int .i64 N, .slice A s.length c, .slice B L.length d], .int .u8 (by_ : Int), .int .u8 (kb : Int)] w fun e w' => e = .returned (.bool true) ∧ Below w.heap.size w w' := by
  have HF := Lib.hid hf
  have HR := Lib.hid hr
  clear hf hr
  have HH := Lib.hid (And.intro hc hd)
  have H0 := Lib.hid (And.intro (hT) (And.intro (hs) (And.intro (hL) (Below.refl w.heap.size w))))
  clear hT hs hL hc hd hby hkb
  go_enter Tryd.func7, Tryd.ntmps7
  go_wp2_with fail
  obtain ⟨r1_, r3_⟩ := one_box w #[.int .i64 N, .slice A s.length c, .slice B L.length d] 25
  have H1 := Lib.hid (And.intro ((H0.out.1).below r3_ (H0.out.1).1) (And.intro (Kd.C_below (H0.out.2.1) r3_) (And.intro (Kd.C_below (H0.out.2.2.1) r3_) (And.intro (r1_) ((H0.out.2.2.2).trans (r3_.mono (H0.out.2.2.2).size))))))
  clear H0
  generalize (w.alloc (Obj.cells #[.int .i64 N, .slice A s.length c, .slice B L.length d] 25)) = W1 at *
  clear r1_ r3_
  refine (shown13_calls W1 (H1.out.1)).mono ?_
  rintro e W2 ⟨rfl, hb_⟩
  have H2 := Lib.hid (And.intro ((H1.out.1).below hb_ (H1.out.1).1) (And.intro (Kd.C_below (H1.out.2.1) hb_) (And.intro (Kd.C_below (H1.out.2.2.1) hb_) (And.intro ((H1.out.2.2.2.1).below hb_ (H1.out.2.2.2.1).lt) ((H1.out.2.2.2.2).trans (hb_.mono (H1.out.2.2.2.2).size))))))
  clear H1
  clear hb_
  have c_0 : W2.cell? ⟨w.heap.size, 0, none⟩ = some (.int .i64 N) := (H2.out.2.2.2.1).cell 0
  have c_1 : W2.cell? ⟨w.heap.size, 1, none⟩ = some (.slice A s.length c) := (H2.out.2.2.2.1).cell 1
  have c_2 : W2.cell? ⟨w.heap.size, 2, none⟩ = some (.slice B L.length d) := (H2.out.2.2.2.1).cell 2
  go_wp2_with fail
  clear c_0 c_1 c_2
  refine (R.pyxref13_Few.calls 50 N A c s B d L true W2 (H2.out.2.1) HH.out.1 (H2.out.2.2.1) HH.out.2 (by rw [few_some _ _ _ 50 (by decide), HF.out])).mono ?_
  rintro e W3 ⟨rfl, hb_⟩
  have H3 := Lib.hid (And.intro ((H2.out.1).below hb_ (H2.out.1).1) (And.intro (Kd.C_below (H2.out.2.1) hb_) (And.intro (Kd.C_below (H2.out.2.2.1) hb_) (And.intro ((H2.out.2.2.2.1).below hb_ (H2.out.2.2.2.1).lt) ((H2.out.2.2.2.2).trans (hb_.mono (H2.out.2.2.2.2).size))))))
  clear H2
  clear hb_
  have c_0 : W3.cell? ⟨w.heap.size, 0, none⟩ = some (.int .i64 N) := (H3.out.2.2.2.1).cell 0
  have c_1 : W3.cell? ⟨w.heap.size, 1, none⟩ = some (.slice A s.length c) := (H3.out.2.2.2.1).cell 1
  have c_2 : W3.cell? ⟨w.heap.size, 2, none⟩ = some (.slice B L.length d) := (H3.out.2.2.2.1).cell 2
  go_wp2_with fail
  clear c_0 c_1 c_2
  refine (R.pyxref13_Right.calls 40 N A c s B d L false W3 (H3.out.2.1) HH.out.1 (H3.out.2.2.1) HH.out.2 (by rw [refRight_some _ _ _ 40 (by decide), HR.out])).mono ?_
  rintro e W4 ⟨rfl, hb_⟩
  have H4 := Lib.hid (And.intro ((H3.out.1).below hb_ (H3.out.1).1) (And.intro (Kd.C_below (H3.out.2.1) hb_) (And.intro (Kd.C_below (H3.out.2.2.1) hb_) (And.intro ((H3.out.2.2.2.1).below hb_ (H3.out.2.2.2.1).lt) ((H3.out.2.2.2.2).trans (hb_.mono (H3.out.2.2.2.2).size))))))
  clear H3
  clear hb_
  go_wp2
  go_ret
  exact ⟨rfl, H4.out.2.2.2.2⟩
set_option maxRecDepth 100000 in
set_option maxHeartbeats 4000000 in
theorem spares_late (N : Int) (by_ kb : Nat) (s : List Int) (L : List R.S43) (A B : Option Addr) (c d : Nat) (w : World) (hT : TabOk w) (hs : Kd.C (Kd.int .u8) w A s.length s) (hc : s.length ≤ c) (hL : Kd.C R.k43 w B L.length L) (hd : L.length ≤ d) (hby : by_ < 256) (hkb : kb < 256) (hf : fewC s L = true) (hr : rightC N s L = true) (hN4 : 4000000000 < N) :
    Calls Tryd.prog 7 #[.agg #[.int .i64 N, .slice A s.length c, .slice B L.length d], .int .u8 (by_ : Int), .int .u8 (kb : Int)] w fun e w' => e = .returned (.bool true) ∧ Below w.heap.size w w' := by
  have HF := Lib.hid hf
  have HR := Lib.hid hr
  have d4 : decide ((4000000000 : Int) < N) = true := decide_eq_true hN4
  clear hf hr hN4
  have HH := Lib.hid (And.intro hc hd)
  have H0 := Lib.hid (And.intro (hT) (And.intro (hs) (And.intro (hL) (Below.refl w.heap.size w))))
  clear hT hs hL hc hd hby hkb
  go_enter Tryd.func7, Tryd.ntmps7
  go_wp2_with fail
  obtain ⟨r1_, r3_⟩ := one_box w #[.int .i64 N, .slice A s.length c, .slice B L.length d] 25
  have H1 := Lib.hid (And.intro ((H0.out.1).below r3_ (H0.out.1).1) (And.intro (Kd.C_below (H0.out.2.1) r3_) (And.intro (Kd.C_below (H0.out.2.2.1) r3_) (And.intro (r1_) ((H0.out.2.2.2).trans (r3_.mono (H0.out.2.2.2).size))))))
  clear H0
  generalize (w.alloc (Obj.cells #[.int .i64 N, .slice A s.length c, .slice B L.length d] 25)) = W1 at *
  clear r1_ r3_
  refine (shown13_calls W1 (H1.out.1)).mono ?_
  rintro e W2 ⟨rfl, hb_⟩
  have H2 := Lib.hid (And.intro ((H1.out.1).below hb_ (H1.out.1).1) (And.intro (Kd.C_below (H1.out.2.1) hb_) (And.intro (Kd.C_below (H1.out.2.2.1) hb_) (And.intro ((H1.out.2.2.2.1).below hb_ (H1.out.2.2.2.1).lt) ((H1.out.2.2.2.2).trans (hb_.mono (H1.out.2.2.2.2).size))))))
  clear H1
  clear hb_
  have c_0 : W2.cell? ⟨w.heap.size, 0, none⟩ = some (.int .i64 N) := (H2.out.2.2.2.1).cell 0
  have c_1 : W2.cell? ⟨w.heap.size, 1, none⟩ = some (.slice A s.length c) := (H2.out.2.2.2.1).cell 1
  have c_2 : W2.cell? ⟨w.heap.size, 2, none⟩ = some (.slice B L.length d) := (H2.out.2.2.2.1).cell 2
  go_wp2_with fail
  clear c_0 c_1 c_2
  refine (R.pyxref13_Few.calls 50 N A c s B d L true W2 (H2.out.2.1) HH.out.1 (H2.out.2.2.1) HH.out.2 (by rw [few_some _ _ _ 50 (by decide), HF.out])).mono ?_
  rintro e W3 ⟨rfl, hb_⟩
  have H3 := Lib.hid (And.intro ((H2.out.1).below hb_ (H2.out.1).1) (And.intro (Kd.C_below (H2.out.2.1) hb_) (And.intro (Kd.C_below (H2.out.2.2.1) hb_) (And.intro ((H2.out.2.2.2.1).below hb_ (H2.out.2.2.2.1).lt) ((H2.out.2.2.2.2).trans (hb_.mono (H2.out.2.2.2.2).size))))))
  clear H2
  clear hb_
  have c_0 : W3.cell? ⟨w.heap.size, 0, none⟩ = some (.int .i64 N) := (H3.out.2.2.2.1).cell 0
  have c_1 : W3.cell? ⟨w.heap.size, 1, none⟩ = some (.slice A s.length c) := (H3.out.2.2.2.1).cell 1
  have c_2 : W3.cell? ⟨w.heap.size, 2, none⟩ = some (.slice B L.length d) := (H3.out.2.2.2.1).cell 2
  go_wp2_with fail
  clear c_0 c_1 c_2
  refine (R.pyxref13_Right.calls 40 N A c s B d L true W3 (H3.out.2.1) HH.out.1 (H3.out.2.2.1) HH.out.2 (by rw [refRight_some _ _ _ 40 (by decide), HR.out])).mono ?_
  rintro e W4 ⟨rfl, hb_⟩
  have H4 := Lib.hid (And.intro ((H3.out.1).below hb_ (H3.out.1).1) (And.intro (Kd.C_below (H3.out.2.1) hb_) (And.intro (Kd.C_below (H3.out.2.2.1) hb_) (And.intro ((H3.out.2.2.2.1).below hb_ (H3.out.2.2.2.1).lt) ((H3.out.2.2.2.2).trans (hb_.mono (H3.out.2.2.2.2).size))))))
  clear H3
  clear hb_
  have c_0 : W4.cell? ⟨w.heap.size, 0, none⟩ = some (.int .i64 N) := (H4.out.2.2.2.1).cell 0
  have c_1 : W4.cell? ⟨w.heap.size, 1, none⟩ = some (.slice A s.length c) := (H4.out.2.2.2.1).cell 1
  have c_2 : W4.cell? ⟨w.heap.size, 2, none⟩ = some (.slice B L.length d) := (H4.out.2.2.2.1).cell 2
  go_wp2
  go_ret
  exact ⟨rfl, H4.out.2.2.2.2⟩
set_option maxRecDepth 100000 in
set_option maxHeartbeats 4000000 in
theorem spares_zero (N : Int) (by_ kb : Nat) (s : List Int) (L : List R.S43) (A B : Option Addr) (c d : Nat) (w : World) (hT : TabOk w) (hs : Kd.C (Kd.int .u8) w A s.length s) (hc : s.length ≤ c) (hL : Kd.C R.k43 w B L.length L) (hd : L.length ≤ d) (hby : by_ < 256) (hkb : kb < 256) (m : Nat) (hN : (m : Int) = N) (hf : fewC s L = true) (hg : Good m s L) (hN4 : ¬ 4000000000 < N) (hz : min (L.length + by_ % 101) 32 = 0) :
    Calls Tryd.prog 7 #[.agg #[.int .i64 N, .slice A s.length c, .slice B L.length d], .int .u8 (by_ : Int), .int .u8 (kb : Int)] w fun e w' => e = .returned (.bool true) ∧ Below w.heap.size w w' := by
  have hr : rightC N s L = true := by rw [← hN]; exact good_right hg
  have HF := Lib.hid hf
  have HR := Lib.hid hr
  have d4 : decide ((4000000000 : Int) < N) = false := decide_eq_false hN4
  obtain ⟨q, hq⟩ : ∃ q, by_ % 101 = q := ⟨_, rfl⟩
  rw [hq] at hz
  have q100 : q ≤ 100 := by omega
  have ht := takeF_next hg q q100 (by omega)
  have hg2 := good_next hg q (by omega)
  have hml := cut_length (s := s) (n := m) (d := q) L
  obtain ⟨T, hTe⟩ : ∃ T, secS s m (q + 1) = T := ⟨_, rfl⟩
  obtain ⟨M, hM⟩ : ∃ M, (L ++ passed s m q).drop (L.length + q - 32) = M := ⟨_, rfl⟩
  obtain ⟨K, hK⟩ : ∃ K, lockN s m q = K := ⟨_, rfl⟩
  have hK0 : K.f0 = ((m + q : Nat) : Int) := by rw [← hK, lockN_f0]
  rw [hTe, hM] at hg2 ht
  rw [hK] at ht
  rw [hM] at hml
  obtain ⟨X, hX⟩ : ∃ X, ((m + q : Nat) : Int) = X := ⟨_, rfl⟩
  rw [hX] at ht hK0
  obtain ⟨n2, hn2⟩ : ∃ n2, m + (q + 1) = n2 := ⟨_, rfl⟩
  rw [hn2] at ht hg2
  obtain ⟨N2, hN2⟩ : ∃ N2, (n2 : Int) = N2 := ⟨_, rfl⟩
  rw [← hml] at hz
  have u7 : ((M.length : Int) == 0) = true := by rw [hz]; rfl
  have hnum := spares_nums m q L.length M.length by_ N X N2 hN hby hq (by omega) hX (by rw [hn2]; exact hN2) hg.2.2.2.1 hml
  have HG := Lib.hid (And.intro hg (And.intro hN (And.intro ht (And.intro hN2 (And.intro hg2 hK0)))))
  have HU := Lib.hid (And.intro hnum.1 (And.intro hnum.2.1 (And.intro hnum.2.2.1 (And.intro hnum.2.2.2.1 (And.intro hnum.2.2.2.2.1 (And.intro hnum.2.2.2.2.2 u7))))))
  clear hf hr hg hN hN4 hz hq q100 hnum u7 ht hg2 hml hTe hM hK hX hn2 hN2 hK0
  have HH := Lib.hid (And.intro hc hd)
  have H0 := Lib.hid (And.intro (hT) (And.intro (hs) (And.intro (hL) (Below.refl w.heap.size w))))
  clear hT hs hL hc hd hby hkb
  go_enter Tryd.func7, Tryd.ntmps7
  go_wp2_with fail
  obtain ⟨r1_, r3_⟩ := one_box w #[.int .i64 N, .slice A s.length c, .slice B L.length d] 25
  have H1 := Lib.hid (And.intro ((H0.out.1).below r3_ (H0.out.1).1) (And.intro (Kd.C_below (H0.out.2.1) r3_) (And.intro (Kd.C_below (H0.out.2.2.1) r3_) (And.intro (r1_) ((H0.out.2.2.2).trans (r3_.mono (H0.out.2.2.2).size))))))
  clear H0
  generalize (w.alloc (Obj.cells #[.int .i64 N, .slice A s.length c, .slice B L.length d] 25)) = W1 at *
  clear r1_ r3_
  refine (shown13_calls W1 (H1.out.1)).mono ?_
  rintro e W2 ⟨rfl, hb_⟩
  have H2 := Lib.hid (And.intro ((H1.out.1).below hb_ (H1.out.1).1) (And.intro (Kd.C_below (H1.out.2.1) hb_) (And.intro (Kd.C_below (H1.out.2.2.1) hb_) (And.intro ((H1.out.2.2.2.1).below hb_ (H1.out.2.2.2.1).lt) ((H1.out.2.2.2.2).trans (hb_.mono (H1.out.2.2.2.2).size))))))
  clear H1
  clear hb_
  have c_0 : W2.cell? ⟨w.heap.size, 0, none⟩ = some (.int .i64 N) := (H2.out.2.2.2.1).cell 0
  have c_1 : W2.cell? ⟨w.heap.size, 1, none⟩ = some (.slice A s.length c) := (H2.out.2.2.2.1).cell 1
  have c_2 : W2.cell? ⟨w.heap.size, 2, none⟩ = some (.slice B L.length d) := (H2.out.2.2.2.1).cell 2
  go_wp2_with fail
  clear c_0 c_1 c_2
  refine (R.pyxref13_Few.calls 50 N A c s B d L true W2 (H2.out.2.1) HH.out.1 (H2.out.2.2.1) HH.out.2 (by rw [few_some _ _ _ 50 (by decide), HF.out])).mono ?_
  rintro e W3 ⟨rfl, hb_⟩
  have H3 := Lib.hid (And.intro ((H2.out.1).below hb_ (H2.out.1).1) (And.intro (Kd.C_below (H2.out.2.1) hb_) (And.intro (Kd.C_below (H2.out.2.2.1) hb_) (And.intro ((H2.out.2.2.2.1).below hb_ (H2.out.2.2.2.1).lt) ((H2.out.2.2.2.2).trans (hb_.mono (H2.out.2.2.2.2).size))))))
  clear H2
  clear hb_
  have c_0 : W3.cell? ⟨w.heap.size, 0, none⟩ = some (.int .i64 N) := (H3.out.2.2.2.1).cell 0
  have c_1 : W3.cell? ⟨w.heap.size, 1, none⟩ = some (.slice A s.length c) := (H3.out.2.2.2.1).cell 1
  have c_2 : W3.cell? ⟨w.heap.size, 2, none⟩ = some (.slice B L.length d) := (H3.out.2.2.2.1).cell 2
  go_wp2_with fail
  clear c_0 c_1 c_2
  refine (R.pyxref13_Right.calls 40 N A c s B d L true W3 (H3.out.2.1) HH.out.1 (H3.out.2.2.1) HH.out.2 (by rw [refRight_some _ _ _ 40 (by decide), HR.out])).mono ?_
  rintro e W4 ⟨rfl, hb_⟩
  have H4 := Lib.hid (And.intro ((H3.out.1).below hb_ (H3.out.1).1) (And.intro (Kd.C_below (H3.out.2.1) hb_) (And.intro (Kd.C_below (H3.out.2.2.1) hb_) (And.intro ((H3.out.2.2.2.1).below hb_ (H3.out.2.2.2.1).lt) ((H3.out.2.2.2.2).trans (hb_.mono (H3.out.2.2.2.2).size))))))
  clear H3
  clear hb_
  obtain ⟨u1, u2, u3, -, -, -, -⟩ := HU.out
  have c_0 : W4.cell? ⟨w.heap.size, 0, none⟩ = some (.int .i64 N) := (H4.out.2.2.2.1).cell 0
  have c_1 : W4.cell? ⟨w.heap.size, 1, none⟩ = some (.slice A s.length c) := (H4.out.2.2.2.1).cell 1
  have c_2 : W4.cell? ⟨w.heap.size, 2, none⟩ = some (.slice B L.length d) := (H4.out.2.2.2.1).cell 2
  go_upto_region 5 with fail
  rw [u2]
  clear u1 u2
  go_wp2_with fail
  clear c_0 c_1 c_2
  rw [u3]
  clear u3
  refine (take_any m N X HG.out.2.1 A s c B L d W4 n2 N2 T M K 0 HG.out.2.2.1 HG.out.2.2.2.1 HG.out.1 (H4.out.2.1) HH.out.1 (H4.out.2.2.1) HH.out.2).mono ?_
  rintro e W5 ⟨Ax, cx, Bx, dx, Ak, ck, An, cn, rfl, q1_, q2_, q3_, q4_, -, -, -, -, hb_⟩
  have H5 := Lib.hid (And.intro ((H4.out.1).below hb_ (H4.out.1).1) (And.intro (Kd.C_below (H4.out.2.1) hb_) (And.intro (Kd.C_below (H4.out.2.2.1) hb_) (And.intro ((H4.out.2.2.2.1).below hb_ (H4.out.2.2.2.1).lt) (And.intro (q2_) (And.intro (q4_) ((H4.out.2.2.2.2).trans (hb_.mono (H4.out.2.2.2.2).size))))))))
  clear H4
  clear hb_
  have HQ := Lib.hid (And.intro q1_ q3_)
  clear q1_ q2_ q3_ q4_
  rw [HG.out.2.2.2.2.2]
  generalize K.f1.length = K1 at *
  generalize K.f2.length = K2 at *
  go_upto_region 6 with fail
  obtain ⟨r1_, r2_, r3_, r4_⟩ := two_boxes W5 #[.int .i64 N2, .slice Ax T.length cx, .slice Bx M.length dx] #[.int .i64 X, .slice Ak K1 ck, .slice An K2 cn] 25 43
  have H6 := Lib.hid (And.intro ((H5.out.1).below r3_ (H5.out.1).1) (And.intro (Kd.C_below (H5.out.2.1) r3_) (And.intro (Kd.C_below (H5.out.2.2.1) r3_) (And.intro ((H5.out.2.2.2.1).below r3_ (H5.out.2.2.2.1).lt) (And.intro (Kd.C_below (H5.out.2.2.2.2.1) r3_) (And.intro (Kd.C_below (H5.out.2.2.2.2.2.1) r3_) (And.intro (r1_) (And.intro (r2_) ((H5.out.2.2.2.2.2.2).trans (r3_.mono (H5.out.2.2.2.2.2.2).size))))))))))
  clear H5
  generalize ((W5.alloc (Obj.cells #[.int .i64 N2, .slice Ax T.length cx, .slice Bx M.length dx] 25)).alloc (Obj.cells #[.int .i64 X, .slice Ak K1 ck, .slice An K2 cn] 43)) = W6 at *
  obtain ⟨g6, hg6⟩ : ∃ g, W5.heap.size = g := ⟨_, rfl⟩
  rw [hg6] at H6 ⊢
  clear hg6 r1_ r3_ r2_ r4_
  have c_0 : W6.cell? ⟨w.heap.size, 0, none⟩ = some (.int .i64 N) := (H6.out.2.2.2.1).cell 0
  have c_1 : W6.cell? ⟨w.heap.size, 1, none⟩ = some (.slice A s.length c) := (H6.out.2.2.2.1).cell 1
  have c_2 : W6.cell? ⟨w.heap.size, 2, none⟩ = some (.slice B L.length d) := (H6.out.2.2.2.1).cell 2
  go_upto_region 7 with fail
  clear c_0 c_1 c_2
  obtain ⟨-, -, u3, -, u5, u6, u7⟩ := HU.out
  rw [u6]
  have c_0 : W6.cell? ⟨w.heap.size, 0, none⟩ = some (.int .i64 N) := (H6.out.2.2.2.1).cell 0
  have x_0 : W6.cell? ⟨g6, 0, none⟩ = some (.int .i64 N2) := (H6.out.2.2.2.2.2.2.1).cell 0
  have x_1 : W6.cell? ⟨g6, 1, none⟩ = some (.slice Ax T.length cx) := (H6.out.2.2.2.2.2.2.1).cell 1
  have x_2 : W6.cell? ⟨g6, 2, none⟩ = some (.slice Bx M.length dx) := (H6.out.2.2.2.2.2.2.1).cell 2
  have l_0 : W6.cell? ⟨g6 + 1, 0, none⟩ = some (.int .i64 X) := (H6.out.2.2.2.2.2.2.2.1).cell 0
  go_wp2_with fail
  clear c_0 x_0 x_1 x_2 l_0
  refine (R.pyxref13_Right.calls 40 N2 Ax cx T Bx dx M true W6 (H6.out.2.2.2.2.1) HQ.out.1 (H6.out.2.2.2.2.2.1) HQ.out.2 (by rw [refRight_some _ _ _ 40 (by decide), ← HG.out.2.2.2.1]; exact congrArg some (good_right HG.out.2.2.2.2.1))).mono ?_
  rintro e W7 ⟨rfl, hb_⟩
  have H7 := Lib.hid (And.intro ((H6.out.1).below hb_ (H6.out.1).1) (And.intro (Kd.C_below (H6.out.2.1) hb_) (And.intro (Kd.C_below (H6.out.2.2.1) hb_) (And.intro ((H6.out.2.2.2.1).below hb_ (H6.out.2.2.2.1).lt) (And.intro (Kd.C_below (H6.out.2.2.2.2.1) hb_) (And.intro (Kd.C_below (H6.out.2.2.2.2.2.1) hb_) (And.intro ((H6.out.2.2.2.2.2.2.1).below hb_ (H6.out.2.2.2.2.2.2.1).lt) (And.intro ((H6.out.2.2.2.2.2.2.2.1).below hb_ (H6.out.2.2.2.2.2.2.2.1).lt) ((H6.out.2.2.2.2.2.2.2.2).trans (hb_.mono (H6.out.2.2.2.2.2.2.2.2).size))))))))))
  clear H6
  clear hb_
  go_wp2
  go_ret
  exact ⟨rfl, H7.out.2.2.2.2.2.2.2.2⟩
set_option maxRecDepth 100000 in
set_option maxHeartbeats 4000000 in
theorem spares_main (N : Int) (by_ kb : Nat) (s : List Int) (L : List R.S43) (A B : Option Addr) (c d : Nat) (w : World) (hT : TabOk w) (hs : Kd.C (Kd.int .u8) w A s.length s) (hc : s.length ≤ c) (hL : Kd.C R.k43 w B L.length L) (hd : L.length ≤ d) (hby : by_ < 256) (hkb : kb < 256) (m : Nat) (hN : (m : Int) = N) (hf : fewC s L = true) (hg : Good m s L) (hN4 : ¬ 4000000000 < N) (hz : 0 < min (L.length + by_ % 101) 32) :
    Calls Tryd.prog 7 #[.agg #[.int .i64 N, .slice A s.length c, .slice B L.length d], .int .u8 (by_ : Int), .int .u8 (kb : Int)] w fun e w' => e = .returned (.bool true) ∧ Below w.heap.size w w' := by
  have hr : rightC N s L = true := by rw [← hN]; exact good_right hg
  have HF := Lib.hid hf
  have HR := Lib.hid hr
  have d4 : decide ((4000000000 : Int) < N) = false := decide_eq_false hN4
  obtain ⟨q, hq⟩ : ∃ q, by_ % 101 = q := ⟨_, rfl⟩
  rw [hq] at hz
  have q100 : q ≤ 100 := by omega
  have ht := takeF_next hg q q100 (by omega)
  have hg2 := good_next hg q (by omega)
  have hml := cut_length (s := s) (n := m) (d := q) L
  obtain ⟨T, hTe⟩ : ∃ T, secS s m (q + 1) = T := ⟨_, rfl⟩
  obtain ⟨M, hM⟩ : ∃ M, (L ++ passed s m q).drop (L.length + q - 32) = M := ⟨_, rfl⟩
  obtain ⟨K, hK⟩ : ∃ K, lockN s m q = K := ⟨_, rfl⟩
  have hK0 : K.f0 = ((m + q : Nat) : Int) := by rw [← hK, lockN_f0]
  rw [hTe, hM] at hg2 ht
  rw [hK] at ht
  rw [hM] at hml
  obtain ⟨X, hX⟩ : ∃ X, ((m + q : Nat) : Int) = X := ⟨_, rfl⟩
  rw [hX] at ht hK0
  obtain ⟨n2, hn2⟩ : ∃ n2, m + (q + 1) = n2 := ⟨_, rfl⟩
  rw [hn2] at ht hg2
  obtain ⟨N2, hN2⟩ : ∃ N2, (n2 : Int) = N2 := ⟨_, rfl⟩
  rw [← hml] at hz
  have u7 : ((M.length : Int) == 0) = false := beq_eq_false_iff_ne.mpr (by omega)
  have hnum := spares_nums m q L.length M.length by_ N X N2 hN hby hq (by omega) hX (by rw [hn2]; exact hN2) hg.2.2.2.1 hml
  have HG := Lib.hid (And.intro hg (And.intro hN (And.intro ht (And.intro hN2 (And.intro hg2 hK0)))))
  have HU := Lib.hid (And.intro hnum.1 (And.intro hnum.2.1 (And.intro hnum.2.2.1 (And.intro hnum.2.2.2.1 (And.intro hnum.2.2.2.2.1 (And.intro hnum.2.2.2.2.2 u7))))))
  have HM := Lib.hid (And.intro hz (And.intro hkb hn2))
  clear hf hr hg hN hN4 hz hq q100 hnum u7 ht hg2 hml hTe hM hK hX hn2 hN2 hK0
  have HH := Lib.hid (And.intro hc hd)
  have H0 := Lib.hid (And.intro (hT) (And.intro (hs) (And.intro (hL) (Below.refl w.heap.size w))))
  clear hT hs hL hc hd hby hkb
  go_enter Tryd.func7, Tryd.ntmps7
  go_wp2_with fail
  obtain ⟨r1_, r3_⟩ := one_box w #[.int .i64 N, .slice A s.length c, .slice B L.length d] 25
  have H1 := Lib.hid (And.intro ((H0.out.1).below r3_ (H0.out.1).1) (And.intro (Kd.C_below (H0.out.2.1) r3_) (And.intro (Kd.C_below (H0.out.2.2.1) r3_) (And.intro (r1_) ((H0.out.2.2.2).trans (r3_.mono (H0.out.2.2.2).size))))))
  clear H0
  generalize (w.alloc (Obj.cells #[.int .i64 N, .slice A s.length c, .slice B L.length d] 25)) = W1 at *
  clear r1_ r3_
  refine (shown13_calls W1 (H1.out.1)).mono ?_
  rintro e W2 ⟨rfl, hb_⟩
  have H2 := Lib.hid (And.intro ((H1.out.1).below hb_ (H1.out.1).1) (And.intro (Kd.C_below (H1.out.2.1) hb_) (And.intro (Kd.C_below (H1.out.2.2.1) hb_) (And.intro ((H1.out.2.2.2.1).below hb_ (H1.out.2.2.2.1).lt) ((H1.out.2.2.2.2).trans (hb_.mono (H1.out.2.2.2.2).size))))))
  clear H1
  clear hb_
  have c_0 : W2.cell? ⟨w.heap.size, 0, none⟩ = some (.int .i64 N) := (H2.out.2.2.2.1).cell 0
  have c_1 : W2.cell? ⟨w.heap.size, 1, none⟩ = some (.slice A s.length c) := (H2.out.2.2.2.1).cell 1
  have c_2 : W2.cell? ⟨w.heap.size, 2, none⟩ = some (.slice B L.length d) := (H2.out.2.2.2.1).cell 2
  go_wp2_with fail
  clear c_0 c_1 c_2
  refine (R.pyxref13_Few.calls 50 N A c s B d L true W2 (H2.out.2.1) HH.out.1 (H2.out.2.2.1) HH.out.2 (by rw [few_some _ _ _ 50 (by decide), HF.out])).mono ?_
  rintro e W3 ⟨rfl, hb_⟩
  have H3 := Lib.hid (And.intro ((H2.out.1).below hb_ (H2.out.1).1) (And.intro (Kd.C_below (H2.out.2.1) hb_) (And.intro (Kd.C_below (H2.out.2.2.1) hb_) (And.intro ((H2.out.2.2.2.1).below hb_ (H2.out.2.2.2.1).lt) ((H2.out.2.2.2.2).trans (hb_.mono (H2.out.2.2.2.2).size))))))
  clear H2
  clear hb_
  have c_0 : W3.cell? ⟨w.heap.size, 0, none⟩ = some (.int .i64 N) := (H3.out.2.2.2.1).cell 0
  have c_1 : W3.cell? ⟨w.heap.size, 1, none⟩ = some (.slice A s.length c) := (H3.out.2.2.2.1).cell 1
  have c_2 : W3.cell? ⟨w.heap.size, 2, none⟩ = some (.slice B L.length d) := (H3.out.2.2.2.1).cell 2
  go_wp2_with fail
  clear c_0 c_1 c_2
  refine (R.pyxref13_Right.calls 40 N A c s B d L true W3 (H3.out.2.1) HH.out.1 (H3.out.2.2.1) HH.out.2 (by rw [refRight_some _ _ _ 40 (by decide), HR.out])).mono ?_
  rintro e W4 ⟨rfl, hb_⟩
  have H4 := Lib.hid (And.intro ((H3.out.1).below hb_ (H3.out.1).1) (And.intro (Kd.C_below (H3.out.2.1) hb_) (And.intro (Kd.C_below (H3.out.2.2.1) hb_) (And.intro ((H3.out.2.2.2.1).below hb_ (H3.out.2.2.2.1).lt) ((H3.out.2.2.2.2).trans (hb_.mono (H3.out.2.2.2.2).size))))))
  clear H3
  clear hb_
  obtain ⟨u1, u2, u3, -, -, -, -⟩ := HU.out
  have c_0 : W4.cell? ⟨w.heap.size, 0, none⟩ = some (.int .i64 N) := (H4.out.2.2.2.1).cell 0
  have c_1 : W4.cell? ⟨w.heap.size, 1, none⟩ = some (.slice A s.length c) := (H4.out.2.2.2.1).cell 1
  have c_2 : W4.cell? ⟨w.heap.size, 2, none⟩ = some (.slice B L.length d) := (H4.out.2.2.2.1).cell 2
  go_upto_region 5 with fail
  rw [u2]
  clear u1 u2
  go_wp2_with fail
  clear c_0 c_1 c_2
  rw [u3]
  clear u3
  refine (take_any m N X HG.out.2.1 A s c B L d W4 n2 N2 T M K 0 HG.out.2.2.1 HG.out.2.2.2.1 HG.out.1 (H4.out.2.1) HH.out.1 (H4.out.2.2.1) HH.out.2).mono ?_
  rintro e W5 ⟨Ax, cx, Bx, dx, Ak, ck, An, cn, rfl, q1_, q2_, q3_, q4_, -, -, -, -, hb_⟩
  have H5 := Lib.hid (And.intro ((H4.out.1).below hb_ (H4.out.1).1) (And.intro (Kd.C_below (H4.out.2.1) hb_) (And.intro (Kd.C_below (H4.out.2.2.1) hb_) (And.intro ((H4.out.2.2.2.1).below hb_ (H4.out.2.2.2.1).lt) (And.intro (q2_) (And.intro (q4_) ((H4.out.2.2.2.2).trans (hb_.mono (H4.out.2.2.2.2).size))))))))
  clear H4
  clear hb_
  have HQ := Lib.hid (And.intro q1_ q3_)
  clear q1_ q2_ q3_ q4_
  rw [HG.out.2.2.2.2.2]
  generalize K.f1.length = K1 at *
  generalize K.f2.length = K2 at *
  go_upto_region 6 with fail
  obtain ⟨r1_, r2_, r3_, r4_⟩ := two_boxes W5 #[.int .i64 N2, .slice Ax T.length cx, .slice Bx M.length dx] #[.int .i64 X, .slice Ak K1 ck, .slice An K2 cn] 25 43
  have H6 := Lib.hid (And.intro ((H5.out.1).below r3_ (H5.out.1).1) (And.intro (Kd.C_below (H5.out.2.1) r3_) (And.intro (Kd.C_below (H5.out.2.2.1) r3_) (And.intro ((H5.out.2.2.2.1).below r3_ (H5.out.2.2.2.1).lt) (And.intro (Kd.C_below (H5.out.2.2.2.2.1) r3_) (And.intro (Kd.C_below (H5.out.2.2.2.2.2.1) r3_) (And.intro (r1_) (And.intro (r2_) ((H5.out.2.2.2.2.2.2).trans (r3_.mono (H5.out.2.2.2.2.2.2).size))))))))))
  clear H5
  generalize ((W5.alloc (Obj.cells #[.int .i64 N2, .slice Ax T.length cx, .slice Bx M.length dx] 25)).alloc (Obj.cells #[.int .i64 X, .slice Ak K1 ck, .slice An K2 cn] 43)) = W6 at *
  obtain ⟨g6, hg6⟩ : ∃ g, W5.heap.size = g := ⟨_, rfl⟩
  rw [hg6] at H6 ⊢
  clear hg6 r1_ r3_ r2_ r4_
  have c_0 : W6.cell? ⟨w.heap.size, 0, none⟩ = some (.int .i64 N) := (H6.out.2.2.2.1).cell 0
  have c_1 : W6.cell? ⟨w.heap.size, 1, none⟩ = some (.slice A s.length c) := (H6.out.2.2.2.1).cell 1
  have c_2 : W6.cell? ⟨w.heap.size, 2, none⟩ = some (.slice B L.length d) := (H6.out.2.2.2.1).cell 2
  go_upto_region 7 with fail
  clear c_0 c_1 c_2
  obtain ⟨-, -, u3, -, u5, u6, u7⟩ := HU.out
  rw [u6]
  have c_0 : W6.cell? ⟨w.heap.size, 0, none⟩ = some (.int .i64 N) := (H6.out.2.2.2.1).cell 0
  have x_0 : W6.cell? ⟨g6, 0, none⟩ = some (.int .i64 N2) := (H6.out.2.2.2.2.2.2.1).cell 0
  have x_1 : W6.cell? ⟨g6, 1, none⟩ = some (.slice Ax T.length cx) := (H6.out.2.2.2.2.2.2.1).cell 1
  have x_2 : W6.cell? ⟨g6, 2, none⟩ = some (.slice Bx M.length dx) := (H6.out.2.2.2.2.2.2.1).cell 2
  have l_0 : W6.cell? ⟨g6 + 1, 0, none⟩ = some (.int .i64 X) := (H6.out.2.2.2.2.2.2.2.1).cell 0
  go_wp2_with fail
  clear c_0 x_0 x_1 x_2 l_0
  refine (R.pyxref13_Right.calls 40 N2 Ax cx T Bx dx M true W6 (H6.out.2.2.2.2.1) HQ.out.1 (H6.out.2.2.2.2.2.1) HQ.out.2 (by rw [refRight_some _ _ _ 40 (by decide), ← HG.out.2.2.2.1]; exact congrArg some (good_right HG.out.2.2.2.2.1))).mono ?_
  rintro e W7 ⟨rfl, hb_⟩
  have H7 := Lib.hid (And.intro ((H6.out.1).below hb_ (H6.out.1).1) (And.intro (Kd.C_below (H6.out.2.1) hb_) (And.intro (Kd.C_below (H6.out.2.2.1) hb_) (And.intro ((H6.out.2.2.2.1).below hb_ (H6.out.2.2.2.1).lt) (And.intro (Kd.C_below (H6.out.2.2.2.2.1) hb_) (And.intro (Kd.C_below (H6.out.2.2.2.2.2.1) hb_) (And.intro ((H6.out.2.2.2.2.2.2.1).below hb_ (H6.out.2.2.2.2.2.2.1).lt) (And.intro ((H6.out.2.2.2.2.2.2.2.1).below hb_ (H6.out.2.2.2.2.2.2.2.1).lt) ((H6.out.2.2.2.2.2.2.2.2).trans (hb_.mono (H6.out.2.2.2.2.2.2.2.2).size))))))))))
  clear H6
  clear hb_
  clear u3 u5 u6
  obtain ⟨i, hi⟩ : ∃ i, kb % M.length = i := ⟨_, rfl⟩
  have hiM : i < M.length := by rw [← hi]; exact Nat.mod_lt _ HM.out.1
  have v1 : IntKind.i64.wrap (kb : Int) = (kb : Int) := small_wrap kb HM.out.2.1
  have v2 : (kb : Int) % (M.length : Int) = (i : Int) := by rw [← hi]; rfl
  have HI := Lib.hid hiM
  have u8 : M ≠ [] := by intro h; have := HM.out.1; rw [h] at this; simp at this
  clear hi hiM
  go_upto_region 12 with fail
  rw [v2]
  clear u7 u8 v1 v2
  have i1 : (0 : Int) ≤ (i : Int) := Int.natCast_nonneg _
  have i2 : (i : Int) < (M.length : Int) := by have := HI.out; omega
  have i3 : i < 1000 := by have := HI.out; have := HG.out.2.2.2.2.1.2.2.2.1; omega
  have i4 : i < M.length := HI.out
  obtain ⟨ad, A1, c1, A2, c2, rfl, -, -, -, -, -, -, -⟩ := R.at_T43 (H7.out.2.2.2.2.2.1) (i : Int) i1 i2
  obtain ⟨KI, hKI⟩ : ∃ K, M.getD i R.z43 = K := ⟨_, rfl⟩
  obtain ⟨Y, hY⟩ : ∃ Y, M.take i ++ M.drop (i + 1) = Y := ⟨_, rfl⟩
  obtain ⟨Z, hZ⟩ : ∃ Z, R.z43 = Z := ⟨_, rfl⟩
  have hYl : Y.length = M.length - 1 := by rw [← hY]; exact leave_length M i HI.out
  have hYg : Good n2 T Y := by rw [← hY]; exact good_spare HG.out.2.2.2.2.1 i
  have hKo : lockOk KI := by rw [← hKI, getD43 M i HI.out]; exact HG.out.2.2.2.2.1.2.2.2.2.1 _ (List.getElem_mem HI.out)
  have HY := Lib.hid (And.intro (show takeF n2 T M KI.f0 = (n2, T, Y, KI, 0) by rw [← hKI, ← hY]; exact takeF_at HG.out.2.2.2.2.1 i HI.out) (And.intro hKI (And.intro hY (And.intro hYl (And.intro hYg (And.intro hKo (show takeF n2 T Y KI.f0 = (n2, T, Y, Z, 9) by rw [← hKI, ← hY, ← hZ]; exact takeF_left HG.out.2.2.2.2.1 i HI.out)))))))
  clear hKI hY hYl hYg hKo hZ
  obtain ⟨_, A1, c1, A2, c2, e_, y0, -, -, -, -, -, -⟩ := R.at_T43 (H7.out.2.2.2.2.2.1) (i : Int) i1 i2
  cases e_
  rw [show R.rd_T43 M (i : Int) = KI from HY.out.2.1, Int.toNat_natCast] at y0
  have HA := Lib.hid (fun (W : World) (hW : Below W7.heap.size W7 W) => take_any n2 N2 KI.f0 HG.out.2.2.2.1 Ax T cx (some ad) M dx W n2 N2 T Y KI 0 HY.out.1 HG.out.2.2.2.1 HG.out.2.2.2.2.1 (Kd.C_below (H7.out.2.2.2.2.1) hW) HQ.out.1 (Kd.C_below (H7.out.2.2.2.2.2.1) hW) HQ.out.2)
  have y1 := fun {V : World} (hV : Below W7.heap.size W7 V) => cell_kept y0 hV
  have HK := Lib.hid (show ∀ W : World, Below W7.heap.size W7 W → (fun (W : World) => Below W7.heap.size W7 W ∧ W.cell? (ad.add (i * 3)) = some (.int .i64 KI.f0) ∧ W.cell? ⟨g6, 0, none⟩ = some (.int .i64 N2) ∧ W.cell? ⟨g6, 1, none⟩ = some (.slice Ax T.length cx) ∧ W.cell? ⟨g6, 2, none⟩ = some (.slice (some ad) M.length dx)) W from fun W hW => ⟨hW, y1 hW, ((H7.out.2.2.2.2.2.2.1).below hW (H7.out.2.2.2.2.2.2.1).lt).cell 0, ((H7.out.2.2.2.2.2.2.1).below hW (H7.out.2.2.2.2.2.2.1).lt).cell 1, ((H7.out.2.2.2.2.2.2.1).below hW (H7.out.2.2.2.2.2.2.1).lt).cell 2⟩)
  have HB0 := Lib.hid (show Below W7.heap.size W7 W7.drew from (Below.refl _ _).drew)
  have HK2 := Lib.hid (show ∀ x, x ∈ Y → x.f1.length ≠ 0 from good_keys HY.out.2.2.2.2.1)
  clear y0 y1
  go_cut [14, 15, 16] (fun v14 v15 v16 wc => ∃ gy gm : Nat, v14 = .pointer (some ⟨gy, 0, none⟩) ∧ v15 = .pointer (some ⟨gm, 0, none⟩) ∧ v16 = .int .i64 0 ∧ Hid (Taken W7 N2 T Y KI gy gm wc))
  case first =>
    change Code.wp _ (Code.region _ _ _) _ _ _
    go_region_held3 (fun (W : World) => Below W7.heap.size W7 W ∧ W.cell? (ad.add (i * 3)) = some (.int .i64 KI.f0) ∧ W.cell? ⟨g6, 0, none⟩ = some (.int .i64 N2) ∧ W.cell? ⟨g6, 1, none⟩ = some (.slice Ax T.length cx) ∧ W.cell? ⟨g6, 2, none⟩ = some (.slice (some ad) M.length dx)) (first | (refine HK.out _ ?_; (repeat' (first | with_reducible exact hb_ | with_reducible exact HB0.out | with_reducible exact Below.refl _ _ | with_reducible refine Below.drew ?_ | with_reducible refine Below.setCell ?_ ?_ _ | with_reducible refine Below.alloc ?_ ?_ _)); all_goals (first | with_reducible exact Nat.le_refl _ | with_reducible exact hb_.size | (simp; done) | (have h_ := hb_.size; (try simp); done) | (have h_ := hb_.size; (try simp); omega) | (simp; omega)))) ((first | (go_at_call 21; refine (HA.out _ (And.left (by assumption))).mono ?_; rintro e W_ ⟨Ay_, cy_, By_, dy_, Am_, cm_, Ao_, co_, rfl, q1_, q2_, q3_, q4_, q5_, q6_, q7_, q8_, hb0_⟩; have hb_ : Below W7.heap.size W7 W_ := below_next (Nat.le_refl _) (by assumption) hb0_; (first | (have k_ := blk_two hb0_; have zf0_ : W_.frozen? ⟨W7.heap.size, 0, none⟩ = false := (by simpa using (k_.1).frozen 0); have zc0_ : W_.cell? ⟨W7.heap.size, 0, none⟩ = some (.int .i64 0) := (by simpa using (k_.1).cell 0); have zf1_ : W_.frozen? ⟨W7.heap.size, 1, none⟩ = false := (by simpa using (k_.1).frozen 1); have zc1_ : W_.cell? ⟨W7.heap.size, 1, none⟩ = some (.slice none 0 0) := (by simpa using (k_.1).cell 1); have zf2_ : W_.frozen? ⟨W7.heap.size, 2, none⟩ = false := (by simpa using (k_.1).frozen 2); have zc2_ : W_.cell? ⟨W7.heap.size, 2, none⟩ = some (.slice none 0 0) := (by simpa using (k_.1).cell 2); have yf0_ : W_.frozen? ⟨W7.heap.size + 1, 0, none⟩ = false := (by simpa using (k_.2).frozen 0); have yc0_ : W_.cell? ⟨W7.heap.size + 1, 0, none⟩ = some (.int .i64 0) := (by simpa using (k_.2).cell 0); have yf1_ : W_.frozen? ⟨W7.heap.size + 1, 1, none⟩ = false := (by simpa using (k_.2).frozen 1); have yc1_ : W_.cell? ⟨W7.heap.size + 1, 1, none⟩ = some (.slice none 0 0) := (by simpa using (k_.2).cell 1); have yf2_ : W_.frozen? ⟨W7.heap.size + 1, 2, none⟩ = false := (by simpa using (k_.2).frozen 2); have yc2_ : W_.cell? ⟨W7.heap.size + 1, 2, none⟩ = some (.slice none 0 0) := (by simpa using (k_.2).cell 2)) | (have k_ := blk_one hb0_; have lt_ : W7.heap.size < W_.heap.size := (by have h_ := hb0_.size; simp at h_; omega); have ne_ : W7.heap.size ≠ W_.heap.size := Nat.ne_of_lt lt_; have ne2_ : W_.heap.size ≠ W7.heap.size := fun h => ne_ h.symm; have zf0_ : W_.frozen? ⟨W7.heap.size, 0, none⟩ = false := (by simpa using (k_).frozen 0); have zc0_ : W_.cell? ⟨W7.heap.size, 0, none⟩ = some (.int .i64 0) := (by simpa using (k_).cell 0); have zg0_ : ∀ o : Obj, (W_.alloc o).frozen? ⟨W7.heap.size, 0, none⟩ = false := fun o => (by simpa using ((k_).alloc o).frozen 0); have zd0_ : ∀ o : Obj, (W_.alloc o).cell? ⟨W7.heap.size, 0, none⟩ = some (.int .i64 0) := fun o => (by simpa using ((k_).alloc o).cell 0); have zf1_ : W_.frozen? ⟨W7.heap.size, 1, none⟩ = false := (by simpa using (k_).frozen 1); have zc1_ : W_.cell? ⟨W7.heap.size, 1, none⟩ = some (.slice none 0 0) := (by simpa using (k_).cell 1); have zg1_ : ∀ o : Obj, (W_.alloc o).frozen? ⟨W7.heap.size, 1, none⟩ = false := fun o => (by simpa using ((k_).alloc o).frozen 1); have zd1_ : ∀ o : Obj, (W_.alloc o).cell? ⟨W7.heap.size, 1, none⟩ = some (.slice none 0 0) := fun o => (by simpa using ((k_).alloc o).cell 1); have zf2_ : W_.frozen? ⟨W7.heap.size, 2, none⟩ = false := (by simpa using (k_).frozen 2); have zc2_ : W_.cell? ⟨W7.heap.size, 2, none⟩ = some (.slice none 0 0) := (by simpa using (k_).cell 2); have zg2_ : ∀ o : Obj, (W_.alloc o).frozen? ⟨W7.heap.size, 2, none⟩ = false := fun o => (by simpa using ((k_).alloc o).frozen 2); have zd2_ : ∀ o : Obj, (W_.alloc o).cell? ⟨W7.heap.size, 2, none⟩ = some (.slice none 0 0) := fun o => (by simpa using ((k_).alloc o).cell 2)) | skip))))
    all_goals (go_wp2; go_meet)
    all_goals (case rel => (refine ⟨_, _, rfl, rfl, rfl, ?_⟩; refine Lib.hid ?_; first | with_reducible exact taken_new_t q1_ q2_ q3_ q4_ q5_ q6_ q7_ q8_ hb_ | with_reducible exact taken_new_f q1_ q2_ q3_ q4_ q5_ q6_ q7_ q8_ hb_ | with_reducible exact taken_y HK2.out q1_ q2_ q3_ q4_ q5_ q6_ q7_ q8_ hb_ k_ (Nat.le_refl _) | with_reducible exact taken_m HK2.out q1_ q2_ q3_ q4_ q5_ q6_ q7_ q8_ hb_ k_ (Nat.le_refl _) | (have k2_ := k_.2; rw [World.size_alloc] at k2_; first | with_reducible exact taken_six HK2.out q1_ q2_ q3_ q4_ q5_ q6_ q7_ q8_ hb_ k_.1 k2_ (Nat.ne_of_lt (Nat.lt_succ_self _)) (Nat.le_refl _) (Nat.le_succ _) | with_reducible exact taken_six HK2.out q1_ q2_ q3_ q4_ q5_ q6_ q7_ q8_ hb_ k2_ k_.1 (Nat.ne_of_lt (Nat.lt_succ_self _)).symm (Nat.le_succ _) (Nat.le_refl _))))
  case rest =>
  clear HK HA HB0 HK2
  obtain ⟨gy, gm, rfl, rfl, rfl, HT_⟩ := hcut
  obtain ⟨Ay, cy, By, dy, Am, cm, Ao, co, p1_, p2_, p3_, p4_, p5_, p6_, p7_, hb_, -, -, -⟩ := HT_.out
  have HP := Lib.hid p1_
  clear HT_ p1_
  have H8 := Lib.hid (And.intro ((H7.out.1).below hb_ (H7.out.1).1) (And.intro (Kd.C_below (H7.out.2.1) hb_) (And.intro (Kd.C_below (H7.out.2.2.1) hb_) (And.intro ((H7.out.2.2.2.1).below hb_ (H7.out.2.2.2.1).lt) (And.intro (Kd.C_below (H7.out.2.2.2.2.1) hb_) (And.intro (Kd.C_below (H7.out.2.2.2.2.2.1) hb_) (And.intro ((H7.out.2.2.2.2.2.2.1).below hb_ (H7.out.2.2.2.2.2.2.1).lt) (And.intro ((H7.out.2.2.2.2.2.2.2.1).below hb_ (H7.out.2.2.2.2.2.2.2.1).lt) (And.intro (p2_) (And.intro (p3_) (And.intro (p4_) (And.intro (p5_) (And.intro (p6_) (And.intro (p7_) ((H7.out.2.2.2.2.2.2.2.2).trans (hb_.mono (H7.out.2.2.2.2.2.2.2.2).size))))))))))))))))
  clear H7
  clear hb_ p2_ p3_ p4_ p5_ p6_ p7_
  obtain ⟨_, A1, c1, A2, c2, e_, y0, y1, y2, hl1_, hC1_, hl2_, hC2_⟩ := R.at_T43 (H8.out.2.2.2.2.2.1) (i : Int) i1 i2
  cases e_
  rw [show R.rd_T43 M (i : Int) = KI from HY.out.2.1] at y0 y1 y2 hl1_ hC1_ hl2_ hC2_
  rw [Int.toNat_natCast] at y0 y1 y2
  have HA := Lib.hid (fun (W : World) (hW : Below wc.heap.size wc W) => R.pyxref13_SameLock.calls KI.f0 Am cm KI.f1 Ao co KI.f2 KI.f0 A1 c1 KI.f1 A2 c2 KI.f2 true W (Kd.C_below (H8.out.2.2.2.2.2.2.2.2.2.2.1) hW) HP.out.2.2.1 (Kd.C_below (H8.out.2.2.2.2.2.2.2.2.2.2.2.1) hW) HP.out.2.2.2 (Kd.C_below hC1_ hW) hl1_ (Kd.C_below hC2_ hW) hl2_ (by rw [sameL_ref KI KI HY.out.2.2.2.2.2.1 HY.out.2.2.2.2.2.1, (sameK_eq KI KI).2 rfl]))
  have HK := Lib.hid (show ∀ W : World, Below wc.heap.size wc W → (fun (W : World) => Below wc.heap.size wc W ∧ W.cell? (ad.add (i * 3)) = some (.int .i64 KI.f0) ∧ W.cell? ⟨(ad.add (i * 3)).block, (ad.add (i * 3)).off + 1, none⟩ = some (.slice A1 KI.f1.length c1) ∧ W.cell? ⟨(ad.add (i * 3)).block, (ad.add (i * 3)).off + 2, none⟩ = some (.slice A2 KI.f2.length c2) ∧ W.cell? ⟨g6, 0, none⟩ = some (.int .i64 N2) ∧ W.cell? ⟨g6, 2, none⟩ = some (.slice (some ad) M.length dx) ∧ W.cell? ⟨gy, 0, none⟩ = some (.int .i64 N2) ∧ W.cell? ⟨gy, 2, none⟩ = some (.slice By Y.length dy) ∧ W.cell? ⟨gm, 0, none⟩ = some (.int .i64 KI.f0) ∧ W.cell? ⟨gm, 1, none⟩ = some (.slice Am KI.f1.length cm) ∧ W.cell? ⟨gm, 2, none⟩ = some (.slice Ao KI.f2.length co)) W from fun W hW => ⟨hW, cell_kept y0 hW, cell_kept y1 hW, cell_kept y2 hW, ((H8.out.2.2.2.2.2.2.1).below hW (H8.out.2.2.2.2.2.2.1).lt).cell 0, ((H8.out.2.2.2.2.2.2.1).below hW (H8.out.2.2.2.2.2.2.1).lt).cell 2, ((H8.out.2.2.2.2.2.2.2.2.2.2.2.2.1).below hW (H8.out.2.2.2.2.2.2.2.2.2.2.2.2.1).lt).cell 0, ((H8.out.2.2.2.2.2.2.2.2.2.2.2.2.1).below hW (H8.out.2.2.2.2.2.2.2.2.2.2.2.2.1).lt).cell 2, ((H8.out.2.2.2.2.2.2.2.2.2.2.2.2.2.1).below hW (H8.out.2.2.2.2.2.2.2.2.2.2.2.2.2.1).lt).cell 0, ((H8.out.2.2.2.2.2.2.2.2.2.2.2.2.2.1).below hW (H8.out.2.2.2.2.2.2.2.2.2.2.2.2.2.1).lt).cell 1, ((H8.out.2.2.2.2.2.2.2.2.2.2.2.2.2.1).below hW (H8.out.2.2.2.2.2.2.2.2.2.2.2.2.2.1).lt).cell 2⟩)
  have HB0 := Lib.hid (show Below wc.heap.size wc wc.drew from (Below.refl _ _).drew)
  have r1 : (N2 != N2) = false := by simp
  have hY1 : IntKind.i64.wrap ((M.length : Int) - 1) = (Y.length : Int) := by rw [IntWalk.i64_in _ ⟨by have := HI.out; omega, by have := HG.out.2.2.2.2.1.2.2.2.1; omega⟩]; have := HY.out.2.2.2.1; have := HI.out; omega
  have r3 : ((Y.length : Int) != (Y.length : Int)) = false := by simp
  have HW := Lib.hid hY1
  clear y0 y1 y2 hl1_ hC1_ hl2_ hC2_
  go_upto_region 13 with fail
  change Code.wp _ (Code.region _ _ _) _ _ _
  go_region_held3 (fun (W : World) => Below wc.heap.size wc W ∧ W.cell? (ad.add (i * 3)) = some (.int .i64 KI.f0) ∧ W.cell? ⟨(ad.add (i * 3)).block, (ad.add (i * 3)).off + 1, none⟩ = some (.slice A1 KI.f1.length c1) ∧ W.cell? ⟨(ad.add (i * 3)).block, (ad.add (i * 3)).off + 2, none⟩ = some (.slice A2 KI.f2.length c2) ∧ W.cell? ⟨g6, 0, none⟩ = some (.int .i64 N2) ∧ W.cell? ⟨g6, 2, none⟩ = some (.slice (some ad) M.length dx) ∧ W.cell? ⟨gy, 0, none⟩ = some (.int .i64 N2) ∧ W.cell? ⟨gy, 2, none⟩ = some (.slice By Y.length dy) ∧ W.cell? ⟨gm, 0, none⟩ = some (.int .i64 KI.f0) ∧ W.cell? ⟨gm, 1, none⟩ = some (.slice Am KI.f1.length cm) ∧ W.cell? ⟨gm, 2, none⟩ = some (.slice Ao KI.f2.length co)) (first | exact HK.out _ HB0.out | exact HK.out _ (by assumption)) ((first | (go_at_call 23; refine (HA.out _ (And.left (by assumption))).mono ?_; rintro e W13_ ⟨rfl, hb0_⟩; have hb_ : Below wc.heap.size wc W13_ := below_next (Nat.le_refl _) (by assumption) hb0_)))
  clear HK HA HB0 r1 r3 hY1
  have H9 := Lib.hid (And.intro ((H8.out.1).below hb_ (H8.out.1).1) (And.intro (Kd.C_below (H8.out.2.1) hb_) (And.intro (Kd.C_below (H8.out.2.2.1) hb_) (And.intro ((H8.out.2.2.2.1).below hb_ (H8.out.2.2.2.1).lt) (And.intro (Kd.C_below (H8.out.2.2.2.2.1) hb_) (And.intro (Kd.C_below (H8.out.2.2.2.2.2.1) hb_) (And.intro ((H8.out.2.2.2.2.2.2.1).below hb_ (H8.out.2.2.2.2.2.2.1).lt) (And.intro ((H8.out.2.2.2.2.2.2.2.1).below hb_ (H8.out.2.2.2.2.2.2.2.1).lt) (And.intro (Kd.C_below (H8.out.2.2.2.2.2.2.2.2.1) hb_) (And.intro (Kd.C_below (H8.out.2.2.2.2.2.2.2.2.2.1) hb_) (And.intro (Kd.C_below (H8.out.2.2.2.2.2.2.2.2.2.2.1) hb_) (And.intro (Kd.C_below (H8.out.2.2.2.2.2.2.2.2.2.2.2.1) hb_) (And.intro ((H8.out.2.2.2.2.2.2.2.2.2.2.2.2.1).below hb_ (H8.out.2.2.2.2.2.2.2.2.2.2.2.2.1).lt) (And.intro ((H8.out.2.2.2.2.2.2.2.2.2.2.2.2.2.1).below hb_ (H8.out.2.2.2.2.2.2.2.2.2.2.2.2.2.1).lt) ((H8.out.2.2.2.2.2.2.2.2.2.2.2.2.2.2).trans (hb_.mono (H8.out.2.2.2.2.2.2.2.2.2.2.2.2.2.2).size))))))))))))))))
  clear H8
  clear hb_ 
  have hY6 : wrap64 ((M.length : Int) - 1) = (Y.length : Int) := by have h1 := HI.out; have h2 := HG.out.2.2.2.2.1.2.2.2.1; have h3 := HY.out.2.2.2.1; unfold wrap64; omega
  have h32_ : Y.length < 1000 := by have := HG.out.2.2.2.2.1.2.2.2.1; have := HY.out.2.2.2.1; omega
  have HY6 := Lib.hid (And.intro hY6 h32_)
  clear h32_
  go_wp2_with fail
  go_loopw [17] (fun v17 wr => ∃ j : Nat, v17 = .int .i64 (j : Int) ∧ j ≤ Y.length ∧ Hid (Below W13_.heap.size W13_ wr)) (fun v17 _ => Y.length - (intOf v17).toNat)
  case atStart => exact ⟨0, rfl, Nat.zero_le _, Lib.hid (Below.refl _ _)⟩
  case round =>
    obtain ⟨j, rfl, hj, HS⟩ := hrel
    by_cases hlt : j < Y.length
    · have d1 : decide ((j : Int) < (Y.length : Int)) = true := by rw [decide_eq_true_eq]; omega
      have j1 : (0 : Int) ≤ (j : Int) := Int.natCast_nonneg _
      have j2 : (j : Int) < (Y.length : Int) := by omega
      have j3 : j < 1000 := by have := HY6.out.2; omega
      by_cases hij : i ≤ j
      · have d2 : decide ((i : Int) ≤ (j : Int)) = true := by simp; omega
        have hf0 : fromJ i j = (j + 1) := by unfold fromJ; rw [if_pos hij]
        have hfM : (j + 1) < M.length := by have := HY.out.2.2.2.1; omega
        have f1 : (0 : Int) ≤ ((j : Int) + 1) := by omega
        have f2 : ((j : Int) + 1) < (M.length : Int) := by omega
        have hw6 : wrap64 ((j : Int) + 1) = (j : Int) + 1 := by unfold wrap64; omega
        obtain ⟨KJ, hKJ⟩ : ∃ K, M.getD (j + 1) R.z43 = K := ⟨_, rfl⟩
        have hKY : Y.getD j R.z43 = KJ := by rw [← hKJ, ← HY.out.2.2.1, getD_leave M i j HI.out (by have := HY.out.2.2.2.1; omega), hf0]
        have hKo : lockOk KJ := by rw [← hKJ, getD43 M _ hfM]; exact HG.out.2.2.2.2.1.2.2.2.2.1 _ (List.getElem_mem hfM)
        have CY := Kd.C_below (H9.out.2.2.2.2.2.2.2.2.2.1) HS.out
        have CM := Kd.C_below (H9.out.2.2.2.2.2.1) HS.out
        obtain ⟨bd, A1, c1, A2, c2, e_, y0, y1, y2, hl1_, hC1_, hl2_, hC2_⟩ := R.at_T43 CY (j : Int) j1 j2
        rw [show R.rd_T43 Y (j : Int) = KJ from hKY] at y0 y1 y2 hl1_ hC1_ hl2_ hC2_
        rw [Int.toNat_natCast] at y0 y1 y2
        subst e_
        obtain ⟨_, A3, c3, A4, c4, e_, z0, z1, z2, hl3_, hC3_, hl4_, hC4_⟩ := R.at_T43 CM ((j : Int) + 1) f1 f2
        cases e_
        rw [show R.rd_T43 M ((j : Int) + 1) = KJ from hKJ] at z0 z1 z2 hl3_ hC3_ hl4_ hC4_
        rw [show ((j : Int) + 1).toNat = j + 1 from by omega] at z0 z1 z2
        have HA := Lib.hid (fun (W : World) (hW : Below wr.heap.size wr W) => R.pyxref13_SameLock.calls KJ.f0 A1 c1 KJ.f1 A2 c2 KJ.f2 KJ.f0 A3 c3 KJ.f1 A4 c4 KJ.f2 true W (Kd.C_below hC1_ hW) hl1_ (Kd.C_below hC2_ hW) hl2_ (Kd.C_below hC3_ hW) hl3_ (Kd.C_below hC4_ hW) hl4_ (by rw [sameL_ref KJ KJ hKo hKo, (sameK_eq KJ KJ).2 rfl]))
        have bx := (H9.out.2.2.2.2.2.2.1).below HS.out (H9.out.2.2.2.2.2.2.1).lt
        have by2 := (H9.out.2.2.2.2.2.2.2.2.2.2.2.2.1).below HS.out (H9.out.2.2.2.2.2.2.2.2.2.2.2.2.1).lt
        have HK := Lib.hid (show ∀ W : World, Below wr.heap.size wr W → (fun (W : World) => Below wr.heap.size wr W ∧ W.cell? (bd.add (j * 3)) = some (.int .i64 KJ.f0) ∧ W.cell? ⟨(bd.add (j * 3)).block, (bd.add (j * 3)).off + 1, none⟩ = some (.slice A1 KJ.f1.length c1) ∧ W.cell? ⟨(bd.add (j * 3)).block, (bd.add (j * 3)).off + 2, none⟩ = some (.slice A2 KJ.f2.length c2) ∧ W.cell? (ad.add ((j + 1) * 3)) = some (.int .i64 KJ.f0) ∧ W.cell? ⟨(ad.add ((j + 1) * 3)).block, (ad.add ((j + 1) * 3)).off + 1, none⟩ = some (.slice A3 KJ.f1.length c3) ∧ W.cell? ⟨(ad.add ((j + 1) * 3)).block, (ad.add ((j + 1) * 3)).off + 2, none⟩ = some (.slice A4 KJ.f2.length c4) ∧ W.cell? ⟨g6, 2, none⟩ = some (.slice (some ad) M.length dx) ∧ W.cell? ⟨gy, 2, none⟩ = some (.slice (some bd) Y.length dy)) W from fun W hW => ⟨hW, cell_kept y0 hW, cell_kept y1 hW, cell_kept y2 hW, cell_kept z0 hW, cell_kept z1 hW, cell_kept z2 hW, (bx.below hW bx.lt).cell 2, (by2.below hW by2.lt).cell 2⟩)
        have HB0 := Lib.hid (show Below wr.heap.size wr wr.drew from (Below.refl _ _).drew)
        clear y0 y1 y2 z0 z1 z2 hl1_ hC1_ hl2_ hC2_ hl3_ hC3_ hl4_ hC4_ CY CM bx by2 hKJ hKY hKo hf0 hj
        go_upto_region 21 with fail
        change Code.wp _ (Code.region _ _ _) _ _ _
        go_region_held3 (fun (W : World) => Below wr.heap.size wr W ∧ W.cell? (bd.add (j * 3)) = some (.int .i64 KJ.f0) ∧ W.cell? ⟨(bd.add (j * 3)).block, (bd.add (j * 3)).off + 1, none⟩ = some (.slice A1 KJ.f1.length c1) ∧ W.cell? ⟨(bd.add (j * 3)).block, (bd.add (j * 3)).off + 2, none⟩ = some (.slice A2 KJ.f2.length c2) ∧ W.cell? (ad.add ((j + 1) * 3)) = some (.int .i64 KJ.f0) ∧ W.cell? ⟨(ad.add ((j + 1) * 3)).block, (ad.add ((j + 1) * 3)).off + 1, none⟩ = some (.slice A3 KJ.f1.length c3) ∧ W.cell? ⟨(ad.add ((j + 1) * 3)).block, (ad.add ((j + 1) * 3)).off + 2, none⟩ = some (.slice A4 KJ.f2.length c4) ∧ W.cell? ⟨g6, 2, none⟩ = some (.slice (some ad) M.length dx) ∧ W.cell? ⟨gy, 2, none⟩ = some (.slice (some bd) Y.length dy)) (first | exact HK.out _ HB0.out | exact HK.out _ (by assumption)) ((first | (go_at_call 23; refine (HA.out _ (And.left (by assumption))).mono ?_; rintro e WS_ ⟨rfl, hb0_⟩; have hb_ : Below wr.heap.size wr WS_ := below_next (Nat.le_refl _) (by assumption) hb0_)))
        have HE := Lib.hid (HS.out.trans (hb_.mono HS.out.size))
        clear HK HA HB0 hb_
        go_wp2
        refine ⟨⟨j + 1, by go_num, by omega, HE⟩, ?_⟩
        simp [intOf]
        omega
      · have d2 : decide ((i : Int) ≤ (j : Int)) = false := by simp; omega
        have hf0 : fromJ i j = j := by unfold fromJ; rw [if_neg hij]
        have hfM : j < M.length := by have := HY.out.2.2.2.1; omega
        have f1 : (0 : Int) ≤ (j : Int) := by omega
        have f2 : (j : Int) < (M.length : Int) := by omega
        obtain ⟨KJ, hKJ⟩ : ∃ K, M.getD j R.z43 = K := ⟨_, rfl⟩
        have hKY : Y.getD j R.z43 = KJ := by rw [← hKJ, ← HY.out.2.2.1, getD_leave M i j HI.out (by have := HY.out.2.2.2.1; omega), hf0]
        have hKo : lockOk KJ := by rw [← hKJ, getD43 M _ hfM]; exact HG.out.2.2.2.2.1.2.2.2.2.1 _ (List.getElem_mem hfM)
        have CY := Kd.C_below (H9.out.2.2.2.2.2.2.2.2.2.1) HS.out
        have CM := Kd.C_below (H9.out.2.2.2.2.2.1) HS.out
        obtain ⟨bd, A1, c1, A2, c2, e_, y0, y1, y2, hl1_, hC1_, hl2_, hC2_⟩ := R.at_T43 CY (j : Int) j1 j2
        rw [show R.rd_T43 Y (j : Int) = KJ from hKY] at y0 y1 y2 hl1_ hC1_ hl2_ hC2_
        rw [Int.toNat_natCast] at y0 y1 y2
        subst e_
        obtain ⟨_, A3, c3, A4, c4, e_, z0, z1, z2, hl3_, hC3_, hl4_, hC4_⟩ := R.at_T43 CM (j : Int) f1 f2
        cases e_
        rw [show R.rd_T43 M (j : Int) = KJ from hKJ] at z0 z1 z2 hl3_ hC3_ hl4_ hC4_
        rw [show ((j : Int)).toNat = j from rfl] at z0 z1 z2
        have HA := Lib.hid (fun (W : World) (hW : Below wr.heap.size wr W) => R.pyxref13_SameLock.calls KJ.f0 A1 c1 KJ.f1 A2 c2 KJ.f2 KJ.f0 A3 c3 KJ.f1 A4 c4 KJ.f2 true W (Kd.C_below hC1_ hW) hl1_ (Kd.C_below hC2_ hW) hl2_ (Kd.C_below hC3_ hW) hl3_ (Kd.C_below hC4_ hW) hl4_ (by rw [sameL_ref KJ KJ hKo hKo, (sameK_eq KJ KJ).2 rfl]))
        have bx := (H9.out.2.2.2.2.2.2.1).below HS.out (H9.out.2.2.2.2.2.2.1).lt
        have by2 := (H9.out.2.2.2.2.2.2.2.2.2.2.2.2.1).below HS.out (H9.out.2.2.2.2.2.2.2.2.2.2.2.2.1).lt
        have HK := Lib.hid (show ∀ W : World, Below wr.heap.size wr W → (fun (W : World) => Below wr.heap.size wr W ∧ W.cell? (bd.add (j * 3)) = some (.int .i64 KJ.f0) ∧ W.cell? ⟨(bd.add (j * 3)).block, (bd.add (j * 3)).off + 1, none⟩ = some (.slice A1 KJ.f1.length c1) ∧ W.cell? ⟨(bd.add (j * 3)).block, (bd.add (j * 3)).off + 2, none⟩ = some (.slice A2 KJ.f2.length c2) ∧ W.cell? (ad.add (j * 3)) = some (.int .i64 KJ.f0) ∧ W.cell? ⟨(ad.add (j * 3)).block, (ad.add (j * 3)).off + 1, none⟩ = some (.slice A3 KJ.f1.length c3) ∧ W.cell? ⟨(ad.add (j * 3)).block, (ad.add (j * 3)).off + 2, none⟩ = some (.slice A4 KJ.f2.length c4) ∧ W.cell? ⟨g6, 2, none⟩ = some (.slice (some ad) M.length dx) ∧ W.cell? ⟨gy, 2, none⟩ = some (.slice (some bd) Y.length dy)) W from fun W hW => ⟨hW, cell_kept y0 hW, cell_kept y1 hW, cell_kept y2 hW, cell_kept z0 hW, cell_kept z1 hW, cell_kept z2 hW, (bx.below hW bx.lt).cell 2, (by2.below hW by2.lt).cell 2⟩)
        have HB0 := Lib.hid (show Below wr.heap.size wr wr.drew from (Below.refl _ _).drew)
        clear y0 y1 y2 z0 z1 z2 hl1_ hC1_ hl2_ hC2_ hl3_ hC3_ hl4_ hC4_ CY CM bx by2 hKJ hKY hKo hf0 hj
        go_upto_region 21 with fail
        change Code.wp _ (Code.region _ _ _) _ _ _
        go_region_held3 (fun (W : World) => Below wr.heap.size wr W ∧ W.cell? (bd.add (j * 3)) = some (.int .i64 KJ.f0) ∧ W.cell? ⟨(bd.add (j * 3)).block, (bd.add (j * 3)).off + 1, none⟩ = some (.slice A1 KJ.f1.length c1) ∧ W.cell? ⟨(bd.add (j * 3)).block, (bd.add (j * 3)).off + 2, none⟩ = some (.slice A2 KJ.f2.length c2) ∧ W.cell? (ad.add (j * 3)) = some (.int .i64 KJ.f0) ∧ W.cell? ⟨(ad.add (j * 3)).block, (ad.add (j * 3)).off + 1, none⟩ = some (.slice A3 KJ.f1.length c3) ∧ W.cell? ⟨(ad.add (j * 3)).block, (ad.add (j * 3)).off + 2, none⟩ = some (.slice A4 KJ.f2.length c4) ∧ W.cell? ⟨g6, 2, none⟩ = some (.slice (some ad) M.length dx) ∧ W.cell? ⟨gy, 2, none⟩ = some (.slice (some bd) Y.length dy)) (first | exact HK.out _ HB0.out | exact HK.out _ (by assumption)) ((first | (go_at_call 23; refine (HA.out _ (And.left (by assumption))).mono ?_; rintro e WS_ ⟨rfl, hb0_⟩; have hb_ : Below wr.heap.size wr WS_ := below_next (Nat.le_refl _) (by assumption) hb0_)))
        have HE := Lib.hid (HS.out.trans (hb_.mono HS.out.size))
        clear HK HA HB0 hb_
        go_wp2
        refine ⟨⟨j + 1, by go_num, by omega, HE⟩, ?_⟩
        simp [intOf]
        omega
    · obtain rfl : j = Y.length := by omega
      have d1 : decide ((Y.length : Int) < (Y.length : Int)) = false := by simp
      have hb_ := HS.out
      have H10 := Lib.hid (And.intro ((H9.out.1).below hb_ (H9.out.1).1) (And.intro (Kd.C_below (H9.out.2.1) hb_) (And.intro (Kd.C_below (H9.out.2.2.1) hb_) (And.intro ((H9.out.2.2.2.1).below hb_ (H9.out.2.2.2.1).lt) (And.intro (Kd.C_below (H9.out.2.2.2.2.1) hb_) (And.intro (Kd.C_below (H9.out.2.2.2.2.2.1) hb_) (And.intro ((H9.out.2.2.2.2.2.2.1).below hb_ (H9.out.2.2.2.2.2.2.1).lt) (And.intro ((H9.out.2.2.2.2.2.2.2.1).below hb_ (H9.out.2.2.2.2.2.2.2.1).lt) (And.intro (Kd.C_below (H9.out.2.2.2.2.2.2.2.2.1) hb_) (And.intro (Kd.C_below (H9.out.2.2.2.2.2.2.2.2.2.1) hb_) (And.intro (Kd.C_below (H9.out.2.2.2.2.2.2.2.2.2.2.1) hb_) (And.intro (Kd.C_below (H9.out.2.2.2.2.2.2.2.2.2.2.2.1) hb_) (And.intro ((H9.out.2.2.2.2.2.2.2.2.2.2.2.2.1).below hb_ (H9.out.2.2.2.2.2.2.2.2.2.2.2.2.1).lt) (And.intro ((H9.out.2.2.2.2.2.2.2.2.2.2.2.2.2.1).below hb_ (H9.out.2.2.2.2.2.2.2.2.2.2.2.2.2.1).lt) ((H9.out.2.2.2.2.2.2.2.2.2.2.2.2.2.2).trans (hb_.mono (H9.out.2.2.2.2.2.2.2.2.2.2.2.2.2.2).size))))))))))))))))
      clear H9
      clear hb_ 
      clear HS hlt hj
      go_upto_region 23 with fail
      obtain ⟨_, A1, c1, A2, c2, e_, y0, -, -, -, -, -, -⟩ := R.at_T43 (H10.out.2.2.2.2.2.1) (i : Int) i1 i2
      cases e_
      rw [show R.rd_T43 M (i : Int) = KI from HY.out.2.1, Int.toNat_natCast] at y0
      have HA := Lib.hid (fun (W : World) (hW : Below wr.heap.size wr W) => take_any n2 N2 KI.f0 HG.out.2.2.2.1 Ay T cy By Y dy W n2 N2 T Y Z 9 HY.out.2.2.2.2.2.2 HG.out.2.2.2.1 HY.out.2.2.2.2.1 (Kd.C_below (H10.out.2.2.2.2.2.2.2.2.1) hW) HP.out.1 (Kd.C_below (H10.out.2.2.2.2.2.2.2.2.2.1) hW) HP.out.2.1)
      have y1 := fun {V : World} (hV : Below wr.heap.size wr V) => cell_kept y0 hV
      have HK := Lib.hid (show ∀ W : World, Below wr.heap.size wr W → (fun (W : World) => Below wr.heap.size wr W ∧ W.cell? (ad.add (i * 3)) = some (.int .i64 KI.f0) ∧ W.cell? ⟨g6, 2, none⟩ = some (.slice (some ad) M.length dx) ∧ W.cell? ⟨gy, 0, none⟩ = some (.int .i64 N2) ∧ W.cell? ⟨gy, 1, none⟩ = some (.slice Ay T.length cy) ∧ W.cell? ⟨gy, 2, none⟩ = some (.slice By Y.length dy)) W from fun W hW => ⟨hW, y1 hW, ((H10.out.2.2.2.2.2.2.1).below hW (H10.out.2.2.2.2.2.2.1).lt).cell 2, ((H10.out.2.2.2.2.2.2.2.2.2.2.2.2.1).below hW (H10.out.2.2.2.2.2.2.2.2.2.2.2.2.1).lt).cell 0, ((H10.out.2.2.2.2.2.2.2.2.2.2.2.2.1).below hW (H10.out.2.2.2.2.2.2.2.2.2.2.2.2.1).lt).cell 1, ((H10.out.2.2.2.2.2.2.2.2.2.2.2.2.1).below hW (H10.out.2.2.2.2.2.2.2.2.2.2.2.2.1).lt).cell 2⟩)
      have HB0 := Lib.hid (show Below wr.heap.size wr wr.drew from (Below.refl _ _).drew)
      have HK2 := Lib.hid (show ∀ x, x ∈ Y → x.f1.length ≠ 0 from good_keys HY.out.2.2.2.2.1)
      clear y0 y1
      go_cut [19, 20, 21] (fun v14 v15 v16 wc => ∃ gy gm : Nat, v14 = .pointer (some ⟨gy, 0, none⟩) ∧ v15 = .pointer (some ⟨gm, 0, none⟩) ∧ v16 = .int .i64 9 ∧ Hid (Taken wr N2 T Y Z gy gm wc))
      case first =>
        change Code.wp _ (Code.region _ _ _) _ _ _
        go_region_held3 (fun (W : World) => Below wr.heap.size wr W ∧ W.cell? (ad.add (i * 3)) = some (.int .i64 KI.f0) ∧ W.cell? ⟨g6, 2, none⟩ = some (.slice (some ad) M.length dx) ∧ W.cell? ⟨gy, 0, none⟩ = some (.int .i64 N2) ∧ W.cell? ⟨gy, 1, none⟩ = some (.slice Ay T.length cy) ∧ W.cell? ⟨gy, 2, none⟩ = some (.slice By Y.length dy)) (first | (refine HK.out _ ?_; (repeat' (first | with_reducible exact hb_ | with_reducible exact HB0.out | with_reducible exact Below.refl _ _ | with_reducible refine Below.drew ?_ | with_reducible refine Below.setCell ?_ ?_ _ | with_reducible refine Below.alloc ?_ ?_ _)); all_goals (first | with_reducible exact Nat.le_refl _ | with_reducible exact hb_.size | (simp; done) | (have h_ := hb_.size; (try simp); done) | (have h_ := hb_.size; (try simp); omega) | (simp; omega)))) ((first | (go_at_call 21; refine (HA.out _ (And.left (by assumption))).mono ?_; rintro e W_ ⟨Ay_, cy_, By_, dy_, Am_, cm_, Ao_, co_, rfl, q1_, q2_, q3_, q4_, q5_, q6_, q7_, q8_, hb0_⟩; have hb_ : Below wr.heap.size wr W_ := below_next (Nat.le_refl _) (by assumption) hb0_; (first | (have k_ := blk_two hb0_; have zf0_ : W_.frozen? ⟨wr.heap.size, 0, none⟩ = false := (by simpa using (k_.1).frozen 0); have zc0_ : W_.cell? ⟨wr.heap.size, 0, none⟩ = some (.int .i64 0) := (by simpa using (k_.1).cell 0); have zf1_ : W_.frozen? ⟨wr.heap.size, 1, none⟩ = false := (by simpa using (k_.1).frozen 1); have zc1_ : W_.cell? ⟨wr.heap.size, 1, none⟩ = some (.slice none 0 0) := (by simpa using (k_.1).cell 1); have zf2_ : W_.frozen? ⟨wr.heap.size, 2, none⟩ = false := (by simpa using (k_.1).frozen 2); have zc2_ : W_.cell? ⟨wr.heap.size, 2, none⟩ = some (.slice none 0 0) := (by simpa using (k_.1).cell 2); have yf0_ : W_.frozen? ⟨wr.heap.size + 1, 0, none⟩ = false := (by simpa using (k_.2).frozen 0); have yc0_ : W_.cell? ⟨wr.heap.size + 1, 0, none⟩ = some (.int .i64 0) := (by simpa using (k_.2).cell 0); have yf1_ : W_.frozen? ⟨wr.heap.size + 1, 1, none⟩ = false := (by simpa using (k_.2).frozen 1); have yc1_ : W_.cell? ⟨wr.heap.size + 1, 1, none⟩ = some (.slice none 0 0) := (by simpa using (k_.2).cell 1); have yf2_ : W_.frozen? ⟨wr.heap.size + 1, 2, none⟩ = false := (by simpa using (k_.2).frozen 2); have yc2_ : W_.cell? ⟨wr.heap.size + 1, 2, none⟩ = some (.slice none 0 0) := (by simpa using (k_.2).cell 2)) | (have k_ := blk_one hb0_; have lt_ : wr.heap.size < W_.heap.size := (by have h_ := hb0_.size; simp at h_; omega); have ne_ : wr.heap.size ≠ W_.heap.size := Nat.ne_of_lt lt_; have ne2_ : W_.heap.size ≠ wr.heap.size := fun h => ne_ h.symm; have zf0_ : W_.frozen? ⟨wr.heap.size, 0, none⟩ = false := (by simpa using (k_).frozen 0); have zc0_ : W_.cell? ⟨wr.heap.size, 0, none⟩ = some (.int .i64 0) := (by simpa using (k_).cell 0); have zg0_ : ∀ o : Obj, (W_.alloc o).frozen? ⟨wr.heap.size, 0, none⟩ = false := fun o => (by simpa using ((k_).alloc o).frozen 0); have zd0_ : ∀ o : Obj, (W_.alloc o).cell? ⟨wr.heap.size, 0, none⟩ = some (.int .i64 0) := fun o => (by simpa using ((k_).alloc o).cell 0); have zf1_ : W_.frozen? ⟨wr.heap.size, 1, none⟩ = false := (by simpa using (k_).frozen 1); have zc1_ : W_.cell? ⟨wr.heap.size, 1, none⟩ = some (.slice none 0 0) := (by simpa using (k_).cell 1); have zg1_ : ∀ o : Obj, (W_.alloc o).frozen? ⟨wr.heap.size, 1, none⟩ = false := fun o => (by simpa using ((k_).alloc o).frozen 1); have zd1_ : ∀ o : Obj, (W_.alloc o).cell? ⟨wr.heap.size, 1, none⟩ = some (.slice none 0 0) := fun o => (by simpa using ((k_).alloc o).cell 1); have zf2_ : W_.frozen? ⟨wr.heap.size, 2, none⟩ = false := (by simpa using (k_).frozen 2); have zc2_ : W_.cell? ⟨wr.heap.size, 2, none⟩ = some (.slice none 0 0) := (by simpa using (k_).cell 2); have zg2_ : ∀ o : Obj, (W_.alloc o).frozen? ⟨wr.heap.size, 2, none⟩ = false := fun o => (by simpa using ((k_).alloc o).frozen 2); have zd2_ : ∀ o : Obj, (W_.alloc o).cell? ⟨wr.heap.size, 2, none⟩ = some (.slice none 0 0) := fun o => (by simpa using ((k_).alloc o).cell 2)) | skip))))
        all_goals (go_wp2; go_meet)
        all_goals (case rel => (refine ⟨_, _, rfl, rfl, rfl, ?_⟩; refine Lib.hid ?_; first | with_reducible exact taken_new_t q1_ q2_ q3_ q4_ q5_ q6_ q7_ q8_ hb_ | with_reducible exact taken_new_f q1_ q2_ q3_ q4_ q5_ q6_ q7_ q8_ hb_ | with_reducible exact taken_y HK2.out q1_ q2_ q3_ q4_ q5_ q6_ q7_ q8_ hb_ k_ (Nat.le_refl _) | with_reducible exact taken_m HK2.out q1_ q2_ q3_ q4_ q5_ q6_ q7_ q8_ hb_ k_ (Nat.le_refl _) | (have k2_ := k_.2; rw [World.size_alloc] at k2_; first | with_reducible exact taken_six HK2.out q1_ q2_ q3_ q4_ q5_ q6_ q7_ q8_ hb_ k_.1 k2_ (Nat.ne_of_lt (Nat.lt_succ_self _)) (Nat.le_refl _) (Nat.le_succ _) | with_reducible exact taken_six HK2.out q1_ q2_ q3_ q4_ q5_ q6_ q7_ q8_ hb_ k2_ k_.1 (Nat.ne_of_lt (Nat.lt_succ_self _)).symm (Nat.le_succ _) (Nat.le_refl _))))
      case rest =>
      clear HK HA HB0 HK2
      obtain ⟨gz, gn, rfl, rfl, rfl, HT_⟩ := hcut
      obtain ⟨_, _, _, _, _, _, _, _, -, -, -, -, -, -, -, hb_, -, -, -⟩ := HT_.out
      clear HT_
      have H11 := Lib.hid (And.intro ((H10.out.1).below hb_ (H10.out.1).1) (And.intro (Kd.C_below (H10.out.2.1) hb_) (And.intro (Kd.C_below (H10.out.2.2.1) hb_) (And.intro ((H10.out.2.2.2.1).below hb_ (H10.out.2.2.2.1).lt) (And.intro (Kd.C_below (H10.out.2.2.2.2.1) hb_) (And.intro (Kd.C_below (H10.out.2.2.2.2.2.1) hb_) (And.intro ((H10.out.2.2.2.2.2.2.1).below hb_ (H10.out.2.2.2.2.2.2.1).lt) (And.intro ((H10.out.2.2.2.2.2.2.2.1).below hb_ (H10.out.2.2.2.2.2.2.2.1).lt) (And.intro (Kd.C_below (H10.out.2.2.2.2.2.2.2.2.1) hb_) (And.intro (Kd.C_below (H10.out.2.2.2.2.2.2.2.2.2.1) hb_) (And.intro (Kd.C_below (H10.out.2.2.2.2.2.2.2.2.2.2.1) hb_) (And.intro (Kd.C_below (H10.out.2.2.2.2.2.2.2.2.2.2.2.1) hb_) (And.intro ((H10.out.2.2.2.2.2.2.2.2.2.2.2.2.1).below hb_ (H10.out.2.2.2.2.2.2.2.2.2.2.2.2.1).lt) (And.intro ((H10.out.2.2.2.2.2.2.2.2.2.2.2.2.2.1).below hb_ (H10.out.2.2.2.2.2.2.2.2.2.2.2.2.2.1).lt) ((H10.out.2.2.2.2.2.2.2.2.2.2.2.2.2.2).trans (hb_.mono (H10.out.2.2.2.2.2.2.2.2.2.2.2.2.2.2).size))))))))))))))))
      clear H10
      clear hb_ 
      go_wp2
      go_ret
      exact ⟨rfl, H11.out.2.2.2.2.2.2.2.2.2.2.2.2.2.2⟩
theorem spares_calls (N : Int) (by_ kb : Nat) (s : List Int) (L : List R.S43) (A B : Option Addr) (c d : Nat) (w : World) (hT : TabOk w) (hs : Kd.C (Kd.int .u8) w A s.length s) (hc : s.length ≤ c) (hL : Kd.C R.k43 w B L.length L) (hd : L.length ≤ d) (hby : by_ < 256) (hkb : kb < 256) (os : byteOk s = true) (oL : locksOk L) :
    Calls Tryd.prog 7 #[.agg #[.int .i64 N, .slice A s.length c, .slice B L.length d], .int .u8 (by_ : Int), .int .u8 (kb : Int)] w fun e w' => e = .returned (.bool true) ∧ Below w.heap.size w w' := by
  cases hf : fewC s L with
  | false => exact spares_few N by_ kb s L A B c d w hT hs hc hL hd hby hkb hf
  | true =>
    cases hr : rightC N s L with
    | false => exact spares_right N by_ kb s L A B c d w hT hs hc hL hd hby hkb hf hr
    | true =>
      by_cases h4 : 4000000000 < N
      · exact spares_late N by_ kb s L A B c d w hT hs hc hL hd hby hkb hf hr h4
      · obtain ⟨m, hN, hg⟩ := good_of_right hr os oL
        by_cases hz : min (L.length + by_ % 101) 32 = 0
        · exact spares_zero N by_ kb s L A B c d w hT hs hc hL hd hby hkb m hN.symm hf hg h4 hz
        · exact spares_main N by_ kb s L A B c d w hT hs hc hL hd hby hkb m hN.symm hf hg h4 (by omega)
end Go.Proofs.YtdklmafkcbjomaaDoor
