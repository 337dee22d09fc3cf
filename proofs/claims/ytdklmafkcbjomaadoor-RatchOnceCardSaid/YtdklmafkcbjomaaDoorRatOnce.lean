/-
 Walk: pyxlaw13.RatchOnce.
-/
import Derived.Test.YtdklmafkcbjomaaDoorRatSg
import Derived.Test.YtdklmafkcbjomaaDoorE7
import Derived.Deep.DrawnRows
import Derived.Deep.RegionHeld3
import Derived.Deep.DeepCutAuto
namespace Go.Proofs.YtdklmafkcbjomaaDoor
set_option linter.unusedVariables false
set_option linter.unusedSimpArgs false
open Go.RowKit Go.Shelf Go.Proofs.YtdklmafkcbjomaaDoorW.PrintWords Go.Proofs.YtdklmafkcbjomaaDoorW.PrintLast Go.Proofs.YtdklmafkcbjomaaDoorW.PrintMore Iter
attribute [local go_sem] Oper.semAt_some
attribute [local go_sem ↓] Go.wp_at_zero Go.wp_at_succ

theorem one_box (W : World) (cs : Array Value) (t : TypeId) : Blk (W.alloc (.cells cs t)) W.heap.size t cs ∧ Below W.heap.size W (W.alloc (.cells cs t)) := ⟨Blk.new W t cs, (Below.refl _ W).alloc (Nat.le_refl _) _⟩
theorem cell_kept {W V : World} {a : Addr} {v : Value} (h : W.cell? a = some v) (hb : Below W.heap.size W V) : V.cell? a = some v := (hb.cell (cell_lt h)).trans h
theorem below_next {n : Nat} {w W V : World} {p : Prop} (hn : n ≤ w.heap.size) (h : Below n w W ∧ p) (hb : Below W.heap.size W V) : Below n w V := h.1.trans (hb.mono (Nat.le_trans hn h.1.size))
theorem blk_drew {w : World} {g : Nat} {cs : Array Value} {t : TypeId} (h : Blk w g t cs) : Blk w.drew g t cs := h.below (B := g + 1) ((Below.refl _ _).drew) (Nat.lt_succ_self g)
theorem blk_one {w W_ : World} {cs : Array Value} {t : TypeId} (h : Below (w.alloc (.cells cs t)).drew.heap.size (w.alloc (.cells cs t)).drew W_) : Blk W_ w.heap.size t cs := by
 have k := blk_drew (Blk.new w t cs)
 exact k.below h k.lt
theorem blk_two {w W_ : World} {cs cs' : Array Value} {t t' : TypeId} (h : Below ((w.alloc (.cells cs t)).alloc (.cells cs' t')).drew.heap.size ((w.alloc (.cells cs t)).alloc (.cells cs' t')).drew W_) : Blk W_ w.heap.size t cs ∧ Blk W_ (w.alloc (.cells cs t)).heap.size t' cs' := by
 have k1 := blk_drew ((Blk.new w t cs).alloc (.cells cs' t'))
 have k2 := blk_drew (Blk.new (w.alloc (.cells cs t)) t' cs')
 exact ⟨k1.below h k1.lt, k2.below h k2.lt⟩
theorem ints_at {W : World} {B : Option Addr} {n : Nat} {l : List Int} (h : Kd.C (Kd.int .i64) W B n l) (i : Nat) (hi : i < n) : ∃ ad, B = some ad ∧ W.cell? (ad.add i) = some (.int .i64 (rd l (i : Int))) := by
 obtain ⟨ad, e, -⟩ := h.2.2 (by omega)
 subst e
 exact ⟨ad, rfl, by have := Kd.foot_int h (i : Int) (by omega) (by omega); rwa [Int.toNat_natCast] at this⟩
set_option maxRecDepth 100000 in
set_option maxHeartbeats 12000000 in
theorem once_short (A : Option Addr) (c : Nat) (s : List Int) (B : Option Addr) (d : Nat) (l : List Int) (w : World) (hT : TabOk w) (hs : Kd.C (Kd.int .u8) w A s.length s) (hc : s.length ≤ c) (hl : Kd.C (Kd.int .i64) w B l.length l) (hd : l.length ≤ d) (ob : byteOk s = true) (ol : ∀ i, -9223372036854775808 ≤ rd l i ∧ rd l i < 9223372036854775808) (h32 : s.length ≠ 32) :
  Calls Tryd.prog 5 #[.slice A s.length c, .slice B l.length d] w fun e w' => e = .returned (.bool true) ∧ Below w.heap.size w w' := by
 have d0 : ((s.length : Int) != 32) = true := by simp; omega
 clear h32 ob ol
 have HH := Lib.hid (And.intro hc hd)
 have H00 := Lib.hid (And.intro hs hl)
 have H0 := Lib.hid (And.intro (hT) (And.intro (hs) (And.intro (hl) (Below.refl w.heap.size w))))
 clear hT hs hl hc hd
 go_enter Tryd.func5, Tryd.ntmps5
 go_wp2_with fail
 refine (shown13_calls w (H0.out.1)).mono ?_
 rintro e W1 ⟨rfl, hb_⟩
 have H1 := Lib.hid (And.intro ((H0.out.1).below hb_ (H0.out.1).1) (And.intro (Kd.C_below (H0.out.2.1) hb_) (And.intro (Kd.C_below (H0.out.2.2.1) hb_) ((H0.out.2.2.2).trans (hb_.mono (H0.out.2.2.2).size)))))
 clear H0
 clear hb_
 go_wp2
 go_ret
 exact ⟨rfl, H1.out.2.2.2⟩
set_option maxRecDepth 100000 in
set_option maxHeartbeats 12000000 in
theorem once_long (A : Option Addr) (c : Nat) (s : List Int) (B : Option Addr) (d : Nat) (l : List Int) (w : World) (hT : TabOk w) (hs : Kd.C (Kd.int .u8) w A s.length s) (hc : s.length ≤ c) (hl : Kd.C (Kd.int .i64) w B l.length l) (hd : l.length ≤ d) (ob : byteOk s = true) (ol : ∀ i, -9223372036854775808 ≤ rd l i ∧ rd l i < 9223372036854775808) (h32 : s.length = 32) (h20 : 20 < l.length) :
  Calls Tryd.prog 5 #[.slice A s.length c, .slice B l.length d] w fun e w' => e = .returned (.bool true) ∧ Below w.heap.size w w' := by
 have d0 : ((s.length : Int) != 32) = false := by rw [h32]; rfl
 have d1 : decide ((20 : Int) < (l.length : Int)) = true := by rw [decide_eq_true_eq]; omega
 clear h32 h20 ob ol
 have HH := Lib.hid (And.intro hc hd)
 have H00 := Lib.hid (And.intro hs hl)
 have H0 := Lib.hid (And.intro (hT) (And.intro (hs) (And.intro (hl) (Below.refl w.heap.size w))))
 clear hT hs hl hc hd
 go_enter Tryd.func5, Tryd.ntmps5
 go_wp2_with fail
 refine (shown13_calls w (H0.out.1)).mono ?_
 rintro e W1 ⟨rfl, hb_⟩
 have H1 := Lib.hid (And.intro ((H0.out.1).below hb_ (H0.out.1).1) (And.intro (Kd.C_below (H0.out.2.1) hb_) (And.intro (Kd.C_below (H0.out.2.2.1) hb_) ((H0.out.2.2.2).trans (hb_.mono (H0.out.2.2.2).size)))))
 clear H0
 clear hb_
 go_wp2
 go_ret
 exact ⟨rfl, H1.out.2.2.2⟩
set_option maxRecDepth 100000 in
set_option maxHeartbeats 12000000 in
theorem once_main (A : Option Addr) (c : Nat) (s : List Int) (B : Option Addr) (d : Nat) (l : List Int) (w : World) (hT : TabOk w) (hs : Kd.C (Kd.int .u8) w A s.length s) (hc : s.length ≤ c) (hl : Kd.C (Kd.int .i64) w B l.length l) (hd : l.length ≤ d) (ob : byteOk s = true) (ol : ∀ i, -9223372036854775808 ≤ rd l i ∧ rd l i < 9223372036854775808) (h32 : s.length = 32) (h20 : l.length ≤ 20) :
  Calls Tryd.prog 5 #[.slice A s.length c, .slice B l.length d] w fun e w' => e = .returned (.bool true) ∧ Below w.heap.size w w' := by
 have d0 : ((s.length : Int) != 32) = false := by rw [h32]; rfl
 have d1 : decide ((20 : Int) < (l.length : Int)) = false := by rw [decide_eq_false_iff_not]; omega
 have HX := Lib.hid (And.intro h32 (And.intro ob (And.intro h20 ol)))
 clear h32 ob h20 ol
 have HH := Lib.hid (And.intro hc hd)
 have H00 := Lib.hid (And.intro hs hl)
 have H0 := Lib.hid (And.intro (hT) (And.intro (hs) (And.intro (hl) (Below.refl w.heap.size w))))
 clear hT hs hl hc hd
 go_enter Tryd.func5, Tryd.ntmps5
 go_wp2_with fail
 refine (shown13_calls w (H0.out.1)).mono ?_
 rintro e W1 ⟨rfl, hb_⟩
 have H1 := Lib.hid (And.intro ((H0.out.1).below hb_ (H0.out.1).1) (And.intro (Kd.C_below (H0.out.2.1) hb_) (And.intro (Kd.C_below (H0.out.2.2.1) hb_) ((H0.out.2.2.2).trans (hb_.mono (H0.out.2.2.2).size)))))
 clear H0
 clear hb_
 go_wp2_with fail
 refine (start_calls A c s 0 0 1 0 rfl rfl W1 (H1.out.1) (by decide) (by decide) HX.out.1 HX.out.2.1 (H1.out.2.1) HH.out.1).mono ?_
 rintro e W2 ⟨A2, c2, rfl, q1_, q2_, hb_⟩
 have H2 := Lib.hid (And.intro ((H1.out.1).below hb_ (H1.out.1).1) (And.intro (Kd.C_below (H1.out.2.1) hb_) (And.intro (Kd.C_below (H1.out.2.2.1) hb_) (And.intro (q2_) ((H1.out.2.2.2).trans (hb_.mono (H1.out.2.2.2).size))))))
 clear H1
 clear hb_
 have HC := Lib.hid q1_
 clear q1_ q2_
 obtain ⟨G, hG⟩ : ∃ G, leafS s 0 0 = G := ⟨_, rfl⟩
 have HG := Lib.hid (And.intro hG (And.intro (show G.length = 32 by rw [← hG]; exact leafS_length s 0 0) (show byteOk G = true by rw [← hG]; exact byteOk_leafS s 0 0)))
 rw [hG] at HC H2 ⊢
 clear hG
 go_upto_region 5 with fail
 have hgs := (H2.out.2.2.2.2).size
 obtain ⟨r1_, r3_⟩ := one_box W2 #[.int .i64 0, .slice A2 G.length c2, .slice none 0 0] 25
 have H3 := Lib.hid (And.intro ((H2.out.1).below r3_ (H2.out.1).1) (And.intro (Kd.C_below (H2.out.2.1) r3_) (And.intro (Kd.C_below (H2.out.2.2.1) r3_) (And.intro (Kd.C_below (H2.out.2.2.2.1) r3_) (And.intro (r1_) ((H2.out.2.2.2.2).trans (r3_.mono (H2.out.2.2.2.2).size)))))))
 clear H2
 generalize (W2.alloc (Obj.cells #[.int .i64 0, .slice A2 G.length c2, .slice none 0 0] 25)) = W3 at *
 obtain ⟨g3, hg3⟩ : ∃ g, W2.heap.size = g := ⟨_, rfl⟩
 rw [hg3] at H3 hgs ⊢
 clear hg3 r1_ r3_
 have HGS := Lib.hid hgs
 clear hgs
 clear d0 d1
 go_wp2_with fail
 go_loopw [8, 9] (fun v8 v9 wr => ∃ (i n : Nat) (Sx : List Int) (M : List R.S43) (T : List Int) (B1 : Option Addr) (e1 : Nat) (B2 : Option Addr) (e2 : Nat), v9 = .int .i64 (i : Int) ∧ i ≤ l.length ∧ Hid (Sx = secS G 0 n ∧ Once G n M T ∧ n ≤ 21 * i ∧ T.length ≤ i ∧ Sx.length ≤ e1 ∧ Kd.C (Kd.int .u8) wr B1 Sx.length Sx ∧ M.length ≤ e2 ∧ Kd.C R.k43 wr B2 M.length M ∧ Blk wr g3 25 #[.int .i64 (n : Int), .slice B1 Sx.length e1, .slice B2 M.length e2] ∧ OwnI wr w.heap.size v8 T ∧ Below w.heap.size w wr)) (fun _ v9 _ => l.length - (intOf v9).toNat)
 case atStart => exact ⟨0, 0, G, [], [], A2, c2, none, 0, rfl, Nat.zero_le _, Lib.hid ⟨rfl, once_start G HG.out.2.1 HG.out.2.2, Nat.le_refl _, Nat.le_refl _, HC.out, Kd.C_alloc (H3.out.2.2.2.1) _, Nat.le_refl _, Kd.C_nil _ _, (H3.out.2.2.2.2.1).alloc _, ownI_new _ _ (H3.out.2.2.2.2.2).size, (H3.out.2.2.2.2.2).alloc (H3.out.2.2.2.2.2).size _⟩⟩
 obtain ⟨i, n, Sx, M, T, B1, e1, B2, e2, rfl, hi, HS⟩ := hrel
 obtain ⟨A8, c8, rfl, hl8, hC8⟩ := HS.out.2.2.2.2.2.2.2.2.2.1.reads
 have HL8 := Lib.hid hl8
 clear hl8 hC8
 by_cases hlt : i < l.length
 rotate_left
 ·obtain rfl : i = l.length := by omega
  have d1 : decide ((l.length : Int) < (l.length : Int)) = false := by simp
  go_wp2
  go_ret
  exact ⟨rfl, HS.out.2.2.2.2.2.2.2.2.2.2⟩
 have hbw := HS.out.2.2.2.2.2.2.2.2.2.2
 have d1 : decide ((i : Int) < (l.length : Int)) = true := by rw [decide_eq_true_eq]; omega
 have i1 : (0 : Int) ≤ (i : Int) := Int.natCast_nonneg _
 have i3 : i < 20 := by have := HX.out.2.2.1; omega
 have i4 : (i : Int) < (l.length : Int) := by omega
 have hn1 : n ≤ 400 := by have := HS.out.2.2.1; omega
 obtain ⟨X, hX⟩ : ∃ X, rd l (i : Int) = X := ⟨_, rfl⟩
 have hXb := HX.out.2.2.2 (i : Int)
 rw [hX] at hXb
 have hw20 : IntKind.i64.wrap ((n : Int) + 20) = (n : Int) + 20 := IntWalk.i64_in _ ⟨by omega, by omega⟩
 have hwi : wrap64 ((i : Int) + 1) = ((i + 1 : Nat) : Int) := by unfold wrap64; omega
 obtain ⟨ad, rfl, y0⟩ := ints_at (Kd.C_below H00.out.2 hbw) i hlt
 rw [hX] at y0
 have J0 := Lib.hid (And.intro (Kd.C_below H00.out.1 hbw) (And.intro (Kd.C_below H00.out.2 hbw) (And.intro (HS.out.2.2.2.2.2.1) (And.intro (HS.out.2.2.2.2.2.2.2.1) (And.intro (HS.out.2.2.2.2.2.2.2.2.1) (And.intro (HS.out.2.2.2.2.2.2.2.2.2.1) (Below.refl wr.heap.size wr)))))))
 have HI := Lib.hid (And.intro hlt (And.intro hn1 (And.intro hXb (And.intro hwi hbw))))
 clear hlt hn1 hXb hwi hbw hi
 by_cases hX20 : (n : Int) + 20 < X
 ·have d2 : decide ((n : Int) + 20 < X) = true := by simp; omega
  have c_0 : wr.cell? ⟨g3, 0, none⟩ = some (.int .i64 (n : Int)) := (J0.out.2.2.2.2.1).cell 0
  go_upto_region 11 with fail
  go_quiet (fail)
  clear y0 c_0
  go_wp2
  go_ret
  exact ⟨rfl, pw_below_drewN HI.out.2.2.2.2 _⟩
 have d2 : decide ((n : Int) + 20 < X) = false := by simp; omega
 have c_0 : wr.cell? ⟨g3, 0, none⟩ = some (.int .i64 (n : Int)) := (J0.out.2.2.2.2.1).cell 0
 go_upto_region 11 with fail
 go_quiet (fail)
 clear y0 c_0
 obtain ⟨W11, hW11⟩ : ∃ W, wr.drewN nq = W := ⟨_, rfl⟩
 have hb_ : Below wr.heap.size wr W11 := by rw [← hW11]; exact pw_below_drewN (Below.refl _ _) _
 rw [hW11]
 clear hW11
 have J1 := Lib.hid (And.intro (Kd.C_below (J0.out.1) hb_) (And.intro (Kd.C_below (J0.out.2.1) hb_) (And.intro (Kd.C_below (J0.out.2.2.1) hb_) (And.intro (Kd.C_below (J0.out.2.2.2.1) hb_) (And.intro ((J0.out.2.2.2.2.1).below hb_ (J0.out.2.2.2.2.1).lt) (And.intro ((J0.out.2.2.2.2.2.1).below hb_) ((J0.out.2.2.2.2.2.2).trans (hb_.mono (J0.out.2.2.2.2.2.2).size))))))))
 clear J0
 clear hb_ 
 obtain ⟨n', M', x, er, ht, hn1, hn2, hxo, hcase⟩ := once_step HS.out.2.1 X (by omega) (by have := HI.out.2.1; omega)
 rw [← HS.out.1] at ht
 obtain ⟨Sx', hSx'⟩ : ∃ S, secS G 0 n' = S := ⟨_, rfl⟩
 rw [hSx'] at ht
 have hg0 : Good n Sx M := by rw [HS.out.1]; exact HS.out.2.1.1
 have hg1 : Good n' Sx' M' := by have h := good_takeF hg0 X; rw [ht] at h; exact h.1
 have hmm := takeF_more hg0 X ht
 have HK1 := Lib.hid (And.intro ht (And.intro hg0 (And.intro hg1 (And.intro hmm (And.intro hxo (And.intro hn1 (And.intro hn2 hSx')))))))
 clear ht hg0 hg1 hmm hxo hn1 hn2 hSx' hX20 d2 hw20
 have HCA := Lib.hid hcase
 clear hcase
 go_upto_region 13 with fail
 obtain ⟨_, e_, y0⟩ := ints_at (J1.out.2.1) i HI.out.1
 cases e_
 rw [hX] at y0
 have HA := Lib.hid (fun (W : World) (hW : Below W11.heap.size W11 W) => take_any n (n : Int) X rfl B1 Sx e1 B2 M e2 W n' (n' : Int) Sx' M' x er HK1.out.1 rfl HK1.out.2.1 (Kd.C_below (J1.out.2.2.1) hW) HS.out.2.2.2.2.1 (Kd.C_below (J1.out.2.2.2.1) hW) HS.out.2.2.2.2.2.2.1)
 have y1 := fun {V : World} (hV : Below W11.heap.size W11 V) => cell_kept y0 hV
 have HK := Lib.hid (show ∀ W : World, Below W11.heap.size W11 W → (fun (W : World) => Below W11.heap.size W11 W ∧ W.cell? (ad.add i) = some (.int .i64 X) ∧ W.cell? ⟨g3, 0, none⟩ = some (.int .i64 (n : Int)) ∧ W.cell? ⟨g3, 1, none⟩ = some (.slice B1 Sx.length e1) ∧ W.cell? ⟨g3, 2, none⟩ = some (.slice B2 M.length e2)) W from fun W hW => ⟨hW, y1 hW, ((J1.out.2.2.2.2.1).below hW (J1.out.2.2.2.2.1).lt).cell 0, ((J1.out.2.2.2.2.1).below hW (J1.out.2.2.2.2.1).lt).cell 1, ((J1.out.2.2.2.2.1).below hW (J1.out.2.2.2.2.1).lt).cell 2⟩)
 have HB0 := Lib.hid (show Below W11.heap.size W11 W11.drew from (Below.refl _ _).drew)
 have HK2 := Lib.hid (show ∀ x, x ∈ M' → x.f1.length ≠ 0 from good_keys HK1.out.2.2.1)
 clear y0 y1
 go_cut [10, 11, 12] (fun v10 v11 v12 wc => ∃ gy gm : Nat, v10 = .pointer (some ⟨gy, 0, none⟩) ∧ v11 = .pointer (some ⟨gm, 0, none⟩) ∧ v12 = .int .i64 er ∧ Hid (Taken W11 (n' : Int) Sx' M' x gy gm wc))
 case first =>
  change Code.wp _ (Code.region _ _ _) _ _ _
  go_region_held3 (fun (W : World) => Below W11.heap.size W11 W ∧ W.cell? (ad.add i) = some (.int .i64 X) ∧ W.cell? ⟨g3, 0, none⟩ = some (.int .i64 (n : Int)) ∧ W.cell? ⟨g3, 1, none⟩ = some (.slice B1 Sx.length e1) ∧ W.cell? ⟨g3, 2, none⟩ = some (.slice B2 M.length e2)) (first | (refine HK.out _ ?_; (repeat' (first | with_reducible exact hb_ | with_reducible exact HB0.out | with_reducible exact Below.refl _ _ | with_reducible refine Below.drew ?_ | with_reducible refine Below.setCell ?_ ?_ _ | with_reducible refine Below.alloc ?_ ?_ _)); all_goals (first | with_reducible exact Nat.le_refl _ | with_reducible exact hb_.size | (simp; done) | (have h_ := hb_.size; (try simp); done) | (have h_ := hb_.size; (try simp); omega) | (simp; omega)))) ((first | (go_at_call 21; refine (HA.out _ (And.left (by assumption))).mono ?_; rintro e W_ ⟨Ay_, cy_, By_, dy_, Am_, cm_, Ao_, co_, rfl, q1_, q2_, q3_, q4_, q5_, q6_, q7_, q8_, hb0_⟩; have hb_ : Below W11.heap.size W11 W_ := below_next (Nat.le_refl _) (by assumption) hb0_; (first | (have k_ := blk_two hb0_; have zf0_ : W_.frozen? ⟨W11.heap.size, 0, none⟩ = false := (by simpa using (k_.1).frozen 0); have zc0_ : W_.cell? ⟨W11.heap.size, 0, none⟩ = some (.int .i64 0) := (by simpa using (k_.1).cell 0); have zf1_ : W_.frozen? ⟨W11.heap.size, 1, none⟩ = false := (by simpa using (k_.1).frozen 1); have zc1_ : W_.cell? ⟨W11.heap.size, 1, none⟩ = some (.slice none 0 0) := (by simpa using (k_.1).cell 1); have zf2_ : W_.frozen? ⟨W11.heap.size, 2, none⟩ = false := (by simpa using (k_.1).frozen 2); have zc2_ : W_.cell? ⟨W11.heap.size, 2, none⟩ = some (.slice none 0 0) := (by simpa using (k_.1).cell 2); have yf0_ : W_.frozen? ⟨W11.heap.size + 1, 0, none⟩ = false := (by simpa using (k_.2).frozen 0); have yc0_ : W_.cell? ⟨W11.heap.size + 1, 0, none⟩ = some (.int .i64 0) := (by simpa using (k_.2).cell 0); have yf1_ : W_.frozen? ⟨W11.heap.size + 1, 1, none⟩ = false := (by simpa using (k_.2).frozen 1); have yc1_ : W_.cell? ⟨W11.heap.size + 1, 1, none⟩ = some (.slice none 0 0) := (by simpa using (k_.2).cell 1); have yf2_ : W_.frozen? ⟨W11.heap.size + 1, 2, none⟩ = false := (by simpa using (k_.2).frozen 2); have yc2_ : W_.cell? ⟨W11.heap.size + 1, 2, none⟩ = some (.slice none 0 0) := (by simpa using (k_.2).cell 2)) | (have k_ := blk_one hb0_; have lt_ : W11.heap.size < W_.heap.size := (by have h_ := hb0_.size; simp at h_; omega); have ne_ : W11.heap.size ≠ W_.heap.size := Nat.ne_of_lt lt_; have ne2_ : W_.heap.size ≠ W11.heap.size := fun h => ne_ h.symm; have zf0_ : W_.frozen? ⟨W11.heap.size, 0, none⟩ = false := (by simpa using (k_).frozen 0); have zc0_ : W_.cell? ⟨W11.heap.size, 0, none⟩ = some (.int .i64 0) := (by simpa using (k_).cell 0); have zg0_ : ∀ o : Obj, (W_.alloc o).frozen? ⟨W11.heap.size, 0, none⟩ = false := fun o => (by simpa using ((k_).alloc o).frozen 0); have zd0_ : ∀ o : Obj, (W_.alloc o).cell? ⟨W11.heap.size, 0, none⟩ = some (.int .i64 0) := fun o => (by simpa using ((k_).alloc o).cell 0); have zf1_ : W_.frozen? ⟨W11.heap.size, 1, none⟩ = false := (by simpa using (k_).frozen 1); have zc1_ : W_.cell? ⟨W11.heap.size, 1, none⟩ = some (.slice none 0 0) := (by simpa using (k_).cell 1); have zg1_ : ∀ o : Obj, (W_.alloc o).frozen? ⟨W11.heap.size, 1, none⟩ = false := fun o => (by simpa using ((k_).alloc o).frozen 1); have zd1_ : ∀ o : Obj, (W_.alloc o).cell? ⟨W11.heap.size, 1, none⟩ = some (.slice none 0 0) := fun o => (by simpa using ((k_).alloc o).cell 1); have zf2_ : W_.frozen? ⟨W11.heap.size, 2, none⟩ = false := (by simpa using (k_).frozen 2); have zc2_ : W_.cell? ⟨W11.heap.size, 2, none⟩ = some (.slice none 0 0) := (by simpa using (k_).cell 2); have zg2_ : ∀ o : Obj, (W_.alloc o).frozen? ⟨W11.heap.size, 2, none⟩ = false := fun o => (by simpa using ((k_).alloc o).frozen 2); have zd2_ : ∀ o : Obj, (W_.alloc o).cell? ⟨W11.heap.size, 2, none⟩ = some (.slice none 0 0) := fun o => (by simpa using ((k_).alloc o).cell 2)) | skip))))
  all_goals (go_wp2; go_meet)
  all_goals (case rel => (refine ⟨_, _, rfl, rfl, rfl, ?_⟩; refine Lib.hid ?_; first | with_reducible exact taken_new_t q1_ q2_ q3_ q4_ q5_ q6_ q7_ q8_ hb_ | with_reducible exact taken_new_f q1_ q2_ q3_ q4_ q5_ q6_ q7_ q8_ hb_ | with_reducible exact taken_y HK2.out q1_ q2_ q3_ q4_ q5_ q6_ q7_ q8_ hb_ k_ (Nat.le_refl _) | with_reducible exact taken_m HK2.out q1_ q2_ q3_ q4_ q5_ q6_ q7_ q8_ hb_ k_ (Nat.le_refl _) | (have k2_ := k_.2; rw [World.size_alloc] at k2_; first | with_reducible exact taken_six HK2.out q1_ q2_ q3_ q4_ q5_ q6_ q7_ q8_ hb_ k_.1 k2_ (Nat.ne_of_lt (Nat.lt_succ_self _)) (Nat.le_refl _) (Nat.le_succ _) | with_reducible exact taken_six HK2.out q1_ q2_ q3_ q4_ q5_ q6_ q7_ q8_ hb_ k2_ k_.1 (Nat.ne_of_lt (Nat.lt_succ_self _)).symm (Nat.le_succ _) (Nat.le_refl _))))
 case rest =>
 clear HK HA HB0 HK2
 obtain ⟨gy, gm, rfl, rfl, rfl, HT_⟩ := hcut
 obtain ⟨Ay, cy, By, dy, Am, cm, Ao, co, p1_, p2_, p3_, p4_, p5_, p6_, p7_, hb_, -, -, -⟩ := HT_.out
 have HP := Lib.hid p1_
 clear HT_ p1_
 have J2 := Lib.hid (And.intro (Kd.C_below (J1.out.1) hb_) (And.intro (Kd.C_below (J1.out.2.1) hb_) (And.intro (Kd.C_below (J1.out.2.2.1) hb_) (And.intro (Kd.C_below (J1.out.2.2.2.1) hb_) (And.intro ((J1.out.2.2.2.2.1).below hb_ (J1.out.2.2.2.2.1).lt) (And.intro ((J1.out.2.2.2.2.2.1).below hb_) (And.intro (p2_) (And.intro (p3_) (And.intro (p4_) (And.intro (p5_) (And.intro (p6_) (And.intro (p7_) ((J1.out.2.2.2.2.2.2).trans (hb_.mono (J1.out.2.2.2.2.2.2).size))))))))))))))
 clear J1
 clear hb_ p2_ p3_ p4_ p5_ p6_ p7_
 rcases HCA.out with ⟨rfl, hXT, ⟨p, hp, hpn, hxp⟩, hO⟩ | ⟨her, hT9, hN', hM'⟩
 ·have HB := Lib.hid (And.intro hXT (And.intro hp (And.intro hpn (And.intro hxp hO))))
  clear hXT hp hpn hxp hO HCA
  have y_0 : wc.cell? ⟨gy, 0, none⟩ = some (.int .i64 (n' : Int)) := (J2.out.2.2.2.2.2.2.2.2.2.2.1).cell 0
  have y_1 : wc.cell? ⟨gy, 1, none⟩ = some (.slice Ay Sx'.length cy) := (J2.out.2.2.2.2.2.2.2.2.2.2.1).cell 1
  have y_2 : wc.cell? ⟨gy, 2, none⟩ = some (.slice By M'.length dy) := (J2.out.2.2.2.2.2.2.2.2.2.2.1).cell 2
  have m_0 : wc.cell? ⟨gm, 0, none⟩ = some (.int .i64 x.f0) := (J2.out.2.2.2.2.2.2.2.2.2.2.2.1).cell 0
  have m_1 : wc.cell? ⟨gm, 1, none⟩ = some (.slice Am x.f1.length cm) := (J2.out.2.2.2.2.2.2.2.2.2.2.2.1).cell 1
  have m_2 : wc.cell? ⟨gm, 2, none⟩ = some (.slice Ao x.f2.length co) := (J2.out.2.2.2.2.2.2.2.2.2.2.2.1).cell 2
  go_wp2_with fail
  clear y_0 y_1 y_2 m_0 m_1 m_2
  refine (R.pyxref13_Right.calls 40 (n' : Int) Ay cy Sx' By dy M' true wc (J2.out.2.2.2.2.2.2.1) HP.out.1 (J2.out.2.2.2.2.2.2.2.1) HP.out.2.1 (by rw [refRight_some _ _ _ 40 (by decide)]; exact congrArg some (good_right HK1.out.2.2.1))).mono ?_
  rintro e W3 ⟨rfl, hb_⟩
  have J3 := Lib.hid (And.intro (Kd.C_below (J2.out.1) hb_) (And.intro (Kd.C_below (J2.out.2.1) hb_) (And.intro (Kd.C_below (J2.out.2.2.1) hb_) (And.intro (Kd.C_below (J2.out.2.2.2.1) hb_) (And.intro ((J2.out.2.2.2.2.1).below hb_ (J2.out.2.2.2.2.1).lt) (And.intro ((J2.out.2.2.2.2.2.1).below hb_) (And.intro (Kd.C_below (J2.out.2.2.2.2.2.2.1) hb_) (And.intro (Kd.C_below (J2.out.2.2.2.2.2.2.2.1) hb_) (And.intro (Kd.C_below (J2.out.2.2.2.2.2.2.2.2.1) hb_) (And.intro (Kd.C_below (J2.out.2.2.2.2.2.2.2.2.2.1) hb_) (And.intro ((J2.out.2.2.2.2.2.2.2.2.2.2.1).below hb_ (J2.out.2.2.2.2.2.2.2.2.2.2.1).lt) (And.intro ((J2.out.2.2.2.2.2.2.2.2.2.2.2.1).below hb_ (J2.out.2.2.2.2.2.2.2.2.2.2.2.1).lt) ((J2.out.2.2.2.2.2.2.2.2.2.2.2.2).trans (hb_.mono (J2.out.2.2.2.2.2.2.2.2.2.2.2.2).size))))))))))))))
  clear J2
  clear hb_
  have y_0 : W3.cell? ⟨gy, 0, none⟩ = some (.int .i64 (n' : Int)) := (J3.out.2.2.2.2.2.2.2.2.2.2.1).cell 0
  have y_1 : W3.cell? ⟨gy, 1, none⟩ = some (.slice Ay Sx'.length cy) := (J3.out.2.2.2.2.2.2.2.2.2.2.1).cell 1
  have y_2 : W3.cell? ⟨gy, 2, none⟩ = some (.slice By M'.length dy) := (J3.out.2.2.2.2.2.2.2.2.2.2.1).cell 2
  have c_0 : W3.cell? ⟨g3, 0, none⟩ = some (.int .i64 (n : Int)) := (J3.out.2.2.2.2.1).cell 0
  have c_1 : W3.cell? ⟨g3, 1, none⟩ = some (.slice B1 Sx.length e1) := (J3.out.2.2.2.2.1).cell 1
  have c_2 : W3.cell? ⟨g3, 2, none⟩ = some (.slice B2 M.length e2) := (J3.out.2.2.2.2.1).cell 2
  go_wp2_with fail
  clear y_0 y_1 y_2 c_0 c_1 c_2
  go_loopw [13, 14] (fun v13 v14 wr2 => ∃ (j : Nat) (b : Bool), v13 = .bool b ∧ v14 = .int .i64 (j : Int) ∧ j ≤ T.length ∧ Hid ((b = true ↔ X ∈ T.take j) ∧ Below W3.heap.size W3 wr2)) (fun _ v14 _ => T.length - (intOf v14).toNat)
  case atStart => exact ⟨0, false, rfl, rfl, Nat.zero_le _, Lib.hid ⟨by simp, Below.refl _ _⟩⟩
  obtain ⟨j, b, rfl, rfl, hj, HR⟩ := hrel
  by_cases hlt : j < T.length
  ·have d1 : decide ((j : Int) < (T.length : Int)) = true := by rw [decide_eq_true_eq]; omega
   have hj9 : j < 1000 := by have := HS.out.2.2.2.1; have := HX.out.2.2.1; have := HI.out.1; omega
   have hwj : wrap64 ((j : Int) + 1) = ((j + 1 : Nat) : Int) := by unfold wrap64; omega
   have j1 : (0 : Int) ≤ (j : Int) := Int.natCast_nonneg _
   have j2 : (j : Int) < (T.length : Int) := by omega
   obtain ⟨a8, e8, y1⟩ := ints_at (((J3.out.2.2.2.2.2.1).below HR.out.2).C) j hlt
   obtain ⟨_, e_, y0⟩ := ints_at (Kd.C_below (J3.out.2.1) HR.out.2) i HI.out.1
   cases e_
   rw [hX] at y0
   obtain ⟨b', hb'⟩ : ∃ b', (rd T (j : Int) == X) = b' := ⟨_, rfl⟩
   have hTM := take_mem T X j hlt
   have hbX : b' = true ↔ rd T (j : Int) = X := by rw [← hb']; exact beq_iff_eq
   have HRR := Lib.hid (And.intro hTM hbX)
   clear hTM hbX hj
   subst e8
   cases b with
   | true =>
    go_upto_region 20 with fail
    go_quiet (fail)
    go_wp2
    refine ⟨⟨j + 1, true, rfl, by go_num, by omega, Lib.hid ⟨⟨fun _ => HRR.out.1.2 (.inl (HR.out.1.1 rfl)), fun _ => rfl⟩, pw_below_drewN HR.out.2 _⟩⟩, ?_⟩
    simp [intOf]
    omega
   | false =>
    go_upto_region 20 with fail
    go_quiet (fail)
    go_wp2
    refine ⟨⟨j + 1, b', rfl, by go_num, by omega, Lib.hid ⟨⟨fun h => HRR.out.1.2 (.inr (HRR.out.2.1 h)), fun h => by rcases HRR.out.1.1 h with h | h; exact absurd (HR.out.1.2 h) (by simp); exact HRR.out.2.2 h⟩, pw_below_drewN HR.out.2 _⟩⟩, ?_⟩
    simp [intOf]
    omega
  obtain rfl : j = T.length := by omega
  have d1 : decide ((T.length : Int) < (T.length : Int)) = false := by simp
  have hbT : b = true ↔ X ∈ T := by have h := HR.out.1; rw [List.take_length] at h; exact h
  have hb_ := HR.out.2
  have J4 := Lib.hid (And.intro (Kd.C_below (J3.out.1) hb_) (And.intro (Kd.C_below (J3.out.2.1) hb_) (And.intro (Kd.C_below (J3.out.2.2.1) hb_) (And.intro (Kd.C_below (J3.out.2.2.2.1) hb_) (And.intro ((J3.out.2.2.2.2.1).below hb_ (J3.out.2.2.2.2.1).lt) (And.intro ((J3.out.2.2.2.2.2.1).below hb_) (And.intro (Kd.C_below (J3.out.2.2.2.2.2.2.1) hb_) (And.intro (Kd.C_below (J3.out.2.2.2.2.2.2.2.1) hb_) (And.intro (Kd.C_below (J3.out.2.2.2.2.2.2.2.2.1) hb_) (And.intro (Kd.C_below (J3.out.2.2.2.2.2.2.2.2.2.1) hb_) (And.intro ((J3.out.2.2.2.2.2.2.2.2.2.2.1).below hb_ (J3.out.2.2.2.2.2.2.2.2.2.2.1).lt) (And.intro ((J3.out.2.2.2.2.2.2.2.2.2.2.2.1).below hb_ (J3.out.2.2.2.2.2.2.2.2.2.2.2.1).lt) ((J3.out.2.2.2.2.2.2.2.2.2.2.2.2).trans (hb_.mono (J3.out.2.2.2.2.2.2.2.2.2.2.2.2).size))))))))))))))
  clear J3
  clear hb_ 
  clear HR hlt hj
  have hbf : b = false := by cases b with | false => rfl | true => exact absurd (hbT.1 rfl) HB.out.1
  subst hbf
  clear hbT
  obtain ⟨_, e_, y0⟩ := ints_at (J4.out.2.1) i HI.out.1
  cases e_
  rw [hX] at y0
  have hlk : R.pyxlaw13_lock.f 2300 (n : Int) Sx M s X = some (x.f0, x.f1, x.f2) := by rw [← HB.out.2.1, HB.out.2.2.2.1, ← HG.out.1]; exact onceLock_some _ _ _ s HX.out.1 HX.out.2.1 p (by have := HB.out.2.2.1; have := HI.out.2.1; omega)
  have hlk2 : R.pyxref13_SameLock.f x.f0 x.f1 x.f2 x.f0 x.f1 x.f2 = some true := by rw [sameL_ref x x HK1.out.2.2.2.2.1 HK1.out.2.2.2.2.1, (sameK_eq x x).2 rfl]
  have HA1 := Lib.hid (fun (W : World) (hW : Below wr.heap.size wr W) => R.pyxlaw13_lock.calls 2300 (n : Int) B1 e1 Sx B2 e2 M A c s X x.f0 x.f1 x.f2 W (Kd.C_below (J4.out.2.2.1) hW) HS.out.2.2.2.2.1 (Kd.C_below (J4.out.2.2.2.1) hW) HS.out.2.2.2.2.2.2.1 (Kd.C_below (J4.out.1) hW) HH.out.1 hlk)
  have HA2 := Lib.hid (fun (W : World) (A3 A4 : Option Addr) (c3 c4 : Nat) (hW : Below wr.heap.size wr W) (hl3 : x.f1.length ≤ c3) (hC3 : Kd.C (Kd.int .u8) W A3 x.f1.length x.f1) (hl4 : x.f2.length ≤ c4) (hC4 : Kd.C (Kd.int .u8) W A4 x.f2.length x.f2) => R.pyxref13_SameLock.calls x.f0 Am cm x.f1 Ao co x.f2 x.f0 A3 c3 x.f1 A4 c4 x.f2 true W (Kd.C_below (J4.out.2.2.2.2.2.2.2.2.1) hW) HP.out.2.2.1 (Kd.C_below (J4.out.2.2.2.2.2.2.2.2.2.1) hW) HP.out.2.2.2 hC3 hl3 hC4 hl4 hlk2)
  have HK := Lib.hid (show ∀ W : World, Below wr.heap.size wr W → (fun (W : World) => Below wr.heap.size wr W ∧ W.cell? (ad.add i) = some (.int .i64 X) ∧ W.cell? ⟨g3, 0, none⟩ = some (.int .i64 (n : Int)) ∧ W.cell? ⟨g3, 1, none⟩ = some (.slice B1 Sx.length e1) ∧ W.cell? ⟨g3, 2, none⟩ = some (.slice B2 M.length e2) ∧ W.cell? ⟨gm, 0, none⟩ = some (.int .i64 x.f0) ∧ W.cell? ⟨gm, 1, none⟩ = some (.slice Am x.f1.length cm) ∧ W.cell? ⟨gm, 2, none⟩ = some (.slice Ao x.f2.length co)) W from fun W hW => ⟨hW, cell_kept y0 hW, ((J4.out.2.2.2.2.1).below hW (J4.out.2.2.2.2.1).lt).cell 0, ((J4.out.2.2.2.2.1).below hW (J4.out.2.2.2.2.1).lt).cell 1, ((J4.out.2.2.2.2.1).below hW (J4.out.2.2.2.2.1).lt).cell 2, ((J4.out.2.2.2.2.2.2.2.2.2.2.2.1).below hW (J4.out.2.2.2.2.2.2.2.2.2.2.2.1).lt).cell 0, ((J4.out.2.2.2.2.2.2.2.2.2.2.2.1).below hW (J4.out.2.2.2.2.2.2.2.2.2.2.2.1).lt).cell 1, ((J4.out.2.2.2.2.2.2.2.2.2.2.2.1).below hW (J4.out.2.2.2.2.2.2.2.2.2.2.2.1).lt).cell 2⟩)
  have HB0 := Lib.hid (show Below wr.heap.size wr wr.drew from (Below.refl _ _).drew)
  clear y0 hlk hlk2
  go_upto_region 21 with fail
  change Code.wp _ (Code.region _ _ _) _ _ _
  refine wp_region_noPanic ?_
  first | (go_region_held (fun (W : World) => Below wr.heap.size wr W ∧ W.cell? (ad.add i) = some (.int .i64 X) ∧ W.cell? ⟨g3, 0, none⟩ = some (.int .i64 (n : Int)) ∧ W.cell? ⟨g3, 1, none⟩ = some (.slice B1 Sx.length e1) ∧ W.cell? ⟨g3, 2, none⟩ = some (.slice B2 M.length e2) ∧ W.cell? ⟨gm, 0, none⟩ = some (.int .i64 x.f0) ∧ W.cell? ⟨gm, 1, none⟩ = some (.slice Am x.f1.length cm) ∧ W.cell? ⟨gm, 2, none⟩ = some (.slice Ao x.f2.length co)) (first | exact HK.out _ HB0.out | exact HK.out _ (by assumption)) ((first | (go_at_call 24; refine (HA1.out _ (And.left (by assumption))).mono ?_; rintro e WL_ ⟨v1_, v2_, rfl, hR1_, hR2_, hb0_⟩; obtain ⟨A3, c3, rfl, l3_, C3_⟩ := Kd.R_reads hR1_; obtain ⟨A4, c4, rfl, l4_, C4_⟩ := Kd.R_reads hR2_; have hb_ : Below wr.heap.size wr WL_ := below_next (Nat.le_refl _) (by assumption) hb0_) | (go_at_call 23; refine (HA2.out _ _ _ _ _ (And.left (by assumption)) l3_ C3_ l4_ C4_).mono ?_; rintro e WS_ ⟨rfl, hb0_⟩; have hb_ : Below wr.heap.size wr WS_ := below_next (Nat.le_refl _) (by assumption) hb0_)))) | fail
  refine NoPanic.normal ?_
  clear HK HA1 HA2 HB0
  have J5 := Lib.hid (And.intro (Kd.C_below (J4.out.1) hb_) (And.intro (Kd.C_below (J4.out.2.1) hb_) (And.intro (Kd.C_below (J4.out.2.2.1) hb_) (And.intro (Kd.C_below (J4.out.2.2.2.1) hb_) (And.intro ((J4.out.2.2.2.2.1).below hb_ (J4.out.2.2.2.2.1).lt) (And.intro ((J4.out.2.2.2.2.2.1).below hb_) (And.intro (Kd.C_below (J4.out.2.2.2.2.2.2.1) hb_) (And.intro (Kd.C_below (J4.out.2.2.2.2.2.2.2.1) hb_) (And.intro (Kd.C_below (J4.out.2.2.2.2.2.2.2.2.1) hb_) (And.intro (Kd.C_below (J4.out.2.2.2.2.2.2.2.2.2.1) hb_) (And.intro ((J4.out.2.2.2.2.2.2.2.2.2.2.1).below hb_ (J4.out.2.2.2.2.2.2.2.2.2.2.1).lt) (And.intro ((J4.out.2.2.2.2.2.2.2.2.2.2.2.1).below hb_ (J4.out.2.2.2.2.2.2.2.2.2.2.2.1).lt) ((J4.out.2.2.2.2.2.2.2.2.2.2.2.2).trans (hb_.mono (J4.out.2.2.2.2.2.2.2.2.2.2.2.2).size))))))))))))))
  clear J4
  clear hb_ 
  obtain ⟨_, e_, y0⟩ := ints_at (J5.out.2.1) i HI.out.1
  cases e_
  rw [hX] at y0
  have hbT := HI.out.2.2.2.2.trans ((J5.out.2.2.2.2.2.2.2.2.2.2.2.2).mono HI.out.2.2.2.2.size)
  have HT := Lib.hid (And.intro hbT (And.intro hbT.size (show T.length ≤ 1000 by have := HS.out.2.2.2.1; have := HX.out.2.2.1; have := HI.out.1; omega)))
  clear hbT
  go_upto_region 25 with (first | ((with_reducible refine gate_builtin (b := .append) (xs := #[.tmp 115, .tmp 120]) rfl ?_); at_builtin; refine wpList_append_ints (W := WS_) w.heap.size rfl (.tmp 115) (.tmp 120) rfl (.slice A8 T.length c8) T X rfl rfl (J5.out.2.2.2.2.2.1) HT.out.2.1 HT.out.2.2 ?_; intro v1 W24 hO24 hb24 hs24))
  have HZ := Lib.hid (once_append (w := w) (base := w.heap.size) ⟨J5.out.2.2.2.2.2.2.1, J5.out.2.2.2.2.2.2.2.1, J5.out.2.2.2.2.1, J5.out.2.2.2.2.2.1, HT.out.1⟩ (J5.out.2.2.2.2.2.2.2.2.2.2.1) hO24 hb24 hs24 (Nat.le_refl _))
  clear hO24 hb24 hs24 y0
  have y0 : W24.cell? ⟨gy, 0, none⟩ = some (.int .i64 (n' : Int)) := HZ.out.2.cell 0
  have x0 : W24.frozen? ⟨g3, 0, none⟩ = false := HZ.out.1.2.2.1.frozen 0
  have z0 : W24.cell? ⟨g3, 0, none⟩ = some (.int .i64 (n : Int)) := HZ.out.1.2.2.1.cell 0
  have y1 : W24.cell? ⟨gy, 1, none⟩ = some (.slice Ay Sx'.length cy) := HZ.out.2.cell 1
  have x1 : W24.frozen? ⟨g3, 1, none⟩ = false := HZ.out.1.2.2.1.frozen 1
  have z1 : W24.cell? ⟨g3, 1, none⟩ = some (.slice B1 Sx.length e1) := HZ.out.1.2.2.1.cell 1
  have y2 : W24.cell? ⟨gy, 2, none⟩ = some (.slice By M'.length dy) := HZ.out.2.cell 2
  have x2 : W24.frozen? ⟨g3, 2, none⟩ = false := HZ.out.1.2.2.1.frozen 2
  have z2 : W24.cell? ⟨g3, 2, none⟩ = some (.slice B2 M.length e2) := HZ.out.1.2.2.1.cell 2
  go_wp2
  have HE := Lib.hid (once_store (N' := (n' : Int)) (e1 := cy) (e2 := dy) HZ.out.1 (good_locks HK1.out.2.2.1) HK1.out.2.2.2.1 HGS.out)
  refine ⟨⟨i + 1, n', Sx', M', T ++ [X], Ay, cy, By, dy, by go_num, by have := HI.out.1; omega, Lib.hid ⟨HK1.out.2.2.2.2.2.2.2.symm, HB.out.2.2.2.2, by have := HS.out.2.2.1; have := HK1.out.2.2.2.2.2.2.1; omega, by have := HS.out.2.2.2.1; rw [List.length_append]; exact Nat.succ_le_succ this, HP.out.1, HE.out.1, HP.out.2.1, HE.out.2.1, HE.out.2.2.1, HE.out.2.2.2.1, HE.out.2.2.2.2⟩⟩, ?_⟩
  have := HI.out.1
  simp [intOf]
  omega
 have e0 : (er != 0) = true := by rcases her with rfl | rfl <;> rfl
 have e1_ : (er == 0) = false := by rcases her with rfl | rfl <;> rfl
 have hSS : Sx = Sx' := by rw [← HK1.out.2.2.2.2.2.2.2, hN', HS.out.1]
 have HB := Lib.hid (And.intro her hT9)
 clear her hT9 HCA
 have hN2 := hN'.symm
 have hM2 := hM'.symm
 clear hN' hM'
 subst hN2 hM2 hSS
 have y_0 : wc.cell? ⟨gy, 0, none⟩ = some (.int .i64 (n : Int)) := (J2.out.2.2.2.2.2.2.2.2.2.2.1).cell 0
 have y_1 : wc.cell? ⟨gy, 1, none⟩ = some (.slice Ay Sx.length cy) := (J2.out.2.2.2.2.2.2.2.2.2.2.1).cell 1
 have y_2 : wc.cell? ⟨gy, 2, none⟩ = some (.slice By M.length dy) := (J2.out.2.2.2.2.2.2.2.2.2.2.1).cell 2
 have m_0 : wc.cell? ⟨gm, 0, none⟩ = some (.int .i64 x.f0) := (J2.out.2.2.2.2.2.2.2.2.2.2.2.1).cell 0
 have m_1 : wc.cell? ⟨gm, 1, none⟩ = some (.slice Am x.f1.length cm) := (J2.out.2.2.2.2.2.2.2.2.2.2.2.1).cell 1
 have m_2 : wc.cell? ⟨gm, 2, none⟩ = some (.slice Ao x.f2.length co) := (J2.out.2.2.2.2.2.2.2.2.2.2.2.1).cell 2
 go_wp2_with fail
 clear y_0 y_1 y_2 m_0 m_1 m_2
 refine (R.pyxref13_Right.calls 40 (n : Int) Ay cy Sx By dy M true wc (J2.out.2.2.2.2.2.2.1) HP.out.1 (J2.out.2.2.2.2.2.2.2.1) HP.out.2.1 (by rw [refRight_some _ _ _ 40 (by decide)]; exact congrArg some (good_right HK1.out.2.2.1))).mono ?_
 rintro e W3 ⟨rfl, hb_⟩
 have J3 := Lib.hid (And.intro (Kd.C_below (J2.out.1) hb_) (And.intro (Kd.C_below (J2.out.2.1) hb_) (And.intro (Kd.C_below (J2.out.2.2.1) hb_) (And.intro (Kd.C_below (J2.out.2.2.2.1) hb_) (And.intro ((J2.out.2.2.2.2.1).below hb_ (J2.out.2.2.2.2.1).lt) (And.intro ((J2.out.2.2.2.2.2.1).below hb_) (And.intro (Kd.C_below (J2.out.2.2.2.2.2.2.1) hb_) (And.intro (Kd.C_below (J2.out.2.2.2.2.2.2.2.1) hb_) (And.intro (Kd.C_below (J2.out.2.2.2.2.2.2.2.2.1) hb_) (And.intro (Kd.C_below (J2.out.2.2.2.2.2.2.2.2.2.1) hb_) (And.intro ((J2.out.2.2.2.2.2.2.2.2.2.2.1).below hb_ (J2.out.2.2.2.2.2.2.2.2.2.2.1).lt) (And.intro ((J2.out.2.2.2.2.2.2.2.2.2.2.2.1).below hb_ (J2.out.2.2.2.2.2.2.2.2.2.2.2.1).lt) ((J2.out.2.2.2.2.2.2.2.2.2.2.2.2).trans (hb_.mono (J2.out.2.2.2.2.2.2.2.2.2.2.2.2).size))))))))))))))
 clear J2
 clear hb_
 have y_0 : W3.cell? ⟨gy, 0, none⟩ = some (.int .i64 (n : Int)) := (J3.out.2.2.2.2.2.2.2.2.2.2.1).cell 0
 have y_1 : W3.cell? ⟨gy, 1, none⟩ = some (.slice Ay Sx.length cy) := (J3.out.2.2.2.2.2.2.2.2.2.2.1).cell 1
 have y_2 : W3.cell? ⟨gy, 2, none⟩ = some (.slice By M.length dy) := (J3.out.2.2.2.2.2.2.2.2.2.2.1).cell 2
 have c_0 : W3.cell? ⟨g3, 0, none⟩ = some (.int .i64 (n : Int)) := (J3.out.2.2.2.2.1).cell 0
 have c_1 : W3.cell? ⟨g3, 1, none⟩ = some (.slice B1 Sx.length e1) := (J3.out.2.2.2.2.1).cell 1
 have c_2 : W3.cell? ⟨g3, 2, none⟩ = some (.slice B2 M.length e2) := (J3.out.2.2.2.2.1).cell 2
 go_wp2_with fail
 clear y_0 y_1 y_2 c_0 c_1 c_2
 refine (R.pyxref13_Same.calls 110 (n : Int) Ay cy Sx By dy M (n : Int) B1 e1 Sx B2 e2 M true W3 (J3.out.2.2.2.2.2.2.1) HP.out.1 (J3.out.2.2.2.2.2.2.2.1) HP.out.2.1 (J3.out.2.2.1) HS.out.2.2.2.2.1 (J3.out.2.2.2.1) HS.out.2.2.2.2.2.2.1 (by rw [refSame_some _ _ _ _ _ _ HK1.out.2.1.2.2.1 HK1.out.2.1.2.2.1 HK1.out.2.1.2.2.2.2.1 HK1.out.2.1.2.2.2.2.1 (by have := HK1.out.2.1.2.2.2.1; omega) 110 (by decide), sameC_refl])).mono ?_
 rintro e W4 ⟨rfl, hb_⟩
 have J4 := Lib.hid (And.intro (Kd.C_below (J3.out.1) hb_) (And.intro (Kd.C_below (J3.out.2.1) hb_) (And.intro (Kd.C_below (J3.out.2.2.1) hb_) (And.intro (Kd.C_below (J3.out.2.2.2.1) hb_) (And.intro ((J3.out.2.2.2.2.1).below hb_ (J3.out.2.2.2.2.1).lt) (And.intro ((J3.out.2.2.2.2.2.1).below hb_) (And.intro (Kd.C_below (J3.out.2.2.2.2.2.2.1) hb_) (And.intro (Kd.C_below (J3.out.2.2.2.2.2.2.2.1) hb_) (And.intro (Kd.C_below (J3.out.2.2.2.2.2.2.2.2.1) hb_) (And.intro (Kd.C_below (J3.out.2.2.2.2.2.2.2.2.2.1) hb_) (And.intro ((J3.out.2.2.2.2.2.2.2.2.2.2.1).below hb_ (J3.out.2.2.2.2.2.2.2.2.2.2.1).lt) (And.intro ((J3.out.2.2.2.2.2.2.2.2.2.2.2.1).below hb_ (J3.out.2.2.2.2.2.2.2.2.2.2.2.1).lt) ((J3.out.2.2.2.2.2.2.2.2.2.2.2.2).trans (hb_.mono (J3.out.2.2.2.2.2.2.2.2.2.2.2.2).size))))))))))))))
 clear J3
 clear hb_
 go_wp2_with fail
 go_loopw [13, 14] (fun v13 v14 wr2 => ∃ (j : Nat) (b : Bool), v13 = .bool b ∧ v14 = .int .i64 (j : Int) ∧ j ≤ T.length ∧ Hid ((b = true ↔ X ∈ T.take j) ∧ Below W4.heap.size W4 wr2)) (fun _ v14 _ => T.length - (intOf v14).toNat)
 case atStart => exact ⟨0, false, rfl, rfl, Nat.zero_le _, Lib.hid ⟨by simp, Below.refl _ _⟩⟩
 obtain ⟨j, b, rfl, rfl, hj, HR⟩ := hrel
 by_cases hlt : j < T.length
 ·have d1 : decide ((j : Int) < (T.length : Int)) = true := by rw [decide_eq_true_eq]; omega
  have hj9 : j < 1000 := by have := HS.out.2.2.2.1; have := HX.out.2.2.1; have := HI.out.1; omega
  have hwj : wrap64 ((j : Int) + 1) = ((j + 1 : Nat) : Int) := by unfold wrap64; omega
  have j1 : (0 : Int) ≤ (j : Int) := Int.natCast_nonneg _
  have j2 : (j : Int) < (T.length : Int) := by omega
  obtain ⟨a8, e8, y1⟩ := ints_at (((J4.out.2.2.2.2.2.1).below HR.out.2).C) j hlt
  obtain ⟨_, e_, y0⟩ := ints_at (Kd.C_below (J4.out.2.1) HR.out.2) i HI.out.1
  cases e_
  rw [hX] at y0
  obtain ⟨b', hb'⟩ : ∃ b', (rd T (j : Int) == X) = b' := ⟨_, rfl⟩
  have hTM := take_mem T X j hlt
  have hbX : b' = true ↔ rd T (j : Int) = X := by rw [← hb']; exact beq_iff_eq
  have HRR := Lib.hid (And.intro hTM hbX)
  clear hTM hbX hj
  subst e8
  cases b with
  | true =>
   go_upto_region 20 with fail
   go_quiet (fail)
   go_wp2
   refine ⟨⟨j + 1, true, rfl, by go_num, by omega, Lib.hid ⟨⟨fun _ => HRR.out.1.2 (.inl (HR.out.1.1 rfl)), fun _ => rfl⟩, pw_below_drewN HR.out.2 _⟩⟩, ?_⟩
   simp [intOf]
   omega
  | false =>
   go_upto_region 20 with fail
   go_quiet (fail)
   go_wp2
   refine ⟨⟨j + 1, b', rfl, by go_num, by omega, Lib.hid ⟨⟨fun h => HRR.out.1.2 (.inr (HRR.out.2.1 h)), fun h => by rcases HRR.out.1.1 h with h | h; exact absurd (HR.out.1.2 h) (by simp); exact HRR.out.2.2 h⟩, pw_below_drewN HR.out.2 _⟩⟩, ?_⟩
   simp [intOf]
   omega
 obtain rfl : j = T.length := by omega
 have d1 : decide ((T.length : Int) < (T.length : Int)) = false := by simp
 have hbT : b = true ↔ X ∈ T := by have h := HR.out.1; rw [List.take_length] at h; exact h
 have hb_ := HR.out.2
 have J5 := Lib.hid (And.intro (Kd.C_below (J4.out.1) hb_) (And.intro (Kd.C_below (J4.out.2.1) hb_) (And.intro (Kd.C_below (J4.out.2.2.1) hb_) (And.intro (Kd.C_below (J4.out.2.2.2.1) hb_) (And.intro ((J4.out.2.2.2.2.1).below hb_ (J4.out.2.2.2.2.1).lt) (And.intro ((J4.out.2.2.2.2.2.1).below hb_) (And.intro (Kd.C_below (J4.out.2.2.2.2.2.2.1) hb_) (And.intro (Kd.C_below (J4.out.2.2.2.2.2.2.2.1) hb_) (And.intro (Kd.C_below (J4.out.2.2.2.2.2.2.2.2.1) hb_) (And.intro (Kd.C_below (J4.out.2.2.2.2.2.2.2.2.2.1) hb_) (And.intro ((J4.out.2.2.2.2.2.2.2.2.2.2.1).below hb_ (J4.out.2.2.2.2.2.2.2.2.2.2.1).lt) (And.intro ((J4.out.2.2.2.2.2.2.2.2.2.2.2.1).below hb_ (J4.out.2.2.2.2.2.2.2.2.2.2.2.1).lt) ((J4.out.2.2.2.2.2.2.2.2.2.2.2.2).trans (hb_.mono (J4.out.2.2.2.2.2.2.2.2.2.2.2.2).size))))))))))))))
 clear J4
 clear hb_ 
 clear HR hlt hj
 have hb9 : b = true → er = 9 := fun h => HB.out.2 (hbT.1 h)
 clear hbT
 rcases HB.out.1 with h9 | h9
 ·subst h9
  cases b with
  | true => exact absurd (hb9 rfl) (by decide)
  | false =>
   clear hb9
   go_upto_region 21 with fail
   go_quiet (fail)
   obtain ⟨W21, hW21⟩ : ∃ W, wr.drewN nq = W := ⟨_, rfl⟩
   have hb_ : Below wr.heap.size wr W21 := by rw [← hW21]; exact pw_below_drewN (Below.refl _ _) _
   rw [hW21]
   clear hW21
   have J6 := Lib.hid (And.intro (Kd.C_below (J5.out.1) hb_) (And.intro (Kd.C_below (J5.out.2.1) hb_) (And.intro (Kd.C_below (J5.out.2.2.1) hb_) (And.intro (Kd.C_below (J5.out.2.2.2.1) hb_) (And.intro ((J5.out.2.2.2.2.1).below hb_ (J5.out.2.2.2.2.1).lt) (And.intro ((J5.out.2.2.2.2.2.1).below hb_) (And.intro (Kd.C_below (J5.out.2.2.2.2.2.2.1) hb_) (And.intro (Kd.C_below (J5.out.2.2.2.2.2.2.2.1) hb_) (And.intro (Kd.C_below (J5.out.2.2.2.2.2.2.2.2.1) hb_) (And.intro (Kd.C_below (J5.out.2.2.2.2.2.2.2.2.2.1) hb_) (And.intro ((J5.out.2.2.2.2.2.2.2.2.2.2.1).below hb_ (J5.out.2.2.2.2.2.2.2.2.2.2.1).lt) (And.intro ((J5.out.2.2.2.2.2.2.2.2.2.2.2.1).below hb_ (J5.out.2.2.2.2.2.2.2.2.2.2.2.1).lt) ((J5.out.2.2.2.2.2.2.2.2.2.2.2.2).trans (hb_.mono (J5.out.2.2.2.2.2.2.2.2.2.2.2.2).size))))))))))))))
   clear J5
   clear hb_ 
   have hbT := HI.out.2.2.2.2.trans ((J6.out.2.2.2.2.2.2.2.2.2.2.2.2).mono HI.out.2.2.2.2.size)
   have HT := Lib.hid hbT
   clear hbT
   have y0 : W21.cell? ⟨gy, 0, none⟩ = some (.int .i64 (n : Int)) := (J6.out.2.2.2.2.2.2.2.2.2.2.1).cell 0
   have x0 : W21.frozen? ⟨g3, 0, none⟩ = false := (J6.out.2.2.2.2.1).frozen 0
   have z0 : W21.cell? ⟨g3, 0, none⟩ = some (.int .i64 (n : Int)) := (J6.out.2.2.2.2.1).cell 0
   have y1 : W21.cell? ⟨gy, 1, none⟩ = some (.slice Ay Sx.length cy) := (J6.out.2.2.2.2.2.2.2.2.2.2.1).cell 1
   have x1 : W21.frozen? ⟨g3, 1, none⟩ = false := (J6.out.2.2.2.2.1).frozen 1
   have z1 : W21.cell? ⟨g3, 1, none⟩ = some (.slice B1 Sx.length e1) := (J6.out.2.2.2.2.1).cell 1
   have y2 : W21.cell? ⟨gy, 2, none⟩ = some (.slice By M.length dy) := (J6.out.2.2.2.2.2.2.2.2.2.2.1).cell 2
   have x2 : W21.frozen? ⟨g3, 2, none⟩ = false := (J6.out.2.2.2.2.1).frozen 2
   have z2 : W21.cell? ⟨g3, 2, none⟩ = some (.slice B2 M.length e2) := (J6.out.2.2.2.2.1).cell 2
   go_wp2
   have HE := Lib.hid (once_store (w := w) (base := w.heap.size) (N' := (n : Int)) (e1 := cy) (e2 := dy) ⟨J6.out.2.2.2.2.2.2.1, J6.out.2.2.2.2.2.2.2.1, J6.out.2.2.2.2.1, J6.out.2.2.2.2.2.1, HT.out⟩ (good_locks HK1.out.2.2.1) HK1.out.2.2.2.1 HGS.out)
   refine ⟨⟨i + 1, n, Sx, M, T, Ay, cy, By, dy, by go_num, by have := HI.out.1; omega, Lib.hid ⟨HS.out.1, HS.out.2.1, by have := HS.out.2.2.1; omega, by have := HS.out.2.2.2.1; omega, HP.out.1, HE.out.1, HP.out.2.1, HE.out.2.1, HE.out.2.2.1, HE.out.2.2.2.1, HE.out.2.2.2.2⟩⟩, ?_⟩
   have := HI.out.1
   simp [intOf]
   omega
 subst h9
 cases b with
 | true =>
  clear hb9
  go_upto_region 21 with fail
  go_quiet (fail)
  obtain ⟨W21, hW21⟩ : ∃ W, wr.drewN nq = W := ⟨_, rfl⟩
  have hb_ : Below wr.heap.size wr W21 := by rw [← hW21]; exact pw_below_drewN (Below.refl _ _) _
  rw [hW21]
  clear hW21
  have J6 := Lib.hid (And.intro (Kd.C_below (J5.out.1) hb_) (And.intro (Kd.C_below (J5.out.2.1) hb_) (And.intro (Kd.C_below (J5.out.2.2.1) hb_) (And.intro (Kd.C_below (J5.out.2.2.2.1) hb_) (And.intro ((J5.out.2.2.2.2.1).below hb_ (J5.out.2.2.2.2.1).lt) (And.intro ((J5.out.2.2.2.2.2.1).below hb_) (And.intro (Kd.C_below (J5.out.2.2.2.2.2.2.1) hb_) (And.intro (Kd.C_below (J5.out.2.2.2.2.2.2.2.1) hb_) (And.intro (Kd.C_below (J5.out.2.2.2.2.2.2.2.2.1) hb_) (And.intro (Kd.C_below (J5.out.2.2.2.2.2.2.2.2.2.1) hb_) (And.intro ((J5.out.2.2.2.2.2.2.2.2.2.2.1).below hb_ (J5.out.2.2.2.2.2.2.2.2.2.2.1).lt) (And.intro ((J5.out.2.2.2.2.2.2.2.2.2.2.2.1).below hb_ (J5.out.2.2.2.2.2.2.2.2.2.2.2.1).lt) ((J5.out.2.2.2.2.2.2.2.2.2.2.2.2).trans (hb_.mono (J5.out.2.2.2.2.2.2.2.2.2.2.2.2).size))))))))))))))
  clear J5
  clear hb_ 
  have hbT := HI.out.2.2.2.2.trans ((J6.out.2.2.2.2.2.2.2.2.2.2.2.2).mono HI.out.2.2.2.2.size)
  have HT := Lib.hid hbT
  clear hbT
  have y0 : W21.cell? ⟨gy, 0, none⟩ = some (.int .i64 (n : Int)) := (J6.out.2.2.2.2.2.2.2.2.2.2.1).cell 0
  have x0 : W21.frozen? ⟨g3, 0, none⟩ = false := (J6.out.2.2.2.2.1).frozen 0
  have z0 : W21.cell? ⟨g3, 0, none⟩ = some (.int .i64 (n : Int)) := (J6.out.2.2.2.2.1).cell 0
  have y1 : W21.cell? ⟨gy, 1, none⟩ = some (.slice Ay Sx.length cy) := (J6.out.2.2.2.2.2.2.2.2.2.2.1).cell 1
  have x1 : W21.frozen? ⟨g3, 1, none⟩ = false := (J6.out.2.2.2.2.1).frozen 1
  have z1 : W21.cell? ⟨g3, 1, none⟩ = some (.slice B1 Sx.length e1) := (J6.out.2.2.2.2.1).cell 1
  have y2 : W21.cell? ⟨gy, 2, none⟩ = some (.slice By M.length dy) := (J6.out.2.2.2.2.2.2.2.2.2.2.1).cell 2
  have x2 : W21.frozen? ⟨g3, 2, none⟩ = false := (J6.out.2.2.2.2.1).frozen 2
  have z2 : W21.cell? ⟨g3, 2, none⟩ = some (.slice B2 M.length e2) := (J6.out.2.2.2.2.1).cell 2
  go_wp2
  have HE := Lib.hid (once_store (w := w) (base := w.heap.size) (N' := (n : Int)) (e1 := cy) (e2 := dy) ⟨J6.out.2.2.2.2.2.2.1, J6.out.2.2.2.2.2.2.2.1, J6.out.2.2.2.2.1, J6.out.2.2.2.2.2.1, HT.out⟩ (good_locks HK1.out.2.2.1) HK1.out.2.2.2.1 HGS.out)
  refine ⟨⟨i + 1, n, Sx, M, T, Ay, cy, By, dy, by go_num, by have := HI.out.1; omega, Lib.hid ⟨HS.out.1, HS.out.2.1, by have := HS.out.2.2.1; omega, by have := HS.out.2.2.2.1; omega, HP.out.1, HE.out.1, HP.out.2.1, HE.out.2.1, HE.out.2.2.1, HE.out.2.2.2.1, HE.out.2.2.2.2⟩⟩, ?_⟩
  have := HI.out.1
  simp [intOf]
  omega
 | false =>
  clear hb9
  go_upto_region 21 with fail
  go_quiet (fail)
  obtain ⟨W21, hW21⟩ : ∃ W, wr.drewN nq = W := ⟨_, rfl⟩
  have hb_ : Below wr.heap.size wr W21 := by rw [← hW21]; exact pw_below_drewN (Below.refl _ _) _
  rw [hW21]
  clear hW21
  have J6 := Lib.hid (And.intro (Kd.C_below (J5.out.1) hb_) (And.intro (Kd.C_below (J5.out.2.1) hb_) (And.intro (Kd.C_below (J5.out.2.2.1) hb_) (And.intro (Kd.C_below (J5.out.2.2.2.1) hb_) (And.intro ((J5.out.2.2.2.2.1).below hb_ (J5.out.2.2.2.2.1).lt) (And.intro ((J5.out.2.2.2.2.2.1).below hb_) (And.intro (Kd.C_below (J5.out.2.2.2.2.2.2.1) hb_) (And.intro (Kd.C_below (J5.out.2.2.2.2.2.2.2.1) hb_) (And.intro (Kd.C_below (J5.out.2.2.2.2.2.2.2.2.1) hb_) (And.intro (Kd.C_below (J5.out.2.2.2.2.2.2.2.2.2.1) hb_) (And.intro ((J5.out.2.2.2.2.2.2.2.2.2.2.1).below hb_ (J5.out.2.2.2.2.2.2.2.2.2.2.1).lt) (And.intro ((J5.out.2.2.2.2.2.2.2.2.2.2.2.1).below hb_ (J5.out.2.2.2.2.2.2.2.2.2.2.2.1).lt) ((J5.out.2.2.2.2.2.2.2.2.2.2.2.2).trans (hb_.mono (J5.out.2.2.2.2.2.2.2.2.2.2.2.2).size))))))))))))))
  clear J5
  clear hb_ 
  have hbT := HI.out.2.2.2.2.trans ((J6.out.2.2.2.2.2.2.2.2.2.2.2.2).mono HI.out.2.2.2.2.size)
  have HT := Lib.hid hbT
  clear hbT
  have y0 : W21.cell? ⟨gy, 0, none⟩ = some (.int .i64 (n : Int)) := (J6.out.2.2.2.2.2.2.2.2.2.2.1).cell 0
  have x0 : W21.frozen? ⟨g3, 0, none⟩ = false := (J6.out.2.2.2.2.1).frozen 0
  have z0 : W21.cell? ⟨g3, 0, none⟩ = some (.int .i64 (n : Int)) := (J6.out.2.2.2.2.1).cell 0
  have y1 : W21.cell? ⟨gy, 1, none⟩ = some (.slice Ay Sx.length cy) := (J6.out.2.2.2.2.2.2.2.2.2.2.1).cell 1
  have x1 : W21.frozen? ⟨g3, 1, none⟩ = false := (J6.out.2.2.2.2.1).frozen 1
  have z1 : W21.cell? ⟨g3, 1, none⟩ = some (.slice B1 Sx.length e1) := (J6.out.2.2.2.2.1).cell 1
  have y2 : W21.cell? ⟨gy, 2, none⟩ = some (.slice By M.length dy) := (J6.out.2.2.2.2.2.2.2.2.2.2.1).cell 2
  have x2 : W21.frozen? ⟨g3, 2, none⟩ = false := (J6.out.2.2.2.2.1).frozen 2
  have z2 : W21.cell? ⟨g3, 2, none⟩ = some (.slice B2 M.length e2) := (J6.out.2.2.2.2.1).cell 2
  go_wp2
  have HE := Lib.hid (once_store (w := w) (base := w.heap.size) (N' := (n : Int)) (e1 := cy) (e2 := dy) ⟨J6.out.2.2.2.2.2.2.1, J6.out.2.2.2.2.2.2.2.1, J6.out.2.2.2.2.1, J6.out.2.2.2.2.2.1, HT.out⟩ (good_locks HK1.out.2.2.1) HK1.out.2.2.2.1 HGS.out)
  refine ⟨⟨i + 1, n, Sx, M, T, Ay, cy, By, dy, by go_num, by have := HI.out.1; omega, Lib.hid ⟨HS.out.1, HS.out.2.1, by have := HS.out.2.2.1; omega, by have := HS.out.2.2.2.1; omega, HP.out.1, HE.out.1, HP.out.2.1, HE.out.2.1, HE.out.2.2.1, HE.out.2.2.2.1, HE.out.2.2.2.2⟩⟩, ?_⟩
  have := HI.out.1
  simp [intOf]
  omega
theorem open_ints64 : Opens Tryd.prog 50 (Kd.slice 3 (Kd.int .i64)) (fun l => ∀ i, -9223372036854775808 ≤ rd l i ∧ rd l i < 9223372036854775808) :=
 (opens_slice Tryd.underlying50 (by kernel_rfl) open_int64).imp (fun l h i => by
  unfold rd
  by_cases hi : i.toNat < l.length
  ·rw [List.getD_eq_getElem?_getD, List.getElem?_eq_getElem hi, Option.getD_some]
   exact h.2 _ (List.getElem_mem hi)
  ·rw [List.getD_eq_getElem?_getD, List.getElem?_eq_none (by omega), Option.getD_none]
   omega)
theorem once_calls (A : Option Addr) (c : Nat) (s : List Int) (B : Option Addr) (d : Nat) (l : List Int) (w : World) (hT : TabOk w) (hs : Kd.C (Kd.int .u8) w A s.length s) (hc : s.length ≤ c) (hl : Kd.C (Kd.int .i64) w B l.length l) (hd : l.length ≤ d) (ob : byteOk s = true) (ol : ∀ i, -9223372036854775808 ≤ rd l i ∧ rd l i < 9223372036854775808) :
  Calls Tryd.prog 5 #[.slice A s.length c, .slice B l.length d] w fun e w' => e = .returned (.bool true) ∧ Below w.heap.size w w' := by
 by_cases h32 : s.length = 32
 ·by_cases h20 : l.length ≤ 20
  ·exact once_main A c s B d l w hT hs hc hl hd ob ol h32 h20
  ·exact once_long A c s B d l w hT hs hc hl hd ob ol h32 (by omega)
 ·exact once_short A c s B d l w hT hs hc hl hd ob ol h32
end Go.Proofs.YtdklmafkcbjomaaDoor
