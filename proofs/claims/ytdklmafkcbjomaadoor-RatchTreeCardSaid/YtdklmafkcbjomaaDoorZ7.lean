/-
  The lower layers, walked and in closed forms, part 7: RatP, RatR, RowsIn, StructIn, OpenK, RatQ.
-/
import Derived.Test.YtdklmafkcbjomaaDoorZ0
import Derived.Test.YtdklmafkcbjomaaDoorZ1
import Derived.Test.YtdklmafkcbjomaaDoorZ6
import Derived.Test.YtdklmafkcbjomaaDoorVSized
import Derived.Test.YtdklmafkcbjomaaDoorVWords
import Derived.Test.YtdklmafkcbjomaaDoorRows
import Derived.Deep.Matrix
import Derived.SizedLaws
import Derived.ChangeArms
import Derived.LaidMore
import Derived.Lib.LaidTab
import Derived.Stop.LaidErr
/-! RatP -/
namespace Go.Proofs.YtdklmafkcbjomaaDoor
set_option linter.unusedVariables false
set_option linter.unusedSimpArgs false
open Go.RowKit Go.Shelf Go.Proofs.YtdklmafkcbjomaaDoorW.PrintWords Go.Proofs.YtdklmafkcbjomaaDoorW.PrintLast Go.Proofs.YtdklmafkcbjomaaDoorW.PrintMore Iter
attribute [local go_sem] Oper.semAt_some
theorem madeB_eq13 (n : Nat) : madeCells (Value.int IntKind.u8 0).cells (n * 1) = (nums .u8 (List.replicate n 0)).toArray := by
  apply Array.ext
  · simp [madeCells, nums]
  · intro i h1 h2
    simp [madeCells, nums, Value.cells, Nat.mod_one]
theorem madeN13 (n : Nat) (m : Int) (hm : m = (n : Int)) (hn : n ≤ 140737488355328) (W : World) : (Instr.makeSlice 22 (.int .i64 m) (.int .i64 m)).run Tryd.prog W = .ok (.slice (some ⟨W.heap.size, 0, none⟩) n n) (W.alloc (.cells (nums .u8 (List.replicate n 0)).toArray 5)) := by
  subst hm
  obtain ⟨i, hi, hz⟩ := Option.map_eq_some_iff.1 (show (Tryd.prog.info? 5).map (fun i => (i.zero, i.size, i.bytes)) = some (some (.int .u8 0), 1, 1) by kernel_rfl)
  simp only [Prod.mk.injEq] at hz
  obtain ⟨h0, h1, h2⟩ := hz
  have h := run_make (P := Tryd.prog) (w := W) 22 5 i (.int .u8 0) Tryd.underlying22 hi h0 .i64 .i64 (n : Int) (n : Int) (by omega) (by omega) (by rw [h2]; omega) (by omega)
  rw [h1, Int.toNat_natCast, madeB_eq13] at h
  exact h
/-- Two boxes are made. -/
theorem two_boxes (W : World) (cs ds : Array Value) (t t' : TypeId) : Blk ((W.alloc (.cells cs t)).alloc (.cells ds t')) W.heap.size t cs ∧ Blk ((W.alloc (.cells cs t)).alloc (.cells ds t')) (W.heap.size + 1) t' ds ∧ Below W.heap.size W ((W.alloc (.cells cs t)).alloc (.cells ds t')) ∧ ((W.alloc (.cells cs t)).alloc (.cells ds t')).heap.size = W.heap.size + 2 := by
  have b := Blk.new (W.alloc (.cells cs t)) t' ds
  rw [World.size_alloc] at b
  exact ⟨(Blk.new W t cs).alloc _, b, ((Below.refl _ W).alloc (Nat.le_refl _) _).alloc (by simp) _, by simp⟩
theorem takeF_adv (n d : Nat) (s : List Int) (L : List R.S43) (hx : idxL L ((n + d : Nat) : Int) = none) (hd : d ≤ 100) (hm : n + d < 4294967294) : takeF n s L ((n + d : Nat) : Int) = (n + (d + 1), secS s n (d + 1), (L ++ passed s n d).drop (L.length + d - 32), lockN s n d, 0) := by
  have hdd : (((n + d : Nat) : Int) - (n : Int)).toNat = d := by omega
  unfold takeF
  rw [if_neg (by omega), hx]
  dsimp only
  rw [if_neg (by omega), if_neg (by omega), hdd]
theorem lockN_f0 (s : List Int) (n k : Nat) : (lockN s n k).f0 = ((n + k : Nat) : Int) := rfl
theorem lockN_l1 (s : List Int) (n k : Nat) : (lockN s n k).f1.length = 32 := labelOf_length _ _ _ _
theorem lockN_l2 (s : List Int) (n k : Nat) : (lockN s n k).f2.length = 12 := labelOf_length _ _ _ _
theorem lockN_ok (s : List Int) (n k : Nat) : lockOk (lockN s n k) := ⟨byteOk_labelOf _ _ _ _, byteOk_labelOf _ _ _ _⟩
theorem passed_ok (s : List Int) (n k : Nat) : locksOk (passed s n k) := by
  intro x hx
  obtain ⟨j, -, rfl⟩ := List.mem_map.1 hx
  exact lockN_ok s n j
theorem sh_take1 (s : List Int) : takeF 0 s [] 2 = (3, secS s 0 3, [lockN s 0 0, lockN s 0 1], lockN s 0 2, 0) := takeF_adv 0 2 s [] rfl (by decide) (by decide)
theorem sh_take2 (s t : List Int) : takeF 3 t [lockN s 0 0, lockN s 0 1] 0 = (3, t, [lockN s 0 1], lockN s 0 0, 0) := by
  unfold takeF
  rw [if_neg (by decide)]
  have : idxL [lockN s 0 0, lockN s 0 1] 0 = some 0 := by rw [idxL, if_pos (show (lockN s 0 0).f0 = 0 from rfl)]
  rw [this]
  rfl
theorem sh_take3 (s t : List Int) : takeF 3 t [lockN s 0 1] 0 = (3, t, [lockN s 0 1], R.z43, 9) := by
  unfold takeF
  rw [if_neg (by decide)]
  have : idxL [lockN s 0 1] 0 = none := by rw [idxL, if_neg (by rw [lockN_f0]; decide)]; rfl
  rw [this]
  rfl
theorem sh_right (s t : List Int) (h : t.length = 32) : rightC 3 t [lockN s 0 0, lockN s 0 1] = true := by
  unfold rightC
  rw [decide_eq_true h]
  simp only [rises, lockN_f0, lockN_l1, lockN_l2]
  simp
/-- Names for the example's rows. -/
structure ShV where
  s : List Int
  t : List Int
  k0 : R.S43
  k1 : R.S43
  k2 : R.S43
def ShP (v : ShV) : Prop := v.s.length = 32 ∧ byteOk v.s = true ∧ v.t.length = 32 ∧ byteOk v.t = true ∧ takeF 0 v.s [] 2 = (3, v.t, [v.k0, v.k1], v.k2, 0) ∧ takeF 3 v.t [v.k0, v.k1] 0 = (3, v.t, [v.k1], v.k0, 0) ∧ takeF 3 v.t [v.k1] 0 = (3, v.t, [v.k1], R.z43, 9) ∧
  rightC 3 v.t [v.k0, v.k1] = true ∧ v.k0.f0 = 0 ∧ v.k1.f0 = 1 ∧ v.k2.f0 = 2 ∧ v.k2.f1.length = 32 ∧ lockOk v.k0 ∧ lockOk v.k1
theorem shP_of (s : List Int) (h : s.length = 32) (o : byteOk s = true) : ShP ⟨s, secS s 0 3, lockN s 0 0, lockN s 0 1, lockN s 0 2⟩ :=
  ⟨h, o, secS_length s 0 h 3, byteOk_secS s 0 o 3, sh_take1 s, sh_take2 s _, sh_take3 s _, sh_right s _ (secS_length s 0 h 3), lockN_f0 s 0 0, lockN_f0 s 0 1, lockN_f0 s 0 2, lockN_l1 s 0 2, lockN_ok s 0 0, lockN_ok s 0 1⟩
def Z32r : List Int := List.replicate 32 0
set_option maxRecDepth 100000 in
set_option maxHeartbeats 4000000 in
theorem shown13_calls (w : World) (hT : TabOk w) : Calls Tryd.prog 10 #[] w fun e w' => e = .returned (.bool true) ∧ Below w.heap.size w w' := by
  obtain ⟨V, hV⟩ : ∃ V : ShV, ShP V ∧ leafS Z32r 2 1 = V.s := ⟨_, shP_of _ (leafS_length Z32r 2 1) (byteOk_leafS Z32r 2 1), rfl⟩
  have HV := Lib.hid hV
  have HT := Lib.hid hT
  have m32 : Hid (∀ W : World, (Instr.makeSlice 22 (.int .i64 32) (.int .i64 32)).run Tryd.prog W = .ok (.slice (some ⟨W.heap.size, 0, none⟩) 32 32) (W.alloc (.cells (nums .u8 Z32r).toArray 5))) := Lib.hid (madeN13 32 32 rfl (by decide))
  clear hV hT
  go_enter Tryd.func10, Tryd.ntmps10
  go_wp2_with fail
  rw [m32.out]
  have H0 := Lib.hid (And.intro (show Kd.C (Kd.int .u8) (w.alloc (Obj.cells (nums .u8 Z32r).toArray 5)) (some ⟨w.heap.size, 0, none⟩) 32 Z32r from c_lit w 5 Z32r (by decide)) ((Below.refl w.heap.size w).alloc (Nat.le_refl _) (Obj.cells (nums .u8 Z32r).toArray 5)))
  generalize (w.alloc (Obj.cells (nums .u8 Z32r).toArray 5)) = W1 at *
  go_wp2_with fail
  refine (start_calls (some ⟨w.heap.size, 0, none⟩) 32 Z32r 2 1 4 1 rfl rfl W1 (HT.out.below H0.out.2 HT.out.1) (by decide) (by decide) rfl (by decide) H0.out.1 (Nat.le_refl _)).mono ?_
  rw [HV.out.2]
  rintro e W2 ⟨A, c, rfl, hl, hC, hb⟩
  have H1 := Lib.hid (And.intro hl (And.intro hC (And.intro (Kd.C_below H0.out.1 hb) (H0.out.2.trans (hb.mono H0.out.2.size)))))
  clear hl hC hb H0
  go_wp2_with fail
  have b1 := Blk.new W2 25 #[.int .i64 0, .slice A V.s.length c, .slice none 0 0]
  have hb1 : Below W2.heap.size W2 (W2.alloc (Obj.cells #[.int .i64 0, .slice A V.s.length c, .slice none 0 0] 25)) := (Below.refl _ W2).alloc (Nat.le_refl _) _
  have H2 := Lib.hid (And.intro H1.out.1 (And.intro (Kd.C_below H1.out.2.1 hb1) (And.intro (Kd.C_below H1.out.2.2.1 hb1) (And.intro (H1.out.2.2.2.trans (hb1.mono H1.out.2.2.2.size)) b1))))
  generalize W2.alloc (Obj.cells #[.int .i64 0, .slice A V.s.length c, .slice none 0 0] 25) = W3 at *
  obtain ⟨gc, hgc⟩ : ∃ g, W2.heap.size = g := ⟨_, rfl⟩
  rw [hgc] at H2 ⊢
  clear hgc b1 hb1 H1
  refine (take_calls 0 2 A V.s c none [] 0 W3 H2.out.2.1 H2.out.1 (Kd.C_nil _ _) (Nat.le_refl _) HV.out.1.1 HV.out.1.2.1 (by decide) (by decide)).mono ?_
  rw [HV.out.1.2.2.2.2.1]
  rintro e W4 ⟨As, cs, Ap, cp, Ak, ck, An, cn, rfl, q1, q2, q3, q4, q5, q6, q7, q8, hb⟩
  have H3 := Lib.hid (And.intro q1 (And.intro q2 (And.intro q3 (And.intro q4 (And.intro (H2.out.2.2.2.1.trans (hb.mono H2.out.2.2.2.1.size)) (And.intro (H2.out.2.2.2.2.below hb H2.out.2.2.2.2.lt) (And.intro (Kd.C_below H2.out.2.1 hb) (And.intro (Kd.C_below H2.out.2.2.1 hb) H2.out.1))))))))
  clear q1 q2 q3 q4 q5 q6 q7 q8 hb H2
  dsimp only
  generalize hzk : V.k2.f1.length = zk at *
  generalize hzn : V.k2.f2.length = zn at *
  have HZ := Lib.hid hzk
  clear hzk hzn
  rw [show V.k2.f0 = 2 from HV.out.1.2.2.2.2.2.2.2.2.2.2.1]
  go_wp2_with fail
  obtain ⟨r1, r2, r3, r4⟩ := two_boxes W4 #[.int .i64 3, .slice As V.t.length cs, .slice Ap 2 cp] #[.int .i64 2, .slice Ak zk ck, .slice An zn cn] 25 43
  -- s: the rows of c and send; t: those of d
  have G0 := Lib.hid (And.intro H3.out.1 (And.intro (Kd.C_below H3.out.2.1 r3) (And.intro H3.out.2.2.1 (And.intro (Kd.C_below H3.out.2.2.2.1 r3) (And.intro (H3.out.2.2.2.2.1.trans (r3.mono H3.out.2.2.2.2.1.size)) (And.intro (H3.out.2.2.2.2.2.1.below r3 H3.out.2.2.2.2.2.1.lt) (And.intro (Kd.C_below H3.out.2.2.2.2.2.2.1 r3) (And.intro (Kd.C_below H3.out.2.2.2.2.2.2.2.1 r3) (And.intro H3.out.2.2.2.2.2.2.2.2 (And.intro r1 r2))))))))))
  generalize ((W4.alloc (.cells #[.int .i64 3, .slice As V.t.length cs, .slice Ap 2 cp] 25)).alloc (.cells #[.int .i64 2, .slice Ak zk ck, .slice An zn cn] 43)) = W5 at *
  obtain ⟨gd, hgd⟩ : ∃ g, W4.heap.size = g := ⟨_, rfl⟩
  rw [hgd] at G0 ⊢
  clear hgd r1 r2 r3 r4 H3
  refine (take_calls 3 0 As V.t cs Ap [V.k0, V.k1] cp W5 G0.out.2.1 G0.out.1 G0.out.2.2.2.1 G0.out.2.2.1 HV.out.1.2.2.1 HV.out.1.2.2.2.1 (by simp) (by decide)).mono ?_
  rw [HV.out.1.2.2.2.2.2.1]
  rintro e W6 ⟨Bs, es, Bp, ep, Bk, ek, Bn, en, rfl, q1, q2, q3, q4, -, -, -, -, hb⟩
  have G1 := Lib.hid (And.intro q1 (And.intro q2 (And.intro q3 (And.intro q4 (And.intro (G0.out.2.2.2.2.1.trans (hb.mono G0.out.2.2.2.2.1.size)) (And.intro (G0.out.2.2.2.2.2.1.below hb G0.out.2.2.2.2.2.1.lt) (And.intro (Kd.C_below G0.out.2.2.2.2.2.2.1 hb) (And.intro (Kd.C_below G0.out.2.2.2.2.2.2.2.1 hb) (And.intro G0.out.2.2.2.2.2.2.2.2.1 (And.intro (G0.out.2.2.2.2.2.2.2.2.2.1.below hb G0.out.2.2.2.2.2.2.2.2.2.1.lt) (And.intro (G0.out.2.2.2.2.2.2.2.2.2.2.below hb G0.out.2.2.2.2.2.2.2.2.2.2.lt) (And.intro G0.out.1 (And.intro (Kd.C_below G0.out.2.1 hb) (And.intro G0.out.2.2.1 (Kd.C_below G0.out.2.2.2.1 hb)))))))))))))))
  clear q1 q2 q3 q4 hb G0
  dsimp only
  generalize V.k0.f1.length = xk at *
  generalize V.k0.f2.length = xn at *
  rw [show V.k0.f0 = 0 from HV.out.1.2.2.2.2.2.2.2.2.1]
  go_wp2_with fail
  obtain ⟨r1, r2, r3, r4⟩ := two_boxes W6 #[.int .i64 3, .slice Bs V.t.length es, .slice Bp 1 ep] #[.int .i64 0, .slice Bk xk ek, .slice Bn xn en] 25 43
  obtain ⟨p1, p2, p3, p4, p5, p6, p7, p8, p9, p10, p11, p12, p13, p14, p15⟩ := G1.out
  have G2 := Lib.hid (And.intro p1 (And.intro (Kd.C_below p2 r3) (And.intro p3 (And.intro (Kd.C_below p4 r3) (And.intro (p5.trans (r3.mono p5.size)) (And.intro (p6.below r3 p6.lt) (And.intro (Kd.C_below p7 r3) (And.intro (Kd.C_below p8 r3) (And.intro p9 (And.intro (p10.below r3 p10.lt) (And.intro (p11.below r3 p11.lt) (And.intro p12 (And.intro (Kd.C_below p13 r3) (And.intro p14 (And.intro (Kd.C_below p15 r3) (And.intro r1 r2))))))))))))))))
  clear p1 p2 p3 p4 p5 p6 p7 p8 p9 p10 p11 p12 p13 p14 p15 G1
  generalize ((W6.alloc (.cells #[.int .i64 3, .slice Bs V.t.length es, .slice Bp 1 ep] 25)).alloc (.cells #[.int .i64 0, .slice Bk xk ek, .slice Bn xn en] 43)) = W7 at *
  obtain ⟨gx, hgx⟩ : ∃ g, W6.heap.size = g := ⟨_, rfl⟩
  rw [hgx] at G2 ⊢
  clear hgx r1 r2 r3 r4
  refine (take_calls 3 0 Bs V.t es Bp [V.k1] ep W7 G2.out.2.1 G2.out.1 G2.out.2.2.2.1 G2.out.2.2.1 HV.out.1.2.2.1 HV.out.1.2.2.2.1 (by simp) (by decide)).mono ?_
  rw [HV.out.1.2.2.2.2.2.2.1]
  rintro e W8 ⟨Ds, fs, Dp, fp, Dk, fk, Dn, fn, rfl, -, -, -, -, -, -, -, -, hb⟩
  obtain ⟨p1, p2, p3, p4, p5, p6, p7, p8, p9, p10, p11, p12, p13, p14, p15, p16, p17⟩ := G2.out
  have G3 := Lib.hid (And.intro (p5.trans (hb.mono p5.size)) (And.intro (p6.below hb p6.lt) (And.intro (Kd.C_below p7 hb) (And.intro (Kd.C_below p8 hb) (And.intro p9 (And.intro (p10.below hb p10.lt) (And.intro (p11.below hb p11.lt) (And.intro p12 (And.intro (Kd.C_below p13 hb) (And.intro p14 (And.intro (Kd.C_below p15 hb) (And.intro (p16.below hb p16.lt) (p17.below hb p17.lt)))))))))))))
  clear p1 p2 p3 p4 p5 p6 p7 p8 p9 p10 p11 p12 p13 p14 p15 p16 p17 G2 hb
  dsimp only
  rw [show R.z43.f0 = 0 from rfl, show R.z43.f1.length = 0 from rfl, show R.z43.f2.length = 0 from rfl]
  go_wp2_with fail
  obtain ⟨r1, r2, r3, r4⟩ := two_boxes W8 #[.int .i64 3, .slice Ds V.t.length fs, .slice Dp 1 fp] #[.int .i64 0, .slice Dk 0 fk, .slice Dn 0 fn] 25 43
  obtain ⟨p5, p6, p7, p8, p9, p10, p11, p12, p13, p14, p15, p16, p17⟩ := G3.out
  have G4 := Lib.hid (And.intro (p5.trans (r3.mono p5.size)) (And.intro (p6.below r3 p6.lt) (And.intro (Kd.C_below p7 r3) (And.intro (Kd.C_below p8 r3) (And.intro p9 (And.intro (p10.below r3 p10.lt) (And.intro (p11.below r3 p11.lt) (And.intro p12 (And.intro (Kd.C_below p13 r3) (And.intro p14 (And.intro (Kd.C_below p15 r3) (And.intro (p16.below r3 p16.lt) (p17.below r3 p17.lt)))))))))))))
  clear p5 p6 p7 p8 p9 p10 p11 p12 p13 p14 p15 p16 p17 G3
  generalize ((W8.alloc (.cells #[.int .i64 3, .slice Ds V.t.length fs, .slice Dp 1 fp] 25)).alloc (.cells #[.int .i64 0, .slice Dk 0 fk, .slice Dn 0 fn] 43)) = W9 at *
  obtain ⟨gy, hgy⟩ : ∃ g, W8.heap.size = g := ⟨_, rfl⟩
  rw [hgy]
  clear hgy r1 r2 r3 r4
  refine (leaf_calls (some ⟨w.heap.size, 0, none⟩) 32 Z32r 2 1 W9 (HT.out.below G4.out.1 HT.out.1) (by decide) (by decide) rfl (by decide) G4.out.2.2.2.1 (Nat.le_refl _)).mono ?_
  rw [HV.out.2]
  rintro e W10 ⟨v, rfl, hR, hb⟩
  obtain ⟨As', cs', rfl, hls, hCs⟩ := Kd.R_reads hR
  obtain ⟨p5, p6, p7, p8, p9, p10, p11, p12, p13, p14, p15, p16, p17⟩ := G4.out
  have G5 := Lib.hid (And.intro (p5.trans (hb.mono p5.size)) (And.intro (p6.below hb p6.lt) (And.intro (Kd.C_below p7 hb) (And.intro hls (And.intro hCs (And.intro p9 (And.intro (p10.below hb p10.lt) (And.intro (p11.below hb p11.lt) (And.intro p12 (And.intro (Kd.C_below p13 hb) (And.intro p14 (And.intro (Kd.C_below p15 hb) (And.intro (p16.below hb p16.lt) (p17.below hb p17.lt))))))))))))))
  clear p5 p6 p7 p8 p9 p10 p11 p12 p13 p14 p15 p16 p17 G4 hb hR hls hCs
  obtain rfl : 32 = zk := by rw [← HZ.out]; exact HV.out.1.2.2.2.2.2.2.2.2.2.2.2.1.symm
  obtain ⟨hb, bc, hCc, hls, hCs, hlc, bd, bl, hlt, hCt, hlp, hCp, bx, bm⟩ := G5.out
  have c1 : W10.cell? ⟨gc, 1, none⟩ = some (.slice A V.s.length c) := bc.cell 1
  have d0 : W10.cell? ⟨gd, 0, none⟩ = some (.int .i64 3) := bd.cell 0
  have d2 : W10.cell? ⟨gd, 2, none⟩ = some (.slice Ap 2 cp) := bd.cell 2
  have l0 : W10.cell? ⟨gd + 1, 0, none⟩ = some (.int .i64 2) := bl.cell 0
  have l1 : W10.cell? ⟨gd + 1, 1, none⟩ = some (.slice Ak 32 ck) := bl.cell 1
  have x2 : W10.cell? ⟨gx, 2, none⟩ = some (.slice Bp 1 ep) := bx.cell 2
  have m0 : W10.cell? ⟨gx + 1, 0, none⟩ = some (.int .i64 0) := bm.cell 0
  obtain ⟨ad, A1, c1', A2, c2', rfl, y0, -, -, -, -, -, -⟩ := R.at_T43 hCp (0 : Int) (by decide) (by simp)
  obtain ⟨ad', A3, c3', A4, c4', ead, z0, -, -, -, -, -, -⟩ := R.at_T43 hCp (1 : Int) (by decide) (by simp)
  cases ead
  have y0' : W10.cell? (ad.add 0) = some (.int .i64 0) := by
    have := y0
    rw [show (R.rd_T43 [V.k0, V.k1] 0).f0 = 0 from HV.out.1.2.2.2.2.2.2.2.2.1] at this
    exact this
  have z0' : W10.cell? (ad.add 3) = some (.int .i64 1) := by
    have := z0
    rw [show (R.rd_T43 [V.k0, V.k1] 1).f0 = 1 from HV.out.1.2.2.2.2.2.2.2.2.2.1] at this
    exact this
  have y0'' : W10.cell? ad = some (.int .i64 0) := by
    rw [Addr.add_zero'] at y0'
    exact y0'
  have z0'' : W10.cell? ⟨ad.block, ad.off + 3, none⟩ = some (.int .i64 1) := z0'
  clear y0 z0 hb bc hCc hls hCs hlc bd bl hlt hCt hlp hCp bx bm HZ
  go_wp2_with fail
  clear c1 d0 d2 l0 l1 x2 m0 y0' z0' y0'' z0''
  refine (P.pyxref01_Same.calls As' cs' V.s A c V.s true W10 G5.out.2.2.2.2.1 G5.out.2.2.2.1 G5.out.2.2.1 G5.out.2.2.2.2.2.1 (by unfold P.pyxref01_Same.f; rw [if_pos ⟨HV.out.1.2.1, HV.out.1.2.1⟩, beq_self_eq_true])).mono ?_
  rintro e W11 ⟨rfl, hq⟩
  have hb := drawn_below hq
  clear hq
  obtain ⟨q0, bc, hCc, hls, hCs, hlc, bd, bl, hlt, hCt, hlp, hCp, bx, bm⟩ := G5.out
  have G6 := Lib.hid (And.intro (q0.trans (hb.mono q0.size)) (And.intro (bc.below hb bc.lt) (And.intro (Kd.C_below hCc hb) (And.intro hlc (And.intro (bd.below hb bd.lt) (And.intro hlt (And.intro (Kd.C_below hCt hb) (And.intro hlp (Kd.C_below hCp hb)))))))))
  clear q0 bc hCc hls hCs hlc bd bl hlt hCt hlp hCp bx bm hb G5
  have d0 : W11.cell? ⟨gd, 0, none⟩ = some (.int .i64 3) := G6.out.2.2.2.2.1.cell 0
  have d1 : W11.cell? ⟨gd, 1, none⟩ = some (.slice As V.t.length cs) := G6.out.2.2.2.2.1.cell 1
  have d2 : W11.cell? ⟨gd, 2, none⟩ = some (.slice (some ad) 2 cp) := G6.out.2.2.2.2.1.cell 2
  go_wp2_with fail
  clear d0 d1 d2
  refine (R.ratch_Right.calls 40 3 As cs V.t (some ad) cp [V.k0, V.k1] true W11 G6.out.2.2.2.2.2.2.1 G6.out.2.2.2.2.2.1 G6.out.2.2.2.2.2.2.2.2 G6.out.2.2.2.2.2.2.2.1 (by rw [right_some _ _ _ 40 (by decide), HV.out.1.2.2.2.2.2.2.2.1])).mono ?_
  rintro e W12 ⟨rfl, hb⟩
  obtain ⟨q0, bc, hCc, hlc, bd, hlt, hCt, hlp, hCp⟩ := G6.out
  have G7 := Lib.hid (And.intro (q0.trans (hb.mono q0.size)) (And.intro (bc.below hb bc.lt) (And.intro (Kd.C_below hCc hb) (And.intro hlc (And.intro (bd.below hb bd.lt) (And.intro hlt (And.intro (Kd.C_below hCt hb) (And.intro hlp (Kd.C_below hCp hb)))))))))
  clear q0 bc hCc hlc bd hlt hCt hlp hCp hb G6
  have c0 : W12.cell? ⟨gc, 0, none⟩ = some (.int .i64 0) := G7.out.2.1.cell 0
  have c1 : W12.cell? ⟨gc, 1, none⟩ = some (.slice A V.s.length c) := G7.out.2.1.cell 1
  have c2 : W12.cell? ⟨gc, 2, none⟩ = some (.slice none 0 0) := G7.out.2.1.cell 2
  go_wp2_with fail
  clear c0 c1 c2
  refine (same_calls 0 0 A none A none c 0 c 0 V.s V.s [] [] W12 HV.out.1.2.1 HV.out.1.2.1 (fun x hx => by simp at hx) (fun x hx => by simp at hx) (by decide) G7.out.2.2.1 G7.out.2.2.2.1 (Kd.C_nil _ _) G7.out.2.2.1 G7.out.2.2.2.1 (Kd.C_nil _ _)).mono ?_
  rw [sameC_refl]
  rintro e W13 ⟨rfl, hb⟩
  obtain ⟨q0, bc, hCc, hlc, bd, hlt, hCt, hlp, hCp⟩ := G7.out
  have G8 := Lib.hid (And.intro (q0.trans (hb.mono q0.size)) (And.intro (bc.below hb bc.lt) (And.intro (Kd.C_below hCc hb) (And.intro hlc (And.intro (bd.below hb bd.lt) (And.intro hlt (And.intro (Kd.C_below hCt hb) (And.intro hlp (Kd.C_below hCp hb)))))))))
  clear q0 bc hCc hlc bd hlt hCt hlp hCp hb G7
  have c0 : W13.cell? ⟨gc, 0, none⟩ = some (.int .i64 0) := G8.out.2.1.cell 0
  have c1 : W13.cell? ⟨gc, 1, none⟩ = some (.slice A V.s.length c) := G8.out.2.1.cell 1
  have c2 : W13.cell? ⟨gc, 2, none⟩ = some (.slice none 0 0) := G8.out.2.1.cell 2
  have d0 : W13.cell? ⟨gd, 0, none⟩ = some (.int .i64 3) := G8.out.2.2.2.2.1.cell 0
  have d1 : W13.cell? ⟨gd, 1, none⟩ = some (.slice As V.t.length cs) := G8.out.2.2.2.2.1.cell 1
  have d2 : W13.cell? ⟨gd, 2, none⟩ = some (.slice (some ad) 2 cp) := G8.out.2.2.2.2.1.cell 2
  go_wp2_with fail
  clear c0 c1 c2 d0 d1 d2
  refine (same_calls 0 3 A none As (some ad) c 0 cs cp V.s V.t [] [V.k0, V.k1] W13 HV.out.1.2.1 HV.out.1.2.2.2.1 (fun x hx => by simp at hx) (fun x hx => by simp at hx; rcases hx with rfl | rfl; exact HV.out.1.2.2.2.2.2.2.2.2.2.2.2.2.1; exact HV.out.1.2.2.2.2.2.2.2.2.2.2.2.2.2) (by decide) G8.out.2.2.1 G8.out.2.2.2.1 (Kd.C_nil _ _) G8.out.2.2.2.2.2.2.1 G8.out.2.2.2.2.2.1 G8.out.2.2.2.2.2.2.2.2).mono ?_
  rw [show sameC 0 V.s [] 3 V.t [V.k0, V.k1] = false from rfl]
  rintro e W14 ⟨rfl, hb⟩
  go_wp2
  go_ret
  exact ⟨rfl, G8.out.1.trans (hb.mono G8.out.1.size)⟩
end Go.Proofs.YtdklmafkcbjomaaDoor

/-! RatR -/
namespace Go.Proofs.YtdklmafkcbjomaaDoor
set_option linter.unusedVariables false
set_option linter.unusedSimpArgs false
open Go.RowKit Go.Shelf Go.Proofs.YtdklmafkcbjomaaDoorW.PrintWords Go.Proofs.YtdklmafkcbjomaaDoorW.PrintLast Go.Proofs.YtdklmafkcbjomaaDoorW.PrintMore Iter
/-- Locks that rise, each in bounds. -/
def RiseP (n last : Int) (L : List R.S43) : Prop := (∀ x, x ∈ L → last < x.f0 ∧ x.f0 < n ∧ x.f1.length = 32 ∧ x.f2.length = 12) ∧ L.Pairwise (fun a b => a.f0 < b.f0)
theorem rises_iff (n : Int) : ∀ (L : List R.S43) (last : Int), rises n last L = true ↔ RiseP n last L
  | [], last => by simp [rises, RiseP]
  | x :: xs, last => by
    rw [rises]
    simp only [Bool.and_eq_true, decide_eq_true_eq]
    rw [rises_iff n xs x.f0]
    unfold RiseP
    rw [List.pairwise_cons]
    constructor
    · rintro ⟨h1, h2, h3, h4, h5, h6⟩
      refine ⟨fun y hy => ?_, fun y hy => (h5 y hy).1, h6⟩
      rcases List.mem_cons.1 hy with rfl | hy
      · exact ⟨h1, h2, h3, h4⟩
      · have := h5 y hy
        exact ⟨by omega, this.2⟩
    · rintro ⟨h1, h2, h3⟩
      have h0 := h1 x (List.mem_cons_self ..)
      exact ⟨h0.1, h0.2.1, h0.2.2.1, h0.2.2.2, fun y hy => ⟨h2 y hy, (h1 y (List.mem_cons_of_mem _ hy)).2⟩, h3⟩
/-- A right chain. -/
def Good (n : Nat) (s : List Int) (L : List R.S43) : Prop := n ≤ 4294967294 ∧ s.length = 32 ∧ byteOk s = true ∧ L.length ≤ 32 ∧ locksOk L ∧ RiseP (n : Int) (-1) L
theorem good_right {n : Nat} {s : List Int} {L : List R.S43} (h : Good n s L) : rightC (n : Int) s L = true := by
  unfold rightC
  rw [decide_eq_true (p := (0 : Int) ≤ n) (by omega), decide_eq_true (p := (n : Int) ≤ 4294967294) (by have := h.1; omega), decide_eq_true h.2.1, decide_eq_true h.2.2.2.1, (rises_iff _ _ _).2 h.2.2.2.2.2]
  rfl
theorem good_of_right {n : Int} {s : List Int} {L : List R.S43} (h : rightC n s L = true) (os : byteOk s = true) (oL : locksOk L) : ∃ m : Nat, n = (m : Int) ∧ Good m s L := by
  unfold rightC at h
  simp only [Bool.and_eq_true, decide_eq_true_eq] at h
  obtain ⟨h1, h2, h3, h4, h5⟩ := h
  obtain ⟨m, rfl⟩ := Int.eq_ofNat_of_zero_le h1
  exact ⟨m, rfl, by omega, h3, os, h4, oL, (rises_iff _ _ _).1 h5⟩
theorem idxL_none_of (L : List R.S43) (X : Int) (h : ∀ x, x ∈ L → x.f0 ≠ X) : idxL L X = none := by
  refine idxL_none L X (fun j hj => ?_)
  rw [getD43 L j hj]
  exact h _ (List.getElem_mem hj)
theorem good_idx {n : Nat} {s : List Int} {L : List R.S43} (h : Good n s L) (X : Int) (hX : (n : Int) ≤ X ∨ X < 0) : idxL L X = none :=
  idxL_none_of L X (fun x hx e => by have := h.2.2.2.2.2.1 x hx; omega)
/-- Places behind the chain's next one. -/
theorem takeF_next {n : Nat} {s : List Int} {L : List R.S43} (h : Good n s L) (d : Nat) (hd : d ≤ 100) (hm : n + d < 4294967294) : takeF n s L ((n + d : Nat) : Int) = (n + (d + 1), secS s n (d + 1), (L ++ passed s n d).drop (L.length + d - 32), lockN s n d, 0) :=
  takeF_adv n d s L (good_idx h _ (by omega)) hd hm
theorem takeF_far {n : Nat} {s : List Int} {L : List R.S43} (h : Good n s L) (X : Int) (hX : (n : Int) ≤ X) (h4 : X ≤ 4294967294) (hf : 100 < X - (n : Int) ∨ 4294967294 ≤ X) : takeF n s L X = (n, s, L, R.z43, 4) := by
  unfold takeF
  rw [if_neg (by omega), good_idx h X (.inl hX)]
  dsimp only
  rw [if_neg (by omega), if_pos hf]
theorem takeF_out (n : Nat) (s : List Int) (L : List R.S43) (X : Int) (h : X < 0 ∨ 4294967294 < X) : takeF n s L X = (n, s, L, R.z43, 1) := by
  unfold takeF
  rw [if_pos h]
theorem passed_rise (s : List Int) (n d : Nat) : ∀ x, x ∈ passed s n d → ∃ k, k < d ∧ x = lockN s n k := by
  intro x hx
  obtain ⟨k, hk, rfl⟩ := List.mem_map.1 hx
  exact ⟨k, List.mem_range.1 hk, rfl⟩
theorem passed_pair (s : List Int) (n d : Nat) : (passed s n d).Pairwise (fun a b => a.f0 < b.f0) := by
  unfold passed
  rw [List.pairwise_map]
  refine (List.pairwise_lt_range (n := d)).imp (fun {a b} hab => ?_)
  rw [lockN_f0, lockN_f0]
  omega
theorem riseP_mono {n n' : Int} {last : Int} {L : List R.S43} (h : RiseP n last L) (hn : n ≤ n') : RiseP n' last L := ⟨fun x hx => by have := h.1 x hx; exact ⟨this.1, by omega, this.2.2⟩, h.2⟩
theorem riseP_sub {n last : Int} {L M : List R.S43} (h : RiseP n last L) (hs : M.Sublist L) : RiseP n last M := ⟨fun x hx => h.1 x (hs.subset hx), h.2.sublist hs⟩
theorem riseP_passed {n d : Nat} {s : List Int} {L : List R.S43} (h : RiseP (n : Int) (-1) L) : RiseP ((n + (d + 1) : Nat) : Int) (-1) (L ++ passed s n d) := by
  refine ⟨fun x hx => ?_, ?_⟩
  · rcases List.mem_append.1 hx with hx | hx
    · have := h.1 x hx
      exact ⟨this.1, by omega, this.2.2⟩
    · obtain ⟨k, hk, rfl⟩ := passed_rise s n d x hx
      rw [lockN_f0, lockN_l1, lockN_l2]
      exact ⟨by omega, by omega, rfl, rfl⟩
  · rw [List.pairwise_append]
    refine ⟨h.2, passed_pair s n d, fun a ha b hb => ?_⟩
    obtain ⟨k, hk, rfl⟩ := passed_rise s n d b hb
    have := h.1 a ha
    rw [lockN_f0]
    omega
theorem locksOk_sub {L M : List R.S43} (h : locksOk L) (hs : M.Sublist L) : locksOk M := fun x hx => h x (hs.subset hx)
theorem locksOk_app {L M : List R.S43} (h : locksOk L) (h' : locksOk M) : locksOk (L ++ M) := fun x hx => by
  rcases List.mem_append.1 hx with hx | hx
  · exact h x hx
  · exact h' x hx
theorem good_next {n : Nat} {s : List Int} {L : List R.S43} (h : Good n s L) (d : Nat) (hm : n + d < 4294967294) : Good (n + (d + 1)) (secS s n (d + 1)) ((L ++ passed s n d).drop (L.length + d - 32)) := by
  refine ⟨by omega, secS_length s n h.2.1 _, byteOk_secS s n h.2.2.1 _, ?_, ?_, ?_⟩
  · rw [List.length_drop, List.length_append, passed_length]
    omega
  · exact locksOk_sub (locksOk_app h.2.2.2.2.1 (passed_ok s n d)) (List.drop_sublist _ _)
  · exact riseP_sub (riseP_passed h.2.2.2.2.2) (List.drop_sublist _ _)
/-- Take, its numbers spelled as they stand. -/
theorem take_any (n : Nat) (N X : Int) (hN : (n : Int) = N) (As : Option Addr) (s : List Int) (cs : Nat) (Ap : Option Addr) (L : List R.S43) (cp : Nat) (w : World) (n' : Nat) (N' : Int) (s' : List Int) (L' : List R.S43) (x : R.S43) (er : Int)
    (hr : takeF n s L X = (n', s', L', x, er)) (hN' : (n' : Int) = N') (h : Good n s L) (hrs : Kd.C (Kd.int .u8) w As s.length s) (hcs : s.length ≤ cs) (hrp : Kd.C R.k43 w Ap L.length L) (hcp : L.length ≤ cp) :
    Calls Tryd.prog 21 #[.agg #[.int .i64 N, .slice As s.length cs, .slice Ap L.length cp], .int .i64 X] w (TakePost w N' s' L' x er) := by
  subst hN hN'
  have := take_calls n X As s cs Ap L cp w hrs hcs hrp hcp h.2.1 h.2.2.1 h.2.2.2.1 (by have := h.1; omega)
  rw [hr] at this
  exact this
end Go.Proofs.YtdklmafkcbjomaaDoor

/-! StructIn -/
namespace Go.Proofs.YtdklmafkcbjomaaDoor
set_option linter.unusedVariables false
open Go.Deep Go.RowKit Go.ChangeShapes Go.WideShapes Go.Proofs.YtdklmafkcbjomaaDoorW.PrintWords
theorem mapM_each {α β : Type} {f : α → Option β} : ∀ {l : List α} {xs : List β}, l.mapM f = some xs → ∀ (i : Nat) (a : α), l[i]? = some a → ∃ y, xs[i]? = some y ∧ f a = some y
  | [], _, _, i, a, ha => by simp at ha
  | b :: l, xs, h, i, a, ha => by
    rw [List.mapM_cons] at h
    cases hb : f b with
    | none => simp [hb] at h
    | some y =>
      rw [hb] at h
      cases hl : l.mapM f with
      | none => simp [hl] at h
      | some ys =>
        rw [hl] at h
        simp at h
        subst h
        cases i with
        | zero =>
          simp at ha
          subst ha
          exact ⟨y, rfl, hb⟩
        | succ i =>
          obtain ⟨z, hz, hfz⟩ := mapM_each hl i a (by simpa using ha)
          exact ⟨z, by simpa using hz, hfz⟩
end Go.Proofs.YtdklmafkcbjomaaDoor

/-! OpenK -/
namespace Go.Proofs.YtdklmafkcbjomaaDoor
set_option linter.unusedVariables false
open Go.Deep Go.RowKit Go.ChangeShapes Go.WideShapes Go.Proofs.YtdklmafkcbjomaaDoorW.PrintWords
/-- Cells that read as data of the type e are those of a value of the kind d, of which ok holds. -/
def Opens {α : Type} (P : Program) (e : TypeId) (d : Kd α) (ok : α → Prop) : Prop :=
  P.cellsOf e = d.sz ∧ ∀ (H : Type) (enc : TypeId × Value → H) (W : World) (base : Nat) (held : Bool) (fuel : Nat) (cs : List Value) (y : DataW H × List MemPlace),
    DataW.trod enc P W base (fun _ => true) held fuel e cs = some y → ∃ x, d.K W x cs ∧ ok x
theorem opens_int {P : Program} {e : TypeId} {k : IntKind} (he : P.underlying e = some (.int k)) (hc : P.cellsOf e = 1) : Opens P e (Kd.int k) (fun n => (Lit.int k n).wf = true) :=
  ⟨hc, fun H enc W base held fuel cs y h => by
    obtain ⟨n, rfl, -, hw⟩ := DataW.trod_int he h
    exact ⟨n, rfl, hw⟩⟩
theorem mapM_range {β : Type} {f : Nat → Option β} : ∀ (n : Nat) {xs : List β}, (List.range n).mapM f = some xs → ∀ i, i < n → ∃ y, f i = some y := by
  intro n xs h i hi
  obtain ⟨y, -, hy⟩ := mapM_each h i i (by rw [List.getElem?_range hi])
  exact ⟨y, hy⟩
theorem addr_add_add (a : Addr) (m n : Nat) : (a.add m).add n = a.add (m + n) := by
  unfold Addr.add
  by_cases hm : m = 0
  · subst hm; simp
  · by_cases hn : n = 0
    · subst hn; simp
    · rw [if_neg hn, if_neg hm, if_neg (by omega)]
      simp [Nat.add_assoc]
theorem opens_slice {α : Type} {P : Program} {t e : TypeId} {d : Kd α} {ok : α → Prop} (ht : P.underlying t = some (.slice e)) (hc : P.cellsOf t = 1) (hd : Opens P e d ok) : Opens P t (Kd.slice e d) (fun l => l.length ≤ maxLen ∧ ∀ x ∈ l, ok x) :=
  ⟨hc, fun H enc W base held fuel cs y h => by
    cases fuel with
    | zero => simp [DataW.trod] at h
    | succ m =>
      unfold DataW.trod at h
      simp only [ht] at h
      split at h <;> simp_all only [reduceCtorEq, Option.some.injEq, TypeDesc.slice.injEq]
      · exact ⟨[], ⟨none, 0, rfl, Nat.le_refl _, rfl, by simp, fun h => absurd h (by simp)⟩, by simp, fun x hx => by simp at hx⟩
      · rename_i e' a len cap he
        subst he
        split at h
        case isFalse => cases h
        rename_i hb
        obtain ⟨elems, hel, -⟩ := Option.bind_eq_some_iff.1 h
        have each : ∀ i : Fin len, ∃ x, ∃ c, c.length = d.sz ∧ d.K W x c ∧ (∀ j u, c[j]? = some u → W.cell? (a.add (i.1 * d.sz + j)) = some u) ∧ ok x := fun ⟨i, hi⟩ => by
          obtain ⟨y, hy⟩ := mapM_range len hel i hi
          obtain ⟨c, hcs, hy⟩ := Option.bind_eq_some_iff.1 hy
          obtain ⟨x, hK, hok⟩ := hd.2 H enc W base held m c y hy
          rw [hd.1] at hcs
          obtain ⟨h1, h2, h3⟩ := World.cells?_some hcs
          refine ⟨x, c, d.K_len hK, hK, fun j u hj => ?_, hok⟩
          have hlt := (List.getElem?_eq_some_iff.1 hj).1
          rw [← addr_add_add, h3 j (by omega)]
          exact hj
        obtain ⟨f, hf⟩ := Classical.axiomOfChoice each
        refine ⟨List.ofFn f, ⟨some a, cap, by rw [List.length_ofFn], by rw [List.length_ofFn]; exact hb.2.1, rfl, by rw [List.length_ofFn]; have := hb.2; unfold maxLen at this; omega, fun h0 => ⟨a, rfl, fun j p hj => ?_⟩⟩, by rw [List.length_ofFn]; omega, fun x hx => ?_⟩
        · rw [List.getElem?_ofFn] at hj
          split at hj
          case isFalse => cases hj
          rename_i hlt
          obtain rfl := Option.some.inj hj
          obtain ⟨c, h1, h2, h3, -⟩ := hf ⟨j, hlt⟩
          exact ⟨c, h1, h2, h3⟩
        · obtain ⟨i, rfl⟩ := (List.mem_ofFn ..).1 hx
          obtain ⟨c, -, -, -, h4⟩ := hf i
          exact h4⟩
/-- A struct's fields from a place on. -/
def OpensF {α : Type} (P : Program) (fs : List Field) (off : Nat) (d : Kd α) (ok : α → Prop) : Prop :=
  ∀ (H : Type) (enc : TypeId × Value → H) (W : World) (base : Nat) (held : Bool) (fuel : Nat) (cs : List Value), cs.length = off + d.sz →
    (∀ f ∈ fs, ∃ y, DataW.trod enc P W base (fun _ => true) held fuel f.type ((cs.drop f.offset).take (P.cellsOf f.type)) = some y) → ∃ x, d.K W x (cs.drop off) ∧ ok x
theorem opensF_one {α : Type} {P : Program} {f : Field} {off : Nat} {d : Kd α} {ok : α → Prop} (hd : Opens P f.type d ok) (ho : f.offset = off) : OpensF P [f] off d ok := by
  intro H enc W base held fuel cs hl h
  obtain ⟨y, hy⟩ := h f (List.mem_singleton.2 rfl)
  obtain ⟨x, hK, hok⟩ := hd.2 H enc W base held fuel _ y hy
  rw [ho, hd.1, List.take_of_length_le (by rw [List.length_drop]; omega)] at hK
  exact ⟨x, hK, hok⟩
theorem opensF_cons {α β : Type} {P : Program} {f : Field} {fs : List Field} {off n : Nat} {a : Kd α} {b : Kd β} {oka : α → Prop} {okb : β → Prop} (ha : Opens P f.type a oka) (ho : f.offset = off) (hn : off + a.sz = n) (hb : OpensF P fs n b okb) : OpensF P (f :: fs) off (Kd.pair a b) (fun x => oka x.1 ∧ okb x.2) := by
  intro H enc W base held fuel cs hl h
  have hl' : cs.length = off + (a.sz + b.sz) := hl
  obtain ⟨y, hy⟩ := h f (List.mem_cons_self ..)
  obtain ⟨x, hK, hok⟩ := ha.2 H enc W base held fuel _ y hy
  obtain ⟨x', hK', hok'⟩ := hb H enc W base held fuel cs (by omega) (fun g hg => h g (List.mem_cons_of_mem _ hg))
  rw [ho, ha.1] at hK
  refine ⟨(x, x'), ⟨_, _, ?_, hK, hK'⟩, hok, hok'⟩
  rw [← hn, ← List.drop_drop, List.take_append_drop]
theorem opens_struct {α β : Type} {P : Program} {t : TypeId} {fs : Array Field} {d : Kd α} {ok : α → Prop} (ht : P.underlying t = some (.struct fs)) (hc : P.cellsOf t = d.sz) (hd : OpensF P fs.toList 0 d ok) (f : β → α) (g : α → β) (hfg : ∀ x, f (g x) = x) : Opens P t (Kd.iso d f) (fun x => ok (f x)) :=
  ⟨hc, fun H enc W base held fuel cs y h => by
    cases fuel with
    | zero => simp [DataW.trod] at h
    | succ m =>
      unfold DataW.trod at h
      simp only [ht] at h
      by_cases hl : cs.length = P.cellsOf t
      case neg => rw [if_neg hl] at h; cases h
      rw [if_pos hl] at h
      obtain ⟨xs, hxs, -⟩ := Option.map_eq_some_iff.1 h
      obtain ⟨x, hK, hok⟩ := hd H enc W base held m cs (by rw [hl, hc, Nat.zero_add]) (fun f hf => mapM_all hxs f hf)
      rw [List.drop_zero] at hK
      exact ⟨g x, show d.K W (f (g x)) cs by rw [hfg]; exact hK, show ok (f (g x)) by rw [hfg]; exact hok⟩⟩
/-- An argument. -/
theorem Opens.arg {α : Type} {P : Program} {t : TypeId} {d : Kd α} {ok : α → Prop} (h : Opens P t d ok) {H : Type} {enc : TypeId × Value → H} {W : World} {base : Nat} {held : Bool} {v : Value} {x : DataW H} {ps : List MemPlace} (hv : DataW.Trod enc P W base (fun _ => true) held t v x ps) : ∃ z, d.K W z v.cells.toList ∧ ok z := by
  obtain ⟨fuel, hf⟩ := hv
  exact h.2 H enc W base held fuel _ _ hf
end Go.Proofs.YtdklmafkcbjomaaDoor

/-! RatQ -/
namespace Go.Proofs.YtdklmafkcbjomaaDoor
set_option linter.unusedVariables false
set_option linter.unusedSimpArgs false
open Go.RowKit Go.ChangeShapes Go.WideShapes Go.Proofs.YtdklmafkcbjomaaDoorW.PrintWords Go.Proofs.YtdklmafkcbjomaaDoorW.PrintLast Go.Proofs.YtdklmafkcbjomaaDoorW.PrintMore
theorem Opens.imp {α : Type} {P : Program} {e : TypeId} {d : Kd α} {ok ok' : α → Prop} (h : Opens P e d ok) (hi : ∀ x, ok x → ok' x) : Opens P e d ok' :=
  ⟨h.1, fun H enc W base held fuel cs y hy => by
    obtain ⟨x, hK, hok⟩ := h.2 H enc W base held fuel cs y hy
    exact ⟨x, hK, hi x hok⟩⟩
theorem i64_wf (n : Int) (h : (Lit.int .i64 n).wf = true) : -9223372036854775808 ≤ n ∧ n < 9223372036854775808 := by
  simp [Lit.wf, show IntKind.i64.min = -9223372036854775808 from rfl, show IntKind.i64.max = 9223372036854775807 from rfl] at h
  omega
theorem u16_wf (n : Int) (h : (Lit.int .u16 n).wf = true) : 0 ≤ n ∧ n < 65536 := by
  simp [Lit.wf, show IntKind.u16.min = 0 from rfl, show IntKind.u16.max = 65535 from rfl] at h
  omega
theorem u8_wf (n : Int) (h : (Lit.int .u8 n).wf = true) : 0 ≤ n ∧ n < 256 := by
  simp [Lit.wf, show IntKind.u8.min = 0 from rfl, show IntKind.u8.max = 255 from rfl] at h
  omega
theorem open_int64 : Opens Tryd.prog 3 (Kd.int .i64) (fun n => -9223372036854775808 ≤ n ∧ n < 9223372036854775808) := (opens_int Tryd.underlying3 (by kernel_rfl)).imp i64_wf
theorem open_bytes : Opens Tryd.prog 22 (Kd.slice 5 (Kd.int .u8)) (fun l => byteOk l = true) :=
  (opens_slice Tryd.underlying22 (by kernel_rfl) (opens_int Tryd.underlying5 (by kernel_rfl))).imp (fun l h => byteOk_of_wf l h.2)
theorem open_lock : Opens Tryd.prog 43 R.k43 lockOk :=
  (opens_struct Tryd.underlying43 (by kernel_rfl) (opensF_cons open_int64 rfl rfl (opensF_cons open_bytes rfl rfl (opensF_one open_bytes rfl))) (fun x : R.S43 => (x.f0, x.f1, x.f2)) (fun p => ⟨p.1, p.2.1, p.2.2⟩) (fun x => rfl)).imp (fun x h => ⟨h.2.1, h.2.2⟩)
theorem open_locks : Opens Tryd.prog 23 (Kd.slice 43 R.k43) (fun L => L.length ≤ 9223372036854775807 ∧ locksOk L) :=
  (opens_slice Tryd.underlying23 (by kernel_rfl) open_lock).imp (fun L h => ⟨by have := h.1; unfold maxLen at this; omega, h.2⟩)
structure ChainK where
  n : Int
  s : List Int
  L : List R.S43
def chainK : Kd ChainK := Kd.iso (Kd.pair (Kd.int .i64) (Kd.pair (Kd.slice 5 (Kd.int .u8)) (Kd.slice 43 R.k43))) (fun x : ChainK => (x.n, x.s, x.L))
def chainOk (c : ChainK) : Prop := (-9223372036854775808 ≤ c.n ∧ c.n < 9223372036854775808) ∧ byteOk c.s = true ∧ locksOk c.L
theorem open_chain : Opens Tryd.prog 25 chainK chainOk :=
  (opens_struct Tryd.underlying25 (by kernel_rfl) (opensF_cons open_int64 rfl rfl (opensF_cons open_bytes rfl rfl (opensF_one open_locks rfl))) (fun x : ChainK => (x.n, x.s, x.L)) (fun p => ⟨p.1, p.2.1, p.2.2⟩) (fun x => rfl)).imp (fun x h => ⟨h.1, h.2.1, h.2.2.2⟩)
theorem chain_open {w : World} {x : ChainK} {cs : List Value} (h : chainK.K w x cs) : ∃ A c B d, cs = [.int .i64 x.n, .slice A x.s.length c, .slice B x.L.length d] ∧ x.s.length ≤ c ∧ Kd.C (Kd.int .u8) w A x.s.length x.s ∧ x.L.length ≤ d ∧ Kd.C R.k43 w B x.L.length x.L := by
  obtain ⟨_, _, rfl, rfl, ⟨_, _, rfl, ⟨A, c, rfl, l1, g1⟩, ⟨B, d, rfl, l2, g2⟩⟩⟩ := h
  exact ⟨A, c, B, d, rfl, l1, g1, l2, g2⟩
def laid2 : List (String × DataW Unit) := [("math/bits.deBruijn32tab", Rows.laid_math_bits_deBruijn32tab), ("math/bits.deBruijn64tab", Rows.laid_math_bits_deBruijn64tab)]
theorem g64 : Tryd.prog.globalNamed "math/bits.deBruijn64tab" = some 1 := by kernel_rfl
theorem t64 : (Tryd.prog.globals[1]?).map (·.type) = some 117 := by kernel_rfl
theorem laid64_eq : (Rows.laid_math_bits_deBruijn64tab : DataW Unit) = Lib.tabData .u8 deB := by rfl
theorem tabOk_of_laid {W : World} (h : laidMetH Tryd.prog laid2 W) : TabOk W := by
  rw [MakeChecks.laidMetH_plain _ _ _ (by kernel_rfl)] at h
  have h1 := laidMet.tail h
  rw [laid64_eq] at h1
  have ht := Lib.tabIs_of_head g64 t64 Tryd.underlying117 Tryd.underlying5 (by kernel_rfl) (by kernel_rfl) h1
  have hc : ∀ i, i < 64 → W.cell? ⟨1, i, none⟩ = some (.int .u8 (deB.getD i 0)) := fun i hi => ht.cell g64 i hi
  refine ⟨?_, hc⟩
  have := hc 0 (by decide)
  unfold World.cell? at this
  by_cases hlt : 1 < W.heap.size
  · omega
  · rw [Array.getElem?_eq_none (by show W.heap.size ≤ 1; omega)] at this
    simp at this
/-- The door's own heap meets the condition. -/
theorem door_met (os : Os) (args : Array Value) : laidMetH Tryd.prog laid2 ((World.doorLaid Tryd.prog 400 os).forCall (fun _ _ => 0) ⟨#[], args, []⟩).memory :=
  laidMetH_of_parts3 (fuel := 8) (laidMet_of_run' 8 (by kernel_rfl) (by kernel_rfl)) (by kernel_rfl) (by kernel_rfl)
end Go.Proofs.YtdklmafkcbjomaaDoor
