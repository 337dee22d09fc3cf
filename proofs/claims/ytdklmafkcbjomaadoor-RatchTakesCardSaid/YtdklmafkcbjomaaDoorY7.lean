/-
  The lower layers, walked and in closed forms, part 7: RatO, RatP, RatR, RowsIn, StructIn, OpenK, RatQ, RatV, RatW, RatX, Ref8, RatY, RatT, RatAd, RatAe.
-/
import Derived.Test.YtdklmafkcbjomaaDoorY0
import Derived.Test.YtdklmafkcbjomaaDoorY1
import Derived.Test.YtdklmafkcbjomaaDoorY6
import Derived.Test.YtdklmafkcbjomaaDoorUSized
import Derived.Test.YtdklmafkcbjomaaDoorUWords
import Derived.Test.YtdklmafkcbjomaaDoorRows
import Derived.Deep.Matrix
import Derived.SizedLaws
import Derived.ChangeArms
import Derived.LaidMore
import Derived.Lib.LaidTab
import Derived.Stop.LaidErr
/-! RatO -/
namespace Go.Proofs.YtdklmafkcbjomaaDoor
set_option linter.unusedVariables false
set_option linter.unusedSimpArgs false
open Go.RowKit Go.Shelf Go.Proofs.YtdklmafkcbjomaaDoorW.PrintWords Go.Proofs.YtdklmafkcbjomaaDoorW.PrintLast Go.Proofs.YtdklmafkcbjomaaDoorW.PrintMore Iter
attribute [local go_sem] Oper.semAt_some
theorem getD43 (L : List R.S43) (i : Nat) (h : i < L.length) : L.getD i R.z43 = L[i] := by
  rw [List.getD_eq_getElem?_getD, List.getElem?_eq_getElem h]
  rfl
theorem sameLs_drop (L M : List R.S43) (k : Nat) (hk : k < L.length) (hk' : k < M.length) : sameLs (L.drop k) (M.drop k) = (sameK (L.getD k R.z43) (M.getD k R.z43) && sameLs (L.drop (k + 1)) (M.drop (k + 1))) := by
  rw [List.drop_eq_getElem_cons hk, List.drop_eq_getElem_cons hk', sameLs, getD43 L k hk, getD43 M k hk']
set_option maxRecDepth 100000 in
set_option maxHeartbeats 2000000 in
theorem equal_calls (A B : Option Addr) (c d : Nat) (L M : List R.S43) (w : World) (hl : L.length ≤ 1000) (hC : Kd.C R.k43 w A L.length L) (hD : Kd.C R.k43 w B M.length M) (oL : locksOk L) (oM : locksOk M) :
    Calls Tryd.prog 35 #[.slice A L.length c, .slice B M.length d, .func (.func 36) #[] #[]] w fun e w' => e = .returned (.bool (sameLs L M)) ∧ Below w.heap.size w w' := by
  by_cases hne : L.length = M.length
  case neg =>
    have d0 : ((L.length : Int) != (M.length : Int)) = true := by simp only [bne_iff_ne, ne_eq, Int.natCast_inj]; exact hne
    rw [sameLs_len L M hne]
    clear hC hD hne oL oM
    go_enter Tryd.func35, Tryd.ntmps35
    go_wp2
    go_ret
    exact ⟨rfl, Below.refl _ _⟩
  have d0 : ((L.length : Int) != (M.length : Int)) = false := by rw [hne]; exact bne_self_eq_false _
  have HK := Lib.hid (And.intro hC (And.intro hD (And.intro oL (And.intro oM (And.intro hne hl)))))
  obtain ⟨z, hz⟩ : ∃ z, M.length = z := ⟨_, rfl⟩
  have HZ := Lib.hid hz
  rw [hz] at d0 ⊢
  clear hC hD oL oM hne hl hz
  go_enter Tryd.func35, Tryd.ntmps35
  go_wp2
  go_loopw [17] (fun i wr => ∃ k : Nat, k ≤ L.length ∧ i = .int .i64 (k : Int) ∧ Hid (sameLs L M = sameLs (L.drop k) (M.drop k)) ∧ Hid (Below w.heap.size w wr)) (fun i _ => L.length - (intOf i).toNat)
  case atStart => exact ⟨0, Nat.zero_le _, rfl, Lib.hid rfl, Lib.hid (Below.refl _ _)⟩
  case round =>
    obtain ⟨k, hk, rfl, HN, HB⟩ := hrel
    by_cases hlt : k < L.length
    · have d0 : decide ((k : Int) < (L.length : Int)) = true := by simp; exact hlt
      have p0 : (0 : Int) ≤ (k : Int) := Int.natCast_nonneg _
      have p1 : (k : Int) < (L.length : Int) := by omega
      have hlt' : k < M.length := by have := HK.out.2.2.2.2.1; omega
      have p2 : (k : Int) < (z : Int) := by have := HZ.out; omega
      have p3 : (k : Int) < (M.length : Int) := by omega
      obtain ⟨ad, A1, c1, A2, c2, rfl, x0, x1, x2, lx1, gx1, lx2, gx2⟩ := R.at_T43 (Kd.C_below HK.out.1 HB.out) (k : Int) p0 p1
      obtain ⟨bd, B1, e1, B2, e2, rfl, y0, y1, y2, ly1, gy1, ly2, gy2⟩ := R.at_T43 (Kd.C_alloc (Kd.C_below HK.out.2.1 HB.out) (Obj.cells #[.int .i64 (R.rd_T43 L (k : Int)).f0, .slice A1 (R.rd_T43 L (k : Int)).f1.length c1, .slice A2 (R.rd_T43 L (k : Int)).f2.length c2] 43)) (k : Int) p0 p3
      have hf : R.rd_T43 L (k : Int) = L.getD k R.z43 := by unfold R.rd_T43; rw [Int.toNat_natCast]
      have hf' : R.rd_T43 M (k : Int) = M.getD k R.z43 := by unfold R.rd_T43; rw [Int.toNat_natCast]
      rw [hf] at x0 x1 x2 lx1 gx1 lx2 gx2 y0 y1 y2 gy1 gy2
      rw [hf'] at y0 y1 y2 ly1 gy1 ly2 gy2
      rw [Int.toNat_natCast] at x0 x1 x2 y0 y1 y2
      have hsm := sameL_own (L.getD k R.z43) (M.getD k R.z43) (by rw [getD43 L k hlt]; exact HK.out.2.2.1 _ (List.getElem_mem hlt)) (by rw [getD43 M k hlt']; exact HK.out.2.2.2.1 _ (List.getElem_mem hlt'))
      have hst := sameLs_drop L M k hlt hlt'
      have HW := Lib.hid (show wrap64 ((k : Int) + 1) = ((k + 1 : Nat) : Int) from by have := HK.out.2.2.2.2.2; unfold wrap64; omega)
      have HM := Lib.hid (show L.length - (intOf (.int .i64 ((k + 1 : Nat) : Int))).toNat < L.length - (intOf (.int .i64 (k : Int))).toNat by simp [intOf]; omega)
      have HS := Lib.hid (And.intro hsm (And.intro hst (And.intro gx1 (And.intro lx1 (And.intro gx2 (And.intro lx2 (And.intro gy1 (And.intro ly1 (And.intro gy2 ly2)))))))))
      clear hf hf' hsm hst gx1 lx1 gx2 lx2 gy1 ly1 gy2 ly2 hlt'
      generalize (L.getD k R.z43).f0 = F0 at *
      generalize (L.getD k R.z43).f1 = F1 at *
      generalize (L.getD k R.z43).f2 = F2 at *
      generalize (M.getD k R.z43).f0 = G0 at *
      generalize (M.getD k R.z43).f1 = G1 at *
      generalize (M.getD k R.z43).f2 = G2 at *
      go_wp2_with fail
      have hb2 : Below wr.heap.size wr ((wr.alloc (Obj.cells #[.int .i64 F0, .slice A1 F1.length c1, .slice A2 F2.length c2] 43)).alloc (Obj.cells #[.int .i64 G0, .slice B1 G1.length e1, .slice B2 G2.length e2] 43)) := ((Below.refl _ wr).alloc (Nat.le_refl _) _).alloc (by simp) _
      refine (R.ratch_sameLock.calls F0 A1 c1 F1 A2 c2 F2 G0 B1 e1 G1 B2 e2 G2 _ _ (Kd.C_below HS.out.2.2.1 hb2) HS.out.2.2.2.1 (Kd.C_below HS.out.2.2.2.2.1 hb2) HS.out.2.2.2.2.2.1 (Kd.C_alloc HS.out.2.2.2.2.2.2.1 _) HS.out.2.2.2.2.2.2.2.1 (Kd.C_alloc HS.out.2.2.2.2.2.2.2.2.1 _) HS.out.2.2.2.2.2.2.2.2.2 HS.out.1).mono ?_
      rintro e W1 ⟨rfl, hb1⟩
      have HB1 := Lib.hid ((HB.out.trans (hb2.mono HB.out.size)).trans (hb1.mono (Nat.le_trans HB.out.size hb2.size)))
      clear hb1 hb2 x0 x1 x2 y0 y1 y2
      obtain ⟨b, hb⟩ : ∃ b, sameK (L.getD k R.z43) (M.getD k R.z43) = b := ⟨_, rfl⟩
      rw [hb] at HS ⊢
      have HT := Lib.hid HS.out.2.1
      clear HS hb
      cases b with
      | false =>
        go_wp2
        go_ret
        exact ⟨by rw [HN.out, HT.out]; rfl, HB1.out⟩
      | true =>
        go_wp2
        refine ⟨⟨k + 1, hlt, by rw [HW.out], Lib.hid (by rw [HN.out, HT.out]; rfl), HB1⟩, by rw [HW.out]; exact HM.out⟩
    · obtain rfl : k = L.length := by omega
      have d0 : decide ((L.length : Int) < (L.length : Int)) = false := by simp
      have hx : sameLs L M = true := by
        have h1 := HK.out.2.2.2.2.1
        rw [HN.out, List.drop_length, h1, List.drop_length]
        rfl
      go_wp2
      go_ret
      exact ⟨by rw [hx]; rfl, HB.out⟩
theorem drawn_below {w w' : World} (h : Drawn0 w w') : Below w.heap.size w w' := by
  obtain ⟨n, rfl⟩ := h.out
  exact pw_below_drewN (Below.refl _ _) n
theorem bytesEqual_some (a b : List Int) (ha : byteOk a = true) (hb : byteOk b = true) : R.bytes_Equal.f a b = some (a == b) := by
  unfold R.bytes_Equal.f
  rw [strOfNums_inj _ _ ha hb]
set_option maxRecDepth 100000 in
set_option maxHeartbeats 2000000 in
theorem same_calls (n n' : Int) (A0 A1 B0 B1 : Option Addr) (c0 c1 d0 d1 : Nat) (s s' : List Int) (L M : List R.S43) (w : World) (os : byteOk s = true) (os' : byteOk s' = true) (oL : locksOk L) (oM : locksOk M) (hl : L.length ≤ 1000)
    (hs : Kd.C (Kd.int .u8) w A0 s.length s) (hc0 : s.length ≤ c0) (hL : Kd.C R.k43 w A1 L.length L) (hs' : Kd.C (Kd.int .u8) w B0 s'.length s') (hd0 : s'.length ≤ d0) (hM : Kd.C R.k43 w B1 M.length M) :
    Calls Tryd.prog 20 #[.agg #[.int .i64 n, .slice A0 s.length c0, .slice A1 L.length c1], .agg #[.int .i64 n', .slice B0 s'.length d0, .slice B1 M.length d1]] w fun e w' => e = .returned (.bool (sameC n s L n' s' M)) ∧ Below w.heap.size w w' := by
  have hb : Below w.heap.size w ((w.alloc (Obj.cells #[.int .i64 n, .slice A0 s.length c0, .slice A1 L.length c1] 25)).alloc (Obj.cells #[.int .i64 n', .slice B0 s'.length d0, .slice B1 M.length d1] 25)) := ((Below.refl _ w).alloc (Nat.le_refl _) _).alloc (by simp) _
  have HB := Lib.hid hb
  have HE := Lib.hid (fun W (hW : Below w.heap.size w W) => equal_calls A1 B1 c1 d1 L M W hl (Kd.C_below hL hW) (Kd.C_below hM hW) oL oM)
  have HQ := Lib.hid (R.bytes_Equal.calls A0 c0 s B0 d0 s' _ _ (Kd.C_below hs hb) hc0 (Kd.C_below hs' hb) hd0 (bytesEqual_some s s' os os'))
  clear hs hs' hL hM hc0 hd0 oL oM hl os os' hb
  by_cases hn : n = n'
  case neg =>
    have e : (n == n') = false := beq_eq_false_iff_ne.mpr hn
    have ec : sameC n s L n' s' M = false := by unfold sameC; rw [decide_eq_false hn]; rfl
    rw [ec]
    clear hn HE HQ ec
    go_enter Tryd.func20, Tryd.ntmps20
    go_wp2
    go_ret
    exact ⟨rfl, HB.out⟩
  have ec : sameC n s L n' s' M = ((s == s') && sameLs L M) := by unfold sameC; rw [decide_eq_true hn]; rfl
  rw [ec]
  subst hn
  have e : (n == n) = true := beq_self_eq_true _
  clear ec
  obtain ⟨b, hbb⟩ : ∃ b, (s == s') = b := ⟨_, rfl⟩
  obtain ⟨b2, hb2⟩ : ∃ b, sameLs L M = b := ⟨_, rfl⟩
  rw [hbb] at HQ ⊢
  rw [hb2] at HE ⊢
  clear hbb hb2
  cases b with
  | false =>
    go_enter Tryd.func20, Tryd.ntmps20
    go_wp2_with fail
    refine HQ.out.mono ?_
    rintro e W1 ⟨rfl, hq0⟩
    have hq := drawn_below hq0
    clear hq0
    go_wp2
    go_ret
    exact ⟨rfl, HB.out.trans (hq.mono HB.out.size)⟩
  | true =>
    go_enter Tryd.func20, Tryd.ntmps20
    go_wp2_with fail
    refine HQ.out.mono ?_
    rintro e W1 ⟨rfl, hq0⟩
    have hq := drawn_below hq0
    clear hq0
    have HB1 := Lib.hid (HB.out.trans (hq.mono HB.out.size))
    have x0 : W1.cell? ⟨w.heap.size, 2, none⟩ = some (.slice A1 L.length c1) := by
      have := ((Blk.new w 25 #[.int .i64 n, .slice A0 s.length c0, .slice A1 L.length c1]).alloc (Obj.cells #[.int .i64 n, .slice B0 s'.length d0, .slice B1 M.length d1] 25))
      exact (this.below hq this.lt).cell 2
    have x1 : W1.cell? ⟨w.heap.size + 1, 2, none⟩ = some (.slice B1 M.length d1) := by
      have := Blk.new (w.alloc (Obj.cells #[.int .i64 n, .slice A0 s.length c0, .slice A1 L.length c1] 25)) 25 #[.int .i64 n, .slice B0 s'.length d0, .slice B1 M.length d1]
      rw [World.size_alloc] at this
      exact (this.below hq this.lt).cell 2
    clear hq
    go_wp2_with fail
    refine (HE.out W1 HB1.out).mono ?_
    rintro e W2 ⟨rfl, hq2⟩
    have HB2 := Lib.hid (HB1.out.trans (hq2.mono HB1.out.size))
    clear hq2
    go_wp2
    go_ret
    exact ⟨rfl, HB2.out⟩
end Go.Proofs.YtdklmafkcbjomaaDoor

/-! RatP -/
namespace Go.Proofs.YtdklmafkcbjomaaDoor
set_option linter.unusedVariables false
set_option linter.unusedSimpArgs false
open Go.RowKit Go.Shelf Go.Proofs.YtdklmafkcbjomaaDoorW.PrintWords Go.Proofs.YtdklmafkcbjomaaDoorW.PrintLast Go.Proofs.YtdklmafkcbjomaaDoorW.PrintMore Iter
attribute [local go_sem] Oper.semAt_some
theorem madeB_eq13 (n : Nat) : madeCells (Value.int IntKind.u8 0).cells (n * 1) = (nums .u8 (List.replicate n 0)).toArray := by
  apply Array.ext
  · simp [madeCells, nums]
  · intro i h1 h2
    simp [madeCells, nums, Value.cells, Nat.mod_one]
theorem madeN13 (n : Nat) (m : Int) (hm : m = (n : Int)) (hn : n ≤ 140737488355328) (W : World) : (Instr.makeSlice 22 (.int .i64 m) (.int .i64 m)).run Tryd.prog W = .ok (.slice (some ⟨W.heap.size, 0, none⟩) n n) (W.alloc (.cells (nums .u8 (List.replicate n 0)).toArray 5)) := by
  subst hm
  obtain ⟨i, hi, hz⟩ := Option.map_eq_some_iff.1 (show (Tryd.prog.info? 5).map (fun i => (i.zero, i.size, i.bytes)) = some (some (.int .u8 0), 1, 1) by kernel_rfl)
  simp only [Prod.mk.injEq] at hz
  obtain ⟨h0, h1, h2⟩ := hz
  have h := run_make (P := Tryd.prog) (w := W) 22 5 i (.int .u8 0) Tryd.underlying22 hi h0 .i64 .i64 (n : Int) (n : Int) (by omega) (by omega) (by rw [h2]; omega) (by omega)
  rw [h1, Int.toNat_natCast, madeB_eq13] at h
  exact h
/-- Two boxes are made. -/
theorem two_boxes (W : World) (cs ds : Array Value) (t t' : TypeId) : Blk ((W.alloc (.cells cs t)).alloc (.cells ds t')) W.heap.size t cs ∧ Blk ((W.alloc (.cells cs t)).alloc (.cells ds t')) (W.heap.size + 1) t' ds ∧ Below W.heap.size W ((W.alloc (.cells cs t)).alloc (.cells ds t')) ∧ ((W.alloc (.cells cs t)).alloc (.cells ds t')).heap.size = W.heap.size + 2 := by
  have b := Blk.new (W.alloc (.cells cs t)) t' ds
  rw [World.size_alloc] at b
  exact ⟨(Blk.new W t cs).alloc _, b, ((Below.refl _ W).alloc (Nat.le_refl _) _).alloc (by simp) _, by simp⟩
theorem takeF_adv (n d : Nat) (s : List Int) (L : List R.S43) (hx : idxL L ((n + d : Nat) : Int) = none) (hd : d ≤ 100) (hm : n + d < 4294967294) : takeF n s L ((n + d : Nat) : Int) = (n + (d + 1), secS s n (d + 1), (L ++ passed s n d).drop (L.length + d - 32), lockN s n d, 0) := by
  have hdd : (((n + d : Nat) : Int) - (n : Int)).toNat = d := by omega
  unfold takeF
  rw [if_neg (by omega), hx]
  dsimp only
  rw [if_neg (by omega), if_neg (by omega), hdd]
theorem lockN_f0 (s : List Int) (n k : Nat) : (lockN s n k).f0 = ((n + k : Nat) : Int) := rfl
theorem lockN_l1 (s : List Int) (n k : Nat) : (lockN s n k).f1.length = 32 := labelOf_length _ _ _ _
theorem lockN_l2 (s : List Int) (n k : Nat) : (lockN s n k).f2.length = 12 := labelOf_length _ _ _ _
theorem lockN_ok (s : List Int) (n k : Nat) : lockOk (lockN s n k) := ⟨byteOk_labelOf _ _ _ _, byteOk_labelOf _ _ _ _⟩
theorem passed_ok (s : List Int) (n k : Nat) : locksOk (passed s n k) := by
  intro x hx
  obtain ⟨j, -, rfl⟩ := List.mem_map.1 hx
  exact lockN_ok s n j
theorem sh_take1 (s : List Int) : takeF 0 s [] 2 = (3, secS s 0 3, [lockN s 0 0, lockN s 0 1], lockN s 0 2, 0) := takeF_adv 0 2 s [] rfl (by decide) (by decide)
theorem sh_take2 (s t : List Int) : takeF 3 t [lockN s 0 0, lockN s 0 1] 0 = (3, t, [lockN s 0 1], lockN s 0 0, 0) := by
  unfold takeF
  rw [if_neg (by decide)]
  have : idxL [lockN s 0 0, lockN s 0 1] 0 = some 0 := by rw [idxL, if_pos (show (lockN s 0 0).f0 = 0 from rfl)]
  rw [this]
  rfl
theorem sh_take3 (s t : List Int) : takeF 3 t [lockN s 0 1] 0 = (3, t, [lockN s 0 1], R.z43, 9) := by
  unfold takeF
  rw [if_neg (by decide)]
  have : idxL [lockN s 0 1] 0 = none := by rw [idxL, if_neg (by rw [lockN_f0]; decide)]; rfl
  rw [this]
  rfl
theorem sh_right (s t : List Int) (h : t.length = 32) : rightC 3 t [lockN s 0 0, lockN s 0 1] = true := by
  unfold rightC
  rw [decide_eq_true h]
  simp only [rises, lockN_f0, lockN_l1, lockN_l2]
  simp
/-- Names for the example's rows. -/
structure ShV where
  s : List Int
  t : List Int
  k0 : R.S43
  k1 : R.S43
  k2 : R.S43
def ShP (v : ShV) : Prop := v.s.length = 32 ∧ byteOk v.s = true ∧ v.t.length = 32 ∧ byteOk v.t = true ∧ takeF 0 v.s [] 2 = (3, v.t, [v.k0, v.k1], v.k2, 0) ∧ takeF 3 v.t [v.k0, v.k1] 0 = (3, v.t, [v.k1], v.k0, 0) ∧ takeF 3 v.t [v.k1] 0 = (3, v.t, [v.k1], R.z43, 9) ∧
  rightC 3 v.t [v.k0, v.k1] = true ∧ v.k0.f0 = 0 ∧ v.k1.f0 = 1 ∧ v.k2.f0 = 2 ∧ v.k2.f1.length = 32 ∧ lockOk v.k0 ∧ lockOk v.k1
theorem shP_of (s : List Int) (h : s.length = 32) (o : byteOk s = true) : ShP ⟨s, secS s 0 3, lockN s 0 0, lockN s 0 1, lockN s 0 2⟩ :=
  ⟨h, o, secS_length s 0 h 3, byteOk_secS s 0 o 3, sh_take1 s, sh_take2 s _, sh_take3 s _, sh_right s _ (secS_length s 0 h 3), lockN_f0 s 0 0, lockN_f0 s 0 1, lockN_f0 s 0 2, lockN_l1 s 0 2, lockN_ok s 0 0, lockN_ok s 0 1⟩
def Z32r : List Int := List.replicate 32 0
set_option maxRecDepth 100000 in
set_option maxHeartbeats 4000000 in
theorem shown13_calls (w : World) (hT : TabOk w) : Calls Tryd.prog 10 #[] w fun e w' => e = .returned (.bool true) ∧ Below w.heap.size w w' := by
  obtain ⟨V, hV⟩ : ∃ V : ShV, ShP V ∧ leafS Z32r 2 1 = V.s := ⟨_, shP_of _ (leafS_length Z32r 2 1) (byteOk_leafS Z32r 2 1), rfl⟩
  have HV := Lib.hid hV
  have HT := Lib.hid hT
  have m32 : Hid (∀ W : World, (Instr.makeSlice 22 (.int .i64 32) (.int .i64 32)).run Tryd.prog W = .ok (.slice (some ⟨W.heap.size, 0, none⟩) 32 32) (W.alloc (.cells (nums .u8 Z32r).toArray 5))) := Lib.hid (madeN13 32 32 rfl (by decide))
  clear hV hT
  go_enter Tryd.func10, Tryd.ntmps10
  go_wp2_with fail
  rw [m32.out]
  have H0 := Lib.hid (And.intro (show Kd.C (Kd.int .u8) (w.alloc (Obj.cells (nums .u8 Z32r).toArray 5)) (some ⟨w.heap.size, 0, none⟩) 32 Z32r from c_lit w 5 Z32r (by decide)) ((Below.refl w.heap.size w).alloc (Nat.le_refl _) (Obj.cells (nums .u8 Z32r).toArray 5)))
  generalize (w.alloc (Obj.cells (nums .u8 Z32r).toArray 5)) = W1 at *
  go_wp2_with fail
  refine (start_calls (some ⟨w.heap.size, 0, none⟩) 32 Z32r 2 1 4 1 rfl rfl W1 (HT.out.below H0.out.2 HT.out.1) (by decide) (by decide) rfl (by decide) H0.out.1 (Nat.le_refl _)).mono ?_
  rw [HV.out.2]
  rintro e W2 ⟨A, c, rfl, hl, hC, hb⟩
  have H1 := Lib.hid (And.intro hl (And.intro hC (And.intro (Kd.C_below H0.out.1 hb) (H0.out.2.trans (hb.mono H0.out.2.size)))))
  clear hl hC hb H0
  go_wp2_with fail
  have b1 := Blk.new W2 25 #[.int .i64 0, .slice A V.s.length c, .slice none 0 0]
  have hb1 : Below W2.heap.size W2 (W2.alloc (Obj.cells #[.int .i64 0, .slice A V.s.length c, .slice none 0 0] 25)) := (Below.refl _ W2).alloc (Nat.le_refl _) _
  have H2 := Lib.hid (And.intro H1.out.1 (And.intro (Kd.C_below H1.out.2.1 hb1) (And.intro (Kd.C_below H1.out.2.2.1 hb1) (And.intro (H1.out.2.2.2.trans (hb1.mono H1.out.2.2.2.size)) b1))))
  generalize W2.alloc (Obj.cells #[.int .i64 0, .slice A V.s.length c, .slice none 0 0] 25) = W3 at *
  obtain ⟨gc, hgc⟩ : ∃ g, W2.heap.size = g := ⟨_, rfl⟩
  rw [hgc] at H2 ⊢
  clear hgc b1 hb1 H1
  refine (take_calls 0 2 A V.s c none [] 0 W3 H2.out.2.1 H2.out.1 (Kd.C_nil _ _) (Nat.le_refl _) HV.out.1.1 HV.out.1.2.1 (by decide) (by decide)).mono ?_
  rw [HV.out.1.2.2.2.2.1]
  rintro e W4 ⟨As, cs, Ap, cp, Ak, ck, An, cn, rfl, q1, q2, q3, q4, q5, q6, q7, q8, hb⟩
  have H3 := Lib.hid (And.intro q1 (And.intro q2 (And.intro q3 (And.intro q4 (And.intro (H2.out.2.2.2.1.trans (hb.mono H2.out.2.2.2.1.size)) (And.intro (H2.out.2.2.2.2.below hb H2.out.2.2.2.2.lt) (And.intro (Kd.C_below H2.out.2.1 hb) (And.intro (Kd.C_below H2.out.2.2.1 hb) H2.out.1))))))))
  clear q1 q2 q3 q4 q5 q6 q7 q8 hb H2
  dsimp only
  generalize hzk : V.k2.f1.length = zk at *
  generalize hzn : V.k2.f2.length = zn at *
  have HZ := Lib.hid hzk
  clear hzk hzn
  rw [show V.k2.f0 = 2 from HV.out.1.2.2.2.2.2.2.2.2.2.2.1]
  go_wp2_with fail
  obtain ⟨r1, r2, r3, r4⟩ := two_boxes W4 #[.int .i64 3, .slice As V.t.length cs, .slice Ap 2 cp] #[.int .i64 2, .slice Ak zk ck, .slice An zn cn] 25 43
  -- s: the rows of c and send; t: those of d
  have G0 := Lib.hid (And.intro H3.out.1 (And.intro (Kd.C_below H3.out.2.1 r3) (And.intro H3.out.2.2.1 (And.intro (Kd.C_below H3.out.2.2.2.1 r3) (And.intro (H3.out.2.2.2.2.1.trans (r3.mono H3.out.2.2.2.2.1.size)) (And.intro (H3.out.2.2.2.2.2.1.below r3 H3.out.2.2.2.2.2.1.lt) (And.intro (Kd.C_below H3.out.2.2.2.2.2.2.1 r3) (And.intro (Kd.C_below H3.out.2.2.2.2.2.2.2.1 r3) (And.intro H3.out.2.2.2.2.2.2.2.2 (And.intro r1 r2))))))))))
  generalize ((W4.alloc (.cells #[.int .i64 3, .slice As V.t.length cs, .slice Ap 2 cp] 25)).alloc (.cells #[.int .i64 2, .slice Ak zk ck, .slice An zn cn] 43)) = W5 at *
  obtain ⟨gd, hgd⟩ : ∃ g, W4.heap.size = g := ⟨_, rfl⟩
  rw [hgd] at G0 ⊢
  clear hgd r1 r2 r3 r4 H3
  refine (take_calls 3 0 As V.t cs Ap [V.k0, V.k1] cp W5 G0.out.2.1 G0.out.1 G0.out.2.2.2.1 G0.out.2.2.1 HV.out.1.2.2.1 HV.out.1.2.2.2.1 (by simp) (by decide)).mono ?_
  rw [HV.out.1.2.2.2.2.2.1]
  rintro e W6 ⟨Bs, es, Bp, ep, Bk, ek, Bn, en, rfl, q1, q2, q3, q4, -, -, -, -, hb⟩
  have G1 := Lib.hid (And.intro q1 (And.intro q2 (And.intro q3 (And.intro q4 (And.intro (G0.out.2.2.2.2.1.trans (hb.mono G0.out.2.2.2.2.1.size)) (And.intro (G0.out.2.2.2.2.2.1.below hb G0.out.2.2.2.2.2.1.lt) (And.intro (Kd.C_below G0.out.2.2.2.2.2.2.1 hb) (And.intro (Kd.C_below G0.out.2.2.2.2.2.2.2.1 hb) (And.intro G0.out.2.2.2.2.2.2.2.2.1 (And.intro (G0.out.2.2.2.2.2.2.2.2.2.1.below hb G0.out.2.2.2.2.2.2.2.2.2.1.lt) (And.intro (G0.out.2.2.2.2.2.2.2.2.2.2.below hb G0.out.2.2.2.2.2.2.2.2.2.2.lt) (And.intro G0.out.1 (And.intro (Kd.C_below G0.out.2.1 hb) (And.intro G0.out.2.2.1 (Kd.C_below G0.out.2.2.2.1 hb)))))))))))))))
  clear q1 q2 q3 q4 hb G0
  dsimp only
  generalize V.k0.f1.length = xk at *
  generalize V.k0.f2.length = xn at *
  rw [show V.k0.f0 = 0 from HV.out.1.2.2.2.2.2.2.2.2.1]
  go_wp2_with fail
  obtain ⟨r1, r2, r3, r4⟩ := two_boxes W6 #[.int .i64 3, .slice Bs V.t.length es, .slice Bp 1 ep] #[.int .i64 0, .slice Bk xk ek, .slice Bn xn en] 25 43
  obtain ⟨p1, p2, p3, p4, p5, p6, p7, p8, p9, p10, p11, p12, p13, p14, p15⟩ := G1.out
  have G2 := Lib.hid (And.intro p1 (And.intro (Kd.C_below p2 r3) (And.intro p3 (And.intro (Kd.C_below p4 r3) (And.intro (p5.trans (r3.mono p5.size)) (And.intro (p6.below r3 p6.lt) (And.intro (Kd.C_below p7 r3) (And.intro (Kd.C_below p8 r3) (And.intro p9 (And.intro (p10.below r3 p10.lt) (And.intro (p11.below r3 p11.lt) (And.intro p12 (And.intro (Kd.C_below p13 r3) (And.intro p14 (And.intro (Kd.C_below p15 r3) (And.intro r1 r2))))))))))))))))
  clear p1 p2 p3 p4 p5 p6 p7 p8 p9 p10 p11 p12 p13 p14 p15 G1
  generalize ((W6.alloc (.cells #[.int .i64 3, .slice Bs V.t.length es, .slice Bp 1 ep] 25)).alloc (.cells #[.int .i64 0, .slice Bk xk ek, .slice Bn xn en] 43)) = W7 at *
  obtain ⟨gx, hgx⟩ : ∃ g, W6.heap.size = g := ⟨_, rfl⟩
  rw [hgx] at G2 ⊢
  clear hgx r1 r2 r3 r4
  refine (take_calls 3 0 Bs V.t es Bp [V.k1] ep W7 G2.out.2.1 G2.out.1 G2.out.2.2.2.1 G2.out.2.2.1 HV.out.1.2.2.1 HV.out.1.2.2.2.1 (by simp) (by decide)).mono ?_
  rw [HV.out.1.2.2.2.2.2.2.1]
  rintro e W8 ⟨Ds, fs, Dp, fp, Dk, fk, Dn, fn, rfl, -, -, -, -, -, -, -, -, hb⟩
  obtain ⟨p1, p2, p3, p4, p5, p6, p7, p8, p9, p10, p11, p12, p13, p14, p15, p16, p17⟩ := G2.out
  have G3 := Lib.hid (And.intro (p5.trans (hb.mono p5.size)) (And.intro (p6.below hb p6.lt) (And.intro (Kd.C_below p7 hb) (And.intro (Kd.C_below p8 hb) (And.intro p9 (And.intro (p10.below hb p10.lt) (And.intro (p11.below hb p11.lt) (And.intro p12 (And.intro (Kd.C_below p13 hb) (And.intro p14 (And.intro (Kd.C_below p15 hb) (And.intro (p16.below hb p16.lt) (p17.below hb p17.lt)))))))))))))
  clear p1 p2 p3 p4 p5 p6 p7 p8 p9 p10 p11 p12 p13 p14 p15 p16 p17 G2 hb
  dsimp only
  rw [show R.z43.f0 = 0 from rfl, show R.z43.f1.length = 0 from rfl, show R.z43.f2.length = 0 from rfl]
  go_wp2_with fail
  obtain ⟨r1, r2, r3, r4⟩ := two_boxes W8 #[.int .i64 3, .slice Ds V.t.length fs, .slice Dp 1 fp] #[.int .i64 0, .slice Dk 0 fk, .slice Dn 0 fn] 25 43
  obtain ⟨p5, p6, p7, p8, p9, p10, p11, p12, p13, p14, p15, p16, p17⟩ := G3.out
  have G4 := Lib.hid (And.intro (p5.trans (r3.mono p5.size)) (And.intro (p6.below r3 p6.lt) (And.intro (Kd.C_below p7 r3) (And.intro (Kd.C_below p8 r3) (And.intro p9 (And.intro (p10.below r3 p10.lt) (And.intro (p11.below r3 p11.lt) (And.intro p12 (And.intro (Kd.C_below p13 r3) (And.intro p14 (And.intro (Kd.C_below p15 r3) (And.intro (p16.below r3 p16.lt) (p17.below r3 p17.lt)))))))))))))
  clear p5 p6 p7 p8 p9 p10 p11 p12 p13 p14 p15 p16 p17 G3
  generalize ((W8.alloc (.cells #[.int .i64 3, .slice Ds V.t.length fs, .slice Dp 1 fp] 25)).alloc (.cells #[.int .i64 0, .slice Dk 0 fk, .slice Dn 0 fn] 43)) = W9 at *
  obtain ⟨gy, hgy⟩ : ∃ g, W8.heap.size = g := ⟨_, rfl⟩
  rw [hgy]
  clear hgy r1 r2 r3 r4
  refine (leaf_calls (some ⟨w.heap.size, 0, none⟩) 32 Z32r 2 1 W9 (HT.out.below G4.out.1 HT.out.1) (by decide) (by decide) rfl (by decide) G4.out.2.2.2.1 (Nat.le_refl _)).mono ?_
  rw [HV.out.2]
  rintro e W10 ⟨v, rfl, hR, hb⟩
  obtain ⟨As', cs', rfl, hls, hCs⟩ := Kd.R_reads hR
  obtain ⟨p5, p6, p7, p8, p9, p10, p11, p12, p13, p14, p15, p16, p17⟩ := G4.out
  have G5 := Lib.hid (And.intro (p5.trans (hb.mono p5.size)) (And.intro (p6.below hb p6.lt) (And.intro (Kd.C_below p7 hb) (And.intro hls (And.intro hCs (And.intro p9 (And.intro (p10.below hb p10.lt) (And.intro (p11.below hb p11.lt) (And.intro p12 (And.intro (Kd.C_below p13 hb) (And.intro p14 (And.intro (Kd.C_below p15 hb) (And.intro (p16.below hb p16.lt) (p17.below hb p17.lt))))))))))))))
  clear p5 p6 p7 p8 p9 p10 p11 p12 p13 p14 p15 p16 p17 G4 hb hR hls hCs
  obtain rfl : 32 = zk := by rw [← HZ.out]; exact HV.out.1.2.2.2.2.2.2.2.2.2.2.2.1.symm
  obtain ⟨hb, bc, hCc, hls, hCs, hlc, bd, bl, hlt, hCt, hlp, hCp, bx, bm⟩ := G5.out
  have c1 : W10.cell? ⟨gc, 1, none⟩ = some (.slice A V.s.length c) := bc.cell 1
  have d0 : W10.cell? ⟨gd, 0, none⟩ = some (.int .i64 3) := bd.cell 0
  have d2 : W10.cell? ⟨gd, 2, none⟩ = some (.slice Ap 2 cp) := bd.cell 2
  have l0 : W10.cell? ⟨gd + 1, 0, none⟩ = some (.int .i64 2) := bl.cell 0
  have l1 : W10.cell? ⟨gd + 1, 1, none⟩ = some (.slice Ak 32 ck) := bl.cell 1
  have x2 : W10.cell? ⟨gx, 2, none⟩ = some (.slice Bp 1 ep) := bx.cell 2
  have m0 : W10.cell? ⟨gx + 1, 0, none⟩ = some (.int .i64 0) := bm.cell 0
  obtain ⟨ad, A1, c1', A2, c2', rfl, y0, -, -, -, -, -, -⟩ := R.at_T43 hCp (0 : Int) (by decide) (by simp)
  obtain ⟨ad', A3, c3', A4, c4', ead, z0, -, -, -, -, -, -⟩ := R.at_T43 hCp (1 : Int) (by decide) (by simp)
  cases ead
  have y0' : W10.cell? (ad.add 0) = some (.int .i64 0) := by
    have := y0
    rw [show (R.rd_T43 [V.k0, V.k1] 0).f0 = 0 from HV.out.1.2.2.2.2.2.2.2.2.1] at this
    exact this
  have z0' : W10.cell? (ad.add 3) = some (.int .i64 1) := by
    have := z0
    rw [show (R.rd_T43 [V.k0, V.k1] 1).f0 = 1 from HV.out.1.2.2.2.2.2.2.2.2.2.1] at this
    exact this
  have y0'' : W10.cell? ad = some (.int .i64 0) := by
    rw [Addr.add_zero'] at y0'
    exact y0'
  have z0'' : W10.cell? ⟨ad.block, ad.off + 3, none⟩ = some (.int .i64 1) := z0'
  clear y0 z0 hb bc hCc hls hCs hlc bd bl hlt hCt hlp hCp bx bm HZ
  go_wp2_with fail
  clear c1 d0 d2 l0 l1 x2 m0 y0' z0' y0'' z0''
  refine (P.pyxref01_Same.calls As' cs' V.s A c V.s true W10 G5.out.2.2.2.2.1 G5.out.2.2.2.1 G5.out.2.2.1 G5.out.2.2.2.2.2.1 (by unfold P.pyxref01_Same.f; rw [if_pos ⟨HV.out.1.2.1, HV.out.1.2.1⟩, beq_self_eq_true])).mono ?_
  rintro e W11 ⟨rfl, hq⟩
  have hb := drawn_below hq
  clear hq
  obtain ⟨q0, bc, hCc, hls, hCs, hlc, bd, bl, hlt, hCt, hlp, hCp, bx, bm⟩ := G5.out
  have G6 := Lib.hid (And.intro (q0.trans (hb.mono q0.size)) (And.intro (bc.below hb bc.lt) (And.intro (Kd.C_below hCc hb) (And.intro hlc (And.intro (bd.below hb bd.lt) (And.intro hlt (And.intro (Kd.C_below hCt hb) (And.intro hlp (Kd.C_below hCp hb)))))))))
  clear q0 bc hCc hls hCs hlc bd bl hlt hCt hlp hCp bx bm hb G5
  have d0 : W11.cell? ⟨gd, 0, none⟩ = some (.int .i64 3) := G6.out.2.2.2.2.1.cell 0
  have d1 : W11.cell? ⟨gd, 1, none⟩ = some (.slice As V.t.length cs) := G6.out.2.2.2.2.1.cell 1
  have d2 : W11.cell? ⟨gd, 2, none⟩ = some (.slice (some ad) 2 cp) := G6.out.2.2.2.2.1.cell 2
  go_wp2_with fail
  clear d0 d1 d2
  refine (R.ratch_Right.calls 40 3 As cs V.t (some ad) cp [V.k0, V.k1] true W11 G6.out.2.2.2.2.2.2.1 G6.out.2.2.2.2.2.1 G6.out.2.2.2.2.2.2.2.2 G6.out.2.2.2.2.2.2.2.1 (by rw [right_some _ _ _ 40 (by decide), HV.out.1.2.2.2.2.2.2.2.1])).mono ?_
  rintro e W12 ⟨rfl, hb⟩
  obtain ⟨q0, bc, hCc, hlc, bd, hlt, hCt, hlp, hCp⟩ := G6.out
  have G7 := Lib.hid (And.intro (q0.trans (hb.mono q0.size)) (And.intro (bc.below hb bc.lt) (And.intro (Kd.C_below hCc hb) (And.intro hlc (And.intro (bd.below hb bd.lt) (And.intro hlt (And.intro (Kd.C_below hCt hb) (And.intro hlp (Kd.C_below hCp hb)))))))))
  clear q0 bc hCc hlc bd hlt hCt hlp hCp hb G6
  have c0 : W12.cell? ⟨gc, 0, none⟩ = some (.int .i64 0) := G7.out.2.1.cell 0
  have c1 : W12.cell? ⟨gc, 1, none⟩ = some (.slice A V.s.length c) := G7.out.2.1.cell 1
  have c2 : W12.cell? ⟨gc, 2, none⟩ = some (.slice none 0 0) := G7.out.2.1.cell 2
  go_wp2_with fail
  clear c0 c1 c2
  refine (same_calls 0 0 A none A none c 0 c 0 V.s V.s [] [] W12 HV.out.1.2.1 HV.out.1.2.1 (fun x hx => by simp at hx) (fun x hx => by simp at hx) (by decide) G7.out.2.2.1 G7.out.2.2.2.1 (Kd.C_nil _ _) G7.out.2.2.1 G7.out.2.2.2.1 (Kd.C_nil _ _)).mono ?_
  rw [sameC_refl]
  rintro e W13 ⟨rfl, hb⟩
  obtain ⟨q0, bc, hCc, hlc, bd, hlt, hCt, hlp, hCp⟩ := G7.out
  have G8 := Lib.hid (And.intro (q0.trans (hb.mono q0.size)) (And.intro (bc.below hb bc.lt) (And.intro (Kd.C_below hCc hb) (And.intro hlc (And.intro (bd.below hb bd.lt) (And.intro hlt (And.intro (Kd.C_below hCt hb) (And.intro hlp (Kd.C_below hCp hb)))))))))
  clear q0 bc hCc hlc bd hlt hCt hlp hCp hb G7
  have c0 : W13.cell? ⟨gc, 0, none⟩ = some (.int .i64 0) := G8.out.2.1.cell 0
  have c1 : W13.cell? ⟨gc, 1, none⟩ = some (.slice A V.s.length c) := G8.out.2.1.cell 1
  have c2 : W13.cell? ⟨gc, 2, none⟩ = some (.slice none 0 0) := G8.out.2.1.cell 2
  have d0 : W13.cell? ⟨gd, 0, none⟩ = some (.int .i64 3) := G8.out.2.2.2.2.1.cell 0
  have d1 : W13.cell? ⟨gd, 1, none⟩ = some (.slice As V.t.length cs) := G8.out.2.2.2.2.1.cell 1
  have d2 : W13.cell? ⟨gd, 2, none⟩ = some (.slice (some ad) 2 cp) := G8.out.2.2.2.2.1.cell 2
  go_wp2_with fail
  clear c0 c1 c2 d0 d1 d2
  refine (same_calls 0 3 A none As (some ad) c 0 cs cp V.s V.t [] [V.k0, V.k1] W13 HV.out.1.2.1 HV.out.1.2.2.2.1 (fun x hx => by simp at hx) (fun x hx => by simp at hx; rcases hx with rfl | rfl; exact HV.out.1.2.2.2.2.2.2.2.2.2.2.2.2.1; exact HV.out.1.2.2.2.2.2.2.2.2.2.2.2.2.2) (by decide) G8.out.2.2.1 G8.out.2.2.2.1 (Kd.C_nil _ _) G8.out.2.2.2.2.2.2.1 G8.out.2.2.2.2.2.1 G8.out.2.2.2.2.2.2.2.2).mono ?_
  rw [show sameC 0 V.s [] 3 V.t [V.k0, V.k1] = false from rfl]
  rintro e W14 ⟨rfl, hb⟩
  go_wp2
  go_ret
  exact ⟨rfl, G8.out.1.trans (hb.mono G8.out.1.size)⟩
end Go.Proofs.YtdklmafkcbjomaaDoor

/-! RatR -/
namespace Go.Proofs.YtdklmafkcbjomaaDoor
set_option linter.unusedVariables false
set_option linter.unusedSimpArgs false
open Go.RowKit Go.Shelf Go.Proofs.YtdklmafkcbjomaaDoorW.PrintWords Go.Proofs.YtdklmafkcbjomaaDoorW.PrintLast Go.Proofs.YtdklmafkcbjomaaDoorW.PrintMore Iter
/-- Locks that rise, each in bounds. -/
def RiseP (n last : Int) (L : List R.S43) : Prop := (∀ x, x ∈ L → last < x.f0 ∧ x.f0 < n ∧ x.f1.length = 32 ∧ x.f2.length = 12) ∧ L.Pairwise (fun a b => a.f0 < b.f0)
theorem rises_iff (n : Int) : ∀ (L : List R.S43) (last : Int), rises n last L = true ↔ RiseP n last L
  | [], last => by simp [rises, RiseP]
  | x :: xs, last => by
    rw [rises]
    simp only [Bool.and_eq_true, decide_eq_true_eq]
    rw [rises_iff n xs x.f0]
    unfold RiseP
    rw [List.pairwise_cons]
    constructor
    · rintro ⟨h1, h2, h3, h4, h5, h6⟩
      refine ⟨fun y hy => ?_, fun y hy => (h5 y hy).1, h6⟩
      rcases List.mem_cons.1 hy with rfl | hy
      · exact ⟨h1, h2, h3, h4⟩
      · have := h5 y hy
        exact ⟨by omega, this.2⟩
    · rintro ⟨h1, h2, h3⟩
      have h0 := h1 x (List.mem_cons_self ..)
      exact ⟨h0.1, h0.2.1, h0.2.2.1, h0.2.2.2, fun y hy => ⟨h2 y hy, (h1 y (List.mem_cons_of_mem _ hy)).2⟩, h3⟩
/-- A right chain. -/
def Good (n : Nat) (s : List Int) (L : List R.S43) : Prop := n ≤ 4294967294 ∧ s.length = 32 ∧ byteOk s = true ∧ L.length ≤ 32 ∧ locksOk L ∧ RiseP (n : Int) (-1) L
theorem good_right {n : Nat} {s : List Int} {L : List R.S43} (h : Good n s L) : rightC (n : Int) s L = true := by
  unfold rightC
  rw [decide_eq_true (p := (0 : Int) ≤ n) (by omega), decide_eq_true (p := (n : Int) ≤ 4294967294) (by have := h.1; omega), decide_eq_true h.2.1, decide_eq_true h.2.2.2.1, (rises_iff _ _ _).2 h.2.2.2.2.2]
  rfl
theorem good_of_right {n : Int} {s : List Int} {L : List R.S43} (h : rightC n s L = true) (os : byteOk s = true) (oL : locksOk L) : ∃ m : Nat, n = (m : Int) ∧ Good m s L := by
  unfold rightC at h
  simp only [Bool.and_eq_true, decide_eq_true_eq] at h
  obtain ⟨h1, h2, h3, h4, h5⟩ := h
  obtain ⟨m, rfl⟩ := Int.eq_ofNat_of_zero_le h1
  exact ⟨m, rfl, by omega, h3, os, h4, oL, (rises_iff _ _ _).1 h5⟩
theorem idxL_none_of (L : List R.S43) (X : Int) (h : ∀ x, x ∈ L → x.f0 ≠ X) : idxL L X = none := by
  refine idxL_none L X (fun j hj => ?_)
  rw [getD43 L j hj]
  exact h _ (List.getElem_mem hj)
theorem good_idx {n : Nat} {s : List Int} {L : List R.S43} (h : Good n s L) (X : Int) (hX : (n : Int) ≤ X ∨ X < 0) : idxL L X = none :=
  idxL_none_of L X (fun x hx e => by have := h.2.2.2.2.2.1 x hx; omega)
/-- Places behind the chain's next one. -/
theorem takeF_next {n : Nat} {s : List Int} {L : List R.S43} (h : Good n s L) (d : Nat) (hd : d ≤ 100) (hm : n + d < 4294967294) : takeF n s L ((n + d : Nat) : Int) = (n + (d + 1), secS s n (d + 1), (L ++ passed s n d).drop (L.length + d - 32), lockN s n d, 0) :=
  takeF_adv n d s L (good_idx h _ (by omega)) hd hm
theorem takeF_far {n : Nat} {s : List Int} {L : List R.S43} (h : Good n s L) (X : Int) (hX : (n : Int) ≤ X) (h4 : X ≤ 4294967294) (hf : 100 < X - (n : Int) ∨ 4294967294 ≤ X) : takeF n s L X = (n, s, L, R.z43, 4) := by
  unfold takeF
  rw [if_neg (by omega), good_idx h X (.inl hX)]
  dsimp only
  rw [if_neg (by omega), if_pos hf]
theorem takeF_out (n : Nat) (s : List Int) (L : List R.S43) (X : Int) (h : X < 0 ∨ 4294967294 < X) : takeF n s L X = (n, s, L, R.z43, 1) := by
  unfold takeF
  rw [if_pos h]
theorem takeF_stale (n : Nat) (s : List Int) (L : List R.S43) (X : Int) (h0 : 0 ≤ X) (h1 : X < (n : Int)) (hn : n ≤ 4294967294) (hi : idxL L X = none) : takeF n s L X = (n, s, L, R.z43, 9) := by
  unfold takeF
  rw [if_neg (by omega), hi]
  dsimp only
  rw [if_pos h1]
theorem takeF_spare (n : Nat) (s : List Int) (L : List R.S43) (X : Int) (k : Nat) (h0 : 0 ≤ X) (h1 : X ≤ 4294967294) (hi : idxL L X = some k) : takeF n s L X = (n, s, L.take k ++ L.drop (k + 1), L.getD k R.z43, 0) := by
  unfold takeF
  rw [if_neg (by omega), hi]
theorem passed_rise (s : List Int) (n d : Nat) : ∀ x, x ∈ passed s n d → ∃ k, k < d ∧ x = lockN s n k := by
  intro x hx
  obtain ⟨k, hk, rfl⟩ := List.mem_map.1 hx
  exact ⟨k, List.mem_range.1 hk, rfl⟩
theorem passed_pair (s : List Int) (n d : Nat) : (passed s n d).Pairwise (fun a b => a.f0 < b.f0) := by
  unfold passed
  rw [List.pairwise_map]
  refine (List.pairwise_lt_range (n := d)).imp (fun {a b} hab => ?_)
  rw [lockN_f0, lockN_f0]
  omega
theorem riseP_sub {n last : Int} {L M : List R.S43} (h : RiseP n last L) (hs : M.Sublist L) : RiseP n last M := ⟨fun x hx => h.1 x (hs.subset hx), h.2.sublist hs⟩
theorem riseP_passed {n d : Nat} {s : List Int} {L : List R.S43} (h : RiseP (n : Int) (-1) L) : RiseP ((n + (d + 1) : Nat) : Int) (-1) (L ++ passed s n d) := by
  refine ⟨fun x hx => ?_, ?_⟩
  · rcases List.mem_append.1 hx with hx | hx
    · have := h.1 x hx
      exact ⟨this.1, by omega, this.2.2⟩
    · obtain ⟨k, hk, rfl⟩ := passed_rise s n d x hx
      rw [lockN_f0, lockN_l1, lockN_l2]
      exact ⟨by omega, by omega, rfl, rfl⟩
  · rw [List.pairwise_append]
    refine ⟨h.2, passed_pair s n d, fun a ha b hb => ?_⟩
    obtain ⟨k, hk, rfl⟩ := passed_rise s n d b hb
    have := h.1 a ha
    rw [lockN_f0]
    omega
theorem locksOk_sub {L M : List R.S43} (h : locksOk L) (hs : M.Sublist L) : locksOk M := fun x hx => h x (hs.subset hx)
theorem locksOk_app {L M : List R.S43} (h : locksOk L) (h' : locksOk M) : locksOk (L ++ M) := fun x hx => by
  rcases List.mem_append.1 hx with hx | hx
  · exact h x hx
  · exact h' x hx
theorem good_next {n : Nat} {s : List Int} {L : List R.S43} (h : Good n s L) (d : Nat) (hm : n + d < 4294967294) : Good (n + (d + 1)) (secS s n (d + 1)) ((L ++ passed s n d).drop (L.length + d - 32)) := by
  refine ⟨by omega, secS_length s n h.2.1 _, byteOk_secS s n h.2.2.1 _, ?_, ?_, ?_⟩
  · rw [List.length_drop, List.length_append, passed_length]
    omega
  · exact locksOk_sub (locksOk_app h.2.2.2.2.1 (passed_ok s n d)) (List.drop_sublist _ _)
  · exact riseP_sub (riseP_passed h.2.2.2.2.2) (List.drop_sublist _ _)
theorem take_drop_sub (L : List R.S43) (k : Nat) : (L.take k ++ L.drop (k + 1)).Sublist L := by
  have : (L.take k ++ L.drop (k + 1)).Sublist (L.take k ++ L.drop k) := by
    refine List.Sublist.append_left ?_ _
    rw [← List.drop_drop]
    exact List.drop_sublist _ _
  rwa [List.take_append_drop] at this
theorem good_spare {n : Nat} {s : List Int} {L : List R.S43} (h : Good n s L) (k : Nat) : Good n s (L.take k ++ L.drop (k + 1)) :=
  ⟨h.1, h.2.1, h.2.2.1, Nat.le_trans (take_drop_sub L k).length_le h.2.2.2.1, locksOk_sub h.2.2.2.2.1 (take_drop_sub L k), riseP_sub h.2.2.2.2.2 (take_drop_sub L k)⟩
theorem lockOk_z : lockOk R.z43 := ⟨rfl, rfl⟩
/-- Take keeps a chain right, and its lock is bytes. -/
theorem good_takeF {n : Nat} {s : List Int} {L : List R.S43} (h : Good n s L) (X : Int) : Good (takeF n s L X).1 (takeF n s L X).2.1 (takeF n s L X).2.2.1 ∧ lockOk (takeF n s L X).2.2.2.1 := by
  by_cases h1 : X < 0 ∨ 4294967294 < X
  · rw [takeF_out n s L X h1]
    exact ⟨h, lockOk_z⟩
  cases hi : idxL L X with
  | some k =>
    rw [takeF_spare n s L X k (by omega) (by omega) hi]
    have hk := (idxL_lt L X k hi).1
    refine ⟨good_spare h k, ?_⟩
    dsimp only
    rw [getD43 L k hk]
    exact h.2.2.2.2.1 _ (List.getElem_mem hk)
  | none =>
    by_cases h2 : X < (n : Int)
    · rw [takeF_stale n s L X (by omega) h2 h.1 hi]
      exact ⟨h, lockOk_z⟩
    · by_cases h3 : 100 < X - (n : Int) ∨ 4294967294 ≤ X
      · rw [takeF_far h X (by omega) (by omega) h3]
        exact ⟨h, lockOk_z⟩
      · obtain ⟨d, hd⟩ : ∃ d : Nat, (X - (n : Int)).toNat = d := ⟨_, rfl⟩
        obtain rfl : X = ((n + d : Nat) : Int) := by omega
        rw [takeF_next h d (by omega) (by omega)]
        exact ⟨good_next h d (by omega), lockN_ok s n d⟩
/-- Take, its numbers spelled as they stand. -/
theorem take_any (n : Nat) (N X : Int) (hN : (n : Int) = N) (As : Option Addr) (s : List Int) (cs : Nat) (Ap : Option Addr) (L : List R.S43) (cp : Nat) (w : World) (n' : Nat) (N' : Int) (s' : List Int) (L' : List R.S43) (x : R.S43) (er : Int)
    (hr : takeF n s L X = (n', s', L', x, er)) (hN' : (n' : Int) = N') (h : Good n s L) (hrs : Kd.C (Kd.int .u8) w As s.length s) (hcs : s.length ≤ cs) (hrp : Kd.C R.k43 w Ap L.length L) (hcp : L.length ≤ cp) :
    Calls Tryd.prog 21 #[.agg #[.int .i64 N, .slice As s.length cs, .slice Ap L.length cp], .int .i64 X] w (TakePost w N' s' L' x er) := by
  subst hN hN'
  have := take_calls n X As s cs Ap L cp w hrs hcs hrp hcp h.2.1 h.2.2.1 h.2.2.2.1 (by have := h.1; omega)
  rw [hr] at this
  exact this
end Go.Proofs.YtdklmafkcbjomaaDoor

/-! StructIn -/
namespace Go.Proofs.YtdklmafkcbjomaaDoor
set_option linter.unusedVariables false
open Go.Deep Go.RowKit Go.ChangeShapes Go.WideShapes Go.Proofs.YtdklmafkcbjomaaDoorW.PrintWords
theorem mapM_each {α β : Type} {f : α → Option β} : ∀ {l : List α} {xs : List β}, l.mapM f = some xs → ∀ (i : Nat) (a : α), l[i]? = some a → ∃ y, xs[i]? = some y ∧ f a = some y
  | [], _, _, i, a, ha => by simp at ha
  | b :: l, xs, h, i, a, ha => by
    rw [List.mapM_cons] at h
    cases hb : f b with
    | none => simp [hb] at h
    | some y =>
      rw [hb] at h
      cases hl : l.mapM f with
      | none => simp [hl] at h
      | some ys =>
        rw [hl] at h
        simp at h
        subst h
        cases i with
        | zero =>
          simp at ha
          subst ha
          exact ⟨y, rfl, hb⟩
        | succ i =>
          obtain ⟨z, hz, hfz⟩ := mapM_each hl i a (by simpa using ha)
          exact ⟨z, by simpa using hz, hfz⟩
end Go.Proofs.YtdklmafkcbjomaaDoor

/-! OpenK -/
namespace Go.Proofs.YtdklmafkcbjomaaDoor
set_option linter.unusedVariables false
open Go.Deep Go.RowKit Go.ChangeShapes Go.WideShapes Go.Proofs.YtdklmafkcbjomaaDoorW.PrintWords
/-- Cells that read as data of the type e are those of a value of the kind d, of which ok holds. -/
def Opens {α : Type} (P : Program) (e : TypeId) (d : Kd α) (ok : α → Prop) : Prop :=
  P.cellsOf e = d.sz ∧ ∀ (H : Type) (enc : TypeId × Value → H) (W : World) (base : Nat) (held : Bool) (fuel : Nat) (cs : List Value) (y : DataW H × List MemPlace),
    DataW.trod enc P W base (fun _ => true) held fuel e cs = some y → ∃ x, d.K W x cs ∧ ok x
theorem opens_int {P : Program} {e : TypeId} {k : IntKind} (he : P.underlying e = some (.int k)) (hc : P.cellsOf e = 1) : Opens P e (Kd.int k) (fun n => (Lit.int k n).wf = true) :=
  ⟨hc, fun H enc W base held fuel cs y h => by
    obtain ⟨n, rfl, -, hw⟩ := DataW.trod_int he h
    exact ⟨n, rfl, hw⟩⟩
theorem mapM_range {β : Type} {f : Nat → Option β} : ∀ (n : Nat) {xs : List β}, (List.range n).mapM f = some xs → ∀ i, i < n → ∃ y, f i = some y := by
  intro n xs h i hi
  obtain ⟨y, -, hy⟩ := mapM_each h i i (by rw [List.getElem?_range hi])
  exact ⟨y, hy⟩
theorem addr_add_add (a : Addr) (m n : Nat) : (a.add m).add n = a.add (m + n) := by
  unfold Addr.add
  by_cases hm : m = 0
  · subst hm; simp
  · by_cases hn : n = 0
    · subst hn; simp
    · rw [if_neg hn, if_neg hm, if_neg (by omega)]
      simp [Nat.add_assoc]
theorem opens_slice {α : Type} {P : Program} {t e : TypeId} {d : Kd α} {ok : α → Prop} (ht : P.underlying t = some (.slice e)) (hc : P.cellsOf t = 1) (hd : Opens P e d ok) : Opens P t (Kd.slice e d) (fun l => l.length ≤ maxLen ∧ ∀ x ∈ l, ok x) :=
  ⟨hc, fun H enc W base held fuel cs y h => by
    cases fuel with
    | zero => simp [DataW.trod] at h
    | succ m =>
      unfold DataW.trod at h
      simp only [ht] at h
      split at h <;> simp_all only [reduceCtorEq, Option.some.injEq, TypeDesc.slice.injEq]
      · exact ⟨[], ⟨none, 0, rfl, Nat.le_refl _, rfl, by simp, fun h => absurd h (by simp)⟩, by simp, fun x hx => by simp at hx⟩
      · rename_i e' a len cap he
        subst he
        split at h
        case isFalse => cases h
        rename_i hb
        obtain ⟨elems, hel, -⟩ := Option.bind_eq_some_iff.1 h
        have each : ∀ i : Fin len, ∃ x, ∃ c, c.length = d.sz ∧ d.K W x c ∧ (∀ j u, c[j]? = some u → W.cell? (a.add (i.1 * d.sz + j)) = some u) ∧ ok x := fun ⟨i, hi⟩ => by
          obtain ⟨y, hy⟩ := mapM_range len hel i hi
          obtain ⟨c, hcs, hy⟩ := Option.bind_eq_some_iff.1 hy
          obtain ⟨x, hK, hok⟩ := hd.2 H enc W base held m c y hy
          rw [hd.1] at hcs
          obtain ⟨h1, h2, h3⟩ := World.cells?_some hcs
          refine ⟨x, c, d.K_len hK, hK, fun j u hj => ?_, hok⟩
          have hlt := (List.getElem?_eq_some_iff.1 hj).1
          rw [← addr_add_add, h3 j (by omega)]
          exact hj
        obtain ⟨f, hf⟩ := Classical.axiomOfChoice each
        refine ⟨List.ofFn f, ⟨some a, cap, by rw [List.length_ofFn], by rw [List.length_ofFn]; exact hb.2.1, rfl, by rw [List.length_ofFn]; have := hb.2; unfold maxLen at this; omega, fun h0 => ⟨a, rfl, fun j p hj => ?_⟩⟩, by rw [List.length_ofFn]; omega, fun x hx => ?_⟩
        · rw [List.getElem?_ofFn] at hj
          split at hj
          case isFalse => cases hj
          rename_i hlt
          obtain rfl := Option.some.inj hj
          obtain ⟨c, h1, h2, h3, -⟩ := hf ⟨j, hlt⟩
          exact ⟨c, h1, h2, h3⟩
        · obtain ⟨i, rfl⟩ := (List.mem_ofFn ..).1 hx
          obtain ⟨c, -, -, -, h4⟩ := hf i
          exact h4⟩
/-- A struct's fields from a place on. -/
def OpensF {α : Type} (P : Program) (fs : List Field) (off : Nat) (d : Kd α) (ok : α → Prop) : Prop :=
  ∀ (H : Type) (enc : TypeId × Value → H) (W : World) (base : Nat) (held : Bool) (fuel : Nat) (cs : List Value), cs.length = off + d.sz →
    (∀ f ∈ fs, ∃ y, DataW.trod enc P W base (fun _ => true) held fuel f.type ((cs.drop f.offset).take (P.cellsOf f.type)) = some y) → ∃ x, d.K W x (cs.drop off) ∧ ok x
theorem opensF_one {α : Type} {P : Program} {f : Field} {off : Nat} {d : Kd α} {ok : α → Prop} (hd : Opens P f.type d ok) (ho : f.offset = off) : OpensF P [f] off d ok := by
  intro H enc W base held fuel cs hl h
  obtain ⟨y, hy⟩ := h f (List.mem_singleton.2 rfl)
  obtain ⟨x, hK, hok⟩ := hd.2 H enc W base held fuel _ y hy
  rw [ho, hd.1, List.take_of_length_le (by rw [List.length_drop]; omega)] at hK
  exact ⟨x, hK, hok⟩
theorem opensF_cons {α β : Type} {P : Program} {f : Field} {fs : List Field} {off n : Nat} {a : Kd α} {b : Kd β} {oka : α → Prop} {okb : β → Prop} (ha : Opens P f.type a oka) (ho : f.offset = off) (hn : off + a.sz = n) (hb : OpensF P fs n b okb) : OpensF P (f :: fs) off (Kd.pair a b) (fun x => oka x.1 ∧ okb x.2) := by
  intro H enc W base held fuel cs hl h
  have hl' : cs.length = off + (a.sz + b.sz) := hl
  obtain ⟨y, hy⟩ := h f (List.mem_cons_self ..)
  obtain ⟨x, hK, hok⟩ := ha.2 H enc W base held fuel _ y hy
  obtain ⟨x', hK', hok'⟩ := hb H enc W base held fuel cs (by omega) (fun g hg => h g (List.mem_cons_of_mem _ hg))
  rw [ho, ha.1] at hK
  refine ⟨(x, x'), ⟨_, _, ?_, hK, hK'⟩, hok, hok'⟩
  rw [← hn, ← List.drop_drop, List.take_append_drop]
theorem opens_struct {α β : Type} {P : Program} {t : TypeId} {fs : Array Field} {d : Kd α} {ok : α → Prop} (ht : P.underlying t = some (.struct fs)) (hc : P.cellsOf t = d.sz) (hd : OpensF P fs.toList 0 d ok) (f : β → α) (g : α → β) (hfg : ∀ x, f (g x) = x) : Opens P t (Kd.iso d f) (fun x => ok (f x)) :=
  ⟨hc, fun H enc W base held fuel cs y h => by
    cases fuel with
    | zero => simp [DataW.trod] at h
    | succ m =>
      unfold DataW.trod at h
      simp only [ht] at h
      by_cases hl : cs.length = P.cellsOf t
      case neg => rw [if_neg hl] at h; cases h
      rw [if_pos hl] at h
      obtain ⟨xs, hxs, -⟩ := Option.map_eq_some_iff.1 h
      obtain ⟨x, hK, hok⟩ := hd H enc W base held m cs (by rw [hl, hc, Nat.zero_add]) (fun f hf => mapM_all hxs f hf)
      rw [List.drop_zero] at hK
      exact ⟨g x, show d.K W (f (g x)) cs by rw [hfg]; exact hK, show ok (f (g x)) by rw [hfg]; exact hok⟩⟩
/-- An argument. -/
theorem Opens.arg {α : Type} {P : Program} {t : TypeId} {d : Kd α} {ok : α → Prop} (h : Opens P t d ok) {H : Type} {enc : TypeId × Value → H} {W : World} {base : Nat} {held : Bool} {v : Value} {x : DataW H} {ps : List MemPlace} (hv : DataW.Trod enc P W base (fun _ => true) held t v x ps) : ∃ z, d.K W z v.cells.toList ∧ ok z := by
  obtain ⟨fuel, hf⟩ := hv
  exact h.2 H enc W base held fuel _ _ hf
end Go.Proofs.YtdklmafkcbjomaaDoor

/-! RatQ -/
namespace Go.Proofs.YtdklmafkcbjomaaDoor
set_option linter.unusedVariables false
set_option linter.unusedSimpArgs false
open Go.RowKit Go.ChangeShapes Go.WideShapes Go.Proofs.YtdklmafkcbjomaaDoorW.PrintWords Go.Proofs.YtdklmafkcbjomaaDoorW.PrintLast Go.Proofs.YtdklmafkcbjomaaDoorW.PrintMore
theorem Opens.imp {α : Type} {P : Program} {e : TypeId} {d : Kd α} {ok ok' : α → Prop} (h : Opens P e d ok) (hi : ∀ x, ok x → ok' x) : Opens P e d ok' :=
  ⟨h.1, fun H enc W base held fuel cs y hy => by
    obtain ⟨x, hK, hok⟩ := h.2 H enc W base held fuel cs y hy
    exact ⟨x, hK, hi x hok⟩⟩
theorem i64_wf (n : Int) (h : (Lit.int .i64 n).wf = true) : -9223372036854775808 ≤ n ∧ n < 9223372036854775808 := by
  simp [Lit.wf, show IntKind.i64.min = -9223372036854775808 from rfl, show IntKind.i64.max = 9223372036854775807 from rfl] at h
  omega
theorem open_int64 : Opens Tryd.prog 3 (Kd.int .i64) (fun n => -9223372036854775808 ≤ n ∧ n < 9223372036854775808) := (opens_int Tryd.underlying3 (by kernel_rfl)).imp i64_wf
theorem open_bytes : Opens Tryd.prog 22 (Kd.slice 5 (Kd.int .u8)) (fun l => byteOk l = true) :=
  (opens_slice Tryd.underlying22 (by kernel_rfl) (opens_int Tryd.underlying5 (by kernel_rfl))).imp (fun l h => byteOk_of_wf l h.2)
theorem open_lock : Opens Tryd.prog 43 R.k43 lockOk :=
  (opens_struct Tryd.underlying43 (by kernel_rfl) (opensF_cons open_int64 rfl rfl (opensF_cons open_bytes rfl rfl (opensF_one open_bytes rfl))) (fun x : R.S43 => (x.f0, x.f1, x.f2)) (fun p => ⟨p.1, p.2.1, p.2.2⟩) (fun x => rfl)).imp (fun x h => ⟨h.2.1, h.2.2⟩)
theorem open_locks : Opens Tryd.prog 23 (Kd.slice 43 R.k43) (fun L => L.length ≤ 9223372036854775807 ∧ locksOk L) :=
  (opens_slice Tryd.underlying23 (by kernel_rfl) open_lock).imp (fun L h => ⟨by have := h.1; unfold maxLen at this; omega, h.2⟩)
structure ChainK where
  n : Int
  s : List Int
  L : List R.S43
def chainK : Kd ChainK := Kd.iso (Kd.pair (Kd.int .i64) (Kd.pair (Kd.slice 5 (Kd.int .u8)) (Kd.slice 43 R.k43))) (fun x : ChainK => (x.n, x.s, x.L))
def chainOk (c : ChainK) : Prop := (-9223372036854775808 ≤ c.n ∧ c.n < 9223372036854775808) ∧ byteOk c.s = true ∧ locksOk c.L
theorem open_chain : Opens Tryd.prog 25 chainK chainOk :=
  (opens_struct Tryd.underlying25 (by kernel_rfl) (opensF_cons open_int64 rfl rfl (opensF_cons open_bytes rfl rfl (opensF_one open_locks rfl))) (fun x : ChainK => (x.n, x.s, x.L)) (fun p => ⟨p.1, p.2.1, p.2.2⟩) (fun x => rfl)).imp (fun x h => ⟨h.1, h.2.1, h.2.2.2⟩)
theorem chain_open {w : World} {x : ChainK} {cs : List Value} (h : chainK.K w x cs) : ∃ A c B d, cs = [.int .i64 x.n, .slice A x.s.length c, .slice B x.L.length d] ∧ x.s.length ≤ c ∧ Kd.C (Kd.int .u8) w A x.s.length x.s ∧ x.L.length ≤ d ∧ Kd.C R.k43 w B x.L.length x.L := by
  obtain ⟨_, _, rfl, rfl, ⟨_, _, rfl, ⟨A, c, rfl, l1, g1⟩, ⟨B, d, rfl, l2, g2⟩⟩⟩ := h
  exact ⟨A, c, B, d, rfl, l1, g1, l2, g2⟩
def laid2 : List (String × DataW Unit) := [("math/bits.deBruijn32tab", Rows.laid_math_bits_deBruijn32tab), ("math/bits.deBruijn64tab", Rows.laid_math_bits_deBruijn64tab)]
theorem g64 : Tryd.prog.globalNamed "math/bits.deBruijn64tab" = some 1 := by kernel_rfl
theorem t64 : (Tryd.prog.globals[1]?).map (·.type) = some 117 := by kernel_rfl
theorem laid64_eq : (Rows.laid_math_bits_deBruijn64tab : DataW Unit) = Lib.tabData .u8 deB := by rfl
theorem tabOk_of_laid {W : World} (h : laidMetH Tryd.prog laid2 W) : TabOk W := by
  rw [MakeChecks.laidMetH_plain _ _ _ (by kernel_rfl)] at h
  have h1 := laidMet.tail h
  rw [laid64_eq] at h1
  have ht := Lib.tabIs_of_head g64 t64 Tryd.underlying117 Tryd.underlying5 (by kernel_rfl) (by kernel_rfl) h1
  have hc : ∀ i, i < 64 → W.cell? ⟨1, i, none⟩ = some (.int .u8 (deB.getD i 0)) := fun i hi => ht.cell g64 i hi
  refine ⟨?_, hc⟩
  have := hc 0 (by decide)
  unfold World.cell? at this
  by_cases hlt : 1 < W.heap.size
  · omega
  · rw [Array.getElem?_eq_none (by show W.heap.size ≤ 1; omega)] at this
    simp at this
/-- The door's own heap meets the condition. -/
theorem door_met (os : Os) (args : Array Value) : laidMetH Tryd.prog laid2 ((World.doorLaid Tryd.prog 400 os).forCall (fun _ _ => 0) ⟨#[], args, []⟩).memory :=
  laidMetH_of_parts3 (fuel := 8) (laidMet_of_run' 8 (by kernel_rfl) (by kernel_rfl)) (by kernel_rfl) (by kernel_rfl)
end Go.Proofs.YtdklmafkcbjomaaDoor

/-! RatV -/
namespace Go.Proofs.YtdklmafkcbjomaaDoor
set_option linter.unusedVariables false
set_option linter.unusedSimpArgs false
open Go.RowKit Go.Shelf Go.Proofs.YtdklmafkcbjomaaDoorW.PrintWords Go.Proofs.YtdklmafkcbjomaaDoorW.PrintLast Go.Proofs.YtdklmafkcbjomaaDoorW.PrintMore Iter
attribute [local go_sem] Oper.semAt_some
/-- Two boxes are written. -/
theorem fin6g (m ga gb : Nat) (hne : ga ≠ gb) (hma : m ≤ ga) (hmb : m ≤ gb) (t2 t3 : TypeId) (a0 a1 a2 b0 b1 b2 : Value) (W' : World) (h2 : Blk W' ga t2 #[a0, a1, a2]) (h3 : Blk W' gb t3 #[b0, b1, b2]) (u0 u1 u2 v0 v1 v2 : Value) (W2 : World)
    (hW : W2 = (((((W'.setCell ⟨ga, 0, none⟩ u0).setCell ⟨ga, 1, none⟩ u1).setCell ⟨ga, 2, none⟩ u2).setCell ⟨gb, 0, none⟩ v0).setCell ⟨gb, 1, none⟩ v1).setCell ⟨gb, 2, none⟩ v2) :
    Blk W2 ga t2 #[u0, u1, u2] ∧ Blk W2 gb t3 #[v0, v1, v2] ∧ (∀ b, b ≠ ga → b ≠ gb → W2.heap[b]? = W'.heap[b]?) ∧ Below m W' W2 := by
  have hs1 := heap_set3 W' ga u0 u1 u2
  have hV : Blk (((W'.setCell ⟨ga, 0, none⟩ u0).setCell ⟨ga, 1, none⟩ u1).setCell ⟨ga, 2, none⟩ u2) ga t2 #[u0, u1, u2] := ((h2.set_ 0 u0).set_ 1 u1).set_ 2 u2
  have h3 : Blk (((W'.setCell ⟨ga, 0, none⟩ u0).setCell ⟨ga, 1, none⟩ u1).setCell ⟨ga, 2, none⟩ u2) gb t3 #[b0, b1, b2] := (hs1 gb (fun e => hne e.symm)).trans h3
  have hb : Below m W' (((W'.setCell ⟨ga, 0, none⟩ u0).setCell ⟨ga, 1, none⟩ u1).setCell ⟨ga, 2, none⟩ u2) := (((Below.refl m W').setCell (p := ⟨ga, 0, none⟩) hma u0).setCell (p := ⟨ga, 1, none⟩) hma u1).setCell (p := ⟨ga, 2, none⟩) hma u2
  generalize ((W'.setCell ⟨ga, 0, none⟩ u0).setCell ⟨ga, 1, none⟩ u1).setCell ⟨ga, 2, none⟩ u2 = V at *
  have hs2 := heap_set3 V gb v0 v1 v2
  have h4 : Blk (((V.setCell ⟨gb, 0, none⟩ v0).setCell ⟨gb, 1, none⟩ v1).setCell ⟨gb, 2, none⟩ v2) gb t3 #[v0, v1, v2] := ((h3.set_ 0 v0).set_ 1 v1).set_ 2 v2
  have hb2 : Below m W' (((V.setCell ⟨gb, 0, none⟩ v0).setCell ⟨gb, 1, none⟩ v1).setCell ⟨gb, 2, none⟩ v2) := ((hb.setCell (p := ⟨gb, 0, none⟩) hmb v0).setCell (p := ⟨gb, 1, none⟩) hmb v1).setCell (p := ⟨gb, 2, none⟩) hmb v2
  subst hW
  exact ⟨(hs2 ga hne).trans hV, h4, fun b h2 h3 => (hs2 b h3).trans (hs1 b h2), hb2⟩
/-- What pyxref13.Take holds in its boxes. -/
def RefB (w : World) (C : Array Value) (W : World) : Prop :=
  Blk W w.heap.size 25 C ∧ Blk W (w.heap.size + 1) 25 chain0 ∧ Blk W (w.heap.size + 2) 43 chain0 ∧ Below w.heap.size w W
def refW (w : World) (C : Array Value) : World := ((w.alloc (.cells C 25)).alloc (.cells chain0 25)).alloc (.cells chain0 43)
theorem refB_start (w : World) (C : Array Value) : RefB w C (refW w C) := by
  unfold refW
  have b0 := ((Blk.new w 25 C).alloc (.cells chain0 25)).alloc (.cells chain0 43)
  have b1 := (Blk.new (w.alloc (.cells C 25)) 25 chain0).alloc (.cells chain0 43)
  have b2 := Blk.new ((w.alloc (.cells C 25)).alloc (.cells chain0 25)) 43 chain0
  simp only [World.size_alloc] at b0 b1 b2
  exact ⟨b0, b1, b2, (((Below.refl _ w).alloc (Nat.le_refl _) _).alloc (by simp) _).alloc (by simp; omega) _⟩
theorem RefB.below {w : World} {C : Array Value} {W W' : World} (h : RefB w C W) (hb : Below W.heap.size W W') : RefB w C W' :=
  ⟨h.1.below hb h.1.lt, h.2.1.below hb h.2.1.lt, h.2.2.1.below hb h.2.2.1.lt, h.2.2.2.trans (hb.mono h.2.2.2.size)⟩
set_option maxRecDepth 100000 in
theorem refTake_ret {R : Ending → World → Prop} (W2 : World) (g : Nat) (c0 c1 c2 d0 d1 d2 u : Value) (tmps : Array Value)
    (h : Blk W2 (g + 1) 25 #[c0, c1, c2] ∧ Blk W2 (g + 2) 43 #[d0, d1, d2] ∧ R (.returned (.tuple #[.agg #[c0, c1, c2], .agg #[d0, d1, d2], u])) W2)
    (t4 : tmps.getD 4 undef = .pointer (some ⟨g + 1, 0, none⟩)) (t5 : tmps.getD 5 undef = .pointer (some ⟨g + 2, 0, none⟩)) (t6 : tmps.getD 6 undef = u) :
    bodyPost Tryd.prog Tryd.f22 R .ret { tmps := tmps, defers := [] } W2 :=
  bodyPost_ret (results_cells_tmp (p := 4) (p2 := 5) (u := 6) rfl tmps _ (g + 1) _ _ _ _ t4 h.1 rfl rfl rfl (g + 2) _ _ _ _ t5 h.2.1 rfl rfl rfl) rfl (by rw [t6]; exact h.2.2)
theorem ref_err_post (w W1 W2 : World) (n er : Int) (As : Option Addr) (s : List Int) (cs : Nat) (Ap : Option Addr) (L : List R.S43) (cp : Nat) (hrs : Kd.C (Kd.int .u8) w As s.length s) (hcs : s.length ≤ cs) (hrp : Kd.C R.k43 w Ap L.length L) (hcp : L.length ≤ cp)
    (C : Array Value) (hB : RefB w C W1)
    (hW : W2 = (((((W1.setCell ⟨w.heap.size + 1, 0, none⟩ (.int .i64 n)).setCell ⟨w.heap.size + 1, 1, none⟩ (.slice As s.length cs)).setCell ⟨w.heap.size + 1, 2, none⟩ (.slice Ap L.length cp)).setCell ⟨w.heap.size + 2, 0, none⟩ (.int .i64 0)).setCell ⟨w.heap.size + 2, 1, none⟩ (.slice none 0 0)).setCell ⟨w.heap.size + 2, 2, none⟩ (.slice none 0 0)) :
    Blk W2 (w.heap.size + 1) 25 #[.int .i64 n, .slice As s.length cs, .slice Ap L.length cp] ∧ Blk W2 (w.heap.size + 2) 43 #[.int .i64 0, .slice none 0 0, .slice none 0 0] ∧
    TakePost w n s L R.z43 er (.returned (.tuple #[.agg #[.int .i64 n, .slice As s.length cs, .slice Ap L.length cp], .agg #[.int .i64 0, .slice none 0 0, .slice none 0 0], .int .i64 er])) W2 := by
  obtain ⟨f1, f2, f3, f4⟩ := fin6g w.heap.size (w.heap.size + 1) (w.heap.size + 2) (by omega) (by omega) (by omega) _ _ _ _ _ _ _ _ W1 hB.2.1 hB.2.2.1 _ _ _ _ _ _ W2 hW
  have hb : Below w.heap.size w W2 := hB.2.2.2.trans f4
  exact ⟨f1, f2, As, cs, Ap, cp, none, 0, none, 0, rfl, hcs, Kd.C_below hrs hb, hcp, Kd.C_below hrp hb, Nat.le_refl _, ⟨rfl, by decide, fun h => absurd h (by decide)⟩, Nat.le_refl _, ⟨rfl, by decide, fun h => absurd h (by decide)⟩, hb⟩
set_option maxRecDepth 100000 in
set_option maxHeartbeats 2000000 in
theorem refTake_out (n X : Int) (As : Option Addr) (s : List Int) (cs : Nat) (Ap : Option Addr) (L : List R.S43) (cp : Nat) (w : World) (hrs : Kd.C (Kd.int .u8) w As s.length s) (hcs : s.length ≤ cs) (hrp : Kd.C R.k43 w Ap L.length L) (hcp : L.length ≤ cp) (h : X < 0 ∨ 4294967294 < X) :
    Calls Tryd.prog 22 #[.agg #[.int .i64 n, .slice As s.length cs, .slice Ap L.length cp], .int .i64 X] w (TakePost w n s L R.z43 1) := by
  have HP := Lib.hid (fun W1 W2 hB hW => ref_err_post w W1 W2 n 1 As s cs Ap L cp hrs hcs hrp hcp #[.int .i64 n, .slice As s.length cs, .slice Ap L.length cp] hB hW)
  have HB := Lib.hid (refB_start w #[.int .i64 n, .slice As s.length cs, .slice Ap L.length cp])
  clear hrs hcs hrp hcp
  have hd : decide (X < 0) = true ∨ decide (X < 0) = false ∧ decide (4294967294 < X) = true := by
    by_cases h0 : X < 0
    · exact .inl (decide_eq_true h0)
    · exact .inr ⟨decide_eq_false h0, decide_eq_true (by omega)⟩
  rcases hd with d0 | ⟨d0, d1⟩
  all_goals
    clear h
    go_enter Tryd.func22, Tryd.ntmps22
    go_upto_region 2 with fail
    change Code.wp _ _ _ _ (refW w #[.int .i64 n, .slice As s.length cs, .slice Ap L.length cp])
    generalize refW w #[.int .i64 n, .slice As s.length cs, .slice Ap L.length cp] = W1 at *
    have HPP := Lib.hid (fun W2 hW => HP.out W1 W2 HB.out hW)
    clear HP
    have c0 := HB.out.1.cell 0
    have c1 := HB.out.1.cell 1
    have c2 := HB.out.1.cell 2
    have k0 := HB.out.2.1.cell 0
    have k1 := HB.out.2.1.cell 1
    have k2 := HB.out.2.1.cell 2
    have l0 := HB.out.2.2.1.cell 0
    have l1 := HB.out.2.2.1.cell 1
    have l2 := HB.out.2.2.1.cell 2
    have r0 := HB.out.2.1.frozen 0
    have r1 := HB.out.2.1.frozen 1
    have r2 := HB.out.2.1.frozen 2
    have s0 := HB.out.2.2.1.frozen 0
    have s1 := HB.out.2.2.1.frozen 1
    have s2 := HB.out.2.2.1.frozen 2
    unfold chain0 at k0 k1 k2 l0 l1 l2
    simp only [List.getElem?_toArray, List.getElem?_cons_succ, List.getElem?_cons_zero] at c0 c1 c2 k0 k1 k2 l0 l1 l2
    clear HB
    go_wp2
    exact refTake_ret _ w.heap.size _ _ _ _ _ _ _ _ (HPP.out _ rfl) rfl rfl rfl
end Go.Proofs.YtdklmafkcbjomaaDoor

/-! RatW -/
namespace Go.Proofs.YtdklmafkcbjomaaDoor
set_option linter.unusedVariables false
set_option linter.unusedSimpArgs false
open Go.RowKit Go.Shelf Go.Proofs.YtdklmafkcbjomaaDoorW.PrintWords Go.Proofs.YtdklmafkcbjomaaDoorW.PrintLast Go.Proofs.YtdklmafkcbjomaaDoorW.PrintMore Iter
attribute [local go_sem] Oper.semAt_some
set_option maxRecDepth 100000 in
set_option maxHeartbeats 2000000 in
theorem refTake_stale (n X : Int) (As : Option Addr) (s : List Int) (cs : Nat) (Ap : Option Addr) (L : List R.S43) (cp : Nat) (w : World) (hrs : Kd.C (Kd.int .u8) w As s.length s) (hcs : s.length ≤ cs) (hrp : Kd.C R.k43 w Ap L.length L) (hcp : L.length ≤ cp) (hL : L.length ≤ 1000) (h0 : 0 ≤ X) (h1 : X ≤ 4294967294) (hx : ∀ j, j < L.length → (L.getD j R.z43).f0 ≠ X) (h2 : X < n) :
    Calls Tryd.prog 22 #[.agg #[.int .i64 n, .slice As s.length cs, .slice Ap L.length cp], .int .i64 X] w (TakePost w n s L R.z43 9) := by
  have HR := Lib.hid (fun W1 W2 hB hW => ref_err_post w W1 W2 n 9 As s cs Ap L cp hrs hcs hrp hcp #[.int .i64 n, .slice As s.length cs, .slice Ap L.length cp] hB hW)
  have HN := Lib.hid hx
  have d2 : decide (X < n) = true := decide_eq_true h2
  clear h2
  clear hx
  have HB := Lib.hid (refB_start w #[.int .i64 n, .slice As s.length cs, .slice Ap L.length cp])
  have HX := Lib.hid (And.intro hrs (And.intro hcs (And.intro hrp (And.intro hcp hL))))
  have d0 : decide (X < 0) = false := by rw [decide_eq_false_iff_not]; omega
  have d1 : decide (4294967294 < X) = false := by rw [decide_eq_false_iff_not]; omega
  clear hrs hcs hrp hcp hL h0 h1
  go_enter Tryd.func22, Tryd.ntmps22
  go_upto_region 3 with fail
  change Code.wp _ _ _ _ (refW w #[.int .i64 n, .slice As s.length cs, .slice Ap L.length cp])
  generalize refW w #[.int .i64 n, .slice As s.length cs, .slice Ap L.length cp] = W1 at *
  have HP := Lib.hid (Kd.C_below HX.out.2.2.1 HB.out.2.2.2)
  have c2 : W1.cell? ⟨w.heap.size, 2, none⟩ = some (.slice Ap L.length cp) := HB.out.1.cell 2
  go_wp2
  go_loop [7] (fun i => ∃ k : Nat, k ≤ L.length ∧ i = .int .i64 (k : Int)) (fun i => L.length - (intOf i).toNat)
  case atStart => exact ⟨0, Nat.zero_le _, rfl⟩
  case round =>
    obtain ⟨k, hk, rfl⟩ := hrel
    have k0 : (0 : Int) ≤ (k : Int) := Int.natCast_nonneg _
    by_cases hlt : k < L.length
    · have e1 : decide ((k : Int) < (L.length : Int)) = true := by simp; omega
      have e2 : (k : Int) < (L.length : Int) := by omega
      obtain ⟨ad, A1, c1, A2, c2', rfl, x0, -, -, -, -, -, -⟩ := R.at_T43 HP.out (k : Int) k0 e2
      have hf : R.rd_T43 L (k : Int) = L.getD k R.z43 := by unfold R.rd_T43; rw [Int.toNat_natCast]
      rw [hf, Int.toNat_natCast] at x0
      have hne := HN.out k hlt
      obtain ⟨Fk, hFk⟩ : ∃ f, (L.getD k R.z43).f0 = f := ⟨_, rfl⟩
      rw [hFk] at x0 hne
      have e3 : (Fk == X) = false := beq_eq_false_iff_ne.mpr hne
      have hk9 : k < 1000 := by have := HX.out.2.2.2.2; omega
      have HM := Lib.hid (show L.length - (intOf (.int .i64 ((k : Int) + 1))).toNat < L.length - (intOf (.int .i64 (k : Int))).toNat by simp [intOf]; omega)
      clear hFk hf hne
      go_wp2
      exact ⟨⟨k + 1, by omega, by go_num⟩, HM.out⟩
    · obtain rfl : k = L.length := by omega
      have e1 : decide ((L.length : Int) < (L.length : Int)) = false := by simp
      have c0 : W1.cell? ⟨w.heap.size, 0, none⟩ = some (.int .i64 n) := HB.out.1.cell 0
      have c1 : W1.cell? ⟨w.heap.size, 1, none⟩ = some (.slice As s.length cs) := HB.out.1.cell 1
      have q0 : W1.cell? ⟨w.heap.size + 1, 0, none⟩ = some (.int .i64 0) := (HB.out.2.1).cell 0
      have fq0 : W1.frozen? ⟨w.heap.size + 1, 0, none⟩ = false := (HB.out.2.1).frozen 0
      have q1 : W1.cell? ⟨w.heap.size + 1, 1, none⟩ = some (.slice none 0 0) := (HB.out.2.1).cell 1
      have fq1 : W1.frozen? ⟨w.heap.size + 1, 1, none⟩ = false := (HB.out.2.1).frozen 1
      have q2 : W1.cell? ⟨w.heap.size + 1, 2, none⟩ = some (.slice none 0 0) := (HB.out.2.1).cell 2
      have fq2 : W1.frozen? ⟨w.heap.size + 1, 2, none⟩ = false := (HB.out.2.1).frozen 2
      have l0 : W1.cell? ⟨w.heap.size + 2, 0, none⟩ = some (.int .i64 0) := (HB.out.2.2.1).cell 0
      have fl0 : W1.frozen? ⟨w.heap.size + 2, 0, none⟩ = false := (HB.out.2.2.1).frozen 0
      have l1 : W1.cell? ⟨w.heap.size + 2, 1, none⟩ = some (.slice none 0 0) := (HB.out.2.2.1).cell 1
      have fl1 : W1.frozen? ⟨w.heap.size + 2, 1, none⟩ = false := (HB.out.2.2.1).frozen 1
      have l2 : W1.cell? ⟨w.heap.size + 2, 2, none⟩ = some (.slice none 0 0) := (HB.out.2.2.1).cell 2
      have fl2 : W1.frozen? ⟨w.heap.size + 2, 2, none⟩ = false := (HB.out.2.2.1).frozen 2
      have HPP := Lib.hid (fun W2 hW => HR.out W1 W2 HB.out hW)
      clear hk k0
      go_wp2
      exact refTake_ret _ w.heap.size _ _ _ _ _ _ _ _ (HPP.out _ rfl) rfl rfl rfl
set_option maxRecDepth 100000 in
set_option maxHeartbeats 2000000 in
theorem refTake_far (n X : Int) (As : Option Addr) (s : List Int) (cs : Nat) (Ap : Option Addr) (L : List R.S43) (cp : Nat) (w : World) (hrs : Kd.C (Kd.int .u8) w As s.length s) (hcs : s.length ≤ cs) (hrp : Kd.C R.k43 w Ap L.length L) (hcp : L.length ≤ cp) (hL : L.length ≤ 1000) (h0 : 0 ≤ X) (h1 : X ≤ 4294967294) (hx : ∀ j, j < L.length → (L.getD j R.z43).f0 ≠ X) (h2 : n ≤ X) (h3 : 0 ≤ n) (h4 : 100 < X - n) :
    Calls Tryd.prog 22 #[.agg #[.int .i64 n, .slice As s.length cs, .slice Ap L.length cp], .int .i64 X] w (TakePost w n s L R.z43 4) := by
  have HR := Lib.hid (fun W1 W2 hB hW => ref_err_post w W1 W2 n 4 As s cs Ap L cp hrs hcs hrp hcp #[.int .i64 n, .slice As s.length cs, .slice Ap L.length cp] hB hW)
  have HN := Lib.hid hx
  have d2 : decide (X < n) = false := by rw [decide_eq_false_iff_not]; omega
  have d3 : wrap64 (X - n) = X - n := by unfold wrap64; omega
  have d4 : decide (100 < X - n) = true := decide_eq_true h4
  clear h2 h3 h4
  clear hx
  have HB := Lib.hid (refB_start w #[.int .i64 n, .slice As s.length cs, .slice Ap L.length cp])
  have HX := Lib.hid (And.intro hrs (And.intro hcs (And.intro hrp (And.intro hcp hL))))
  have d0 : decide (X < 0) = false := by rw [decide_eq_false_iff_not]; omega
  have d1 : decide (4294967294 < X) = false := by rw [decide_eq_false_iff_not]; omega
  clear hrs hcs hrp hcp hL h0 h1
  go_enter Tryd.func22, Tryd.ntmps22
  go_upto_region 3 with fail
  change Code.wp _ _ _ _ (refW w #[.int .i64 n, .slice As s.length cs, .slice Ap L.length cp])
  generalize refW w #[.int .i64 n, .slice As s.length cs, .slice Ap L.length cp] = W1 at *
  have HP := Lib.hid (Kd.C_below HX.out.2.2.1 HB.out.2.2.2)
  have c2 : W1.cell? ⟨w.heap.size, 2, none⟩ = some (.slice Ap L.length cp) := HB.out.1.cell 2
  go_wp2
  go_loop [7] (fun i => ∃ k : Nat, k ≤ L.length ∧ i = .int .i64 (k : Int)) (fun i => L.length - (intOf i).toNat)
  case atStart => exact ⟨0, Nat.zero_le _, rfl⟩
  case round =>
    obtain ⟨k, hk, rfl⟩ := hrel
    have k0 : (0 : Int) ≤ (k : Int) := Int.natCast_nonneg _
    by_cases hlt : k < L.length
    · have e1 : decide ((k : Int) < (L.length : Int)) = true := by simp; omega
      have e2 : (k : Int) < (L.length : Int) := by omega
      obtain ⟨ad, A1, c1, A2, c2', rfl, x0, -, -, -, -, -, -⟩ := R.at_T43 HP.out (k : Int) k0 e2
      have hf : R.rd_T43 L (k : Int) = L.getD k R.z43 := by unfold R.rd_T43; rw [Int.toNat_natCast]
      rw [hf, Int.toNat_natCast] at x0
      have hne := HN.out k hlt
      obtain ⟨Fk, hFk⟩ : ∃ f, (L.getD k R.z43).f0 = f := ⟨_, rfl⟩
      rw [hFk] at x0 hne
      have e3 : (Fk == X) = false := beq_eq_false_iff_ne.mpr hne
      have hk9 : k < 1000 := by have := HX.out.2.2.2.2; omega
      have HM := Lib.hid (show L.length - (intOf (.int .i64 ((k : Int) + 1))).toNat < L.length - (intOf (.int .i64 (k : Int))).toNat by simp [intOf]; omega)
      clear hFk hf hne
      go_wp2
      exact ⟨⟨k + 1, by omega, by go_num⟩, HM.out⟩
    · obtain rfl : k = L.length := by omega
      have e1 : decide ((L.length : Int) < (L.length : Int)) = false := by simp
      have c0 : W1.cell? ⟨w.heap.size, 0, none⟩ = some (.int .i64 n) := HB.out.1.cell 0
      have c1 : W1.cell? ⟨w.heap.size, 1, none⟩ = some (.slice As s.length cs) := HB.out.1.cell 1
      have q0 : W1.cell? ⟨w.heap.size + 1, 0, none⟩ = some (.int .i64 0) := (HB.out.2.1).cell 0
      have fq0 : W1.frozen? ⟨w.heap.size + 1, 0, none⟩ = false := (HB.out.2.1).frozen 0
      have q1 : W1.cell? ⟨w.heap.size + 1, 1, none⟩ = some (.slice none 0 0) := (HB.out.2.1).cell 1
      have fq1 : W1.frozen? ⟨w.heap.size + 1, 1, none⟩ = false := (HB.out.2.1).frozen 1
      have q2 : W1.cell? ⟨w.heap.size + 1, 2, none⟩ = some (.slice none 0 0) := (HB.out.2.1).cell 2
      have fq2 : W1.frozen? ⟨w.heap.size + 1, 2, none⟩ = false := (HB.out.2.1).frozen 2
      have l0 : W1.cell? ⟨w.heap.size + 2, 0, none⟩ = some (.int .i64 0) := (HB.out.2.2.1).cell 0
      have fl0 : W1.frozen? ⟨w.heap.size + 2, 0, none⟩ = false := (HB.out.2.2.1).frozen 0
      have l1 : W1.cell? ⟨w.heap.size + 2, 1, none⟩ = some (.slice none 0 0) := (HB.out.2.2.1).cell 1
      have fl1 : W1.frozen? ⟨w.heap.size + 2, 1, none⟩ = false := (HB.out.2.2.1).frozen 1
      have l2 : W1.cell? ⟨w.heap.size + 2, 2, none⟩ = some (.slice none 0 0) := (HB.out.2.2.1).cell 2
      have fl2 : W1.frozen? ⟨w.heap.size + 2, 2, none⟩ = false := (HB.out.2.2.1).frozen 2
      have HPP := Lib.hid (fun W2 hW => HR.out W1 W2 HB.out hW)
      clear hk k0
      go_wp2
      exact refTake_ret _ w.heap.size _ _ _ _ _ _ _ _ (HPP.out _ rfl) rfl rfl rfl
set_option maxRecDepth 100000 in
set_option maxHeartbeats 2000000 in
theorem refTake_last (n X : Int) (As : Option Addr) (s : List Int) (cs : Nat) (Ap : Option Addr) (L : List R.S43) (cp : Nat) (w : World) (hrs : Kd.C (Kd.int .u8) w As s.length s) (hcs : s.length ≤ cs) (hrp : Kd.C R.k43 w Ap L.length L) (hcp : L.length ≤ cp) (hL : L.length ≤ 1000) (h0 : 0 ≤ X) (h1 : X ≤ 4294967294) (hx : ∀ j, j < L.length → (L.getD j R.z43).f0 ≠ X) (h2 : n ≤ X) (h3 : 0 ≤ n) (h4 : X - n ≤ 100) (h5 : 4294967294 ≤ X) :
    Calls Tryd.prog 22 #[.agg #[.int .i64 n, .slice As s.length cs, .slice Ap L.length cp], .int .i64 X] w (TakePost w n s L R.z43 4) := by
  have HR := Lib.hid (fun W1 W2 hB hW => ref_err_post w W1 W2 n 4 As s cs Ap L cp hrs hcs hrp hcp #[.int .i64 n, .slice As s.length cs, .slice Ap L.length cp] hB hW)
  have HN := Lib.hid hx
  have d2 : decide (X < n) = false := by rw [decide_eq_false_iff_not]; omega
  have d3 : wrap64 (X - n) = X - n := by unfold wrap64; omega
  have d4 : decide (100 < X - n) = false := by rw [decide_eq_false_iff_not]; omega
  have d5 : wrap64 (X + 1) = X + 1 := by unfold wrap64; omega
  have d6 : decide (4294967294 < X + 1) = true := by rw [decide_eq_true_eq]; omega
  clear h2 h3 h4 h5
  clear hx
  have HB := Lib.hid (refB_start w #[.int .i64 n, .slice As s.length cs, .slice Ap L.length cp])
  have HX := Lib.hid (And.intro hrs (And.intro hcs (And.intro hrp (And.intro hcp hL))))
  have d0 : decide (X < 0) = false := by rw [decide_eq_false_iff_not]; omega
  have d1 : decide (4294967294 < X) = false := by rw [decide_eq_false_iff_not]; omega
  clear hrs hcs hrp hcp hL h0 h1
  go_enter Tryd.func22, Tryd.ntmps22
  go_upto_region 3 with fail
  change Code.wp _ _ _ _ (refW w #[.int .i64 n, .slice As s.length cs, .slice Ap L.length cp])
  generalize refW w #[.int .i64 n, .slice As s.length cs, .slice Ap L.length cp] = W1 at *
  have HP := Lib.hid (Kd.C_below HX.out.2.2.1 HB.out.2.2.2)
  have c2 : W1.cell? ⟨w.heap.size, 2, none⟩ = some (.slice Ap L.length cp) := HB.out.1.cell 2
  go_wp2
  go_loop [7] (fun i => ∃ k : Nat, k ≤ L.length ∧ i = .int .i64 (k : Int)) (fun i => L.length - (intOf i).toNat)
  case atStart => exact ⟨0, Nat.zero_le _, rfl⟩
  case round =>
    obtain ⟨k, hk, rfl⟩ := hrel
    have k0 : (0 : Int) ≤ (k : Int) := Int.natCast_nonneg _
    by_cases hlt : k < L.length
    · have e1 : decide ((k : Int) < (L.length : Int)) = true := by simp; omega
      have e2 : (k : Int) < (L.length : Int) := by omega
      obtain ⟨ad, A1, c1, A2, c2', rfl, x0, -, -, -, -, -, -⟩ := R.at_T43 HP.out (k : Int) k0 e2
      have hf : R.rd_T43 L (k : Int) = L.getD k R.z43 := by unfold R.rd_T43; rw [Int.toNat_natCast]
      rw [hf, Int.toNat_natCast] at x0
      have hne := HN.out k hlt
      obtain ⟨Fk, hFk⟩ : ∃ f, (L.getD k R.z43).f0 = f := ⟨_, rfl⟩
      rw [hFk] at x0 hne
      have e3 : (Fk == X) = false := beq_eq_false_iff_ne.mpr hne
      have hk9 : k < 1000 := by have := HX.out.2.2.2.2; omega
      have HM := Lib.hid (show L.length - (intOf (.int .i64 ((k : Int) + 1))).toNat < L.length - (intOf (.int .i64 (k : Int))).toNat by simp [intOf]; omega)
      clear hFk hf hne
      go_wp2
      exact ⟨⟨k + 1, by omega, by go_num⟩, HM.out⟩
    · obtain rfl : k = L.length := by omega
      have e1 : decide ((L.length : Int) < (L.length : Int)) = false := by simp
      have c0 : W1.cell? ⟨w.heap.size, 0, none⟩ = some (.int .i64 n) := HB.out.1.cell 0
      have c1 : W1.cell? ⟨w.heap.size, 1, none⟩ = some (.slice As s.length cs) := HB.out.1.cell 1
      have q0 : W1.cell? ⟨w.heap.size + 1, 0, none⟩ = some (.int .i64 0) := (HB.out.2.1).cell 0
      have fq0 : W1.frozen? ⟨w.heap.size + 1, 0, none⟩ = false := (HB.out.2.1).frozen 0
      have q1 : W1.cell? ⟨w.heap.size + 1, 1, none⟩ = some (.slice none 0 0) := (HB.out.2.1).cell 1
      have fq1 : W1.frozen? ⟨w.heap.size + 1, 1, none⟩ = false := (HB.out.2.1).frozen 1
      have q2 : W1.cell? ⟨w.heap.size + 1, 2, none⟩ = some (.slice none 0 0) := (HB.out.2.1).cell 2
      have fq2 : W1.frozen? ⟨w.heap.size + 1, 2, none⟩ = false := (HB.out.2.1).frozen 2
      have l0 : W1.cell? ⟨w.heap.size + 2, 0, none⟩ = some (.int .i64 0) := (HB.out.2.2.1).cell 0
      have fl0 : W1.frozen? ⟨w.heap.size + 2, 0, none⟩ = false := (HB.out.2.2.1).frozen 0
      have l1 : W1.cell? ⟨w.heap.size + 2, 1, none⟩ = some (.slice none 0 0) := (HB.out.2.2.1).cell 1
      have fl1 : W1.frozen? ⟨w.heap.size + 2, 1, none⟩ = false := (HB.out.2.2.1).frozen 1
      have l2 : W1.cell? ⟨w.heap.size + 2, 2, none⟩ = some (.slice none 0 0) := (HB.out.2.2.1).cell 2
      have fl2 : W1.frozen? ⟨w.heap.size + 2, 2, none⟩ = false := (HB.out.2.2.1).frozen 2
      have HPP := Lib.hid (fun W2 hW => HR.out W1 W2 HB.out hW)
      clear hk k0
      go_wp2
      exact refTake_ret _ w.heap.size _ _ _ _ _ _ _ _ (HPP.out _ rfl) rfl rfl rfl
end Go.Proofs.YtdklmafkcbjomaaDoor

/-! RatX -/
namespace Go.Proofs.YtdklmafkcbjomaaDoor
set_option linter.unusedVariables false
set_option linter.unusedSimpArgs false
open Go.RowKit Go.Shelf Go.Proofs.YtdklmafkcbjomaaDoorW.PrintWords Go.Proofs.YtdklmafkcbjomaaDoorW.PrintLast Go.Proofs.YtdklmafkcbjomaaDoorW.PrintMore Iter
attribute [local go_sem] Oper.semAt_some
theorem idxL_min (L : List R.S43) (X : Int) : ∀ k, idxL L X = some k → ∀ j, j < k → (L.getD j R.z43).f0 ≠ X := by
  induction L with
  | nil => intro k h; simp [idxL] at h
  | cons x xs ih =>
    intro k h j hj
    rw [idxL] at h
    split at h
    · cases h; omega
    · rename_i hne
      obtain ⟨i, hi, rfl⟩ := Option.map_eq_some_iff.1 h
      cases j with
      | zero => simpa using hne
      | succ j => simpa using ih i hi j (by omega)
theorem cell_lt {W : World} {a : Addr} {v : Value} (h : W.cell? a = some v) : a.block < W.heap.size := by
  unfold World.cell? at h
  by_cases hlt : a.block < W.heap.size
  · exact hlt
  · rw [Array.getElem?_eq_none (by omega)] at h
    simp at h
theorem app_old {W1 W7 : World} {o : Obj} (hg : (W1.alloc o).grownBy W7 (some W1.heap.size)) : ∀ b, b < W1.heap.size → W7.heap[b]? = W1.heap[b]? := fun b hb =>
  (hg.block b (by rw [World.size_alloc]; omega) (by simp; omega)).trans (((Below.refl W1.heap.size W1).alloc (Nat.le_refl _) o).block b hb)
/-- What pyxref13.Take comes to where a spare is taken. -/
theorem ref_spare_post (w W8 W2 : World) (n F0 : Int) (As : Option Addr) (s : List Int) (cs : Nat) (k m : Nat) (xs : List (List Value)) (L : List R.S43) (A4 : Option Addr) (c4 : Nat) (A1 A2 : Option Addr) (c1 c2 z1 z2 : Nat)
    (hrs : Kd.C (Kd.int .u8) w As s.length s) (hcs : s.length ≤ cs) (hb8 : Below w.heap.size w W8) (hxr : RawOf w L xs) (h4 : Kd.C (Kd.raw 3) W8 A4 m (xs.take k ++ xs.drop (k + 1))) (hl4 : m ≤ c4) (ha4 : 0 < m → ∀ a, A4 = some a → w.heap.size + 2 < a.block)
    (h2 : Blk W8 (w.heap.size + 1) 25 chain0) (h3 : Blk W8 (w.heap.size + 2) 43 chain0)
    (hF0 : (L.getD k R.z43).f0 = F0) (hz1 : (L.getD k R.z43).f1.length = z1) (hz2 : (L.getD k R.z43).f2.length = z2) (hl1 : z1 ≤ c1) (hr1 : Kd.C (Kd.int .u8) w A1 z1 (L.getD k R.z43).f1) (hl2 : z2 ≤ c2) (hr2 : Kd.C (Kd.int .u8) w A2 z2 (L.getD k R.z43).f2)
    (hW : W2 = ((((((W8.setCell ⟨w.heap.size + 1, 0, none⟩ (.int .i64 n)).setCell ⟨w.heap.size + 1, 1, none⟩ (.slice As s.length cs)).setCell ⟨w.heap.size + 1, 2, none⟩ (.slice A4 m c4)).setCell ⟨w.heap.size + 2, 0, none⟩ (.int .i64 F0)).setCell ⟨w.heap.size + 2, 1, none⟩ (.slice A1 z1 c1)).setCell ⟨w.heap.size + 2, 2, none⟩ (.slice A2 z2 c2)).drew) :
    Blk W2 (w.heap.size + 1) 25 #[.int .i64 n, .slice As s.length cs, .slice A4 m c4] ∧ Blk W2 (w.heap.size + 2) 43 #[.int .i64 F0, .slice A1 z1 c1, .slice A2 z2 c2] ∧
    TakePost w n s (L.take k ++ L.drop (k + 1)) (L.getD k R.z43) 0 (.returned (.tuple #[.agg #[.int .i64 n, .slice As s.length cs, .slice A4 m c4], .agg #[.int .i64 F0, .slice A1 z1 c1, .slice A2 z2 c2], .int .i64 0])) W2 := by
  obtain ⟨V, hV⟩ : ∃ V, V = (((((W8.setCell ⟨w.heap.size + 1, 0, none⟩ (.int .i64 n)).setCell ⟨w.heap.size + 1, 1, none⟩ (.slice As s.length cs)).setCell ⟨w.heap.size + 1, 2, none⟩ (.slice A4 m c4)).setCell ⟨w.heap.size + 2, 0, none⟩ (.int .i64 F0)).setCell ⟨w.heap.size + 2, 1, none⟩ (.slice A1 z1 c1)).setCell ⟨w.heap.size + 2, 2, none⟩ (.slice A2 z2 c2) := ⟨_, rfl⟩
  rw [← hV] at hW
  obtain ⟨f1', f2', f3, f4⟩ := fin6g w.heap.size (w.heap.size + 1) (w.heap.size + 2) (by omega) (by omega) (by omega) _ _ _ _ _ _ _ _ W8 h2 h3 _ _ _ _ _ _ V hV
  subst hW
  have f4' : Below w.heap.size W8 V.drew := below_drew f4
  have f3' : ∀ b, b ≠ w.heap.size + 1 → b ≠ w.heap.size + 2 → V.drew.heap[b]? = W8.heap[b]? := fun b h h' => f3 b h h'
  clear hV
  have hb : Below w.heap.size w V.drew := hb8.trans f4'
  have hR := (hxr.below hb).take k |>.append ((hxr.below hb).drop (k + 1))
  have hm : m = (L.take k ++ L.drop (k + 1)).length := by rw [← hR.1]; exact h4.1.symm
  have h4' : Kd.C (Kd.raw 3) V.drew A4 m (xs.take k ++ xs.drop (k + 1)) := Craw_same h4 (fun h0 a ha => by
    have := ha4 h0 a ha
    exact f3' _ (by omega) (by omega))
  refine ⟨f1', f2', As, cs, A4, c4, A1, c1, A2, c2, ?_, hcs, Kd.C_below hrs hb, by rw [← hm]; exact hl4, by rw [← hm]; exact C_of_raw h4' hR, by rw [hz1]; exact hl1, by rw [hz1]; exact Kd.C_below hr1 hb, by rw [hz2]; exact hl2, by rw [hz2]; exact Kd.C_below hr2 hb, hb⟩
  rw [← hm, hF0, hz1, hz2]
set_option maxRecDepth 100000 in
set_option maxHeartbeats 4000000 in
theorem refTake_spare (n X : Int) (k : Nat) (As : Option Addr) (s : List Int) (cs : Nat) (Ap : Option Addr) (L : List R.S43) (cp : Nat) (w : World) (hrs : Kd.C (Kd.int .u8) w As s.length s) (hcs : s.length ≤ cs) (hrp : Kd.C R.k43 w Ap L.length L) (hcp : L.length ≤ cp) (hL : L.length ≤ 1000) (h0 : 0 ≤ X) (h1 : X ≤ 4294967294) (hk : idxL L X = some k) :
    Calls Tryd.prog 22 #[.agg #[.int .i64 n, .slice As s.length cs, .slice Ap L.length cp], .int .i64 X] w (TakePost w n s (L.take k ++ L.drop (k + 1)) (L.getD k R.z43) 0) := by
  obtain ⟨hkl, hkf⟩ := idxL_lt L X k hk
  have HN := Lib.hid (idxL_min L X k hk)
  have HB := Lib.hid (refB_start w #[.int .i64 n, .slice As s.length cs, .slice Ap L.length cp])
  have HX := Lib.hid (And.intro hrs (And.intro hcs (And.intro hrp (And.intro hcp (And.intro hL (And.intro hkl hkf))))))
  have d0 : decide (X < 0) = false := by rw [decide_eq_false_iff_not]; omega
  have d1 : decide (4294967294 < X) = false := by rw [decide_eq_false_iff_not]; omega
  clear hrs hcs hrp hcp hL h0 h1 hk hkf
  go_enter Tryd.func22, Tryd.ntmps22
  go_upto_region 3 with fail
  change Code.wp _ _ _ _ (refW w #[.int .i64 n, .slice As s.length cs, .slice Ap L.length cp])
  generalize refW w #[.int .i64 n, .slice As s.length cs, .slice Ap L.length cp] = W1 at *
  have HP := Lib.hid (Kd.C_below HX.out.2.2.1 HB.out.2.2.2)
  have c2 : W1.cell? ⟨w.heap.size, 2, none⟩ = some (.slice Ap L.length cp) := HB.out.1.cell 2
  go_wp2
  go_loop [7] (fun i => ∃ j : Nat, j ≤ k ∧ i = .int .i64 (j : Int)) (fun i => L.length - (intOf i).toNat)
  case atStart => exact ⟨0, Nat.zero_le _, rfl⟩
  case round =>
    obtain ⟨j, hj, rfl⟩ := hrel
    have k0 : (0 : Int) ≤ (j : Int) := Int.natCast_nonneg _
    have e1 : decide ((j : Int) < (L.length : Int)) = true := by simp; omega
    have e2 : (j : Int) < (L.length : Int) := by omega
    by_cases hlt : j < k
    · obtain ⟨ad, A1, c1, A2, c2', rfl, x0, -, -, -, -, -, -⟩ := R.at_T43 HP.out (j : Int) k0 e2
      have hf : R.rd_T43 L (j : Int) = L.getD j R.z43 := by unfold R.rd_T43; rw [Int.toNat_natCast]
      rw [hf, Int.toNat_natCast] at x0
      have hne := HN.out j hlt
      obtain ⟨Fk, hFk⟩ : ∃ f, (L.getD j R.z43).f0 = f := ⟨_, rfl⟩
      rw [hFk] at x0 hne
      have e3 : (Fk == X) = false := beq_eq_false_iff_ne.mpr hne
      have hk9 : j < 1000 := by have := HX.out.2.2.2.2.1; omega
      have HM := Lib.hid (show L.length - (intOf (.int .i64 ((j : Int) + 1))).toNat < L.length - (intOf (.int .i64 (j : Int))).toNat by simp [intOf]; omega)
      clear hFk hf hne
      go_wp2
      exact ⟨⟨j + 1, by omega, by go_num⟩, HM.out⟩
    · obtain rfl : j = k := by omega
      obtain ⟨xs, hxs, hrx⟩ := raw_of_C HX.out.2.2.1
      obtain ⟨A1, c1, A2, c2', ecs, hz1, hr1, hz2, hr2⟩ := R.k43_open (hrx.2 j hkl)
      have hx1 := Kd.C_below hxs HB.out.2.2.2
      obtain ⟨ad, ead, hcell⟩ := hx1.2.2 (by omega)
      subst ead
      have hxl : j < xs.length := by rw [hrx.1]; exact hkl
      obtain ⟨c, -, ⟨ec, -⟩, hcell⟩ := hcell j _ (List.getElem?_eq_getElem hxl)
      have egc : xs.getD j [] = xs[j] := by rw [List.getD_eq_getElem?_getD, List.getElem?_eq_getElem hxl]; rfl
      rw [← egc, ecs] at ec
      subst ec
      have y0 : W1.cell? (ad.add (j * 3)) = some (.int .i64 (L.getD j R.z43).f0) := hcell 0 _ rfl
      rw [HX.out.2.2.2.2.2.2] at y0
      have e3 : (X == X) = true := beq_self_eq_true _
      have HL := Lib.hid (And.intro hz1 (And.intro hr1 (And.intro hz2 (And.intro hr2 (And.intro hxs (And.intro hrx hx1))))))
      have HEC := Lib.hid ecs
      clear hz1 hr1 hz2 hr2 hxs hrx hx1 hcell ecs egc
      have HCE := Lib.hid y0
      go_upto_region 7 with fail
      clear d0 d1 e3 y0 hj hlt
      have hal : Below W1.heap.size W1 (W1.alloc (.cells #[] 43)) := (Below.refl _ W1).alloc (Nat.le_refl _) _
      have hgl : w.heap.size + 2 < W1.heap.size := HB.out.2.2.1.lt
      have hbx : Below w.heap.size w (W1.alloc (.cells #[] 43)) := HB.out.2.2.2.trans (hal.mono HB.out.2.2.2.size)
      have H0 := Lib.hid (And.intro (HB.out.below hal) (And.intro hbx (And.intro (raw_lit W1 w.heap.size HB.out.2.2.2.size) hgl)))
      have hxe := HL.out.2.2.2.2.2.1.1
      have hkx : j < xs.length := hxl
      have hC1 : Kd.C (Kd.raw 3) w (some ad) xs.length xs := by have := HL.out.2.2.2.2.1; rw [← hxe] at this; exact this
      have ht := Kd.C_take hC1 (m := j) (by omega)
      rw [List.length_take, show min j xs.length = j by omega] at ht
      have hdr : Kd.C (Kd.raw 3) w (if cp = j + 1 then some ad else some (ad.add ((j + 1) * 3))) (L.length - (j + 1)) (xs.drop (j + 1)) := by
        have := Kd.C_drop (m := j + 1) (c := cp) hC1 (by omega) (by have := HX.out.2.2.2.1; omega)
        rw [List.length_drop, hxe] at this
        exact this
      have HT := Lib.hid (And.intro ht hdr)
      have s2 : (W1.alloc (.cells #[] 43)).cell? ⟨w.heap.size, 2, none⟩ = some (.slice (some ad) L.length cp) := H0.out.1.1.cell 2
      have hj9 : j < 1000 := by have := HX.out.2.2.2.2.1; omega
      have e5 : j ≤ cp := by have := HX.out.2.2.2.1; omega
      have e6 : j ≤ L.length := by omega
      clear hal hbx hxe hC1 ht hdr
      have hjw : wrap64 ((j : Int) + 1) = (j : Int) + 1 := by unfold wrap64; omega
      have e7 : (j : Int) + 1 ≤ (L.length : Int) := by omega
      have e8 : L.length ≤ cp := HX.out.2.2.2.1
      have e9 : L.length ≤ 1000 := HX.out.2.2.2.2.1
      have HJ := Lib.hid hjw
      clear hjw
      by_cases hck : cp = j + 1
      all_goals
        first
          | rw [if_pos hck] at HT
          | rw [if_neg hck] at HT
        go_wp2_with (first | ((with_reducible refine gate_builtin (b := .append) (xs := #[.tmp 35, .tmp 39]) rfl ?_); at_builtin; refine Kd.R_append_rows (Kd.raw 3) (w0 := w) w.heap.size rfl (.tmp 35) (.tmp 39) 23 43 _ 56 rfl Tryd.underlying23 R.info43 rfl (by decide) (by omega) (.slice (some ⟨W1.heap.size, 0, none⟩) 0 0) [] (xs.take j) (some ad) j _ (fun _ => True) (fun _ => False) rfl rfl H0.out.2.2.1 (Kd.C_below HT.out.1 H0.out.2.1) (fun _ _ h => h) (fun _ h => h.elim) (fun _ _ => trivial) H0.out.2.1 H0.out.2.1.size (by simp; omega) ?_; intro v7 W7 ho7 hb7 hg7 hat7; have H7 := Lib.hid (And.intro ho7 (And.intro hb7 (And.intro (app_old hg7) hat7))); have s7 : W7.cell? ⟨w.heap.size, 2, none⟩ = some (.slice (some ad) L.length cp) := Blk.cell (show Blk W7 w.heap.size 25 #[.int .i64 n, .slice As s.length cs, .slice (some ad) L.length cp] from (H7.out.2.2.1 w.heap.size (by have := H0.out.2.2.2; omega)).trans HB.out.1) 2; clear s2 ho7 hb7 hg7 hat7; have hjw := HJ.out) | ((with_reducible refine gate_builtin (b := .append) (xs := #[.tmp 41, .tmp 46]) rfl ?_); at_builtin; refine Kd.R_append_rows (Kd.raw 3) (w0 := w) w.heap.size rfl (.tmp 41) (.tmp 46) 23 43 _ 56 rfl Tryd.underlying23 R.info43 rfl (by decide) (by omega) v7 ([] ++ xs.take j) (xs.drop (j + 1)) _ _ _ (fun _ => True) (fun _ => False) rfl rfl H7.out.1 (Kd.C_below HT.out.2 H7.out.2.1) (fun _ _ h => h) (fun _ h => h.elim) (fun _ _ => trivial) H7.out.2.1 H7.out.2.1.size (by simp; omega) ?_; intro v8 W8 ho8 hb8 hg8 hat8))
        have e7b : v7.ownBlock = some W1.heap.size ∨ ∃ b, v7.ownBlock = some b ∧ W1.heap.size < b := by
          rcases H7.out.2.2.2 with h | ⟨b, h, hb⟩
          · exact .inl h
          · exact .inr ⟨b, h, by rw [World.size_alloc] at hb; omega⟩
        have hs71 : W1.heap.size ≤ W7.heap.size := by
          rcases Nat.lt_or_ge W7.heap.size W1.heap.size with h | h
          · have h1 := H7.out.2.2.1 W7.heap.size h
            rw [Array.getElem?_eq_none (Nat.le_refl _)] at h1
            rw [Array.getElem?_eq_getElem h] at h1
            cases h1
          · exact h
        have hold : ∀ b, b < W1.heap.size → W8.heap[b]? = W1.heap[b]? := fun b hb => by
          refine (hg8.block b (by omega) (fun e => ?_)).trans (H7.out.2.2.1 b hb)
          rcases e7b with h | ⟨b', h, hb'⟩
          · rw [h] at e; injection e with e; omega
          · rw [h] at e; injection e with e; omega
        have hgl := H0.out.2.2.2
        have b0 : Blk W8 w.heap.size 25 #[.int .i64 n, .slice As s.length cs, .slice (some ad) L.length cp] := (hold _ (by omega)).trans HB.out.1
        have b1 : Blk W8 (w.heap.size + 1) 25 chain0 := (hold _ (by omega)).trans HB.out.2.1
        have b2 : Blk W8 (w.heap.size + 2) 43 chain0 := (hold _ (by omega)).trans HB.out.2.2.1
        have h8e : 0 < ([] ++ xs.take j ++ xs.drop (j + 1)).length → ∃ g cap, v8 = .slice (some ⟨g, 0, none⟩) ([] ++ xs.take j ++ xs.drop (j + 1)).length cap ∧ w.heap.size + 2 < g := fun hp => by
          obtain ⟨g, cap, e, -, -, -⟩ := Kd.R_form ho8 hp
          refine ⟨g, cap, e, ?_⟩
          have hob : v8.ownBlock = some g := by rw [e]; rfl
          rcases hat8 with h | ⟨b, h, hb⟩
          · rw [hob] at h
            rcases e7b with h' | ⟨b', h', hb'⟩
            · rw [h'] at h; injection h with h; omega
            · rw [h'] at h; injection h with h; omega
          · rw [hob] at h; injection h with h; omega
        obtain ⟨A8, c8, e8v, hl8, hC8⟩ := Kd.R_reads ho8
        subst e8v
        have ha8 : 0 < ([] ++ xs.take j ++ xs.drop (j + 1)).length → ∀ a, A8 = some a → w.heap.size + 2 < a.block := fun hp a ha => by
          obtain ⟨g, cap, e, hg⟩ := h8e hp
          injection e with e _ _
          rw [ha] at e
          injection e with e
          rw [e]
          exact hg
        rw [List.nil_append] at ha8 hl8 hC8 ⊢
        have hx8 := Kd.C_below HL.out.2.2.2.2.1 hb8
        obtain ⟨ad', e', hcell⟩ := hx8.2.2 (by omega)
        cases e'
        obtain ⟨c, -, ⟨ec, -⟩, hcell⟩ := hcell j _ (List.getElem?_eq_getElem hxl)
        have egc : xs.getD j [] = xs[j] := by rw [List.getD_eq_getElem?_getD, List.getElem?_eq_getElem hxl]; rfl
        rw [← egc, HEC.out] at ec
        subst ec
        have HQ := Lib.hid (And.intro hl8 (And.intro hC8 (And.intro ha8 (And.intro hb8 (And.intro b1 b2)))))
        have y0 : W8.cell? (ad.add (j * 3)) = some (.int .i64 X) := by
          have := hcell 0 _ rfl
          rw [HX.out.2.2.2.2.2.2] at this
          exact this
        have y1 : W8.cell? ⟨(ad.add (j * 3)).block, (ad.add (j * 3)).off + 1, none⟩ = some (.slice A1 (L.getD j R.z43).f1.length c1) := by
          rw [← add_field _ _ 1 (by omega)]; exact hcell 1 _ rfl
        have y2 : W8.cell? ⟨(ad.add (j * 3)).block, (ad.add (j * 3)).off + 2, none⟩ = some (.slice A2 (L.getD j R.z43).f2.length c2') := by
          rw [← add_field _ _ 2 (by omega)]; exact hcell 2 _ rfl
        have hpb : (ad.add (j * 3)).block < w.heap.size := by
          obtain ⟨ad', e', hcw⟩ := HL.out.2.2.2.2.1.2.2 (by omega)
          cases e'
          obtain ⟨c', -, ⟨ec', -⟩, hcw⟩ := hcw j _ (List.getElem?_eq_getElem hxl)
          rw [← egc, HEC.out] at ec'
          subst ec'
          exact cell_lt (hcw 0 _ rfl)
        obtain ⟨P, hP⟩ : ∃ P, ad.add (j * 3) = P := ⟨_, rfl⟩
        rw [hP] at y0 y1 y2 hpb
        obtain ⟨pb, po, ps⟩ := P
        dsimp only at y1 y2 hpb
        have i0 : W8.cell? ⟨w.heap.size, 0, none⟩ = some (.int .i64 n) := b0.cell 0
        have i1 : W8.cell? ⟨w.heap.size, 1, none⟩ = some (.slice As s.length cs) := b0.cell 1
        have i2 : W8.cell? ⟨w.heap.size, 2, none⟩ = some (.slice (some ad) L.length cp) := b0.cell 2
        have r0 : W8.frozen? ⟨w.heap.size + 1, 0, none⟩ = false := b1.frozen 0
        have r1 : W8.frozen? ⟨w.heap.size + 1, 1, none⟩ = false := b1.frozen 1
        have r2 : W8.frozen? ⟨w.heap.size + 1, 2, none⟩ = false := b1.frozen 2
        have s0 : W8.frozen? ⟨w.heap.size + 2, 0, none⟩ = false := b2.frozen 0
        have s1 : W8.frozen? ⟨w.heap.size + 2, 1, none⟩ = false := b2.frozen 1
        have s2 : W8.frozen? ⟨w.heap.size + 2, 2, none⟩ = false := b2.frozen 2
        have q0 : W8.cell? ⟨w.heap.size + 1, 0, none⟩ = some (.int .i64 0) := b1.cell 0
        have q1 : W8.cell? ⟨w.heap.size + 1, 1, none⟩ = some (.slice none 0 0) := b1.cell 1
        have q2 : W8.cell? ⟨w.heap.size + 1, 2, none⟩ = some (.slice none 0 0) := b1.cell 2
        have l0 : W8.cell? ⟨w.heap.size + 2, 0, none⟩ = some (.int .i64 0) := b2.cell 0
        have l1 : W8.cell? ⟨w.heap.size + 2, 1, none⟩ = some (.slice none 0 0) := b2.cell 1
        have l2 : W8.cell? ⟨w.heap.size + 2, 2, none⟩ = some (.slice none 0 0) := b2.cell 2
        have hF := HX.out.2.2.2.2.2.2
        have HFF := Lib.hid hF
        clear hl8 hC8 ha8 hb8 b0 b1 b2 h8e hold hs71 e7b hg8 hat8 ho8 hcell egc hx8 hF
        generalize hgz1 : (L.getD j R.z43).f1.length = z1 at *
        generalize hgz2 : (L.getD j R.z43).f2.length = z2 at *
        have HZ := Lib.hid (And.intro hgz1 hgz2)
        clear hgz1 hgz2
        generalize hgm : (xs.take j ++ xs.drop (j + 1)).length = m at *
        clear hgm
        go_region
        all_goals
          go_wp2
          exact refTake_ret _ w.heap.size _ _ _ _ _ _ _ _ (ref_spare_post w W8 _ n X As s cs j m xs L A8 c8 A1 A2 c1 c2' z1 z2 HX.out.1 HX.out.2.1 HQ.out.2.2.2.1 HL.out.2.2.2.2.2.1 HQ.out.2.1 HQ.out.1 HQ.out.2.2.1 HQ.out.2.2.2.2.1 HQ.out.2.2.2.2.2 HFF.out HZ.out.1 HZ.out.2 HL.out.1 HL.out.2.1 HL.out.2.2.1 HL.out.2.2.2.1 rfl) rfl rfl rfl
end Go.Proofs.YtdklmafkcbjomaaDoor

/-! RatY -/
namespace Go.Proofs.YtdklmafkcbjomaaDoor
set_option linter.unusedVariables false
set_option linter.unusedSimpArgs false
open Go.RowKit Go.Shelf Go.Proofs.YtdklmafkcbjomaaDoorW.PrintWords Go.Proofs.YtdklmafkcbjomaaDoorW.PrintLast Go.Proofs.YtdklmafkcbjomaaDoorW.PrintMore Iter
theorem refPart_some (s : List Int) (lab : ByteArray) (n m : Nat) (h : s.length = 32) (o : byteOk s = true) (hl : lab.size ≤ 100000) (hm : m ≤ 8160) : R.pyxref13_part.f s lab (numB n 4) (m : Int) = some (labelOf s lab (numB n 4) m) := by
  unfold R.pyxref13_part.f
  rw [show P.pyxref04_Label.f s lab (numB n 4) (m : Int) = some (labelOf s lab (numB n 4) m, 0) from label_some s lab (numB n 4) m hm o (byteOk_numB _ _) (by rw [h]; decide) hl (by rw [numB_length]; decide), Option.bind_some]
theorem refNum_some (n : Nat) (h : n < 4294967296) : P.pyxref01_Num.f (n : Int) 4 = some (numB n 4, 0) := by
  unfold P.pyxref01_Num.f
  rw [show ((4 : Int)) = ((4 : Nat) : Int) from rfl, numOf_small n 4 (by omega) (by omega) (by omega)]
theorem refLock_some (s : List Int) (n : Nat) (hn : n < 4294967296) (h : s.length = 32) (o : byteOk s = true) : R.pyxref13_Lock.f s (n : Int) = some ((n : Int), (lockS s n).f1, (lockS s n).f2) := by
  unfold R.pyxref13_Lock.f
  rw [refNum_some n hn, Option.bind_some]
  dsimp only
  rw [show (⟨#[107, 101, 121]⟩ : ByteArray) = labKeyR from rfl, show (⟨#[110, 111, 110, 99, 101]⟩ : ByteArray) = labNonceR from rfl, show R.pyxref13_part.f s labKeyR (numB n 4) 32 = some (labelOf s labKeyR (numB n 4) 32) from refPart_some s labKeyR n 32 h o (by decide) (by decide), Option.bind_some, show R.pyxref13_part.f s labNonceR (numB n 4) 12 = some (labelOf s labNonceR (numB n 4) 12) from refPart_some s labNonceR n 12 h o (by decide) (by decide), Option.bind_some]
  rfl
theorem refNext_some (s : List Int) (n : Nat) (hn : n < 4294967296) (h : s.length = 32) (o : byteOk s = true) : R.pyxref13_Next.f s (n : Int) = some (nextS s n) := by
  unfold R.pyxref13_Next.f
  rw [refNum_some n hn, Option.bind_some]
  dsimp only
  rw [show (⟨#[110, 101, 120, 116]⟩ : ByteArray) = labNext from rfl, show R.pyxref13_part.f s labNext (numB n 4) 32 = some (labelOf s labNext (numB n 4) 32) from refPart_some s labNext n 32 h o (by decide) (by decide), Option.bind_some]
  rfl
/-- What lies ready between the rounds: the boxes, the spares, and the secret. -/
def RefI (w : World) (C : Array Value) (M : List R.S43) (v : Value) (ys : List (List Value)) (A : Option Addr) (S : List Int) (W : World) : Prop :=
  RefB w C W ∧ Kd.R (Kd.raw 3) 43 W w.heap.size (fun b => w.heap.size + 2 < b) v ys ∧ RawIn (okT w.heap.size (w.heap.size + 2) W.heap.size W) W M ys ∧ Kd.C (Kd.int .u8) W A S.length S ∧
  (∀ a, A = some a → okT w.heap.size (w.heap.size + 2) W.heap.size W a.block)
theorem okT_below {g g10 : Nat} {W W' : World} (hg : g ≤ W.heap.size) (hb : Below W.heap.size W W') : ∀ b, okT g g10 W.heap.size W b → okT g g10 W'.heap.size W' b := fun b h => by
  have h1 := hb.block b (okT_lt h hg)
  have hs := hb.size
  rcases h with h | ⟨h2, h3, cells, h4⟩
  · exact .inl h
  · exact .inr ⟨h2, by omega, cells, h1.trans h4⟩
theorem RefI.below {w : World} {C : Array Value} {M : List R.S43} {v : Value} {ys : List (List Value)} {A : Option Addr} {S : List Int} {W W' : World} (h : RefI w C M v ys A S W) (hb : Below W.heap.size W W') : RefI w C M v ys A S W' := by
  obtain ⟨h1, h2, h3, h4, h5⟩ := h
  have hg := h1.2.2.2.size
  refine ⟨h1.below hb, Kd.R_mono (Kd.R_step (Kd.R_bound h2) (fun b hk _ => hb.block b hk.2.2.1)) (fun b hk => hk.1), ?_, Kd.C_below h4 hb, fun a ha => okT_below hg hb _ (h5 a ha)⟩
  exact (h3.subT (fun b hk => hb.block b (okT_lt hk hg))).mono (okT_mono hb.size)
/-- A lock more. -/
theorem RefI.append {w : World} {C : Array Value} {M : List R.S43} {v v4 : Value} {ys : List (List Value)} {A : Option Addr} {S : List Int} {W2 W4 : World} {x : R.S43} {q0 q1 q2 : Value} (h : RefI w C M v ys A S W2) (hl : LockIn (okT w.heap.size (w.heap.size + 2) W2.heap.size W2) W2 x [q0, q1, q2])
    (hR : Kd.R (Kd.raw 3) 43 W4 w.heap.size (fun b => w.heap.size + 2 < b) v4 (ys ++ [[q0, q1, q2]])) (hg : (W2.alloc (.cells #[q0, q1, q2] 43)).grownBy W4 v.ownBlock) : RefI w C (M ++ [x]) v4 (ys ++ [[q0, q1, q2]]) A S W4 := by
  obtain ⟨h1, h2, h3, h4, h5⟩ := h
  have hgs := h1.2.2.2.size
  have hv := Kd.R_bound h2
  have hsz3 : (W2.alloc (.cells #[q0, q1, q2] 43)).heap.size = W2.heap.size + 1 := by simp
  have hsz4 := hg.size
  have hal : Below W2.heap.size W2 (W2.alloc (.cells #[q0, q1, q2] 43)) := (Below.refl _ W2).alloc (Nat.le_refl _) _
  have hs : ∀ b, b < W2.heap.size → some b ≠ v.ownBlock → W4.heap[b]? = W2.heap[b]? := fun b hb hne => (hg.block b (by omega) hne).trans (hal.block b hb)
  have hown : ∀ b, v.ownBlock = some b → w.heap.size + 2 < b ∧ ∃ cells, W2.heap[b]? = some (.cells cells 43 (0, 0)) := fun b hb => by
    obtain ⟨p1, p4, -, q, hq, cells, hc⟩ := hv.1 b hb
    refine ⟨p1, cells, ?_⟩
    have : q = 43 := by simpa [Kd.raw] using hq
    rw [this] at hc
    exact hc
  have hok : ∀ b, okT w.heap.size (w.heap.size + 2) W2.heap.size W2 b → W4.heap[b]? = W2.heap[b]? := fun b hb => by
    refine hs b (okT_lt hb hgs) (fun e => ?_)
    obtain ⟨p1, cells, p5⟩ := hown b e.symm
    rcases hb with hb | ⟨-, -, cells', hb⟩
    · omega
    · rw [p5] at hb
      injection hb with hb
      injection hb with _ hb
      exact absurd hb (by decide)
  have hne : ∀ b, b ≤ w.heap.size + 2 → some b ≠ v.ownBlock := fun b hb e => by have := (hown b e.symm).1; omega
  have l0 := h1.1.lt
  have l1 := h1.2.1.lt
  have l2 := h1.2.2.1.lt
  have hle : W2.heap.size ≤ W4.heap.size := by omega
  refine ⟨⟨(hs _ l0 (hne _ (by omega))).trans h1.1, (hs _ l1 (hne _ (by omega))).trans h1.2.1, (hs _ l2 (hne _ (by omega))).trans h1.2.2.1, ?_⟩, hR, ?_, ?_, ?_⟩
  · refine h1.2.2.2.trans ⟨?_, ?_, ?_, ?_, ?_⟩
    · exact (hg.os).trans hal.os
    · exact (hg.tape).trans hal.tape
    · exact (hg.output).trans hal.output
    · exact hle
    · exact fun b hb => hs b (by omega) (hne b (by omega))
  · exact ((h3.subT hok).mono (okT_mono hle)).snoc _ _ ((hl.subT hok).mono (okT_mono hle))
  · exact C_sub h4 (fun _ a ha => hok _ (h5 a ha))
  · exact fun a ha => okT_mono hle _ (okT_same hok _ (h5 a ha))
/-- Another secret. -/
theorem RefI.secret {w : World} {C : Array Value} {M : List R.S43} {v : Value} {ys : List (List Value)} {A A' : Option Addr} {S S' : List Int} {W : World} (h : RefI w C M v ys A S W) (hC : Kd.C (Kd.int .u8) W A' S'.length S') (hA : ∀ a, A' = some a → okT w.heap.size (w.heap.size + 2) W.heap.size W a.block) : RefI w C M v ys A' S' W :=
  ⟨h.1, h.2.1, h.2.2.1, hC, hA⟩
end Go.Proofs.YtdklmafkcbjomaaDoor

/-! RatT -/
namespace Go.Proofs.YtdklmafkcbjomaaDoor
set_option linter.unusedVariables false
set_option linter.unusedSimpArgs false
open Go.RowKit Go.Shelf Go.Proofs.YtdklmafkcbjomaaDoorW.PrintWords Go.Proofs.YtdklmafkcbjomaaDoorW.PrintLast Go.Proofs.YtdklmafkcbjomaaDoorW.PrintMore Iter
attribute [local go_sem] Oper.semAt_some
theorem raw_lit' (w : World) (base : Nat) (ok : Nat → Prop) (h : ok w.heap.size) (hb : base ≤ w.heap.size) : Kd.R (Kd.raw 3) 43 (w.alloc (.cells #[] 43)) base ok (.slice (some ⟨w.heap.size, 0, none⟩) 0 0) [] :=
  ⟨fun k hk => by simp [Value.ownBlock] at hk; rw [← hk]; exact h, OwnRow.lit w base (inner := []) (Reps.none _ _) hb (by decide)⟩
theorem c_lock_lit (W : World) (q0 q1 q2 : Value) (h : ∀ u ∈ [q0, q1, q2], u.oneCell' = true) : Kd.C (Kd.raw 3) (W.alloc (.cells #[q0, q1, q2] 43)) (some ⟨W.heap.size, 0, none⟩) 1 [[q0, q1, q2]] := by
  refine ⟨rfl, by decide, fun _ => ⟨_, rfl, fun j p hj => ?_⟩⟩
  cases j with
  | succ j => simp at hj
  | zero =>
    obtain rfl : [q0, q1, q2] = p := by simpa using hj
    refine ⟨[q0, q1, q2], rfl, ⟨rfl, rfl, h⟩, fun i u hu => ?_⟩
    rw [Nat.zero_mul, Nat.zero_add, add_plain]
    exact ((Blk.new W 43 #[q0, q1, q2]).cell i).trans (by simpa using hu)
theorem refI_start (w W1 W9 : World) (C : Array Value) (L : List R.S43) (s : List Int) (As : Option Addr) (Ap : Option Addr) (v9 : Value) (xs : List (List Value)) (hB : RefB w C W1) (hrs : Kd.C (Kd.int .u8) w As s.length s) (h32 : s.length = 32) (hrx : RawOf w L xs)
    (hR : Kd.R (Kd.raw 3) 43 W9 w.heap.size (fun b => w.heap.size + 2 < b) v9 xs) (hb : Below w.heap.size w W9) (ho : ∀ b, b < W1.heap.size → W9.heap[b]? = W1.heap[b]?) : RefI w C L v9 xs As s W9 := by
  have l0 := hB.1.lt
  have l1 := hB.2.1.lt
  have l2 := hB.2.2.1.lt
  refine ⟨⟨(ho _ l0).trans hB.1, (ho _ l1).trans hB.2.1, (ho _ l2).trans hB.2.2.1, hb⟩, hR, ?_, Kd.C_below hrs hb, fun a ha => .inl ?_⟩
  · exact ((RawIn.of hrx).sub (fun b hk => hb.block b hk)).mono (fun b hk => .inl hk)
  · obtain ⟨ad, e, hlt⟩ := C_some hrs (by rw [h32]; decide)
    rw [ha] at e
    cases e
    exact hlt
theorem refAdv_post (w W7 W2 : World) (n d : Nat) (s : List Int) (L : List R.S43) (N Np : Int) (As : Option Addr) (cs : Nat) (Ap : Option Addr) (cp : Nat) (Av : Option Addr) (q cv : Nat) (ys : List (List Value)) (A : Option Addr) (S : List Int) (A6 : Option Addr) (c6 : Nat) (P : Int) (A1 A2 : Option Addr) (c1 c2 z1 z2 : Nat) (A3 : Option Addr) (q3 c3 : Nat)
    (hI : RefI w #[.int .i64 Np, .slice As s.length cs, .slice Ap L.length cp] (L ++ passed s n d) (.slice Av q cv) ys A S W7) (hq : q = L.length + d) (hN : N = ((n + (d + 1) : Nat) : Int)) (l6 : (secS s n (d + 1)).length ≤ c6) (C6 : Kd.C (Kd.int .u8) W7 A6 (secS s n (d + 1)).length (secS s n (d + 1)))
    (hP : P = (lockN s n d).f0) (hz1 : z1 = (lockN s n d).f1.length) (hz2 : z2 = (lockN s n d).f2.length) (k1 : z1 ≤ c1) (C1 : Kd.C (Kd.int .u8) W7 A1 z1 (lockN s n d).f1) (k2 : z2 ≤ c2) (C2 : Kd.C (Kd.int .u8) W7 A2 z2 (lockN s n d).f2)
    (h3 : (q ≤ 32 ∧ A3 = Av ∧ q3 = q ∧ c3 = cv) ∨ (32 < q ∧ A3 = (if cv = q - 32 then Av else Av.map (·.add ((q - 32) * 3))) ∧ q3 = q - (q - 32) ∧ c3 = cv - (q - 32)))
    (hW : W2 = (((((W7.setCell ⟨w.heap.size + 1, 0, none⟩ (.int .i64 N)).setCell ⟨w.heap.size + 1, 1, none⟩ (.slice A6 (secS s n (d + 1)).length c6)).setCell ⟨w.heap.size + 1, 2, none⟩ (.slice A3 q3 c3)).setCell ⟨w.heap.size + 2, 0, none⟩ (.int .i64 P)).setCell ⟨w.heap.size + 2, 1, none⟩ (.slice A1 z1 c1)).setCell ⟨w.heap.size + 2, 2, none⟩ (.slice A2 z2 c2)) :
    Blk W2 (w.heap.size + 1) 25 #[.int .i64 N, .slice A6 (secS s n (d + 1)).length c6, .slice A3 q3 c3] ∧ Blk W2 (w.heap.size + 2) 43 #[.int .i64 P, .slice A1 z1 c1, .slice A2 z2 c2] ∧
    TakePost w ((n + (d + 1) : Nat) : Int) (secS s n (d + 1)) ((L ++ passed s n d).drop (L.length + d - 32)) (lockN s n d) 0 (.returned (.tuple #[.agg #[.int .i64 N, .slice A6 (secS s n (d + 1)).length c6, .slice A3 q3 c3], .agg #[.int .i64 P, .slice A1 z1 c1, .slice A2 z2 c2], .int .i64 0])) W2 := by
  obtain ⟨hB, hR, hx, -, -⟩ := hI
  obtain ⟨f1, f2, f3, f4⟩ := fin6g w.heap.size (w.heap.size + 1) (w.heap.size + 2) (by omega) (by omega) (by omega) _ _ _ _ _ _ _ _ W7 hB.2.1 hB.2.2.1 _ _ _ _ _ _ W2 hW
  clear hW
  have hbF : Below w.heap.size w W2 := hB.2.2.2.trans f4
  have hCs : ∀ {A : Option Addr} {n : Nat} {xs : List Int}, Kd.C (Kd.int .u8) W7 A n xs → Kd.C (Kd.int .u8) W2 A n xs := fun {A n xs} h => C_sub h (fun h0 a ha => by
    subst ha
    exact f3 _ (C_apart h h0 hB.2.1 (by simp [chain0])) (C_apart h h0 hB.2.2.1 (by simp [chain0])))
  have hR2 : Kd.R (Kd.raw 3) 43 W2 w.heap.size (fun b => w.heap.size + 2 < b) (.slice Av q cv) ys := Kd.R_step hR (fun b hb _ => f3 b (by omega) (by omega))
  have hx2 : RawOf W2 (L ++ passed s n d) ys := (hx.sub (W' := W2) (fun b hb => f3 b (by rcases hb with hb | hb <;> omega) (by rcases hb with hb | hb <;> omega))).to
  obtain ⟨e3, l3, c3'⟩ := Kd.R_reads' hR2
  have hsp : q3 = ((L ++ passed s n d).drop (L.length + d - 32)).length ∧ q3 ≤ c3 ∧ Kd.C R.k43 W2 A3 ((L ++ passed s n d).drop (L.length + d - 32)).length ((L ++ passed s n d).drop (L.length + d - 32)) := by
    rw [← hq, List.length_drop, List.length_append, passed_length, ← hq]
    rcases h3 with ⟨h3, rfl, rfl, rfl⟩ | ⟨h3, rfl, rfl, rfl⟩
    · rw [show q3 - 32 = 0 by omega, List.drop_zero]
      refine ⟨rfl, by omega, C_of_raw (xs := ys) ?_ hx2⟩
      rw [Nat.sub_zero]
      rw [← e3] at c3'
      exact c3'
    · refine ⟨rfl, by omega, C_of_raw (xs := ys.drop (q - 32)) ?_ (hx2.drop (q - 32))⟩
      have := Kd.C_drop (m := q - 32) (c := cv) c3' (by omega) (by omega)
      rw [List.length_drop, ← e3] at this
      exact this
  refine ⟨f1, f2, A6, c6, A3, c3, A1, c1, A2, c2, ?_, l6, hCs C6, by rw [← hsp.1]; exact hsp.2.1, hsp.2.2, by rw [← hz1]; exact k1, by rw [← hz1]; exact hCs C1, by rw [← hz2]; exact k2, by rw [← hz2]; exact hCs C2, hbF⟩
  rw [← hsp.1, hN, hP, ← hz1, ← hz2]
end Go.Proofs.YtdklmafkcbjomaaDoor

/-! RatAd -/
namespace Go.Proofs.YtdklmafkcbjomaaDoor
set_option linter.unusedVariables false
set_option linter.unusedSimpArgs false
open Go.RowKit Go.Shelf Go.Proofs.YtdklmafkcbjomaaDoorW.PrintWords Go.Proofs.YtdklmafkcbjomaaDoorW.PrintLast Go.Proofs.YtdklmafkcbjomaaDoorW.PrintMore Iter
attribute [local go_sem] Oper.semAt_some
set_option maxRecDepth 100000 in
set_option maxHeartbeats 8000000 in
theorem refTake_adv (n d : Nat) (N X : Int) (hN : (n : Int) = N) (hX : ((n + d : Nat) : Int) = X) (As : Option Addr) (s : List Int) (cs : Nat) (Ap : Option Addr) (L : List R.S43) (cp : Nat) (w : World) (hrs : Kd.C (Kd.int .u8) w As s.length s) (hcs : s.length ≤ cs) (hrp : Kd.C R.k43 w Ap L.length L) (hcp : L.length ≤ cp)
    (h32 : s.length = 32) (os : byteOk s = true) (hL : L.length ≤ 32) (hd : d ≤ 100) (hm : n + d < 4294967294) (hx : ∀ j, j < L.length → (L.getD j R.z43).f0 ≠ X) :
    Calls Tryd.prog 22 #[.agg #[.int .i64 N, .slice As s.length cs, .slice Ap L.length cp], .int .i64 X] w (TakePost w ((n + (d + 1) : Nat) : Int) (secS s n (d + 1)) ((L ++ passed s n d).drop (L.length + d - 32)) (lockN s n d) 0) := by
  have HN := Lib.hid hx
  have HB := Lib.hid (refB_start w #[.int .i64 N, .slice As s.length cs, .slice Ap L.length cp])
  have HX := Lib.hid (And.intro hrs (And.intro hcs (And.intro hrp (And.intro hcp hL))))
  have HS := Lib.hid (And.intro h32 (And.intro os (And.intro hd (And.intro hm (And.intro hN hX)))))
  have d0 : decide (X < 0) = false := by rw [decide_eq_false_iff_not]; omega
  have d1 : decide (4294967294 < X) = false := by rw [decide_eq_false_iff_not]; omega
  have d2 : decide (X < N) = false := by rw [decide_eq_false_iff_not]; omega
  have d3 : wrap64 (X - N) = (d : Int) := by unfold wrap64; omega
  have d4 : decide (100 < (d : Int)) = false := by rw [decide_eq_false_iff_not]; omega
  have d5 : wrap64 (X + 1) = X + 1 := by unfold wrap64; omega
  have d6 : decide (4294967294 < X + 1) = false := by rw [decide_eq_false_iff_not]; omega
  have HD := Lib.hid (And.intro d2 (And.intro d3 (And.intro d4 (And.intro d5 d6))))
  clear d2 d3 d4 d5 d6
  clear hrs hcs hrp hcp hL hx h32 os hd hm hN hX
  go_enter Tryd.func22, Tryd.ntmps22
  go_upto_region 3 with fail
  change Code.wp _ _ _ _ (refW w #[.int .i64 N, .slice As s.length cs, .slice Ap L.length cp])
  generalize refW w #[.int .i64 N, .slice As s.length cs, .slice Ap L.length cp] = W1 at *
  have HP := Lib.hid (Kd.C_below HX.out.2.2.1 HB.out.2.2.2)
  have c2 : W1.cell? ⟨w.heap.size, 2, none⟩ = some (.slice Ap L.length cp) := HB.out.1.cell 2
  go_wp2
  go_loop [7] (fun i => ∃ k : Nat, k ≤ L.length ∧ i = .int .i64 (k : Int)) (fun i => L.length - (intOf i).toNat)
  case atStart => exact ⟨0, Nat.zero_le _, rfl⟩
  case round =>
    obtain ⟨k, hk, rfl⟩ := hrel
    have k0 : (0 : Int) ≤ (k : Int) := Int.natCast_nonneg _
    by_cases hlt : k < L.length
    · have e1 : decide ((k : Int) < (L.length : Int)) = true := by simp; omega
      have e2 : (k : Int) < (L.length : Int) := by omega
      obtain ⟨ad, A1, c1, A2, c2', rfl, x0, -, -, -, -, -, -⟩ := R.at_T43 HP.out (k : Int) k0 e2
      have hf : R.rd_T43 L (k : Int) = L.getD k R.z43 := by unfold R.rd_T43; rw [Int.toNat_natCast]
      rw [hf, Int.toNat_natCast] at x0
      have hne := HN.out k hlt
      obtain ⟨Fk, hFk⟩ : ∃ f, (L.getD k R.z43).f0 = f := ⟨_, rfl⟩
      rw [hFk] at x0 hne
      have e3 : (Fk == X) = false := beq_eq_false_iff_ne.mpr hne
      have hk9 : k < 1000 := by have := HX.out.2.2.2.2; omega
      have HM := Lib.hid (show L.length - (intOf (.int .i64 ((k : Int) + 1))).toNat < L.length - (intOf (.int .i64 (k : Int))).toNat by simp [intOf]; omega)
      clear hFk hf hne
      go_wp2
      exact ⟨⟨k + 1, by omega, by go_num⟩, HM.out⟩
    · obtain rfl : k = L.length := by omega
      have e1 : decide ((L.length : Int) < (L.length : Int)) = false := by simp
      obtain ⟨xs, hxs, hrx⟩ := raw_of_C HX.out.2.2.1
      have hal : Below W1.heap.size W1 (W1.alloc (.cells #[] 43)) := (Below.refl _ W1).alloc (Nat.le_refl _) _
      have hgl : w.heap.size + 2 < W1.heap.size := HB.out.2.2.1.lt
      have hbx : Below w.heap.size w (W1.alloc (.cells #[] 43)) := HB.out.2.2.2.trans (hal.mono HB.out.2.2.2.size)
      have H0 := Lib.hid (And.intro (HB.out.below hal) (And.intro hbx (And.intro (raw_lit' W1 w.heap.size (fun b => w.heap.size + 2 < b) hgl HB.out.2.2.2.size) (And.intro hgl (And.intro hxs hrx)))))
      have s2 : (W1.alloc (.cells #[] 43)).cell? ⟨w.heap.size, 2, none⟩ = some (.slice Ap L.length cp) := H0.out.1.1.cell 2
      have e9 : L.length ≤ 32 := HX.out.2.2.2.2
      have i0 : W1.cell? ⟨w.heap.size, 0, none⟩ = some (.int .i64 N) := HB.out.1.cell 0
      obtain ⟨d2, d3, d4, d5, d6⟩ := HD.out
      clear hal hgl hbx hxs hrx hk k0 hlt
      go_wp2_with (first | ((with_reducible refine gate_builtin (b := .append) (xs := #[.tmp 77, .tmp 79]) rfl ?_); at_builtin; refine Kd.R_append_rows (Kd.raw 3) (w0 := w) w.heap.size rfl (.tmp 77) (.tmp 79) 23 43 _ 56 rfl Tryd.underlying23 R.info43 rfl (by decide) (by omega) (.slice (some ⟨W1.heap.size, 0, none⟩) 0 0) [] xs Ap L.length cp (fun b => w.heap.size + 2 < b) (fun _ => False) rfl rfl H0.out.2.2.1 (Kd.C_below H0.out.2.2.2.2.1 H0.out.2.1) (fun _ _ h => h) (fun _ h => h.elim) (fun b hb => by have h1 := H0.out.2.2.2.1; rw [World.size_alloc] at hb; show w.heap.size + 2 < b; omega) H0.out.2.1 H0.out.2.1.size (by simp; omega) ?_; intro v9 W9 ho9 hb9 hg9 hat9; have HI := Lib.hid (refI_start w W1 W9 #[.int .i64 N, .slice As s.length cs, .slice Ap L.length cp] L s As Ap v9 xs HB.out HX.out.1 HS.out.1 H0.out.2.2.2.2.2 ho9 hb9 (app_old hg9)); have j0 : W9.cell? ⟨w.heap.size, 0, none⟩ = some (.int .i64 N) := HI.out.1.1.cell 0; have j1 : W9.cell? ⟨w.heap.size, 1, none⟩ = some (.slice As s.length cs) := HI.out.1.1.cell 1; clear s2 ho9 hb9 hg9 hat9))
      clear j0 j1 i0 c2 e1 d2 d3 d4 d6
      go_loopw [9, 10, 11] (fun vl vs vn wr => ∃ (k : Nat) (ys : List (List Value)) (A : Option Addr) (c : Nat), k ≤ d ∧ vn = .int .i64 ((n + k : Nat) : Int) ∧ vs = .slice A (secS s n k).length c ∧ (secS s n k).length ≤ c ∧ Hid (RefI w #[.int .i64 N, .slice As s.length cs, .slice Ap L.length cp] (L ++ passed s n k) vl ys A (secS s n k) wr)) (fun _ _ vn _ => n + d - (intOf vn).toNat)
      case atStart => exact ⟨0, xs, As, cs, Nat.zero_le _, by rw [Nat.add_zero, HS.out.2.2.2.2.1], rfl, HX.out.2.1, Lib.hid (by rw [show passed s n 0 = [] from rfl, List.append_nil]; exact HI.out)⟩
      case round =>
        clear HI d5
        obtain ⟨k, ys, A, c, hk, rfl, rfl, hlc, HR⟩ := hrel
        obtain ⟨Al, cl, rfl, hll, hCl⟩ := Kd.R_reads HR.out.2.1
        have HLL := Lib.hid (And.intro hll hlc)
        clear hll hCl hlc
        obtain ⟨P, hP⟩ : ∃ P : Int, ((n + k : Nat) : Int) = P := ⟨_, rfl⟩
        obtain ⟨S, hS⟩ : ∃ S, secS s n k = S := ⟨_, rfl⟩
        have hS32 : S.length = 32 := by rw [← hS]; exact secS_length s n HS.out.1 k
        have hSo : byteOk S = true := by rw [← hS]; exact byteOk_secS s n HS.out.2.1 k
        have hm' := HS.out.2.2.2.1
        have hlk : R.pyxref13_Lock.f S P = some (P, (lockN s n k).f1, (lockN s n k).f2) := by
          rw [← hP, refLock_some S (n + k) (by omega) hS32 hSo, ← hS]; rfl
        have hnx : R.pyxref13_Next.f S P = some (nextS S (n + k)) := by
          rw [← hP]; exact refNext_some S (n + k) (by omega) hS32 hSo
        rw [hP]
        rw [hS] at HR HLL ⊢
        have HK := Lib.hid (And.intro hlk (And.intro hnx (And.intro hP hS)))
        by_cases hkd : k < d
        · have dP : decide (P < X) = true := by rw [decide_eq_true_eq, ← hP, ← HS.out.2.2.2.2.2]; omega
          have hwP : wrap64 (P + 1) = ((n + (k + 1) : Nat) : Int) := by rw [← hP]; unfold wrap64; omega
          have HWP := Lib.hid hwP
          clear hlk hnx hS32 hSo hm' hP hS hwP
          go_wp2_with fail
          have lp1 : 0 < (lockN s n k).f1.length := by rw [lockN_l1]; decide
          have lp2 : 0 < (lockN s n k).f2.length := by rw [lockN_l2]; decide
          have HLP := Lib.hid (And.intro lp1 lp2)
          clear lp1 lp2
          refine (R.pyxref13_Lock.calls A c S P P (lockN s n k).f1 (lockN s n k).f2 wr HR.out.2.2.2.1 HLL.out.2 HK.out.1).mono ?_
          rintro e W2 ⟨v1, v2, rfl, hR1, hR2, hb⟩
          obtain ⟨g1, c1, rfl, hg1, hg1b, t1⟩ := Kd.R_form hR1 HLP.out.1
          obtain ⟨g2, c2, rfl, hg2, hg2b, t2⟩ := Kd.R_form hR2 HLP.out.2
          obtain ⟨-, lk1, hk1⟩ := Kd.R_reads' hR1
          obtain ⟨-, lk2, hk2⟩ := Kd.R_reads' hR2
          have hgw : w.heap.size + 2 < wr.heap.size := HR.out.1.2.2.1.lt
          have HI2 := Lib.hid (HR.out.below hb)
          have HL2 := Lib.hid (show LockIn (okT w.heap.size (w.heap.size + 2) W2.heap.size W2) W2 (lockN s n k) [.int .i64 P, .slice (some ⟨g1, 0, none⟩) (lockN s n k).f1.length c1, .slice (some ⟨g2, 0, none⟩) (lockN s n k).f2.length c2] from
            ⟨_, _, _, _, by rw [lockN_f0, HK.out.2.2.1], lk1, hk1, lk2, hk2, fun _ a ha => by cases ha; exact .inr ⟨by show _ < g1; omega, hg1b, t1⟩, fun _ a ha => by cases ha; exact .inr ⟨by show _ < g2; omega, hg2b, t2⟩⟩)
          have hsz2 : wr.heap.size ≤ W2.heap.size := hb.size
          have HZ2 := Lib.hid (And.intro hgw hsz2)
          clear hR1 hR2 t1 t2 hk1 hk2 lk1 lk2 hb hg1 hg1b hg2 hg2b hgw hsz2
          generalize (lockN s n k).f1.length = z1 at *
          generalize (lockN s n k).f2.length = z2 at *
          have hal : Below W2.heap.size W2 (W2.alloc (.cells #[.int .i64 P, .slice (some ⟨g1, 0, none⟩) z1 c1, .slice (some ⟨g2, 0, none⟩) z2 c2] 43)) := (Below.refl _ W2).alloc (Nat.le_refl _) _
          have H3 := Lib.hid (And.intro (HI2.out.1.2.2.2.trans (hal.mono HI2.out.1.2.2.2.size)) (And.intro (Kd.R_alloc HI2.out.2.1 (.cells #[.int .i64 P, .slice (some ⟨g1, 0, none⟩) z1 c1, .slice (some ⟨g2, 0, none⟩) z2 c2] 43)) (And.intro (c_lock_lit W2 (.int .i64 P) (.slice (some ⟨g1, 0, none⟩) z1 c1) (.slice (some ⟨g2, 0, none⟩) z2 c2) (by intro u hu; simp at hu; rcases hu with rfl | rfl | rfl <;> rfl)) (show ys.length ≤ 1000 by rw [HR.out.2.2.1.1, List.length_append, passed_length]; have := HX.out.2.2.2.2; have := HS.out.2.2.1; omega))))
          clear hal
          go_wp2_with (first | ((with_reducible refine gate_builtin (b := .append) (xs := #[.tmp 90, .tmp 94]) rfl ?_); at_builtin; refine Kd.R_append_rows (Kd.raw 3) (w0 := w) w.heap.size rfl (.tmp 90) (.tmp 94) 23 43 _ 56 rfl Tryd.underlying23 R.info43 rfl (by decide) (by omega) (.slice Al ys.length cl) ys [[.int .i64 P, .slice (some ⟨g1, 0, none⟩) z1 c1, .slice (some ⟨g2, 0, none⟩) z2 c2]] (some ⟨W2.heap.size, 0, none⟩) 1 _ (fun b => w.heap.size + 2 < b) (fun _ => False) rfl rfl H3.out.2.1 H3.out.2.2.1 (fun _ _ h => h) (fun _ h => h.elim) (fun b hb => by have h1 := HZ2.out; rw [World.size_alloc] at hb; show w.heap.size + 2 < b; omega) H3.out.1 H3.out.1.size (by have := H3.out.2.2.2; omega) ?_; intro v4 W4 ho4 hb4 hg4 hat4; have HI4 := Lib.hid (HI2.out.append HL2.out ho4 hg4); clear ho4 hb4 hg4 hat4))
          refine (R.pyxref13_Next.calls A c S P (nextS S (n + k)) W4 HI4.out.2.2.2.1 HLL.out.2 HK.out.2.1).mono ?_
          rintro e W5 ⟨v5, rfl, hR5, hb5⟩
          have hl5 := nextS_length S (n + k)
          obtain ⟨g5, c5, rfl, hg5, hg5b, t5⟩ := Kd.R_form hR5 (by rw [hl5]; decide)
          obtain ⟨-, lk5, hk5⟩ := Kd.R_reads' hR5
          have hg4 : w.heap.size + 2 < W4.heap.size := HI4.out.1.2.2.1.lt
          have es : secS s n (k + 1) = nextS S (n + k) := by rw [← HK.out.2.2.2]; rfl
          have HI5 := Lib.hid (show RefI w #[.int .i64 N, .slice As s.length cs, .slice Ap L.length cp] (L ++ passed s n (k + 1)) v4 (ys ++ [[.int .i64 P, .slice (some ⟨g1, 0, none⟩) z1 c1, .slice (some ⟨g2, 0, none⟩) z2 c2]]) (some ⟨g5, 0, none⟩) (secS s n (k + 1)) W5 by
            rw [passed_succ, ← List.append_assoc, es]
            exact (HI4.out.below hb5).secret hk5 (fun a ha => by cases ha; exact .inr ⟨by show _ < g5; omega, hg5b, t5⟩))
          have HL5 := Lib.hid (And.intro es lk5)
          clear hR5 hb5 hk5 lk5 t5 hg5 hg5b hg4 es HI4 H3 HI2 HL2
          go_wp2
          rw [HWP.out]
          refine ⟨⟨k + 1, _, some ⟨g5, 0, none⟩, c5, by omega, rfl, by rw [HL5.out.1, nextS_length], by rw [HL5.out.1]; exact HL5.out.2, HI5⟩, ?_⟩
          rw [← HK.out.2.2.1]
          simp [intOf]
          omega
        · obtain rfl : k = d := by omega
          have dP : decide (P < X) = false := by rw [decide_eq_false_iff_not, ← hP, ← HS.out.2.2.2.2.2]; omega
          have ePX : P = X := by rw [← hP, ← HS.out.2.2.2.2.2]
          have hq : ys.length = L.length + k := by rw [HR.out.2.2.1.1, List.length_append, passed_length]
          have hq2 : ys.length ≤ 200 := by have := HX.out.2.2.2.2; have := HS.out.2.2.1; omega
          have hqc : ys.length ≤ cl := HLL.out.1
          have w1 : wrap64 ((ys.length : Int) - 32) = (ys.length : Int) - 32 := by unfold wrap64; omega
          have w2 : wrap64 (X + 1) = X + 1 := by rw [← ePX, ← hP]; unfold wrap64; omega
          have hXe : X + 1 = ((n + (k + 1) : Nat) : Int) := by rw [← ePX, ← hP]; omega
          have HQ := Lib.hid (And.intro hq (And.intro hXe (And.intro ePX HK.out)))
          have HQQ := Lib.hid HR.out
          clear hlk hnx hS32 hSo hm' hP hS hq hXe hk ePX
          generalize hgq : ys.length = q at *
          have HGQ := Lib.hid hgq
          clear hgq
          by_cases h32q : 32 < q
          all_goals
            first
              | (have dq : decide ((32 : Int) < (q : Int)) = true := by rw [decide_eq_true_eq]; omega)
              | (have dq : decide ((32 : Int) < (q : Int)) = false := by rw [decide_eq_false_iff_not]; omega)
            go_wp2_with fail
            have es : secS s n (k + 1) = nextS S (n + k) := by rw [← HQ.out.2.2.2.2.2.2]; rfl
            refine (R.pyxref13_Next.calls A c S X (secS s n (k + 1)) wr HQQ.out.2.2.2.1 HLL.out.2 (by rw [es, ← HQ.out.2.2.1]; exact HQ.out.2.2.2.2.1)).mono ?_
            rintro e W6 ⟨v6, rfl, hR6, hb6⟩
            obtain ⟨A6, c6, rfl, lk6, hk6⟩ := Kd.R_reads hR6
            have HI6 := Lib.hid (HQQ.out.below hb6)
            have HL6 := Lib.hid (And.intro lk6 hk6)
            clear hR6 lk6 hk6 hb6 es
            go_wp2_with fail
            refine (R.pyxref13_Lock.calls A c S X X (lockN s n k).f1 (lockN s n k).f2 W6 HI6.out.2.2.2.1 HLL.out.2 (by rw [← HQ.out.2.2.1]; exact HQ.out.2.2.2.1)).mono ?_
            rintro e W7 ⟨v1, v2, rfl, hR1, hR2, hb7⟩
            obtain ⟨A1, c1, rfl, lk1, hk1⟩ := Kd.R_reads hR1
            obtain ⟨A2, c2, rfl, lk2, hk2⟩ := Kd.R_reads hR2
            have HI7 := Lib.hid (HI6.out.below hb7)
            have HL7 := Lib.hid (And.intro (Kd.C_below HL6.out.2 hb7) (And.intro lk1 (And.intro hk1 (And.intro lk2 hk2))))
            clear hR1 hR2 lk1 lk2 hk1 hk2 hb7 HI6
            have b1 := HI7.out.1.2.1
            have b2 := HI7.out.1.2.2.1
            have r0 : W7.frozen? ⟨w.heap.size + 1, 0, none⟩ = false := b1.frozen 0
            have r1 : W7.frozen? ⟨w.heap.size + 1, 1, none⟩ = false := b1.frozen 1
            have r2 : W7.frozen? ⟨w.heap.size + 1, 2, none⟩ = false := b1.frozen 2
            have s0 : W7.frozen? ⟨w.heap.size + 2, 0, none⟩ = false := b2.frozen 0
            have s1 : W7.frozen? ⟨w.heap.size + 2, 1, none⟩ = false := b2.frozen 1
            have s2 : W7.frozen? ⟨w.heap.size + 2, 2, none⟩ = false := b2.frozen 2
            have q0 : W7.cell? ⟨w.heap.size + 1, 0, none⟩ = some (.int .i64 0) := b1.cell 0
            have q1 : W7.cell? ⟨w.heap.size + 1, 1, none⟩ = some (.slice none 0 0) := b1.cell 1
            have q2 : W7.cell? ⟨w.heap.size + 1, 2, none⟩ = some (.slice none 0 0) := b1.cell 2
            have l0 : W7.cell? ⟨w.heap.size + 2, 0, none⟩ = some (.int .i64 0) := b2.cell 0
            have l1 : W7.cell? ⟨w.heap.size + 2, 1, none⟩ = some (.slice none 0 0) := b2.cell 1
            have l2 : W7.cell? ⟨w.heap.size + 2, 2, none⟩ = some (.slice none 0 0) := b2.cell 2
            have HF0 := Lib.hid (show X = (lockN s n k).f0 by rw [lockN_f0, HQ.out.2.2.2.2.2.1, HQ.out.2.2.1])
            clear b1 b2
            generalize hz1 : (lockN s n k).f1.length = z1 at *
            generalize hz2 : (lockN s n k).f2.length = z2 at *
            have HZ := Lib.hid (And.intro hz1 hz2)
            clear hz1 hz2
            go_wp2
            exact refTake_ret _ w.heap.size _ _ _ _ _ _ _ _ (refAdv_post w W7 _ n k s L (X + 1) N As cs Ap cp Al q cl ys A S A6 c6 X A1 A2 c1 c2 z1 z2 _ _ _ HI7.out HQ.out.1 HQ.out.2.1 HL6.out.1 HL7.out.1 HF0.out HZ.out.1.symm HZ.out.2.symm HL7.out.2.1 HL7.out.2.2.1 HL7.out.2.2.2.1 HL7.out.2.2.2.2 (by first | exact .inl ⟨by omega, rfl, rfl, rfl⟩ | exact .inr ⟨by omega, by rw [if_neg (by omega)], rfl, rfl⟩) rfl) rfl rfl rfl
end Go.Proofs.YtdklmafkcbjomaaDoor

/-! RatAe -/
namespace Go.Proofs.YtdklmafkcbjomaaDoor
set_option linter.unusedVariables false
set_option linter.unusedSimpArgs false
open Go.RowKit Go.Shelf Go.Proofs.YtdklmafkcbjomaaDoorW.PrintWords Go.Proofs.YtdklmafkcbjomaaDoorW.PrintLast Go.Proofs.YtdklmafkcbjomaaDoorW.PrintMore Iter
theorem idxL_of_none : ∀ (L : List R.S43) (X : Int), idxL L X = none → ∀ j, j < L.length → (L.getD j R.z43).f0 ≠ X
  | [], X, h, j, hj => by simp at hj
  | x :: xs, X, h, j, hj => by
    unfold idxL at h
    by_cases e : x.f0 = X
    · rw [if_pos e] at h; simp at h
    · rw [if_neg e] at h
      cases j with
      | zero => simpa using e
      | succ j =>
        have := idxL_of_none xs X (by cases hh : idxL xs X with | none => rfl | some k => rw [hh] at h; simp at h) j (by simpa using hj)
        simpa using this
theorem refTake_any (n : Nat) (N X : Int) (hN : (n : Int) = N) (As : Option Addr) (s : List Int) (cs : Nat) (Ap : Option Addr) (L : List R.S43) (cp : Nat) (w : World) (n' : Nat) (N' : Int) (s' : List Int) (L' : List R.S43) (x : R.S43) (er : Int)
    (hr : takeF n s L X = (n', s', L', x, er)) (hN' : (n' : Int) = N') (h : Good n s L) (hrs : Kd.C (Kd.int .u8) w As s.length s) (hcs : s.length ≤ cs) (hrp : Kd.C R.k43 w Ap L.length L) (hcp : L.length ≤ cp) :
    Calls Tryd.prog 22 #[.agg #[.int .i64 N, .slice As s.length cs, .slice Ap L.length cp], .int .i64 X] w (TakePost w N' s' L' x er) := by
  subst hN hN'
  have hL : L.length ≤ 1000 := by have := h.2.2.2.1; omega
  by_cases h1 : X < 0 ∨ 4294967294 < X
  · rw [takeF_out n s L X h1] at hr
    cases hr
    exact refTake_out n X As s cs Ap L cp w hrs hcs hrp hcp h1
  cases hi : idxL L X with
  | some k =>
    rw [takeF_spare n s L X k (by omega) (by omega) hi] at hr
    cases hr
    exact refTake_spare n X k As s cs Ap L cp w hrs hcs hrp hcp hL (by omega) (by omega) hi
  | none =>
    have hx := idxL_of_none L X hi
    by_cases h2 : X < (n : Int)
    · rw [takeF_stale n s L X (by omega) h2 h.1 hi] at hr
      cases hr
      exact refTake_stale n X As s cs Ap L cp w hrs hcs hrp hcp hL (by omega) (by omega) hx h2
    · by_cases h3 : 100 < X - (n : Int) ∨ 4294967294 ≤ X
      · rw [takeF_far h X (by omega) (by omega) h3] at hr
        cases hr
        by_cases h4 : 100 < X - (n : Int)
        · exact refTake_far n X As s cs Ap L cp w hrs hcs hrp hcp hL (by omega) (by omega) hx (by omega) (by omega) h4
        · exact refTake_last n X As s cs Ap L cp w hrs hcs hrp hcp hL (by omega) (by omega) hx (by omega) (by omega) (by omega) (by omega)
      · obtain ⟨d, hd⟩ : ∃ d : Nat, (X - (n : Int)).toNat = d := ⟨_, rfl⟩
        obtain rfl : X = ((n + d : Nat) : Int) := by omega
        rw [takeF_next h d (by omega) (by omega)] at hr
        cases hr
        exact refTake_adv n d n _ rfl rfl As s cs Ap L cp w hrs hcs hrp hcp h.2.1 h.2.2.1 h.2.2.2.1 (by omega) (by omega) hx
end Go.Proofs.YtdklmafkcbjomaaDoor
