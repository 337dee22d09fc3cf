/-
  The lower layers, walked and in closed forms, part 8: SigG, SigH, SigP, RowsIn, StructIn.
-/
import Derived.Test.YtifpdpfjhjoieaaX0
import Derived.Test.YtifpdpfjhjoieaaX1
import Derived.Test.YtifpdpfjhjoieaaX7
import Derived.Test.YtifpdpfjhjoieaaJSized
import Derived.Test.YtifpdpfjhjoieaaJWords
import Derived.Deep.Matrix
import Derived.SizedLaws
/-! SigG -/
namespace Go.Proofs.Ytifpdpfjhjoieaa
set_option linter.unusedVariables false
set_option linter.unusedSimpArgs false
open Go.RowKit Go.Shelf Iter Go.Proofs.YtifpdpfjhjoieaaW.PrintWords Go.Proofs.YtifpdpfjhjoieaaW.PrintLast
attribute [local go_sem] Oper.semAt_some
def labX : ByteArray := ⟨#[120]⟩
def labE : ByteArray := ⟨#[]⟩
def sh07p : List Int := pubOf Z32
def sh07s : List Int := sigTag sh07p labX [1]
def sh07h : List Int := pubOf sh07s
def sh07b : List Int := sealOf (wrapKey sh07p sh07h []) (wrapNonce sh07p sh07h []) [] []
theorem sh07p_length : sh07p.length = 32 := pubOf_length _
theorem sh07h_length : sh07h.length = 32 := pubOf_length _
theorem byteOk_sh07p : byteOk sh07p = true := byteOk_pubOf _
theorem byteOk_sh07h : byteOk sh07h = true := byteOk_pubOf _
theorem sh07s_length : sh07s.length = 32 := sigTag_length _ _ _
theorem byteOk_sh07s : byteOk sh07s = true := byteOk_sigTag _ _ _
theorem sh07_sign : P.sig_Sign.f Z32 labX [1] = some (sh07s, 0) := by
  unfold P.sig_Sign.f
  rw [if_pos (by decide), if_pos (by decide)]
  rfl
theorem sh07_wrap : P.sig_Wrap.f sh07p sh07s [] [] = some (sh07h, sh07b, 0) := by
  unfold P.sig_Wrap.f
  rw [if_pos sh07s_length, if_pos byteOk_sh07s, if_pos sh07p_length, if_pos ⟨byteOk_sh07p, by decide⟩]
  rfl
theorem sh07_unwrap : P.sig_Unwrap.f Z32 sh07h [] sh07b = some ([], 0) := by
  unfold P.sig_Unwrap.f
  rw [if_pos (by decide), if_pos (by decide), if_pos sh07h_length, if_pos ⟨byteOk_sh07h, rfl, byteOk_sealOf _ _ _ _, by decide, by unfold sh07b; rw [sealOf_length]; decide⟩]
  exact congrArg some (open_seal _ _ _ _ (wrapKey_length _ _ _) (wrapNonce_length _ _ _) rfl)
theorem smallT_p (b : List Int) (h : byteOk b = true) (hl : b.length ≤ 300000) : smallT sh07p labX b := ⟨byteOk_pubOf _, h, by unfold sh07p; rw [pubOf_length]; decide, by decide, hl⟩
theorem sh07_v1 : P.sig_Verify.f sh07p labX [1] sh07s = some 0 := by
  unfold P.sig_Verify.f
  rw [if_pos sh07p_length, if_pos ⟨smallT_p _ (by decide) (by decide), byteOk_sh07s⟩, if_pos (by unfold sh07s; exact beq_self_eq_true _)]
theorem sh07_ne : (sigTag sh07p labX [2] == sh07s) = false := by decide +kernel
theorem sh07_v2 : P.sig_Verify.f sh07p labX [2] sh07s = some 5 := by
  unfold P.sig_Verify.f
  rw [if_pos sh07p_length, if_pos ⟨smallT_p _ (by decide) (by decide), byteOk_sh07s⟩, if_neg (by rw [sh07_ne]; decide)]
theorem sh07 : ∃ p s half b, P.sig_Public.f Z32 = some (p, 0) ∧ P.sig_Sign.f Z32 labX [1] = some (s, 0) ∧ P.sig_Wrap.f p s [] [] = some (half, b, 0) ∧ P.sig_Unwrap.f Z32 half [] b = some ([], 0) ∧ P.sig_Verify.f p labX [1] s = some 0 ∧ P.sig_Verify.f p labX [2] s = some 5 ∧ p.length = 32 ∧ half.length = 32 ∧ b.length = 32 :=
  ⟨sh07p, sh07s, sh07h, sh07b, public_32 _ (by decide) (by decide), sh07_sign, sh07_wrap, sh07_unwrap, sh07_v1, sh07_v2, pubOf_length _, pubOf_length _, sealOf_length _ _ _ _⟩
namespace P
def pyxlaw07_shown.f : Option Bool := some true
set_option maxRecDepth 100000 in
set_option maxHeartbeats 4000000 in
theorem pyxlaw07_shown.calls (r : Bool) (w : World) (h : pyxlaw07_shown.f = some r) : Calls Try.prog 26 #[] w fun e w' => e = .returned (.bool r) ∧ Below w.heap.size w w' := by
  obtain rfl : true = r := Option.some.inj h
  clear h
  obtain ⟨p, s, half, b, E1, E2, E3, E4, E5, E6, L1, L2, L3⟩ := sh07
  have HE := Lib.hid (And.intro E1 (And.intro E2 (And.intro E3 (And.intro E4 (And.intro E5 E6)))))
  have d1 : ((p.length : Int) == 32) = true := by rw [L1]; rfl
  have d2 : ((half.length : Int) == 32) = true := by rw [L2]; rfl
  have d3 : ((b.length : Int) == 32) = true := by rw [L3]; rfl
  clear E1 E2 E3 E4 E5 E6 L1 L2 L3
  have m32 : Hid (∀ W : World, (Instr.makeSlice 22 (.int .i64 32) (.int .i64 32)).run Try.prog W = .ok (.slice (some ⟨W.heap.size, 0, none⟩) 32 32) (W.alloc (.cells (nums .u8 Z32).toArray 5))) := Lib.hid (madeN 32 32 rfl (by decide))
  go_enter Try.func26, Try.ntmps26
  go_wp2_with fail
  rw [m32.out]
  have H0_ := Lib.hid (And.intro (show Kd.C (Kd.int .u8) (w.alloc (Obj.cells (nums .u8 Z32).toArray 5)) (some ⟨w.heap.size, 0, none⟩) 32 Z32 from c_lit w 5 Z32 (by decide)) ((Below.refl w.heap.size w).alloc (Nat.le_refl _) (Obj.cells (nums .u8 Z32).toArray 5)))
  generalize (w.alloc (Obj.cells (nums .u8 Z32).toArray 5)) = W1_ at *
  go_wp2_with fail
  refine (P.sig_Public.calls (some ⟨w.heap.size, 0, none⟩) 32 Z32 p 0 W1_ H0_.out.1 (Nat.le_refl _) HE.out.1).mono ?_
  rintro e_ W2_ ⟨vvp, rfl, hRvp_, hb_⟩
  obtain ⟨Avp, cvp, rfl, hcvp, hCvp_⟩ := Kd.R_reads hRvp_
  clear hRvp_
  have H1_ := Lib.hid (And.intro (hCvp_) (And.intro (Kd.C_below H0_.out.1 hb_) (H0_.out.2.trans (hb_.mono H0_.out.2.size))))
  clear H0_
  clear hb_ hCvp_
  go_wp2_with fail
  have H2_ := Lib.hid (And.intro (show Kd.C (Kd.int .u8) (W2_.alloc (Obj.cells #[Value.int IntKind.u8 1] 5)) (some ⟨W2_.heap.size, 0, none⟩) 1 [1] from c_lit W2_ 5 [1] (by decide)) (And.intro (Kd.C_alloc H1_.out.1 (Obj.cells #[Value.int IntKind.u8 1] 5)) (And.intro (Kd.C_alloc H1_.out.2.1 (Obj.cells #[Value.int IntKind.u8 1] 5)) (Below.alloc H1_.out.2.2 (Below.size H1_.out.2.2) (Obj.cells #[Value.int IntKind.u8 1] 5)))))
  clear H1_
  generalize (W2_.alloc (Obj.cells #[Value.int IntKind.u8 1] 5)) = W3_ at *
  refine (P.sig_Sign.calls (some ⟨w.heap.size, 0, none⟩) 32 Z32 labX (some ⟨W2_.heap.size, 0, none⟩) 1 [1] s 0 W3_ H2_.out.2.2.1 (Nat.le_refl _) H2_.out.1 (Nat.le_refl _) HE.out.2.1).mono ?_
  rintro e_ W4_ ⟨vvs, rfl, hRvs_, hb_⟩
  obtain ⟨Avs, cvs, rfl, hcvs, hCvs_⟩ := Kd.R_reads hRvs_
  clear hRvs_
  have H3_ := Lib.hid (And.intro (hCvs_) (And.intro (Kd.C_below H2_.out.1 hb_) (And.intro (Kd.C_below H2_.out.2.1 hb_) (And.intro (Kd.C_below H2_.out.2.2.1 hb_) (H2_.out.2.2.2.trans (hb_.mono H2_.out.2.2.2.size))))))
  clear H2_
  clear hb_ hCvs_
  go_wp2_with fail
  refine (P.sig_Wrap.calls Avp cvp p Avs cvs s none 0 [] none 0 [] half b 0 W4_ H3_.out.2.2.1 hcvp H3_.out.1 hcvs (Kd.C_nil _ _) (Nat.le_refl _) (Kd.C_nil _ _) (Nat.le_refl _) HE.out.2.2.1).mono ?_
  rintro e_ W5_ ⟨vvh, vvb, rfl, hRvh_, hRvb_, hb_⟩
  obtain ⟨Avh, cvh, rfl, hcvh, hCvh_⟩ := Kd.R_reads hRvh_
  clear hRvh_
  obtain ⟨Avb, cvb, rfl, hcvb, hCvb_⟩ := Kd.R_reads hRvb_
  clear hRvb_
  have H4_ := Lib.hid (And.intro (hCvh_) (And.intro (hCvb_) (And.intro (Kd.C_below H3_.out.1 hb_) (And.intro (Kd.C_below H3_.out.2.1 hb_) (And.intro (Kd.C_below H3_.out.2.2.1 hb_) (And.intro (Kd.C_below H3_.out.2.2.2.1 hb_) (H3_.out.2.2.2.2.trans (hb_.mono H3_.out.2.2.2.2.size))))))))
  clear H3_
  clear hb_ hCvh_ hCvb_
  go_wp2_with fail
  refine (P.sig_Unwrap.calls (some ⟨w.heap.size, 0, none⟩) 32 Z32 Avh cvh half none 0 [] Avb cvb b [] 0 W5_ H4_.out.2.2.2.2.2.1 (Nat.le_refl _) H4_.out.1 hcvh (Kd.C_nil _ _) (Nat.le_refl _) H4_.out.2.1 hcvb HE.out.2.2.2.1).mono ?_
  rintro e_ W6_ ⟨vvx, rfl, hRvx_, hb_⟩
  obtain ⟨Avx, cvx, rfl, hcvx, hCvx_⟩ := Kd.R_reads hRvx_
  clear hRvx_
  clear hCvx_
  have H5_ := Lib.hid (And.intro (Kd.C_below H4_.out.1 hb_) (And.intro (Kd.C_below H4_.out.2.1 hb_) (And.intro (Kd.C_below H4_.out.2.2.1 hb_) (And.intro (Kd.C_below H4_.out.2.2.2.1 hb_) (And.intro (Kd.C_below H4_.out.2.2.2.2.1 hb_) (And.intro (Kd.C_below H4_.out.2.2.2.2.2.1 hb_) (H4_.out.2.2.2.2.2.2.trans (hb_.mono H4_.out.2.2.2.2.2.2.size))))))))
  clear H4_
  clear hb_
  go_wp2_with fail
  have H6_ := Lib.hid (And.intro (show Kd.C (Kd.int .u8) (W6_.alloc (Obj.cells #[Value.int IntKind.u8 1] 5)) (some ⟨W6_.heap.size, 0, none⟩) 1 [1] from c_lit W6_ 5 [1] (by decide)) (And.intro (Kd.C_alloc H5_.out.1 (Obj.cells #[Value.int IntKind.u8 1] 5)) (And.intro (Kd.C_alloc H5_.out.2.1 (Obj.cells #[Value.int IntKind.u8 1] 5)) (And.intro (Kd.C_alloc H5_.out.2.2.1 (Obj.cells #[Value.int IntKind.u8 1] 5)) (And.intro (Kd.C_alloc H5_.out.2.2.2.1 (Obj.cells #[Value.int IntKind.u8 1] 5)) (And.intro (Kd.C_alloc H5_.out.2.2.2.2.1 (Obj.cells #[Value.int IntKind.u8 1] 5)) (And.intro (Kd.C_alloc H5_.out.2.2.2.2.2.1 (Obj.cells #[Value.int IntKind.u8 1] 5)) (Below.alloc H5_.out.2.2.2.2.2.2 (Below.size H5_.out.2.2.2.2.2.2) (Obj.cells #[Value.int IntKind.u8 1] 5)))))))))
  clear H5_
  generalize (W6_.alloc (Obj.cells #[Value.int IntKind.u8 1] 5)) = W7_ at *
  refine (P.sig_Verify.calls Avp cvp p labX (some ⟨W6_.heap.size, 0, none⟩) 1 [1] Avs cvs s 0 W7_ H6_.out.2.2.2.2.2.1 hcvp H6_.out.1 (Nat.le_refl _) H6_.out.2.2.2.1 hcvs HE.out.2.2.2.2.1).mono ?_
  rintro e_ W8_ ⟨rfl, hb_⟩
  have H7_ := Lib.hid (And.intro (Kd.C_below H6_.out.1 hb_) (And.intro (Kd.C_below H6_.out.2.1 hb_) (And.intro (Kd.C_below H6_.out.2.2.1 hb_) (And.intro (Kd.C_below H6_.out.2.2.2.1 hb_) (And.intro (Kd.C_below H6_.out.2.2.2.2.1 hb_) (And.intro (Kd.C_below H6_.out.2.2.2.2.2.1 hb_) (And.intro (Kd.C_below H6_.out.2.2.2.2.2.2.1 hb_) (H6_.out.2.2.2.2.2.2.2.trans (hb_.mono H6_.out.2.2.2.2.2.2.2.size)))))))))
  clear H6_
  clear hb_
  go_wp2_with fail
  have H8_ := Lib.hid (And.intro (show Kd.C (Kd.int .u8) (W8_.alloc (Obj.cells #[Value.int IntKind.u8 2] 5)) (some ⟨W8_.heap.size, 0, none⟩) 1 [2] from c_lit W8_ 5 [2] (by decide)) (And.intro (Kd.C_alloc H7_.out.1 (Obj.cells #[Value.int IntKind.u8 2] 5)) (And.intro (Kd.C_alloc H7_.out.2.1 (Obj.cells #[Value.int IntKind.u8 2] 5)) (And.intro (Kd.C_alloc H7_.out.2.2.1 (Obj.cells #[Value.int IntKind.u8 2] 5)) (And.intro (Kd.C_alloc H7_.out.2.2.2.1 (Obj.cells #[Value.int IntKind.u8 2] 5)) (And.intro (Kd.C_alloc H7_.out.2.2.2.2.1 (Obj.cells #[Value.int IntKind.u8 2] 5)) (And.intro (Kd.C_alloc H7_.out.2.2.2.2.2.1 (Obj.cells #[Value.int IntKind.u8 2] 5)) (And.intro (Kd.C_alloc H7_.out.2.2.2.2.2.2.1 (Obj.cells #[Value.int IntKind.u8 2] 5)) (Below.alloc H7_.out.2.2.2.2.2.2.2 (Below.size H7_.out.2.2.2.2.2.2.2) (Obj.cells #[Value.int IntKind.u8 2] 5))))))))))
  clear H7_
  generalize (W8_.alloc (Obj.cells #[Value.int IntKind.u8 2] 5)) = W9_ at *
  refine (P.sig_Verify.calls Avp cvp p labX (some ⟨W8_.heap.size, 0, none⟩) 1 [2] Avs cvs s 5 W9_ H8_.out.2.2.2.2.2.2.1 hcvp H8_.out.1 (Nat.le_refl _) H8_.out.2.2.2.2.1 hcvs HE.out.2.2.2.2.2).mono ?_
  rintro e_ W10_ ⟨rfl, hb_⟩
  have H9_ := Lib.hid (And.intro (Kd.C_below H8_.out.1 hb_) (And.intro (Kd.C_below H8_.out.2.1 hb_) (And.intro (Kd.C_below H8_.out.2.2.1 hb_) (And.intro (Kd.C_below H8_.out.2.2.2.1 hb_) (And.intro (Kd.C_below H8_.out.2.2.2.2.1 hb_) (And.intro (Kd.C_below H8_.out.2.2.2.2.2.1 hb_) (And.intro (Kd.C_below H8_.out.2.2.2.2.2.2.1 hb_) (And.intro (Kd.C_below H8_.out.2.2.2.2.2.2.2.1 hb_) (H8_.out.2.2.2.2.2.2.2.2.trans (hb_.mono H8_.out.2.2.2.2.2.2.2.2.size))))))))))
  clear H8_
  clear hb_
  go_wp2_with fail
  refine (P.sig_Verify.calls none 0 [] labE none 0 [] none 0 [] 1 W10_ (Kd.C_nil _ _) (Nat.le_refl _) (Kd.C_nil _ _) (Nat.le_refl _) (Kd.C_nil _ _) (Nat.le_refl _) rfl).mono ?_
  rintro e_ W11_ ⟨rfl, hb_⟩
  have H10_ := Lib.hid (And.intro (Kd.C_below H9_.out.1 hb_) (And.intro (Kd.C_below H9_.out.2.1 hb_) (And.intro (Kd.C_below H9_.out.2.2.1 hb_) (And.intro (Kd.C_below H9_.out.2.2.2.1 hb_) (And.intro (Kd.C_below H9_.out.2.2.2.2.1 hb_) (And.intro (Kd.C_below H9_.out.2.2.2.2.2.1 hb_) (And.intro (Kd.C_below H9_.out.2.2.2.2.2.2.1 hb_) (And.intro (Kd.C_below H9_.out.2.2.2.2.2.2.2.1 hb_) (H9_.out.2.2.2.2.2.2.2.2.trans (hb_.mono H9_.out.2.2.2.2.2.2.2.2.size))))))))))
  clear H9_
  clear hb_
  go_wp2
  go_ret
  exact ⟨rfl, H10_.out.2.2.2.2.2.2.2.2⟩
end P
end Go.Proofs.Ytifpdpfjhjoieaa

/-! SigH -/
namespace Go.Proofs.Ytifpdpfjhjoieaa
set_option linter.unusedVariables false
set_option linter.unusedSimpArgs false
open Go.RowKit Go.Proofs.YtifpdpfjhjoieaaW.PrintWords Go.Proofs.YtifpdpfjhjoieaaW.PrintLast
theorem label_pub (l0 : List Int) (h32 : l0.length = 32) (ho : byteOk l0 = true) : P.pyxref04_Label.f l0 (⟨#[112, 117, 98, 108, 105, 99]⟩ : ByteArray) ([] : List Int) 32 = some (pubOf l0, 0) := label_some l0 labPublic [] 32 (by decide) ho rfl (by omega) (by decide) (by decide)
theorem jpub_eq (l0 : List Int) (r : List Int × Int) (h : P.sig_Public.f l0 = some r) : J.pyxref07_Public.f l0 = some r := by
  unfold J.pyxref07_Public.f
  unfold P.sig_Public.f at h
  by_cases h32 : l0.length = 32
  · rw [if_pos h32] at h
    split at h
    case isFalse => cases h
    case isTrue ho =>
    rw [if_pos (by omega), label_pub l0 h32 ho, Option.bind_some]
    exact h
  · rw [if_neg h32] at h
    rw [if_neg (by omega)]
    exact h
theorem jkeys_eq (l0 l1 l2 : List Int) (o0 : byteOk l0 = true) (k0 : l0.length = 32) (o1 : byteOk l1 = true) (k1 : l1.length = 32) (o2 : byteOk l2 = true) (k2 : l2.length ≤ 100000) : J.pyxref07_keys.f l0 l1 l2 = some (wrapKey l0 l1 l2, wrapNonce l0 l1 l2) := by
  have e1 : P.pyxref03_Sum.f l0 l1 = some (macSum l0 l1) := by
    unfold P.pyxref03_Sum.f
    rw [if_pos ⟨o0, o1, by omega, by omega⟩]
  have e2 : P.pyxref04_Label.f (macSum l0 l1) (⟨#[107, 101, 121]⟩ : ByteArray) l2 32 = some (wrapKey l0 l1 l2, 0) := label_some _ labKey l2 32 (by decide) (byteOk_macSum _ _) o2 (by rw [macSum_length]; decide) (by decide) k2
  have e3 : P.pyxref04_Label.f (macSum l0 l1) (⟨#[110, 111, 110, 99, 101]⟩ : ByteArray) l2 12 = some (wrapNonce l0 l1 l2, 0) := label_some _ labNonce l2 12 (by decide) (byteOk_macSum _ _) o2 (by rw [macSum_length]; decide) (by decide) k2
  unfold J.pyxref07_keys.f
  rw [e1, Option.bind_some, e2, Option.bind_some, e3, Option.bind_some]
theorem jwrap_eq (l0 l1 l2 l3 : List Int) (r : List Int × List Int × Int) (h : P.sig_Wrap.f l0 l1 l2 l3 = some r) : J.pyxref07_Wrap.f 1 l0 l1 l2 l3 = some r := by
  unfold J.pyxref07_Wrap.f
  unfold P.sig_Wrap.f at h
  by_cases h32 : l1.length = 32
  rotate_left
  · rw [if_neg h32] at h
    rw [jpub_eq _ _ (public_bad l1 h32), Option.bind_some, if_neg (by decide), J.pyxref07_Wrap.j0, if_pos rfl]
    exact h
  rw [if_pos h32] at h
  split at h
  case isFalse => cases h
  case isTrue ho =>
  rw [jpub_eq _ _ (public_32 l1 h32 ho), Option.bind_some, if_pos rfl, J.pyxref07_Wrap.j0]
  by_cases h0 : l0.length = 32
  · rw [if_pos h0] at h
    split at h
    case isFalse => cases h
    case isTrue hs =>
    have d : ((l0.length : Int) != 32) = false := by simp; omega
    rw [d, if_neg (by decide)]
    dsimp only
    rw [jkeys_eq _ _ _ hs.1 h0 (byteOk_pubOf _) (pubOf_length _) hs.2.1 hs.2.2.2.1, Option.bind_some]
    unfold P.pyxref06_Seal.f
    rw [wrap_seal _ _ _ _ hs.2, Option.bind_some]
    exact h
  · rw [if_neg h0] at h
    have d : ((l0.length : Int) != 32) = true := by simp; omega
    rw [d, if_pos rfl]
    exact h
theorem junwrap_eq (l0 l1 l2 l3 : List Int) (r : List Int × Int) (h : P.sig_Unwrap.f l0 l1 l2 l3 = some r) : J.pyxref07_Unwrap.f 1 l0 l1 l2 l3 = some r := by
  unfold J.pyxref07_Unwrap.f
  unfold P.sig_Unwrap.f at h
  by_cases h32 : l0.length = 32
  rotate_left
  · rw [if_neg h32] at h
    rw [jpub_eq _ _ (public_bad l0 h32), Option.bind_some, if_neg (by decide), J.pyxref07_Unwrap.j0, if_pos rfl]
    exact h
  rw [if_pos h32] at h
  split at h
  case isFalse => cases h
  case isTrue ho =>
  rw [jpub_eq _ _ (public_32 l0 h32 ho), Option.bind_some, if_pos rfl, J.pyxref07_Unwrap.j0]
  by_cases h0 : l1.length = 32
  · rw [if_pos h0] at h
    split at h
    case isFalse => cases h
    case isTrue hs =>
    have d : ((l1.length : Int) != 32) = false := by simp; omega
    rw [d, if_neg (by decide)]
    dsimp only
    rw [jkeys_eq _ _ _ (byteOk_pubOf _) (pubOf_length _) hs.1 h0 hs.2.1 hs.2.2.2.1, Option.bind_some]
    unfold P.pyxref06_Open.f
    rw [wrap_open _ _ _ _ hs.2, Option.bind_some]
    exact h
  · rw [if_neg h0] at h
    have d : ((l1.length : Int) != 32) = true := by simp; omega
    rw [d, if_pos rfl]
    exact h
namespace P
def pyxref07_Public.f (l0 : List Int) : Option (List Int × Int) := sig_Public.f l0
theorem pyxref07_Public.calls (A0 : Option Addr) (c0 : Nat) (l0 : List Int) (r1 : List Int) (r2 : Int) (w : World) (hr0 : Kd.C (Kd.int .u8) w A0 l0.length l0) (hc0 : l0.length ≤ c0) (h : pyxref07_Public.f l0 = some (r1, r2)) :
    Calls Try.prog 28 #[.slice A0 l0.length c0] w fun e w' => ∃ v0_ : Value, e = .returned (.tuple #[v0_, .int .i64 r2]) ∧ Kd.R (Kd.int .u8) 5 w' w.heap.size (fun _ => True) v0_ r1 ∧ Below w.heap.size w w' := J.pyxref07_Public.calls A0 c0 l0 r1 r2 w hr0 hc0 (jpub_eq _ _ h)
def pyxref07_Wrap.f (l0 : List Int) (l1 : List Int) (l2 : List Int) (l3 : List Int) : Option (List Int × List Int × Int) := sig_Wrap.f l0 l1 l2 l3
theorem pyxref07_Wrap.calls (A0 : Option Addr) (c0 : Nat) (l0 : List Int) (A1 : Option Addr) (c1 : Nat) (l1 : List Int) (A2 : Option Addr) (c2 : Nat) (l2 : List Int) (A3 : Option Addr) (c3 : Nat) (l3 : List Int) (r1 : List Int) (r2 : List Int) (r3 : Int) (w : World) (hr0 : Kd.C (Kd.int .u8) w A0 l0.length l0) (hc0 : l0.length ≤ c0) (hr1 : Kd.C (Kd.int .u8) w A1 l1.length l1) (hc1 : l1.length ≤ c1) (hr2 : Kd.C (Kd.int .u8) w A2 l2.length l2) (hc2 : l2.length ≤ c2) (hr3 : Kd.C (Kd.int .u8) w A3 l3.length l3) (hc3 : l3.length ≤ c3) (h : pyxref07_Wrap.f l0 l1 l2 l3 = some (r1, r2, r3)) :
    Calls Try.prog 34 #[.slice A0 l0.length c0, .slice A1 l1.length c1, .slice A2 l2.length c2, .slice A3 l3.length c3] w fun e w' => ∃ v0_ v1_ : Value, e = .returned (.tuple #[v0_, v1_, .int .i64 r3]) ∧ Kd.R (Kd.int .u8) 5 w' w.heap.size (fun k_ => some k_ ≠ (v1_ : Value).ownBlock) v0_ r1 ∧ Kd.R (Kd.int .u8) 5 w' w.heap.size (fun k_ => some k_ ≠ (v0_ : Value).ownBlock) v1_ r2 ∧ Below w.heap.size w w' := J.pyxref07_Wrap.calls 1 A0 c0 l0 A1 c1 l1 A2 c2 l2 A3 c3 l3 r1 r2 r3 w hr0 hc0 hr1 hc1 hr2 hc2 hr3 hc3 (jwrap_eq _ _ _ _ _ h)
def pyxref07_Unwrap.f (l0 : List Int) (l1 : List Int) (l2 : List Int) (l3 : List Int) : Option (List Int × Int) := sig_Unwrap.f l0 l1 l2 l3
theorem pyxref07_Unwrap.calls (A0 : Option Addr) (c0 : Nat) (l0 : List Int) (A1 : Option Addr) (c1 : Nat) (l1 : List Int) (A2 : Option Addr) (c2 : Nat) (l2 : List Int) (A3 : Option Addr) (c3 : Nat) (l3 : List Int) (r1 : List Int) (r2 : Int) (w : World) (hr0 : Kd.C (Kd.int .u8) w A0 l0.length l0) (hc0 : l0.length ≤ c0) (hr1 : Kd.C (Kd.int .u8) w A1 l1.length l1) (hc1 : l1.length ≤ c1) (hr2 : Kd.C (Kd.int .u8) w A2 l2.length l2) (hc2 : l2.length ≤ c2) (hr3 : Kd.C (Kd.int .u8) w A3 l3.length l3) (hc3 : l3.length ≤ c3) (h : pyxref07_Unwrap.f l0 l1 l2 l3 = some (r1, r2)) :
    Calls Try.prog 36 #[.slice A0 l0.length c0, .slice A1 l1.length c1, .slice A2 l2.length c2, .slice A3 l3.length c3] w fun e w' => ∃ v0_ : Value, e = .returned (.tuple #[v0_, .int .i64 r2]) ∧ Kd.R (Kd.int .u8) 5 w' w.heap.size (fun _ => True) v0_ r1 ∧ Below w.heap.size w w' := J.pyxref07_Unwrap.calls 1 A0 c0 l0 A1 c1 l1 A2 c2 l2 A3 c3 l3 r1 r2 w hr0 hc0 hr1 hc1 hr2 hc2 hr3 hc3 (junwrap_eq _ _ _ _ _ h)
end P
end Go.Proofs.Ytifpdpfjhjoieaa

/-! SigP -/
namespace Go.Proofs.Ytifpdpfjhjoieaa
set_option linter.unusedVariables false
set_option linter.unusedSimpArgs false
open Go.RowKit Go.Proofs.Ytifpdpfjhjoieaa.P Go.Proofs.YtifpdpfjhjoieaaW.PrintWords Go.Proofs.YtifpdpfjhjoieaaW.PrintLast
theorem sameB (x : List Int) (h : byteOk x = true) : pyxref01_Same.f x x = some true := by unfold pyxref01_Same.f; rw [if_pos ⟨h, h⟩, beq_self_eq_true]
theorem byteOk_openF (l0 l1 l2 l3 : List Int) : byteOk (openR l0 l1 l2 l3).1 = true := by
  unfold openR
  split
  · split
    · rfl
    · split
      · exact byteOk_streamOf _ _ _
      · rfl
  · rfl
theorem wrap_32 (l0 l1 l2 l3 : List Int) (o0 : byteOk l0 = true) (h0 : l0.length = 32) (o1 : byteOk l1 = true) (h1 : l1.length = 32) (hs : smallW l2 l3) : sig_Wrap.f l0 l1 l2 l3 = some (pubOf l1, sealOf (wrapKey l0 (pubOf l1) l2) (wrapNonce l0 (pubOf l1) l2) [] l3, 0) := by
  unfold sig_Wrap.f
  rw [if_pos h1, if_pos o1, if_pos h0, if_pos ⟨o0, hs⟩]
theorem wrap_some (l0 l1 l2 l3 : List Int) (o0 : byteOk l0 = true) (o1 : byteOk l1 = true) (hs : smallW l2 l3) : ∃ r, sig_Wrap.f l0 l1 l2 l3 = some r ∧ byteOk r.1 = true ∧ byteOk r.2.1 = true := by
  by_cases h1 : l1.length = 32
  · by_cases h0 : l0.length = 32
    · exact ⟨_, wrap_32 l0 l1 l2 l3 o0 h0 o1 h1 hs, byteOk_pubOf _, byteOk_sealOf _ _ _ _⟩
    · refine ⟨([], [], 1), ?_, rfl, rfl⟩
      unfold sig_Wrap.f
      rw [if_pos h1, if_pos o1, if_neg h0]
  · refine ⟨([], [], 1), ?_, rfl, rfl⟩
    unfold sig_Wrap.f
    rw [if_neg h1]
theorem unwrap_32 (l0 l1 l2 l3 : List Int) (o0 : byteOk l0 = true) (h0 : l0.length = 32) (o1 : byteOk l1 = true) (h1 : l1.length = 32) (hs : smallW l2 l3) : sig_Unwrap.f l0 l1 l2 l3 = some (openR (wrapKey (pubOf l0) l1 l2) (wrapNonce (pubOf l0) l1 l2) [] l3) := by
  unfold sig_Unwrap.f
  rw [if_pos h0, if_pos o0, if_pos h1, if_pos ⟨o1, hs⟩]
theorem unwrap_bad (l0 l1 l2 l3 : List Int) (o0 : byteOk l0 = true) (h1 : l1.length ≠ 32) : sig_Unwrap.f l0 l1 l2 l3 = some ([], 1) := by
  unfold sig_Unwrap.f
  by_cases h0 : l0.length = 32
  · rw [if_pos h0, if_pos o0, if_neg h1]
  · rw [if_neg h0]
theorem unwrap_some (l0 l1 l2 l3 : List Int) (o0 : byteOk l0 = true) (o1 : byteOk l1 = true) (hs : smallW l2 l3) : ∃ r, sig_Unwrap.f l0 l1 l2 l3 = some r ∧ byteOk r.1 = true := by
  by_cases h1 : l1.length = 32
  · by_cases h0 : l0.length = 32
    · exact ⟨_, unwrap_32 l0 l1 l2 l3 o0 h0 o1 h1 hs, byteOk_openF _ _ _ _⟩
    · refine ⟨([], 1), ?_, rfl⟩
      unfold sig_Unwrap.f
      rw [if_neg h0]
  · exact ⟨_, unwrap_bad l0 l1 l2 l3 o0 h1, rfl⟩
end Go.Proofs.Ytifpdpfjhjoieaa
