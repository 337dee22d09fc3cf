/-
  The lower layers, walked and in closed forms, part 6: SigF, SealE, SealF, SigG, SigH, SigP, RowsIn, StructIn.
-/
import Derived.Test.YtifpdpfjhjoieaaK0
import Derived.Test.YtifpdpfjhjoieaaK1
import Derived.Test.YtifpdpfjhjoieaaK5
import Derived.Test.YtifpdpfjhjoieaaUSized
import Derived.Test.YtifpdpfjhjoieaaUWords
import Derived.Deep.Matrix
import Derived.SizedLaws
/-! SigF -/
namespace Go.Proofs.Ytifpdpfjhjoieaa
set_option linter.unusedVariables false
set_option linter.unusedSimpArgs false
open Go.RowKit Go.Shelf Iter Go.Proofs.YtifpdpfjhjoieaaW.PrintWords Go.Proofs.YtifpdpfjhjoieaaW.PrintLast
attribute [local go_sem] Oper.semAt_some
def pubOf (seed : List Int) : List Int := labelOf seed labPublic [] 32
theorem pubOf_length (seed : List Int) : (pubOf seed).length = 32 := labelOf_length _ _ _ _
theorem byteOk_pubOf (seed : List Int) : byteOk (pubOf seed) = true := byteOk_labelOf _ _ _ _
def wrapKey (pub half info : List Int) : List Int := labelOf (macSum pub half) labKey info 32
def wrapNonce (pub half info : List Int) : List Int := labelOf (macSum pub half) labNonce info 12
theorem wrapKey_length (pub half info : List Int) : (wrapKey pub half info).length = 32 := labelOf_length _ _ _ _
theorem wrapNonce_length (pub half info : List Int) : (wrapNonce pub half info).length = 12 := labelOf_length _ _ _ _
theorem byteOk_wrapKey (pub half info : List Int) : byteOk (wrapKey pub half info) = true := byteOk_labelOf _ _ _ _
theorem byteOk_wrapNonce (pub half info : List Int) : byteOk (wrapNonce pub half info) = true := byteOk_labelOf _ _ _ _
theorem public_32 (l0 : List Int) (h32 : l0.length = 32) (ho : byteOk l0 = true) : P.sig_Public.f l0 = some (pubOf l0, 0) := by
  unfold P.sig_Public.f
  rw [if_pos h32, if_pos ho]
  rfl
theorem public_bad (l0 : List Int) (h32 : l0.length ≠ 32) : P.sig_Public.f l0 = some ([], 1) := by
  unfold P.sig_Public.f
  rw [if_neg h32]
theorem smallT_pub (l0 : List Int) (lab : ByteArray) (b : List Int) (h : smallT l0 lab b) : smallT (pubOf l0) lab b := ⟨byteOk_pubOf _, h.2.1, by rw [pubOf_length]; decide, h.2.2.2.1, h.2.2.2.2⟩
def smallW (info b : List Int) : Prop := byteOk info = true ∧ byteOk b = true ∧ info.length ≤ 100000 ∧ b.length ≤ 300000
instance (info b : List Int) : Decidable (smallW info b) := by unfold smallW; infer_instance
theorem shared_some (pub half info : List Int) (o0 : byteOk pub = true) (o1 : byteOk half = true) (o2 : byteOk info = true) (k0 : pub.length = 32) (k1 : half.length = 32) (k2 : info.length ≤ 100000) : P.sig_shared.f pub half info = some (wrapKey pub half info, wrapNonce pub half info) := by
  unfold P.sig_shared.f
  rw [if_pos ⟨o0, o1, o2, by omega, by omega, k2⟩]
  rfl
theorem wrap_seal (pub half info b : List Int) (h : smallW info b) : P.seal_Seal.f (wrapKey pub half info) (wrapNonce pub half info) [] b = some (sealOf (wrapKey pub half info) (wrapNonce pub half info) [] b, 0) := by
  unfold P.seal_Seal.f
  rw [if_pos ⟨byteOk_wrapKey _ _ _, byteOk_wrapNonce _ _ _, rfl, h.2.1, by decide, h.2.2.2⟩, if_pos ⟨wrapKey_length _ _ _, wrapNonce_length _ _ _⟩]
theorem wrap_open (pub half info b : List Int) (h : smallW info b) : P.seal_Open.f (wrapKey pub half info) (wrapNonce pub half info) [] b = some (openR (wrapKey pub half info) (wrapNonce pub half info) [] b) := by
  unfold P.seal_Open.f
  rw [if_pos ⟨byteOk_wrapKey _ _ _, byteOk_wrapNonce _ _ _, rfl, h.2.1, by decide, h.2.2.2⟩]
set_option maxRecDepth 100000 in
set_option maxHeartbeats 1000000 in
theorem sigSign_calls (A0 : Option Addr) (c0 : Nat) (l0 : List Int) (a1 : ByteArray) (A2 : Option Addr) (c2 : Nat) (l2 : List Int) (w : World) (hr0 : Kd.C (Kd.int .u8) w A0 l0.length l0) (hc0 : l0.length ≤ c0) (hr2 : Kd.C (Kd.int .u8) w A2 l2.length l2) (hc2 : l2.length ≤ c2) (h32 : l0.length = 32) (hs : smallT l0 a1 l2) :
    Calls Try.prog 29 #[.slice A0 l0.length c0, .string a1, .slice A2 l2.length c2] w fun e w' => ∃ v, e = .returned (.tuple #[v, .int .i64 0]) ∧ Kd.R (Kd.int .u8) 5 w' w.heap.size (fun _ => True) v (sigTag (pubOf l0) a1 l2) ∧ Below w.heap.size w w' := by
  have HP := Lib.hid (public_32 l0 h32 hs.1)
  have HT := Lib.hid (show P.sig_tag.f (pubOf l0) a1 l2 = some (sigTag (pubOf l0) a1 l2, 0) by unfold P.sig_tag.f; rw [if_pos (smallT_pub _ _ _ hs)])
  have HK := Lib.hid (And.intro hr0 hr2)
  clear hr0 hr2 h32 hs
  generalize sigTag (pubOf l0) a1 l2 = G at *
  generalize pubOf l0 = p at *
  go_enter Try.func29, Try.ntmps29
  go_wp2_with fail
  refine (P.sig_Public.calls A0 c0 l0 p 0 w HK.out.1 hc0 HP.out).mono ?_
  rintro e W1 ⟨v1, rfl, hR1, hb1⟩
  obtain ⟨A3, c3, rfl, hl3, hC3⟩ := Kd.R_reads hR1
  have H1 := Lib.hid (And.intro hC3 (And.intro (Kd.C_below HK.out.2 hb1) hb1))
  clear hR1 hC3 hb1
  go_wp2_with fail
  refine (P.sig_tag.calls A3 c3 p a1 A2 c2 l2 G 0 W1 H1.out.1 hl3 H1.out.2.1 hc2 HT.out).mono ?_
  rintro e W2 ⟨v2, rfl, hR2, hb2⟩
  have H2 := Lib.hid (And.intro (Kd.R_lower hR2 H1.out.2.2.size) (H1.out.2.2.trans (hb2.mono H1.out.2.2.size)))
  clear hR2 hb2
  go_wp2
  go_ret2
  exact ⟨v2, rfl, H2.out⟩
set_option maxRecDepth 100000 in
set_option maxHeartbeats 1000000 in
theorem sigSign_bad (A0 : Option Addr) (c0 : Nat) (l0 : List Int) (a1 : ByteArray) (v2 : Value) (w : World) (hr0 : Kd.C (Kd.int .u8) w A0 l0.length l0) (hc0 : l0.length ≤ c0) (h32 : l0.length ≠ 32) :
    Calls Try.prog 29 #[.slice A0 l0.length c0, .string a1, v2] w fun e w' => ∃ v, e = .returned (.tuple #[v, .int .i64 1]) ∧ Kd.R (Kd.int .u8) 5 w' w.heap.size (fun _ => True) v [] ∧ Below w.heap.size w w' := by
  have HP := Lib.hid (public_bad l0 h32)
  have HK := Lib.hid hr0
  clear hr0 h32
  go_enter Try.func29, Try.ntmps29
  go_wp2_with fail
  refine (P.sig_Public.calls A0 c0 l0 [] 1 w HK.out hc0 HP.out).mono ?_
  rintro e W1 ⟨v1, rfl, hR1, hb1⟩
  have H1 := Lib.hid hb1
  clear hR1 hb1
  go_wp2
  go_ret2
  exact ⟨_, rfl, Kd.R_nil _ _ _ _ _, H1.out⟩
set_option maxRecDepth 100000 in
set_option maxHeartbeats 1000000 in
theorem sigUnwrap_calls (A0 : Option Addr) (c0 : Nat) (l0 : List Int) (A1 : Option Addr) (c1 : Nat) (l1 : List Int) (A2 : Option Addr) (c2 : Nat) (l2 : List Int) (A3 : Option Addr) (c3 : Nat) (l3 : List Int) (w : World) (hr0 : Kd.C (Kd.int .u8) w A0 l0.length l0) (hc0 : l0.length ≤ c0) (hr1 : Kd.C (Kd.int .u8) w A1 l1.length l1) (hc1 : l1.length ≤ c1) (hr2 : Kd.C (Kd.int .u8) w A2 l2.length l2) (hc2 : l2.length ≤ c2) (hr3 : Kd.C (Kd.int .u8) w A3 l3.length l3) (hc3 : l3.length ≤ c3) (h0 : l0.length = 32) (o0 : byteOk l0 = true) (h1 : l1.length = 32) (o1 : byteOk l1 = true) (hs : smallW l2 l3) (r1 : List Int) (r2 : Int) (hr : openR (wrapKey (pubOf l0) l1 l2) (wrapNonce (pubOf l0) l1 l2) [] l3 = (r1, r2)) :
    Calls Try.prog 35 #[.slice A0 l0.length c0, .slice A1 l1.length c1, .slice A2 l2.length c2, .slice A3 l3.length c3] w fun e w' => ∃ v, e = .returned (.tuple #[v, .int .i64 r2]) ∧ Kd.R (Kd.int .u8) 5 w' w.heap.size (fun _ => True) v r1 ∧ Below w.heap.size w w' := by
  have HP := Lib.hid (public_32 l0 h0 o0)
  have HS := Lib.hid (shared_some (pubOf l0) l1 l2 (byteOk_pubOf _) o1 hs.1 (pubOf_length _) h1 hs.2.2.1)
  have HO := Lib.hid (show P.seal_Open.f (wrapKey (pubOf l0) l1 l2) (wrapNonce (pubOf l0) l1 l2) [] l3 = some (r1, r2) from (wrap_open _ _ _ _ hs).trans (congrArg some hr))
  have H32 := Lib.hid h1
  have HK := Lib.hid (And.intro hr0 (And.intro hr1 (And.intro hr2 hr3)))
  clear hr0 hr1 hr2 hr3 h0 o0 h1 o1 hs hr
  generalize wrapKey (pubOf l0) l1 l2 = K at *
  generalize wrapNonce (pubOf l0) l1 l2 = Z at *
  generalize pubOf l0 = p at *
  go_enter Try.func35, Try.ntmps35
  go_wp2_with fail
  refine (P.sig_Public.calls A0 c0 l0 p 0 w HK.out.1 hc0 HP.out).mono ?_
  rintro e W1 ⟨v1, rfl, hR1, hb1⟩
  obtain ⟨A4, c4, rfl, hl4, hC4⟩ := Kd.R_reads hR1
  have H1 := Lib.hid (And.intro hC4 (And.intro (Kd.C_below HK.out.2.1 hb1) (And.intro (Kd.C_below HK.out.2.2.1 hb1) (And.intro (Kd.C_below HK.out.2.2.2 hb1) hb1))))
  clear hR1 hC4 hb1 HK
  go_wp2_with fail
  have hx := c_one W1 22 A1 c1 l1 H1.out.2.1 hc1
  have hb0 := H1.out.2.2.2.2.alloc H1.out.2.2.2.2.size (Obj.cells #[.slice A1 l1.length c1] 22)
  have hbl := (Below.refl W1.heap.size W1).alloc (Nat.le_refl _) (Obj.cells #[.slice A1 l1.length c1] 22)
  refine (J.sig_right.calls 3 (some ⟨W1.heap.size, 0, none⟩) 1 [l1] true _ hx (Nat.le_refl _) (by rw [right_one, H32.out]; rfl)).mono ?_
  rintro e W2 ⟨rfl, hb2⟩
  have hbd := hbl.trans ((Drawn0.below hb2).mono hbl.size)
  have H2 := Lib.hid (And.intro (Kd.C_below H1.out.1 hbd) (And.intro (Kd.C_below H1.out.2.1 hbd) (And.intro (Kd.C_below H1.out.2.2.1 hbd) (And.intro (Kd.C_below H1.out.2.2.2.1 hbd) (H1.out.2.2.2.2.trans (hbd.mono H1.out.2.2.2.2.size))))))
  clear hx hb0 hbl hbd hb2 H1
  go_wp2_with fail
  refine (P.sig_shared.calls A4 c4 p A1 c1 l1 A2 c2 l2 K Z W2 H2.out.1 hl4 H2.out.2.1 hc1 H2.out.2.2.1 hc2 HS.out).mono ?_
  rintro e W3 ⟨v5, v6, rfl, hR5, hR6, hb3⟩
  obtain ⟨A5, c5, rfl, hl5, hC5⟩ := Kd.R_reads hR5
  obtain ⟨A6, c6, rfl, hl6, hC6⟩ := Kd.R_reads hR6
  have H3 := Lib.hid (And.intro hC5 (And.intro hC6 (And.intro (Kd.C_below H2.out.2.2.2.1 hb3) (H2.out.2.2.2.2.trans (hb3.mono H2.out.2.2.2.2.size)))))
  clear hR5 hR6 hC5 hC6 hb3 H2
  go_wp2_with fail
  refine (P.seal_Open.calls A5 c5 K A6 c6 Z none 0 [] A3 c3 l3 r1 r2 W3 H3.out.1 hl5 H3.out.2.1 hl6 (Kd.C_nil _ _) (Nat.le_refl _) H3.out.2.2.1 hc3 HO.out).mono ?_
  rintro e W4 ⟨v7, rfl, hR7, hb4⟩
  have H4 := Lib.hid (And.intro (Kd.R_lower hR7 H3.out.2.2.2.size) (H3.out.2.2.2.trans (hb4.mono H3.out.2.2.2.size)))
  clear hR7 hb4 H3
  go_wp2
  go_ret2
  exact ⟨v7, rfl, H4.out⟩
set_option maxRecDepth 100000 in
set_option maxHeartbeats 1000000 in
theorem sigUnwrap_bad (A0 : Option Addr) (c0 : Nat) (l0 : List Int) (v1 v2 v3 : Value) (w : World) (hr0 : Kd.C (Kd.int .u8) w A0 l0.length l0) (hc0 : l0.length ≤ c0) (h32 : l0.length ≠ 32) :
    Calls Try.prog 35 #[.slice A0 l0.length c0, v1, v2, v3] w fun e w' => ∃ v, e = .returned (.tuple #[v, .int .i64 1]) ∧ Kd.R (Kd.int .u8) 5 w' w.heap.size (fun _ => True) v [] ∧ Below w.heap.size w w' := by
  have HP := Lib.hid (public_bad l0 h32)
  have HK := Lib.hid hr0
  clear hr0 h32
  go_enter Try.func35, Try.ntmps35
  go_wp2_with fail
  refine (P.sig_Public.calls A0 c0 l0 [] 1 w HK.out hc0 HP.out).mono ?_
  rintro e W1 ⟨v4, rfl, hR1, hb1⟩
  have H1 := Lib.hid hb1
  clear hR1 hb1
  go_wp2
  go_ret2
  exact ⟨_, rfl, Kd.R_nil _ _ _ _ _, H1.out⟩
set_option maxRecDepth 100000 in
set_option maxHeartbeats 1000000 in
theorem sigUnwrap_bad2 (A0 : Option Addr) (c0 : Nat) (l0 : List Int) (A1 : Option Addr) (c1 : Nat) (l1 : List Int) (v2 v3 : Value) (w : World) (hr0 : Kd.C (Kd.int .u8) w A0 l0.length l0) (hc0 : l0.length ≤ c0) (hr1 : Kd.C (Kd.int .u8) w A1 l1.length l1) (hc1 : l1.length ≤ c1) (h0 : l0.length = 32) (o0 : byteOk l0 = true) (h1 : l1.length ≠ 32) :
    Calls Try.prog 35 #[.slice A0 l0.length c0, .slice A1 l1.length c1, v2, v3] w fun e w' => ∃ v, e = .returned (.tuple #[v, .int .i64 1]) ∧ Kd.R (Kd.int .u8) 5 w' w.heap.size (fun _ => True) v [] ∧ Below w.heap.size w w' := by
  have HP := Lib.hid (public_32 l0 h0 o0)
  have H32 := Lib.hid h1
  have HK := Lib.hid (And.intro hr0 hr1)
  clear hr0 hr1 h0 o0 h1
  generalize pubOf l0 = p at *
  go_enter Try.func35, Try.ntmps35
  go_wp2_with fail
  refine (P.sig_Public.calls A0 c0 l0 p 0 w HK.out.1 hc0 HP.out).mono ?_
  rintro e W1 ⟨v4, rfl, hR1, hb1⟩
  have H1 := Lib.hid (And.intro (Kd.C_below HK.out.2 hb1) hb1)
  clear hR1 hb1 HK
  go_wp2_with fail
  have hx := c_one W1 22 A1 c1 l1 H1.out.1 hc1
  have hbl := (Below.refl W1.heap.size W1).alloc (Nat.le_refl _) (Obj.cells #[.slice A1 l1.length c1] 22)
  refine (J.sig_right.calls 3 (some ⟨W1.heap.size, 0, none⟩) 1 [l1] false _ hx (Nat.le_refl _) (by rw [right_one]; simp [H32.out])).mono ?_
  rintro e W2 ⟨rfl, hb2⟩
  have hbd := hbl.trans ((Drawn0.below hb2).mono hbl.size)
  have H2 := Lib.hid (H1.out.2.trans (hbd.mono H1.out.2.size))
  clear hx hbl hbd hb2 H1
  go_wp2
  go_ret2
  exact ⟨_, rfl, Kd.R_nil _ _ _ _ _, H2.out⟩
set_option maxRecDepth 100000 in
set_option maxHeartbeats 1000000 in
theorem sigWrap_calls (A0 : Option Addr) (c0 : Nat) (l0 : List Int) (A1 : Option Addr) (c1 : Nat) (l1 : List Int) (A2 : Option Addr) (c2 : Nat) (l2 : List Int) (A3 : Option Addr) (c3 : Nat) (l3 : List Int) (w : World) (hr0 : Kd.C (Kd.int .u8) w A0 l0.length l0) (hc0 : l0.length ≤ c0) (hr1 : Kd.C (Kd.int .u8) w A1 l1.length l1) (hc1 : l1.length ≤ c1) (hr2 : Kd.C (Kd.int .u8) w A2 l2.length l2) (hc2 : l2.length ≤ c2) (hr3 : Kd.C (Kd.int .u8) w A3 l3.length l3) (hc3 : l3.length ≤ c3) (h1 : l1.length = 32) (o1 : byteOk l1 = true) (h0 : l0.length = 32) (o0 : byteOk l0 = true) (hs : smallW l2 l3) :
    Calls Try.prog 33 #[.slice A0 l0.length c0, .slice A1 l1.length c1, .slice A2 l2.length c2, .slice A3 l3.length c3] w fun e w' => ∃ v0_ v1_ : Value, e = .returned (.tuple #[v0_, v1_, .int .i64 0]) ∧ Kd.R (Kd.int .u8) 5 w' w.heap.size (fun k_ => some k_ ≠ (v1_ : Value).ownBlock) v0_ (pubOf l1) ∧ Kd.R (Kd.int .u8) 5 w' w.heap.size (fun k_ => some k_ ≠ (v0_ : Value).ownBlock) v1_ (sealOf (wrapKey l0 (pubOf l1) l2) (wrapNonce l0 (pubOf l1) l2) [] l3) ∧ Below w.heap.size w w' := by
  have HP := Lib.hid (public_32 l1 h1 o1)
  have HS := Lib.hid (shared_some l0 (pubOf l1) l2 o0 (byteOk_pubOf _) hs.1 h0 (pubOf_length _) hs.2.2.1)
  have HO := Lib.hid (wrap_seal l0 (pubOf l1) l2 l3 hs)
  have H32 := Lib.hid h0
  have HK := Lib.hid (And.intro hr0 (And.intro hr1 (And.intro hr2 hr3)))
  clear hr0 hr1 hr2 hr3 h0 o0 h1 o1 hs
  generalize sealOf (wrapKey l0 (pubOf l1) l2) (wrapNonce l0 (pubOf l1) l2) [] l3 = G at *
  generalize wrapKey l0 (pubOf l1) l2 = K at *
  generalize wrapNonce l0 (pubOf l1) l2 = Z at *
  generalize pubOf l1 = p at *
  go_enter Try.func33, Try.ntmps33
  go_wp2_with fail
  refine (P.sig_Public.calls A1 c1 l1 p 0 w HK.out.2.1 hc1 HP.out).mono ?_
  rintro e W1 ⟨v1, rfl, hR1, hb1⟩
  have hR1a := hR1
  obtain ⟨A4, c4, rfl, hl4, hC4⟩ := Kd.R_reads hR1
  have H1 := Lib.hid (And.intro hC4 (And.intro (Kd.C_below HK.out.1 hb1) (And.intro (Kd.C_below HK.out.2.2.1 hb1) (And.intro (Kd.C_below HK.out.2.2.2 hb1) (And.intro hR1a hb1)))))
  clear hR1 hR1a hC4 hb1 HK
  go_wp2_with fail
  have hx := c_one W1 22 A0 c0 l0 H1.out.2.1 hc0
  have hbl := (Below.refl W1.heap.size W1).alloc (Nat.le_refl _) (Obj.cells #[.slice A0 l0.length c0] 22)
  refine (J.sig_right.calls 3 (some ⟨W1.heap.size, 0, none⟩) 1 [l0] true _ hx (Nat.le_refl _) (by rw [right_one, H32.out]; rfl)).mono ?_
  rintro e W2 ⟨rfl, hb2⟩
  have hbd := hbl.trans ((Drawn0.below hb2).mono hbl.size)
  have H2 := Lib.hid (And.intro (Kd.C_below H1.out.1 hbd) (And.intro (Kd.C_below H1.out.2.1 hbd) (And.intro (Kd.C_below H1.out.2.2.1 hbd) (And.intro (Kd.C_below H1.out.2.2.2.1 hbd) (And.intro (Kd.R_below H1.out.2.2.2.2.1 hbd) (H1.out.2.2.2.2.2.trans (hbd.mono H1.out.2.2.2.2.2.size)))))))
  clear hx hbl hbd hb2 H1
  go_wp2_with fail
  refine (P.sig_shared.calls A0 c0 l0 A4 c4 p A2 c2 l2 K Z W2 H2.out.2.1 hc0 H2.out.1 hl4 H2.out.2.2.1 hc2 HS.out).mono ?_
  rintro e W3 ⟨v5, v6, rfl, hR5, hR6, hb3⟩
  obtain ⟨A5, c5, rfl, hl5, hC5⟩ := Kd.R_reads hR5
  obtain ⟨A6, c6, rfl, hl6, hC6⟩ := Kd.R_reads hR6
  have H3 := Lib.hid (And.intro hC5 (And.intro hC6 (And.intro (Kd.C_below H2.out.2.2.2.1 hb3) (And.intro (Kd.R_below H2.out.2.2.2.2.1 hb3) (H2.out.2.2.2.2.2.trans (hb3.mono H2.out.2.2.2.2.2.size))))))
  clear hR5 hR6 hC5 hC6 hb3 H2
  go_wp2_with fail
  refine (P.seal_Seal.calls A5 c5 K A6 c6 Z none 0 [] A3 c3 l3 G 0 W3 H3.out.1 hl5 H3.out.2.1 hl6 (Kd.C_nil _ _) (Nat.le_refl _) H3.out.2.2.1 hc3 HO.out).mono ?_
  rintro e W4 ⟨v7, rfl, hR7, hb4⟩
  have hlt := Kd.R_lt H3.out.2.2.2.1
  have hR1' := Kd.R_elder' H3.out.2.2.2.1 (v := v7) (fun k hk => own_base (Kd.own_of_R (enc := Value.int .u8) (h1 := fun _ => rfl) hR7) k hk) hb4
  have hR2' := Kd.R_new' hR7 (u := .slice A4 p.length c4) hlt
  have H4 := Lib.hid (And.intro hR1' (And.intro (Kd.R_lower hR2' H3.out.2.2.2.2.size) (H3.out.2.2.2.2.trans (hb4.mono H3.out.2.2.2.2.size))))
  clear hlt hR1' hR2' hR7 hb4 H3
  go_wp2
  go_ret3
  exact ⟨_, v7, rfl, Kd.R_mono H4.out.1 (fun _ hk => hk.2), Kd.R_mono H4.out.2.1 (fun _ hk => hk.2), H4.out.2.2⟩
set_option maxRecDepth 100000 in
set_option maxHeartbeats 1000000 in
theorem sigWrap_bad (v0 : Value) (A1 : Option Addr) (c1 : Nat) (l1 : List Int) (v2 v3 : Value) (w : World) (hr1 : Kd.C (Kd.int .u8) w A1 l1.length l1) (hc1 : l1.length ≤ c1) (h32 : l1.length ≠ 32) :
    Calls Try.prog 33 #[v0, .slice A1 l1.length c1, v2, v3] w fun e w' => e = .returned (.tuple #[.slice none 0 0, .slice none 0 0, .int .i64 1]) ∧ Below w.heap.size w w' := by
  have HP := Lib.hid (public_bad l1 h32)
  have HK := Lib.hid hr1
  clear hr1 h32
  go_enter Try.func33, Try.ntmps33
  go_wp2_with fail
  refine (P.sig_Public.calls A1 c1 l1 [] 1 w HK.out hc1 HP.out).mono ?_
  rintro e W1 ⟨v4, rfl, hR1, hb1⟩
  have H1 := Lib.hid hb1
  clear hR1 hb1
  go_wp2
  go_ret3
  exact ⟨rfl, H1.out⟩
set_option maxRecDepth 100000 in
set_option maxHeartbeats 1000000 in
theorem sigWrap_bad2 (A0 : Option Addr) (c0 : Nat) (l0 : List Int) (A1 : Option Addr) (c1 : Nat) (l1 : List Int) (v2 v3 : Value) (w : World) (hr0 : Kd.C (Kd.int .u8) w A0 l0.length l0) (hc0 : l0.length ≤ c0) (hr1 : Kd.C (Kd.int .u8) w A1 l1.length l1) (hc1 : l1.length ≤ c1) (h1 : l1.length = 32) (o1 : byteOk l1 = true) (h0 : l0.length ≠ 32) :
    Calls Try.prog 33 #[.slice A0 l0.length c0, .slice A1 l1.length c1, v2, v3] w fun e w' => e = .returned (.tuple #[.slice none 0 0, .slice none 0 0, .int .i64 1]) ∧ Below w.heap.size w w' := by
  have HP := Lib.hid (public_32 l1 h1 o1)
  have H32 := Lib.hid h0
  have HK := Lib.hid (And.intro hr0 hr1)
  clear hr0 hr1 h0 o1 h1
  generalize pubOf l1 = p at *
  go_enter Try.func33, Try.ntmps33
  go_wp2_with fail
  refine (P.sig_Public.calls A1 c1 l1 p 0 w HK.out.2 hc1 HP.out).mono ?_
  rintro e W1 ⟨v4, rfl, hR1, hb1⟩
  have H1 := Lib.hid (And.intro (Kd.C_below HK.out.1 hb1) hb1)
  clear hR1 hb1 HK
  go_wp2_with fail
  have hx := c_one W1 22 A0 c0 l0 H1.out.1 hc0
  have hbl := (Below.refl W1.heap.size W1).alloc (Nat.le_refl _) (Obj.cells #[.slice A0 l0.length c0] 22)
  refine (J.sig_right.calls 3 (some ⟨W1.heap.size, 0, none⟩) 1 [l0] false _ hx (Nat.le_refl _) (by rw [right_one]; simp [H32.out])).mono ?_
  rintro e W2 ⟨rfl, hb2⟩
  have hbd := hbl.trans ((Drawn0.below hb2).mono hbl.size)
  have H2 := Lib.hid (H1.out.2.trans (hbd.mono H1.out.2.size))
  clear hx hbl hbd hb2 H1
  go_wp2
  go_ret3
  exact ⟨rfl, H2.out⟩
namespace P
def sig_Sign.f (l0 : List Int) (a1 : ByteArray) (l2 : List Int) : Option (List Int × Int) := if l0.length = 32 then (if smallT l0 a1 l2 then some (sigTag (pubOf l0) a1 l2, 0) else none) else some ([], 1)
theorem sig_Sign.calls (A0 : Option Addr) (c0 : Nat) (l0 : List Int) (a1 : ByteArray) (A2 : Option Addr) (c2 : Nat) (l2 : List Int) (r1 : List Int) (r2 : Int) (w : World) (hr0 : Kd.C (Kd.int .u8) w A0 l0.length l0) (hc0 : l0.length ≤ c0) (hr2 : Kd.C (Kd.int .u8) w A2 l2.length l2) (hc2 : l2.length ≤ c2) (h : sig_Sign.f l0 a1 l2 = some (r1, r2)) :
    Calls Try.prog 29 #[.slice A0 l0.length c0, .string a1, .slice A2 l2.length c2] w fun e w' => ∃ v0_ : Value, e = .returned (.tuple #[v0_, .int .i64 r2]) ∧ Kd.R (Kd.int .u8) 5 w' w.heap.size (fun _ => True) v0_ r1 ∧ Below w.heap.size w w' := by
  unfold sig_Sign.f at h
  split at h
  case isTrue h32 =>
    split at h
    case isFalse => cases h
    case isTrue ho =>
    injection h with h
    injection h with h1 h2
    subst h1 h2
    exact sigSign_calls A0 c0 l0 a1 A2 c2 l2 w hr0 hc0 hr2 hc2 h32 ho
  case isFalse h32 =>
    injection h with h
    injection h with h1 h2
    subst h1 h2
    exact sigSign_bad A0 c0 l0 a1 _ w hr0 hc0 h32
def sig_Unwrap.f (l0 l1 l2 l3 : List Int) : Option (List Int × Int) := if l0.length = 32 then (if byteOk l0 = true then (if l1.length = 32 then (if byteOk l1 = true ∧ smallW l2 l3 then some (openR (wrapKey (pubOf l0) l1 l2) (wrapNonce (pubOf l0) l1 l2) [] l3) else none) else some ([], 1)) else none) else some ([], 1)
theorem sig_Unwrap.calls (A0 : Option Addr) (c0 : Nat) (l0 : List Int) (A1 : Option Addr) (c1 : Nat) (l1 : List Int) (A2 : Option Addr) (c2 : Nat) (l2 : List Int) (A3 : Option Addr) (c3 : Nat) (l3 : List Int) (r1 : List Int) (r2 : Int) (w : World) (hr0 : Kd.C (Kd.int .u8) w A0 l0.length l0) (hc0 : l0.length ≤ c0) (hr1 : Kd.C (Kd.int .u8) w A1 l1.length l1) (hc1 : l1.length ≤ c1) (hr2 : Kd.C (Kd.int .u8) w A2 l2.length l2) (hc2 : l2.length ≤ c2) (hr3 : Kd.C (Kd.int .u8) w A3 l3.length l3) (hc3 : l3.length ≤ c3) (h : sig_Unwrap.f l0 l1 l2 l3 = some (r1, r2)) :
    Calls Try.prog 35 #[.slice A0 l0.length c0, .slice A1 l1.length c1, .slice A2 l2.length c2, .slice A3 l3.length c3] w fun e w' => ∃ v0_ : Value, e = .returned (.tuple #[v0_, .int .i64 r2]) ∧ Kd.R (Kd.int .u8) 5 w' w.heap.size (fun _ => True) v0_ r1 ∧ Below w.heap.size w w' := by
  unfold sig_Unwrap.f at h
  split at h
  case isFalse h32 =>
    injection h with h
    injection h with h1 h2
    subst h1 h2
    exact sigUnwrap_bad A0 c0 l0 _ _ _ w hr0 hc0 h32
  case isTrue h32 =>
  split at h
  case isFalse => cases h
  case isTrue ho =>
  split at h
  case isFalse h1 =>
    injection h with h
    injection h with h2 h3
    subst h2 h3
    exact sigUnwrap_bad2 A0 c0 l0 A1 c1 l1 _ _ w hr0 hc0 hr1 hc1 h32 ho h1
  case isTrue h1 =>
  split at h
  case isFalse => cases h
  case isTrue hs =>
  injection h with h
  exact sigUnwrap_calls A0 c0 l0 A1 c1 l1 A2 c2 l2 A3 c3 l3 w hr0 hc0 hr1 hc1 hr2 hc2 hr3 hc3 h32 ho h1 hs.1 hs.2 r1 r2 h
def sig_Wrap.f (l0 l1 l2 l3 : List Int) : Option (List Int × List Int × Int) := if l1.length = 32 then (if byteOk l1 = true then (if l0.length = 32 then (if byteOk l0 = true ∧ smallW l2 l3 then some (pubOf l1, sealOf (wrapKey l0 (pubOf l1) l2) (wrapNonce l0 (pubOf l1) l2) [] l3, 0) else none) else some ([], [], 1)) else none) else some ([], [], 1)
theorem sig_Wrap.calls (A0 : Option Addr) (c0 : Nat) (l0 : List Int) (A1 : Option Addr) (c1 : Nat) (l1 : List Int) (A2 : Option Addr) (c2 : Nat) (l2 : List Int) (A3 : Option Addr) (c3 : Nat) (l3 : List Int) (r1 : List Int) (r2 : List Int) (r3 : Int) (w : World) (hr0 : Kd.C (Kd.int .u8) w A0 l0.length l0) (hc0 : l0.length ≤ c0) (hr1 : Kd.C (Kd.int .u8) w A1 l1.length l1) (hc1 : l1.length ≤ c1) (hr2 : Kd.C (Kd.int .u8) w A2 l2.length l2) (hc2 : l2.length ≤ c2) (hr3 : Kd.C (Kd.int .u8) w A3 l3.length l3) (hc3 : l3.length ≤ c3) (h : sig_Wrap.f l0 l1 l2 l3 = some (r1, r2, r3)) :
    Calls Try.prog 33 #[.slice A0 l0.length c0, .slice A1 l1.length c1, .slice A2 l2.length c2, .slice A3 l3.length c3] w fun e w' => ∃ v0_ v1_ : Value, e = .returned (.tuple #[v0_, v1_, .int .i64 r3]) ∧ Kd.R (Kd.int .u8) 5 w' w.heap.size (fun k_ => some k_ ≠ (v1_ : Value).ownBlock) v0_ r1 ∧ Kd.R (Kd.int .u8) 5 w' w.heap.size (fun k_ => some k_ ≠ (v0_ : Value).ownBlock) v1_ r2 ∧ Below w.heap.size w w' := by
  unfold sig_Wrap.f at h
  split at h
  case isFalse h32 =>
    injection h with h
    injection h with h1 h2
    injection h2 with h2 h3
    subst h1 h2 h3
    refine (sigWrap_bad (.slice A0 l0.length c0) A1 c1 l1 _ _ w hr1 hc1 h32).mono ?_
    rintro e w' ⟨rfl, hb⟩
    exact ⟨_, _, rfl, Kd.R_nil _ _ _ _ _, Kd.R_nil _ _ _ _ _, hb⟩
  case isTrue h32 =>
  split at h
  case isFalse => cases h
  case isTrue ho =>
  split at h
  case isFalse h1 =>
    injection h with h
    injection h with h2 h3
    injection h3 with h3 h4
    subst h2 h3 h4
    refine (sigWrap_bad2 A0 c0 l0 A1 c1 l1 _ _ w hr0 hc0 hr1 hc1 h32 ho h1).mono ?_
    rintro e w' ⟨rfl, hb⟩
    exact ⟨_, _, rfl, Kd.R_nil _ _ _ _ _, Kd.R_nil _ _ _ _ _, hb⟩
  case isTrue h1 =>
  split at h
  case isFalse => cases h
  case isTrue hs =>
  injection h with h
  injection h with h2 h3
  injection h3 with h3 h4
  subst h2 h3 h4
  exact sigWrap_calls A0 c0 l0 A1 c1 l1 A2 c2 l2 A3 c3 l3 w hr0 hc0 hr1 hc1 hr2 hc2 hr3 hc3 h32 ho h1 hs.1 hs.2
end P
end Go.Proofs.Ytifpdpfjhjoieaa

/-! SealE -/
namespace Go.Proofs.Ytifpdpfjhjoieaa
set_option linter.unusedVariables false
set_option linter.unusedSimpArgs false
open Go.RowKit Go.Shelf Iter Go.Proofs.YtifpdpfjhjoieaaW.PrintWords Go.Proofs.YtifpdpfjhjoieaaW.PrintLast
attribute [local go_sem] Oper.semAt_some
def Z32 : List Int := List.replicate 32 0
theorem sealOf_take (key nonce aad b : List Int) : (sealOf key nonce aad b).take b.length = streamOf (lockOf key) nonce b := by
  unfold sealOf
  rw [List.take_left' (streamOf_length _ _ _)]
theorem sealOf_drop (key nonce aad b : List Int) : (sealOf key nonce aad b).drop b.length = sealTag key nonce aad (streamOf (lockOf key) nonce b) := by
  unfold sealOf
  rw [List.drop_left' (streamOf_length _ _ _)]
theorem bytes_wf (b : List Int) (h : byteOk b = true) : ∀ x ∈ b, 0 ≤ x ∧ x < 256 := (byteOk_iff b).1 h
/-- What is sealed is opened. -/
theorem open_seal (key nonce aad b : List Int) (h32 : key.length = 32) (h12 : nonce.length = 12) (o : byteOk b = true) : openR key nonce aad (sealOf key nonce aad b) = (b, 0) := by
  have e : b.length + 32 - 32 = b.length := by omega
  unfold openR
  rw [if_pos ⟨h32, h12⟩, sealOf_length, if_neg (by omega), e, sealOf_take, sealOf_drop, if_pos rfl, streamOf_back _ _ _ (bytes_wf b o)]
end Go.Proofs.Ytifpdpfjhjoieaa

/-! SealF -/
namespace Go.Proofs.Ytifpdpfjhjoieaa
set_option linter.unusedVariables false
set_option linter.unusedSimpArgs false
open Go.RowKit Go.Shelf Iter Go.Proofs.YtifpdpfjhjoieaaW.PrintWords Go.Proofs.YtifpdpfjhjoieaaW.PrintLast
attribute [local go_sem] Oper.semAt_some
theorem byV_nums (l : List Int) : byV l = (nums .u8 l).toArray := rfl
theorem madeN (n : Nat) (m : Int) (hm : m = (n : Int)) (hn : n ≤ 140737488355328) (W : World) : (Instr.makeSlice 22 (.int .i64 m) (.int .i64 m)).run Try.prog W = .ok (.slice (some ⟨W.heap.size, 0, none⟩) n n) (W.alloc (.cells (nums .u8 (List.replicate n 0)).toArray 5)) := by
  subst hm
  rw [← byV_nums]
  exact madeB n hn W
namespace P
end P
end Go.Proofs.Ytifpdpfjhjoieaa

/-! SigG -/
namespace Go.Proofs.Ytifpdpfjhjoieaa
set_option linter.unusedVariables false
set_option linter.unusedSimpArgs false
open Go.RowKit Go.Shelf Iter Go.Proofs.YtifpdpfjhjoieaaW.PrintWords Go.Proofs.YtifpdpfjhjoieaaW.PrintLast
attribute [local go_sem] Oper.semAt_some
def labX : ByteArray := ⟨#[120]⟩
def labE : ByteArray := ⟨#[]⟩
def sh07p : List Int := pubOf Z32
def sh07s : List Int := sigTag sh07p labX [1]
def sh07h : List Int := pubOf sh07s
def sh07b : List Int := sealOf (wrapKey sh07p sh07h []) (wrapNonce sh07p sh07h []) [] []
theorem sh07p_length : sh07p.length = 32 := pubOf_length _
theorem sh07h_length : sh07h.length = 32 := pubOf_length _
theorem byteOk_sh07p : byteOk sh07p = true := byteOk_pubOf _
theorem byteOk_sh07h : byteOk sh07h = true := byteOk_pubOf _
theorem sh07s_length : sh07s.length = 32 := sigTag_length _ _ _
theorem byteOk_sh07s : byteOk sh07s = true := byteOk_sigTag _ _ _
theorem sh07_sign : P.sig_Sign.f Z32 labX [1] = some (sh07s, 0) := by
  unfold P.sig_Sign.f
  rw [if_pos (by decide), if_pos (by decide)]
  rfl
theorem sh07_wrap : P.sig_Wrap.f sh07p sh07s [] [] = some (sh07h, sh07b, 0) := by
  unfold P.sig_Wrap.f
  rw [if_pos sh07s_length, if_pos byteOk_sh07s, if_pos sh07p_length, if_pos ⟨byteOk_sh07p, by decide⟩]
  rfl
theorem sh07_unwrap : P.sig_Unwrap.f Z32 sh07h [] sh07b = some ([], 0) := by
  unfold P.sig_Unwrap.f
  rw [if_pos (by decide), if_pos (by decide), if_pos sh07h_length, if_pos ⟨byteOk_sh07h, rfl, byteOk_sealOf _ _ _ _, by decide, by unfold sh07b; rw [sealOf_length]; decide⟩]
  exact congrArg some (open_seal _ _ _ _ (wrapKey_length _ _ _) (wrapNonce_length _ _ _) rfl)
theorem smallT_p (b : List Int) (h : byteOk b = true) (hl : b.length ≤ 300000) : smallT sh07p labX b := ⟨byteOk_pubOf _, h, by unfold sh07p; rw [pubOf_length]; decide, by decide, hl⟩
theorem sh07_v1 : P.sig_Verify.f sh07p labX [1] sh07s = some 0 := by
  unfold P.sig_Verify.f
  rw [if_pos sh07p_length, if_pos ⟨smallT_p _ (by decide) (by decide), byteOk_sh07s⟩, if_pos (by unfold sh07s; exact beq_self_eq_true _)]
theorem sh07_ne : (sigTag sh07p labX [2] == sh07s) = false := by decide +kernel
theorem sh07_v2 : P.sig_Verify.f sh07p labX [2] sh07s = some 5 := by
  unfold P.sig_Verify.f
  rw [if_pos sh07p_length, if_pos ⟨smallT_p _ (by decide) (by decide), byteOk_sh07s⟩, if_neg (by rw [sh07_ne]; decide)]
theorem sh07 : ∃ p s half b, P.sig_Public.f Z32 = some (p, 0) ∧ P.sig_Sign.f Z32 labX [1] = some (s, 0) ∧ P.sig_Wrap.f p s [] [] = some (half, b, 0) ∧ P.sig_Unwrap.f Z32 half [] b = some ([], 0) ∧ P.sig_Verify.f p labX [1] s = some 0 ∧ P.sig_Verify.f p labX [2] s = some 5 ∧ p.length = 32 ∧ half.length = 32 ∧ b.length = 32 :=
  ⟨sh07p, sh07s, sh07h, sh07b, public_32 _ (by decide) (by decide), sh07_sign, sh07_wrap, sh07_unwrap, sh07_v1, sh07_v2, pubOf_length _, pubOf_length _, sealOf_length _ _ _ _⟩
namespace P
def pyxlaw07_shown.f : Option Bool := some true
set_option maxRecDepth 100000 in
set_option maxHeartbeats 4000000 in
theorem pyxlaw07_shown.calls (r : Bool) (w : World) (h : pyxlaw07_shown.f = some r) : Calls Try.prog 26 #[] w fun e w' => e = .returned (.bool r) ∧ Below w.heap.size w w' := by
  obtain rfl : true = r := Option.some.inj h
  clear h
  obtain ⟨p, s, half, b, E1, E2, E3, E4, E5, E6, L1, L2, L3⟩ := sh07
  have HE := Lib.hid (And.intro E1 (And.intro E2 (And.intro E3 (And.intro E4 (And.intro E5 E6)))))
  have d1 : ((p.length : Int) == 32) = true := by rw [L1]; rfl
  have d2 : ((half.length : Int) == 32) = true := by rw [L2]; rfl
  have d3 : ((b.length : Int) == 32) = true := by rw [L3]; rfl
  clear E1 E2 E3 E4 E5 E6 L1 L2 L3
  have m32 : Hid (∀ W : World, (Instr.makeSlice 22 (.int .i64 32) (.int .i64 32)).run Try.prog W = .ok (.slice (some ⟨W.heap.size, 0, none⟩) 32 32) (W.alloc (.cells (nums .u8 Z32).toArray 5))) := Lib.hid (madeN 32 32 rfl (by decide))
  go_enter Try.func26, Try.ntmps26
  go_wp2_with fail
  rw [m32.out]
  have H0_ := Lib.hid (And.intro (show Kd.C (Kd.int .u8) (w.alloc (Obj.cells (nums .u8 Z32).toArray 5)) (some ⟨w.heap.size, 0, none⟩) 32 Z32 from c_lit w 5 Z32 (by decide)) ((Below.refl w.heap.size w).alloc (Nat.le_refl _) (Obj.cells (nums .u8 Z32).toArray 5)))
  generalize (w.alloc (Obj.cells (nums .u8 Z32).toArray 5)) = W1_ at *
  go_wp2_with fail
  refine (P.sig_Public.calls (some ⟨w.heap.size, 0, none⟩) 32 Z32 p 0 W1_ H0_.out.1 (Nat.le_refl _) HE.out.1).mono ?_
  rintro e_ W2_ ⟨vvp, rfl, hRvp_, hb_⟩
  obtain ⟨Avp, cvp, rfl, hcvp, hCvp_⟩ := Kd.R_reads hRvp_
  clear hRvp_
  have H1_ := Lib.hid (And.intro (hCvp_) (And.intro (Kd.C_below H0_.out.1 hb_) (H0_.out.2.trans (hb_.mono H0_.out.2.size))))
  clear H0_
  clear hb_ hCvp_
  go_wp2_with fail
  have H2_ := Lib.hid (And.intro (show Kd.C (Kd.int .u8) (W2_.alloc (Obj.cells #[Value.int IntKind.u8 1] 5)) (some ⟨W2_.heap.size, 0, none⟩) 1 [1] from c_lit W2_ 5 [1] (by decide)) (And.intro (Kd.C_alloc H1_.out.1 (Obj.cells #[Value.int IntKind.u8 1] 5)) (And.intro (Kd.C_alloc H1_.out.2.1 (Obj.cells #[Value.int IntKind.u8 1] 5)) (Below.alloc H1_.out.2.2 (Below.size H1_.out.2.2) (Obj.cells #[Value.int IntKind.u8 1] 5)))))
  clear H1_
  generalize (W2_.alloc (Obj.cells #[Value.int IntKind.u8 1] 5)) = W3_ at *
  refine (P.sig_Sign.calls (some ⟨w.heap.size, 0, none⟩) 32 Z32 labX (some ⟨W2_.heap.size, 0, none⟩) 1 [1] s 0 W3_ H2_.out.2.2.1 (Nat.le_refl _) H2_.out.1 (Nat.le_refl _) HE.out.2.1).mono ?_
  rintro e_ W4_ ⟨vvs, rfl, hRvs_, hb_⟩
  obtain ⟨Avs, cvs, rfl, hcvs, hCvs_⟩ := Kd.R_reads hRvs_
  clear hRvs_
  have H3_ := Lib.hid (And.intro (hCvs_) (And.intro (Kd.C_below H2_.out.1 hb_) (And.intro (Kd.C_below H2_.out.2.1 hb_) (And.intro (Kd.C_below H2_.out.2.2.1 hb_) (H2_.out.2.2.2.trans (hb_.mono H2_.out.2.2.2.size))))))
  clear H2_
  clear hb_ hCvs_
  go_wp2_with fail
  refine (P.sig_Wrap.calls Avp cvp p Avs cvs s none 0 [] none 0 [] half b 0 W4_ H3_.out.2.2.1 hcvp H3_.out.1 hcvs (Kd.C_nil _ _) (Nat.le_refl _) (Kd.C_nil _ _) (Nat.le_refl _) HE.out.2.2.1).mono ?_
  rintro e_ W5_ ⟨vvh, vvb, rfl, hRvh_, hRvb_, hb_⟩
  obtain ⟨Avh, cvh, rfl, hcvh, hCvh_⟩ := Kd.R_reads hRvh_
  clear hRvh_
  obtain ⟨Avb, cvb, rfl, hcvb, hCvb_⟩ := Kd.R_reads hRvb_
  clear hRvb_
  have H4_ := Lib.hid (And.intro (hCvh_) (And.intro (hCvb_) (And.intro (Kd.C_below H3_.out.1 hb_) (And.intro (Kd.C_below H3_.out.2.1 hb_) (And.intro (Kd.C_below H3_.out.2.2.1 hb_) (And.intro (Kd.C_below H3_.out.2.2.2.1 hb_) (H3_.out.2.2.2.2.trans (hb_.mono H3_.out.2.2.2.2.size))))))))
  clear H3_
  clear hb_ hCvh_ hCvb_
  go_wp2_with fail
  refine (P.sig_Unwrap.calls (some ⟨w.heap.size, 0, none⟩) 32 Z32 Avh cvh half none 0 [] Avb cvb b [] 0 W5_ H4_.out.2.2.2.2.2.1 (Nat.le_refl _) H4_.out.1 hcvh (Kd.C_nil _ _) (Nat.le_refl _) H4_.out.2.1 hcvb HE.out.2.2.2.1).mono ?_
  rintro e_ W6_ ⟨vvx, rfl, hRvx_, hb_⟩
  obtain ⟨Avx, cvx, rfl, hcvx, hCvx_⟩ := Kd.R_reads hRvx_
  clear hRvx_
  clear hCvx_
  have H5_ := Lib.hid (And.intro (Kd.C_below H4_.out.1 hb_) (And.intro (Kd.C_below H4_.out.2.1 hb_) (And.intro (Kd.C_below H4_.out.2.2.1 hb_) (And.intro (Kd.C_below H4_.out.2.2.2.1 hb_) (And.intro (Kd.C_below H4_.out.2.2.2.2.1 hb_) (And.intro (Kd.C_below H4_.out.2.2.2.2.2.1 hb_) (H4_.out.2.2.2.2.2.2.trans (hb_.mono H4_.out.2.2.2.2.2.2.size))))))))
  clear H4_
  clear hb_
  go_wp2_with fail
  have H6_ := Lib.hid (And.intro (show Kd.C (Kd.int .u8) (W6_.alloc (Obj.cells #[Value.int IntKind.u8 1] 5)) (some ⟨W6_.heap.size, 0, none⟩) 1 [1] from c_lit W6_ 5 [1] (by decide)) (And.intro (Kd.C_alloc H5_.out.1 (Obj.cells #[Value.int IntKind.u8 1] 5)) (And.intro (Kd.C_alloc H5_.out.2.1 (Obj.cells #[Value.int IntKind.u8 1] 5)) (And.intro (Kd.C_alloc H5_.out.2.2.1 (Obj.cells #[Value.int IntKind.u8 1] 5)) (And.intro (Kd.C_alloc H5_.out.2.2.2.1 (Obj.cells #[Value.int IntKind.u8 1] 5)) (And.intro (Kd.C_alloc H5_.out.2.2.2.2.1 (Obj.cells #[Value.int IntKind.u8 1] 5)) (And.intro (Kd.C_alloc H5_.out.2.2.2.2.2.1 (Obj.cells #[Value.int IntKind.u8 1] 5)) (Below.alloc H5_.out.2.2.2.2.2.2 (Below.size H5_.out.2.2.2.2.2.2) (Obj.cells #[Value.int IntKind.u8 1] 5)))))))))
  clear H5_
  generalize (W6_.alloc (Obj.cells #[Value.int IntKind.u8 1] 5)) = W7_ at *
  refine (P.sig_Verify.calls Avp cvp p labX (some ⟨W6_.heap.size, 0, none⟩) 1 [1] Avs cvs s 0 W7_ H6_.out.2.2.2.2.2.1 hcvp H6_.out.1 (Nat.le_refl _) H6_.out.2.2.2.1 hcvs HE.out.2.2.2.2.1).mono ?_
  rintro e_ W8_ ⟨rfl, hb_⟩
  have H7_ := Lib.hid (And.intro (Kd.C_below H6_.out.1 hb_) (And.intro (Kd.C_below H6_.out.2.1 hb_) (And.intro (Kd.C_below H6_.out.2.2.1 hb_) (And.intro (Kd.C_below H6_.out.2.2.2.1 hb_) (And.intro (Kd.C_below H6_.out.2.2.2.2.1 hb_) (And.intro (Kd.C_below H6_.out.2.2.2.2.2.1 hb_) (And.intro (Kd.C_below H6_.out.2.2.2.2.2.2.1 hb_) (H6_.out.2.2.2.2.2.2.2.trans (hb_.mono H6_.out.2.2.2.2.2.2.2.size)))))))))
  clear H6_
  clear hb_
  go_wp2_with fail
  have H8_ := Lib.hid (And.intro (show Kd.C (Kd.int .u8) (W8_.alloc (Obj.cells #[Value.int IntKind.u8 2] 5)) (some ⟨W8_.heap.size, 0, none⟩) 1 [2] from c_lit W8_ 5 [2] (by decide)) (And.intro (Kd.C_alloc H7_.out.1 (Obj.cells #[Value.int IntKind.u8 2] 5)) (And.intro (Kd.C_alloc H7_.out.2.1 (Obj.cells #[Value.int IntKind.u8 2] 5)) (And.intro (Kd.C_alloc H7_.out.2.2.1 (Obj.cells #[Value.int IntKind.u8 2] 5)) (And.intro (Kd.C_alloc H7_.out.2.2.2.1 (Obj.cells #[Value.int IntKind.u8 2] 5)) (And.intro (Kd.C_alloc H7_.out.2.2.2.2.1 (Obj.cells #[Value.int IntKind.u8 2] 5)) (And.intro (Kd.C_alloc H7_.out.2.2.2.2.2.1 (Obj.cells #[Value.int IntKind.u8 2] 5)) (And.intro (Kd.C_alloc H7_.out.2.2.2.2.2.2.1 (Obj.cells #[Value.int IntKind.u8 2] 5)) (Below.alloc H7_.out.2.2.2.2.2.2.2 (Below.size H7_.out.2.2.2.2.2.2.2) (Obj.cells #[Value.int IntKind.u8 2] 5))))))))))
  clear H7_
  generalize (W8_.alloc (Obj.cells #[Value.int IntKind.u8 2] 5)) = W9_ at *
  refine (P.sig_Verify.calls Avp cvp p labX (some ⟨W8_.heap.size, 0, none⟩) 1 [2] Avs cvs s 5 W9_ H8_.out.2.2.2.2.2.2.1 hcvp H8_.out.1 (Nat.le_refl _) H8_.out.2.2.2.2.1 hcvs HE.out.2.2.2.2.2).mono ?_
  rintro e_ W10_ ⟨rfl, hb_⟩
  have H9_ := Lib.hid (And.intro (Kd.C_below H8_.out.1 hb_) (And.intro (Kd.C_below H8_.out.2.1 hb_) (And.intro (Kd.C_below H8_.out.2.2.1 hb_) (And.intro (Kd.C_below H8_.out.2.2.2.1 hb_) (And.intro (Kd.C_below H8_.out.2.2.2.2.1 hb_) (And.intro (Kd.C_below H8_.out.2.2.2.2.2.1 hb_) (And.intro (Kd.C_below H8_.out.2.2.2.2.2.2.1 hb_) (And.intro (Kd.C_below H8_.out.2.2.2.2.2.2.2.1 hb_) (H8_.out.2.2.2.2.2.2.2.2.trans (hb_.mono H8_.out.2.2.2.2.2.2.2.2.size))))))))))
  clear H8_
  clear hb_
  go_wp2_with fail
  refine (P.sig_Verify.calls none 0 [] labE none 0 [] none 0 [] 1 W10_ (Kd.C_nil _ _) (Nat.le_refl _) (Kd.C_nil _ _) (Nat.le_refl _) (Kd.C_nil _ _) (Nat.le_refl _) rfl).mono ?_
  rintro e_ W11_ ⟨rfl, hb_⟩
  have H10_ := Lib.hid (And.intro (Kd.C_below H9_.out.1 hb_) (And.intro (Kd.C_below H9_.out.2.1 hb_) (And.intro (Kd.C_below H9_.out.2.2.1 hb_) (And.intro (Kd.C_below H9_.out.2.2.2.1 hb_) (And.intro (Kd.C_below H9_.out.2.2.2.2.1 hb_) (And.intro (Kd.C_below H9_.out.2.2.2.2.2.1 hb_) (And.intro (Kd.C_below H9_.out.2.2.2.2.2.2.1 hb_) (And.intro (Kd.C_below H9_.out.2.2.2.2.2.2.2.1 hb_) (H9_.out.2.2.2.2.2.2.2.2.trans (hb_.mono H9_.out.2.2.2.2.2.2.2.2.size))))))))))
  clear H9_
  clear hb_
  go_wp2
  go_ret
  exact ⟨rfl, H10_.out.2.2.2.2.2.2.2.2⟩
end P
end Go.Proofs.Ytifpdpfjhjoieaa

/-! SigH -/
namespace Go.Proofs.Ytifpdpfjhjoieaa
set_option linter.unusedVariables false
set_option linter.unusedSimpArgs false
open Go.RowKit Go.Proofs.YtifpdpfjhjoieaaW.PrintWords Go.Proofs.YtifpdpfjhjoieaaW.PrintLast
theorem label_pub (l0 : List Int) (h32 : l0.length = 32) (ho : byteOk l0 = true) : P.pyxref04_Label.f l0 (⟨#[112, 117, 98, 108, 105, 99]⟩ : ByteArray) ([] : List Int) 32 = some (pubOf l0, 0) := label_some l0 labPublic [] 32 (by decide) ho rfl (by omega) (by decide) (by decide)
theorem jpub_eq (l0 : List Int) (r : List Int × Int) (h : P.sig_Public.f l0 = some r) : J.pyxref07_Public.f l0 = some r := by
  unfold J.pyxref07_Public.f
  unfold P.sig_Public.f at h
  by_cases h32 : l0.length = 32
  · rw [if_pos h32] at h
    split at h
    case isFalse => cases h
    case isTrue ho =>
    rw [if_pos (by omega), label_pub l0 h32 ho, Option.bind_some]
    exact h
  · rw [if_neg h32] at h
    rw [if_neg (by omega)]
    exact h
theorem jtag_eq (l0 : List Int) (a1 : ByteArray) (l2 : List Int) (h : smallT l0 a1 l2) : P.pyxref07_tag.f l0 a1 l2 = some (sigTag l0 a1 l2) := by
  unfold P.pyxref07_tag.f
  rw [if_pos h]
theorem jsign_eq (l0 : List Int) (a1 : ByteArray) (l2 : List Int) (r : List Int × Int) (h : P.sig_Sign.f l0 a1 l2 = some r) : J.pyxref07_Sign.f l0 a1 l2 = some r := by
  unfold J.pyxref07_Sign.f
  unfold P.sig_Sign.f at h
  by_cases h32 : l0.length = 32
  · rw [if_pos h32] at h
    split at h
    case isFalse => cases h
    case isTrue ho =>
    rw [jpub_eq _ _ (public_32 l0 h32 ho.1), Option.bind_some, if_pos rfl, jtag_eq _ _ _ (smallT_pub _ _ _ ho), Option.bind_some]
    exact h
  · rw [if_neg h32] at h
    rw [jpub_eq _ _ (public_bad l0 h32), Option.bind_some, if_neg (by decide)]
    exact h
theorem jverify_eq (l0 : List Int) (a1 : ByteArray) (l2 l3 : List Int) (r : Int) (h : P.sig_Verify.f l0 a1 l2 l3 = some r) : J.pyxref07_Verify.f l0 a1 l2 l3 = some r := by
  unfold J.pyxref07_Verify.f
  unfold P.sig_Verify.f at h
  by_cases h32 : l0.length = 32
  · rw [if_pos h32] at h
    split at h
    case isFalse => cases h
    case isTrue ho =>
    rw [if_pos (by omega), jtag_eq _ _ _ ho.1, Option.bind_some, P.pyxref01_Same.f, if_pos ⟨byteOk_sigTag _ _ _, ho.2⟩, Option.bind_some]
    rw [← h]
    split <;> rfl
  · rw [if_neg h32] at h
    rw [if_neg (by omega)]
    exact h
theorem jhalf_eq (l0 : List Int) (r : List Int × Int) (h : P.sig_Public.f l0 = some r) : J.pyxref07_Half.f l0 = some r.1 := by
  unfold J.pyxref07_Half.f
  rw [jpub_eq _ _ h, Option.bind_some]
namespace P
def pyxref07_Public.f (l0 : List Int) : Option (List Int × Int) := sig_Public.f l0
theorem pyxref07_Public.calls (A0 : Option Addr) (c0 : Nat) (l0 : List Int) (r1 : List Int) (r2 : Int) (w : World) (hr0 : Kd.C (Kd.int .u8) w A0 l0.length l0) (hc0 : l0.length ≤ c0) (h : pyxref07_Public.f l0 = some (r1, r2)) :
    Calls Try.prog 28 #[.slice A0 l0.length c0] w fun e w' => ∃ v0_ : Value, e = .returned (.tuple #[v0_, .int .i64 r2]) ∧ Kd.R (Kd.int .u8) 5 w' w.heap.size (fun _ => True) v0_ r1 ∧ Below w.heap.size w w' := J.pyxref07_Public.calls A0 c0 l0 r1 r2 w hr0 hc0 (jpub_eq _ _ h)
def pyxref07_Sign.f (l0 : List Int) (a1 : ByteArray) (l2 : List Int) : Option (List Int × Int) := sig_Sign.f l0 a1 l2
theorem pyxref07_Sign.calls (A0 : Option Addr) (c0 : Nat) (l0 : List Int) (a1 : ByteArray) (A2 : Option Addr) (c2 : Nat) (l2 : List Int) (r1 : List Int) (r2 : Int) (w : World) (hr0 : Kd.C (Kd.int .u8) w A0 l0.length l0) (hc0 : l0.length ≤ c0) (hr2 : Kd.C (Kd.int .u8) w A2 l2.length l2) (hc2 : l2.length ≤ c2) (h : pyxref07_Sign.f l0 a1 l2 = some (r1, r2)) :
    Calls Try.prog 30 #[.slice A0 l0.length c0, .string a1, .slice A2 l2.length c2] w fun e w' => ∃ v0_ : Value, e = .returned (.tuple #[v0_, .int .i64 r2]) ∧ Kd.R (Kd.int .u8) 5 w' w.heap.size (fun _ => True) v0_ r1 ∧ Below w.heap.size w w' := J.pyxref07_Sign.calls A0 c0 l0 a1 A2 c2 l2 r1 r2 w hr0 hc0 hr2 hc2 (jsign_eq _ _ _ _ h)
def pyxref07_Verify.f (l0 : List Int) (a1 : ByteArray) (l2 : List Int) (l3 : List Int) : Option (Int) := sig_Verify.f l0 a1 l2 l3
theorem pyxref07_Verify.calls (A0 : Option Addr) (c0 : Nat) (l0 : List Int) (a1 : ByteArray) (A2 : Option Addr) (c2 : Nat) (l2 : List Int) (A3 : Option Addr) (c3 : Nat) (l3 : List Int) (r : Int) (w : World) (hr0 : Kd.C (Kd.int .u8) w A0 l0.length l0) (hc0 : l0.length ≤ c0) (hr2 : Kd.C (Kd.int .u8) w A2 l2.length l2) (hc2 : l2.length ≤ c2) (hr3 : Kd.C (Kd.int .u8) w A3 l3.length l3) (hc3 : l3.length ≤ c3) (h : pyxref07_Verify.f l0 a1 l2 l3 = some r) :
    Calls Try.prog 32 #[.slice A0 l0.length c0, .string a1, .slice A2 l2.length c2, .slice A3 l3.length c3] w fun e w' => e = .returned (.int .i64 r) ∧ Below w.heap.size w w' := J.pyxref07_Verify.calls A0 c0 l0 a1 A2 c2 l2 A3 c3 l3 r w hr0 hc0 hr2 hc2 hr3 hc3 (jverify_eq _ _ _ _ _ h)
def pyxref07_Half.f (l0 : List Int) : Option (List Int) := (sig_Public.f l0).map Prod.fst
theorem pyxref07_Half.calls (A0 : Option Addr) (c0 : Nat) (l0 : List Int) (r : List Int) (w : World) (hr0 : Kd.C (Kd.int .u8) w A0 l0.length l0) (hc0 : l0.length ≤ c0) (h : pyxref07_Half.f l0 = some r) :
    Calls Try.prog 38 #[.slice A0 l0.length c0] w fun e w' => ∃ v0_ : Value, e = .returned (v0_) ∧ Kd.R (Kd.int .u8) 5 w' w.heap.size (fun _ => True) v0_ r ∧ Below w.heap.size w w' := by
  unfold pyxref07_Half.f at h
  obtain ⟨x, hx, rfl⟩ := Option.map_eq_some_iff.mp h
  exact J.pyxref07_Half.calls A0 c0 l0 _ w hr0 hc0 (jhalf_eq _ _ hx)
end P
end Go.Proofs.Ytifpdpfjhjoieaa

/-! SigP -/
namespace Go.Proofs.Ytifpdpfjhjoieaa
set_option linter.unusedVariables false
set_option linter.unusedSimpArgs false
open Go.RowKit Go.Proofs.Ytifpdpfjhjoieaa.P Go.Proofs.YtifpdpfjhjoieaaW.PrintWords Go.Proofs.YtifpdpfjhjoieaaW.PrintLast
theorem sameB (x : List Int) (h : byteOk x = true) : pyxref01_Same.f x x = some true := by unfold pyxref01_Same.f; rw [if_pos ⟨h, h⟩, beq_self_eq_true]
theorem public_some (l0 : List Int) (o0 : byteOk l0 = true) : ∃ r, sig_Public.f l0 = some r ∧ byteOk r.1 = true := by
  by_cases h : l0.length = 32
  · exact ⟨_, public_32 l0 h o0, byteOk_pubOf _⟩
  · exact ⟨_, public_bad l0 h, rfl⟩
theorem sign_32 (l0 : List Int) (lab : ByteArray) (b : List Int) (h : l0.length = 32) (hs : smallT l0 lab b) : sig_Sign.f l0 lab b = some (sigTag (pubOf l0) lab b, 0) := by
  unfold sig_Sign.f
  rw [if_pos h, if_pos hs]
theorem sign_some (l0 : List Int) (lab : ByteArray) (b : List Int) (hs : smallT l0 lab b) : ∃ r, sig_Sign.f l0 lab b = some r ∧ byteOk r.1 = true := by
  by_cases h : l0.length = 32
  · exact ⟨_, sign_32 l0 lab b h hs, byteOk_sigTag _ _ _⟩
  · refine ⟨([], 1), ?_, rfl⟩
    unfold sig_Sign.f
    rw [if_neg h]
theorem verify_32 (l0 : List Int) (lab : ByteArray) (b s : List Int) (h : l0.length = 32) (hs : smallT l0 lab b) (o : byteOk s = true) : sig_Verify.f l0 lab b s = some (if (sigTag l0 lab b == s) = true then 0 else 5) := by
  unfold sig_Verify.f
  rw [if_pos h, if_pos ⟨hs, o⟩]
theorem verify_some (l0 : List Int) (lab : ByteArray) (b s : List Int) (hs : smallT l0 lab b) (o : byteOk s = true) : ∃ r, sig_Verify.f l0 lab b s = some r := by
  by_cases h : l0.length = 32
  · exact ⟨_, verify_32 l0 lab b s h hs o⟩
  · refine ⟨1, ?_⟩
    unfold sig_Verify.f
    rw [if_neg h]
theorem wrap_32 (l0 l1 l2 l3 : List Int) (o0 : byteOk l0 = true) (h0 : l0.length = 32) (o1 : byteOk l1 = true) (h1 : l1.length = 32) (hs : smallW l2 l3) : sig_Wrap.f l0 l1 l2 l3 = some (pubOf l1, sealOf (wrapKey l0 (pubOf l1) l2) (wrapNonce l0 (pubOf l1) l2) [] l3, 0) := by
  unfold sig_Wrap.f
  rw [if_pos h1, if_pos o1, if_pos h0, if_pos ⟨o0, hs⟩]
theorem unwrap_32 (l0 l1 l2 l3 : List Int) (o0 : byteOk l0 = true) (h0 : l0.length = 32) (o1 : byteOk l1 = true) (h1 : l1.length = 32) (hs : smallW l2 l3) : sig_Unwrap.f l0 l1 l2 l3 = some (openR (wrapKey (pubOf l0) l1 l2) (wrapNonce (pubOf l0) l1 l2) [] l3) := by
  unfold sig_Unwrap.f
  rw [if_pos h0, if_pos o0, if_pos h1, if_pos ⟨o1, hs⟩]
theorem unwrap_bad (l0 l1 l2 l3 : List Int) (o0 : byteOk l0 = true) (h1 : l1.length ≠ 32) : sig_Unwrap.f l0 l1 l2 l3 = some ([], 1) := by
  unfold sig_Unwrap.f
  by_cases h0 : l0.length = 32
  · rw [if_pos h0, if_pos o0, if_neg h1]
  · rw [if_neg h0]
theorem half_32 (l0 : List Int) (o0 : byteOk l0 = true) (h0 : l0.length = 32) : pyxref07_Half.f l0 = some (pubOf l0) := by
  unfold pyxref07_Half.f
  rw [public_32 l0 h0 o0]
  rfl
end Go.Proofs.Ytifpdpfjhjoieaa
