/-
  The plain law of SchedRight: an epoch's secrets have 32 bytes each; each is Derive of one secret, by its label; one shared secret more goes on from those ahead.
-/
import Derived.Test.YtpdgeanicciaiaaPSchedRighty2
namespace Go.Proofs.Ytpdgeanicciaiaa.Pure
set_option linter.unusedSimpArgs false
open Go.RowKit Go.Proofs.Ytpdgeanicciaiaa Go.Proofs.Ytpdgeanicciaiaa.P Go.Proofs.YtpdgeanicciaiaaW.PrintWords Go.Proofs.YtpdgeanicciaiaaW.PrintLast

theorem flat_le (b : Nat) : ∀ (l : List (List Int)), (∀ x ∈ l, x.length ≤ b) → l.flatten.length ≤ l.length * b
  | [], _ => by simp
  | y :: l, h => by
    have ih := flat_le b l fun x hx => h x (List.mem_cons_of_mem _ hx)
    have h0 := h y (List.mem_cons_self ..)
    rw [List.flatten_cons, List.length_append, List.length_cons, Nat.add_mul, Nat.one_mul]
    omega
theorem le_flat : ∀ (l : List (List Int)), ∀ x ∈ l, x.length ≤ l.flatten.length
  | [], _, h => by cases h
  | y :: l, x, h => by
    rw [List.flatten_cons, List.length_append]
    rcases List.mem_cons.1 h with rfl | h
    · omega
    · have := le_flat l x h
      omega
theorem out_some (s : List Int) (a : ByteArray) (o : byteOk s = true) (h : s.length ≤ 900000) (ha : a.size ≤ 100000) : pyxref04_Out.f s a = some (labelOf s a [] 32) := by
  unfold pyxref04_Out.f
  rw [if_pos ⟨o, h, ha⟩]
theorem sharedTo_take (l : List (List Int)) (n : Nat) : ∀ k, k ≤ n → sharedTo (l.take n) k = sharedTo l k
  | 0, _ => rfl
  | k + 1, h => by
    rw [sharedTo, sharedTo, sharedTo_take l n k (by omega)]
    have e : (l.take n).getD k [] = l.getD k [] := by
      rw [List.getD_eq_getElem?_getD, List.getD_eq_getElem?_getD, List.getElem?_take, if_pos (by omega)]
    rw [e]
theorem row_two (n : Nat) : numB n 2 = [((n / 256 % 256 : Nat) : Int), ((n % 256 : Nat) : Int)] := by
  simp [numB, numAt, List.range_succ]
theorem lab_get (s : List Int) (a : ByteArray) (c : List Int) (n : Nat) (hn : n ≤ 8160) (o1 : byteOk s = true) (o2 : byteOk c = true) (l1 : s.length ≤ 900000) (l2 : a.size ≤ 100000) (l3 : c.length ≤ 100000) : pyxref04_Label.f s a c (n : Int) = some (labelOf s a c n, 0) := label_some s a c n hn o1 o2 l1 l2 l3
theorem numB_row (n : Nat) (h : n < 256) : numB n 2 = [0, (n : Int)] := by
  rw [row_two, Nat.mod_eq_of_lt h, Nat.div_eq_of_lt h]
  rfl
theorem wrap_pred (n : Nat) (h : n ≤ 1000) : wrap64 (((n + 1 : Nat) : Int) - 1) = (n : Int) := by unfold wrap64; omega
theorem mod_row (n : Nat) (h : n < 256) : ([0, (n : Int) % 256] : List Int) = numB n 2 := by
  rw [numB_row n h, Int.emod_eq_of_lt (by omega) (by omega)]
theorem SchedRight (a b c : List Int) (l : List (List Int)) (oa : byteOk a = true) (ob : byteOk b = true) (oc : byteOk c = true) (ol : l.all byteOk = true) (hl : ∀ x ∈ l, x.length ≤ 140737488351232) : ∃ k, pyxlaw12_SchedRight.f k a b c l = some true := by
  refine ⟨1, ?_⟩
  have up' : pyxlaw12_SchedRight.j0 1 a b c l true true = some true := by rw [pyxlaw12_SchedRight.j0, if_pos rfl]
  unfold pyxlaw12_SchedRight.f pyxlaw12_shown.f
  rw [Option.bind_some]
  by_cases c0 : a.length = 32
  case neg => rw [if_neg (by omega), up']
  rw [if_pos (by omega)]
  by_cases c1 : b.length = 32
  case neg => rw [if_neg (by omega), up']
  rw [if_pos (by omega)]
  by_cases c2 : 200 < c.length
  · rw [if_pos (by omega), up']
  rw [if_neg (by omega)]
  by_cases c3 : l.length = 0
  · rw [if_pos (by omega), up']
  rw [if_neg (by omega)]
  by_cases c4 : 5 < l.length
  · rw [if_pos (by omega), up']
  rw [if_neg (by omega)]
  have hf := flat_le _ l hl
  have e0 : pyxref03_Long.f l = some ((l.flatten.length + l.length : Nat) : Int) := by
    unfold pyxref03_Long.f
    rw [if_pos ⟨by omega, by omega⟩]
  rw [e0, Option.bind_some]
  by_cases c5 : 300 < l.flatten.length + l.length
  · rw [decide_eq_true (by omega), up']
  rw [decide_eq_false (by omega)]
  obtain ⟨n, hn⟩ : ∃ n, l.length = n + 1 := ⟨l.length - 1, by omega⟩
  have om : byteOk (macSum a b) = true := byteOk_macSum _ _
  have nm : (macSum a b).length = 32 := macSum_length _ _
  have e1 : sched_Epoch.f a b c = some (epRow (ownOf a b c) 0, epRow (ownOf a b c) 1, epRow (ownOf a b c) 2, epRow (ownOf a b c) 3, epRow (ownOf a b c) 4, 0) := by
    unfold sched_Epoch.f
    rw [if_pos ⟨oa, ob, oc, by omega, by omega, by omega⟩]
    exact congrArg some (if_pos ⟨c0, c1⟩)
  have e2 : pyxref04_Extract.f a b = some (macSum a b) := by
    unfold pyxref04_Extract.f
    exact mac_some a b oa ob (by omega) (by omega)
  have e3 : pyxref04_Label.f (macSum a b) (⟨#[101, 112, 111, 99, 104]⟩ : ByteArray) c 32 = some (ownOf a b c, 0) := lab_get (macSum a b) labEpoch c 32 (by omega) om oc (by omega) (by decide) (by omega)
  have os : byteOk (ownOf a b c) = true := byteOk_labelOf _ _ _ _
  have ns : (ownOf a b c).length = 32 := labelOf_length _ _ _ _
  have hmem : l.getD n [] ∈ l := by
    rw [List.getD_eq_getElem?_getD, List.getElem?_eq_getElem (by omega), Option.getD_some]
    exact List.getElem_mem _
  have hx := le_flat l _ hmem
  have oxl := List.all_eq_true.1 ol _ hmem
  have e4 : pyxref04_Label.f (l.getD n []) (⟨#[115, 104, 97, 114, 101, 100]⟩ : ByteArray) (numB n 2) 32 = some (labelOf (l.getD n []) labShared (numB n 2) 32, 0) :=
    lab_get _ labShared _ 32 (by omega) oxl (byteOk_numB _ _) (by omega) (by decide) (by rw [numB_length]; omega)
  have e5 : sched_Shared.f l = some (sharedTo l (n + 1)) := by
    unfold sched_Shared.f
    rw [if_pos ⟨⟨by omega, fun x hx => by have := le_flat l x hx; omega⟩, ol⟩, hn]
  have e6 : sched_Shared.f (l.take n) = some (sharedTo l n) := by
    unfold sched_Shared.f
    have hlen : (l.take n).length = n := by rw [List.length_take]; omega
    rw [if_pos ⟨⟨by omega, fun x hx => by have := le_flat l x (List.mem_of_mem_take hx); omega⟩, List.all_eq_true.2 fun x hx => List.all_eq_true.1 ol x (List.mem_of_mem_take hx)⟩, hlen, sharedTo_take l n n (Nat.le_refl n)]
  have e7 : pyxref04_Extract.f (sharedTo l n) (labelOf (l.getD n []) labShared (numB n 2) 32) = some (sharedTo l (n + 1)) := by
    unfold pyxref04_Extract.f
    rw [sharedTo]
    exact mac_some _ _ (sharedTo_ok l n).1 (byteOk_labelOf _ _ _ _) (by rw [(sharedTo_ok l n).2]; omega) (by rw [labelOf_length]; omega)
  have y5 := (sharedTo_ok l (n + 1)).1
  have hw : wrap64 ((l.length : Int) - 1) = (n : Int) := by rw [hn]; exact wrap_pred n (by omega)
  rw [pyxlaw12_SchedRight.j0, if_neg (by simp), e1, Option.bind_some, e2, Option.bind_some, e3, Option.bind_some, hw, if_pos (by omega), if_pos (by omega)]
  unfold rd_L1
  rw [Int.toNat_natCast, mod_row n (by omega), e4, Option.bind_some, if_pos rfl, if_pos rfl]
  dsimp only
  generalize ownOf a b c = s at *
  have x0 : pyxref04_Out.f s (⟨#[105, 110, 105, 116]⟩ : ByteArray) = some (epRow s 0) := out_some s _ os (by omega) (by decide)
  have x1 : pyxref04_Out.f s (⟨#[115, 101, 110, 100]⟩ : ByteArray) = some (epRow s 1) := out_some s _ os (by omega) (by decide)
  have x2 : pyxref04_Out.f s (⟨#[101, 120, 112, 111, 114, 116]⟩ : ByteArray) = some (epRow s 2) := out_some s _ os (by omega) (by decide)
  have x3 : pyxref04_Out.f s (⟨#[99, 111, 110, 102, 105, 114, 109]⟩ : ByteArray) = some (epRow s 3) := out_some s _ os (by omega) (by decide)
  have x4 : pyxref04_Out.f s (⟨#[114, 101, 115, 117, 109, 101]⟩ : ByteArray) = some (epRow s 4) := out_some s _ os (by omega) (by decide)
  have hr : pyxref12_Right.f (epRow s 0) (epRow s 1) (epRow s 2) (epRow s 3) (epRow s 4) = some true := congrArg some (ep_right s)
  have w0 := byteOk_epRow s 0
  have w1 := byteOk_epRow s 1
  have w2 := byteOk_epRow s 2
  have w3 := byteOk_epRow s 3
  have w4 := byteOk_epRow s 4
  rw [hr, Option.bind_some, if_pos rfl]
  rw [x4, Option.bind_some, same_some _ _ w4 w4, Option.bind_some, if_pos (beq_iff_eq.2 rfl)]
  rw [x3, Option.bind_some, same_some _ _ w3 w3, Option.bind_some, if_pos (beq_iff_eq.2 rfl)]
  rw [x2, Option.bind_some, same_some _ _ w2 w2, Option.bind_some, if_pos (beq_iff_eq.2 rfl)]
  rw [x1, Option.bind_some, same_some _ _ w1 w1, Option.bind_some, if_pos (beq_iff_eq.2 rfl)]
  rw [x0, Option.bind_some, same_some _ _ w0 w0, Option.bind_some, if_pos (beq_iff_eq.2 rfl)]
  rw [e5, Option.bind_some, if_pos (by omega), e6, Option.bind_some, e7, Option.bind_some, same_some _ _ y5 y5, Option.bind_some]
  exact congrArg some (beq_iff_eq.2 rfl)
end Go.Proofs.Ytpdgeanicciaiaa.Pure
