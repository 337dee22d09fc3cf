/-
  Walk: pyxlaw03.MacRows.
-/
import Derived.Test.YtamaokokbajlgaaMacC
namespace Go.Proofs.Ytamaokokbajlgaa
set_option linter.unusedVariables false
set_option linter.unusedSimpArgs false
open Go.RowKit Go.Proofs.Ytamaokokbajlgaa.L Go.Proofs.YtamaokokbajlgaaW.PrintWords Go.Proofs.YtamaokokbajlgaaW.PrintLast Go.Proofs.YtamaokokbajlgaaW.PrintMore

/-- Four rows, laid as one row of rows. -/
theorem c_four (W : World) (T : Nat) (A B C D : Option Addr) (a b c d : Nat) (x y z u : List Int) (hx : Kd.C (Kd.int .u8) W A x.length x) (hcx : x.length ≤ a) (hy : Kd.C (Kd.int .u8) W B y.length y) (hcy : y.length ≤ b)
    (hz : Kd.C (Kd.int .u8) W C z.length z) (hcz : z.length ≤ c) (hu : Kd.C (Kd.int .u8) W D u.length u) (hcu : u.length ≤ d) :
    Kd.C (Kd.slice 5 (Kd.int .u8)) (W.alloc (.cells #[.slice A x.length a, .slice B y.length b, .slice C z.length c, .slice D u.length d] T)) (some ⟨W.heap.size, 0, none⟩) 4 [x, y, z, u] := by
  refine ⟨rfl, by omega, fun _ => ⟨_, rfl, fun j p hj => ?_⟩⟩
  have hcell : ∀ j, (W.alloc (.cells #[.slice A x.length a, .slice B y.length b, .slice C z.length c, .slice D u.length d] T)).cell? ((⟨W.heap.size, 0, none⟩ : Addr).add j) = (#[Value.slice A x.length a, .slice B y.length b, .slice C z.length c, .slice D u.length d] : Array Value)[j]? := fun j => by
    rw [add_plain]
    exact cell_of_row _ _ _ _ _ _ (heap_alloc_new W _)
  rcases j with _ | _ | _ | _ | j
  · injection hj with hj
    subst hj
    refine ⟨[.slice A x.length a], rfl, ⟨A, a, rfl, hcx, Kd.C_alloc hx _⟩, fun i q hq => ?_⟩
    rcases i with _ | i
    · exact (hcell 0).trans hq
    · cases hq
  · injection hj with hj
    subst hj
    refine ⟨[.slice B y.length b], rfl, ⟨B, b, rfl, hcy, Kd.C_alloc hy _⟩, fun i q hq => ?_⟩
    rcases i with _ | i
    · exact (hcell 1).trans hq
    · cases hq
  · injection hj with hj
    subst hj
    refine ⟨[.slice C z.length c], rfl, ⟨C, c, rfl, hcz, Kd.C_alloc hz _⟩, fun i q hq => ?_⟩
    rcases i with _ | i
    · exact (hcell 2).trans hq
    · cases hq
  · injection hj with hj
    subst hj
    refine ⟨[.slice D u.length d], rfl, ⟨D, d, rfl, hcu, Kd.C_alloc hu _⟩, fun i q hq => ?_⟩
    rcases i with _ | i
    · exact (hcell 3).trans hq
    · cases hq
  · cases hj

set_option maxRecDepth 100000 in
set_option maxHeartbeats 4000000 in
theorem macRows_calls (A0 : Option Addr) (c0 : Nat) (l0 : List Int) (A1 : Option Addr) (c1 : Nat) (l1 : List Int) (x y : Nat) (w : World) (hr0 : Kd.C (Kd.int .u8) w A0 l0.length l0) (hc0 : l0.length ≤ c0) (hr1 : Kd.C (Kd.int .u8) w A1 l1.length l1) (hc1 : l1.length ≤ c1) (o0 : byteOk l0 = true) (o1 : byteOk l1 = true) (hx : x < 65536) (hy : y < 65536) :
    Calls Try.prog 14 #[.slice A0 l0.length c0, .slice A1 l1.length c1, .agg #[.int .u16 (x : Int), .int .u16 (y : Int)]] w fun e w' => e = .returned (.bool true) ∧ Below w.heap.size w w' := by
  have hb0 := (Below.refl w.heap.size w).alloc (Nat.le_refl _) (Obj.cells #[Value.int IntKind.u16 (x : Int), Value.int IntKind.u16 (y : Int)] 52)
  by_cases g0 : 200 < l0.length
  · have d0 : decide (200 < (l0.length : Int)) = true := by rw [decide_eq_true_eq]; omega
    go_enter Try.func14, Try.ntmps14
    go_wp2_with (go_at_call 30; refine (P.pyxlaw03_shown.calls true _ rfl).mono ?_; rintro e W1 ⟨rfl, hb1⟩)
    go_ret
    exact ⟨rfl, hb0.trans (hb1.mono hb0.size)⟩
  have d0 : decide (200 < (l0.length : Int)) = false := by rw [decide_eq_false_iff_not]; omega
  by_cases g1 : 300 < l1.length
  · have d1 : decide (300 < (l1.length : Int)) = true := by rw [decide_eq_true_eq]; omega
    go_enter Try.func14, Try.ntmps14
    go_wp2_with (go_at_call 30; refine (P.pyxlaw03_shown.calls true _ rfl).mono ?_; rintro e W1 ⟨rfl, hb1⟩)
    go_ret
    exact ⟨rfl, hb0.trans (hb1.mono hb0.size)⟩
  have d1 : decide (300 < (l1.length : Int)) = false := by rw [decide_eq_false_iff_not]; omega
  have hs1 : P.mac_Sum.f l0 l1 = some (macSum l0 l1) := by unfold P.mac_Sum.f; rw [if_pos ⟨o0, o1, by omega, by omega⟩]
  have hs2 : P.mac_Sum.f l0 [] = some (macSum l0 []) := by unfold P.mac_Sum.f; rw [if_pos ⟨o0, by decide, by omega, by simp⟩]
  have ha2 : P.mac_All.f l0 [] = some (macSum l0 []) := by unfold P.mac_All.f; rw [if_pos ⟨o0, by decide, by omega, by simp⟩]; rfl
  obtain ⟨i, hi⟩ : ∃ i, x % (l1.length + 1) = i := ⟨_, rfl⟩
  obtain ⟨j, hj⟩ : ∃ j, y % (l1.length - i + 1) = j := ⟨_, rfl⟩
  have hil : i ≤ l1.length := by have := Nat.mod_lt x (show 0 < l1.length + 1 by omega); omega
  have hjl : i + j ≤ l1.length := by have := Nat.mod_lt y (show 0 < l1.length - i + 1 by omega); omega
  have e1' : (x : Int) % ((l1.length : Int) + 1) = (i : Int) := by
    rw [← hi, show (l1.length : Int) + 1 = ((l1.length + 1 : Nat) : Int) by omega]
    rfl
  have e2' : (y : Int) % ((l1.length : Int) - (i : Int) + 1) = (j : Int) := by
    rw [← hj, show (l1.length : Int) - (i : Int) + 1 = ((l1.length - i + 1 : Nat) : Int) by omega]
    rfl
  have ha1 : P.mac_All.f l0 [l1.take i, (l1.take (i + j)).drop i, [], l1.drop (i + j)] = some (macSum l0 l1) := by
    have e : [l1.take i, (l1.take (i + j)).drop i, [], l1.drop (i + j)].flatten = l1 := by
      have h1 : l1.take i ++ (l1.take (i + j)).drop i = l1.take (i + j) := by
        have h2 : l1.take i = (l1.take (i + j)).take i := by rw [List.take_take, Nat.min_eq_left (by omega)]
        rw [h2, List.take_append_drop]
      simp only [List.flatten_cons, List.flatten_nil, List.append_nil, List.nil_append]
      rw [← List.append_assoc, h1, List.take_append_drop]
    unfold P.mac_All.f
    rw [e, if_pos ⟨o0, o1, by omega, by omega⟩]
  have esame : ∀ x, byteOk x = true → P.pyxref01_Same.f x x = some true := fun x hx => by unfold P.pyxref01_Same.f; rw [if_pos ⟨hx, hx⟩, beq_self_eq_true]
  have ot1 := byteOk_macSum l0 l1
  have ot2 := byteOk_macSum l0 []
  have nt1 := macSum_length l0 l1
  have nt2 := macSum_length l0 []
  generalize macSum l0 l1 = t1 at *
  generalize macSum l0 [] = t2 at *
  have HE := Lib.hid (And.intro hs1 (And.intro hs2 (And.intro ha1 (And.intro ha2 (And.intro (esame t1 ot1) (And.intro (esame t2 ot2) (And.intro nt1 nt2)))))))
  have He := Lib.hid (And.intro hi hj)
  clear hs1 hs2 ha1 ha2 esame ot1 ot2 nt1 nt2 hi hj o0 o1
  go_enter Try.func14, Try.ntmps14
  go_wp2_with fail
  refine (P.pyxlaw03_shown.calls true _ rfl).mono ?_
  rintro e W1 ⟨rfl, hb1⟩
  have gx : W1.cell? ⟨w.heap.size, 0, none⟩ = some (.int .u16 (x : Int)) := pw_cell_below hb1 (cell_of_row _ _ _ _ _ _ (heap_alloc_new w _))
  have gy : W1.cell? ⟨w.heap.size, 1, none⟩ = some (.int .u16 (y : Int)) := pw_cell_below hb1 (cell_of_row _ _ _ _ _ _ (heap_alloc_new w _))
  have hb2 := hb0.trans (hb1.mono hb0.size)
  have hC0 := Kd.C_below hr0 hb2
  have hC1 := Kd.C_below hr1 hb2
  have HC := Lib.hid (And.intro hC0 (And.intro hC1 hb2))
  clear hb0 hb1 hb2 hC0 hC1 hr0 hr1
  go_wp2_with fail
  simp only [e1', e2']
  have hCx : Kd.C (Kd.int .u8) W1 A1 (l1.take i).length (l1.take i) := Kd.C_take HC.out.2.1 hil
  have hCy := Kd.C_mid (lo := i) (hi := i + j) HC.out.2.1 (by omega) hjl hc1
  have hCz := Kd.C_drop (m := i + j) HC.out.2.1 hjl hc1
  have nx : (l1.take i).length = i := by rw [List.length_take]; omega
  have ny : ((l1.take (i + j)).drop i).length = j := by rw [List.length_drop, List.length_take]; omega
  have nz : (l1.drop (i + j)).length = l1.length - (i + j) := by rw [List.length_drop]
  have s1 : (Kd.int .u8).sz = 1 := rfl
  rw [s1, Nat.mul_one] at hCy hCz
  have hc4 := c_four W1 22 _ _ none _ c1 (c1 - i) 0 (c1 - (i + j)) (l1.take i) ((l1.take (i + j)).drop i) [] (l1.drop (i + j)) hCx (by omega) hCy (by omega) (Kd.C_nil _ _) (Nat.le_refl _) hCz (by omega)
  rw [nx, ny, nz, List.length_nil] at hc4
  have hAll := P.mac_All.calls A0 c0 l0 (some ⟨W1.heap.size, 0, none⟩) 4 [l1.take i, (l1.take (i + j)).drop i, [], l1.drop (i + j)] t1 _ (Kd.C_drew (Kd.C_alloc HC.out.1 _)) hc0 (Kd.C_drew hc4) (Nat.le_refl _) HE.out.2.2.1
  have HAll := Lib.hid hAll
  have hb3 := (HC.out.2.2.alloc HC.out.2.2.size (Obj.cells #[.slice A1 i c1, .slice (if c1 = i then A1 else Option.map (fun x => x.add i) A1) j (c1 - i), .slice none 0 0, .slice (if c1 = i + j then A1 else Option.map (fun x => x.add (i + j)) A1) (l1.length - (i + j)) (c1 - (i + j))] 22)).drew
  have HC3 := Lib.hid (And.intro (Kd.C_drew (Kd.C_alloc HC.out.1 (Obj.cells #[.slice A1 i c1, .slice (if c1 = i then A1 else Option.map (fun x => x.add i) A1) j (c1 - i), .slice none 0 0, .slice (if c1 = i + j then A1 else Option.map (fun x => x.add (i + j)) A1) (l1.length - (i + j)) (c1 - (i + j))] 22))) (And.intro (Kd.C_drew (Kd.C_alloc HC.out.2.1 (Obj.cells #[.slice A1 i c1, .slice (if c1 = i then A1 else Option.map (fun x => x.add i) A1) j (c1 - i), .slice none 0 0, .slice (if c1 = i + j then A1 else Option.map (fun x => x.add (i + j)) A1) (l1.length - (i + j)) (c1 - (i + j))] 22))) hb3))
  clear hc4 hAll hb3 hCx hCy hCz nx ny nz
  have ew : IntKind.i64.wrap ((i : Int) + (j : Int)) = (i : Int) + (j : Int) := by rw [IntKind.wrap_i64]; omega
  have tn : ((i : Int) + (j : Int)).toNat = i + j := by omega
  have p0 : (0 : Int) ≤ (i : Int) := by omega
  have p1 : (i : Int) ≤ (c1 : Int) := by omega
  have p2 : (i : Int) ≤ (i : Int) + (j : Int) := by omega
  have p3 : (i : Int) + (j : Int) ≤ (c1 : Int) := by omega
  have p4 : (0 : Int) ≤ (i : Int) + (j : Int) := by omega
  have p5 : (i : Int) + (j : Int) ≤ (l1.length : Int) := by omega
  clear e1' e2' gx gy
  go_upto_region 7 with (fail)
  go_cut [10] (fun v10 wc => ∃ (A4 : Option Addr) (c4 : Nat), v10 = .slice A4 32 c4 ∧ Aside0 (32 ≤ c4) ∧ Aside0 (Kd.C (Kd.int .u8) wc A4 32 t1) ∧ Aside0 (Kd.C (Kd.int .u8) wc A0 l0.length l0) ∧ Aside0 (Kd.C (Kd.int .u8) wc A1 l1.length l1) ∧ Aside0 (Below w.heap.size w wc))
  case first =>
    rcases Classical.em (c1 = i) with q1 | q1
    all_goals rcases Classical.em (c1 = i + j) with q2 | q2
    all_goals
      first | rw [if_pos q1] at HAll HC3 | rw [if_neg q1] at HAll HC3
      first | rw [if_pos q2] at HAll HC3 | rw [if_neg q2] at HAll HC3
      first | replace q1 := eq_false q1 | replace q1 := eq_true q1
      first | replace q2 := eq_false q2 | replace q2 := eq_true q2
      go_region_held3 (fun _ => True) (trivial) ((go_at_call 37; refine HAll.out.mono ?_; rintro e W4 ⟨v4, rfl, hR4, hb4⟩))
      obtain ⟨A4, c4, rfl, hl4, hC4⟩ := Kd.R_reads hR4
      have nt1 := HE.out.2.2.2.2.2.2.1
      rw [nt1] at hC4 hl4 ⊢
      have hC0 := Kd.C_below HC3.out.1 hb4
      have hC1 := Kd.C_below HC3.out.2.1 hb4
      have hb5 := HC3.out.2.2.trans (hb4.mono HC3.out.2.2.size)
      clear nt1
      go_wp2
      go_meet
      case rel => exact ⟨A4, c4, rfl, ⟨hl4⟩, ⟨hC4⟩, ⟨hC0⟩, ⟨hC1⟩, ⟨hb5⟩⟩
  case rest =>
  obtain ⟨A4, c4, rfl, ⟨hl4⟩, ⟨hC4⟩, ⟨hC0⟩, ⟨hC1⟩, ⟨hb5⟩⟩ := hcut
  clear HC3 HAll ew tn p0 p1 p2 p3 p4 p5
  go_wp2_with fail
  refine (P.mac_Sum.calls A0 c0 l0 A1 c1 l1 t1 _ hC0 hc0 hC1 hc1 HE.out.1).mono ?_
  rintro e W5 ⟨v5, rfl, hR5, hb6⟩
  obtain ⟨A5, c5, rfl, hl5, hC5⟩ := Kd.R_reads hR5
  have hC4 := Kd.C_below hC4 hb6
  have hC0 := Kd.C_below hC0 hb6
  have hb7 := hb5.trans (hb6.mono hb5.size)
  clear hR5 hb6 hb5 hC1
  have nt1 := HE.out.2.2.2.2.2.2.1
  have hs := P.pyxref01_Same.calls A4 c4 t1 A5 c5 t1 true W5 (by rw [nt1]; exact hC4) (by rw [nt1]; exact hl4) hC5 hl5 HE.out.2.2.2.2.1
  rw [nt1] at hs ⊢
  clear nt1
  have Hs := Lib.hid hs
  clear hs hC4 hC5
  go_wp2_with fail
  refine Hs.out.mono ?_
  rintro e w' ⟨rfl, ⟨n1, rfl⟩⟩
  have hC0 := Kd.C_drewN hC0 n1
  have hb8 := pw_below_drewN hb7 n1
  clear hb7 Hs
  generalize W5.drewN n1 = W6 at *
  go_wp2_with fail
  refine (P.mac_All.calls A0 c0 l0 none 0 [] t2 W6 hC0 hc0 (Kd.C_nil _ _) (Nat.le_refl _) HE.out.2.2.2.1).mono ?_
  rintro e W7 ⟨v7, rfl, hR7, hb9⟩
  obtain ⟨A7, c7, rfl, hl7, hC7⟩ := Kd.R_reads hR7
  have hC0 := Kd.C_below hC0 hb9
  have hb10 := hb8.trans (hb9.mono hb8.size)
  clear hR7 hb9 hb8
  go_wp2_with fail
  refine (P.mac_Sum.calls A0 c0 l0 none 0 [] t2 W7 hC0 hc0 (Kd.C_nil _ _) (Nat.le_refl _) HE.out.2.1).mono ?_
  rintro e W8 ⟨v8, rfl, hR8, hb11⟩
  obtain ⟨A8, c8, rfl, hl8, hC8⟩ := Kd.R_reads hR8
  have hC7 := Kd.C_below hC7 hb11
  have hb12 := hb10.trans (hb11.mono hb10.size)
  clear hR8 hb11 hb10
  go_wp2_with fail
  refine (P.pyxref01_Same.calls A7 c7 t2 A8 c8 t2 true W8 hC7 hl7 hC8 hl8 HE.out.2.2.2.2.2.1).mono ?_
  rintro e w' ⟨rfl, ⟨n2, rfl⟩⟩
  have hbf := pw_below_drewN hb12 n2
  go_wp2
  go_ret
  exact ⟨rfl, hbf⟩
end Go.Proofs.Ytamaokokbajlgaa
