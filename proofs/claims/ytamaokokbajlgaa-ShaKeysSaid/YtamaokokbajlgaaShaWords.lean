/-
  Walk: sha.words.
-/
import Derived.Test.YtamaokokbajlgaaShaTurn
import Derived.Deep.RegionHeld3
import Derived.Deep.DrawnRows
namespace Go.Proofs.Ytamaokokbajlgaa
open Go.RowKit

theorem sig0_lt (w : Nat) (h : w < 4294967296) : Sha.sig0 w < 4294967296 := by
  unfold Sha.sig0
  refine Nat.xor_lt_two_pow (n := 32) (Nat.xor_lt_two_pow (n := 32) (rotr_lt w 7 h) (rotr_lt w 18 h)) ?_
  rw [Nat.shiftRight_eq_div_pow]; exact Nat.lt_of_le_of_lt (Nat.div_le_self _ _) h
theorem sig1_lt (w : Nat) (h : w < 4294967296) : Sha.sig1 w < 4294967296 := by
  unfold Sha.sig1
  refine Nat.xor_lt_two_pow (n := 32) (Nat.xor_lt_two_pow (n := 32) (rotr_lt w 17 h) (rotr_lt w 19 h)) ?_
  rw [Nat.shiftRight_eq_div_pow]; exact Nat.lt_of_le_of_lt (Nat.div_le_self _ _) h

/-- All are words. -/
def Ws (l : List Nat) : Prop := ∀ i, l.getD i 0 < 4294967296
def Bs (l : List Nat) : Prop := ∀ i, l.getD i 0 < 256
theorem getD_set (l : List Nat) (i j v : Nat) : (l.set i v).getD j 0 = if i = j ∧ i < l.length then v else l.getD j 0 := by
  rw [List.getD_eq_getElem?_getD, List.getElem?_set]
  by_cases h : i = j
  · subst h
    by_cases h2 : i < l.length
    · simp [h2]
    · simp [h2]
  · simp [h, List.getD_eq_getElem?_getD]
theorem Ws.set_ {l : List Nat} (h : Ws l) (i v : Nat) (hv : v < 4294967296) : Ws (l.set i v) := by
  intro j
  rw [getD_set]
  split
  · exact hv
  · exact h j
theorem acc_lt (b : List Nat) (hb : Bs b) (t : Nat) : ∀ j, Sha.acc b t j < 4294967296
  | 0 => by unfold Sha.acc; omega
  | j + 1 => by
    unfold Sha.acc
    exact Nat.or_lt_two_pow (n := 32) (Nat.mod_lt _ (by decide)) (Nat.lt_of_lt_of_le (hb _) (by decide))
theorem wordsTo_ws (b : List Nat) (hb : Bs b) : ∀ t, Ws (Sha.wordsTo b t)
  | 0 => by
    intro i
    simp only [Sha.wordsTo, List.getD_eq_getElem?_getD, List.getElem?_replicate]
    split <;> decide
  | t + 1 => by
    unfold Sha.wordsTo
    refine (wordsTo_ws b hb t).set_ _ _ ?_
    unfold Sha.wAt
    split
    · exact acc_lt b hb _ _
    · exact Nat.mod_lt _ (by decide)
theorem wordsTo_len (b : List Nat) : ∀ t, (Sha.wordsTo b t).length = 64
  | 0 => by simp [Sha.wordsTo]
  | t + 1 => by unfold Sha.wordsTo; rw [List.length_set]; exact wordsTo_len b t
theorem wordsV_size (l : List Nat) : (wordsV l).size = l.length := by simp [wordsV]
theorem wordsV_at (l : List Nat) (i : Nat) (h : i < l.length) : (wordsV l)[i]? = some (.int .u32 (l.getD i 0)) := by simp [wordsV, h]
theorem wordsV_set (l : List Nat) (i v : Nat) : (wordsV l).setIfInBounds i (.int .u32 v) = wordsV (l.set i v) := by
  simp [wordsV, List.map_set]

theorem xor_shr (x y k p : Nat) (hx : x < 4294967296) (hy : y < 4294967296) (hp : 2 ^ k = p) : bits .xor .u32 (y : Int) ((x : Int) / (p : Int)) = ((y ^^^ (x >>> k) : Nat) : Int) := by
  rw [Nat.shiftRight_eq_div_pow, hp]
  rw [show ((x : Int) / (p : Int)) = ((x / p : Nat) : Int) from by simp]
  exact u32_xor_nat _ _ hy (Nat.lt_of_le_of_lt (Nat.div_le_self _ _) hx)

theorem far_cell {w : World} {g i j : Nat} {u v : Value} (h : w.cell? ⟨g, j, none⟩ = some v) (hne : ¬ i = j) : (w.setCell ⟨g, i, none⟩ u).drew.cell? ⟨g, j, none⟩ = some v :=
  (World.cell?_setCell_other w ⟨g, i, none⟩ ⟨g, j, none⟩ u (fun e => hne (by cases e; rfl))).trans h

/-- What is not yet reached holds noughts. -/
theorem wordsTo_zero (b : List Nat) : ∀ t i, t ≤ i → (Sha.wordsTo b t).getD i 0 = 0
  | 0, i, _ => by
    simp only [Sha.wordsTo, List.getD_eq_getElem?_getD, List.getElem?_replicate]
    split <;> rfl
  | t + 1, i, h => by
    rw [Sha.wordsTo, getD_set, if_neg (by omega)]
    exact wordsTo_zero b t i (by omega)
theorem set_same (b : List Nat) (t : Nat) : (Sha.wordsTo b t).set t 0 = Sha.wordsTo b t := by
  have hl := wordsTo_len b t
  have hz := wordsTo_zero b t t (Nat.le_refl _)
  apply List.ext_getElem
  · simp
  · intro i h1 h2
    rw [List.getElem_set]
    split
    · rename_i he
      subst he
      rw [List.getD_eq_getElem?_getD, List.getElem?_eq_getElem h2] at hz
      simpa using hz.symm
    · rfl

/-- The bytes b lie in memory from this address on. -/
def BytesAt (w : World) (B : Nat) (A : Option Addr) (b : List Nat) : Prop := ∀ i, i < b.length → ∃ ad, A = some ad ∧ ad.block < B ∧ w.cell? (ad.add i) = some (.int .u8 (b.getD i 0))

theorem block_of_add (a : Addr) (n : Nat) : (a.add n).block = a.block := by unfold Addr.add; split <;> rfl
theorem add_of_add (a : Addr) (i j : Nat) : (a.add i).add j = a.add (i + j) := by
  unfold Addr.add
  by_cases hi : i = 0 <;> by_cases hj : j = 0 <;> simp [hi, hj, Nat.add_assoc]
theorem or_byte (a x : Nat) (hx : x < 256) : bits .or .u32 ((a : Int) * 256 % 4294967296) (x : Int) = ((((a <<< 8) % 4294967296) ||| x : Nat) : Int) := by
  rw [show ((a : Int) * (256 : Int) % (4294967296 : Int)) = (((a <<< 8) % 4294967296 : Nat) : Int) from by rw [Nat.shiftLeft_eq]; simp]
  exact u32_or_nat _ _ (Nat.mod_lt _ (by decide)) (by omega)

set_option maxRecDepth 100000 in
theorem zero64 (b : List Nat) : #[Value.int IntKind.u32 0, Value.int IntKind.u32 0, Value.int IntKind.u32 0, Value.int IntKind.u32 0, Value.int IntKind.u32 0, Value.int IntKind.u32 0, Value.int IntKind.u32 0, Value.int IntKind.u32 0, Value.int IntKind.u32 0, Value.int IntKind.u32 0, Value.int IntKind.u32 0, Value.int IntKind.u32 0, Value.int IntKind.u32 0, Value.int IntKind.u32 0, Value.int IntKind.u32 0, Value.int IntKind.u32 0, Value.int IntKind.u32 0, Value.int IntKind.u32 0, Value.int IntKind.u32 0, Value.int IntKind.u32 0, Value.int IntKind.u32 0, Value.int IntKind.u32 0, Value.int IntKind.u32 0, Value.int IntKind.u32 0, Value.int IntKind.u32 0, Value.int IntKind.u32 0, Value.int IntKind.u32 0, Value.int IntKind.u32 0, Value.int IntKind.u32 0, Value.int IntKind.u32 0, Value.int IntKind.u32 0, Value.int IntKind.u32 0, Value.int IntKind.u32 0, Value.int IntKind.u32 0, Value.int IntKind.u32 0, Value.int IntKind.u32 0, Value.int IntKind.u32 0, Value.int IntKind.u32 0, Value.int IntKind.u32 0, Value.int IntKind.u32 0, Value.int IntKind.u32 0, Value.int IntKind.u32 0, Value.int IntKind.u32 0, Value.int IntKind.u32 0, Value.int IntKind.u32 0, Value.int IntKind.u32 0, Value.int IntKind.u32 0, Value.int IntKind.u32 0, Value.int IntKind.u32 0, Value.int IntKind.u32 0, Value.int IntKind.u32 0, Value.int IntKind.u32 0, Value.int IntKind.u32 0, Value.int IntKind.u32 0, Value.int IntKind.u32 0, Value.int IntKind.u32 0, Value.int IntKind.u32 0, Value.int IntKind.u32 0, Value.int IntKind.u32 0, Value.int IntKind.u32 0, Value.int IntKind.u32 0, Value.int IntKind.u32 0, Value.int IntKind.u32 0, Value.int IntKind.u32 0] = wordsV (Sha.wordsTo b 0) := rfl

set_option maxRecDepth 100000 in
set_option maxHeartbeats 2000000 in
theorem words_calls (b : List Nat) (A : Option Addr) (cap : Nat) (w : World) (hb : Bs b) (hlen : b.length = 64) (hcap : 64 ≤ cap) (hA : BytesAt w w.heap.size A b) :
    Calls Try.prog 52 #[.slice A 64 cap] w fun e w' => e = .returned (.agg (wordsV (Sha.words b))) ∧ Below w.heap.size w w' := by
  go_enter Try.func52, Try.ntmps52
  go_wp2_with fail
  rw [zero64 b]
  have b1 := Blk.new (w.alloc (.cells (wordsV (Sha.wordsTo b 0)) 55)) 55 (wordsV (Sha.wordsTo b 0))
  have b0 := (Blk.new w 55 (wordsV (Sha.wordsTo b 0))).alloc (.cells (wordsV (Sha.wordsTo b 0)) 55)
  have hbl : Below w.heap.size w ((w.alloc (.cells (wordsV (Sha.wordsTo b 0)) 55)).alloc (.cells (wordsV (Sha.wordsTo b 0)) 55)) := ((Below.refl _ w).alloc (Nat.le_refl _) _).alloc (by simp) _
  rw [World.size_alloc] at b1
  generalize (w.alloc (.cells (wordsV (Sha.wordsTo b 0)) 55)).alloc (.cells (wordsV (Sha.wordsTo b 0)) 55) = W0 at b1 b0 hbl ⊢
  go_loopw [9] (fun i wr => ∃ t : Nat, t ≤ 64 ∧ i = .int .i64 t ∧ Blk wr (w.heap.size + 1) 55 (wordsV (Sha.wordsTo b t)) ∧ Blk wr w.heap.size 55 (wordsV (Sha.wordsTo b 0)) ∧ Below w.heap.size w wr) (fun i _ => 64 - (intOf i).toNat)
  case atStart => exact ⟨0, by omega, rfl, b1, b0, hbl⟩
  case round =>
    obtain ⟨t, ht, rfl, c1, c0, hbw⟩ := hrel
    have hws := wordsTo_ws b hb t
    have hwl := wordsTo_len b t
    by_cases h64 : t < 64
    · by_cases h16 : t < 16
      · have h4 : ¬ cap = 4 * t := by omega
        have e4 : 4 * t + 4 - 4 * t = 4 := by omega
        have hd64 : decide ((t : Int) < 64) = true := by simp; omega
        have hd16 : decide ((t : Int) < 16) = true := by simp; omega
        go_wp2_with fail
        clear e4 hd64 hd16
        obtain ⟨wo, rfl⟩ : ∃ wo : World, wo = wr := ⟨_, rfl⟩
        go_loopw [22] (fun i wi => ∃ j : Nat, j ≤ 4 ∧ i = .int .i64 j ∧ Blk wi (w.heap.size + 1) 55 (wordsV ((Sha.wordsTo b t).set t (Sha.acc b (4 * t) j))) ∧ Blk wi w.heap.size 55 (wordsV (Sha.wordsTo b 0)) ∧ Below w.heap.size w wi) (fun i _ => 4 - (intOf i).toNat)
        case atStart => exact ⟨0, by omega, rfl, by
          have e : (Sha.wordsTo b t).set t (Sha.acc b (4 * t) 0) = Sha.wordsTo b t := by
            rw [Sha.acc]
            exact set_same b t
          rw [e]; exact c1, c0, hbw⟩
        case round =>
          obtain ⟨j, hj, rfl, d1, d0, hbi⟩ := hrel
          by_cases hj4 : j < 4
          · obtain ⟨ad, rfl, hadB, hadc⟩ := hA (4 * t + j) (by omega)
            have hcb : wr.cell? ((ad.add (4 * t)).add j) = some (.int .u8 (b.getD (4 * t + j) 0)) := by
              rw [add_of_add]
              exact (hbi.cell (by rw [block_of_add]; exact hadB)).trans hadc
            have hcw := d1.cell t
            rw [wordsV_at _ _ (by rw [List.length_set]; omega), getD_set, if_pos ⟨rfl, by omega⟩] at hcw
            have hfw := d1.frozen t
            have hset := d1.set_ t (.int .u32 (Sha.acc b (4 * t) (j + 1)))
            rw [wordsV_set, List.set_set] at hset
            have hval := Lib.hid (or_byte (Sha.acc b (4 * t) j) (b.getD (4 * t + j) 0) (hb _))
            have hac : Sha.acc b (4 * t) (j + 1) = ((Sha.acc b (4 * t) j <<< 8) % 4294967296) ||| b.getD (4 * t + j) 0 := rfl
            have hl := acc_lt b hb (4 * t) j
            have hbb := hb (4 * t + j)
            rw [hac] at hset
            have Hac := Lib.hid hac
            clear hac
            generalize Sha.acc b (4 * t) j = a at *
            generalize b.getD (4 * t + j) 0 = x at *
            have ht0 : (0 : Int) ≤ (t : Int) := by omega
            have ht1 : (t : Int) < 64 := by omega
            have hj0 : (0 : Int) ≤ (j : Int) := by omega
            have hj1 : (j : Int) < 4 := by omega
            have Hset := Lib.hid hset
            clear hset
            go_wp2_with fail
            exact ⟨⟨j + 1, by omega, by go_num, by rw [hval.out, Hac.out]; exact Hset.out, d0.far (by simp) _, hbi.setCell (by simp) _⟩, by simp [intOf]; omega⟩
          · obtain rfl : j = 4 := by omega
            have hnx : Sha.wordsTo b (t + 1) = (Sha.wordsTo b t).set t (Sha.acc b (4 * t) 4) := by
              rw [Sha.wordsTo, Sha.wAt, if_pos h16]
            rw [← hnx] at d1
            clear hnx
            go_wp2_with fail
            exact ⟨⟨t + 1, by omega, by go_num, d1, d0, hbi⟩, by simp [intOf]; omega⟩
      · have h4 : ¬ t < 16 := h16
        have hd64 : decide ((t : Int) < 64) = true := by simp; omega
        have hd16 : decide ((t : Int) < 16) = false := by simp; omega
        have hget : ∀ k, k < 64 → (wordsV (Sha.wordsTo b t))[k]? = some (.int .u32 ((Sha.wordsTo b t).getD k 0)) := fun k hk => wordsV_at _ _ (by omega)
        have v15 := hget (t - 15) (by omega)
        have v2 := hget (t - 2) (by omega)
        have v7 := hget (t - 7) (by omega)
        have v16 := hget (t - 16) (by omega)
        have vt := hget t (by omega)
        have hnx : Sha.wordsTo b (t + 1) = (Sha.wordsTo b t).set t (Sha.wNext (Sha.wordsTo b t) t) := by
          rw [Sha.wordsTo, Sha.wAt, if_neg h16]
        unfold Sha.wNext at hnx
        have l15 := hws (t - 15)
        have l2 := hws (t - 2)
        have l7 := hws (t - 7)
        have l16 := hws (t - 16)
        have Hnx := Lib.hid hnx
        clear hnx hget hws
        generalize (Sha.wordsTo b t).getD (t - 15) 0 = x15 at *
        generalize (Sha.wordsTo b t).getD (t - 2) 0 = x2 at *
        generalize (Sha.wordsTo b t).getD (t - 7) 0 = x7 at *
        generalize (Sha.wordsTo b t).getD (t - 16) 0 = x16 at *
        generalize (Sha.wordsTo b t).getD t 0 = xt at *
        obtain ⟨k15, hk15⟩ : ∃ k, t - 15 = k := ⟨_, rfl⟩
        obtain ⟨k2, hk2⟩ : ∃ k, t - 2 = k := ⟨_, rfl⟩
        obtain ⟨k7, hk7⟩ : ∃ k, t - 7 = k := ⟨_, rfl⟩
        obtain ⟨k16, hk16⟩ : ∃ k, t - 16 = k := ⟨_, rfl⟩
        rw [hk15] at v15
        rw [hk2] at v2
        rw [hk7] at v7
        rw [hk16] at v16
        have e15 : IntKind.i64.wrap ((t : Int) - 15) = (k15 : Int) := by rw [IntKind.wrap_i64]; omega
        have e2 : IntKind.i64.wrap ((t : Int) - 2) = (k2 : Int) := by rw [IntKind.wrap_i64]; omega
        have e7 : IntKind.i64.wrap ((t : Int) - 7) = (k7 : Int) := by rw [IntKind.wrap_i64]; omega
        have e16 : IntKind.i64.wrap ((t : Int) - 16) = (k16 : Int) := by rw [IntKind.wrap_i64]; omega
        have a15 : (0 : Int) ≤ (k15 : Int) ∧ (k15 : Int) < 64 := by omega
        have a2 : (0 : Int) ≤ (k2 : Int) ∧ (k2 : Int) < 64 := by omega
        have a7 : (0 : Int) ≤ (k7 : Int) ∧ (k7 : Int) < 64 := by omega
        have a16 : (0 : Int) ≤ (k16 : Int) ∧ (k16 : Int) < 64 := by omega
        obtain ⟨a15, b15⟩ := a15
        obtain ⟨a2, b2⟩ := a2
        obtain ⟨a7, b7⟩ := a7
        obtain ⟨a16, b16⟩ := a16
        have n7 : ¬ t = k7 := by omega
        have n16 : ¬ t = k16 := by omega
        have t0 : (0 : Int) ≤ (t : Int) := by omega
        have t1 : (t : Int) < 64 := by omega
        clear hk15 hk2 hk7 hk16
        have E0 : bits .xor .u32 ((Sha.rotr x15 7 ^^^ Sha.rotr x15 18 : Nat) : Int) ((x15 : Int) / 8) = ((Sha.sig0 x15 : Nat) : Int) := xor_shr x15 (Sha.rotr x15 7 ^^^ Sha.rotr x15 18) 3 8 l15 (Nat.xor_lt_two_pow (n := 32) (rotr_lt x15 7 l15) (rotr_lt x15 18 l15)) rfl
        have E1 : bits .xor .u32 ((Sha.rotr x2 17 ^^^ Sha.rotr x2 19 : Nat) : Int) ((x2 : Int) / 1024) = ((Sha.sig1 x2 : Nat) : Int) := xor_shr x2 (Sha.rotr x2 17 ^^^ Sha.rotr x2 19) 10 1024 l2 (Nat.xor_lt_two_pow (n := 32) (rotr_lt x2 17 l2) (rotr_lt x2 19 l2)) rfl
        have m0 := sig0_lt x15 l15
        have m1 := sig1_lt x2 l2
        generalize Sha.sig0 x15 = s0 at *
        generalize Sha.sig1 x2 = s1 at *
        have hsz1 := c1.lt
        have g15 : wr.cell? ⟨w.heap.size + 1, k15, none⟩ = some (.int .u32 x15) := by rw [c1.cell k15]; exact v15
        go_wp2_with fail
        go_region_held3 (fun w' => w'.cell? ⟨w.heap.size + 1, k15, none⟩ = some (.int .u32 x15)) (go_keep)
          (first | (go_at_call 53; refine (turned2 x15 7 18 _ _ _ l15 (by omega) (by omega) ?_).mono ?_; exact heap_alloc_new _ _; rintro e w' ⟨rfl, rfl⟩))
        have c1a : Blk (wr.alloc (Obj.cells #[Value.int IntKind.i64 7, Value.int IntKind.i64 18] 3)).drew _ _ _ := c1.alloc _
        have c0a : Blk (wr.alloc (Obj.cells #[Value.int IntKind.i64 7, Value.int IntKind.i64 18] 3)).drew _ _ _ := c0.alloc _
        have hba := (hbw.alloc hbw.size (Obj.cells #[Value.int IntKind.i64 7, Value.int IntKind.i64 18] 3)).drew
        generalize (wr.alloc (Obj.cells #[Value.int IntKind.i64 7, Value.int IntKind.i64 18] 3)).drew = W1 at c1a c0a hba ⊢
        clear g15 c1 c0 hbw hsz1
        have hsz1 := c1a.lt
        have g2 : W1.cell? ⟨w.heap.size + 1, k2, none⟩ = some (.int .u32 x2) := by rw [c1a.cell k2]; exact v2
        go_wp2_with fail
        go_region_held3 (fun w' => w'.cell? ⟨w.heap.size + 1, k2, none⟩ = some (.int .u32 x2)) (go_keep)
          (first | (go_at_call 53; refine (turned2 x2 17 19 _ _ _ l2 (by omega) (by omega) ?_).mono ?_; exact heap_alloc_new _ _; rintro e w' ⟨rfl, rfl⟩))
        have c1b : Blk (W1.alloc (Obj.cells #[Value.int IntKind.i64 17, Value.int IntKind.i64 19] 3)).drew _ _ _ := c1a.alloc _
        have c0b : Blk (W1.alloc (Obj.cells #[Value.int IntKind.i64 17, Value.int IntKind.i64 19] 3)).drew _ _ _ := c0a.alloc _
        have hbb := (hba.alloc hba.size (Obj.cells #[Value.int IntKind.i64 17, Value.int IntKind.i64 19] 3)).drew
        generalize (W1.alloc (Obj.cells #[Value.int IntKind.i64 17, Value.int IntKind.i64 19] 3)).drew = W2 at c1b c0b hbb ⊢
        clear g2 c1a c0a hba hsz1
        have g7 : W2.cell? ⟨w.heap.size + 1, k7, none⟩ = some (.int .u32 x7) := by rw [c1b.cell k7]; exact v7
        have g16 : W2.cell? ⟨w.heap.size + 1, k16, none⟩ = some (.int .u32 x16) := by rw [c1b.cell k16]; exact v16
        have gt : W2.cell? ⟨w.heap.size + 1, t, none⟩ = some (.int .u32 xt) := by rw [c1b.cell t]; exact vt
        have ft := c1b.frozen t
        go_wp2_with fail
        go_region_held3 (fun w' => w'.cell? ⟨w.heap.size + 1, k7, none⟩ = some (.int .u32 x7) ∧ w'.cell? ⟨w.heap.size + 1, k16, none⟩ = some (.int .u32 x16)) (first | exact ⟨far_cell g7 n7, far_cell g16 n16⟩ | go_keep)
          (fail)
        go_wp2_with fail
        have hset : Blk (W2.setCell ⟨w.heap.size + 1, t, none⟩ (Value.int IntKind.u32 (((((s1 : Int) + x7) % 4294967296 + s0) % 4294967296 + x16) % 4294967296))).drew _ _ _ := c1b.set_ t _
        rw [show (((((s1 : Int) + x7) % 4294967296 + s0) % 4294967296 + x16) % 4294967296) = ((((((s1 + x7) % 4294967296 + s0) % 4294967296 + x16) % 4294967296 : Nat)) : Int) from by omega] at hset ⊢
        rw [wordsV_set, ← Hnx.out] at hset
        have hfar := c0b.far (p := ⟨w.heap.size + 1, t, none⟩) (by simp) (Value.int IntKind.u32 ((((((s1 + x7) % 4294967296 + s0) % 4294967296 + x16) % 4294967296 : Nat)) : Int))
        exact ⟨⟨t + 1, by omega, by go_num, hset, hfar, (hbb.setCell (p := ⟨w.heap.size + 1, t, none⟩) (by simp) _).drew⟩, by simp [intOf]; omega⟩
    · obtain rfl : t = 64 := by omega
      go_wp2_with (first
        | (refine wpList_load_row rfl 55 (.tmp 3) rfl (w.heap.size + 1) rfl 55 _ (0, 0) _ c1 Try.underlying55 rfl (by rw [wordsV_size, wordsTo_len]; exact infokeys) ?_)
        | (refine wpList_store_row rfl 55 (.tmp 2) (.tmp 76) rfl w.heap.size _ rfl rfl 55 _ c0 (by rw [wordsV_size, wordsTo_len]; exact infokeys) (by rw [wordsV_size, wordsV_size, wordsTo_len, wordsTo_len]) (by simp [wordsV, Value.oneCell']) ?_))
      exact bodyPost_ret (results_cell_row rfl _ _ w.heap.size 55 (wordsV (Sha.wordsTo b 64)) (0, 0) _ rfl (setRow_heap wr w.heap.size _ _ _ _ c0) Try.underlying55 rfl (by rw [wordsV_size, wordsTo_len]; exact infokeys)) rfl ⟨rfl, hbw.trans (Iter.below_setRow _ (Nat.le_refl _))⟩
end Go.Proofs.Ytamaokokbajlgaa
