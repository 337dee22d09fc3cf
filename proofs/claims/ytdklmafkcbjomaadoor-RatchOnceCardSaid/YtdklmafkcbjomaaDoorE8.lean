/-
 The lower layers, walked and in closed forms, part 8: RatSd.
-/
import Derived.Test.YtdklmafkcbjomaaDoorE0
import Derived.Test.YtdklmafkcbjomaaDoorE1
import Derived.Test.YtdklmafkcbjomaaDoorE7
/-! RatSd -/
namespace Go.Proofs.YtdklmafkcbjomaaDoor
set_option linter.unusedVariables false
set_option linter.unusedSimpArgs false
open Go.RowKit Go.Shelf Go.Proofs.YtdklmafkcbjomaaDoorW.PrintWords Go.Proofs.YtdklmafkcbjomaaDoorW.PrintLast Go.Proofs.YtdklmafkcbjomaaDoorW.PrintMore Iter
theorem locks_apart {W : World} {a : Addr} {n : Nat} {L : List R.S43} (h : Kd.C R.k43 W (some a) n L) (h0 : 0 < n) (hk : ∀ x, x ∈ L → x.f1.length ≠ 0) {g : Nat} {t : TypeId} (hb : Blk W g t #[.int .i64 0, .slice none 0 0, .slice none 0 0]) : a.block ≠ g := by
 intro e
 obtain ⟨ad, e1, hc⟩ := h.2.2 h0
 have e1 : a = ad := Option.some.inj e1
 subst e1
 have hx : 0 < L.length := by rw [h.1]; exact h0
 obtain ⟨c, hl, hr, hcell⟩ := hc 0 _ (List.getElem?_eq_getElem hx)
 obtain ⟨A1, c1, A2, c2, rfl, -, -, -, -⟩ := R.k43_open hr
 have h2 := hcell 1 _ rfl
 have hbl : ∀ k, (a.add k).block = a.block := fun k => by unfold Addr.add; split <;> rfl
 unfold World.cell? at h2
 rw [hbl, e, show W.heap[g]? = _ from hb] at h2
 dsimp only at h2
 have hk0 := hk _ (List.getElem_mem hx)
 split at h2
 ·exact absurd h2 (by simp)
 ·have h3 := Array.mem_of_getElem? h2
  simp only [List.mem_toArray, List.mem_cons, List.not_mem_nil, or_false, reduceCtorEq, false_or, Value.slice.injEq] at h3
  rcases h3 with h3 | h3 <;> exact hk0 h3.2.1
/-- Such a row is as it was where boxes were changed that it lies apart from. -/
theorem locks_keep {W W' : World} {A : Option Addr} {n : Nat} {L : List R.S43} (h : Kd.C R.k43 W A n L) {g g' : Nat} {t t' : TypeId} {cs cs' : Array Value} (hs : ∀ b, b ≠ g → b ≠ g' → W'.heap[b]? = W.heap[b]?) (hA : 0 < n → ∀ a, A = some a → a.block ≠ g ∧ a.block ≠ g') (hb : Blk W g t cs) (hb' : Blk W g' t' cs') (hu : ∀ x, Value.int .u8 x ∉ cs) (hu' : ∀ x, Value.int .u8 x ∉ cs') : Kd.C R.k43 W' A n L := by
 refine ⟨h.1, h.2.1, fun h0 => ?_⟩
 obtain ⟨ad, e, hc⟩ := h.2.2 h0
 have ha := hA h0 ad e
 refine ⟨ad, e, fun j p hj => ?_⟩
 obtain ⟨c, hl, hr, hcell⟩ := hc j p hj
 have hB : ∀ {B : Option Addr} {m : Nat} {xs : List Int}, Kd.C (Kd.int .u8) W B m xs → Kd.C (Kd.int .u8) W' B m xs := fun hC => C_sub hC (fun h0 a ha => by subst ha; exact hs _ (C_apart hC h0 hb hu) (C_apart hC h0 hb' hu'))
 obtain ⟨A1, c1, A2, c2, rfl, l1, h1, l2, h2⟩ := R.k43_open hr
 exact ⟨_, hl, R.k43_mk W' p l1 (hB h1) l2 (hB h2), fun i u hi => (World.cell?_of_block (by unfold Addr.add; split <;> exact hs _ ha.1 ha.2)).trans (hcell i u hi)⟩
theorem bytes_keep {W W' : World} {A : Option Addr} {n : Nat} {xs : List Int} (h : Kd.C (Kd.int .u8) W A n xs) {g g' : Nat} {t t' : TypeId} {cs cs' : Array Value} (hs : ∀ b, b ≠ g → b ≠ g' → W'.heap[b]? = W.heap[b]?) (hb : Blk W g t cs) (hb' : Blk W g' t' cs') (hu : ∀ x, Value.int .u8 x ∉ cs) (hu' : ∀ x, Value.int .u8 x ∉ cs') : Kd.C (Kd.int .u8) W' A n xs :=
 C_sub h (fun h0 a ha => by subst ha; exact hs _ (C_apart h h0 hb hu) (C_apart h h0 hb' hu'))
/-- What is apart of two boxes at once: a good chain's row. -/
theorem good_keys {n : Nat} {s : List Int} {L : List R.S43} (h : Good n s L) : ∀ x, x ∈ L → x.f1.length ≠ 0 := fun x hx => by have := h.2.2.2.2.2.1 x hx; omega
/-- Two boxes of three cells, stored anew. -/
theorem heap_six (W : World) (g g' : Nat) (u v t u' v' t' : Value) (b : Nat) (h : b ≠ g) (h' : b ≠ g') : ((((((W.setCell ⟨g, 0, none⟩ u).setCell ⟨g, 1, none⟩ v).setCell ⟨g, 2, none⟩ t).setCell ⟨g', 0, none⟩ u').setCell ⟨g', 1, none⟩ v').setCell ⟨g', 2, none⟩ t').heap[b]? = W.heap[b]? := by
 rw [heap_set3 _ g' u' v' t' b h', heap_set3 W g u v t b h]
/-- Behind Take: its chain and its lock lie in two boxes. -/
def Taken (W : World) (N : Int) (s : List Int) (L : List R.S43) (x : R.S43) (gy gm : Nat) (wc : World) : Prop :=
 ∃ As cs Ap cp Ak ck An cn, (s.length ≤ cs ∧ L.length ≤ cp ∧ x.f1.length ≤ ck ∧ x.f2.length ≤ cn) ∧ Kd.C (Kd.int .u8) wc As s.length s ∧ Kd.C R.k43 wc Ap L.length L ∧ Kd.C (Kd.int .u8) wc Ak x.f1.length x.f1 ∧ Kd.C (Kd.int .u8) wc An x.f2.length x.f2 ∧
  Blk wc gy 25 #[.int .i64 N, .slice As s.length cs, .slice Ap L.length cp] ∧ Blk wc gm 43 #[.int .i64 x.f0, .slice Ak x.f1.length ck, .slice An x.f2.length cn] ∧ Below W.heap.size W wc ∧ W.heap.size ≤ gy ∧ W.heap.size ≤ gm ∧ gy ≠ gm
theorem no_u8_3 (n : Int) (A B : Option Addr) (a b c d : Nat) : ∀ x, Value.int .u8 x ∉ #[Value.int .i64 n, .slice A a b, .slice B c d] := by
 intro x h
 simp at h
theorem taken_six {W V : World} {N : Int} {s : List Int} {L : List R.S43} {x : R.S43} {As Ap Ak An : Option Addr} {cs cp ck cn : Nat} (hk : ∀ x, x ∈ L → x.f1.length ≠ 0) (q1 : s.length ≤ cs) (q2 : Kd.C (Kd.int .u8) V As s.length s) (q3 : L.length ≤ cp) (q4 : Kd.C R.k43 V Ap L.length L) (q5 : x.f1.length ≤ ck) (q6 : Kd.C (Kd.int .u8) V Ak x.f1.length x.f1) (q7 : x.f2.length ≤ cn) (q8 : Kd.C (Kd.int .u8) V An x.f2.length x.f2) (hb : Below W.heap.size W V)
  {gy gm : Nat} (hy : Blk V gy 25 #[.int .i64 0, .slice none 0 0, .slice none 0 0]) (hm : Blk V gm 43 #[.int .i64 0, .slice none 0 0, .slice none 0 0]) (hne : gy ≠ gm) (h1 : W.heap.size ≤ gy) (h2 : W.heap.size ≤ gm) :
  Taken W N s L x gy gm ((((((V.setCell ⟨gy, 0, none⟩ (.int .i64 N)).setCell ⟨gy, 1, none⟩ (.slice As s.length cs)).setCell ⟨gy, 2, none⟩ (.slice Ap L.length cp)).setCell ⟨gm, 0, none⟩ (.int .i64 x.f0)).setCell ⟨gm, 1, none⟩ (.slice Ak x.f1.length ck)).setCell ⟨gm, 2, none⟩ (.slice An x.f2.length cn)) := by
 have hs := fun b h h' => heap_six V gy gm (.int .i64 N) (.slice As s.length cs) (.slice Ap L.length cp) (.int .i64 x.f0) (.slice Ak x.f1.length ck) (.slice An x.f2.length cn) b h h'
 have hB : ∀ {B : Option Addr} {m : Nat} {xs : List Int}, Kd.C (Kd.int .u8) V B m xs → Kd.C (Kd.int .u8) _ B m xs := fun hC => bytes_keep hC hs hy hm (no_u8_3 _ _ _ _ _ _ _) (no_u8_3 _ _ _ _ _ _ _)
 refine ⟨As, cs, Ap, cp, Ak, ck, An, cn, ⟨q1, q3, q5, q7⟩, hB q2, locks_keep q4 hs (fun h0 a ha => by subst ha; exact ⟨locks_apart q4 h0 hk hy, locks_apart q4 h0 hk hm⟩) hy hm (no_u8_3 _ _ _ _ _ _ _) (no_u8_3 _ _ _ _ _ _ _), hB q6, hB q8, ?_, ?_, ?_, h1, h2, hne⟩
 ·exact ((((((hy.set_ 0 _).set_ 1 _).set_ 2 _).far (p := ⟨gm, 0, none⟩) hne _).far (p := ⟨gm, 1, none⟩) hne _).far (p := ⟨gm, 2, none⟩) hne _)
 ·exact ((((((hm.far (p := ⟨gy, 0, none⟩) hne.symm _).far (p := ⟨gy, 1, none⟩) hne.symm _).far (p := ⟨gy, 2, none⟩) hne.symm _).set_ 0 _).set_ 1 _).set_ 2 _)
 ·exact (((((hb.setCell (p := ⟨gy, 0, none⟩) h1 _).setCell (p := ⟨gy, 1, none⟩) h1 _).setCell (p := ⟨gy, 2, none⟩) h1 _).setCell (p := ⟨gm, 0, none⟩) h2 _).setCell (p := ⟨gm, 1, none⟩) h2 _).setCell (p := ⟨gm, 2, none⟩) h2 _
theorem taken_y {W V : World} {N : Int} {s : List Int} {L : List R.S43} {x : R.S43} {As Ap Ak An : Option Addr} {cs cp ck cn : Nat} (hk : ∀ x, x ∈ L → x.f1.length ≠ 0) (q1 : s.length ≤ cs) (q2 : Kd.C (Kd.int .u8) V As s.length s) (q3 : L.length ≤ cp) (q4 : Kd.C R.k43 V Ap L.length L) (q5 : x.f1.length ≤ ck) (q6 : Kd.C (Kd.int .u8) V Ak x.f1.length x.f1) (q7 : x.f2.length ≤ cn) (q8 : Kd.C (Kd.int .u8) V An x.f2.length x.f2) (hb : Below W.heap.size W V)
  {gy : Nat} (hy : Blk V gy 25 #[.int .i64 0, .slice none 0 0, .slice none 0 0]) (h1 : W.heap.size ≤ gy) :
  Taken W N s L x gy V.heap.size ((((V.setCell ⟨gy, 0, none⟩ (.int .i64 N)).setCell ⟨gy, 1, none⟩ (.slice As s.length cs)).setCell ⟨gy, 2, none⟩ (.slice Ap L.length cp)).alloc (.cells #[.int .i64 x.f0, .slice Ak x.f1.length ck, .slice An x.f2.length cn] 43)) := by
 have hs := fun b (h : b ≠ gy) (_ : b ≠ gy) => heap_set3 V gy (.int .i64 N) (.slice As s.length cs) (.slice Ap L.length cp) b h
 have hB : ∀ {B : Option Addr} {m : Nat} {xs : List Int}, Kd.C (Kd.int .u8) V B m xs → Kd.C (Kd.int .u8) _ B m xs := fun hC => bytes_keep hC hs hy hy (no_u8_3 _ _ _ _ _ _ _) (no_u8_3 _ _ _ _ _ _ _)
 have hsz : (((V.setCell ⟨gy, 0, none⟩ (.int .i64 N)).setCell ⟨gy, 1, none⟩ (.slice As s.length cs)).setCell ⟨gy, 2, none⟩ (.slice Ap L.length cp)).heap.size = V.heap.size := by simp
 have hn := Blk.new (((V.setCell ⟨gy, 0, none⟩ (.int .i64 N)).setCell ⟨gy, 1, none⟩ (.slice As s.length cs)).setCell ⟨gy, 2, none⟩ (.slice Ap L.length cp)) 43 #[.int .i64 x.f0, .slice Ak x.f1.length ck, .slice An x.f2.length cn]
 rw [hsz] at hn
 have hbs := ((hb.setCell (p := ⟨gy, 0, none⟩) h1 (.int .i64 N)).setCell (p := ⟨gy, 1, none⟩) h1 (.slice As s.length cs)).setCell (p := ⟨gy, 2, none⟩) h1 (.slice Ap L.length cp)
 exact ⟨As, cs, Ap, cp, Ak, ck, An, cn, ⟨q1, q3, q5, q7⟩, Kd.C_alloc (hB q2) _, Kd.C_alloc (locks_keep q4 hs (fun h0 a ha => by subst ha; exact ⟨locks_apart q4 h0 hk hy, locks_apart q4 h0 hk hy⟩) hy hy (no_u8_3 _ _ _ _ _ _ _) (no_u8_3 _ _ _ _ _ _ _)) _, Kd.C_alloc (hB q6) _, Kd.C_alloc (hB q8) _, (((hy.set_ 0 _).set_ 1 _).set_ 2 _).alloc _, hn, hbs.alloc (by rw [hsz]; exact hb.size) _, h1, hb.size, Nat.ne_of_lt hy.lt⟩
theorem taken_m {W V : World} {N : Int} {s : List Int} {L : List R.S43} {x : R.S43} {As Ap Ak An : Option Addr} {cs cp ck cn : Nat} (hk : ∀ x, x ∈ L → x.f1.length ≠ 0) (q1 : s.length ≤ cs) (q2 : Kd.C (Kd.int .u8) V As s.length s) (q3 : L.length ≤ cp) (q4 : Kd.C R.k43 V Ap L.length L) (q5 : x.f1.length ≤ ck) (q6 : Kd.C (Kd.int .u8) V Ak x.f1.length x.f1) (q7 : x.f2.length ≤ cn) (q8 : Kd.C (Kd.int .u8) V An x.f2.length x.f2) (hb : Below W.heap.size W V)
  {gm : Nat} (hm : Blk V gm 43 #[.int .i64 0, .slice none 0 0, .slice none 0 0]) (h2 : W.heap.size ≤ gm) :
  Taken W N s L x V.heap.size gm ((((V.setCell ⟨gm, 0, none⟩ (.int .i64 x.f0)).setCell ⟨gm, 1, none⟩ (.slice Ak x.f1.length ck)).setCell ⟨gm, 2, none⟩ (.slice An x.f2.length cn)).alloc (.cells #[.int .i64 N, .slice As s.length cs, .slice Ap L.length cp] 25)) := by
 have hs := fun b (h : b ≠ gm) (_ : b ≠ gm) => heap_set3 V gm (.int .i64 x.f0) (.slice Ak x.f1.length ck) (.slice An x.f2.length cn) b h
 have hB : ∀ {B : Option Addr} {m : Nat} {xs : List Int}, Kd.C (Kd.int .u8) V B m xs → Kd.C (Kd.int .u8) _ B m xs := fun hC => bytes_keep hC hs hm hm (no_u8_3 _ _ _ _ _ _ _) (no_u8_3 _ _ _ _ _ _ _)
 have hsz : (((V.setCell ⟨gm, 0, none⟩ (.int .i64 x.f0)).setCell ⟨gm, 1, none⟩ (.slice Ak x.f1.length ck)).setCell ⟨gm, 2, none⟩ (.slice An x.f2.length cn)).heap.size = V.heap.size := by simp
 have hn := Blk.new (((V.setCell ⟨gm, 0, none⟩ (.int .i64 x.f0)).setCell ⟨gm, 1, none⟩ (.slice Ak x.f1.length ck)).setCell ⟨gm, 2, none⟩ (.slice An x.f2.length cn)) 25 #[.int .i64 N, .slice As s.length cs, .slice Ap L.length cp]
 rw [hsz] at hn
 have hbs := ((hb.setCell (p := ⟨gm, 0, none⟩) h2 (.int .i64 x.f0)).setCell (p := ⟨gm, 1, none⟩) h2 (.slice Ak x.f1.length ck)).setCell (p := ⟨gm, 2, none⟩) h2 (.slice An x.f2.length cn)
 exact ⟨As, cs, Ap, cp, Ak, ck, An, cn, ⟨q1, q3, q5, q7⟩, Kd.C_alloc (hB q2) _, Kd.C_alloc (locks_keep q4 hs (fun h0 a ha => by subst ha; exact ⟨locks_apart q4 h0 hk hm, locks_apart q4 h0 hk hm⟩) hm hm (no_u8_3 _ _ _ _ _ _ _) (no_u8_3 _ _ _ _ _ _ _)) _, Kd.C_alloc (hB q6) _, Kd.C_alloc (hB q8) _, hn, (((hm.set_ 0 _).set_ 1 _).set_ 2 _).alloc _, hbs.alloc (by rw [hsz]; exact hb.size) _, hb.size, h2, (Nat.ne_of_lt hm.lt).symm⟩
theorem taken_new_t {W V : World} {N : Int} {s : List Int} {L : List R.S43} {x : R.S43} {As Ap Ak An : Option Addr} {cs cp ck cn : Nat} (q1 : s.length ≤ cs) (q2 : Kd.C (Kd.int .u8) V As s.length s) (q3 : L.length ≤ cp) (q4 : Kd.C R.k43 V Ap L.length L) (q5 : x.f1.length ≤ ck) (q6 : Kd.C (Kd.int .u8) V Ak x.f1.length x.f1) (q7 : x.f2.length ≤ cn) (q8 : Kd.C (Kd.int .u8) V An x.f2.length x.f2) (hb : Below W.heap.size W V)
  :
  Taken W N s L x V.heap.size (V.heap.size + 1) ((V.alloc (.cells #[.int .i64 N, .slice As s.length cs, .slice Ap L.length cp] 25)).alloc (.cells #[.int .i64 x.f0, .slice Ak x.f1.length ck, .slice An x.f2.length cn] 43)) := by
 have hz : W.heap.size ≤ V.heap.size := hb.size
 obtain ⟨r1, r2, r3, r4⟩ := two_boxes V #[.int .i64 N, .slice As s.length cs, .slice Ap L.length cp] #[.int .i64 x.f0, .slice Ak x.f1.length ck, .slice An x.f2.length cn] 25 43
 exact ⟨As, cs, Ap, cp, Ak, ck, An, cn, ⟨q1, q3, q5, q7⟩, Kd.C_below q2 r3, Kd.C_below q4 r3, Kd.C_below q6 r3, Kd.C_below q8 r3, r1, r2, hb.trans (r3.mono hz), hz, Nat.le_succ_of_le hz, Nat.ne_of_lt (Nat.lt_succ_self _)⟩
theorem taken_new_f {W V : World} {N : Int} {s : List Int} {L : List R.S43} {x : R.S43} {As Ap Ak An : Option Addr} {cs cp ck cn : Nat} (q1 : s.length ≤ cs) (q2 : Kd.C (Kd.int .u8) V As s.length s) (q3 : L.length ≤ cp) (q4 : Kd.C R.k43 V Ap L.length L) (q5 : x.f1.length ≤ ck) (q6 : Kd.C (Kd.int .u8) V Ak x.f1.length x.f1) (q7 : x.f2.length ≤ cn) (q8 : Kd.C (Kd.int .u8) V An x.f2.length x.f2) (hb : Below W.heap.size W V)
  :
  Taken W N s L x (V.heap.size + 1) V.heap.size ((V.alloc (.cells #[.int .i64 x.f0, .slice Ak x.f1.length ck, .slice An x.f2.length cn] 43)).alloc (.cells #[.int .i64 N, .slice As s.length cs, .slice Ap L.length cp] 25)) := by
 have hz : W.heap.size ≤ V.heap.size := hb.size
 obtain ⟨r1, r2, r3, r4⟩ := two_boxes V #[.int .i64 x.f0, .slice Ak x.f1.length ck, .slice An x.f2.length cn] #[.int .i64 N, .slice As s.length cs, .slice Ap L.length cp] 43 25
 exact ⟨As, cs, Ap, cp, Ak, ck, An, cn, ⟨q1, q3, q5, q7⟩, Kd.C_below q2 r3, Kd.C_below q4 r3, Kd.C_below q6 r3, Kd.C_below q8 r3, r2, r1, hb.trans (r3.mono hz), Nat.le_succ_of_le hz, hz, (Nat.ne_of_lt (Nat.lt_succ_self _)).symm⟩
end Go.Proofs.YtdklmafkcbjomaaDoor
