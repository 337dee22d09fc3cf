/-
  Walks: sha.Start, sha.keys: the array that a loop over the primes fills.
-/
import Derived.Test.YtamaokokbajlgaaShaIter
import Derived.RangeFuncBox
namespace Go.Proofs.Ytamaokokbajlgaa
open Go.RowKit Go.Shelf Iter

set_option linter.unusedSimpArgs false
attribute [local go_sem] Oper.semAt_some

/-- Array of n words, the first k of them known. -/
def arrTo (f : Nat → Nat) (n k : Nat) : Array Value := ((List.range n).map fun i => Value.int .u32 (if i < k then (f i : Int) else 0)).toArray
theorem arrTo_size (f : Nat → Nat) (n k : Nat) : (arrTo f n k).size = n := by simp [arrTo]
theorem arrTo_set (f : Nat → Nat) (n k : Nat) : (arrTo f n k).setIfInBounds k (.int .u32 (f k)) = arrTo f n (k + 1) := by
  apply Array.ext
  · simp [arrTo]
  · intro i h1 h2
    simp [arrTo] at h1
    rw [Array.getElem_setIfInBounds (by simp [arrTo]; omega)]
    simp only [arrTo, List.getElem_toArray, List.getElem_map, List.getElem_range]
    by_cases h : k = i
    · subst h
      rw [if_pos rfl, if_pos (by omega)]
    · rw [if_neg h]
      by_cases h' : i < k
      · rw [if_pos h', if_pos (by omega)]
      · rw [if_neg h', if_neg (by omega)]

/-- Block g is just these cells. -/
def Blk (w : World) (g : Nat) (t : TypeId) (cs : Array Value) : Prop := w.heap[g]? = some (.cells cs t (0, 0))
theorem Blk.kept {w w' : World} {g : Nat} {t : TypeId} {cs : Array Value} (h : Blk w g t cs) (hk : KeepsCells w w') : Blk w' g t cs := hk.same _ _ h rfl
theorem Blk.lt {w : World} {g : Nat} {t : TypeId} {cs : Array Value} (h : Blk w g t cs) : g < w.heap.size := (Array.getElem?_eq_some_iff.1 h).1
theorem Blk.cell {w : World} {g : Nat} {t : TypeId} {cs : Array Value} (h : Blk w g t cs) (i : Nat) : w.cell? ⟨g, i, none⟩ = cs[i]? := cell_of_row w g i cs t (0, 0) h
theorem Blk.frozen {w : World} {g : Nat} {t : TypeId} {cs : Array Value} (h : Blk w g t cs) (i : Nat) : w.frozen? ⟨g, i, none⟩ = false := by
  unfold Blk at h
  simp [World.frozen?, h]
theorem Blk.new (w : World) (t : TypeId) (cs : Array Value) : Blk (w.alloc (.cells cs t)) w.heap.size t cs := heap_alloc_new w _
theorem Blk.alloc {w : World} {g : Nat} {t : TypeId} {cs : Array Value} (h : Blk w g t cs) (o : Obj) : Blk (w.alloc o) g t cs := (Below.heap_alloc w o g h.lt).trans h
theorem Blk.set_ {w : World} {g : Nat} {t : TypeId} {cs : Array Value} (h : Blk w g t cs) (i : Nat) (u : Value) : Blk (w.setCell ⟨g, i, none⟩ u) g t (cs.setIfInBounds i u) := by
  unfold Blk at h ⊢
  simp [World.setCell, Array.getElem?_modify, h]
theorem Blk.far {w : World} {g : Nat} {t : TypeId} {cs : Array Value} (h : Blk w g t cs) {p : Addr} (hp : g ≠ p.block) (u : Value) : Blk (w.setCell p u) g t cs := (Below.heap_setCell w p u g hp).trans h
theorem Blk.below {w w' : World} {g : Nat} {t : TypeId} {cs : Array Value} {B : Nat} (h : Blk w g t cs) (hb : Below B w w') (hg : g < B) : Blk w' g t cs := (hb.block g hg).trans h

set_option maxHeartbeats 1000000 in
theorem primes_calls (n : Nat) (w : World) : CallsIn Fence.wide n Try.prog 45 #[] w fun e w' => e = .returned (.func (.func 56) #[] #[]) ∧ w = w' := by
  refine callsIn_of_wp Try.func45 rfl trivial ?_ rfl
  simp only [Try.ntmps45, List.size_toArray, List.length_cons, List.length_nil, Nat.reduceAdd, Nat.reduceSub, Array.replicate_succ, Array.replicate_zero, List.push_toArray, List.append_toArray, List.nil_append, List.cons_append]
  gi_wp2
  go_ret
  exact ⟨rfl, rfl⟩
theorem iter_enters (args : Array Value) (w : World) : (callFunc 56 args).run Try.prog w = .ok (.enter 56 args) w := enters_of Try.func56 (by kernel_rfl) rfl args w

def fStart (i : Nat) : Nat := Sha.root (Sha.pTab.getD i 0) 2
set_option maxRecDepth 100000 in
theorem zeroStart : #[Value.int IntKind.u32 0, Value.int IntKind.u32 0, Value.int IntKind.u32 0, Value.int IntKind.u32 0, Value.int IntKind.u32 0, Value.int IntKind.u32 0, Value.int IntKind.u32 0, Value.int IntKind.u32 0] = arrTo fStart 8 0 := rfl
def IStart (w : World) (k : Nat) (W : World) : Prop := k ≤ 8 ∧ Blk W (w.heap.size + 1) 31 (arrTo fStart 8 k) ∧ Blk W w.heap.size 31 (arrTo fStart 8 0)
theorem IStart_own (w : World) : CellOwn (IStart w) := fun _ _ _ h hk => ⟨h.1, h.2.1.kept hk, h.2.2.kept hk⟩
def XStart (w : World) (c : Code) (_ : Nat) (W : World) : Prop := c = .exit 0 ∧ Blk W (w.heap.size + 1) 31 (arrTo fStart 8 8) ∧ Blk W w.heap.size 31 (arrTo fStart 8 0)
theorem XStart_own (w : World) (c : Code) : CellOwn (XStart w c) := fun _ _ _ h hk => ⟨h.1, h.2.1.kept hk, h.2.2.kept hk⟩
theorem infoStart : (Try.prog.info? 31).map (·.size) = some 8 := by kernel_rfl

set_option maxRecDepth 100000 in
set_option maxHeartbeats 2000000 in
theorem Start_in (w : World) : CallsIn Fence.wide 5 Try.prog 22 #[] w fun e w' => e = .returned (.agg (arrTo fStart 8 8)) ∧ Below w.heap.size w w' := by
  refine callsIn_of_wp_marks Try.func22 rfl trivial ?_ rfl
  simp only [Try.ntmps22, List.size_toArray, List.length_cons, List.length_nil, Nat.reduceAdd, Nat.reduceSub, Array.replicate_succ, Array.replicate_zero, List.push_toArray, List.append_toArray, List.nil_append, List.cons_append]
  gi_wp2_with fail
  refine ⟨trivial, (primes_calls _ _).mono ?_⟩
  rintro e w' ⟨rfl, rfl⟩
  rw [zeroStart]
  have b1 := Blk.new (w.alloc (.cells (arrTo fStart 8 0) 31)) 31 (arrTo fStart 8 0)
  have b0 := (Blk.new w 31 (arrTo fStart 8 0)).alloc (.cells (arrTo fStart 8 0) 31)
  have hb : Below w.heap.size w ((w.alloc (.cells (arrTo fStart 8 0) 31)).alloc (.cells (arrTo fStart 8 0) 31)) := ((Below.refl _ w).alloc (Nat.le_refl _) _).alloc (by simp) _
  have hsz : ((w.alloc (.cells (arrTo fStart 8 0) 31)).alloc (.cells (arrTo fStart 8 0) 31)).heap.size = w.heap.size + 2 := by simp
  rw [World.size_alloc] at b1
  generalize (w.alloc (.cells (arrTo fStart 8 0) 31)).alloc (.cells (arrTo fStart 8 0) 31) = W0 at b1 b0 hb hsz ⊢
  gi_wp2
  refine wpIn_range_inf (n := 3) (gf := 56) (lb := #[]) rfl iter_enters (primes_seq w.heap.size w) hb (by omega) (fun k args W h => by unfold PEl at h; rw [h]; rfl) (fun k args W W' h _ => h) (fun _ _ _ _ _ _ _ _ => trivial)
    (IStart w) (XStart w) (IStart_own w) (XStart_own w) ⟨by omega, b1, b0⟩
    (fun args => { tmps := #[.pointer (some ⟨w.heap.size, 0, none⟩), .pointer (some ⟨w.heap.size + 1, 0, none⟩), args.getD 0 undef, args.getD 1 undef, .func (.func 56) #[] #[], args.getD 0 undef, args.getD 1 undef, undef, undef, undef, undef, undef, undef, undef], defers := [] })
    ?assign ?body ?stop
  case assign =>
    rintro l k args W K rfl hK
    gi_wp2
    exact hK
  case body =>
    rintro l k args W hk ⟨hkn, c1, c0⟩ rfl hbW
    have hp := Sha.pTab_lt k hk
    have hfr := c1.frozen k
    have hsz1 := c1.lt
    show Code.wpIn _ _ _ _ _ { tmps := #[.pointer (some ⟨w.heap.size, 0, none⟩), .pointer (some ⟨w.heap.size + 1, 0, none⟩), .int .i64 k, .int .u64 (Sha.pTab.getD k 0), .func (.func 56) #[] #[], .int .i64 k, .int .u64 (Sha.pTab.getD k 0), undef, undef, undef, undef, undef, undef, undef], defers := [] } W
    by_cases hk8 : k = 8
    · subst hk8
      gi_wp2
      exact ⟨KeepsOthers.refl _, ⟨rfl, c1, c0⟩, Below.refl _ _⟩
    · have hk8' : ((k : Int) == 8) = false := by simp; omega
      have hcell : W.cell? ⟨w.heap.size + 1, k, none⟩ = some (.int .u32 0) := by
        rw [c1.cell k]
        simp [arrTo, show k < 8 by omega]
      have hset := c1.set_ k (.int .u32 (fStart k))
      rw [arrTo_set] at hset
      have h0k : (0 : Int) ≤ (k : Int) := by omega
      have hkn' : (k : Int) < 8 := by omega
      unfold fStart at hset
      generalize Sha.pTab.getD k 0 = p at *
      gi_wp2_with fail
      refine ⟨trivial, (CallsIn.inRound l (callsIn_wide.2 (root_calls p 2 (by omega) (by omega) _))).mono ?_⟩
      rintro e w' ⟨rfl, rfl⟩
      gi_wp2
      exact ⟨(KeepsOthers.setCell _ _ _), by omega, ⟨by omega, hset, c0.far (by simp) _⟩, (Below.refl _ _).setCell (by simp) _, trivial⟩
  case stop =>
    rintro D c k W ⟨rfl, c1, c0⟩ hbW hD hDB
    gi_wp2_with (first
      | (refine wpListIn_load_row rfl 31 (.tmp 1) rfl (w.heap.size + 1) rfl 31 _ (0, 0) _ c1 Try.underlying31 rfl (by rw [arrTo_size]; exact infoStart) ?_)
      | (refine wpListIn_store_row rfl 31 (.tmp 0) (.tmp 13) rfl w.heap.size _ rfl rfl 31 _ c0 (by rw [arrTo_size]; exact infoStart) (by rw [arrTo_size, arrTo_size]) (by simp [arrTo, Value.oneCell']) ?_))
    have hne : D ≠ w.heap.size := by omega
    have hD' : (W.setRow w.heap.size (arrTo fStart 8 8)).heap[D]? = some (.deferred (some [])) := by
      show (W.heap.modify _ _)[D]? = _
      rw [Array.getElem?_modify, if_neg (by omega)]
      exact hD
    have hrow : (W.setRow w.heap.size (arrTo fStart 8 8)).heap[w.heap.size]? = some (.cells (arrTo fStart 8 8) 31 (0, 0)) := setRow_heap W w.heap.size _ _ _ _ c0
    refine ⟨by simp, .inl ⟨_, _, rfl, run_takeDeferred hD', ?_⟩⟩
    exact ⟨_, results_cell_row rfl _ _ w.heap.size 31 _ (0, 0) _ rfl ((World.putObj_heap_other (Ne.symm hne)).trans hrow) Try.underlying31 rfl (by rw [arrTo_size]; exact infoStart), rfl, (hbW.trans (below_setRow _ (Nat.le_refl _))).trans (below_putObj _ (by omega))⟩

def fkeys (i : Nat) : Nat := Sha.root (Sha.pTab.getD i 0) 3
set_option maxRecDepth 100000 in
theorem zerokeys : #[Value.int IntKind.u32 0, Value.int IntKind.u32 0, Value.int IntKind.u32 0, Value.int IntKind.u32 0, Value.int IntKind.u32 0, Value.int IntKind.u32 0, Value.int IntKind.u32 0, Value.int IntKind.u32 0, Value.int IntKind.u32 0, Value.int IntKind.u32 0, Value.int IntKind.u32 0, Value.int IntKind.u32 0, Value.int IntKind.u32 0, Value.int IntKind.u32 0, Value.int IntKind.u32 0, Value.int IntKind.u32 0, Value.int IntKind.u32 0, Value.int IntKind.u32 0, Value.int IntKind.u32 0, Value.int IntKind.u32 0, Value.int IntKind.u32 0, Value.int IntKind.u32 0, Value.int IntKind.u32 0, Value.int IntKind.u32 0, Value.int IntKind.u32 0, Value.int IntKind.u32 0, Value.int IntKind.u32 0, Value.int IntKind.u32 0, Value.int IntKind.u32 0, Value.int IntKind.u32 0, Value.int IntKind.u32 0, Value.int IntKind.u32 0, Value.int IntKind.u32 0, Value.int IntKind.u32 0, Value.int IntKind.u32 0, Value.int IntKind.u32 0, Value.int IntKind.u32 0, Value.int IntKind.u32 0, Value.int IntKind.u32 0, Value.int IntKind.u32 0, Value.int IntKind.u32 0, Value.int IntKind.u32 0, Value.int IntKind.u32 0, Value.int IntKind.u32 0, Value.int IntKind.u32 0, Value.int IntKind.u32 0, Value.int IntKind.u32 0, Value.int IntKind.u32 0, Value.int IntKind.u32 0, Value.int IntKind.u32 0, Value.int IntKind.u32 0, Value.int IntKind.u32 0, Value.int IntKind.u32 0, Value.int IntKind.u32 0, Value.int IntKind.u32 0, Value.int IntKind.u32 0, Value.int IntKind.u32 0, Value.int IntKind.u32 0, Value.int IntKind.u32 0, Value.int IntKind.u32 0, Value.int IntKind.u32 0, Value.int IntKind.u32 0, Value.int IntKind.u32 0, Value.int IntKind.u32 0] = arrTo fkeys 64 0 := rfl
def Ikeys (w : World) (k : Nat) (W : World) : Prop := k ≤ 64 ∧ Blk W (w.heap.size + 1) 55 (arrTo fkeys 64 k) ∧ Blk W w.heap.size 55 (arrTo fkeys 64 0)
theorem Ikeys_own (w : World) : CellOwn (Ikeys w) := fun _ _ _ h hk => ⟨h.1, h.2.1.kept hk, h.2.2.kept hk⟩
def Xkeys (w : World) (c : Code) (_ : Nat) (W : World) : Prop := c = .exit 0 ∧ Blk W (w.heap.size + 1) 55 (arrTo fkeys 64 64) ∧ Blk W w.heap.size 55 (arrTo fkeys 64 0)
theorem Xkeys_own (w : World) (c : Code) : CellOwn (Xkeys w c) := fun _ _ _ h hk => ⟨h.1, h.2.1.kept hk, h.2.2.kept hk⟩
theorem infokeys : (Try.prog.info? 55).map (·.size) = some 64 := by kernel_rfl

set_option maxRecDepth 100000 in
set_option maxHeartbeats 2000000 in
theorem keys_in (w : World) : CallsIn Fence.wide 5 Try.prog 40 #[] w fun e w' => e = .returned (.agg (arrTo fkeys 64 64)) ∧ Below w.heap.size w w' := by
  refine callsIn_of_wp_marks Try.func40 rfl trivial ?_ rfl
  simp only [Try.ntmps40, List.size_toArray, List.length_cons, List.length_nil, Nat.reduceAdd, Nat.reduceSub, Array.replicate_succ, Array.replicate_zero, List.push_toArray, List.append_toArray, List.nil_append, List.cons_append]
  gi_wp2_with fail
  refine ⟨trivial, (primes_calls _ _).mono ?_⟩
  rintro e w' ⟨rfl, rfl⟩
  rw [zerokeys]
  have b1 := Blk.new (w.alloc (.cells (arrTo fkeys 64 0) 55)) 55 (arrTo fkeys 64 0)
  have b0 := (Blk.new w 55 (arrTo fkeys 64 0)).alloc (.cells (arrTo fkeys 64 0) 55)
  have hb : Below w.heap.size w ((w.alloc (.cells (arrTo fkeys 64 0) 55)).alloc (.cells (arrTo fkeys 64 0) 55)) := ((Below.refl _ w).alloc (Nat.le_refl _) _).alloc (by simp) _
  have hsz : ((w.alloc (.cells (arrTo fkeys 64 0) 55)).alloc (.cells (arrTo fkeys 64 0) 55)).heap.size = w.heap.size + 2 := by simp
  rw [World.size_alloc] at b1
  generalize (w.alloc (.cells (arrTo fkeys 64 0) 55)).alloc (.cells (arrTo fkeys 64 0) 55) = W0 at b1 b0 hb hsz ⊢
  gi_wp2
  refine wpIn_range_inf (n := 3) (gf := 56) (lb := #[]) rfl iter_enters (primes_seq w.heap.size w) hb (by omega) (fun k args W h => by unfold PEl at h; rw [h]; rfl) (fun k args W W' h _ => h) (fun _ _ _ _ _ _ _ _ => trivial)
    (Ikeys w) (Xkeys w) (Ikeys_own w) (Xkeys_own w) ⟨by omega, b1, b0⟩
    (fun args => { tmps := #[.pointer (some ⟨w.heap.size, 0, none⟩), .pointer (some ⟨w.heap.size + 1, 0, none⟩), args.getD 0 undef, args.getD 1 undef, .func (.func 56) #[] #[], args.getD 0 undef, args.getD 1 undef, undef, undef, undef, undef, undef, undef, undef], defers := [] })
    ?assign ?body ?stop
  case assign =>
    rintro l k args W K rfl hK
    gi_wp2
    exact hK
  case body =>
    rintro l k args W hk ⟨hkn, c1, c0⟩ rfl hbW
    have hp := Sha.pTab_lt k hk
    have hfr := c1.frozen k
    have hsz1 := c1.lt
    show Code.wpIn _ _ _ _ _ { tmps := #[.pointer (some ⟨w.heap.size, 0, none⟩), .pointer (some ⟨w.heap.size + 1, 0, none⟩), .int .i64 k, .int .u64 (Sha.pTab.getD k 0), .func (.func 56) #[] #[], .int .i64 k, .int .u64 (Sha.pTab.getD k 0), undef, undef, undef, undef, undef, undef, undef], defers := [] } W
    by_cases hk8 : k = 64
    · subst hk8
      gi_wp2
      exact ⟨KeepsOthers.refl _, ⟨rfl, c1, c0⟩, Below.refl _ _⟩
    · have hk8' : ((k : Int) == 64) = false := by simp; omega
      have hcell : W.cell? ⟨w.heap.size + 1, k, none⟩ = some (.int .u32 0) := by
        rw [c1.cell k]
        simp [arrTo, show k < 64 by omega]
      have hset := c1.set_ k (.int .u32 (fkeys k))
      rw [arrTo_set] at hset
      have h0k : (0 : Int) ≤ (k : Int) := by omega
      have hkn' : (k : Int) < 64 := by omega
      unfold fkeys at hset
      generalize Sha.pTab.getD k 0 = p at *
      gi_wp2_with fail
      refine ⟨trivial, (CallsIn.inRound l (callsIn_wide.2 (root_calls p 3 (by omega) (by omega) _))).mono ?_⟩
      rintro e w' ⟨rfl, rfl⟩
      gi_wp2
      exact ⟨(KeepsOthers.setCell _ _ _), by omega, ⟨by omega, hset, c0.far (by simp) _⟩, (Below.refl _ _).setCell (by simp) _, trivial⟩
  case stop =>
    rintro D c k W ⟨rfl, c1, c0⟩ hbW hD hDB
    gi_wp2_with (first
      | (refine wpListIn_load_row rfl 55 (.tmp 1) rfl (w.heap.size + 1) rfl 55 _ (0, 0) _ c1 Try.underlying55 rfl (by rw [arrTo_size]; exact infokeys) ?_)
      | (refine wpListIn_store_row rfl 55 (.tmp 0) (.tmp 13) rfl w.heap.size _ rfl rfl 55 _ c0 (by rw [arrTo_size]; exact infokeys) (by rw [arrTo_size, arrTo_size]) (by simp [arrTo, Value.oneCell']) ?_))
    have hne : D ≠ w.heap.size := by omega
    have hD' : (W.setRow w.heap.size (arrTo fkeys 64 64)).heap[D]? = some (.deferred (some [])) := by
      show (W.heap.modify _ _)[D]? = _
      rw [Array.getElem?_modify, if_neg (by omega)]
      exact hD
    have hrow : (W.setRow w.heap.size (arrTo fkeys 64 64)).heap[w.heap.size]? = some (.cells (arrTo fkeys 64 64) 55 (0, 0)) := setRow_heap W w.heap.size _ _ _ _ c0
    refine ⟨by simp, .inl ⟨_, _, rfl, run_takeDeferred hD', ?_⟩⟩
    exact ⟨_, results_cell_row rfl _ _ w.heap.size 55 _ (0, 0) _ rfl ((World.putObj_heap_other (Ne.symm hne)).trans hrow) Try.underlying55 rfl (by rw [arrTo_size]; exact infokeys), rfl, (hbW.trans (below_setRow _ (Nat.le_refl _))).trans (below_putObj _ (by omega))⟩

theorem tab_of_map (f : Nat → Nat) (l : List Nat) (n : Nat) (h : (List.range n).map f = l) : ∀ i, i < n → f i = l.getD i 0 := by
  intro i hi
  rw [← h]
  simp [hi]
theorem fStart_tab : ∀ i, i < 8 → fStart i = Sha.hTab.getD i 0 := tab_of_map fStart _ 8 Sha.roots2
theorem fkeys_tab : ∀ i, i < 64 → fkeys i = Sha.kTab.getD i 0 := tab_of_map fkeys _ 64 Sha.roots3
/-- An array of words. -/
def wordsV (l : List Nat) : Array Value := (l.map fun (x : Nat) => Value.int .u32 (x : Int)).toArray
theorem arrTo_full (f : Nat → Nat) (l : List Nat) (h : ∀ i, i < l.length → f i = l.getD i 0) : arrTo f l.length l.length = wordsV l := by
  unfold arrTo wordsV
  congr 1
  apply List.ext_getElem
  · simp
  · intro i h1 h2
    simp at h1
    simp [h1, h i h1]
set_option maxRecDepth 100000 in
theorem Start_calls (w : World) : Calls Try.prog 22 #[] w fun e w' => e = .returned (.agg (wordsV Sha.hTab)) ∧ Below w.heap.size w w' := by
  have h := callsIn_wide.1 (Start_in w)
  rwa [show arrTo fStart 8 8 = wordsV Sha.hTab from arrTo_full fStart Sha.hTab fStart_tab] at h
set_option maxRecDepth 100000 in
theorem keys_calls (w : World) : Calls Try.prog 40 #[] w fun e w' => e = .returned (.agg (wordsV Sha.kTab)) ∧ Below w.heap.size w w' := by
  have h := callsIn_wide.1 (keys_in w)
  rwa [show arrTo fkeys 64 64 = wordsV Sha.kTab from arrTo_full fkeys Sha.kTab fkeys_tab] at h
end Go.Proofs.Ytamaokokbajlgaa
