-- Written by a program of this session (wip/tools/mkprint.py over the kit's print); Lean checks it.
import Derived.Test.YtancajnbjmcamaaQSplitTimesx0
import Derived.Test.YtancajnbjmcamaaQSplitTimesx6
import Derived.Test.YtancajnbjmcamaaQSplitTimesx7
namespace Go.Proofs.Ytancajnbjmcamaa.QSplitTimes
open Go.RowKit Go.Proofs.YtancajnbjmcamaaW.PrintWords Go.Proofs.YtancajnbjmcamaaW.PrintLast Go.Proofs.YtancajnbjmcamaaW.PrintMore
attribute [local go_sem] max2_int min2_int max_two min_two max_three min_three max_four min_four   -- for this text's walks alone
set_option linter.unusedVariables false
set_option linter.unusedSimpArgs false

/-! ### hornbeamlaw16_SplitTimes: function 7 -/
-- as it stands
def hornbeamlaw16_SplitTimes.okC (x : Int) : Bool := decide (0 ≤ x) && decide (x ≤ 4096)
def hornbeamlaw16_SplitTimes.okM (m : S54) : Bool := decide (0 ≤ m.f0) && (decide (m.f0 ≤ 16384) && (decide (m.f1 ≤ m.f0 * 1048576) && (decide (-m.f0 * 1048576 ≤ m.f1) && (decide (0 ≤ m.f2) && decide (m.f2 ≤ m.f0 * 1099511627776)))))
def hornbeamlaw16_SplitTimes.mulC (c x : Int) : Int := wrap64 (x * c)
def hornbeamlaw16_SplitTimes.mulM (c : Int) (m : S54) : S54 := ⟨wrap64 (m.f0 * c), wrap64 (m.f1 * c), wrap64 (m.f2 * c)⟩
def hornbeamlaw16_SplitTimes.mulH (c : Int) (h : S25) : S25 := ⟨h.f0, h.f1, h.f2, h.f3.map (hornbeamlaw16_SplitTimes.mulC c), h.f4.map (hornbeamlaw16_SplitTimes.mulM c)⟩
def hornbeamlaw16_SplitTimes.own (h : S25) : Int := h.f4.foldl (fun s m => wrap64 (s + m.f0)) (h.f3.foldl (fun s x => wrap64 (s + x)) 0)
def hornbeamlaw16_SplitTimes.tot (l : List S25) : Int := l.foldl (fun t h => max t (hornbeamlaw16_SplitTimes.own h)) 0
def hornbeamlaw16_SplitTimes.idx (n : Nat) : List Int := (List.range n).map Int.ofNat
def hornbeamlaw16_SplitTimes.small (k : Nat) (h : S25) : Bool := (hornbeamref12_Right.f k h.f0 h.f1 h.f2 h.f3 h.f4).isSome && (decide (h.f3.length ≤ 100) && decide (h.f4.length ≤ 20))
def hornbeamlaw16_SplitTimes.good (k : Nat) (h : S25) : Bool := hornbeamref12_Right.f k h.f0 h.f1 h.f2 h.f3 h.f4 == some true && (h.f3.all hornbeamlaw16_SplitTimes.okC && h.f4.all hornbeamlaw16_SplitTimes.okM)
def hornbeamlaw16_SplitTimes.same (x y : Bool × Int × Int × Int × Int × Int × Int) : Bool := x.2.2.2.2.2.2 == y.2.2.2.2.2.2 && (x.1 == y.1 && (x.2.1 == y.2.1 && x.2.2.1 == y.2.2.1))
def hornbeamlaw16_SplitTimes.f (k : Nat) (l0 : List S25) (a1 : Int) : Option Bool := if hornbeamlaw16_fixed.f k = some true ∧ 0 ≤ a1 ∧ a1 < 256 then (hornbeamlaw16_great.f k l0).bind fun g => if g = true ∨ a1 = 0 then some true else if l0.length ≤ 8 ∧ l0.all (hornbeamlaw16_SplitTimes.small k) = true then (if l0.all (hornbeamlaw16_SplitTimes.good k) = true then (split_Best.f k (hornbeamlaw16_SplitTimes.idx l0.length) l0 1).bind fun x => (split_Best.f k (hornbeamlaw16_SplitTimes.idx l0.length) (l0.map (hornbeamlaw16_SplitTimes.mulH (a1 % 50 + 1))) 1).bind fun y => if 1048576 < hornbeamlaw16_SplitTimes.tot (l0.map (hornbeamlaw16_SplitTimes.mulH (a1 % 50 + 1))) then some true else some (hornbeamlaw16_SplitTimes.same x y) else some true) else none else none
theorem hornbeamlaw16_SplitTimes.out {k : Nat} {l : List S25} {a : Int} (h : hornbeamlaw16_SplitTimes.f k l a = some true) : hornbeamlaw16_fixed.f k = some true ∧ (0 ≤ a ∧ a < 256) ∧ ∃ g, hornbeamlaw16_great.f k l = some g ∧ (g = false → a ≠ 0 → l.length ≤ 8 ∧ (∀ h ∈ l, hornbeamlaw16_SplitTimes.small k h = true) ∧
    ((∀ h ∈ l, hornbeamlaw16_SplitTimes.good k h = true) → ∃ x y, split_Best.f k (hornbeamlaw16_SplitTimes.idx l.length) l 1 = some x ∧ split_Best.f k (hornbeamlaw16_SplitTimes.idx l.length) (l.map (hornbeamlaw16_SplitTimes.mulH (a % 50 + 1))) 1 = some y ∧ (1048576 < hornbeamlaw16_SplitTimes.tot (l.map (hornbeamlaw16_SplitTimes.mulH (a % 50 + 1))) ∨ hornbeamlaw16_SplitTimes.same x y = true))) := by
  unfold hornbeamlaw16_SplitTimes.f at h
  split at h
  · rename_i h1
    refine ⟨h1.1, h1.2, ?_⟩
    obtain ⟨g, hg, h⟩ := ooB.mp h
    refine ⟨g, hg, fun g0 a0 => ?_⟩
    rw [if_neg (by simp [g0, a0])] at h
    split at h
    · rename_i h2
      refine ⟨h2.1, List.all_eq_true.mp h2.2, fun h3 => ?_⟩
      rw [if_pos (List.all_eq_true.mpr h3)] at h
      obtain ⟨x, hx, h⟩ := ooB.mp h
      obtain ⟨y, hy, h⟩ := ooB.mp h
      refine ⟨x, y, hx, hy, ?_⟩
      split at h
      · exact .inl (by assumption)
      · injection h with h; exact .inr h
    · cases h
  · cases h
/-- What the law holds in memory at a round's start. -/
structure hornbeamlaw16_SplitTimes.Mem (w W : World) (l0 : List S25) (c : Int) (V5 V6 : Value) (i : Nat) : Prop where
  bel : Below w.heap.size w W
  r5 : Kd.R (Kd.int .i64) 3 W w.heap.size (fun _ => True) V5 (hornbeamlaw16_SplitTimes.idx i)
  r6 : Kd.R k25 25 W w.heap.size (fun _ => True) V6 ((l0.take i).map (hornbeamlaw16_SplitTimes.mulH c))
/-- .. and within a round: the histogram that is made, in its box. -/
structure hornbeamlaw16_SplitTimes.In (w W : World) (g9 : Nat) (h : S25) (V3 V4 : Value) (l3 : List Int) (l4 : List S54) : Prop where
  bel : Below w.heap.size w W
  b9 : W.heap[g9]? = some (.cells #[.int .i64 h.f0, .int .i64 h.f1, .int .i64 h.f2, V3, V4] 25 (0, 0))
  e9 : w.heap.size ≤ g9
  r3 : Kd.R (Kd.int .i64) 2 W w.heap.size (fun _ => True) V3 l3
  r4 : Kd.R k54 54 W w.heap.size (fun _ => True) V4 l4
theorem hornbeamlaw16_SplitTimes.In.below {w W W' : World} {g9 : Nat} {h : S25} {V3 V4 : Value} {l3 : List Int} {l4 : List S54} (m : hornbeamlaw16_SplitTimes.In w W g9 h V3 V4 l3 l4) (hb : Below W.heap.size W W') : hornbeamlaw16_SplitTimes.In w W' g9 h V3 V4 l3 l4 :=
  ⟨below_step m.bel hb, blk_below m.b9 hb, m.e9, Kd.R_below m.r3 hb, Kd.R_below m.r4 hb⟩
/-- A box of a histogram is written. -/
theorem hornbeamlaw16_SplitTimes.put5 {w W : World} {g t : Nat} {a0 a1 a2 a3 a4 : Value} (b0 b1 b2 b3 b4 : Value) (h : W.heap[g]? = some (.cells #[a0, a1, a2, a3, a4] t (0, 0))) (hB : Below w.heap.size w W) (he : w.heap.size ≤ g) {W' : World} (hw : W' = ((((W.setCell ⟨g, 0, none⟩ b0).setCell ⟨g, 1, none⟩ b1).setCell ⟨g, 2, none⟩ b2).setCell ⟨g, 3, none⟩ b3).setCell ⟨g, 4, none⟩ b4) :
    W'.heap[g]? = some (.cells #[b0, b1, b2, b3, b4] t (0, 0)) ∧ Below w.heap.size w W' ∧ ∀ g', g' ≠ g → W'.heap[g']? = W.heap[g']? := by
  subst hw
  refine ⟨blk_put (blk_put (blk_put (blk_put (blk_put h 0 b0 rfl) 1 b1 rfl) 2 b2 rfl) 3 b3 rfl) 4 b4 rfl, below_set (below_set (below_set (below_set (below_set hB he) he) he) he) he, fun g' hg => ?_⟩
  rw [Below.heap_setCell _ ⟨g, 4, none⟩ b4 g' hg, Below.heap_setCell _ ⟨g, 3, none⟩ b3 g' hg, Below.heap_setCell _ ⟨g, 2, none⟩ b2 g' hg, Below.heap_setCell _ ⟨g, 1, none⟩ b1 g' hg, Below.heap_setCell _ ⟨g, 0, none⟩ b0 g' hg]
theorem hornbeamlaw16_SplitTimes.far {α : Type} {d : Kd α} {e base g t : Nat} {W W' : World} {V : Value} {l : List α} {cells : Array Value} (h : d.R e W base (fun _ => True) V l) (hb : W.heap[g]? = some (.cells cells t (0, 0))) (ht : ∀ q, q ∈ e :: d.E → q ≠ t) (hf : ∀ g', g' ≠ g → W'.heap[g']? = W.heap[g']?) : d.R e W' base (fun _ => True) V l :=
  Kd.R_mono (Kd.R_step (Kd.R_types h hb ht) (fun k hk _ => hf k hk.2)) (fun _ _ => trivial)
def hornbeamlaw16_SplitTimes.mixC (c : Int) (l : List Int) (j : Nat) : List Int := (l.take j).map (hornbeamlaw16_SplitTimes.mulC c) ++ l.drop j
theorem hornbeamlaw16_SplitTimes.mixC_len (c : Int) (l : List Int) (j : Nat) : (hornbeamlaw16_SplitTimes.mixC c l j).length = l.length := by unfold hornbeamlaw16_SplitTimes.mixC; simp; omega
theorem hornbeamlaw16_SplitTimes.mixC_at {c : Int} {l : List Int} {y : Int} (h0 : 0 ≤ y) (h1 : y < (l.length : Int)) : (hornbeamlaw16_SplitTimes.mixC c l y.toNat).getD y.toNat 0 = l.getD y.toNat 0 := by
  unfold hornbeamlaw16_SplitTimes.mixC
  have hl : y.toNat < l.length := by omega
  rw [List.getD_eq_getElem?_getD, List.getD_eq_getElem?_getD, List.getElem?_append_right (by simp; omega)]
  simp [Nat.min_eq_left (Nat.le_of_lt hl)]
theorem hornbeamlaw16_SplitTimes.mixC_set {c : Int} {l : List Int} {y : Int} (h0 : 0 ≤ y) (h1 : y < (l.length : Int)) : (hornbeamlaw16_SplitTimes.mixC c l y.toNat).set y.toNat (hornbeamlaw16_SplitTimes.mulC c (l.getD y.toNat 0)) = hornbeamlaw16_SplitTimes.mixC c l (y + 1).toNat := by
  obtain ⟨j, rfl⟩ := Int.eq_ofNat_of_zero_le h0
  rw [show ((j : Int) + 1).toNat = j + 1 by omega, Int.toNat_natCast]
  have hj : j < l.length := by omega
  unfold hornbeamlaw16_SplitTimes.mixC
  rw [List.take_succ_eq_append_getElem hj, List.set_append_right _ _ (by simp; omega)]
  simp only [List.map_append, List.map_cons, List.map_nil, List.length_map, List.length_take, Nat.min_eq_left (Nat.le_of_lt hj), Nat.sub_self, List.append_assoc]
  rw [List.drop_eq_getElem_cons hj, List.set_cons_zero, show l.getD j 0 = l[j] by simp [List.getD, hj]]
  rfl
theorem hornbeamlaw16_SplitTimes.In.put3 {w W : World} {g9 g3 n d3 : Nat} {h : S25} {V4 : Value} {l3 : List Int} {l4 : List S54} (m : hornbeamlaw16_SplitTimes.In w W g9 h (.slice (some ⟨g3, 0, none⟩) n d3) V4 l3 l4) (y v : Int) :
    hornbeamlaw16_SplitTimes.In w (W.setCell ⟨g3, y.toNat, none⟩ (.int .i64 v)) g9 h (.slice (some ⟨g3, 0, none⟩) n d3) V4 (l3.set y.toNat v) l4 := by
  have P := Kd.R_putg m.r3 y v
  obtain ⟨inner, ho⟩ := Kd.R_own m.r3
  obtain ⟨cells, hc⟩ := own_typed ho g3 rfl
  exact ⟨below_set m.bel (own_base ho g3 rfl), blk_grown m.b9 P.2 (Kd.R_ne m.r3 m.b9 (by decide)), m.e9, P.1, hornbeamlaw16_SplitTimes.far m.r4 hc (by decide) (fun g' hg => Below.heap_setCell W ⟨g3, y.toNat, none⟩ _ g' hg)⟩
theorem hornbeamlaw16_SplitTimes.cc {a : Int} (h : 0 ≤ a ∧ a < 256) : (a.tmod 50 + 1) % 256 = a % 50 + 1 := by rw [Int.tmod_eq_emod_of_nonneg h.1]; omega
theorem hornbeamlaw16_SplitTimes.ok_snoc {l : List Int} {y z : Int} (h0 : 0 ≤ y) (h1 : y < (l.length : Int)) (hz : l.getD y.toNat 0 = z) (h : ∀ x ∈ l.take y.toNat, hornbeamlaw16_SplitTimes.okC x = true) (hk : ¬ z < 0 ∧ ¬ z > 4096) : ∀ x ∈ l.take (y + 1).toNat, hornbeamlaw16_SplitTimes.okC x = true := by
  intro x hx
  have hj : y.toNat < l.length := by omega
  rw [show (y + 1).toNat = y.toNat + 1 by omega, List.take_succ_eq_append_getElem hj] at hx
  rcases List.mem_append.1 hx with hx | hx
  · exact h x hx
  · have : x = z := by rw [← hz, List.mem_singleton.1 hx]; simp [List.getD, hj]
    subst this; unfold hornbeamlaw16_SplitTimes.okC; simp; omega
def hornbeamlaw16_SplitTimes.mixM (c : Int) (l : List S54) (j : Nat) : List S54 := (l.take j).map (hornbeamlaw16_SplitTimes.mulM c) ++ l.drop j
theorem hornbeamlaw16_SplitTimes.mixM_len (c : Int) (l : List S54) (j : Nat) : (hornbeamlaw16_SplitTimes.mixM c l j).length = l.length := by unfold hornbeamlaw16_SplitTimes.mixM; simp; omega
theorem hornbeamlaw16_SplitTimes.mixM_at {c : Int} {l : List S54} {y : Int} (h0 : 0 ≤ y) (h1 : y < (l.length : Int)) : (hornbeamlaw16_SplitTimes.mixM c l y.toNat).getD y.toNat z54 = l.getD y.toNat z54 := by
  unfold hornbeamlaw16_SplitTimes.mixM
  have hl : y.toNat < l.length := by omega
  rw [List.getD_eq_getElem?_getD, List.getD_eq_getElem?_getD, List.getElem?_append_right (by simp; omega)]
  simp [Nat.min_eq_left (Nat.le_of_lt hl)]
theorem hornbeamlaw16_SplitTimes.mixM_set {c : Int} {l : List S54} {y : Int} (h0 : 0 ≤ y) (h1 : y < (l.length : Int)) : (hornbeamlaw16_SplitTimes.mixM c l y.toNat).set y.toNat (hornbeamlaw16_SplitTimes.mulM c (l.getD y.toNat z54)) = hornbeamlaw16_SplitTimes.mixM c l (y + 1).toNat := by
  obtain ⟨j, rfl⟩ := Int.eq_ofNat_of_zero_le h0
  rw [show ((j : Int) + 1).toNat = j + 1 by omega, Int.toNat_natCast]
  have hj : j < l.length := by omega
  unfold hornbeamlaw16_SplitTimes.mixM
  rw [List.take_succ_eq_append_getElem hj, List.set_append_right _ _ (by simp; omega)]
  simp only [List.map_append, List.map_cons, List.map_nil, List.length_map, List.length_take, Nat.min_eq_left (Nat.le_of_lt hj), Nat.sub_self, List.append_assoc]
  rw [List.drop_eq_getElem_cons hj, List.set_cons_zero, show l.getD j z54 = l[j] by simp [List.getD, hj]]
  rfl
theorem hornbeamlaw16_SplitTimes.k54_cells {w : World} {base : Nat} {ok : Nat → Prop} {m : S54} {cs : List Value} (h : k54.M w base ok m cs) : cs = [.int .i64 m.f0, .int .i64 m.f1, .int .i64 m.f2] := by
  obtain ⟨c0, c1, rfl, rfl, d0, d1, rfl, rfl, rfl⟩ := h; rfl
theorem hornbeamlaw16_SplitTimes.elem {W : World} {base g cap : Nat} {c : Int} {l : List S54} {y : Int} {z : S54} (r : Kd.R k54 54 W base (fun _ => True) (.slice (some ⟨g, 0, none⟩) l.length cap) (hornbeamlaw16_SplitTimes.mixM c l y.toNat)) (h0 : 0 ≤ y) (h1 : y < (l.length : Int)) (hz : l.getD y.toNat z54 = z) :
    W.cell? ⟨g, y.toNat * 3, none⟩ = some (.int .i64 z.f0) ∧ W.cell? ⟨g, y.toNat * 3 + 1, none⟩ = some (.int .i64 z.f1) ∧ W.cell? ⟨g, y.toNat * 3 + 2, none⟩ = some (.int .i64 z.f2) ∧ W.frozen? ⟨g, y.toNat * 3, none⟩ = false ∧ W.frozen? ⟨g, y.toNat * 3 + 1, none⟩ = false ∧ W.frozen? ⟨g, y.toNat * 3 + 2, none⟩ = false := by
  obtain ⟨c4, hc4, hM4, hx4, hf4⟩ := Kd.R_elem r z54 y h0 h1
  rw [hornbeamlaw16_SplitTimes.mixM_at h0 h1, hz] at hM4
  obtain rfl := hornbeamlaw16_SplitTimes.k54_cells hM4
  exact ⟨hx4 0 _ rfl, hx4 1 _ rfl, hx4 2 _ rfl, hf4 0, hf4 1, hf4 2⟩
theorem hornbeamlaw16_SplitTimes.put3 {w W : World} {g t : Nat} {a0 a1 a2 : Value} (b0 b1 b2 : Value) (h : W.heap[g]? = some (.cells #[a0, a1, a2] t (0, 0))) (hB : Below w.heap.size w W) (he : w.heap.size ≤ g) {W' : World} (hw : W' = ((W.setCell ⟨g, 0, none⟩ b0).setCell ⟨g, 1, none⟩ b1).setCell ⟨g, 2, none⟩ b2) :
    W'.heap[g]? = some (.cells #[b0, b1, b2] t (0, 0)) ∧ Below w.heap.size w W' := by
  subst hw
  exact ⟨blk_put (blk_put (blk_put h 0 b0 rfl) 1 b1 rfl) 2 b2 rfl, below_set (below_set (below_set hB he) he) he⟩
theorem hornbeamlaw16_SplitTimes.okm_snoc {l : List S54} {y : Int} {z : S54} (h0 : 0 ≤ y) (h1 : y < (l.length : Int)) (hz : l.getD y.toNat z54 = z) (h : ∀ x ∈ l.take y.toNat, hornbeamlaw16_SplitTimes.okM x = true) (hk : ¬ z.f0 < 0 ∧ ¬ z.f0 > 16384 ∧ ¬ z.f1 > z.f0 * 1048576 ∧ ¬ z.f1 < -z.f0 * 1048576 ∧ ¬ z.f2 < 0 ∧ ¬ z.f2 > z.f0 * 1099511627776) : ∀ x ∈ l.take (y + 1).toNat, hornbeamlaw16_SplitTimes.okM x = true := by
  intro x hx
  have hj : y.toNat < l.length := by omega
  rw [show (y + 1).toNat = y.toNat + 1 by omega, List.take_succ_eq_append_getElem hj] at hx
  rcases List.mem_append.1 hx with hx | hx
  · exact h x hx
  · have : x = z := by rw [← hz, List.mem_singleton.1 hx]; simp [List.getD, hj]
    subst this; unfold hornbeamlaw16_SplitTimes.okM; simp only [Bool.and_eq_true, decide_eq_true_eq]; omega
theorem hornbeamlaw16_SplitTimes.In.put4 {w W : World} {g9 g4 d4 : Nat} {h : S25} {V3 : Value} {l3 : List Int} {c : Int} {y : Int} {z : S54} (m : hornbeamlaw16_SplitTimes.In w W g9 h V3 (.slice (some ⟨g4, 0, none⟩) h.f4.length d4) l3 (hornbeamlaw16_SplitTimes.mixM c h.f4 y.toNat)) (h0 : 0 ≤ y) (h1 : y < (h.f4.length : Int)) (c' : Int) :
    hornbeamlaw16_SplitTimes.In w (((W.setCell ⟨g4, y.toNat * 3, none⟩ (.int .i64 (wrap64 (z.f0 * c')))).setCell ⟨g4, y.toNat * 3 + 1, none⟩ (.int .i64 (wrap64 (z.f1 * c')))).setCell ⟨g4, y.toNat * 3 + 2, none⟩ (.int .i64 (wrap64 (z.f2 * c')))) g9 h V3 (.slice (some ⟨g4, 0, none⟩) h.f4.length d4) l3 ((hornbeamlaw16_SplitTimes.mixM c h.f4 y.toNat).set y.toNat (hornbeamlaw16_SplitTimes.mulM c' z)) := by
  obtain ⟨c4, hc4, hM4, hx4, hf4⟩ := Kd.R_elem m.r4 z54 y h0 h1
  have P := Kd.R_seg m.r4 y h0 h1 (c := c4) (seg := [.int .i64 (wrap64 (z.f0 * c')), .int .i64 (wrap64 (z.f1 * c')), .int .i64 (wrap64 (z.f2 * c'))]) (j := 0) hc4 hx4 (Nat.le_refl 3) (x' := hornbeamlaw16_SplitTimes.mulM c' z) (okp := fun _ => False)
    (by
      rw [List.take_zero, List.nil_append, List.drop_eq_nil_of_le (by rw [hc4]; exact Nat.le_refl 3), List.append_nil]
      exact ⟨[.int .i64 (wrap64 (z.f0 * c'))], [.int .i64 (wrap64 (z.f1 * c')), .int .i64 (wrap64 (z.f2 * c'))], rfl, rfl, [.int .i64 (wrap64 (z.f1 * c'))], [.int .i64 (wrap64 (z.f2 * c'))], rfl, rfl, rfl⟩) (fun _ hk => hk.elim)
  obtain ⟨inner, ho⟩ := Kd.R_own m.r4
  obtain ⟨cells, hc⟩ := own_typed ho g4 rfl
  have hb := own_base ho g4 rfl
  exact ⟨below_set (below_set (below_set m.bel hb) hb) hb, blk_grown m.b9 P.2 (Kd.R_ne m.r4 m.b9 (by decide)), m.e9, hornbeamlaw16_SplitTimes.far m.r3 hc (by decide) (fun g' hg => by rw [Below.heap_setCell _ ⟨g4, _, none⟩ _ g' hg, Below.heap_setCell _ ⟨g4, _, none⟩ _ g' hg, Below.heap_setCell _ ⟨g4, _, none⟩ _ g' hg]), P.1⟩
theorem hornbeamlaw16_SplitTimes.apart {α : Type} {d : Kd α} {e base e' s n : Nat} {W : World} {V u : Value} {l : List α} {inner : List Value} (h : d.R e W base (fun _ => True) V l) (hu : W.ownsRow base e' s u n inner) (he : ∀ q, q ∈ e :: d.E → q ≠ e') : d.R e W base (fun k => some k ≠ u.ownBlock) V l :=
  Kd.R_mono (Kd.R_bound h) (fun k hk e1 => by
    obtain ⟨cells, hc⟩ := own_typed hu k e1.symm
    obtain ⟨_, _, _, q, hq, cells', hc'⟩ := hk
    rw [hc] at hc'
    injection hc' with hc'
    injection hc' with _ hc'
    exact he q hq hc'.symm)
theorem hornbeamlaw16_SplitTimes.Mem.below {w W W' : World} {l : List S25} {c : Int} {V5 V6 : Value} {i : Nat} (m : hornbeamlaw16_SplitTimes.Mem w W l c V5 V6 i) (hb : Below W.heap.size W W') : hornbeamlaw16_SplitTimes.Mem w W' l c V5 V6 i := ⟨below_step m.bel hb, Kd.R_below m.r5 hb, Kd.R_below m.r6 hb⟩
/-- The one row has grown; the other one, the box and what it holds stay. -/
theorem hornbeamlaw16_SplitTimes.grow5 {w w3 W W' : World} {l : List S25} {c : Int} {V5 V6 V3 V4 : Value} {i g9 : Nat} {h : S25} (m : hornbeamlaw16_SplitTimes.Mem w w3 l c V5 V6 i) (n : hornbeamlaw16_SplitTimes.In w3 W g9 h V3 V4 (h.f3.map (hornbeamlaw16_SplitTimes.mulC c)) (h.f4.map (hornbeamlaw16_SplitTimes.mulM c))) (hg : W.grownBy W' V5.ownBlock) :
    W'.heap[g9]? = some (.cells #[.int .i64 h.f0, .int .i64 h.f1, .int .i64 h.f2, V3, V4] 25 (0, 0)) ∧ Kd.R k25 25 W' w.heap.size (fun _ => True) V6 ((l.take i).map (hornbeamlaw16_SplitTimes.mulH c)) ∧ k25.M W' w.heap.size (fun k => some k ≠ V6.ownBlock) (hornbeamlaw16_SplitTimes.mulH c h) [.int .i64 h.f0, .int .i64 h.f1, .int .i64 h.f2, V3, V4] := by
  have N := hornbeamlaw16_SplitTimes.Mem.below m n.bel
  obtain ⟨i5, o5⟩ := Kd.R_own N.r5
  obtain ⟨j5, p5⟩ := Kd.R_own m.r5
  obtain ⟨j6, p6⟩ := Kd.R_own m.r6
  have hM := Kd.M_new (Kd.M_new (k25_mkM W w3.heap.size (fun _ => True) (hornbeamlaw16_SplitTimes.mulH c h) n.r3 n.r4) p6) p5
  refine ⟨blk_grown n.b9 hg (Kd.R_ne N.r5 n.b9 (by decide)), Kd.R_mono (Kd.R_grown (hornbeamlaw16_SplitTimes.apart N.r6 o5 (by decide)) hg (fun _ hk => hk)) (fun _ _ => trivial), ?_⟩
  exact k25.M_lower (below_size m.bel) (k25.M_mono (fun k hk => hk.1.2) (Kd.M_grown hM hg (fun k hk => hk.2)))
theorem hornbeamlaw16_SplitTimes.idx_snoc {x : Int} (h : 0 ≤ x) : hornbeamlaw16_SplitTimes.idx (x + 1).toNat = hornbeamlaw16_SplitTimes.idx x.toNat ++ [x] := by
  obtain ⟨j, rfl⟩ := Int.eq_ofNat_of_zero_le h
  rw [show ((j : Int) + 1).toNat = j + 1 by omega, Int.toNat_natCast]
  unfold hornbeamlaw16_SplitTimes.idx
  rw [List.range_succ, List.map_append]; rfl
theorem hornbeamlaw16_SplitTimes.take_snoc {l : List S25} {x : Int} {h : S25} (h0 : 0 ≤ x) (h1 : x < (l.length : Int)) (hh : rd_T25 l x = h) : l.take (x + 1).toNat = l.take x.toNat ++ [h] := by
  have hj : x.toNat < l.length := by omega
  rw [show (x + 1).toNat = x.toNat + 1 by omega, List.take_succ_eq_append_getElem hj, ← hh]
  unfold rd_T25
  simp [List.getD, hj]
theorem hornbeamlaw16_SplitTimes.Mem.snoc {w w12 w13 : World} {l : List S25} {c x : Int} {V5' V6 V6' : Value} {h : S25} (h0 : 0 ≤ x) (h1 : x < (l.length : Int)) (hh : rd_T25 l x = h) (r5 : Kd.R (Kd.int .i64) 3 w12 w.heap.size (fun _ => True) V5' (hornbeamlaw16_SplitTimes.idx x.toNat ++ [x])) (r6 : Kd.R k25 25 w12 w.heap.size (fun _ => True) V6 ((l.take x.toNat).map (hornbeamlaw16_SplitTimes.mulH c))) (q6 : Kd.R k25 25 w13 w.heap.size (fun _ => True) V6' ((l.take x.toNat).map (hornbeamlaw16_SplitTimes.mulH c) ++ [hornbeamlaw16_SplitTimes.mulH c h])) (hb : Below w.heap.size w w13) (hg : w12.grownBy w13 V6.ownBlock) : hornbeamlaw16_SplitTimes.Mem w w13 l c V5' V6' (x + 1).toNat := by
  obtain ⟨i6, o6⟩ := Kd.R_own r6
  refine ⟨hb, ?_, ?_⟩
  · rw [hornbeamlaw16_SplitTimes.idx_snoc h0]; exact Kd.R_mono (Kd.R_grown (hornbeamlaw16_SplitTimes.apart r5 o6 (by decide)) hg (fun _ hk => hk)) (fun _ _ => trivial)
  · rw [hornbeamlaw16_SplitTimes.take_snoc h0 h1 hh, List.map_append]; exact q6
theorem hornbeamlaw16_SplitTimes.good_snoc {k : Nat} {l : List S25} {x : Int} {h : S25} (h0 : 0 ≤ x) (h1 : x < (l.length : Int)) (hh : rd_T25 l x = h) (hg : ∀ h ∈ l.take x.toNat, hornbeamlaw16_SplitTimes.good k h = true) (hr : hornbeamref12_Right.f k h.f0 h.f1 h.f2 h.f3 h.f4 = some true) (h3 : ∀ z ∈ h.f3, hornbeamlaw16_SplitTimes.okC z = true) (h4 : ∀ z ∈ h.f4, hornbeamlaw16_SplitTimes.okM z = true) : ∀ h ∈ l.take (x + 1).toNat, hornbeamlaw16_SplitTimes.good k h = true := by
  intro g hm
  rw [hornbeamlaw16_SplitTimes.take_snoc h0 h1 hh] at hm
  rcases List.mem_append.1 hm with hm | hm
  · exact hg g hm
  · rw [List.mem_singleton.1 hm]; unfold hornbeamlaw16_SplitTimes.good; rw [hr]; simp only [beq_self_eq_true, Bool.true_and, Bool.and_eq_true, List.all_eq_true]; exact ⟨h3, h4⟩
def hornbeamlaw16_SplitTimes.T25 : Bool × List (List Nat × List Nat) := (true, [([], []), ([], []), ([1], [1]), ([0, 2], [0, 2]), ([], []), ([], []), ([5], [5]), ([4, 6, 3], [4, 6]), ([3, 7, 0, 1, 2, 3], [0, 3]), ([7, 8, 0, 1, 2, 3, 4, 5, 6, 7, 8], [4, 7])])
def hornbeamlaw16_SplitTimes.B25 : List Nat := [0, 0, 2, 7, 0, 0, 32, 127, 255, 511]
theorem hornbeamlaw16_SplitTimes.tab25 : rtab .any (opsOf Try.f7 25) = hornbeamlaw16_SplitTimes.T25 := by kernel_rfl
theorem hornbeamlaw16_SplitTimes.bits25 : waitsOk hornbeamlaw16_SplitTimes.T25.2 hornbeamlaw16_SplitTimes.B25 = true := by kernel_rfl
/-- A variadic's box, in a region that draws. -/
theorem hornbeamlaw16_SplitTimes.lit_step {P : Program} {o : Oper} {a : Act} {W : World} {Kc : Act → World → Prop} {ops : Array Oper} {Q : Exit → Act → World → Prop} (hw : Region.wanted o (yielded ops a.tmps) = true) {N : Tmp} (hd : o.dst = some N) (cs : Array Value) (t : TypeId)
    (hrun : (execOp a.eval o).run P W = .ok (.value (.slice (some ⟨W.heap.size, 0, none⟩) 1 1)) (W.alloc (.cells cs t (0, 0))))
    (h : ∀ g w1, w1.heap[g]? = some (.cells cs t (0, 0)) → Below W.heap.size W w1 → Kc (a.put (some N) (.slice (some ⟨g, 0, none⟩) 1 1)) w1) : if Region.wanted o (yielded ops a.tmps) = true then Oper.wp P o a W Kc Q else Kc (a.put (some N) undef) W :=
  value_ hw hd hrun (h _ _ (blk_new W _) (below_alloc (Below.refl _ _) _))
theorem hornbeamlaw16_SplitTimes.rowOf {α : Type} {W : World} {g t : Nat} (p : α) (cs : List Value) (hc : 0 < cs.length) (h : W.heap[g]? = some (.cells cs.toArray t (0, 0))) : ReadsRow (fun (x : α) c => x = p ∧ c = cs) cs.length W (some ⟨g, 0, none⟩) 1 [p] := by
  refine ⟨rfl, by omega, fun _ => ⟨_, rfl, fun j q hq => ?_⟩⟩
  cases j with
  | succ j => simp at hq
  | zero =>
    have hq : p = q := by simpa using hq
    refine ⟨cs, rfl, ⟨hq.symm, rfl⟩, fun i u hu => ?_⟩
    rw [Nat.zero_mul, Nat.zero_add, add_plain, blk_cell h]
    simpa using hu
structure hornbeamlaw16_SplitTimes.St0 (w w3 W : World) (l : List S25) (c : Int) (V5 V6 : Value) (i g9 : Nat) (h : S25) (V3 V4 : Value) : Prop where
  m : hornbeamlaw16_SplitTimes.Mem w w3 l c V5 V6 i
  n : hornbeamlaw16_SplitTimes.In w3 W g9 h V3 V4 (h.f3.map (hornbeamlaw16_SplitTimes.mulC c)) (h.f4.map (hornbeamlaw16_SplitTimes.mulM c))
theorem hornbeamlaw16_SplitTimes.St0.below {w w3 W W' : World} {l : List S25} {c : Int} {V5 V6 : Value} {i g9 : Nat} {h : S25} {V3 V4 : Value} (s : hornbeamlaw16_SplitTimes.St0 w w3 W l c V5 V6 i g9 h V3 V4) (hb : Below W.heap.size W W') : hornbeamlaw16_SplitTimes.St0 w w3 W' l c V5 V6 i g9 h V3 V4 := ⟨s.m, s.n.below hb⟩
theorem hornbeamlaw16_SplitTimes.St0.mem {w w3 W : World} {l : List S25} {c : Int} {V5 V6 : Value} {i g9 : Nat} {h : S25} {V3 V4 : Value} (s : hornbeamlaw16_SplitTimes.St0 w w3 W l c V5 V6 i g9 h V3 V4) : hornbeamlaw16_SplitTimes.Mem w W l c V5 V6 i := s.m.below s.n.bel
structure hornbeamlaw16_SplitTimes.St1 (w W : World) (l : List S25) (c : Int) (V5 V6 : Value) (i g9 : Nat) (x : Int) (h : S25) (V3 V4 : Value) : Prop where
  bel : Below w.heap.size w W
  r5 : Kd.R (Kd.int .i64) 3 W w.heap.size (fun _ => True) V5 (hornbeamlaw16_SplitTimes.idx i ++ [x])
  b9 : W.heap[g9]? = some (.cells #[.int .i64 h.f0, .int .i64 h.f1, .int .i64 h.f2, V3, V4] 25 (0, 0))
  r6 : Kd.R k25 25 W w.heap.size (fun _ => True) V6 ((l.take i).map (hornbeamlaw16_SplitTimes.mulH c))
  p6 : k25.M W w.heap.size (fun k => some k ≠ V6.ownBlock) (hornbeamlaw16_SplitTimes.mulH c h) [.int .i64 h.f0, .int .i64 h.f1, .int .i64 h.f2, V3, V4]
  ne : some g9 ≠ V6.ownBlock
theorem hornbeamlaw16_SplitTimes.St1.below {w W W' : World} {l : List S25} {c x : Int} {V5 V6 : Value} {i g9 : Nat} {h : S25} {V3 V4 : Value} (s : hornbeamlaw16_SplitTimes.St1 w W l c V5 V6 i g9 x h V3 V4) (hb : Below W.heap.size W W') : hornbeamlaw16_SplitTimes.St1 w W' l c V5 V6 i g9 x h V3 V4 := ⟨below_step s.bel hb, Kd.R_below s.r5 hb, blk_below s.b9 hb, Kd.R_below s.r6 hb, Kd.M_below s.p6 hb, s.ne⟩
theorem hornbeamlaw16_SplitTimes.St0.grow {w w3 W W' : World} {l : List S25} {c x : Int} {V5 V5' V6 : Value} {i g9 : Nat} {h : S25} {V3 V4 : Value} (s : hornbeamlaw16_SplitTimes.St0 w w3 W l c V5 V6 i g9 h V3 V4) (hb : Below w.heap.size w W') (ho : Kd.R (Kd.int .i64) 3 W' w.heap.size (fun _ => True) V5' (hornbeamlaw16_SplitTimes.idx i ++ [x])) (hg : W.grownBy W' V5.ownBlock) : hornbeamlaw16_SplitTimes.St1 w W' l c V5' V6 i g9 x h V3 V4 := by
  obtain ⟨n0, n1, n2⟩ := hornbeamlaw16_SplitTimes.grow5 s.m s.n hg
  obtain ⟨j6, p6⟩ := Kd.R_own s.m.r6
  exact ⟨hb, ho, n0, n1, n2, fun e => by have := own_lt p6 g9 e.symm; have := s.n.e9; omega⟩
theorem hornbeamlaw16_SplitTimes.put6 {w W : World} {g t : Nat} {a0 a1 a2 a3 a4 a5 : Value} (b0 b1 b2 b3 b4 b5 : Value) (h : W.heap[g]? = some (.cells #[a0, a1, a2, a3, a4, a5] t (0, 0))) (hB : Below w.heap.size w W) (he : w.heap.size ≤ g) {W' : World} (hw : W' = (((((W.setCell ⟨g, 0, none⟩ b0).setCell ⟨g, 1, none⟩ b1).setCell ⟨g, 2, none⟩ b2).setCell ⟨g, 3, none⟩ b3).setCell ⟨g, 4, none⟩ b4).setCell ⟨g, 5, none⟩ b5) :
    W'.heap[g]? = some (.cells #[b0, b1, b2, b3, b4, b5] t (0, 0)) ∧ Below w.heap.size w W' ∧ ∀ g', g' ≠ g → W'.heap[g']? = W.heap[g']? := by
  subst hw
  refine ⟨blk_put (blk_put (blk_put (blk_put (blk_put (blk_put h 0 b0 rfl) 1 b1 rfl) 2 b2 rfl) 3 b3 rfl) 4 b4 rfl) 5 b5 rfl, below_set (below_set (below_set (below_set (below_set (below_set hB he) he) he) he) he) he, fun g' hg => ?_⟩
  rw [Below.heap_setCell _ ⟨g, 5, none⟩ b5 g' hg, Below.heap_setCell _ ⟨g, 4, none⟩ b4 g' hg, Below.heap_setCell _ ⟨g, 3, none⟩ b3 g' hg, Below.heap_setCell _ ⟨g, 2, none⟩ b2 g' hg, Below.heap_setCell _ ⟨g, 1, none⟩ b1 g' hg, Below.heap_setCell _ ⟨g, 0, none⟩ b0 g' hg]
theorem hornbeamlaw16_SplitTimes.small_map {k : Nat} {l : List S25} {c : Int} (h : ∀ h ∈ l, hornbeamlaw16_SplitTimes.small k h = true) : ∀ g ∈ l.map (hornbeamlaw16_SplitTimes.mulH c), g.f3.length ≤ 100 ∧ g.f4.length ≤ 20 := by
  intro g hg
  obtain ⟨h', hm, rfl⟩ := List.mem_map.1 hg
  have := h h' hm
  unfold hornbeamlaw16_SplitTimes.small at this
  simp only [Bool.and_eq_true, decide_eq_true_eq] at this
  simpa [hornbeamlaw16_SplitTimes.mulH] using this.2
theorem hornbeamlaw16_SplitTimes.tot_snoc {l : List S25} {x : Int} {h : S25} (h0 : 0 ≤ x) (h1 : x < (l.length : Int)) (hh : rd_T25 l x = h) : hornbeamlaw16_SplitTimes.tot (l.take (x + 1).toNat) = if hornbeamlaw16_SplitTimes.tot (l.take x.toNat) < hornbeamlaw16_SplitTimes.own h then hornbeamlaw16_SplitTimes.own h else hornbeamlaw16_SplitTimes.tot (l.take x.toNat) := by
  rw [hornbeamlaw16_SplitTimes.take_snoc h0 h1 hh]
  unfold hornbeamlaw16_SplitTimes.tot
  rw [List.foldl_append]
  simp only [List.foldl_cons, List.foldl_nil]
  split <;> omega
theorem hornbeamlaw16_SplitTimes.fold54 {l : List S54} {j s : Int} (h0 : 0 ≤ j) (h1 : j < (l.length : Int)) : (l.take (j + 1).toNat).foldl (fun s m => wrap64 (s + m.f0)) s = wrap64 ((l.take j.toNat).foldl (fun s m => wrap64 (s + m.f0)) s + (rd_T54 l j).f0) := by
  have hj : j.toNat < l.length := by omega
  rw [show (j + 1).toNat = j.toNat + 1 by omega, List.take_succ_eq_append_getElem hj, List.foldl_append]
  simp only [List.foldl_cons, List.foldl_nil]
  unfold rd_T54
  simp [List.getD, hj]
theorem hornbeamlaw16_SplitTimes.fold2 {l : List Int} {j s : Int} (h0 : 0 ≤ j) (h1 : j < (l.length : Int)) : (l.take (j + 1).toNat).foldl (fun s x => wrap64 (s + x)) s = wrap64 ((l.take j.toNat).foldl (fun s x => wrap64 (s + x)) s + rd l j) := by
  have hj : j.toNat < l.length := by omega
  rw [show (j + 1).toNat = j.toNat + 1 by omega, List.take_succ_eq_append_getElem hj, List.foldl_append]
  simp only [List.foldl_cons, List.foldl_nil]
  unfold rd
  simp [List.getD, hj]
theorem hornbeamlaw16_SplitTimes.copy {h : S25} (h3 : h.f3.length ≤ 100) (h4 : h.f4.length ≤ 20) : hornbeamref12_Copy.f h.f0 h.f1 h.f2 h.f3 h.f4 = some (h.f0, h.f1, h.f2, h.f3, h.f4) := by
  unfold hornbeamref12_Copy.f
  rw [Option.bind_some, if_pos (by simp; omega), Option.bind_some, if_pos (by simp; omega)]; rfl
theorem hornbeamlaw16_SplitTimes.memrd {l : List S25} {x : Int} (h0 : 0 ≤ x) (h : x < (l.length : Int)) : rd_T25 l x ∈ l := by
  unfold rd_T25
  rw [show l.getD x.toNat z25 = l[x.toNat]'(by omega) by simp [List.getD, show x.toNat < l.length by omega]]; exact List.getElem_mem _
set_option maxHeartbeats 32000000 in
set_option maxRecDepth 100000 in
theorem hornbeamlaw16_SplitTimes.calls (k : Nat) (A0 : Option Addr) (c0 : Nat) (l0 : List S25) (a1 : Int) (r : Bool) (w : World) (hr0 : Kd.C k25 w A0 l0.length l0) (hc0 : l0.length ≤ c0) (h : hornbeamlaw16_SplitTimes.f k l0 a1 = some r) (hr_ : r = true) :
    Calls Try.prog 7 #[.slice A0 l0.length c0, .int .u8 a1] w fun e w' => e = .returned (.bool r) ∧ Below w.heap.size w w' := by
 subst hr_
 have hu25 := Try.underlying25
 have hu54 := Try.underlying54
 have hu37 := Try.underlying37
 have hu22 := Try.underlying22
 have hu23 := Try.underlying23
 have hu2 := Try.underlying2
 have hu40 := Try.underlying40
 have HR0 := aaM hr0
 have HC0 := aaM hc0
 clear hr0 hc0
 have HB := aaM (Below.refl w.heap.size w)
 obtain ⟨hf, ha, g, hg, hW⟩ := hornbeamlaw16_SplitTimes.out h
 clear h
 have HF := aaM hf
 have HA := aaM ha
 have HG := aaM hg
 have HW := aaM hW
 clear hf ha hg hW
 go_enter Try.func7, Try.ntmps7
 go_upto_region 1 with (fail)
 go_cut [31] (fun v31 wc => ∃ b : Bool, v31 = .bool b ∧ Aside0 (b = true ∨ (b = false ∧ g = false ∧ a1 ≠ 0)) ∧ Aside0 (Below w.heap.size w wc))
 case first =>
  clear HW HF
  cases g with
  | true =>
   go_wp2_with (first | ((with_reducible refine gate_callee (f := 12) rfl ?_); refine gL (some 27) Try.func12 #[.slice A0 l0.length c0] ?_; (with_reducible refine (hornbeamlaw16_great.calls k A0 c0 l0 true _ (ccB HR0.out (lB HB)) HC0.out HG.out).mono ?_); rintro e w6 ⟨rfl, hb⟩; replace HB := aaM (lP (lB HB) hb); refine ⟨_, rfl, ?_⟩; clear hb))
   go_meet
   case rel => exact ⟨true, eF, ⟨.inl rfl⟩, ⟨lB HB⟩⟩
  | false =>
   by_cases hz : a1 = 0
   · subst hz
     go_wp2_with (first | ((with_reducible refine gate_callee (f := 12) rfl ?_); refine gL (some 27) Try.func12 #[.slice A0 l0.length c0] ?_; (with_reducible refine (hornbeamlaw16_great.calls k A0 c0 l0 false _ (ccB HR0.out (lB HB)) HC0.out HG.out).mono ?_); rintro e w6 ⟨rfl, hb⟩; replace HB := aaM (lP (lB HB) hb); refine ⟨_, rfl, ?_⟩; clear hb))
     go_meet
     case rel => exact ⟨true, eF, ⟨.inl rfl⟩, ⟨lB HB⟩⟩
   · have hzb : (a1 == 0) = false := by simp [hz]
     have hzd : decide (a1 = 0) = false := decide_eq_false hz
     have HZ := aaM hz
     go_wp2_with (first | ((with_reducible refine gate_callee (f := 12) rfl ?_); refine gL (some 27) Try.func12 #[.slice A0 l0.length c0] ?_; (with_reducible refine (hornbeamlaw16_great.calls k A0 c0 l0 false _ (ccB HR0.out (lB HB)) HC0.out HG.out).mono ?_); rintro e w6 ⟨rfl, hb⟩; replace HB := aaM (lP (lB HB) hb); refine ⟨_, rfl, ?_⟩; clear hb))
     go_meet
     case rel => exact ⟨false, eF, ⟨.inr ⟨by first | trivial | rfl, by first | trivial | rfl, HZ.out⟩⟩, ⟨lB HB⟩⟩
 case rest =>
  clear HG
  obtain ⟨b, rfl, HJ, HB⟩ := hcut
  cases b with
  | true =>
   clear HW HJ
   go_wp2_with (first | ((with_reducible refine gate_callee (f := 9) rfl ?_); refine gL (some 32) Try.func9 #[] ?_; (with_reducible refine (hornbeamlaw16_fixed.calls k true _ HF.out).mono ?_); rintro e wf ⟨rfl, hb⟩; replace HB := aaM (lP (lB HB) hb); refine ⟨_, rfl, ?_⟩; clear hb))
   all_goals (go_ret; exact ⟨by first | trivial | exact eF, lB HB⟩)
  | false =>
   obtain ⟨g0, a0⟩ : g = false ∧ a1 ≠ 0 := by rcases HJ.out with h | h; cases h; exact h.2
   clear HJ
   obtain ⟨h8, hS, hD⟩ := HW.out g0 a0
   have H8 := aaM h8
   have HS := aaM hS
   have HD := aaM hD
   clear HW h8 hS hD g0 a0 g
   go_wp2
   go_loopw [5, 6, 35] (fun v5 v6 v35 w' => ∃ x : Int, v35 = .int .i64 x ∧ Aside0 (0 ≤ x ∧ x ≤ (l0.length : Int)) ∧ Aside0 (∀ h ∈ l0.take x.toNat, hornbeamlaw16_SplitTimes.good k h = true) ∧ Aside0 (hornbeamlaw16_SplitTimes.Mem w w' l0 (a1 % 50 + 1) v5 v6 x.toNat)) (fun _ _ v35 _ => l0.length - (intOf v35).toNat)
   case atStart => exact ⟨0, rfl, ⟨by omega, by omega⟩, ⟨fun h hh => by simp at hh⟩, ⟨⟨HB.out, Kd.R_nil _ _ _ _ _, Kd.R_nil _ _ _ _ _⟩⟩⟩
   case round =>
    obtain ⟨w3, hw3⟩ : ∃ w3, w3 = wr := ⟨_, rfl⟩
    subst hw3
    clear HB
    obtain ⟨x, rfl, HK, HG, M⟩ := hrel
    by_cases hlt : x < (l0.length : Int)
    rotate_left
    ·as_aux_lemma =>
     have hltb : decide (x < (l0.length : Int)) = false := decide_eq_false hlt
     have hye : x = (l0.length : Int) := by have := HK.out; omega
     subst hye
     have hD0 := HD.out (by have := HG.out; simpa using this)
     have r5 := M.out.r5
     have r6 := M.out.r6
     rw [show l0.take ((l0.length : Int)).toNat = l0 by simp] at r6
     obtain ⟨L, hL⟩ : ∃ L, l0.map (hornbeamlaw16_SplitTimes.mulH (a1 % 50 + 1)) = L := ⟨_, rfl⟩
     have HL8 : Aside0 (L.length ≤ 8) := ⟨by rw [← hL, List.length_map]; exact H8.out⟩
     have HLs : Aside0 (∀ g ∈ L, g.f3.length ≤ 100 ∧ g.f4.length ≤ 20) := ⟨by rw [← hL]; exact hornbeamlaw16_SplitTimes.small_map HS.out⟩
     rw [hL] at hD0 r6
     obtain ⟨⟨T, F, bn, n1, n2, n3, e⟩, ⟨T', F', bn', m1, m2, m3, e'⟩, hx, hy, hd⟩ := hD0
     have X1 := aaM hx
     have X2 := aaM hy
     have X3 := aaM hd
     clear hx hy hd hlt HG HK HS HD hL
     rw [Int.toNat_natCast] at r5
     obtain ⟨A5, c5, e5, l5, q5⟩ := Kd.R_reads r5
     obtain ⟨A6, c6, e6, l6, q6⟩ := Kd.R_reads r6
     subst e5
     subst e6
     have Q5 := aaM q5
     have Q6 := aaM q6
     have L5 := aaM l5
     have L6 := aaM l6
     have Q0 := aaM (Kd.C_below HR0.out M.out.bel)
     have HBw := aaM (Below.refl w3.heap.size w3)
     have MB := aaM M.out.bel
     clear r5 r6 q5 q6 l5 l6 M HR0
     go_wp2_with (first | ((with_reducible refine gate_callee (f := 13) rfl ?_); refine gL (some 158) Try.func13 #[.slice A5 (hornbeamlaw16_SplitTimes.idx l0.length).length c5, .slice A0 l0.length c0, .int .i64 1] ?_; (with_reducible refine (split_Best.calls k A5 c5 (hornbeamlaw16_SplitTimes.idx l0.length) A0 c0 l0 1 T F bn n1 n2 n3 e _ (ccB Q5.out (lB HBw)) L5.out (ccB Q0.out (lB HBw)) HC0.out X1.out).mono ?_); rintro e_ w21 ⟨rfl, hb⟩; replace HBw := aaM (lP (lB HBw) hb); refine ⟨_, rfl, ?_⟩; clear hb) | ((with_reducible refine gate_dst (N := 14) rfl ?_); refine bxF w3 HBw 14 #[.bool false, .int .i64 0, .int .i64 0, .int .u64 0, .int .u64 0, .int .u64 0] 40 ?_; intro g14 hg w22 hb BK14 HBw GE14; clear hb hg; obtain ⟨ha0, ha1, ha2, ha3, ha4, ha5, ha6, ha7, ha8, ha9, ha10, ha11⟩ := bE6 BK14.out) | ((with_reducible refine gate_store (t := 40) (p := 14) rfl ?_); refine store_event (t := 40) (p := 14) (v := .tmp 159) (w1 := ((((((w22.setCell ⟨g14, 0, none⟩ (.bool T)).setCell ⟨g14, 1, none⟩ (.int .i64 F)).setCell ⟨g14, 2, none⟩ (.int .i64 bn)).setCell ⟨g14, 3, none⟩ (.int .u64 n1)).setCell ⟨g14, 4, none⟩ (.int .u64 n2)).setCell ⟨g14, 5, none⟩ (.int .u64 n3))) rfl rfl rfl ?hr ?_; (case hr => first | (go_simp; done) | (go_simp; rfl)); intro w23 hw; obtain ⟨n0, n1, n2⟩ := hornbeamlaw16_SplitTimes.put6 (.bool T) (.int .i64 F) (.int .i64 bn) (.int .u64 n1) (.int .u64 n2) (.int .u64 n3) BK14.out HBw.out GE14.out hw; replace BK14 := aaM n0; replace HBw := aaM n1; clear n0 n1 n2 hw; obtain ⟨hb0, hb1, hb2, hb3, hb4, hb5, hb6, hb7, hb8, hb9, hb10, hb11⟩ := bE6 BK14.out) | ((with_reducible refine gate_callee (f := 13) rfl ?_); refine gL (some 164) Try.func13 #[.slice A5 (hornbeamlaw16_SplitTimes.idx l0.length).length c5, .slice A6 L.length c6, .int .i64 1] ?_; (with_reducible refine (split_Best.calls k A5 c5 (hornbeamlaw16_SplitTimes.idx l0.length) A6 c6 L 1 T' F' bn' m1 m2 m3 e' _ (ccB Q5.out (lB HBw)) L5.out (ccB Q6.out (lB HBw)) L6.out X2.out).mono ?_); rintro e_ w24 ⟨rfl, hb⟩; replace BK14 := bY hb BK14; replace HBw := aaM (lP (lB HBw) hb); refine ⟨_, rfl, ?_⟩; clear hb) | ((with_reducible refine gate_dst (N := 16) rfl ?_); refine bxF w3 HBw 16 #[.bool false, .int .i64 0, .int .i64 0, .int .u64 0, .int .u64 0, .int .u64 0] 40 ?_; intro g16 hg w25 hb BK16 HBw GE16; obtain ⟨NE16, _⟩ := nS hg BK14; replace BK14 := bY hb BK14; clear hb hg; obtain ⟨hc0, hc1, hc2, hc3, hc4, hc5, hc6, hc7, hc8, hc9, hc10, hc11⟩ := bE6 BK16.out) | ((with_reducible refine gate_store (t := 40) (p := 16) rfl ?_); refine store_event (t := 40) (p := 16) (v := .tmp 165) (w1 := ((((((w25.setCell ⟨g16, 0, none⟩ (.bool T')).setCell ⟨g16, 1, none⟩ (.int .i64 F')).setCell ⟨g16, 2, none⟩ (.int .i64 bn')).setCell ⟨g16, 3, none⟩ (.int .u64 m1)).setCell ⟨g16, 4, none⟩ (.int .u64 m2)).setCell ⟨g16, 5, none⟩ (.int .u64 m3))) rfl rfl rfl ?hr ?_; (case hr => first | (go_simp; done) | (go_simp; rfl)); intro w26 hw; obtain ⟨n0, n1, n2⟩ := hornbeamlaw16_SplitTimes.put6 (.bool T') (.int .i64 F') (.int .i64 bn') (.int .u64 m1) (.int .u64 m2) (.int .u64 m3) BK16.out HBw.out GE16.out hw; replace BK14 := aaM ((n2 _ NE16.out).trans BK14.out); replace BK16 := aaM n0; replace HBw := aaM n1; clear n0 n1 n2 hw; obtain ⟨hd0, hd1, hd2, hd3, hd4, hd5, hd6, hd7, hd8, hd9, hd10, hd11⟩ := bE6 BK16.out))
     have MB2 := aaM (below_step MB.out HBw.out)
     have Q7 := aaM (Kd.C_below Q6.out HBw.out)
     clear MB HBw Q0 Q5 Q6 L5 L6 X1 X2 ha0 ha1 ha2 ha3 ha4 ha5 ha6 ha7 ha8 ha9 ha10 ha11 hb0 hb1 hb2 hb3 hb4 hb5 hb6 hb7 hb8 hb9 hb10 hb11 hc0 hc1 hc2 hc3 hc4 hc5 hc6 hc7 hc8 hc9 hc10 hc11 hd0 hd1 hd2 hd3 hd4 hd5 hd6 hd7 hd8 hd9 hd10 hd11
     go_loopw [18, 169] (fun v18 v169 w' => ∃ (t y : Int), v18 = .int .i64 t ∧ v169 = .int .i64 y ∧ Aside0 (0 ≤ y ∧ y ≤ (L.length : Int)) ∧ Aside0 (t = hornbeamlaw16_SplitTimes.tot (L.take y.toNat)) ∧ Aside0 (Below w26.heap.size w26 w')) (fun _ v169 _ => L.length - (intOf v169).toNat)
     case atStart => exact ⟨0, 0, rfl, rfl, ⟨by omega, by omega⟩, ⟨rfl⟩, ⟨Below.refl _ _⟩⟩
     case round =>
      obtain ⟨w30, hw30⟩ : ∃ w30, w30 = wr := ⟨_, rfl⟩
      subst hw30
      obtain ⟨t, y, rfl, rfl, HY, HT, HB6⟩ := hrel
      by_cases hlt : y < (L.length : Int)
      rotate_left
      ·have hltc : decide (y < (L.length : Int)) = false := decide_eq_false hlt
       have hye : y = (L.length : Int) := by have := HY.out; omega
       subst hye
       have ht : t = hornbeamlaw16_SplitTimes.tot L := by have := HT.out; simpa using this
       subst ht
       replace BK14 := bY HB6.out BK14
       replace BK16 := bY HB6.out BK16
       obtain ⟨ha0, ha1, ha2, ha3, ha4, ha5, ha6, ha7, ha8, ha9, ha10, ha11⟩ := bE6 BK14.out
       obtain ⟨hb0, hb1, hb2, hb3, hb4, hb5, hb6, hb7, hb8, hb9, hb10, hb11⟩ := bE6 BK16.out
       clear HT HY hlt
       by_cases hm : hornbeamlaw16_SplitTimes.tot L > 1048576
       ·have hmb : decide (hornbeamlaw16_SplitTimes.tot L > 1048576) = true := decide_eq_true hm
        go_wp2_with (first | ((with_reducible refine gate_callee (f := 9) rfl ?_); refine gL (some 202) Try.func9 #[] ?_; (with_reducible refine (hornbeamlaw16_fixed.calls k true _ HF.out).mono ?_); rintro e wf ⟨rfl, hb⟩; replace HB6 := aaM (lP (lB HB6) hb); refine ⟨_, rfl, ?_⟩; clear hb))
        all_goals (go_ret; exact ⟨by first | trivial | exact eF | simp, below_step MB2.out HB6.out⟩)
       have hmb : decide (hornbeamlaw16_SplitTimes.tot L > 1048576) = false := decide_eq_false hm
       obtain ⟨rfl, rfl, rfl, rfl⟩ : e = e' ∧ T = T' ∧ F = F' ∧ bn = bn' := by
                rcases X3.out with h | h
                · exact absurd h hm
                · unfold hornbeamlaw16_SplitTimes.same at h; simpa using h
       go_wp2_with (first | ((with_reducible refine gate_callee (f := 9) rfl ?_); refine gL (some 203) Try.func9 #[] ?_; (with_reducible refine (hornbeamlaw16_fixed.calls k true _ HF.out).mono ?_); rintro e wf ⟨rfl, hb⟩; replace HB6 := aaM (lP (lB HB6) hb); refine ⟨_, rfl, ?_⟩; replace BK14 := bY hb BK14; replace BK16 := bY hb BK16; obtain ⟨hc0, hc1, hc2, hc3, hc4, hc5, hc6, hc7, hc8, hc9, hc10, hc11⟩ := bE6 BK14.out; obtain ⟨hd0, hd1, hd2, hd3, hd4, hd5, hd6, hd7, hd8, hd9, hd10, hd11⟩ := bE6 BK16.out; clear hb))
       all_goals (go_ret; exact ⟨by first | trivial | exact eF | simp, below_step MB2.out HB6.out⟩)
      clear X3
      have HYL := aaM hlt
      have hltc : decide (y < (L.length : Int)) = true := decide_eq_true hlt
      have h0c : decide (0 ≤ y) = true := decide_eq_true HY.out.1
      obtain ⟨ad, A3, c3, A4, c4, eA, hx0, hx1, hx2, hx3, hx4, hl3, hi3, hl4, hi4⟩ := at_T25 Q7.out y HY.out.1 hlt
      cases eA
      obtain ⟨h, hh⟩ : ∃ h, rd_T25 L y = h := ⟨_, rfl⟩
      rw [hh] at hx0 hx1 hx2 hx3 hx4 hl3 hi3 hl4 hi4
      have HH := aaM hh
      have HLn := aaM (HLs.out h (by rw [← hh]; exact hornbeamlaw16_SplitTimes.memrd HY.out.1 hlt))
      replace hx0 := (HB6.out.cell (World.block_lt_of_cell? w26 _ hx0)).trans hx0
      replace hx1 := (HB6.out.cell (World.block_lt_of_cell? w26 _ hx1)).trans hx1
      replace hx2 := (HB6.out.cell (World.block_lt_of_cell? w26 _ hx2)).trans hx2
      replace hx3 := (HB6.out.cell (World.block_lt_of_cell? w26 _ hx3)).trans hx3
      replace hx4 := (HB6.out.cell (World.block_lt_of_cell? w26 _ hx4)).trans hx4
      have C3 := aaM (Kd.C_below hi3 HB6.out)
      have C4 := aaM (Kd.C_below hi4 HB6.out)
      have p1 := eq_true HY.out.1
      have q1 := eq_true hlt
      have HB8 := aaM (Below.refl w30.heap.size w30)
      clear hlt hh hi3 hi4
      go_wp2_with (first | ((with_reducible refine gate_dst (N := 20) rfl ?_); refine bxF w30 HB8 20 #[.int .i64 0, .int .i64 0, .int .i64 0, .slice none 0 0, .slice none 0 0] 25 ?_; intro g20 hg w31 hb BK20 HB8 GE20; clear hb hg; obtain ⟨ha0, ha1, ha2, ha3, ha4, ha5, ha6, ha7, ha8, ha9⟩ := bE5 BK20.out) | ((with_reducible refine gate_store (t := 25) (p := 20) rfl ?_); refine store_event (t := 25) (p := 20) (v := .tmp 172) (w1 := (((((w31.setCell ⟨g20, 0, none⟩ (.int .i64 h.f0)).setCell ⟨g20, 1, none⟩ (.int .i64 h.f1)).setCell ⟨g20, 2, none⟩ (.int .i64 h.f2)).setCell ⟨g20, 3, none⟩ (.slice A3 h.f3.length c3)).setCell ⟨g20, 4, none⟩ (.slice A4 h.f4.length c4))) rfl rfl rfl ?hr ?_; (case hr => first | (go_simp; done) | (go_simp; rfl)); intro w32 hw; obtain ⟨n0, n1, n2⟩ := hornbeamlaw16_SplitTimes.put5 (.int .i64 h.f0) (.int .i64 h.f1) (.int .i64 h.f2) (.slice A3 h.f3.length c3) (.slice A4 h.f4.length c4) BK20.out HB8.out GE20.out hw; replace BK20 := aaM n0; replace HB8 := aaM n1; clear n0 n1 n2 hw; obtain ⟨hb0, hb1, hb2, hb3, hb4, hb5, hb6, hb7, hb8, hb9⟩ := bE5 BK20.out))
      replace C3 := aaM (Kd.C_below C3.out HB8.out)
      replace C4 := aaM (Kd.C_below C4.out HB8.out)
      clear hx0 hx1 hx2 hx3 hx4 p1 q1 ha0 ha1 ha2 ha3 ha4 ha5 ha6 ha7 ha8 ha9
      go_loopw [21, 176] (fun v21 v176 w' => ∃ (s j : Int), v21 = .int .i64 s ∧ v176 = .int .i64 j ∧ Aside0 (0 ≤ j ∧ j ≤ (h.f3.length : Int)) ∧ Aside0 (s = (h.f3.take j.toNat).foldl (fun s x => wrap64 (s + x)) 0) ∧ w' = w32) (fun _ v176 _ => h.f3.length - (intOf v176).toNat)
      case atStart => exact ⟨0, 0, rfl, rfl, ⟨by omega, by omega⟩, ⟨rfl⟩, rfl⟩
      case round =>
       obtain ⟨s, j, rfl, rfl, HJ, HS, hww⟩ := hrel
       subst hww
       by_cases hlt : j < (h.f3.length : Int)
       rotate_left
       ·have hltd : decide (j < (h.f3.length : Int)) = false := decide_eq_false hlt
        have hje : j = (h.f3.length : Int) := by have := HJ.out; omega
        subst hje
        replace HS : Aside0 (s = h.f3.foldl (fun s x => wrap64 (s + x)) 0) := ⟨by have := HS.out; simpa using this⟩
        clear HJ hlt
        go_wp2
        clear hltd
        have HB9 := aaM (Below.refl wr.heap.size wr)
        go_loopw [21, 187] (fun v21 v187 w' => ∃ (s j : Int), v21 = .int .i64 s ∧ v187 = .int .i64 j ∧ Aside0 (0 ≤ j ∧ j ≤ (h.f4.length : Int)) ∧ Aside0 (s = (h.f4.take j.toNat).foldl (fun s m => wrap64 (s + m.f0)) (h.f3.foldl (fun s x => wrap64 (s + x)) 0)) ∧ Aside0 (Below w30.heap.size w30 w') ∧ Aside0 (k54.C w' A4 h.f4.length h.f4)) (fun _ v187 _ => h.f4.length - (intOf v187).toNat)
        case atStart => exact ⟨s, 0, rfl, rfl, ⟨by omega, by omega⟩, ⟨HS.out⟩, ⟨HB8.out⟩, ⟨C4.out⟩⟩
        case round =>
         clear HS HB8 HB9 C3 C4 BK20 hb0 hb1 hb2 hb3 hb4 hb5 hb6 hb7 hb8 hb9
         obtain ⟨s, j, rfl, rfl, HJ, HS, HB8, C4⟩ := hrel
         by_cases hlt : j < (h.f4.length : Int)
         rotate_left
         ·have hltd : decide (j < (h.f4.length : Int)) = false := decide_eq_false hlt
          have hje : j = (h.f4.length : Int) := by have := HJ.out; omega
          subst hje
          replace HS : Aside0 (s = hornbeamlaw16_SplitTimes.own h) := ⟨by have := HS.out; unfold hornbeamlaw16_SplitTimes.own; simpa using this⟩
          clear HJ hlt
          go_wp2
          have hw1 : wrap64 (y + 1) = y + 1 := by have := HL8.out; have := HY.out; have := HYL.out; unfold wrap64; omega
          refine ⟨⟨_, y + 1, rfl, by rw [hw1], ⟨by have := HY.out; omega, by have := HYL.out; omega⟩, ⟨by rw [hornbeamlaw16_SplitTimes.tot_snoc HY.out.1 HYL.out HH.out, HT.out, HS.out]; (try omega)⟩, ⟨below_step HB6.out HB8.out⟩⟩, ?_⟩
          rw [hw1]
          have := HY.out
          have := HYL.out
          simp only [intOf]
          omega
         have HJL := aaM hlt
         have hltd : decide (j < (h.f4.length : Int)) = true := decide_eq_true hlt
         have h0d : decide (0 ≤ j) = true := decide_eq_true HJ.out.1
         obtain ⟨ad4, eB, hy0, hy1, hy2⟩ := at_T54 C4.out j HJ.out.1 hlt
         cases eB
         have p1 := eq_true HJ.out.1
         have q1 := eq_true hlt
         clear hlt
         have HB9 := aaM (Below.refl wr.heap.size wr)
         go_wp2_with (first | ((with_reducible refine gate_dst (N := 25) rfl ?_); refine bxF wr HB9 25 #[.int .i64 0, .int .i64 0, .int .i64 0] 54 ?_; intro g25 hg w33 hb BK25 HB9 GE25; clear hb hg; obtain ⟨hc0, hc1, hc2, hc3, hc4, hc5⟩ := bE3 BK25.out) | ((with_reducible refine gate_store (t := 54) (p := 25) rfl ?_); refine store_event (t := 54) (p := 25) (v := .tmp 190) (w1 := (((w33.setCell ⟨g25, 0, none⟩ (.int .i64 (rd_T54 h.f4 j).f0)).setCell ⟨g25, 1, none⟩ (.int .i64 (rd_T54 h.f4 j).f1)).setCell ⟨g25, 2, none⟩ (.int .i64 (rd_T54 h.f4 j).f2))) rfl rfl rfl ?hr ?_; (case hr => first | (go_simp; done) | (go_simp; rfl)); intro w34 hw; obtain ⟨n0, n1⟩ := hornbeamlaw16_SplitTimes.put3 (.int .i64 (rd_T54 h.f4 j).f0) (.int .i64 (rd_T54 h.f4 j).f1) (.int .i64 (rd_T54 h.f4 j).f2) BK25.out HB9.out GE25.out hw; replace BK25 := aaM n0; replace HB9 := aaM n1; clear n0 n1 hw; obtain ⟨hd0, hd1, hd2, hd3, hd4, hd5⟩ := bE3 BK25.out))
         have hw1 : wrap64 (j + 1) = j + 1 := by have := HJ.out; have := HJL.out; have := HLn.out.2; unfold wrap64; omega
         refine ⟨⟨_, j + 1, rfl, by rw [hw1], ⟨by have := HJ.out; omega, by have := HJL.out; omega⟩, ⟨by rw [hornbeamlaw16_SplitTimes.fold54 HJ.out.1 HJL.out, HS.out]⟩, ⟨below_step HB8.out HB9.out⟩, ⟨Kd.C_below C4.out HB9.out⟩⟩, ?_⟩
         rw [hw1]
         have := HJ.out
         have := HJL.out
         simp only [intOf]
         omega
       have HJL := aaM hlt
       have hltd : decide (j < (h.f3.length : Int)) = true := decide_eq_true hlt
       have h0d : decide (0 ≤ j) = true := decide_eq_true HJ.out.1
       obtain ⟨ad3, eB, hy0⟩ := Kd.at_int C3.out j HJ.out.1 hlt
       cases eB
       have p1 := eq_true HJ.out.1
       have q1 := eq_true hlt
       clear hlt
       go_wp2
       have hw1 : wrap64 (j + 1) = j + 1 := by have := HJ.out; have := HJL.out; have := HLn.out.1; unfold wrap64; omega
       refine ⟨⟨_, j + 1, rfl, by rw [hw1], ⟨by have := HJ.out; omega, by have := HJL.out; omega⟩, ⟨by rw [hornbeamlaw16_SplitTimes.fold2 HJ.out.1 HJL.out, HS.out]⟩, by first | rfl | trivial⟩, ?_⟩
       rw [hw1]
       have := HJ.out
       have := HJL.out
       simp only [intOf]
       omega
    have HLT := aaM hlt
    have hltb : decide (x < (l0.length : Int)) = true := decide_eq_true hlt
    have h0b : decide (0 ≤ x) = true := decide_eq_true HK.out.1
    obtain ⟨ad, A3, c3, A4, c4, e, hx0, hx1, hx2, hx3, hx4, hl3, hi3, hl4, hi4⟩ := at_T25 HR0.out x HK.out.1 hlt
    cases e
    obtain ⟨h, hh⟩ : ∃ h, rd_T25 l0 x = h := ⟨_, rfl⟩
    rw [hh] at hx0 hx1 hx2 hx3 hx4 hl3 hi3 hl4 hi4
    have hm : h ∈ l0 := by rw [← hh]; exact hornbeamlaw16_SplitTimes.memrd HK.out.1 hlt
    have hs := HS.out h hm
    unfold hornbeamlaw16_SplitTimes.small at hs
    simp only [Bool.and_eq_true, decide_eq_true_eq] at hs
    obtain ⟨b, hq⟩ := Option.isSome_iff_exists.mp hs.1
    have QR := aaM hq
    have HS3 := aaM hs.2.1
    have HS4 := aaM hs.2.2
    have QC := aaM (hornbeamlaw16_SplitTimes.copy hs.2.1 hs.2.2)
    have HH := aaM hh
    have HM := aaM hm
    replace hx0 := (M.out.bel.cell (World.block_lt_of_cell? w _ hx0)).trans hx0
    replace hx1 := (M.out.bel.cell (World.block_lt_of_cell? w _ hx1)).trans hx1
    replace hx2 := (M.out.bel.cell (World.block_lt_of_cell? w _ hx2)).trans hx2
    replace hx3 := (M.out.bel.cell (World.block_lt_of_cell? w _ hx3)).trans hx3
    replace hx4 := (M.out.bel.cell (World.block_lt_of_cell? w _ hx4)).trans hx4
    have C3 := aaM (Kd.C_below hi3 M.out.bel)
    have C4 := aaM (Kd.C_below hi4 M.out.bel)
    have L3 := aaM hl3
    have L4 := aaM hl4
    have HBr := aaM (Below.refl w3.heap.size w3)
    clear hs hq hm hh hi3 hi4 hl3 hl4
    have p1 := eq_true HK.out.1
    have q1 := eq_true hlt
    clear hlt
    cases b with
    | false =>
     go_wp2_with (first | ((with_reducible refine gate_dst (N := 8) rfl ?_); refine bxF w3 HBr 8 #[.int .i64 0, .int .i64 0, .int .i64 0, .slice none 0 0, .slice none 0 0] 25 ?_; intro g8 hg w4 hb BK8 HBr GE8; clear hb hg; obtain ⟨ha0, ha1, ha2, ha3, ha4, ha5, ha6, ha7, ha8, ha9⟩ := bE5 BK8.out) | ((with_reducible refine gate_store (t := 25) (p := 8) rfl ?_); refine store_event (t := 25) (p := 8) (v := .tmp 39) (w1 := (((((w4.setCell ⟨g8, 0, none⟩ (.int .i64 h.f0)).setCell ⟨g8, 1, none⟩ (.int .i64 h.f1)).setCell ⟨g8, 2, none⟩ (.int .i64 h.f2)).setCell ⟨g8, 3, none⟩ (.slice A3 h.f3.length c3)).setCell ⟨g8, 4, none⟩ (.slice A4 h.f4.length c4))) rfl rfl rfl ?hr ?_; (case hr => first | (go_simp; done) | (go_simp; rfl)); intro w5 hw; obtain ⟨n0, n1, n2⟩ := hornbeamlaw16_SplitTimes.put5 (.int .i64 h.f0) (.int .i64 h.f1) (.int .i64 h.f2) (.slice A3 h.f3.length c3) (.slice A4 h.f4.length c4) BK8.out HBr.out GE8.out hw; replace BK8 := aaM n0; replace HBr := aaM n1; clear n0 n1 n2 hw; obtain ⟨hb0, hb1, hb2, hb3, hb4, hb5, hb6, hb7, hb8, hb9⟩ := bE5 BK8.out) | ((with_reducible refine gate_callee (f := 15) rfl ?_); refine gL (some 41) Try.func15 #[.agg #[.int .i64 h.f0, .int .i64 h.f1, .int .i64 h.f2, .slice A3 h.f3.length c3, .slice A4 h.f4.length c4]] ?_; (with_reducible refine (hornbeamref12_Right.calls k h.f0 h.f1 h.f2 A3 c3 h.f3 A4 c4 h.f4 false _ (ccB C3.out (lB HBr)) L3.out (ccB C4.out (lB HBr)) L4.out QR.out).mono ?_); rintro e w6 ⟨rfl, hb⟩; replace BK8 := bY hb BK8; replace HBr := aaM (lP (lB HBr) hb); refine ⟨_, rfl, ?_⟩; clear hb; obtain ⟨hc0, hc1, hc2, hc3, hc4, hc5, hc6, hc7, hc8, hc9⟩ := bE5 BK8.out) | ((with_reducible refine gate_callee (f := 9) rfl ?_); refine gL (some 43) Try.func9 #[] ?_; (with_reducible refine (hornbeamlaw16_fixed.calls k true _ HF.out).mono ?_); rintro e wf ⟨rfl, hb⟩; replace HBr := aaM (lP (lB HBr) hb); refine ⟨_, rfl, ?_⟩; clear hb))
     all_goals (go_ret; exact ⟨by first | trivial | exact eF, below_step M.out.bel HBr.out⟩)
    | true =>
     go_wp2_with (first | ((with_reducible refine gate_dst (N := 8) rfl ?_); refine bxF w3 HBr 8 #[.int .i64 0, .int .i64 0, .int .i64 0, .slice none 0 0, .slice none 0 0] 25 ?_; intro g8 hg w4 hb BK8 HBr GE8; clear hb hg; obtain ⟨ha0, ha1, ha2, ha3, ha4, ha5, ha6, ha7, ha8, ha9⟩ := bE5 BK8.out) | ((with_reducible refine gate_store (t := 25) (p := 8) rfl ?_); refine store_event (t := 25) (p := 8) (v := .tmp 39) (w1 := (((((w4.setCell ⟨g8, 0, none⟩ (.int .i64 h.f0)).setCell ⟨g8, 1, none⟩ (.int .i64 h.f1)).setCell ⟨g8, 2, none⟩ (.int .i64 h.f2)).setCell ⟨g8, 3, none⟩ (.slice A3 h.f3.length c3)).setCell ⟨g8, 4, none⟩ (.slice A4 h.f4.length c4))) rfl rfl rfl ?hr ?_; (case hr => first | (go_simp; done) | (go_simp; rfl)); intro w5 hw; obtain ⟨n0, n1, n2⟩ := hornbeamlaw16_SplitTimes.put5 (.int .i64 h.f0) (.int .i64 h.f1) (.int .i64 h.f2) (.slice A3 h.f3.length c3) (.slice A4 h.f4.length c4) BK8.out HBr.out GE8.out hw; replace BK8 := aaM n0; replace HBr := aaM n1; clear n0 n1 n2 hw; obtain ⟨hb0, hb1, hb2, hb3, hb4, hb5, hb6, hb7, hb8, hb9⟩ := bE5 BK8.out) | ((with_reducible refine gate_callee (f := 15) rfl ?_); refine gL (some 41) Try.func15 #[.agg #[.int .i64 h.f0, .int .i64 h.f1, .int .i64 h.f2, .slice A3 h.f3.length c3, .slice A4 h.f4.length c4]] ?_; (with_reducible refine (hornbeamref12_Right.calls k h.f0 h.f1 h.f2 A3 c3 h.f3 A4 c4 h.f4 true _ (ccB C3.out (lB HBr)) L3.out (ccB C4.out (lB HBr)) L4.out QR.out).mono ?_); rintro e w6 ⟨rfl, hb⟩; replace BK8 := bY hb BK8; replace HBr := aaM (lP (lB HBr) hb); refine ⟨_, rfl, ?_⟩; clear hb; obtain ⟨hc0, hc1, hc2, hc3, hc4, hc5, hc6, hc7, hc8, hc9⟩ := bE5 BK8.out) | ((with_reducible refine gate_callee (f := 17) rfl ?_); refine gL (some 45) Try.func17 #[.agg #[.int .i64 h.f0, .int .i64 h.f1, .int .i64 h.f2, .slice A3 h.f3.length c3, .slice A4 h.f4.length c4]] ?_; (with_reducible refine (hornbeamref12_Copy.calls h.f0 h.f1 h.f2 A3 c3 h.f3 A4 c4 h.f4 h.f0 h.f1 h.f2 h.f3 h.f4 _ (ccB C3.out (lB HBr)) L3.out (ccB C4.out (lB HBr)) L4.out QC.out).mono ?_); rintro e w7 ⟨V3, V4, rfl, hr3, hr4, hb⟩; obtain ⟨B3, d3, rfl⟩ := Kd.R_slice hr3; obtain ⟨B4, d4, rfl⟩ := Kd.R_slice hr4; have R3 := aaM (Kd.R_lower hr3 (lZ (lB HBr))); have R4 := aaM (Kd.R_lower hr4 (lZ (lB HBr))); replace HBr := aaM (lP (lB HBr) hb); refine ⟨_, rfl, ?_⟩; clear hr3 hr4 hb BK8) | ((with_reducible refine gate_dst (N := 9) rfl ?_); refine bxF w3 HBr 9 #[.int .i64 0, .int .i64 0, .int .i64 0, .slice none 0 0, .slice none 0 0] 25 ?_; intro g9 hg w8 hb BK9 HBr GE9; replace R3 := aaM (Kd.R_below R3.out hb); replace R4 := aaM (Kd.R_below R4.out hb); clear hb hg; obtain ⟨hd0, hd1, hd2, hd3, hd4, hd5, hd6, hd7, hd8, hd9⟩ := bE5 BK9.out) | ((with_reducible refine gate_store (t := 25) (p := 9) rfl ?_); refine store_event (t := 25) (p := 9) (v := .tmp 45) (w1 := (((((w8.setCell ⟨g9, 0, none⟩ (.int .i64 h.f0)).setCell ⟨g9, 1, none⟩ (.int .i64 h.f1)).setCell ⟨g9, 2, none⟩ (.int .i64 h.f2)).setCell ⟨g9, 3, none⟩ (.slice B3 h.f3.length d3)).setCell ⟨g9, 4, none⟩ (.slice B4 h.f4.length d4))) rfl rfl rfl ?hr ?_; (case hr => first | (go_simp; done) | (go_simp; rfl)); intro w9 hw; obtain ⟨n0, n1, n2⟩ := hornbeamlaw16_SplitTimes.put5 (.int .i64 h.f0) (.int .i64 h.f1) (.int .i64 h.f2) (.slice B3 h.f3.length d3) (.slice B4 h.f4.length d4) BK9.out HBr.out GE9.out hw; replace R3 := aaM (hornbeamlaw16_SplitTimes.far R3.out BK9.out (by decide) n2); replace R4 := aaM (hornbeamlaw16_SplitTimes.far R4.out BK9.out (by decide) n2); replace BK9 := aaM n0; replace HBr := aaM n1; clear n0 n1 n2 hw; obtain ⟨he0, he1, he2, he3, he4, he5, he6, he7, he8, he9⟩ := bE5 BK9.out))
     have M2 : Aside0 (hornbeamlaw16_SplitTimes.In w3 w9 g9 h (.slice B3 h.f3.length d3) (.slice B4 h.f4.length d4) (hornbeamlaw16_SplitTimes.mixC (a1 % 50 + 1) h.f3 0) h.f4) := ⟨⟨HBr.out, BK9.out, GE9.out, by unfold hornbeamlaw16_SplitTimes.mixC; simpa using R3.out, R4.out⟩⟩
     clear BK9 HBr R3 R4 hx0 hx1 hx2 hx3 hx4 C3 C4 L3 L4 p1 q1 QC ha0 ha1 ha2 ha3 ha4 ha5 ha6 ha7 ha8 ha9 hd0 hd1 hd2 hd3 hd4 hd5 hd6 hd7 hd8 hd9 he0 he1 he2 he3 he4 he5 he6 he7 he8 he9
     go_loopw [49] (fun v49 w' => ∃ y : Int, v49 = .int .i64 y ∧ Aside0 (0 ≤ y ∧ y ≤ (h.f3.length : Int)) ∧ Aside0 (∀ z ∈ h.f3.take y.toNat, hornbeamlaw16_SplitTimes.okC z = true) ∧ Aside0 (hornbeamlaw16_SplitTimes.In w3 w' g9 h (.slice B3 h.f3.length d3) (.slice B4 h.f4.length d4) (hornbeamlaw16_SplitTimes.mixC (a1 % 50 + 1) h.f3 y.toNat) h.f4)) (fun v49 _ => h.f3.length - (intOf v49).toNat)
     case atStart => exact ⟨0, rfl, ⟨by omega, by omega⟩, ⟨fun h hh => by simp at hh⟩, ⟨M2.out⟩⟩
     case round =>
      clear M2
      obtain ⟨y, rfl, HY, HO, M2⟩ := hrel
      by_cases hlt : y < (h.f3.length : Int)
      rotate_left
      ·have hltc : decide (y < (h.f3.length : Int)) = false := decide_eq_false hlt
       have hye : y = (h.f3.length : Int) := by have := HY.out; omega
       subst hye
       have HO3 : Aside0 (∀ z ∈ h.f3, hornbeamlaw16_SplitTimes.okC z = true) := ⟨by have := HO.out; simpa using this⟩
       have M3 : Aside0 (hornbeamlaw16_SplitTimes.In w3 wr g9 h (.slice B3 h.f3.length d3) (.slice B4 h.f4.length d4) (h.f3.map (hornbeamlaw16_SplitTimes.mulC (a1 % 50 + 1))) (hornbeamlaw16_SplitTimes.mixM (a1 % 50 + 1) h.f4 0)) := ⟨by have := M2.out; unfold hornbeamlaw16_SplitTimes.mixC at this; unfold hornbeamlaw16_SplitTimes.mixM; simpa using this⟩
       clear HO M2 HY hlt
       obtain ⟨hb0, hb1, hb2, hb3, hb4, hb5, hb6, hb7, hb8, hb9⟩ := bE5 M3.out.b9
       go_wp2
       clear hltc hb0 hb1 hb2 hb3 hb4 hb5 hb6 hb7 hb8 hb9
       go_loopw [75] (fun v75 w' => ∃ y : Int, v75 = .int .i64 y ∧ Aside0 (0 ≤ y ∧ y ≤ (h.f4.length : Int)) ∧ Aside0 (∀ z ∈ h.f4.take y.toNat, hornbeamlaw16_SplitTimes.okM z = true) ∧ Aside0 (hornbeamlaw16_SplitTimes.In w3 w' g9 h (.slice B3 h.f3.length d3) (.slice B4 h.f4.length d4) (h.f3.map (hornbeamlaw16_SplitTimes.mulC (a1 % 50 + 1))) (hornbeamlaw16_SplitTimes.mixM (a1 % 50 + 1) h.f4 y.toNat))) (fun v75 _ => h.f4.length - (intOf v75).toNat)
       case atStart => exact ⟨0, rfl, ⟨by omega, by omega⟩, ⟨fun h hh => by simp at hh⟩, ⟨M3.out⟩⟩
       case round =>
        clear M3
        obtain ⟨y, rfl, HY, HO, M3⟩ := hrel
        by_cases hlt : y < (h.f4.length : Int)
        rotate_left
        ·skip
         have hltc : decide (y < (h.f4.length : Int)) = false := decide_eq_false hlt
         have hye : y = (h.f4.length : Int) := by have := HY.out; omega
         subst hye
         have HO4 : Aside0 (∀ z ∈ h.f4, hornbeamlaw16_SplitTimes.okM z = true) := ⟨by have := HO.out; simpa using this⟩
         have M4 : Aside0 (hornbeamlaw16_SplitTimes.In w3 wr g9 h (.slice B3 h.f3.length d3) (.slice B4 h.f4.length d4) (h.f3.map (hornbeamlaw16_SplitTimes.mulC (a1 % 50 + 1))) (h.f4.map (hornbeamlaw16_SplitTimes.mulM (a1 % 50 + 1)))) := ⟨by have := M3.out; unfold hornbeamlaw16_SplitTimes.mixM at this; simpa using this⟩
         clear HO M3 HY hlt
         have N := aaM (hornbeamlaw16_SplitTimes.Mem.below M.out M4.out.bel)
         have hlx : x.toNat ≤ 8 := by have := HLT.out; have := H8.out; omega
         have HX := aaM hlx
         clear hlx
         go_upto_region 25 with (fail)
         have hdr := lD (Below.refl wr.heap.size wr)
         have S0 := aaM (hornbeamlaw16_SplitTimes.St0.below (⟨M.out, M4.out⟩ : hornbeamlaw16_SplitTimes.St0 w w3 wr l0 (a1 % 50 + 1) u5 u6 x.toNat g9 h (.slice B3 h.f3.length d3) (.slice B4 h.f4.length d4)) hdr)
         clear hdr N M4
         have BK9 := aaM S0.out.n.b9
         refine start_ (n := 10) (S := fun w' => w'.cell? ⟨g9, 0, none⟩ = some (.int .i64 h.f0) ∧ w'.cell? ⟨g9, 1, none⟩ = some (.int .i64 h.f1) ∧ w'.cell? ⟨g9, 2, none⟩ = some (.int .i64 h.f2) ∧ w'.cell? ⟨g9, 3, none⟩ = some (.slice B3 h.f3.length d3) ∧ w'.cell? ⟨g9, 4, none⟩ = some (.slice B4 h.f4.length d4)) (ds := []) _ (by kernel_rfl) rfl rfl hD (fun hHeld => ?_)
         refine with_tabW (T := hornbeamlaw16_SplitTimes.T25) (B := hornbeamlaw16_SplitTimes.B25) hornbeamlaw16_SplitTimes.tab25 hornbeamlaw16_SplitTimes.bits25 (fun HT_ HW_ => ?_)
         generalize wr.drew = w20 at S0 BK9 hHeld ⊢
         refine pU 0 146 (qB 10 1) HT_ ?_
         refine pU 1 147 (qB 10 3) HT_ ?_
         refine pU 4 150 (qB 10 19) HT_ ?_
         refine tU 5 151 (qB 10 51) HT_ HW_ hHeld ?_
         refine two_ (i := 2) (j := 6) (Ni := some 148) (Nj := some 152) (qB 10 55) (qB 10 115) rfl rfl rfl rfl (two_of HT_.out (by kernel_rfl)) (by decide) (by decide) (fun K hK => ?_) (fun K hK => ?_)
         ·skip
          refine hornbeamlaw16_SplitTimes.lit_step (by exact rfl) (by exact rfl) #[.int .i64 x] 3 (by first | (go_simp; done) | (go_simp; rfl)) ?_; intro gA w21 hA hb; have BA := aaM hA; replace S0 := aaM (S0.out.below hb); replace BK9 := bY hb BK9; clear hA hb; refine hK.out _ _ hD (fun hHeld => ?_); clear hK K; refine nU 148 ?_
          refine two_ (i := 3) (j := 6) (Ni := some 149) (Nj := some 152) (qB 10 63) (qB 10 119) rfl rfl rfl rfl (two_of HT_.out (by kernel_rfl)) (by decide) (by decide) (fun K hK => ?_) (fun K hK => ?_)
          ·skip
           refine Kd.R_append_rows_step (Kd.int .i64) (w0 := w) w.heap.size (by exact rfl) (.tmp 146) (.tmp 148) 36 3 (.int .i64 0) 8 rfl Try.underlying36 info3 rfl (by decide) (by omega) u5 (hornbeamlaw16_SplitTimes.idx x.toNat) [x] _ _ _ (fun _ => True) (fun _ => False) rfl rfl S0.out.mem.r5 (hornbeamlaw16_SplitTimes.rowOf x [.int .i64 x] (by exact Nat.succ_pos 0) BA.out) (fun _ _ hr_ => by rw [hr_.1, hr_.2]; exact rfl) (fun _ hk => hk.elim) (fun _ _ => trivial) S0.out.mem.bel (below_size S0.out.mem.bel) (by have := HX.out; simp [hornbeamlaw16_SplitTimes.idx]; omega) ?_; intro V5 w22 ho hb hg hat; obtain ⟨A7, c7, e7⟩ := Kd.R_slice ho; obtain ⟨q7, hq7⟩ : ∃ q, q = (hornbeamlaw16_SplitTimes.idx x.toNat ++ [x]).length := ⟨_, rfl⟩; rw [← hq7] at e7; clear hq7; subst e7; have S1 := aaM (S0.out.grow hb ho hg); have BK9 := aaM S1.out.b9; clear ho hb hg hat S0 BA; refine hK.out _ _ hD (fun hHeld => ?_); clear hK K; refine nU 149 ?_
           refine oU 6 (some 152) (qB 10 127) HT_ (fun K hK => ?_)
           refine hornbeamlaw16_SplitTimes.lit_step (by exact rfl) (by exact rfl) #[.int .i64 h.f0, .int .i64 h.f1, .int .i64 h.f2, .slice B3 h.f3.length d3, .slice B4 h.f4.length d4] 25 (by first | (go_simp; done) | (go_simp; rfl)) ?_; intro gB w23 hB hb; have BB := aaM hB; replace S1 := aaM (S1.out.below hb); replace BK9 := bY hb BK9; clear hB hb; refine hK.out _ _ hD (fun hHeld => ?_); clear hK K; refine nU 152 ?_
           refine oU 7 (some 153) (qB 10 255) HT_ (fun K hK => ?_)
           refine Kd.R_append_rows_step k25 (w0 := w) w.heap.size (by exact rfl) (.tmp 150) (.tmp 152) 37 25 (.agg #[(.int .i64 0), (.int .i64 0), (.int .i64 0), (.slice none 0 0), (.slice none 0 0)]) 72 rfl Try.underlying37 info25 rfl (by decide) (by omega) u6 ((l0.take x.toNat).map (hornbeamlaw16_SplitTimes.mulH (a1 % 50 + 1))) [hornbeamlaw16_SplitTimes.mulH (a1 % 50 + 1) h] _ _ _ (fun _ => True) (fun k => some k ≠ u6.ownBlock) rfl rfl S1.out.r6 (hornbeamlaw16_SplitTimes.rowOf (hornbeamlaw16_SplitTimes.mulH (a1 % 50 + 1) h) [.int .i64 h.f0, .int .i64 h.f1, .int .i64 h.f2, .slice B3 h.f3.length d3, .slice B4 h.f4.length d4] (by exact Nat.succ_pos 4) BB.out) (fun _ _ hr_ => by rw [hr_.1, hr_.2]; exact S1.out.p6) (fun _ hk => ⟨trivial, hk⟩) (fun _ _ => trivial) S1.out.bel (below_size S1.out.bel) (by have := HX.out; simp; omega) ?_; intro V6 w29 ho hb hg hat; obtain ⟨A8, c8, e8⟩ := Kd.R_slice ho; obtain ⟨q8, hq8⟩ : ∃ q, q = ((l0.take x.toNat).map (hornbeamlaw16_SplitTimes.mulH (a1 % 50 + 1)) ++ [hornbeamlaw16_SplitTimes.mulH (a1 % 50 + 1) h]).length := ⟨_, rfl⟩; rw [← hq8] at e8; clear hq8; subst e8; have MM := aaM (hornbeamlaw16_SplitTimes.Mem.snoc HK.out.1 HLT.out HH.out S1.out.r5 S1.out.r6 ho hb hg); have BK9 := aaM (blk_grown S1.out.b9 hg S1.out.ne); clear ho hb hg hat; refine hK.out _ _ hD (fun hHeld => ?_); clear hK K; refine nU 153 ?_
           refine pU 8 5 (qB 10 511) HT_ ?_
           refine pU 9 6 (qB 10 1023) HT_ ?_
           refine done_ (done_of HT_.out (by kernel_rfl)) ?_
           (try go_wp2)
           have hw1 : wrap64 (x + 1) = x + 1 := by have := H8.out; have := HK.out; have := HLT.out; unfold wrap64; omega
           refine ⟨⟨x + 1, by rw [hw1], ⟨by have := HK.out; omega, by have := HLT.out; omega⟩, ⟨hornbeamlaw16_SplitTimes.good_snoc HK.out.1 HLT.out HH.out HG.out QR.out HO3.out HO4.out⟩, ⟨MM.out⟩⟩, ?_⟩
           rw [hw1]
           have := HK.out
           have := HLT.out
           simp only [intOf]
           omega
          ·skip
           refine hornbeamlaw16_SplitTimes.lit_step (by exact rfl) (by exact rfl) #[.int .i64 h.f0, .int .i64 h.f1, .int .i64 h.f2, .slice B3 h.f3.length d3, .slice B4 h.f4.length d4] 25 (by first | (go_simp; done) | (go_simp; rfl)) ?_; intro gB w22 hB hb; have BB := aaM hB; replace S0 := aaM (S0.out.below hb); replace BK9 := bY hb BK9; replace BA := bY hb BA; clear hB hb; refine hK.out _ _ hD (fun hHeld => ?_); clear hK K; refine nU 152 ?_
           refine oU 3 (some 149) (qB 10 127) HT_ (fun K hK => ?_)
           refine Kd.R_append_rows_step (Kd.int .i64) (w0 := w) w.heap.size (by exact rfl) (.tmp 146) (.tmp 148) 36 3 (.int .i64 0) 8 rfl Try.underlying36 info3 rfl (by decide) (by omega) u5 (hornbeamlaw16_SplitTimes.idx x.toNat) [x] _ _ _ (fun _ => True) (fun _ => False) rfl rfl S0.out.mem.r5 (hornbeamlaw16_SplitTimes.rowOf x [.int .i64 x] (by exact Nat.succ_pos 0) BA.out) (fun _ _ hr_ => by rw [hr_.1, hr_.2]; exact rfl) (fun _ hk => hk.elim) (fun _ _ => trivial) S0.out.mem.bel (below_size S0.out.mem.bel) (by have := HX.out; simp [hornbeamlaw16_SplitTimes.idx]; omega) ?_; intro V5 w23 ho hb hg hat; obtain ⟨A7, c7, e7⟩ := Kd.R_slice ho; obtain ⟨q7, hq7⟩ : ∃ q, q = (hornbeamlaw16_SplitTimes.idx x.toNat ++ [x]).length := ⟨_, rfl⟩; rw [← hq7] at e7; clear hq7; subst e7; replace BB := aaM (blk_grown BB.out hg (Kd.R_ne S0.out.mem.r5 BB.out (by decide))); have S1 := aaM (S0.out.grow hb ho hg); have BK9 := aaM S1.out.b9; clear ho hb hg hat S0 BA; refine hK.out _ _ hD (fun hHeld => ?_); clear hK K; refine nU 149 ?_
           refine oU 7 (some 153) (qB 10 255) HT_ (fun K hK => ?_)
           refine Kd.R_append_rows_step k25 (w0 := w) w.heap.size (by exact rfl) (.tmp 150) (.tmp 152) 37 25 (.agg #[(.int .i64 0), (.int .i64 0), (.int .i64 0), (.slice none 0 0), (.slice none 0 0)]) 72 rfl Try.underlying37 info25 rfl (by decide) (by omega) u6 ((l0.take x.toNat).map (hornbeamlaw16_SplitTimes.mulH (a1 % 50 + 1))) [hornbeamlaw16_SplitTimes.mulH (a1 % 50 + 1) h] _ _ _ (fun _ => True) (fun k => some k ≠ u6.ownBlock) rfl rfl S1.out.r6 (hornbeamlaw16_SplitTimes.rowOf (hornbeamlaw16_SplitTimes.mulH (a1 % 50 + 1) h) [.int .i64 h.f0, .int .i64 h.f1, .int .i64 h.f2, .slice B3 h.f3.length d3, .slice B4 h.f4.length d4] (by exact Nat.succ_pos 4) BB.out) (fun _ _ hr_ => by rw [hr_.1, hr_.2]; exact S1.out.p6) (fun _ hk => ⟨trivial, hk⟩) (fun _ _ => trivial) S1.out.bel (below_size S1.out.bel) (by have := HX.out; simp; omega) ?_; intro V6 w29 ho hb hg hat; obtain ⟨A8, c8, e8⟩ := Kd.R_slice ho; obtain ⟨q8, hq8⟩ : ∃ q, q = ((l0.take x.toNat).map (hornbeamlaw16_SplitTimes.mulH (a1 % 50 + 1)) ++ [hornbeamlaw16_SplitTimes.mulH (a1 % 50 + 1) h]).length := ⟨_, rfl⟩; rw [← hq8] at e8; clear hq8; subst e8; have MM := aaM (hornbeamlaw16_SplitTimes.Mem.snoc HK.out.1 HLT.out HH.out S1.out.r5 S1.out.r6 ho hb hg); have BK9 := aaM (blk_grown S1.out.b9 hg S1.out.ne); clear ho hb hg hat; refine hK.out _ _ hD (fun hHeld => ?_); clear hK K; refine nU 153 ?_
           refine pU 8 5 (qB 10 511) HT_ ?_
           refine pU 9 6 (qB 10 1023) HT_ ?_
           refine done_ (done_of HT_.out (by kernel_rfl)) ?_
           (try go_wp2)
           have hw1 : wrap64 (x + 1) = x + 1 := by have := H8.out; have := HK.out; have := HLT.out; unfold wrap64; omega
           refine ⟨⟨x + 1, by rw [hw1], ⟨by have := HK.out; omega, by have := HLT.out; omega⟩, ⟨hornbeamlaw16_SplitTimes.good_snoc HK.out.1 HLT.out HH.out HG.out QR.out HO3.out HO4.out⟩, ⟨MM.out⟩⟩, ?_⟩
           rw [hw1]
           have := HK.out
           have := HLT.out
           simp only [intOf]
           omega
         ·skip
          refine hornbeamlaw16_SplitTimes.lit_step (by exact rfl) (by exact rfl) #[.int .i64 h.f0, .int .i64 h.f1, .int .i64 h.f2, .slice B3 h.f3.length d3, .slice B4 h.f4.length d4] 25 (by first | (go_simp; done) | (go_simp; rfl)) ?_; intro gB w21 hB hb; have BB := aaM hB; replace S0 := aaM (S0.out.below hb); replace BK9 := bY hb BK9; clear hB hb; refine hK.out _ _ hD (fun hHeld => ?_); clear hK K; refine nU 152 ?_
          refine oU 2 (some 148) (qB 10 119) HT_ (fun K hK => ?_)
          refine hornbeamlaw16_SplitTimes.lit_step (by exact rfl) (by exact rfl) #[.int .i64 x] 3 (by first | (go_simp; done) | (go_simp; rfl)) ?_; intro gA w22 hA hb; have BA := aaM hA; replace S0 := aaM (S0.out.below hb); replace BK9 := bY hb BK9; replace BB := bY hb BB; clear hA hb; refine hK.out _ _ hD (fun hHeld => ?_); clear hK K; refine nU 148 ?_
          refine oU 3 (some 149) (qB 10 127) HT_ (fun K hK => ?_)
          refine Kd.R_append_rows_step (Kd.int .i64) (w0 := w) w.heap.size (by exact rfl) (.tmp 146) (.tmp 148) 36 3 (.int .i64 0) 8 rfl Try.underlying36 info3 rfl (by decide) (by omega) u5 (hornbeamlaw16_SplitTimes.idx x.toNat) [x] _ _ _ (fun _ => True) (fun _ => False) rfl rfl S0.out.mem.r5 (hornbeamlaw16_SplitTimes.rowOf x [.int .i64 x] (by exact Nat.succ_pos 0) BA.out) (fun _ _ hr_ => by rw [hr_.1, hr_.2]; exact rfl) (fun _ hk => hk.elim) (fun _ _ => trivial) S0.out.mem.bel (below_size S0.out.mem.bel) (by have := HX.out; simp [hornbeamlaw16_SplitTimes.idx]; omega) ?_; intro V5 w23 ho hb hg hat; obtain ⟨A7, c7, e7⟩ := Kd.R_slice ho; obtain ⟨q7, hq7⟩ : ∃ q, q = (hornbeamlaw16_SplitTimes.idx x.toNat ++ [x]).length := ⟨_, rfl⟩; rw [← hq7] at e7; clear hq7; subst e7; replace BB := aaM (blk_grown BB.out hg (Kd.R_ne S0.out.mem.r5 BB.out (by decide))); have S1 := aaM (S0.out.grow hb ho hg); have BK9 := aaM S1.out.b9; clear ho hb hg hat S0 BA; refine hK.out _ _ hD (fun hHeld => ?_); clear hK K; refine nU 149 ?_
          refine oU 7 (some 153) (qB 10 255) HT_ (fun K hK => ?_)
          refine Kd.R_append_rows_step k25 (w0 := w) w.heap.size (by exact rfl) (.tmp 150) (.tmp 152) 37 25 (.agg #[(.int .i64 0), (.int .i64 0), (.int .i64 0), (.slice none 0 0), (.slice none 0 0)]) 72 rfl Try.underlying37 info25 rfl (by decide) (by omega) u6 ((l0.take x.toNat).map (hornbeamlaw16_SplitTimes.mulH (a1 % 50 + 1))) [hornbeamlaw16_SplitTimes.mulH (a1 % 50 + 1) h] _ _ _ (fun _ => True) (fun k => some k ≠ u6.ownBlock) rfl rfl S1.out.r6 (hornbeamlaw16_SplitTimes.rowOf (hornbeamlaw16_SplitTimes.mulH (a1 % 50 + 1) h) [.int .i64 h.f0, .int .i64 h.f1, .int .i64 h.f2, .slice B3 h.f3.length d3, .slice B4 h.f4.length d4] (by exact Nat.succ_pos 4) BB.out) (fun _ _ hr_ => by rw [hr_.1, hr_.2]; exact S1.out.p6) (fun _ hk => ⟨trivial, hk⟩) (fun _ _ => trivial) S1.out.bel (below_size S1.out.bel) (by have := HX.out; simp; omega) ?_; intro V6 w29 ho hb hg hat; obtain ⟨A8, c8, e8⟩ := Kd.R_slice ho; obtain ⟨q8, hq8⟩ : ∃ q, q = ((l0.take x.toNat).map (hornbeamlaw16_SplitTimes.mulH (a1 % 50 + 1)) ++ [hornbeamlaw16_SplitTimes.mulH (a1 % 50 + 1) h]).length := ⟨_, rfl⟩; rw [← hq8] at e8; clear hq8; subst e8; have MM := aaM (hornbeamlaw16_SplitTimes.Mem.snoc HK.out.1 HLT.out HH.out S1.out.r5 S1.out.r6 ho hb hg); have BK9 := aaM (blk_grown S1.out.b9 hg S1.out.ne); clear ho hb hg hat; refine hK.out _ _ hD (fun hHeld => ?_); clear hK K; refine nU 153 ?_
          refine pU 8 5 (qB 10 511) HT_ ?_
          refine pU 9 6 (qB 10 1023) HT_ ?_
          refine done_ (done_of HT_.out (by kernel_rfl)) ?_
          (try go_wp2)
          have hw1 : wrap64 (x + 1) = x + 1 := by have := H8.out; have := HK.out; have := HLT.out; unfold wrap64; omega
          refine ⟨⟨x + 1, by rw [hw1], ⟨by have := HK.out; omega, by have := HLT.out; omega⟩, ⟨hornbeamlaw16_SplitTimes.good_snoc HK.out.1 HLT.out HH.out HG.out QR.out HO3.out HO4.out⟩, ⟨MM.out⟩⟩, ?_⟩
          rw [hw1]
          have := HK.out
          have := HLT.out
          simp only [intOf]
          omega
        have HYL := aaM hlt
        have hltc : decide (y < (h.f4.length : Int)) = true := decide_eq_true hlt
        have h0c : decide (0 ≤ y) = true := decide_eq_true HY.out.1
        obtain ⟨g4, cap4, e4, gb4, gl4, cells4, hb4⟩ := Kd.R_form M3.out.r4 (by rw [hornbeamlaw16_SplitTimes.mixM_len]; have := HY.out; omega)
        injection e4 with ea en ec
        subst ea
        subst ec
        clear en gl4 hb4 cells4
        have GB4 := aaM gb4
        clear gb4
        obtain ⟨z, hz⟩ : ∃ z, h.f4.getD y.toNat z54 = z := ⟨_, rfl⟩
        have HZ := aaM hz
        clear hz
        obtain ⟨hx0, hx1, hx2, hf0, hf1, hf2⟩ := hornbeamlaw16_SplitTimes.elem M3.out.r4 HY.out.1 HYL.out HZ.out
        obtain ⟨hb0, hb1, hb2, hb3, hb4, hb5, hb6, hb7, hb8, hb9⟩ := bE5 M3.out.b9
        have HBr := aaM M3.out.bel
        have p1 := eq_true HY.out.1
        have q1 := eq_true hlt
        clear hlt
        have HBw := aaM (Below.refl wr.heap.size wr)
        by_cases z0 : z.f0 < 0
        ·as_aux_lemma =>
         have z0b : decide (z.f0 < 0) = true := decide_eq_true z0
         go_wp2_with (first | ((with_reducible refine gate_dst (N := 13) rfl ?_); refine bxF wr HBw 13 #[.int .i64 0, .int .i64 0, .int .i64 0] 54 ?_; intro g13 hg w10 hb BK13 HBw GE13; clear hg hb; obtain ⟨hc0, hc1, hc2, hc3, hc4, hc5⟩ := bE3 BK13.out) | ((with_reducible refine gate_store (t := 54) (p := 13) rfl ?_); refine store_event (t := 54) (p := 13) (v := .tmp 79) (w1 := (((w10.setCell ⟨g13, 0, none⟩ (.int .i64 z.f0)).setCell ⟨g13, 1, none⟩ (.int .i64 z.f1)).setCell ⟨g13, 2, none⟩ (.int .i64 z.f2))) rfl rfl rfl ?hr ?_; (case hr => first | (go_simp; done) | (go_simp; rfl)); intro w11 hw; obtain ⟨n0, n1⟩ := hornbeamlaw16_SplitTimes.put3 (.int .i64 z.f0) (.int .i64 z.f1) (.int .i64 z.f2) BK13.out HBw.out GE13.out hw; replace BK13 := aaM n0; replace HBw := aaM n1; replace M3 := aaM (hornbeamlaw16_SplitTimes.In.below M3.out n1); replace HBr := aaM M3.out.bel; clear n0 n1 hw hc0 hc1 hc2 hc3 hc4 hc5 hx0 hx1 hx2 hf0 hf1 hf2 hb0 hb1 hb2 hb3 hb4 hb5 hb6 hb7 hb8 hb9; obtain ⟨hc0, hc1, hc2, hc3, hc4, hc5⟩ := bE3 BK13.out; obtain ⟨hx0, hx1, hx2, hf0, hf1, hf2⟩ := hornbeamlaw16_SplitTimes.elem M3.out.r4 HY.out.1 HYL.out HZ.out; obtain ⟨hb0, hb1, hb2, hb3, hb4, hb5, hb6, hb7, hb8, hb9⟩ := bE5 M3.out.b9) | ((with_reducible refine gate_callee (f := 9) rfl ?_); refine gL (some 118) Try.func9 #[] ?_; (with_reducible refine (hornbeamlaw16_fixed.calls k true _ HF.out).mono ?_); rintro e wf ⟨rfl, hb⟩; replace HBr := aaM (lP (lB HBr) hb); refine ⟨_, rfl, ?_⟩; clear hb))
         all_goals (go_ret; exact ⟨by first | trivial | exact eF, below_step M.out.bel HBr.out⟩)
        have z0b : decide (z.f0 < 0) = false := decide_eq_false z0
        by_cases z1 : z.f0 > 16384
        ·as_aux_lemma =>
         have z1b : decide (z.f0 > 16384) = true := decide_eq_true z1
         go_wp2_with (first | ((with_reducible refine gate_dst (N := 13) rfl ?_); refine bxF wr HBw 13 #[.int .i64 0, .int .i64 0, .int .i64 0] 54 ?_; intro g13 hg w10 hb BK13 HBw GE13; clear hg hb; obtain ⟨hc0, hc1, hc2, hc3, hc4, hc5⟩ := bE3 BK13.out) | ((with_reducible refine gate_store (t := 54) (p := 13) rfl ?_); refine store_event (t := 54) (p := 13) (v := .tmp 79) (w1 := (((w10.setCell ⟨g13, 0, none⟩ (.int .i64 z.f0)).setCell ⟨g13, 1, none⟩ (.int .i64 z.f1)).setCell ⟨g13, 2, none⟩ (.int .i64 z.f2))) rfl rfl rfl ?hr ?_; (case hr => first | (go_simp; done) | (go_simp; rfl)); intro w11 hw; obtain ⟨n0, n1⟩ := hornbeamlaw16_SplitTimes.put3 (.int .i64 z.f0) (.int .i64 z.f1) (.int .i64 z.f2) BK13.out HBw.out GE13.out hw; replace BK13 := aaM n0; replace HBw := aaM n1; replace M3 := aaM (hornbeamlaw16_SplitTimes.In.below M3.out n1); replace HBr := aaM M3.out.bel; clear n0 n1 hw hc0 hc1 hc2 hc3 hc4 hc5 hx0 hx1 hx2 hf0 hf1 hf2 hb0 hb1 hb2 hb3 hb4 hb5 hb6 hb7 hb8 hb9; obtain ⟨hc0, hc1, hc2, hc3, hc4, hc5⟩ := bE3 BK13.out; obtain ⟨hx0, hx1, hx2, hf0, hf1, hf2⟩ := hornbeamlaw16_SplitTimes.elem M3.out.r4 HY.out.1 HYL.out HZ.out; obtain ⟨hb0, hb1, hb2, hb3, hb4, hb5, hb6, hb7, hb8, hb9⟩ := bE5 M3.out.b9) | ((with_reducible refine gate_callee (f := 9) rfl ?_); refine gL (some 118) Try.func9 #[] ?_; (with_reducible refine (hornbeamlaw16_fixed.calls k true _ HF.out).mono ?_); rintro e wf ⟨rfl, hb⟩; replace HBr := aaM (lP (lB HBr) hb); refine ⟨_, rfl, ?_⟩; clear hb))
         all_goals (go_ret; exact ⟨by first | trivial | exact eF, below_step M.out.bel HBr.out⟩)
        have z1b : decide (z.f0 > 16384) = false := decide_eq_false z1
        by_cases z2 : z.f1 > z.f0 * 1048576
        ·as_aux_lemma =>
         have z2b : decide (z.f1 > z.f0 * 1048576) = true := decide_eq_true z2
         go_wp2_with (first | ((with_reducible refine gate_dst (N := 13) rfl ?_); refine bxF wr HBw 13 #[.int .i64 0, .int .i64 0, .int .i64 0] 54 ?_; intro g13 hg w10 hb BK13 HBw GE13; clear hg hb; obtain ⟨hc0, hc1, hc2, hc3, hc4, hc5⟩ := bE3 BK13.out) | ((with_reducible refine gate_store (t := 54) (p := 13) rfl ?_); refine store_event (t := 54) (p := 13) (v := .tmp 79) (w1 := (((w10.setCell ⟨g13, 0, none⟩ (.int .i64 z.f0)).setCell ⟨g13, 1, none⟩ (.int .i64 z.f1)).setCell ⟨g13, 2, none⟩ (.int .i64 z.f2))) rfl rfl rfl ?hr ?_; (case hr => first | (go_simp; done) | (go_simp; rfl)); intro w11 hw; obtain ⟨n0, n1⟩ := hornbeamlaw16_SplitTimes.put3 (.int .i64 z.f0) (.int .i64 z.f1) (.int .i64 z.f2) BK13.out HBw.out GE13.out hw; replace BK13 := aaM n0; replace HBw := aaM n1; replace M3 := aaM (hornbeamlaw16_SplitTimes.In.below M3.out n1); replace HBr := aaM M3.out.bel; clear n0 n1 hw hc0 hc1 hc2 hc3 hc4 hc5 hx0 hx1 hx2 hf0 hf1 hf2 hb0 hb1 hb2 hb3 hb4 hb5 hb6 hb7 hb8 hb9; obtain ⟨hc0, hc1, hc2, hc3, hc4, hc5⟩ := bE3 BK13.out; obtain ⟨hx0, hx1, hx2, hf0, hf1, hf2⟩ := hornbeamlaw16_SplitTimes.elem M3.out.r4 HY.out.1 HYL.out HZ.out; obtain ⟨hb0, hb1, hb2, hb3, hb4, hb5, hb6, hb7, hb8, hb9⟩ := bE5 M3.out.b9) | ((with_reducible refine gate_callee (f := 9) rfl ?_); refine gL (some 118) Try.func9 #[] ?_; (with_reducible refine (hornbeamlaw16_fixed.calls k true _ HF.out).mono ?_); rintro e wf ⟨rfl, hb⟩; replace HBr := aaM (lP (lB HBr) hb); refine ⟨_, rfl, ?_⟩; clear hb))
         all_goals (go_ret; exact ⟨by first | trivial | exact eF, below_step M.out.bel HBr.out⟩)
        have z2b : decide (z.f1 > z.f0 * 1048576) = false := decide_eq_false z2
        by_cases z3 : z.f1 < -z.f0 * 1048576
        ·as_aux_lemma =>
         have z3b : decide (z.f1 < -z.f0 * 1048576) = true := decide_eq_true z3
         go_wp2_with (first | ((with_reducible refine gate_dst (N := 13) rfl ?_); refine bxF wr HBw 13 #[.int .i64 0, .int .i64 0, .int .i64 0] 54 ?_; intro g13 hg w10 hb BK13 HBw GE13; clear hg hb; obtain ⟨hc0, hc1, hc2, hc3, hc4, hc5⟩ := bE3 BK13.out) | ((with_reducible refine gate_store (t := 54) (p := 13) rfl ?_); refine store_event (t := 54) (p := 13) (v := .tmp 79) (w1 := (((w10.setCell ⟨g13, 0, none⟩ (.int .i64 z.f0)).setCell ⟨g13, 1, none⟩ (.int .i64 z.f1)).setCell ⟨g13, 2, none⟩ (.int .i64 z.f2))) rfl rfl rfl ?hr ?_; (case hr => first | (go_simp; done) | (go_simp; rfl)); intro w11 hw; obtain ⟨n0, n1⟩ := hornbeamlaw16_SplitTimes.put3 (.int .i64 z.f0) (.int .i64 z.f1) (.int .i64 z.f2) BK13.out HBw.out GE13.out hw; replace BK13 := aaM n0; replace HBw := aaM n1; replace M3 := aaM (hornbeamlaw16_SplitTimes.In.below M3.out n1); replace HBr := aaM M3.out.bel; clear n0 n1 hw hc0 hc1 hc2 hc3 hc4 hc5 hx0 hx1 hx2 hf0 hf1 hf2 hb0 hb1 hb2 hb3 hb4 hb5 hb6 hb7 hb8 hb9; obtain ⟨hc0, hc1, hc2, hc3, hc4, hc5⟩ := bE3 BK13.out; obtain ⟨hx0, hx1, hx2, hf0, hf1, hf2⟩ := hornbeamlaw16_SplitTimes.elem M3.out.r4 HY.out.1 HYL.out HZ.out; obtain ⟨hb0, hb1, hb2, hb3, hb4, hb5, hb6, hb7, hb8, hb9⟩ := bE5 M3.out.b9) | ((with_reducible refine gate_callee (f := 9) rfl ?_); refine gL (some 118) Try.func9 #[] ?_; (with_reducible refine (hornbeamlaw16_fixed.calls k true _ HF.out).mono ?_); rintro e wf ⟨rfl, hb⟩; replace HBr := aaM (lP (lB HBr) hb); refine ⟨_, rfl, ?_⟩; clear hb))
         all_goals (go_ret; exact ⟨by first | trivial | exact eF, below_step M.out.bel HBr.out⟩)
        have z3b : decide (z.f1 < -z.f0 * 1048576) = false := decide_eq_false z3
        by_cases z4 : z.f2 < 0
        ·as_aux_lemma =>
         have z4b : decide (z.f2 < 0) = true := decide_eq_true z4
         go_wp2_with (first | ((with_reducible refine gate_dst (N := 13) rfl ?_); refine bxF wr HBw 13 #[.int .i64 0, .int .i64 0, .int .i64 0] 54 ?_; intro g13 hg w10 hb BK13 HBw GE13; clear hg hb; obtain ⟨hc0, hc1, hc2, hc3, hc4, hc5⟩ := bE3 BK13.out) | ((with_reducible refine gate_store (t := 54) (p := 13) rfl ?_); refine store_event (t := 54) (p := 13) (v := .tmp 79) (w1 := (((w10.setCell ⟨g13, 0, none⟩ (.int .i64 z.f0)).setCell ⟨g13, 1, none⟩ (.int .i64 z.f1)).setCell ⟨g13, 2, none⟩ (.int .i64 z.f2))) rfl rfl rfl ?hr ?_; (case hr => first | (go_simp; done) | (go_simp; rfl)); intro w11 hw; obtain ⟨n0, n1⟩ := hornbeamlaw16_SplitTimes.put3 (.int .i64 z.f0) (.int .i64 z.f1) (.int .i64 z.f2) BK13.out HBw.out GE13.out hw; replace BK13 := aaM n0; replace HBw := aaM n1; replace M3 := aaM (hornbeamlaw16_SplitTimes.In.below M3.out n1); replace HBr := aaM M3.out.bel; clear n0 n1 hw hc0 hc1 hc2 hc3 hc4 hc5 hx0 hx1 hx2 hf0 hf1 hf2 hb0 hb1 hb2 hb3 hb4 hb5 hb6 hb7 hb8 hb9; obtain ⟨hc0, hc1, hc2, hc3, hc4, hc5⟩ := bE3 BK13.out; obtain ⟨hx0, hx1, hx2, hf0, hf1, hf2⟩ := hornbeamlaw16_SplitTimes.elem M3.out.r4 HY.out.1 HYL.out HZ.out; obtain ⟨hb0, hb1, hb2, hb3, hb4, hb5, hb6, hb7, hb8, hb9⟩ := bE5 M3.out.b9) | ((with_reducible refine gate_callee (f := 9) rfl ?_); refine gL (some 118) Try.func9 #[] ?_; (with_reducible refine (hornbeamlaw16_fixed.calls k true _ HF.out).mono ?_); rintro e wf ⟨rfl, hb⟩; replace HBr := aaM (lP (lB HBr) hb); refine ⟨_, rfl, ?_⟩; clear hb))
         all_goals (go_ret; exact ⟨by first | trivial | exact eF, below_step M.out.bel HBr.out⟩)
        have z4b : decide (z.f2 < 0) = false := decide_eq_false z4
        by_cases z5 : z.f2 > z.f0 * 1099511627776
        ·as_aux_lemma =>
         have z5b : decide (z.f2 > z.f0 * 1099511627776) = true := decide_eq_true z5
         go_wp2_with (first | ((with_reducible refine gate_dst (N := 13) rfl ?_); refine bxF wr HBw 13 #[.int .i64 0, .int .i64 0, .int .i64 0] 54 ?_; intro g13 hg w10 hb BK13 HBw GE13; clear hg hb; obtain ⟨hc0, hc1, hc2, hc3, hc4, hc5⟩ := bE3 BK13.out) | ((with_reducible refine gate_store (t := 54) (p := 13) rfl ?_); refine store_event (t := 54) (p := 13) (v := .tmp 79) (w1 := (((w10.setCell ⟨g13, 0, none⟩ (.int .i64 z.f0)).setCell ⟨g13, 1, none⟩ (.int .i64 z.f1)).setCell ⟨g13, 2, none⟩ (.int .i64 z.f2))) rfl rfl rfl ?hr ?_; (case hr => first | (go_simp; done) | (go_simp; rfl)); intro w11 hw; obtain ⟨n0, n1⟩ := hornbeamlaw16_SplitTimes.put3 (.int .i64 z.f0) (.int .i64 z.f1) (.int .i64 z.f2) BK13.out HBw.out GE13.out hw; replace BK13 := aaM n0; replace HBw := aaM n1; replace M3 := aaM (hornbeamlaw16_SplitTimes.In.below M3.out n1); replace HBr := aaM M3.out.bel; clear n0 n1 hw hc0 hc1 hc2 hc3 hc4 hc5 hx0 hx1 hx2 hf0 hf1 hf2 hb0 hb1 hb2 hb3 hb4 hb5 hb6 hb7 hb8 hb9; obtain ⟨hc0, hc1, hc2, hc3, hc4, hc5⟩ := bE3 BK13.out; obtain ⟨hx0, hx1, hx2, hf0, hf1, hf2⟩ := hornbeamlaw16_SplitTimes.elem M3.out.r4 HY.out.1 HYL.out HZ.out; obtain ⟨hb0, hb1, hb2, hb3, hb4, hb5, hb6, hb7, hb8, hb9⟩ := bE5 M3.out.b9) | ((with_reducible refine gate_callee (f := 9) rfl ?_); refine gL (some 118) Try.func9 #[] ?_; (with_reducible refine (hornbeamlaw16_fixed.calls k true _ HF.out).mono ?_); rintro e wf ⟨rfl, hb⟩; replace HBr := aaM (lP (lB HBr) hb); refine ⟨_, rfl, ?_⟩; clear hb))
         all_goals (go_ret; exact ⟨by first | trivial | exact eF, below_step M.out.bel HBr.out⟩)
        have z5b : decide (z.f2 > z.f0 * 1099511627776) = false := decide_eq_false z5
        go_wp2_with (first | ((with_reducible refine gate_dst (N := 13) rfl ?_); refine bxF wr HBw 13 #[.int .i64 0, .int .i64 0, .int .i64 0] 54 ?_; intro g13 hg w10 hb BK13 HBw GE13; clear hg hb; obtain ⟨hc0, hc1, hc2, hc3, hc4, hc5⟩ := bE3 BK13.out) | ((with_reducible refine gate_store (t := 54) (p := 13) rfl ?_); refine store_event (t := 54) (p := 13) (v := .tmp 79) (w1 := (((w10.setCell ⟨g13, 0, none⟩ (.int .i64 z.f0)).setCell ⟨g13, 1, none⟩ (.int .i64 z.f1)).setCell ⟨g13, 2, none⟩ (.int .i64 z.f2))) rfl rfl rfl ?hr ?_; (case hr => first | (go_simp; done) | (go_simp; rfl)); intro w11 hw; obtain ⟨n0, n1⟩ := hornbeamlaw16_SplitTimes.put3 (.int .i64 z.f0) (.int .i64 z.f1) (.int .i64 z.f2) BK13.out HBw.out GE13.out hw; replace BK13 := aaM n0; replace HBw := aaM n1; replace M3 := aaM (hornbeamlaw16_SplitTimes.In.below M3.out n1); replace HBr := aaM M3.out.bel; clear n0 n1 hw hc0 hc1 hc2 hc3 hc4 hc5 hx0 hx1 hx2 hf0 hf1 hf2 hb0 hb1 hb2 hb3 hb4 hb5 hb6 hb7 hb8 hb9; obtain ⟨hc0, hc1, hc2, hc3, hc4, hc5⟩ := bE3 BK13.out; obtain ⟨hx0, hx1, hx2, hf0, hf1, hf2⟩ := hornbeamlaw16_SplitTimes.elem M3.out.r4 HY.out.1 HYL.out HZ.out; obtain ⟨hb0, hb1, hb2, hb3, hb4, hb5, hb6, hb7, hb8, hb9⟩ := bE5 M3.out.b9))
        have hw1 : wrap64 (y + 1) = y + 1 := by have := HS4.out; have := HY.out; have := HYL.out; unfold wrap64; omega
        refine ⟨⟨y + 1, by rw [hw1], ⟨by have := HY.out; omega, by have := HYL.out; omega⟩, ⟨hornbeamlaw16_SplitTimes.okm_snoc HY.out.1 HYL.out HZ.out HO.out ⟨z0, z1, z2, z3, z4, z5⟩⟩, ⟨by rw [hornbeamlaw16_SplitTimes.cc HA.out, ← hornbeamlaw16_SplitTimes.mixM_set HY.out.1 HYL.out, HZ.out]; exact hornbeamlaw16_SplitTimes.In.put4 M3.out HY.out.1 HYL.out _⟩⟩, ?_⟩
        rw [hw1]
        have := HY.out
        have := HYL.out
        simp only [intOf]
        omega
      have HYL := aaM hlt
      have hltc : decide (y < (h.f3.length : Int)) = true := decide_eq_true hlt
      have h0c : decide (0 ≤ y) = true := decide_eq_true HY.out.1
      obtain ⟨g3, cap3, e3, gb3, gl3, cells3, hb3⟩ := Kd.R_form M2.out.r3 (by rw [hornbeamlaw16_SplitTimes.mixC_len]; have := HY.out; omega)
      injection e3 with ea en ec
      subst ea
      subst ec
      clear en gl3 hb3 cells3
      have GB3 := aaM gb3
      clear gb3
      obtain ⟨hx0, hf0⟩ := Kd.R_celln 0 M2.out.r3 y HY.out.1 hlt
      obtain ⟨z, hz⟩ : ∃ z, h.f3.getD y.toNat 0 = z := ⟨_, rfl⟩
      unfold rdOf at hx0
      rw [hornbeamlaw16_SplitTimes.mixC_at HY.out.1 hlt, hz] at hx0
      have HZ := aaM hz
      clear hz
      obtain ⟨hb0, hb1, hb2, hb3, hb4, hb5, hb6, hb7, hb8, hb9⟩ := bE5 M2.out.b9
      have HBr := aaM M2.out.bel
      have p1 := eq_true HY.out.1
      have q1 := eq_true hlt
      clear hlt
      by_cases z0 : z < 0
      ·have z0b : decide (z < 0) = true := decide_eq_true z0
       go_wp2_with (first | ((with_reducible refine gate_callee (f := 9) rfl ?_); refine gL (some 60) Try.func9 #[] ?_; (with_reducible refine (hornbeamlaw16_fixed.calls k true _ HF.out).mono ?_); rintro e wf ⟨rfl, hb⟩; replace HBr := aaM (lP (lB HBr) hb); refine ⟨_, rfl, ?_⟩; clear hb))
       all_goals (go_ret; exact ⟨by first | trivial | exact eF, below_step M.out.bel HBr.out⟩)
      have z0b : decide (z < 0) = false := decide_eq_false z0
      by_cases z1 : z > 4096
      ·have z1b : decide (z > 4096) = true := decide_eq_true z1
       go_wp2_with (first | ((with_reducible refine gate_callee (f := 9) rfl ?_); refine gL (some 60) Try.func9 #[] ?_; (with_reducible refine (hornbeamlaw16_fixed.calls k true _ HF.out).mono ?_); rintro e wf ⟨rfl, hb⟩; replace HBr := aaM (lP (lB HBr) hb); refine ⟨_, rfl, ?_⟩; clear hb))
       all_goals (go_ret; exact ⟨by first | trivial | exact eF, below_step M.out.bel HBr.out⟩)
      have z1b : decide (z > 4096) = false := decide_eq_false z1
      go_wp2
      have hw1 : wrap64 (y + 1) = y + 1 := by have := HS3.out; have := HY.out; have := HYL.out; unfold wrap64; omega
      refine ⟨⟨y + 1, by rw [hw1], ⟨by have := HY.out; omega, by have := HYL.out; omega⟩, ⟨hornbeamlaw16_SplitTimes.ok_snoc HY.out.1 HYL.out HZ.out HO.out ⟨z0, z1⟩⟩, ⟨by rw [hornbeamlaw16_SplitTimes.cc HA.out, ← hornbeamlaw16_SplitTimes.mixC_set HY.out.1 HYL.out, HZ.out]; exact hornbeamlaw16_SplitTimes.In.put3 M2.out y _⟩⟩, ?_⟩
      rw [hw1]
      have := HY.out
      have := HYL.out
      simp only [intOf]
      omega

def hornbeamlaw16_SplitTimes.Pure : Prop := ∀ (l0 : List (S25)) (a1 : Int), (l0.length ≤ maxLen ∧ ∀ v0 ∈ l0, ((Lit.int .i64 v0.f0).wf = true ∧ ((Lit.int .i64 v0.f1).wf = true ∧ ((Lit.int .i64 v0.f2).wf = true ∧ ((v0.f3.length ≤ maxLen ∧ ∀ v1 ∈ v0.f3, (Lit.int .i64 v1).wf = true) ∧ (v0.f4.length ≤ maxLen ∧ ∀ v1 ∈ v0.f4, ((Lit.int .i64 v1.f0).wf = true ∧ ((Lit.int .i64 v1.f1).wf = true ∧ (Lit.int .i64 v1.f2).wf = true)))))))) → (Lit.int .u8 a1).wf = true → ∃ k, hornbeamlaw16_SplitTimes.f k l0 a1 = some true

end Go.Proofs.Ytancajnbjmcamaa.QSplitTimes
