/- For all lists of leaves the law VoteMeans answers true. No condition. -/
import Derived.Test.YtglicbpnmehloaaQVoteMeansx2
import Derived.Test.YtglicbpnmehloaaP64
namespace Go.Proofs.Ytglicbpnmehloaa.Pure
open Go.RowKit Go.Proofs.Ytglicbpnmehloaa.QVoteMeans Go.Proofs.YtglicbpnmehloaaW.PrintWords Go.Proofs.YtglicbpnmehloaaW.PrintLast
open Go.Proofs.Ytglicbpnmehloaa.P64
namespace VoteMeans0
theorem rd_at (l : List S31) (i : Nat) (h : i < l.length) : rd_T31 l (i : Int) = l[i] := by simp [rd_T31, List.getD, h]
theorem cn_rev (l : List S31) (c : Int) : vote_Class.cn l.reverse c = vote_Class.cn l c := by
  induction l with
  | nil => rfl
  | cons x l ih => rw [List.reverse_cons, vote_Class.cn_snoc, ih, vote_Class.cn]; omega
theorem ok_rev (l : List S31) (c : Int) : vote_Class.ok l.reverse c = vote_Class.ok l c := by
  unfold vote_Class.ok; rw [List.all_reverse]
theorem ok_snoc (l : List S31) (x : S31) (c : Int) : vote_Class.ok (l ++ [x]) c = (vote_Class.ok l c && (decide (0 ≤ x.f3) && decide (x.f3 < c))) := by
  unfold vote_Class.ok; rw [List.all_append, List.all_cons, List.all_nil, Bool.and_true]
theorem cn_out {l : List S31} {c : Int} (h : vote_Class.ok l c = true) {j : Int} (hj : c ≤ j ∨ j < 0) : vote_Class.cn l j = 0 := by
  induction l with
  | nil => rfl
  | cons x l ih =>
    unfold vote_Class.ok at h ih
    rw [List.all_cons, Bool.and_eq_true, Bool.and_eq_true, decide_eq_true_eq, decide_eq_true_eq] at h
    rw [vote_Class.cn, if_neg (by omega), ih h.2]
    rfl
theorem cn_some {l : List S31} {c : Int} (h : vote_Class.ok l c = true) (hl : 0 < l.length) : ∃ j, 0 ≤ j ∧ j < c ∧ 1 ≤ vote_Class.cn l j := by
  cases l with
  | nil => cases hl
  | cons x l =>
    unfold vote_Class.ok at h
    rw [List.all_cons, Bool.and_eq_true, Bool.and_eq_true, decide_eq_true_eq, decide_eq_true_eq] at h
    refine ⟨x.f3, h.1.1, h.1.2, ?_⟩
    have := (vote_Class.cn_bound l x.f3).1
    rw [vote_Class.cn, if_pos rfl]; omega
/-- The first greatest one of 256. -/
def Fst (F : Int → Int) (b : Int) : Prop := 0 ≤ b ∧ b < 256 ∧ (∀ j, 0 ≤ j → j < 256 → F j ≤ F b) ∧ ∀ j, 0 ≤ j → j < b → F j < F b
theorem Fst.uniq {F : Int → Int} {a b : Int} (ha : Fst F a) (hb : Fst F b) : a = b := by
  rcases Int.lt_trichotomy a b with h | h | h
  · have h1 := hb.2.2.2 a ha.1 h; have h2 := ha.2.2.1 b hb.1 hb.2.1; omega
  · exact h
  · have h1 := ha.2.2.2 b hb.1 h; have h2 := hb.2.2.1 a ha.1 ha.2.1; omega
theorem bst_fst (l : List S31) (n : Nat) (h : 1 ≤ n) : 0 ≤ vote_Class.bst l n ∧ vote_Class.bst l n < n ∧ (∀ j : Int, 0 ≤ j → j < n → vote_Class.cn l j ≤ vote_Class.cn l (vote_Class.bst l n)) ∧ ∀ j : Int, 0 ≤ j → j < vote_Class.bst l n → vote_Class.cn l j < vote_Class.cn l (vote_Class.bst l n) := by
  induction n with
  | zero => omega
  | succ n ih =>
    rw [vote_Class.bst]
    by_cases hn : n = 0
    · subst hn
      have e : vote_Class.bst l 0 = 0 := rfl
      rw [e, if_neg (by rw [show ((0 : Nat) : Int) = 0 from rfl]; omega)]
      refine ⟨by omega, by omega, fun j h0 h1 => ?_, fun j h0 h1 => by omega⟩
      have : j = 0 := by omega
      rw [this]; omega
    · obtain ⟨h1, h2, h3, h4⟩ := ih (by omega)
      by_cases hg : vote_Class.cn l (n : Int) > vote_Class.cn l (vote_Class.bst l n)
      · rw [if_pos hg]
        refine ⟨by omega, by omega, fun j h5 h6 => ?_, fun j h5 h6 => ?_⟩
        · by_cases e : j = (n : Int)
          · rw [e]; omega
          · have := h3 j h5 (by omega); omega
        · have := h3 j h5 h6; omega
      · rw [if_neg hg]
        refine ⟨h1, by omega, fun j h5 h6 => ?_, h4⟩
        by_cases e : j = (n : Int)
        · rw [e]; omega
        · exact h3 j h5 (by omega)
theorem bst_Fst (l : List S31) : Fst (vote_Class.cn l) (vote_Class.bst l 256) := by
  obtain ⟨h1, h2, h3, h4⟩ := bst_fst l 256 (by omega)
  exact ⟨h1, by omega, fun j h5 h6 => h3 j h5 (by omega), h4⟩
theorem bst_lt {l : List S31} {c : Int} (h : vote_Class.ok l c = true) (hl : 0 < l.length) (hc : c ≤ 256) : vote_Class.bst l 256 < c := by
  obtain ⟨h1, h2, h3, h4⟩ := bst_Fst l
  obtain ⟨j, j0, j1, j2⟩ := cn_some h hl
  have := h3 j j0 (by omega)
  apply Classical.byContradiction
  intro hn
  have := cn_out h (j := vote_Class.bst l 256) (.inl (by omega))
  omega
/-- The vote of classes: the class, and the error's number. -/
def classD (l : List S31) (c : Int) : Int × Int := if (l.length : Int) = 0 ∨ c < 1 ∨ c > 256 then (0, 1) else if vote_Class.ok l c = true then (vote_Class.bst l 256, 0) else (0, 5)
theorem class_f (l : List S31) (c : Int) (hl : l.length ≤ 100000) : vote_Class.f l c = some (classD l c) := by
  unfold vote_Class.f classD
  rw [if_pos (by omega)]
  split
  · rfl
  · split <;> rfl
def In (n : Int) : Prop := -9223372036854775808 ≤ n ∧ n ≤ 9223372036854775807
theorem plus_in {a b : Int} (ha : In a) (hb : In b) (h : In (a + b)) : prod_Plus.f a b = some (a + b, 0) := by
  unfold In at *
  unfold prod_Plus.f
  rw [wrap64_id h.1 h.2]
  split
  · rename_i h1
    rw [if_neg]
    rw [beq_iff_eq, decide_eq_decide] at h1
    rw [bne_iff_ne, ne_eq, decide_eq_decide]
    omega
  · rfl
theorem plus_out {a b : Int} (ha : In a) (hb : In b) (h : ¬ In (a + b)) : prod_Plus.f a b = some (0, 6) := by
  unfold In at *
  unfold prod_Plus.f
  rw [if_pos, if_pos]
  · rw [bne_iff_ne, ne_eq, decide_eq_decide]; unfold wrap64; omega
  · rw [beq_iff_eq, decide_eq_decide]; omega
theorem floor_f {a b : Int} (a0 : -9223372036854775808 ≤ a) (a1 : a ≤ 9223372036854775807) (hb : 1 ≤ b) : prod_Floor.f a b = some (a / b, 0) := by
  unfold prod_Floor.f
  rw [if_neg (by omega), if_neg (by omega)]
  exact floor_eq a0 a1 hb
def SS : List S31 → Int
  | [] => 0
  | x :: l => x.f4 + SS l
def CC : List S31 → Int
  | [] => 0
  | x :: l => x.f5 + CC l
/-- Leaves within the limits. -/
def Lim (l : List S31) : Prop := ∀ x ∈ l, 1 ≤ x.f5 ∧ x.f5 ≤ 1048576 ∧ x.f4 ≤ 1048576 * x.f5 ∧ -(1048576 * x.f5) ≤ x.f4
theorem Lim.tail {x : S31} {l : List S31} (h : Lim (x :: l)) : Lim l := fun y hy => h y (List.mem_cons_of_mem _ hy)
theorem Lim.head {x : S31} {l : List S31} (h : Lim (x :: l)) : 1 ≤ x.f5 ∧ x.f5 ≤ 1048576 ∧ x.f4 ≤ 1048576 * x.f5 ∧ -(1048576 * x.f5) ≤ x.f4 := h x List.mem_cons_self
theorem CC_bound {l : List S31} (h : Lim l) : (l.length : Int) ≤ CC l ∧ CC l ≤ 1048576 * (l.length : Int) ∧ SS l ≤ 1048576 * CC l ∧ -(1048576 * CC l) ≤ SS l := by
  induction l with
  | nil => simp [SS, CC]
  | cons x l ih => have := ih h.tail; have := h.head; rw [SS, CC, List.length_cons]; omega
theorem SS_append (a b : List S31) : SS (a ++ b) = SS a + SS b := by
  induction a with
  | nil => simp [SS]
  | cons x a ih => rw [List.cons_append, SS, ih, SS]; omega
theorem CC_append (a b : List S31) : CC (a ++ b) = CC a + CC b := by
  induction a with
  | nil => simp [CC]
  | cons x a ih => rw [List.cons_append, CC, ih, CC]; omega
theorem mean_l (l : List S31) (h : Lim l) (hl : l.length ≤ 1000) (d : Nat) : ∀ (k i : Nat) (s c : Int), i + d = l.length → d < k → 0 < l.length → (i : Int) ≤ c → c ≤ 1048576 * (i : Int) → s ≤ 1048576 * c → -(1048576 * c) ≤ s →
    vote_Mean.l0 k s c l (l.length : Int) (i : Int) = some ((s + SS (l.drop i)) / (c + CC (l.drop i)), 0) := by
  induction d with
  | zero =>
    intro k i s c hi hk h0 c0 c1 s1 s2
    obtain ⟨k, rfl⟩ : ∃ m, k = m + 1 := ⟨k - 1, by omega⟩
    rw [vote_Mean.l0, if_neg (by omega), List.drop_eq_nil_of_le (by omega), SS, CC, Int.add_zero, Int.add_zero, floor_f (by omega) (by omega) (by omega), Option.bind_some]
  | succ d ih =>
    intro k i s c hi hk h0 c0 c1 s1 s2
    obtain ⟨k, rfl⟩ : ∃ m, k = m + 1 := ⟨k - 1, by omega⟩
    have hlt : i < l.length := by omega
    have hx := h l[i] (List.getElem_mem hlt)
    rw [vote_Mean.l0, if_pos (by omega), if_pos (by omega), if_pos (by omega), rd_at l i hlt, if_neg (by omega), plus_in (by unfold In; omega) (by unfold In; omega) (by unfold In; omega), Option.bind_some, if_pos rfl, plus_in (by unfold In; omega) (by unfold In; omega) (by unfold In; omega), Option.bind_some, if_pos rfl,
      show wrap64 ((i : Int) + 1) = ((i + 1 : Nat) : Int) by unfold wrap64; omega, ih k (i + 1) (s + l[i].f4) (c + l[i].f5) (by omega) (by omega) h0 (by omega) (by omega) (by omega) (by omega), List.drop_eq_getElem_cons hlt, SS, CC, Int.add_assoc, Int.add_assoc]
theorem mean_in {l : List S31} (h : Lim l) (hl : l.length ≤ 1000) (h0 : 0 < l.length) (k : Nat) (hk : 1001 ≤ k) : vote_Mean.f k l = some (SS l / CC l, 0) := by
  unfold vote_Mean.f
  rw [if_neg (by omega)]
  have := mean_l l h hl l.length k 0 0 0 (by omega) (by omega) h0 (by omega) (by omega) (by omega) (by omega)
  rw [List.drop_zero, Int.zero_add, Int.zero_add] at this
  exact this
theorem fixed_f (k : Nat) (hk : 1001 ≤ k) : hornbeamlaw24_fixed.f k = some true := by
  have hF : Fst (vote_Class.cn [(⟨0, 0, 0, 2, 0, 0⟩ : S31), (⟨0, 0, 0, 1, 0, 0⟩ : S31), (⟨0, 0, 0, 1, 0, 0⟩ : S31), (⟨0, 0, 0, 2, 0, 0⟩ : S31)]) 1 := by
    refine ⟨by omega, by omega, fun j h0 h1 => ?_, fun j h0 h1 => ?_⟩
    · simp only [vote_Class.cn]
      (repeat' split) <;> first | omega | simp_all
    · simp only [vote_Class.cn]
      (repeat' split) <;> first | omega | simp_all
  have e := (bst_Fst _).uniq hF
  have hc : classD [(⟨0, 0, 0, 2, 0, 0⟩ : S31), (⟨0, 0, 0, 1, 0, 0⟩ : S31), (⟨0, 0, 0, 1, 0, 0⟩ : S31), (⟨0, 0, 0, 2, 0, 0⟩ : S31)] 3 = (1, 0) := by
    unfold classD
    rw [if_neg (by simp), if_pos (by decide), e]
  have hm : Lim [(⟨0, 0, 0, 0, 7, 2⟩ : S31), (⟨0, 0, 0, 0, (-8), 1⟩ : S31)] := by
    intro x hx
    rcases List.mem_cons.1 hx with rfl | hx
    · simp
    · rcases List.mem_cons.1 hx with rfl | hx
      · simp
      · cases hx
  unfold hornbeamlaw24_fixed.f
  rw [class_f _ _ (by simp), Option.bind_some, hc, mean_in hm (by simp) (by simp) k hk, Option.bind_some, if_pos rfl, if_pos rfl, if_pos rfl]
  rfl
theorem Lim.append {a b : List S31} (ha : Lim a) (hb : Lim b) : Lim (a ++ b) := by
  intro x hx
  rcases List.mem_append.1 hx with h | h
  · exact ha x h
  · exact hb x h
theorem one_bound {x : S31} (h : 1 ≤ x.f5 ∧ x.f5 ≤ 1048576 ∧ x.f4 ≤ 1048576 * x.f5 ∧ -(1048576 * x.f5) ≤ x.f4) :
    -1048576 ≤ x.f4 / x.f5 ∧ x.f4 / x.f5 ≤ 1048576 ∧ x.f4 / x.f5 * x.f5 ≤ x.f4 ∧ x.f4 < (x.f4 / x.f5 + 1) * x.f5 := by
  obtain ⟨h1, h2, h3, h4⟩ := h
  have e1 := Int.mul_ediv_add_emod x.f4 x.f5
  have e2 := Int.emod_nonneg x.f4 (b := x.f5) (by omega)
  have e3 := Int.emod_lt_of_pos x.f4 (b := x.f5) (by omega)
  have e4 : (x.f4 / x.f5 + 1) * x.f5 = x.f5 * (x.f4 / x.f5) + x.f5 := by rw [Int.add_mul, Int.mul_comm, Int.one_mul]
  have e5 : x.f4 / x.f5 * x.f5 = x.f5 * (x.f4 / x.f5) := Int.mul_comm _ _
  refine ⟨?_, ?_, by omega, by omega⟩
  · rw [Int.le_ediv_iff_mul_le (by omega)]; omega
  · have : x.f4 / x.f5 < 1048577 := by rw [Int.ediv_lt_iff_lt_mul (by omega)]; omega
    omega
/-- The means of all are between a low and a high one. -/
theorem between {l : List S31} {lo hi : Int} (h : ∀ x ∈ l, lo * x.f5 ≤ x.f4 ∧ x.f4 < (hi + 1) * x.f5) : lo * CC l ≤ SS l ∧ (l ≠ [] → SS l < (hi + 1) * CC l) ∧ SS l ≤ (hi + 1) * CC l := by
  induction l with
  | nil => simp [SS, CC]
  | cons x l ih =>
    have h1 := h x List.mem_cons_self
    have h2 := ih fun y hy => h y (List.mem_cons_of_mem _ hy)
    rw [SS, CC, Int.mul_add, Int.mul_add]
    exact ⟨by omega, fun _ => by omega, by omega⟩
theorem loop_l (l : List S31) (hl : l.length ≤ 300) (h0 : 0 < l.length) (d : Nat) : ∀ (k i : Nat) (lo hi : Int), i + d = l.length → 2 * d + 1010 < k → (lo ≤ 1048576 ∨ i = 0 ∧ lo ≤ 4611686018427387904) → -4611686018427387904 ≤ lo → (-1048576 ≤ hi ∨ i = 0 ∧ -4611686018427387904 ≤ hi) → hi ≤ 4611686018427387904 → (∀ x ∈ l.take i, lo * x.f5 ≤ x.f4 ∧ x.f4 < (hi + 1) * x.f5) → Lim (l.take i) →
    hornbeamlaw24_VoteMeans.l0 k l lo hi l (l.length : Int) (i : Int) = some true := by
  induction d with
  | zero =>
    intro k i lo hi hid hk _ _ _ _ hb hL
    obtain ⟨k, rfl⟩ : ∃ m, k = m + 1 := ⟨k - 1, by omega⟩
    rw [show i = l.length by omega, List.take_length] at hb hL
    have hc := CC_bound hL
    obtain ⟨b1, b2, b3⟩ := between hb
    have b4 := b2 (by intro e; rw [e] at h0; cases h0)
    have hll : SS (l ++ l) / CC (l ++ l) = SS l / CC l := by
      rw [SS_append, CC_append, show SS l + SS l = 2 * SS l by omega, show CC l + CC l = 2 * CC l by omega]
      exact Int.mul_ediv_mul_of_pos _ _ (by omega)
    have q1 : lo ≤ SS l / CC l := by rw [Int.le_ediv_iff_mul_le (by omega)]; exact b1
    have q2 : SS l / CC l ≤ hi := by
      have : SS l / CC l < hi + 1 := by rw [Int.ediv_lt_iff_lt_mul (by omega)]; exact b4
      omega
    rw [hornbeamlaw24_VoteMeans.l0, if_neg (by omega), mean_in hL (by omega) h0 k (by omega), Option.bind_some, Option.bind_some, List.nil_append, if_pos (by simp only [List.length_nil]; omega), Option.bind_some, if_pos (by omega),
      mean_in (hL.append hL) (by rw [List.length_append]; omega) (by rw [List.length_append]; omega) k (by omega), Option.bind_some, fixed_f k (by omega), Option.bind_some, if_pos rfl, if_pos rfl, if_pos rfl, hll, if_pos rfl, if_pos q1, decide_eq_true q2]
  | succ d ih =>
    intro k i lo hi hid hk l1 l2 g1 g2 hb hL
    obtain ⟨k, rfl⟩ : ∃ m, k = m + 1 := ⟨k - 1, by omega⟩
    obtain ⟨k, rfl⟩ : ∃ m, k = m + 1 := ⟨k - 1, by omega⟩
    have hlt : i < l.length := by omega
    have jt : ∀ x4 x5 a0 a1 a2 a3, hornbeamlaw24_VoteMeans.j2 (k + 1) l lo hi l (l.length : Int) (i : Int) true a0 a1 a2 a3 x4 x5 = some true := by
      intro x4 x5 a0 a1 a2 a3
      rw [hornbeamlaw24_VoteMeans.j2, if_pos rfl, fixed_f k (by omega), Option.bind_some]
    rw [hornbeamlaw24_VoteMeans.l0, if_pos (by omega), if_pos (by omega), if_pos (by omega), rd_at l i hlt]
    by_cases h1 : l[i].f5 < 1
    · rw [if_pos h1, jt]
    rw [if_neg h1]
    by_cases h2 : l[i].f5 > 1048576
    · rw [if_pos h2, jt]
    rw [if_neg h2, wrap64_id (n := 1048576 * l[i].f5) (by omega) (by omega), wrap64_id (n := -1048576 * l[i].f5) (by omega) (by omega)]
    by_cases h3 : l[i].f4 > 1048576 * l[i].f5
    · rw [if_pos h3, jt]
    rw [if_neg h3]
    by_cases h4 : l[i].f4 < -1048576 * l[i].f5
    · rw [decide_eq_true h4, jt]
    have hx : 1 ≤ l[i].f5 ∧ l[i].f5 ≤ 1048576 ∧ l[i].f4 ≤ 1048576 * l[i].f5 ∧ -(1048576 * l[i].f5) ≤ l[i].f4 := by omega
    obtain ⟨o1, o2, o3, o4⟩ := one_bound hx
    have hL1 : Lim [l[i]] := fun y hy => by rw [List.mem_singleton] at hy; rw [hy]; exact hx
    have hone := mean_in hL1 (by simp) (by simp) k (by omega)
    simp only [SS, CC, Int.add_zero] at hone
    have m1 : -1099513000000 ≤ l[i].f4 / l[i].f5 * l[i].f5 ∧ l[i].f4 / l[i].f5 * l[i].f5 ≤ 1099511627776 := by
      have e4 : (l[i].f4 / l[i].f5 + 1) * l[i].f5 = l[i].f4 / l[i].f5 * l[i].f5 + l[i].f5 := by rw [Int.add_mul, Int.one_mul]
      omega
    have m2 : (l[i].f4 / l[i].f5 + 1) * l[i].f5 = l[i].f4 / l[i].f5 * l[i].f5 + l[i].f5 := by rw [Int.add_mul, Int.one_mul]
    rw [decide_eq_false h4, hornbeamlaw24_VoteMeans.j2, if_neg (by decide), show (⟨l[i].f0, l[i].f1, l[i].f2, l[i].f3, l[i].f4, l[i].f5⟩ : S31) = l[i] from rfl, hone, Option.bind_some, if_pos rfl,
      wrap64_id (n := l[i].f4 / l[i].f5 * l[i].f5) (by omega) (by omega), if_neg (by omega), wrap64_id (n := l[i].f4 / l[i].f5 + 1) (by omega) (by omega), wrap64_id (n := (l[i].f4 / l[i].f5 + 1) * l[i].f5) (by omega) (by omega), if_neg (by omega), show wrap64 ((i : Int) + 1) = ((i + 1 : Nat) : Int) by unfold wrap64; omega]
    have hmn : mn lo (l[i].f4 / l[i].f5) ≤ lo ∧ mn lo (l[i].f4 / l[i].f5) ≤ l[i].f4 / l[i].f5 ∧ (mn lo (l[i].f4 / l[i].f5) = lo ∨ mn lo (l[i].f4 / l[i].f5) = l[i].f4 / l[i].f5) := by unfold mn; split <;> omega
    have hmx : hi ≤ mx hi (l[i].f4 / l[i].f5) ∧ l[i].f4 / l[i].f5 ≤ mx hi (l[i].f4 / l[i].f5) ∧ (mx hi (l[i].f4 / l[i].f5) = hi ∨ mx hi (l[i].f4 / l[i].f5) = l[i].f4 / l[i].f5) := by unfold mx; split <;> omega
    have wider : ∀ x : S31, 1 ≤ x.f5 → ∀ lo1 hi1 lo2 hi2 : Int, lo2 ≤ lo1 → hi1 ≤ hi2 → (lo1 * x.f5 ≤ x.f4 ∧ x.f4 < (hi1 + 1) * x.f5) → lo2 * x.f5 ≤ x.f4 ∧ x.f4 < (hi2 + 1) * x.f5 := by
      intro x hx1 lo1 hi1 lo2 hi2 c1 c2 c3
      have d1 := Int.mul_le_mul_of_nonneg_right (a := lo2) (b := lo1) (c := x.f5) c1 (by omega)
      have d2 := Int.mul_le_mul_of_nonneg_right (a := hi1 + 1) (b := hi2 + 1) (c := x.f5) (by omega) (by omega)
      omega
    refine ih k (i + 1) (mn lo (l[i].f4 / l[i].f5)) (mx hi (l[i].f4 / l[i].f5)) (by omega) (by omega) (by omega) (by omega) (by omega) (by omega) ?_ ?_
    · intro x hx2
      rw [List.take_succ_eq_append_getElem hlt] at hx2
      rcases List.mem_append.1 hx2 with hx2 | hx2
      · exact wider x (hL x hx2).1 _ _ _ _ hmn.1 hmx.1 (hb x hx2)
      · rw [List.mem_singleton] at hx2
        subst hx2
        exact wider l[i] hx.1 _ _ _ _ hmn.2.1 hmx.2.1 ⟨o3, o4⟩
    · rw [List.take_succ_eq_append_getElem hlt]
      exact hL.append hL1
theorem law_f (k : Nat) (hk : 2000 ≤ k) (l : List S31) : hornbeamlaw24_VoteMeans.f k l = some true := by
  obtain ⟨k, rfl⟩ : ∃ m, k = m + 1 := ⟨k - 1, by omega⟩
  have jt : hornbeamlaw24_VoteMeans.j0 (k + 1) l true = some true := by rw [hornbeamlaw24_VoteMeans.j0, if_pos rfl, fixed_f k (by omega), Option.bind_some]
  unfold hornbeamlaw24_VoteMeans.f
  by_cases hl : (l.length : Int) > 300
  · rw [if_pos hl, jt]
  rw [if_neg hl]
  by_cases h0 : (l.length : Int) = 0
  · rw [show ((l.length : Int) == 0) = true from beq_iff_eq.2 h0, jt]
  · rw [show ((l.length : Int) == 0) = false from beq_eq_false_iff_ne.2 h0, hornbeamlaw24_VoteMeans.j0, if_neg (by decide)]
    exact loop_l l (by omega) (by omega) l.length k 0 _ _ (by omega) (by omega) (.inr ⟨rfl, by omega⟩) (by omega) (.inr ⟨rfl, by omega⟩) (by omega) (fun x hx => by cases hx) (fun x hx => by cases hx)
end VoteMeans0
open VoteMeans0
theorem VoteMeans : hornbeamlaw24_VoteMeans.Pure := by
  intro l _
  exact ⟨2000, law_f 2000 (Nat.le_refl _) l⟩

end Go.Proofs.Ytglicbpnmehloaa.Pure
