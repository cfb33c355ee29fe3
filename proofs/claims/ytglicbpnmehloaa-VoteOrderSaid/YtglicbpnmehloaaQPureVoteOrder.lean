/- For all lists of leaves and numbers of classes the law VoteOrder answers true. No condition. -/
import Derived.Test.YtglicbpnmehloaaQVoteOrderx2
import Derived.Test.YtglicbpnmehloaaP64
namespace Go.Proofs.Ytglicbpnmehloaa.Pure
open Go.RowKit Go.Proofs.Ytglicbpnmehloaa.QVoteOrder Go.Proofs.YtglicbpnmehloaaW.PrintWords Go.Proofs.YtglicbpnmehloaaW.PrintLast
open Go.Proofs.Ytglicbpnmehloaa.P64
namespace VoteOrder0
theorem rd_at (l : List S31) (i : Nat) (h : i < l.length) : rd_T31 l (i : Int) = l[i] := by simp [rd_T31, List.getD, h]
theorem cn_rev (l : List S31) (c : Int) : vote_Class.cn l.reverse c = vote_Class.cn l c := by
  induction l with
  | nil => rfl
  | cons x l ih => rw [List.reverse_cons, vote_Class.cn_snoc, ih, vote_Class.cn]; omega
theorem ok_rev (l : List S31) (c : Int) : vote_Class.ok l.reverse c = vote_Class.ok l c := by
  unfold vote_Class.ok; rw [List.all_reverse]
theorem ok_snoc (l : List S31) (x : S31) (c : Int) : vote_Class.ok (l ++ [x]) c = (vote_Class.ok l c && (decide (0 ≤ x.f3) && decide (x.f3 < c))) := by
  unfold vote_Class.ok; rw [List.all_append, List.all_cons, List.all_nil, Bool.and_true]
theorem cn_out {l : List S31} {c : Int} (h : vote_Class.ok l c = true) {j : Int} (hj : c ≤ j ∨ j < 0) : vote_Class.cn l j = 0 := by
  induction l with
  | nil => rfl
  | cons x l ih =>
    unfold vote_Class.ok at h ih
    rw [List.all_cons, Bool.and_eq_true, Bool.and_eq_true, decide_eq_true_eq, decide_eq_true_eq] at h
    rw [vote_Class.cn, if_neg (by omega), ih h.2]
    rfl
theorem cn_some {l : List S31} {c : Int} (h : vote_Class.ok l c = true) (hl : 0 < l.length) : ∃ j, 0 ≤ j ∧ j < c ∧ 1 ≤ vote_Class.cn l j := by
  cases l with
  | nil => cases hl
  | cons x l =>
    unfold vote_Class.ok at h
    rw [List.all_cons, Bool.and_eq_true, Bool.and_eq_true, decide_eq_true_eq, decide_eq_true_eq] at h
    refine ⟨x.f3, h.1.1, h.1.2, ?_⟩
    have := (vote_Class.cn_bound l x.f3).1
    rw [vote_Class.cn, if_pos rfl]; omega
/-- The first greatest one of 256. -/
def Fst (F : Int → Int) (b : Int) : Prop := 0 ≤ b ∧ b < 256 ∧ (∀ j, 0 ≤ j → j < 256 → F j ≤ F b) ∧ ∀ j, 0 ≤ j → j < b → F j < F b
theorem Fst.uniq {F : Int → Int} {a b : Int} (ha : Fst F a) (hb : Fst F b) : a = b := by
  rcases Int.lt_trichotomy a b with h | h | h
  · have h1 := hb.2.2.2 a ha.1 h; have h2 := ha.2.2.1 b hb.1 hb.2.1; omega
  · exact h
  · have h1 := ha.2.2.2 b hb.1 h; have h2 := hb.2.2.1 a ha.1 ha.2.1; omega
theorem bst_fst (l : List S31) (n : Nat) (h : 1 ≤ n) : 0 ≤ vote_Class.bst l n ∧ vote_Class.bst l n < n ∧ (∀ j : Int, 0 ≤ j → j < n → vote_Class.cn l j ≤ vote_Class.cn l (vote_Class.bst l n)) ∧ ∀ j : Int, 0 ≤ j → j < vote_Class.bst l n → vote_Class.cn l j < vote_Class.cn l (vote_Class.bst l n) := by
  induction n with
  | zero => omega
  | succ n ih =>
    rw [vote_Class.bst]
    by_cases hn : n = 0
    · subst hn
      have e : vote_Class.bst l 0 = 0 := rfl
      rw [e, if_neg (by rw [show ((0 : Nat) : Int) = 0 from rfl]; omega)]
      refine ⟨by omega, by omega, fun j h0 h1 => ?_, fun j h0 h1 => by omega⟩
      have : j = 0 := by omega
      rw [this]; omega
    · obtain ⟨h1, h2, h3, h4⟩ := ih (by omega)
      by_cases hg : vote_Class.cn l (n : Int) > vote_Class.cn l (vote_Class.bst l n)
      · rw [if_pos hg]
        refine ⟨by omega, by omega, fun j h5 h6 => ?_, fun j h5 h6 => ?_⟩
        · by_cases e : j = (n : Int)
          · rw [e]; omega
          · have := h3 j h5 (by omega); omega
        · have := h3 j h5 h6; omega
      · rw [if_neg hg]
        refine ⟨h1, by omega, fun j h5 h6 => ?_, h4⟩
        by_cases e : j = (n : Int)
        · rw [e]; omega
        · exact h3 j h5 (by omega)
theorem bst_Fst (l : List S31) : Fst (vote_Class.cn l) (vote_Class.bst l 256) := by
  obtain ⟨h1, h2, h3, h4⟩ := bst_fst l 256 (by omega)
  exact ⟨h1, by omega, fun j h5 h6 => h3 j h5 (by omega), h4⟩
theorem bst_lt {l : List S31} {c : Int} (h : vote_Class.ok l c = true) (hl : 0 < l.length) (hc : c ≤ 256) : vote_Class.bst l 256 < c := by
  obtain ⟨h1, h2, h3, h4⟩ := bst_Fst l
  obtain ⟨j, j0, j1, j2⟩ := cn_some h hl
  have := h3 j j0 (by omega)
  apply Classical.byContradiction
  intro hn
  have := cn_out h (j := vote_Class.bst l 256) (.inl (by omega))
  omega
/-- The vote of classes: the class, and the error's number. -/
def classD (l : List S31) (c : Int) : Int × Int := if (l.length : Int) = 0 ∨ c < 1 ∨ c > 256 then (0, 1) else if vote_Class.ok l c = true then (vote_Class.bst l 256, 0) else (0, 5)
theorem class_f (l : List S31) (c : Int) (hl : l.length ≤ 100000) : vote_Class.f l c = some (classD l c) := by
  unfold vote_Class.f classD
  rw [if_pos (by omega)]
  split
  · rfl
  · split <;> rfl
def In (n : Int) : Prop := -9223372036854775808 ≤ n ∧ n ≤ 9223372036854775807
theorem plus_in {a b : Int} (ha : In a) (hb : In b) (h : In (a + b)) : prod_Plus.f a b = some (a + b, 0) := by
  unfold In at *
  unfold prod_Plus.f
  rw [wrap64_id h.1 h.2]
  split
  · rename_i h1
    rw [if_neg]
    rw [beq_iff_eq, decide_eq_decide] at h1
    rw [bne_iff_ne, ne_eq, decide_eq_decide]
    omega
  · rfl
theorem plus_out {a b : Int} (ha : In a) (hb : In b) (h : ¬ In (a + b)) : prod_Plus.f a b = some (0, 6) := by
  unfold In at *
  unfold prod_Plus.f
  rw [if_pos, if_pos]
  · rw [bne_iff_ne, ne_eq, decide_eq_decide]; unfold wrap64; omega
  · rw [beq_iff_eq, decide_eq_decide]; omega
theorem floor_f {a b : Int} (a0 : -9223372036854775808 ≤ a) (a1 : a ≤ 9223372036854775807) (hb : 1 ≤ b) : prod_Floor.f a b = some (a / b, 0) := by
  unfold prod_Floor.f
  rw [if_neg (by omega), if_neg (by omega)]
  exact floor_eq a0 a1 hb
def SS : List S31 → Int
  | [] => 0
  | x :: l => x.f4 + SS l
def CC : List S31 → Int
  | [] => 0
  | x :: l => x.f5 + CC l
/-- Leaves within the limits. -/
def Lim (l : List S31) : Prop := ∀ x ∈ l, 1 ≤ x.f5 ∧ x.f5 ≤ 1048576 ∧ x.f4 ≤ 1048576 * x.f5 ∧ -(1048576 * x.f5) ≤ x.f4
theorem Lim.tail {x : S31} {l : List S31} (h : Lim (x :: l)) : Lim l := fun y hy => h y (List.mem_cons_of_mem _ hy)
theorem Lim.head {x : S31} {l : List S31} (h : Lim (x :: l)) : 1 ≤ x.f5 ∧ x.f5 ≤ 1048576 ∧ x.f4 ≤ 1048576 * x.f5 ∧ -(1048576 * x.f5) ≤ x.f4 := h x List.mem_cons_self
theorem CC_bound {l : List S31} (h : Lim l) : (l.length : Int) ≤ CC l ∧ CC l ≤ 1048576 * (l.length : Int) ∧ SS l ≤ 1048576 * CC l ∧ -(1048576 * CC l) ≤ SS l := by
  induction l with
  | nil => simp [SS, CC]
  | cons x l ih => have := ih h.tail; have := h.head; rw [SS, CC, List.length_cons]; omega
theorem SS_append (a b : List S31) : SS (a ++ b) = SS a + SS b := by
  induction a with
  | nil => simp [SS]
  | cons x a ih => rw [List.cons_append, SS, ih, SS]; omega
theorem CC_append (a b : List S31) : CC (a ++ b) = CC a + CC b := by
  induction a with
  | nil => simp [CC]
  | cons x a ih => rw [List.cons_append, CC, ih, CC]; omega
theorem mean_l (l : List S31) (h : Lim l) (hl : l.length ≤ 1000) (d : Nat) : ∀ (k i : Nat) (s c : Int), i + d = l.length → d < k → 0 < l.length → (i : Int) ≤ c → c ≤ 1048576 * (i : Int) → s ≤ 1048576 * c → -(1048576 * c) ≤ s →
    vote_Mean.l0 k s c l (l.length : Int) (i : Int) = some ((s + SS (l.drop i)) / (c + CC (l.drop i)), 0) := by
  induction d with
  | zero =>
    intro k i s c hi hk h0 c0 c1 s1 s2
    obtain ⟨k, rfl⟩ : ∃ m, k = m + 1 := ⟨k - 1, by omega⟩
    rw [vote_Mean.l0, if_neg (by omega), List.drop_eq_nil_of_le (by omega), SS, CC, Int.add_zero, Int.add_zero, floor_f (by omega) (by omega) (by omega), Option.bind_some]
  | succ d ih =>
    intro k i s c hi hk h0 c0 c1 s1 s2
    obtain ⟨k, rfl⟩ : ∃ m, k = m + 1 := ⟨k - 1, by omega⟩
    have hlt : i < l.length := by omega
    have hx := h l[i] (List.getElem_mem hlt)
    rw [vote_Mean.l0, if_pos (by omega), if_pos (by omega), if_pos (by omega), rd_at l i hlt, if_neg (by omega), plus_in (by unfold In; omega) (by unfold In; omega) (by unfold In; omega), Option.bind_some, if_pos rfl, plus_in (by unfold In; omega) (by unfold In; omega) (by unfold In; omega), Option.bind_some, if_pos rfl,
      show wrap64 ((i : Int) + 1) = ((i + 1 : Nat) : Int) by unfold wrap64; omega, ih k (i + 1) (s + l[i].f4) (c + l[i].f5) (by omega) (by omega) h0 (by omega) (by omega) (by omega) (by omega), List.drop_eq_getElem_cons hlt, SS, CC, Int.add_assoc, Int.add_assoc]
theorem mean_in {l : List S31} (h : Lim l) (hl : l.length ≤ 1000) (h0 : 0 < l.length) (k : Nat) (hk : 1001 ≤ k) : vote_Mean.f k l = some (SS l / CC l, 0) := by
  unfold vote_Mean.f
  rw [if_neg (by omega)]
  have := mean_l l h hl l.length k 0 0 0 (by omega) (by omega) h0 (by omega) (by omega) (by omega) (by omega)
  rw [List.drop_zero, Int.zero_add, Int.zero_add] at this
  exact this
theorem fixed_f (k : Nat) (hk : 1001 ≤ k) : hornbeamlaw24_fixed.f k = some true := by
  have hF : Fst (vote_Class.cn [(⟨0, 0, 0, 2, 0, 0⟩ : S31), (⟨0, 0, 0, 1, 0, 0⟩ : S31), (⟨0, 0, 0, 1, 0, 0⟩ : S31), (⟨0, 0, 0, 2, 0, 0⟩ : S31)]) 1 := by
    refine ⟨by omega, by omega, fun j h0 h1 => ?_, fun j h0 h1 => ?_⟩
    · simp only [vote_Class.cn]
      (repeat' split) <;> first | omega | simp_all
    · simp only [vote_Class.cn]
      (repeat' split) <;> first | omega | simp_all
  have e := (bst_Fst _).uniq hF
  have hc : classD [(⟨0, 0, 0, 2, 0, 0⟩ : S31), (⟨0, 0, 0, 1, 0, 0⟩ : S31), (⟨0, 0, 0, 1, 0, 0⟩ : S31), (⟨0, 0, 0, 2, 0, 0⟩ : S31)] 3 = (1, 0) := by
    unfold classD
    rw [if_neg (by simp), if_pos (by decide), e]
  have hm : Lim [(⟨0, 0, 0, 0, 7, 2⟩ : S31), (⟨0, 0, 0, 0, (-8), 1⟩ : S31)] := by
    intro x hx
    rcases List.mem_cons.1 hx with rfl | hx
    · simp
    · rcases List.mem_cons.1 hx with rfl | hx
      · simp
      · cases hx
  unfold hornbeamlaw24_fixed.f
  rw [class_f _ _ (by simp), Option.bind_some, hc, mean_in hm (by simp) (by simp) k hk, Option.bind_some, if_pos rfl, if_pos rfl, if_pos rfl]
  rfl
theorem turn_l (l : List S31) (hl : l.length ≤ 300) (a v e : Int) (n : Nat) : ∀ (k : Nat) (acc : List S31), n ≤ l.length → acc.length + n ≤ 300 →
    hornbeamlaw24_VoteOrder.l0 (k + 1 + n) l a v e acc ((n : Int) - 1) = hornbeamlaw24_VoteOrder.l0 (k + 1) l a v e (acc ++ (l.take n).reverse) (-1) := by
  induction n with
  | zero => intro k acc _ _; rw [List.take_zero, List.reverse_nil, List.append_nil]; rfl
  | succ n ih =>
    intro k acc hn ha
    have hlt : n < l.length := by omega
    rw [show k + 1 + (n + 1) = k + 1 + n + 1 by omega, show ((n + 1 : Nat) : Int) - 1 = (n : Int) by omega, hornbeamlaw24_VoteOrder.l0, if_pos (by omega), if_pos (by omega), if_pos (by omega), if_pos (by omega), rd_at l n hlt, show wrap64 ((n : Int) - 1) = (n : Int) - 1 by unfold wrap64; omega,
      ih k (acc ++ [l[n]]) (by omega) (by rw [List.length_append, List.length_singleton]; omega), List.take_succ_eq_append_getElem hlt, List.reverse_append, List.append_assoc]
    rfl
theorem won_l (l : List S31) (hl : l.length ≤ 300) (a v m e : Int) (c : Int) (d : Nat) : ∀ (k i : Nat) (n : Int), i + d = l.length → 0 ≤ n → n ≤ i →
    hornbeamlaw24_VoteOrder.l1 (k + 1 + d) l a v m e n c l (l.length : Int) (i : Int) = hornbeamlaw24_VoteOrder.l1 (k + 1) l a v m e (n + vote_Class.cn (l.drop i) c) c l (l.length : Int) (l.length : Int) := by
  induction d with
  | zero =>
    intro k i n hi n0 n1
    rw [show i = l.length by omega, List.drop_length, vote_Class.cn, Int.add_zero]
  | succ d ih =>
    intro k i n hi n0 n1
    have hlt : i < l.length := by omega
    rw [show k + 1 + (d + 1) = k + 1 + d + 1 by omega, hornbeamlaw24_VoteOrder.l1, if_pos (by omega), if_pos (by omega), if_pos (by omega), rd_at l i hlt, show wrap64 ((i : Int) + 1) = ((i + 1 : Nat) : Int) by unfold wrap64; omega, List.drop_eq_getElem_cons hlt, vote_Class.cn]
    by_cases h : l[i].f3 = c
    · rw [if_pos h, if_pos h, show wrap64 (n + 1) = n + 1 by unfold wrap64; omega, ih k (i + 1) (n + 1) (by omega) (by omega) (by omega), Int.add_assoc]
    · rw [if_neg h, if_neg h, ih k (i + 1) n (by omega) (by omega) (by omega), Int.zero_add]
theorem each_l (l : List S31) (hl : l.length ≤ 300) (v m e won b : Int) (c z z2 : Int) (d : Nat) : ∀ (k i : Nat) (n : Int), i + d = l.length → 0 ≤ n → n ≤ i →
    hornbeamlaw24_VoteOrder.l3 (k + 1 + d) l v m e won b c n z z2 l (l.length : Int) (i : Int) = hornbeamlaw24_VoteOrder.l3 (k + 1) l v m e won b c (n + vote_Class.cn (l.drop i) c) z z2 l (l.length : Int) (l.length : Int) := by
  induction d with
  | zero =>
    intro k i n hi n0 n1
    rw [show i = l.length by omega, List.drop_length, vote_Class.cn, Int.add_zero]
  | succ d ih =>
    intro k i n hi n0 n1
    have hlt : i < l.length := by omega
    rw [show k + 1 + (d + 1) = k + 1 + d + 1 by omega, hornbeamlaw24_VoteOrder.l3, if_pos (by omega), if_pos (by omega), if_pos (by omega), rd_at l i hlt, show wrap64 ((i : Int) + 1) = ((i + 1 : Nat) : Int) by unfold wrap64; omega, List.drop_eq_getElem_cons hlt, vote_Class.cn]
    by_cases h : l[i].f3 = c
    · rw [if_pos h, if_pos h, show wrap64 (n + 1) = n + 1 by unfold wrap64; omega, ih k (i + 1) (n + 1) (by omega) (by omega) (by omega), Int.add_assoc]
    · rw [if_neg h, if_neg h, ih k (i + 1) n (by omega) (by omega) (by omega), Int.zero_add]
theorem all_l (l : List S31) (hl : l.length ≤ 300) (v : Int) (z : Nat) (hz : z ≤ 256) (hF : Fst (vote_Class.cn l) v) (d : Nat) : ∀ (k c : Nat), c + d = z → 1001 ≤ k →
    hornbeamlaw24_VoteOrder.l2 (k + (d * (l.length + 3) + 1)) l v v 0 (vote_Class.cn l v) v (z : Int) (c : Int) = some true := by
  induction d with
  | zero =>
    intro k c hc hk
    rw [Nat.zero_mul, Nat.zero_add, hornbeamlaw24_VoteOrder.l2, if_neg (by omega), fixed_f k hk, Option.bind_some, if_pos rfl, if_pos rfl, beq_self_eq_true]
  | succ d ih =>
    intro k c hc hk
    have e1 := each_l l hl v v 0 (vote_Class.cn l v) v (c : Int) (z : Int) (c : Int) l.length (k + (d * (l.length + 3) + 1)) 0 0 (by omega) (by omega) (by omega)
    have e2 : k + ((d + 1) * (l.length + 3) + 1) = k + (d * (l.length + 3) + 1) + 1 + l.length + 1 + 1 := by rw [Nat.add_mul]; omega
    rw [List.drop_zero, Int.zero_add] at e1
    rw [e2, hornbeamlaw24_VoteOrder.l2, if_pos (by omega)]
    have e3 : k + (d * (l.length + 3) + 1) + 1 + l.length + 1 = k + (d * (l.length + 3) + 1) + 1 + 1 + l.length := by omega
    have e4 := each_l l hl v v 0 (vote_Class.cn l v) v (c : Int) (z : Int) (c : Int) l.length (k + (d * (l.length + 3) + 1) + 1) 0 0 (by omega) (by omega) (by omega)
    rw [List.drop_zero, Int.zero_add] at e4
    rw [e3]
    refine Eq.trans e4 ?_
    have h1 := hF.2.2.1 (c : Int) (by omega) (by omega)
    rw [hornbeamlaw24_VoteOrder.l3, if_neg (by omega), if_neg (by omega), show wrap64 ((c : Int) + 1) = ((c + 1 : Nat) : Int) by unfold wrap64; omega]
    have e5 : hornbeamlaw24_VoteOrder.l2 (k + (d * (l.length + 3) + 1) + 1) l v v 0 (vote_Class.cn l v) v (z : Int) ((c + 1 : Nat) : Int) = some true := by
      have := ih (k + 1) (c + 1) (by omega) (by omega)
      rw [show k + 1 + (d * (l.length + 3) + 1) = k + (d * (l.length + 3) + 1) + 1 by omega] at this
      exact this
    by_cases h2 : vote_Class.cn l (c : Int) = vote_Class.cn l v
    · rw [if_pos h2, if_neg (fun h3 => by have := hF.2.2.2 (c : Int) (by omega) h3; omega)]
      exact e5
    · rw [if_neg h2]
      exact e5
theorem law_f (k : Nat) (hk : 100000 ≤ k) (l : List S31) (a : Int) : hornbeamlaw24_VoteOrder.f k l a = some true := by
  unfold hornbeamlaw24_VoteOrder.f
  by_cases hl : (l.length : Int) > 300
  · rw [if_pos hl, fixed_f k (by omega), Option.bind_some]
  rw [if_neg hl, class_f l a (by omega), Option.bind_some]
  have h0 := turn_l l (by omega) a (classD l a).1 (classD l a).2 l.length (k - l.length - 1) [] (Nat.le_refl _) (by simp; omega)
  rw [show k - l.length - 1 + 1 + l.length = k by omega, List.take_length, List.nil_append] at h0
  rw [show wrap64 ((l.length : Int) - 1) = (l.length : Int) - 1 by unfold wrap64; omega]
  refine Eq.trans h0 ?_
  obtain ⟨q, hq⟩ : ∃ q, k - l.length - 1 = q + 1 := ⟨k - l.length - 1 - 1, by omega⟩
  have hsame : classD l.reverse a = classD l a := by
    unfold classD
    rw [List.length_reverse, ok_rev]
    have e : vote_Class.bst l.reverse 256 = vote_Class.bst l 256 := by
      have h1 := bst_Fst l.reverse
      have h2 : vote_Class.cn l.reverse = vote_Class.cn l := funext fun c => cn_rev l c
      rw [h2] at h1
      exact h1.uniq (bst_Fst l)
    rw [e]
  rw [hq, hornbeamlaw24_VoteOrder.l0, if_neg (by omega), class_f _ a (by rw [List.length_reverse]; omega), Option.bind_some, hsame, if_pos rfl, bne_self_eq_false, hornbeamlaw24_VoteOrder.j1, if_neg (by decide)]
  by_cases hbad : (l.length : Int) = 0 ∨ a < 1 ∨ a > 256
  · have e : classD l a = (0, 1) := by unfold classD; rw [if_pos hbad]
    rw [e, if_neg (by decide), fixed_f q (by omega), Option.bind_some]
  by_cases hok : vote_Class.ok l a = true
  · have e : classD l a = (vote_Class.bst l 256, 0) := by unfold classD; rw [if_neg hbad, if_pos hok]
    have hlt := bst_lt hok (by omega) (by omega)
    have hF := bst_Fst l
    have e2 : classD (l.reverse ++ [(⟨0, 0, 0, vote_Class.bst l 256, 0, 0⟩ : S31)]) a = (vote_Class.bst l 256, 0) := by
      unfold classD
      rw [List.length_append, List.length_reverse, List.length_singleton, if_neg (by omega), ok_snoc, ok_rev, hok, decide_eq_true hF.1, decide_eq_true hlt, if_pos (show (true && (true && true)) = true from rfl)]
      congr 1
      refine (bst_Fst _).uniq ⟨hF.1, hF.2.1, fun j h1 h2 => ?_, fun j h1 h2 => ?_⟩
      · rw [vote_Class.cn_snoc, vote_Class.cn_snoc, cn_rev, cn_rev, if_pos rfl]
        have := hF.2.2.1 j h1 h2
        split <;> omega
      · rw [vote_Class.cn_snoc, vote_Class.cn_snoc, cn_rev, cn_rev, if_pos rfl]
        have := hF.2.2.2 j h1 h2
        split <;> omega
    obtain ⟨z, hz⟩ := Int.eq_ofNat_of_zero_le (a := a) (by omega)
    rw [e, if_pos rfl, if_pos (by rw [List.length_reverse]; omega), class_f _ a (by rw [List.length_append, List.length_reverse, List.length_singleton]; omega), Option.bind_some, e2]
    have h1 := won_l l (by omega) a (vote_Class.bst l 256) (vote_Class.bst l 256) 0 (vote_Class.bst l 256) l.length (q - l.length - 1) 0 0 (by omega) (by omega) (by omega)
    rw [show q - l.length - 1 + 1 + l.length = q by omega, List.drop_zero, Int.zero_add] at h1
    refine Eq.trans h1 ?_
    rw [hornbeamlaw24_VoteOrder.l1, if_neg (by omega)]
    have hm : z * (l.length + 3) ≤ 256 * 303 := Nat.mul_le_mul (by omega) (by omega)
    have h2 := all_l l (by omega) (vote_Class.bst l 256) z (by omega) hF z (q - l.length - 1 - (z * (l.length + 3) + 1)) 0 (by omega) (by omega)
    rw [show q - l.length - 1 - (z * (l.length + 3) + 1) + (z * (l.length + 3) + 1) = q - l.length - 1 by omega] at h2
    rw [hz]
    exact h2
  · have e : classD l a = (0, 5) := by unfold classD; rw [if_neg hbad, if_neg hok]
    rw [e, if_neg (by decide), fixed_f q (by omega), Option.bind_some]
end VoteOrder0
open VoteOrder0
theorem VoteOrder : hornbeamlaw24_VoteOrder.Pure := by
  intro l a _ _
  exact ⟨100000, law_f 100000 (Nat.le_refl _) l a⟩

end Go.Proofs.Ytglicbpnmehloaa.Pure
