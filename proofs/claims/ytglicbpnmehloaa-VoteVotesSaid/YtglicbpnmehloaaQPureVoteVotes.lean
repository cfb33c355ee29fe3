/- For all configs and lists of leaves the law VoteVotes answers true. No condition. -/
import Derived.Test.YtglicbpnmehloaaQVoteVotesx3
import Derived.Test.YtglicbpnmehloaaP64
import Derived.Test.YtglicbpnmehloaaDig
namespace Go.Proofs.Ytglicbpnmehloaa.Pure
open Go.RowKit Go.Proofs.Ytglicbpnmehloaa.QVoteVotes Go.Proofs.YtglicbpnmehloaaW.PrintWords Go.Proofs.YtglicbpnmehloaaW.PrintLast
open Go.Proofs.Ytglicbpnmehloaa.P64 Go.Proofs.Ytglicbpnmehloaa.Dig
namespace VoteVotes0
theorem rd_at (l : List S31) (i : Nat) (h : i < l.length) : rd_T31 l (i : Int) = l[i] := by simp [rd_T31, List.getD, h]
theorem cn_rev (l : List S31) (c : Int) : vote_Class.cn l.reverse c = vote_Class.cn l c := by
  induction l with
  | nil => rfl
  | cons x l ih => rw [List.reverse_cons, vote_Class.cn_snoc, ih, vote_Class.cn]; omega
theorem ok_rev (l : List S31) (c : Int) : vote_Class.ok l.reverse c = vote_Class.ok l c := by
  unfold vote_Class.ok; rw [List.all_reverse]
theorem ok_snoc (l : List S31) (x : S31) (c : Int) : vote_Class.ok (l ++ [x]) c = (vote_Class.ok l c && (decide (0 ≤ x.f3) && decide (x.f3 < c))) := by
  unfold vote_Class.ok; rw [List.all_append, List.all_cons, List.all_nil, Bool.and_true]
theorem cn_out {l : List S31} {c : Int} (h : vote_Class.ok l c = true) {j : Int} (hj : c ≤ j ∨ j < 0) : vote_Class.cn l j = 0 := by
  induction l with
  | nil => rfl
  | cons x l ih =>
    unfold vote_Class.ok at h ih
    rw [List.all_cons, Bool.and_eq_true, Bool.and_eq_true, decide_eq_true_eq, decide_eq_true_eq] at h
    rw [vote_Class.cn, if_neg (by omega), ih h.2]
    rfl
theorem cn_some {l : List S31} {c : Int} (h : vote_Class.ok l c = true) (hl : 0 < l.length) : ∃ j, 0 ≤ j ∧ j < c ∧ 1 ≤ vote_Class.cn l j := by
  cases l with
  | nil => cases hl
  | cons x l =>
    unfold vote_Class.ok at h
    rw [List.all_cons, Bool.and_eq_true, Bool.and_eq_true, decide_eq_true_eq, decide_eq_true_eq] at h
    refine ⟨x.f3, h.1.1, h.1.2, ?_⟩
    have := (vote_Class.cn_bound l x.f3).1
    rw [vote_Class.cn, if_pos rfl]; omega
/-- The first greatest one of 256. -/
def Fst (F : Int → Int) (b : Int) : Prop := 0 ≤ b ∧ b < 256 ∧ (∀ j, 0 ≤ j → j < 256 → F j ≤ F b) ∧ ∀ j, 0 ≤ j → j < b → F j < F b
theorem Fst.uniq {F : Int → Int} {a b : Int} (ha : Fst F a) (hb : Fst F b) : a = b := by
  rcases Int.lt_trichotomy a b with h | h | h
  · have h1 := hb.2.2.2 a ha.1 h; have h2 := ha.2.2.1 b hb.1 hb.2.1; omega
  · exact h
  · have h1 := ha.2.2.2 b hb.1 h; have h2 := hb.2.2.1 a ha.1 ha.2.1; omega
theorem bst_fst (l : List S31) (n : Nat) (h : 1 ≤ n) : 0 ≤ vote_Class.bst l n ∧ vote_Class.bst l n < n ∧ (∀ j : Int, 0 ≤ j → j < n → vote_Class.cn l j ≤ vote_Class.cn l (vote_Class.bst l n)) ∧ ∀ j : Int, 0 ≤ j → j < vote_Class.bst l n → vote_Class.cn l j < vote_Class.cn l (vote_Class.bst l n) := by
  induction n with
  | zero => omega
  | succ n ih =>
    rw [vote_Class.bst]
    by_cases hn : n = 0
    · subst hn
      have e : vote_Class.bst l 0 = 0 := rfl
      rw [e, if_neg (by rw [show ((0 : Nat) : Int) = 0 from rfl]; omega)]
      refine ⟨by omega, by omega, fun j h0 h1 => ?_, fun j h0 h1 => by omega⟩
      have : j = 0 := by omega
      rw [this]; omega
    · obtain ⟨h1, h2, h3, h4⟩ := ih (by omega)
      by_cases hg : vote_Class.cn l (n : Int) > vote_Class.cn l (vote_Class.bst l n)
      · rw [if_pos hg]
        refine ⟨by omega, by omega, fun j h5 h6 => ?_, fun j h5 h6 => ?_⟩
        · by_cases e : j = (n : Int)
          · rw [e]; omega
          · have := h3 j h5 (by omega); omega
        · have := h3 j h5 h6; omega
      · rw [if_neg hg]
        refine ⟨h1, by omega, fun j h5 h6 => ?_, h4⟩
        by_cases e : j = (n : Int)
        · rw [e]; omega
        · exact h3 j h5 (by omega)
theorem bst_Fst (l : List S31) : Fst (vote_Class.cn l) (vote_Class.bst l 256) := by
  obtain ⟨h1, h2, h3, h4⟩ := bst_fst l 256 (by omega)
  exact ⟨h1, by omega, fun j h5 h6 => h3 j h5 (by omega), h4⟩
theorem bst_lt {l : List S31} {c : Int} (h : vote_Class.ok l c = true) (hl : 0 < l.length) (hc : c ≤ 256) : vote_Class.bst l 256 < c := by
  obtain ⟨h1, h2, h3, h4⟩ := bst_Fst l
  obtain ⟨j, j0, j1, j2⟩ := cn_some h hl
  have := h3 j j0 (by omega)
  apply Classical.byContradiction
  intro hn
  have := cn_out h (j := vote_Class.bst l 256) (.inl (by omega))
  omega
/-- The vote of classes: the class, and the error's number. -/
def classD (l : List S31) (c : Int) : Int × Int := if (l.length : Int) = 0 ∨ c < 1 ∨ c > 256 then (0, 1) else if vote_Class.ok l c = true then (vote_Class.bst l 256, 0) else (0, 5)
theorem class_f (l : List S31) (c : Int) (hl : l.length ≤ 100000) : vote_Class.f l c = some (classD l c) := by
  unfold vote_Class.f classD
  rw [if_pos (by omega)]
  split
  · rfl
  · split <;> rfl
theorem digits_f {n : Int} (h0 : 0 ≤ n) (h1 : n < 18446744073709551616) : hornbeamref04_Digits.f n = some (dig4 n) := by
  unfold hornbeamref04_Digits.f dig4
  rw [Int.tmod_eq_emod_of_nonneg h0, Int.tdiv_eq_ediv_of_nonneg h0, Int.tdiv_eq_ediv_of_nonneg h0, Int.tdiv_eq_ediv_of_nonneg h0, uwrap_id (by omega) (by omega), uwrap_id (by omega) (by omega), uwrap_id (by omega) (by omega),
    Int.tmod_eq_emod_of_nonneg (by omega), Int.tmod_eq_emod_of_nonneg (by omega)]
theorem rd_nat (l : List Int) (i : Nat) : rd l (i : Int) = l.getD i 0 := rfl
theorem number_f {l : List Int} (hl : l.length = 4) (hd : Dg l) : hornbeamref04_number.f l = some (V l) := by
  obtain ⟨a, b, c, d, rfl⟩ := len4 hl
  have ha := hd.head; have hb := hd.tail.head; have hc := hd.tail.tail.head; have hdd := hd.tail.tail.tail.head
  unfold hornbeamref04_number.f
  simp only [List.length_cons, List.length_nil]
  rw [if_pos (by decide), if_pos (by decide), if_pos (by decide), if_pos (by decide)]
  simp only [rd, List.getD_cons_zero, List.getD_cons_succ, show (0 : Int).toNat = 0 from rfl, show (1 : Int).toNat = 1 from rfl, show (2 : Int).toNat = 2 from rfl, show (3 : Int).toNat = 3 from rfl, V]
  rw [uwrap_id (n := b * 65536) (by omega) (by omega), uwrap_id (n := c * 4294967296) (by omega) (by omega), uwrap_id (n := d * 281474976710656) (by omega) (by omega),
    uwrap_id (n := a + b * 65536) (by omega) (by omega), uwrap_id (n := a + b * 65536 + c * 4294967296) (by omega) (by omega), uwrap_id (by omega) (by omega)]
  congr 1; omega
theorem rsize_f {a : Int} (a0 : -9223372036854775808 ≤ a) (a1 : a ≤ 9223372036854775807) : hornbeamref04_Size.f a = some ((a.natAbs : Nat) : Int) := by
  unfold hornbeamref04_Size.f
  split
  · rw [uwrap_id (by omega) (by omega)]; congr 1; omega
  · rw [wrap64_id (n := a + 1) (by omega) (by omega), wrap64_id (by omega) (by omega), uwrap_id (n := -(a + 1)) (by omega) (by omega), uwrap_id (by omega) (by omega)]; congr 1; omega
theorem sum_l (a b : List Int) (ha : Dg a) (hb : Dg b) (hl : a.length = b.length) (la : a.length ≤ 100) (d : Nat) :
    ∀ (i : Nat) (o : List Int) (c : Int), i + d = a.length → o.length ≤ i → 0 ≤ c → c ≤ 1 →
    ∃ r, (∀ k, hornbeamref04_Sum.l0 (k + (d + 1)) a b o c (i : Int) = some (o ++ r)) ∧ r.length = d + 1 ∧ Dg r ∧ V r = V (a.drop i) + V (b.drop i) + c := by
  induction d with
  | zero =>
    intro i o c hi ho c0 c1
    refine ⟨[c], ?_, rfl, Dg.cons (by omega) (by omega) Dg.nil, ?_⟩
    · intro k
      rw [hornbeamref04_Sum.l0, if_neg (by omega), if_pos (by omega)]
    · rw [List.drop_eq_nil_of_le (by omega), List.drop_eq_nil_of_le (by omega)]; simp [V]
  | succ d ih =>
    intro i o c hi ho c0 c1
    have hA := ha.getD i; have hB := hb.getD i
    obtain ⟨n, hn⟩ : ∃ n, n = a.getD i 0 + b.getD i 0 + c := ⟨_, rfl⟩
    have n0 : 0 ≤ n := by omega
    have n1 : n < 131072 := by omega
    obtain ⟨r, h1, h2, h3, h4⟩ := ih (i + 1) (o ++ [n % 65536]) (n / 65536) (by omega) (by rw [List.length_append, List.length_singleton]; omega) (by omega) (by omega)
    refine ⟨n % 65536 :: r, ?_, by rw [List.length_cons, h2], Dg.cons (by omega) (by omega) h3, ?_⟩
    · intro k
      rw [show k + (d + 1 + 1) = k + (d + 1) + 1 by omega, hornbeamref04_Sum.l0, if_pos (by omega), if_pos (by omega), if_pos (by omega), if_pos (by omega), rd_nat, rd_nat,
        uwrap_id (n := a.getD i 0 + b.getD i 0) (by omega) (by omega), ← hn, uwrap_id (n := n) (by omega) (by omega), Int.tmod_eq_emod_of_nonneg n0, Int.tdiv_eq_ediv_of_nonneg n0, uwrap_id (by omega) (by omega),
        show wrap64 ((i : Int) + 1) = ((i + 1 : Nat) : Int) by unfold wrap64; omega]
      rw [h1 k, List.append_assoc]; rfl
    · rw [V, h4, V_drop i (by omega), V_drop (l := b) i (by omega)]
      generalize V (a.drop (i + 1)) = p at *
      generalize V (b.drop (i + 1)) = q at *
      omega
theorem sum_f (a b : List Int) (ha : Dg a) (hb : Dg b) (hl : a.length = b.length) (la : a.length ≤ 100) :
    ∃ r, (∀ k, 101 ≤ k → hornbeamref04_Sum.f k a b = some r) ∧ r.length = a.length + 1 ∧ Dg r ∧ V r = V a + V b := by
  obtain ⟨r, h1, h2, h3, h4⟩ := sum_l a b ha hb hl la a.length 0 [] 0 (by omega) (by simp) (by omega) (by omega)
  refine ⟨r, ?_, h2, h3, ?_⟩
  · intro k hk
    have := h1 (k - (a.length + 1))
    rw [show k - (a.length + 1) + (a.length + 1) = k by omega] at this
    exact this
  · rw [h4, List.drop_zero, List.drop_zero, Int.add_zero]
def In (n : Int) : Prop := -9223372036854775808 ≤ n ∧ n ≤ 9223372036854775807
/-- A number of a sign and a size. -/
def sg (below : Bool) (n : Int) : Int := if below = true then -n else n
theorem whole_j (k : Nat) (below : Bool) {n : Int} (n0 : 0 < n) (n1 : n < 18446744073709551616) :
    (In (sg below n) → (if below = true then hornbeamref04_whole.j1 (k + 1) below n false else hornbeamref04_whole.j1 (k + 1) below n (decide (n ≤ 9223372036854775807))) = some (sg below n, 0)) ∧
    (¬ In (sg below n) → (if below = true then hornbeamref04_whole.j1 (k + 1) below n false else hornbeamref04_whole.j1 (k + 1) below n (decide (n ≤ 9223372036854775807))) = some (0, 6)) := by
  unfold In sg
  cases below with
  | true =>
    simp only [if_true, hornbeamref04_whole.j1, Bool.false_eq_true, if_false]
    constructor
    · intro h
      rw [if_pos (by omega), uwrap_id (by omega) (by omega), wrap64_id (n := n - 1) (by omega) (by omega), wrap64_id (n := -(n - 1)) (by omega) (by omega), wrap64_id (by omega) (by omega)]
      congr 2; omega
    · intro h
      rw [if_neg (by omega)]
  | false =>
    simp only [Bool.false_eq_true, if_false, hornbeamref04_whole.j1, decide_eq_true_eq]
    constructor
    · intro h
      rw [if_pos (by omega), wrap64_id (by omega) (by omega)]
    · intro h
      rw [if_neg (by omega)]
theorem whole_l (below : Bool) {l : List Int} (hd : Dg l) (h4 : 4 ≤ l.length) (h100 : l.length ≤ 100) (d : Nat) : ∀ (i : Nat), i + d = l.length → 4 ≤ i →
    ∀ k, (V (l.drop i) = 0 → hornbeamref04_whole.l0 (k + 1 + (d + 1)) below l (i : Int) = (if V (l.take 4) = 0 then some (0, 0) else (if below = true then hornbeamref04_whole.j1 (k + 1) below (V (l.take 4)) false else hornbeamref04_whole.j1 (k + 1) below (V (l.take 4)) (decide (V (l.take 4) ≤ 9223372036854775807))))) ∧
      (V (l.drop i) ≠ 0 → hornbeamref04_whole.l0 (k + 1 + (d + 1)) below l (i : Int) = some (0, 6)) := by
  induction d with
  | zero =>
    intro i hi h4i k
    rw [List.drop_eq_nil_of_le (by omega)]
    refine ⟨fun _ => ?_, fun h => absurd rfl h⟩
    rw [hornbeamref04_whole.l0, if_neg (by omega), if_pos (by omega), number_f (by rw [List.length_take]; omega) (hd.take 4), Option.bind_some]
  | succ d ih =>
    intro i hi h4i k
    have hO := hd.getD i
    have hV := V_nonneg (hd.drop (i + 1))
    rw [V_drop i (by omega), show k + 1 + (d + 1 + 1) = k + 1 + (d + 1) + 1 by omega, hornbeamref04_whole.l0, if_pos (by omega), if_pos (by omega), rd_nat, show wrap64 ((i : Int) + 1) = ((i + 1 : Nat) : Int) by unfold wrap64; omega]
    by_cases h0 : l.getD i 0 > 0
    · rw [if_pos h0]
      exact ⟨fun h => by omega, fun _ => rfl⟩
    · rw [if_neg h0]
      have := ih (i + 1) (by omega) (by omega) k
      exact ⟨fun h => this.1 (by omega), fun h => this.2 (by omega)⟩
theorem whole_f (below : Bool) {l : List Int} (hd : Dg l) (h4 : 4 ≤ l.length) (h100 : l.length ≤ 100) (k : Nat) (hk : 200 ≤ k) :
    (In (sg below (V l)) → hornbeamref04_whole.f k below l = some (sg below (V l), 0)) ∧ (¬ In (sg below (V l)) → hornbeamref04_whole.f k below l = some (0, 6)) := by
  have hw := whole_l below hd h4 h100 (l.length - 4) 4 (by omega) (by omega) (k - 2 - (l.length - 4))
  rw [show k - 2 - (l.length - 4) + 1 + (l.length - 4 + 1) = k by omega] at hw
  have e := V_take_drop l 4 h4
  have u1 := V_lt (hd.take 4); have u2 := V_nonneg (hd.take 4); have u3 := V_nonneg (hd.drop 4)
  rw [List.length_take, Nat.min_eq_left h4] at u1
  rw [show (65536 : Int) ^ 4 = 18446744073709551616 from rfl] at e u1
  unfold hornbeamref04_whole.f
  by_cases h0 : V (l.drop 4) = 0
  · have e2 : V l = V (l.take 4) := by rw [e, h0]; omega
    have hw1 : hornbeamref04_whole.l0 k below l 4 = _ := hw.1 h0
    rw [hw1, e2]
    clear e2 hw1 hw e h0 u3
    generalize V (l.take 4) = n at *
    by_cases hn : n = 0
    · subst hn
      have : sg below 0 = 0 := by unfold sg; split <;> rfl
      rw [if_pos rfl, this]
      exact ⟨fun _ => rfl, fun h => absurd (by unfold In; omega) h⟩
    · rw [if_neg hn]
      exact whole_j _ below (by omega) u1
  · have hw1 : hornbeamref04_whole.l0 k below l 4 = _ := hw.2 h0
    rw [hw1]
    refine ⟨fun h => ?_, fun _ => rfl⟩
    exfalso
    unfold In sg at h
    split at h <;> omega
theorem rplus_f {a b : Int} (ha : In a) (hb : In b) (k : Nat) (hk : 10300 ≤ k) : (In (a + b) → hornbeamref04_Plus.f k a b = some (a + b, 0)) ∧ (¬ In (a + b) → hornbeamref04_Plus.f k a b = some (0, 6)) := by
  unfold In at ha hb
  unfold hornbeamref04_Plus.f
  rw [rsize_f ha.1 ha.2, Option.bind_some, rsize_f hb.1 hb.2, Option.bind_some]
  have x0 : (0 : Int) ≤ (a.natAbs : Nat) ∧ ((a.natAbs : Nat) : Int) ≤ 9223372036854775808 := by omega
  have y0 : (0 : Int) ≤ (b.natAbs : Nat) ∧ ((b.natAbs : Nat) : Int) ≤ 9223372036854775808 := by omega
  by_cases hs : ((decide (a < 0)) == (decide (b < 0))) = true
  · rw [if_pos hs, digits_f (by omega) (by omega), Option.bind_some, digits_f (by omega) (by omega), Option.bind_some]
    obtain ⟨r, h1, h2, h3, h4⟩ := sum_f (dig4 (a.natAbs : Nat)) (dig4 (b.natAbs : Nat)) (dig4_Dg (by omega) (by omega)) (dig4_Dg (by omega) (by omega)) rfl (by rw [dig4_len]; omega)
    rw [dig4_V, dig4_V] at h4
    rw [dig4_len] at h2
    rw [h1 k (by omega), Option.bind_some]
    have hw := whole_f (decide (a < 0)) h3 (by omega) (by omega) k (by omega)
    have e : sg (decide (a < 0)) (V r) = a + b := by
      rw [beq_iff_eq, decide_eq_decide] at hs
      unfold sg; rw [h4]; simp only [decide_eq_true_eq]; split <;> omega
    rw [e] at hw
    exact ⟨fun h => by rw [hw.1 h, Option.bind_some], fun h => by rw [hw.2 h, Option.bind_some]⟩
  · rw [if_neg hs]
    rw [beq_iff_eq, decide_eq_decide] at hs
    by_cases hc : ((a.natAbs : Nat) : Int) ≥ ((b.natAbs : Nat) : Int)
    · rw [if_pos hc, uwrap_id (by omega) (by omega), digits_f (by omega) (by omega), Option.bind_some]
      have hw := whole_f (decide (a < 0)) (dig4_Dg (n := ((a.natAbs : Nat) : Int) - (b.natAbs : Nat)) (by omega) (by omega)) (by rw [dig4_len]; omega) (by rw [dig4_len]; omega) k (by omega)
      have e : sg (decide (a < 0)) (((a.natAbs : Nat) : Int) - (b.natAbs : Nat)) = a + b := by
        unfold sg; simp only [decide_eq_true_eq]; split <;> omega
      rw [dig4_V, e] at hw
      exact ⟨fun h => by rw [hw.1 h, Option.bind_some], fun h => by rw [hw.2 h, Option.bind_some]⟩
    · rw [if_neg hc, uwrap_id (by omega) (by omega), digits_f (by omega) (by omega), Option.bind_some]
      have hw := whole_f (decide (b < 0)) (dig4_Dg (n := ((b.natAbs : Nat) : Int) - (a.natAbs : Nat)) (by omega) (by omega)) (by rw [dig4_len]; omega) (by rw [dig4_len]; omega) k (by omega)
      have e : sg (decide (b < 0)) (((b.natAbs : Nat) : Int) - (a.natAbs : Nat)) = a + b := by
        unfold sg; simp only [decide_eq_true_eq]; split <;> omega
      rw [dig4_V, e] at hw
      exact ⟨fun h => by rw [hw.1 h, Option.bind_some], fun h => by rw [hw.2 h, Option.bind_some]⟩
theorem rfloor_f {a b : Int} (ha : In a) : hornbeamref04_Floor.f a b = if b < 1 then some (0, 1) else some (a / b, 0) := by
  unfold In at ha
  unfold hornbeamref04_Floor.f
  by_cases hb : b < 1
  · rw [if_pos hb, if_pos hb]
  · have hq := ediv_bounds ha.1 ha.2 (b := b) (by omega)
    rw [if_neg hb, if_neg hb]
    by_cases h : a ≥ 0
    · rw [if_pos h, if_neg (by omega), Int.tdiv_eq_ediv_of_nonneg h, wrap64_id hq.1 hq.2]
    · have hk := ediv_bounds (a := -(a + 1)) (b := b) (by omega) (by omega) (by omega)
      have hk0 := Int.ediv_nonneg (a := -(a + 1)) (b := b) (by omega) (by omega)
      have e : -(-(a + 1) / b) - 1 = a / b := by
        have h1 := Int.mul_ediv_add_emod (-(a + 1)) b
        have h2 := Int.emod_nonneg (-(a + 1)) (b := b) (by omega)
        have h3 := Int.emod_lt_of_pos (-(a + 1)) (b := b) (by omega)
        symm
        refine (Int.ediv_eq_iff_of_pos (by omega)).2 ?_
        have e2 : (-(-(a + 1) / b) - 1) * b = -(b * (-(a + 1) / b)) - b := by rw [Int.sub_mul, Int.neg_mul, Int.one_mul, Int.mul_comm]
        rw [e2]
        constructor
        · omega
        · omega
      rw [if_neg h, if_neg (by omega), wrap64_id (n := a + 1) (by omega) (by omega), wrap64_id (n := -(a + 1)) (by omega) (by omega), Int.tdiv_eq_ediv_of_nonneg (by omega), wrap64_id (n := -(a + 1) / b) hk.1 hk.2,
        wrap64_id (n := -(-(a + 1) / b)) (by omega) (by omega), wrap64_id (by omega) (by omega), e]
theorem plus_in {a b : Int} (ha : In a) (hb : In b) (h : In (a + b)) : prod_Plus.f a b = some (a + b, 0) := by
  unfold In at *
  unfold prod_Plus.f
  rw [wrap64_id h.1 h.2]
  split
  · rename_i h1
    rw [if_neg]
    rw [beq_iff_eq, decide_eq_decide] at h1
    rw [bne_iff_ne, ne_eq, decide_eq_decide]
    omega
  · rfl
theorem plus_out {a b : Int} (ha : In a) (hb : In b) (h : ¬ In (a + b)) : prod_Plus.f a b = some (0, 6) := by
  unfold In at *
  unfold prod_Plus.f
  rw [if_pos, if_pos]
  · rw [bne_iff_ne, ne_eq, decide_eq_decide]; unfold wrap64; omega
  · rw [beq_iff_eq, decide_eq_decide]; omega
theorem floor_f {a b : Int} (a0 : -9223372036854775808 ≤ a) (a1 : a ≤ 9223372036854775807) (hb : 1 ≤ b) : prod_Floor.f a b = some (a / b, 0) := by
  unfold prod_Floor.f
  rw [if_neg (by omega), if_neg (by omega)]
  exact floor_eq a0 a1 hb
def SS : List S31 → Int
  | [] => 0
  | x :: l => x.f4 + SS l
def CC : List S31 → Int
  | [] => 0
  | x :: l => x.f5 + CC l
/-- Leaves within the limits. -/
def Lim (l : List S31) : Prop := ∀ x ∈ l, 1 ≤ x.f5 ∧ x.f5 ≤ 1048576 ∧ x.f4 ≤ 1048576 * x.f5 ∧ -(1048576 * x.f5) ≤ x.f4
theorem Lim.tail {x : S31} {l : List S31} (h : Lim (x :: l)) : Lim l := fun y hy => h y (List.mem_cons_of_mem _ hy)
theorem Lim.head {x : S31} {l : List S31} (h : Lim (x :: l)) : 1 ≤ x.f5 ∧ x.f5 ≤ 1048576 ∧ x.f4 ≤ 1048576 * x.f5 ∧ -(1048576 * x.f5) ≤ x.f4 := h x List.mem_cons_self
theorem CC_bound {l : List S31} (h : Lim l) : (l.length : Int) ≤ CC l ∧ CC l ≤ 1048576 * (l.length : Int) ∧ SS l ≤ 1048576 * CC l ∧ -(1048576 * CC l) ≤ SS l := by
  induction l with
  | nil => simp [SS, CC]
  | cons x l ih => have := ih h.tail; have := h.head; rw [SS, CC, List.length_cons]; omega
theorem SS_append (a b : List S31) : SS (a ++ b) = SS a + SS b := by
  induction a with
  | nil => simp [SS]
  | cons x a ih => rw [List.cons_append, SS, ih, SS]; omega
theorem CC_append (a b : List S31) : CC (a ++ b) = CC a + CC b := by
  induction a with
  | nil => simp [CC]
  | cons x a ih => rw [List.cons_append, CC, ih, CC]; omega
theorem mean_l (l : List S31) (h : Lim l) (hl : l.length ≤ 1000) (d : Nat) : ∀ (k i : Nat) (s c : Int), i + d = l.length → d < k → 0 < l.length → (i : Int) ≤ c → c ≤ 1048576 * (i : Int) → s ≤ 1048576 * c → -(1048576 * c) ≤ s →
    vote_Mean.l0 k s c l (l.length : Int) (i : Int) = some ((s + SS (l.drop i)) / (c + CC (l.drop i)), 0) := by
  induction d with
  | zero =>
    intro k i s c hi hk h0 c0 c1 s1 s2
    obtain ⟨k, rfl⟩ : ∃ m, k = m + 1 := ⟨k - 1, by omega⟩
    rw [vote_Mean.l0, if_neg (by omega), List.drop_eq_nil_of_le (by omega), SS, CC, Int.add_zero, Int.add_zero, floor_f (by omega) (by omega) (by omega), Option.bind_some]
  | succ d ih =>
    intro k i s c hi hk h0 c0 c1 s1 s2
    obtain ⟨k, rfl⟩ : ∃ m, k = m + 1 := ⟨k - 1, by omega⟩
    have hlt : i < l.length := by omega
    have hx := h l[i] (List.getElem_mem hlt)
    rw [vote_Mean.l0, if_pos (by omega), if_pos (by omega), if_pos (by omega), rd_at l i hlt, if_neg (by omega), plus_in (by unfold In; omega) (by unfold In; omega) (by unfold In; omega), Option.bind_some, if_pos rfl, plus_in (by unfold In; omega) (by unfold In; omega) (by unfold In; omega), Option.bind_some, if_pos rfl,
      show wrap64 ((i : Int) + 1) = ((i + 1 : Nat) : Int) by unfold wrap64; omega, ih k (i + 1) (s + l[i].f4) (c + l[i].f5) (by omega) (by omega) h0 (by omega) (by omega) (by omega) (by omega), List.drop_eq_getElem_cons hlt, SS, CC, Int.add_assoc, Int.add_assoc]
theorem mean_in {l : List S31} (h : Lim l) (hl : l.length ≤ 1000) (h0 : 0 < l.length) (k : Nat) (hk : 1001 ≤ k) : vote_Mean.f k l = some (SS l / CC l, 0) := by
  unfold vote_Mean.f
  rw [if_neg (by omega)]
  have := mean_l l h hl l.length k 0 0 0 (by omega) (by omega) h0 (by omega) (by omega) (by omega) (by omega)
  rw [List.drop_zero, Int.zero_add, Int.zero_add] at this
  exact this
theorem fixed_f (k : Nat) (hk : 1001 ≤ k) : hornbeamlaw24_fixed.f k = some true := by
  have hF : Fst (vote_Class.cn [(⟨0, 0, 0, 2, 0, 0⟩ : S31), (⟨0, 0, 0, 1, 0, 0⟩ : S31), (⟨0, 0, 0, 1, 0, 0⟩ : S31), (⟨0, 0, 0, 2, 0, 0⟩ : S31)]) 1 := by
    refine ⟨by omega, by omega, fun j h0 h1 => ?_, fun j h0 h1 => ?_⟩
    · simp only [vote_Class.cn]
      (repeat' split) <;> first | omega | simp_all
    · simp only [vote_Class.cn]
      (repeat' split) <;> first | omega | simp_all
  have e := (bst_Fst _).uniq hF
  have hc : classD [(⟨0, 0, 0, 2, 0, 0⟩ : S31), (⟨0, 0, 0, 1, 0, 0⟩ : S31), (⟨0, 0, 0, 1, 0, 0⟩ : S31), (⟨0, 0, 0, 2, 0, 0⟩ : S31)] 3 = (1, 0) := by
    unfold classD
    rw [if_neg (by simp), if_pos (by decide), e]
  have hm : Lim [(⟨0, 0, 0, 0, 7, 2⟩ : S31), (⟨0, 0, 0, 0, (-8), 1⟩ : S31)] := by
    intro x hx
    rcases List.mem_cons.1 hx with rfl | hx
    · simp
    · rcases List.mem_cons.1 hx with rfl | hx
      · simp
      · cases hx
  unfold hornbeamlaw24_fixed.f
  rw [class_f _ _ (by simp), Option.bind_some, hc, mean_in hm (by simp) (by simp) k hk, Option.bind_some, if_pos rfl, if_pos rfl, if_pos rfl]
  rfl
theorem rclass_l2 (l : List S31) (hl : l.length ≤ 300) (b m c : Int) (d : Nat) : ∀ (k i : Nat) (n : Int), i + d = l.length → 0 ≤ n → n ≤ i →
    hornbeamref24_Class.l2 (k + 1 + d) l b m c n (i : Int) = hornbeamref24_Class.l2 (k + 1) l b m c (n + vote_Class.cn (l.drop i) c) (l.length : Int) := by
  induction d with
  | zero =>
    intro k i n hi n0 n1
    rw [show i = l.length by omega, List.drop_length, vote_Class.cn, Int.add_zero]
  | succ d ih =>
    intro k i n hi n0 n1
    have hlt : i < l.length := by omega
    rw [show k + 1 + (d + 1) = k + 1 + d + 1 by omega, hornbeamref24_Class.l2, if_pos (by omega), if_pos (by omega), rd_at l i hlt, show wrap64 ((i : Int) + 1) = ((i + 1 : Nat) : Int) by unfold wrap64; omega, List.drop_eq_getElem_cons hlt, vote_Class.cn]
    by_cases h : l[i].f3 = c
    · rw [if_pos h, if_pos h, show wrap64 (n + 1) = n + 1 by unfold wrap64; omega, ih k (i + 1) (n + 1) (by omega) (by omega) (by omega), Int.add_assoc]
    · rw [if_neg h, if_neg h, ih k (i + 1) n (by omega) (by omega) (by omega), Int.zero_add]
theorem rclass_l1 (l : List S31) (hl : l.length ≤ 300) (z : Nat) (hz : z ≤ 256) (n : Nat) : ∀ (k : Nat) (b m : Int), n ≤ z → 1 ≤ z → (n = z ∧ m = -1 ∨ n < z ∧ (n : Int) ≤ b ∧ b < z ∧ m = vote_Class.cn l b ∧ (∀ j : Int, (n : Int) ≤ j → j < z → vote_Class.cn l j ≤ m) ∧ ∀ j : Int, (n : Int) ≤ j → j < b → vote_Class.cn l j < m) →
    ∃ r : Int, hornbeamref24_Class.l1 (k + (n * (l.length + 2) + 1)) l b m ((n : Int) - 1) = some (r, 0) ∧ 0 ≤ r ∧ r < z ∧ (∀ j : Int, 0 ≤ j → j < z → vote_Class.cn l j ≤ vote_Class.cn l r) ∧ ∀ j : Int, 0 ≤ j → j < r → vote_Class.cn l j < vote_Class.cn l r := by
  induction n with
  | zero =>
    intro k b m hn hz1 h
    rcases h with h | ⟨h1, h2, h3, h4, h5, h6⟩
    · omega
    · subst h4
      refine ⟨b, ?_, by omega, h3, fun j h7 h8 => h5 j (by omega) h8, fun j h7 h8 => h6 j (by omega) h8⟩
      rw [Nat.zero_mul, Nat.zero_add, hornbeamref24_Class.l1, if_neg (by omega)]
  | succ n ih =>
    intro k b m hn hz1 h
    have e2 : k + ((n + 1) * (l.length + 2) + 1) = k + (n * (l.length + 2) + 1) + 1 + l.length + 1 := by rw [Nat.add_mul]; omega
    rw [e2, show ((n + 1 : Nat) : Int) - 1 = (n : Int) by omega, hornbeamref24_Class.l1, if_pos (by omega)]
    have e4 := rclass_l2 l hl b m (n : Int) l.length (k + (n * (l.length + 2) + 1)) 0 0 (by omega) (by omega) (by omega)
    rw [List.drop_zero, Int.zero_add] at e4
    have hc := vote_Class.cn_bound l (n : Int)
    have e5 : hornbeamref24_Class.l2 (k + (n * (l.length + 2) + 1) + 1) l b m (n : Int) (vote_Class.cn l (n : Int)) (l.length : Int) = (if vote_Class.cn l (n : Int) ≥ m then hornbeamref24_Class.l1 (k + (n * (l.length + 2) + 1)) l (n : Int) (vote_Class.cn l (n : Int)) ((n : Int) - 1) else hornbeamref24_Class.l1 (k + (n * (l.length + 2) + 1)) l b m ((n : Int) - 1)) := by
      rw [hornbeamref24_Class.l2, if_neg (by omega), show wrap64 ((n : Int) - 1) = (n : Int) - 1 by unfold wrap64; omega]
    rw [show ((0 : Nat) : Int) = 0 from rfl] at e4
    rw [e4, e5]
    by_cases hg : vote_Class.cn l (n : Int) ≥ m
    · rw [if_pos hg]
      refine ih k (n : Int) (vote_Class.cn l (n : Int)) (by omega) hz1 (.inr ⟨by omega, by omega, by omega, rfl, fun j h7 h8 => ?_, fun j h7 h8 => by omega⟩)
      by_cases e : j = (n : Int)
      · rw [e]; omega
      · rcases h with h | ⟨h1, h2, h3, h4, h5, h6⟩
        · omega
        · have := h5 j (by omega) h8; omega
    · rw [if_neg hg]
      rcases h with h | ⟨h1, h2, h3, h4, h5, h6⟩
      · omega
      · refine ih k b m (by omega) hz1 (.inr ⟨by omega, by omega, h3, h4, fun j h7 h8 => ?_, fun j h7 h8 => ?_⟩)
        · by_cases e : j = (n : Int)
          · rw [e]; omega
          · exact h5 j (by omega) h8
        · by_cases e : j = (n : Int)
          · rw [e]; omega
          · exact h6 j (by omega) h8
theorem rclass_l0 (l : List S31) (hl : l.length ≤ 300) (c : Int) (d : Nat) : ∀ (k i : Nat), i + d = l.length → 
    hornbeamref24_Class.l0 (k + 1 + d) l c (i : Int) = if vote_Class.ok (l.drop i) c = true then hornbeamref24_Class.l1 k l 0 (-1) (wrap64 (c - 1)) else some (0, 5) := by
  induction d with
  | zero =>
    intro k i hi
    rw [Nat.add_zero, hornbeamref24_Class.l0, if_neg (by omega), show i = l.length by omega, List.drop_length, if_pos (show vote_Class.ok [] c = true from rfl)]
  | succ d ih =>
    intro k i hi
    have hlt : i < l.length := by omega
    have e : vote_Class.ok (l.drop i) c = ((decide (0 ≤ l[i].f3) && decide (l[i].f3 < c)) && vote_Class.ok (l.drop (i + 1)) c) := by
      rw [List.drop_eq_getElem_cons hlt]; unfold vote_Class.ok; rw [List.all_cons]
    rw [show k + 1 + (d + 1) = k + 1 + d + 1 by omega, hornbeamref24_Class.l0, if_pos (by omega), if_pos (by omega), rd_at l i hlt, show wrap64 ((i : Int) + 1) = ((i + 1 : Nat) : Int) by unfold wrap64; omega, e]
    by_cases h1 : l[i].f3 < 0
    · rw [if_pos h1, decide_eq_false (show ¬ 0 ≤ l[i].f3 by omega), Bool.false_and, Bool.false_and, if_neg (by decide)]
    · rw [if_neg h1]
      by_cases h2 : l[i].f3 ≥ c
      · rw [if_pos h2, decide_eq_false (show ¬ l[i].f3 < c by omega), Bool.and_false, Bool.false_and, if_neg (by decide)]
      · rw [if_neg h2, decide_eq_true (show 0 ≤ l[i].f3 by omega), decide_eq_true (show l[i].f3 < c by omega), Bool.true_and, Bool.true_and, ih k (i + 1) (by omega)]
theorem rclass_f (l : List S31) (hl : l.length ≤ 300) (c : Int) (k : Nat) (hk : 100000 ≤ k) : hornbeamref24_Class.f k l c = some (classD l c) := by
  obtain ⟨k, rfl⟩ : ∃ m, k = m + 1 := ⟨k - 1, by omega⟩
  have jt : hornbeamref24_Class.j0 (k + 1) l c true = some (0, 1) := by rw [hornbeamref24_Class.j0, if_pos rfl]
  unfold hornbeamref24_Class.f classD
  by_cases h0 : (l.length : Int) = 0
  · rw [if_pos h0, jt, if_pos (.inl h0)]
  rw [if_neg h0]
  by_cases h1 : c < 1
  · rw [if_pos h1, jt, if_pos (.inr (.inl h1))]
  rw [if_neg h1]
  by_cases h2 : c > 256
  · rw [decide_eq_true h2, jt, if_pos (.inr (.inr h2))]
  rw [decide_eq_false h2, if_neg (by omega), hornbeamref24_Class.j0, if_neg (by decide)]
  have h3 := rclass_l0 l hl c l.length (k - l.length - 1) 0 (by omega)
  rw [show k - l.length - 1 + 1 + l.length = k by omega, List.drop_zero] at h3
  refine Eq.trans h3 ?_
  by_cases hok : vote_Class.ok l c = true
  · rw [if_pos hok, if_pos hok]
    obtain ⟨z, rfl⟩ := Int.eq_ofNat_of_zero_le (a := c) (by omega)
    have hm : z * (l.length + 2) ≤ 256 * 302 := Nat.mul_le_mul (by omega) (by omega)
    obtain ⟨r, r1, r2, r3, r4, r5⟩ := rclass_l1 l hl z (by omega) z (k - l.length - 1 - (z * (l.length + 2) + 1)) 0 (-1) (Nat.le_refl _) (by omega) (.inl ⟨rfl, rfl⟩)
    rw [show k - l.length - 1 - (z * (l.length + 2) + 1) + (z * (l.length + 2) + 1) = k - l.length - 1 by omega] at r1
    rw [show wrap64 ((z : Int) - 1) = (z : Int) - 1 by unfold wrap64; omega, r1]
    have hF : Fst (vote_Class.cn l) r := by
      refine ⟨r2, by omega, fun j h4 h5 => ?_, r5⟩
      by_cases h6 : j < (z : Int)
      · exact r4 j h4 h6
      · rw [cn_out hok (.inl (by omega))]
        exact (vote_Class.cn_bound l r).1
    rw [(bst_Fst l).uniq hF]
  · rw [if_neg hok, if_neg hok]
theorem same_plus {a b : Int} (ha : In a) (hb : In b) (k : Nat) (hk : 10300 ≤ k) : ∃ r : Int × Int, prod_Plus.f a b = some r ∧ hornbeamref04_Plus.f k a b = some r ∧ In r.1 := by
  have h := rplus_f ha hb k hk
  by_cases hi : In (a + b)
  · exact ⟨_, plus_in ha hb hi, h.1 hi, hi⟩
  · exact ⟨_, plus_out ha hb hi, h.2 hi, by unfold In; omega⟩
theorem same_floor {a b : Int} (ha : In a) : ∃ r, prod_Floor.f a b = some r ∧ hornbeamref04_Floor.f a b = some r := by
  have hr := rfloor_f (b := b) ha
  by_cases h : b < 1
  · rw [if_pos h] at hr
    exact ⟨_, by unfold prod_Floor.f; rw [if_pos h], hr⟩
  · rw [if_neg h] at hr
    unfold In at ha
    exact ⟨_, floor_f ha.1 ha.2 (by omega), hr⟩
theorem same_mean_l (l : List S31) (hl : l.length ≤ 300) (hw : ∀ x ∈ l, In x.f4 ∧ In x.f5) (d : Nat) : ∀ (k i : Nat) (s c : Int), i + d = l.length → d + 10310 < k → In s → In c →
    ∃ r, vote_Mean.l0 k s c l (l.length : Int) (i : Int) = some r ∧ hornbeamref24_Mean.l0 k l s c (i : Int) = some r := by
  induction d with
  | zero =>
    intro k i s c hi hk hs hc
    obtain ⟨k, rfl⟩ : ∃ m, k = m + 1 := ⟨k - 1, by omega⟩
    obtain ⟨r, r1, r2⟩ := same_floor (b := c) hs
    exact ⟨r, by rw [vote_Mean.l0, if_neg (by omega), r1, Option.bind_some], by rw [hornbeamref24_Mean.l0, if_neg (by omega), r2, Option.bind_some]⟩
  | succ d ih =>
    intro k i s c hi hk hs hc
    obtain ⟨k, rfl⟩ : ∃ m, k = m + 1 := ⟨k - 1, by omega⟩
    have hlt : i < l.length := by omega
    have hx := hw l[i] (List.getElem_mem hlt)
    rw [vote_Mean.l0, hornbeamref24_Mean.l0, if_pos (show (i : Int) < (l.length : Int) by omega), if_pos (show (i : Int) < (l.length : Int) by omega), if_pos (show (i : Int) < (l.length : Int) by omega), if_pos (show (0 : Int) ≤ (i : Int) by omega), if_pos (show (0 : Int) ≤ (i : Int) by omega), rd_at l i hlt, show wrap64 ((i : Int) + 1) = ((i + 1 : Nat) : Int) by unfold wrap64; omega]
    by_cases h1 : l[i].f5 < 1
    · exact ⟨(0, 5), by rw [if_pos h1], by rw [if_pos h1]⟩
    obtain ⟨p, p1, p2, p3⟩ := same_plus hc hx.2 k (by omega)
    obtain ⟨q, q1, q2, q3⟩ := same_plus hs hx.1 k (by omega)
    rw [if_neg h1, if_neg h1, p1, p2, Option.bind_some, Option.bind_some]
    by_cases h2 : p.2 = 0
    · rw [if_pos h2, if_pos h2, q1, q2, Option.bind_some, Option.bind_some]
      by_cases h3 : q.2 = 0
      · rw [if_pos h3, if_pos h3]
        exact ih k (i + 1) q.1 p.1 (by omega) (by omega) q3 p3
      · exact ⟨_, by rw [if_neg h3], by rw [if_neg h3]⟩
    · exact ⟨_, by rw [if_neg h2], by rw [if_neg h2]⟩
theorem same_mean (l : List S31) (hl : l.length ≤ 300) (hw : ∀ x ∈ l, In x.f4 ∧ In x.f5) (k : Nat) (hk : 20000 ≤ k) : ∃ r, vote_Mean.f k l = some r ∧ hornbeamref24_Mean.f k l = some r := by
  unfold vote_Mean.f hornbeamref24_Mean.f
  by_cases h : (l.length : Int) = 0
  · exact ⟨(0, 1), by rw [if_pos h], by rw [if_pos h]⟩
  · rw [if_neg h, if_neg h]
    exact same_mean_l l hl hw l.length k 0 0 0 (by omega) (by omega) (by unfold In; omega) (by unfold In; omega)
theorem law_f (k : Nat) (hk : 100000 ≤ k) (l : List S31) (hw : ∀ x ∈ l, In x.f4 ∧ In x.f5) (a0 a1 a2 a3 a4 a5 a6 : Int) : hornbeamlaw24_VoteVotes.f k a0 a1 a2 a3 a4 a5 a6 l = some true := by
  unfold hornbeamlaw24_VoteVotes.f
  by_cases hl : (l.length : Int) > 300
  · rw [if_pos hl, fixed_f k (by omega), Option.bind_some]
  obtain ⟨m, m1, m2⟩ := same_mean l (by omega) hw k (by omega)
  have hv : ∃ r, vote_Vote.f k a0 a1 a2 a3 a4 a5 a6 l = some r ∧ hornbeamref24_Vote.f k a0 a1 a2 a3 a4 a5 a6 l = some r := by
    unfold vote_Vote.f hornbeamref24_Vote.f
    by_cases h0 : a0 = 0
    · exact ⟨_, by rw [if_pos h0, class_f l a1 (by omega), Option.bind_some], by rw [if_pos h0, rclass_f l (by omega) a1 k hk, Option.bind_some]⟩
    · by_cases h1 : a0 = 1
      · exact ⟨_, by rw [if_neg h0, if_pos h1, m1, Option.bind_some], by rw [if_neg h0, if_pos h1, m2, Option.bind_some]⟩
      · exact ⟨_, by rw [if_neg h0, if_neg h1], by rw [if_neg h0, if_neg h1]⟩
  obtain ⟨v, v1, v2⟩ := hv
  rw [if_neg hl, v1, Option.bind_some, v2, Option.bind_some, class_f l a1 (by omega), Option.bind_some, rclass_f l (by omega) a1 k hk, Option.bind_some, m1, Option.bind_some, m2, Option.bind_some, fixed_f k (by omega), Option.bind_some,
    if_pos rfl, if_pos rfl, if_pos rfl, if_pos rfl, if_pos rfl, if_pos rfl, beq_self_eq_true]
end VoteVotes0
open VoteVotes0
theorem VoteVotes : hornbeamlaw24_VoteVotes.Pure := by
  intro a0 a1 a2 a3 a4 a5 a6 l _ _ _ _ _ _ _ h
  exact ⟨100000, law_f 100000 (Nat.le_refl _) l (fun x hx => ⟨wf_i64 (h.2 x hx).2.2.2.2.1, wf_i64 (h.2 x hx).2.2.2.2.2⟩) a0 a1 a2 a3 a4 a5 a6⟩

end Go.Proofs.Ytglicbpnmehloaa.Pure
