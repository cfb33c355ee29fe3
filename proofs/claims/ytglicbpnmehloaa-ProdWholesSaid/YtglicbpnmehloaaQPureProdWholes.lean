/- For all whole numbers a, b the law ProdWholes answers true. No condition. -/
import Derived.Test.YtglicbpnmehloaaQProdWholesx4
import Derived.Test.YtglicbpnmehloaaP64
import Derived.Test.YtglicbpnmehloaaDig
namespace Go.Proofs.Ytglicbpnmehloaa.Pure
open Go.RowKit Go.Proofs.Ytglicbpnmehloaa.QProdWholes Go.Proofs.YtglicbpnmehloaaW.PrintWords Go.Proofs.YtglicbpnmehloaaW.PrintLast
open Go.Proofs.Ytglicbpnmehloaa.P64 Go.Proofs.Ytglicbpnmehloaa.Dig
namespace ProdWholes0
theorem digits_f {n : Int} (h0 : 0 ≤ n) (h1 : n < 18446744073709551616) : hornbeamref04_Digits.f n = some (dig4 n) := by
  unfold hornbeamref04_Digits.f dig4
  rw [Int.tmod_eq_emod_of_nonneg h0, Int.tdiv_eq_ediv_of_nonneg h0, Int.tdiv_eq_ediv_of_nonneg h0, Int.tdiv_eq_ediv_of_nonneg h0, uwrap_id (by omega) (by omega), uwrap_id (by omega) (by omega), uwrap_id (by omega) (by omega),
    Int.tmod_eq_emod_of_nonneg (by omega), Int.tmod_eq_emod_of_nonneg (by omega)]
theorem rd_nat (l : List Int) (i : Nat) : rd l (i : Int) = l.getD i 0 := rfl
theorem number_f {l : List Int} (hl : l.length = 4) (hd : Dg l) : hornbeamref04_number.f l = some (V l) := by
  obtain ⟨a, b, c, d, rfl⟩ := len4 hl
  have ha := hd.head; have hb := hd.tail.head; have hc := hd.tail.tail.head; have hdd := hd.tail.tail.tail.head
  unfold hornbeamref04_number.f
  simp only [List.length_cons, List.length_nil]
  rw [if_pos (by decide), if_pos (by decide), if_pos (by decide), if_pos (by decide)]
  simp only [rd, List.getD_cons_zero, List.getD_cons_succ, show (0 : Int).toNat = 0 from rfl, show (1 : Int).toNat = 1 from rfl, show (2 : Int).toNat = 2 from rfl, show (3 : Int).toNat = 3 from rfl, V]
  rw [uwrap_id (n := b * 65536) (by omega) (by omega), uwrap_id (n := c * 4294967296) (by omega) (by omega), uwrap_id (n := d * 281474976710656) (by omega) (by omega),
    uwrap_id (n := a + b * 65536) (by omega) (by omega), uwrap_id (n := a + b * 65536 + c * 4294967296) (by omega) (by omega), uwrap_id (by omega) (by omega)]
  congr 1; omega
theorem product_l1 (a b : List Int) (ha : Dg a) (hb : Dg b) (la : a.length ≤ 100) (lb : b.length ≤ 100) (i : Nat) (hi : i < a.length) (d : Nat) :
    ∀ (j : Nat) (o : List Int) (c : Int), j + d = b.length → o.length = a.length + b.length → Dg o → 0 ≤ c → c < 65536 → (∀ m, i + b.length ≤ m → o.getD m 0 = 0) →
    ∃ r, (∀ k, hornbeamref04_Product.l1 (k + (d + 1)) a b o (i : Int) c (j : Int) = hornbeamref04_Product.l0 k a b r ((i + 1 : Nat) : Int)) ∧ r.length = a.length + b.length ∧ Dg r ∧
      V r = V o + (a.getD i 0 * V (b.drop j)) * 65536 ^ (i + j) + c * 65536 ^ (i + j) ∧ (∀ m, i + 1 + b.length ≤ m → r.getD m 0 = 0) := by
  induction d with
  | zero =>
    intro j o c hj ho hd c0 c1 hz
    have hjb : j = b.length := by omega
    subst hjb
    refine ⟨o.set (i + b.length) c, ?_, by rw [List.length_set]; exact ho, hd.set _ c0 c1, ?_, ?_⟩
    · intro k
      rw [hornbeamref04_Product.l1, if_neg (by omega), show wrap64 ((i : Int) + (b.length : Int)) = ((i + b.length : Nat) : Int) by unfold wrap64; omega, if_pos (by omega), if_pos (by omega),
        show wrap64 ((i : Int) + 1) = ((i + 1 : Nat) : Int) by unfold wrap64; omega]
      rfl
    · rw [V_set _ _ (by omega), hz _ (Nat.le_refl _), List.drop_length, V, Int.mul_zero, Int.zero_mul, Int.add_zero, Int.sub_zero]
    · intro m hm
      rw [digs_set_ne _ (by omega)]
      exact hz m (by omega)
  | succ d ih =>
    intro j o c hj ho hd c0 c1 hz
    have hA := ha.getD i; have hB := hb.getD j; have hO := hd.getD (i + j)
    have hP := mul_bound16 hA.1 hA.2 hB.1 hB.2
    obtain ⟨n, hn⟩ : ∃ n, n = o.getD (i + j) 0 + a.getD i 0 * b.getD j 0 + c := ⟨_, rfl⟩
    have n0 : 0 ≤ n := by omega
    have n1 : n < 4294967296 := by omega
    obtain ⟨r, hr, r1, r2, r3, r4⟩ := ih (j + 1) (o.set (i + j) (n % 65536)) (n / 65536) (by omega) (by rw [List.length_set]; exact ho) (hd.set _ (by omega) (by omega)) (by omega) (by omega) (by
      intro m hm
      rw [digs_set_ne _ (by omega)]
      exact hz m hm)
    refine ⟨r, ?_, r1, r2, ?_, r4⟩
    · intro k
      rw [show k + (d + 1 + 1) = k + (d + 1) + 1 by omega, hornbeamref04_Product.l1, if_pos (by omega), show wrap64 ((i : Int) + (j : Int)) = ((i + j : Nat) : Int) by unfold wrap64; omega, if_pos (by omega), if_pos (by omega), if_pos (by omega), if_pos (by omega), if_pos (by omega)]
      rw [rd_nat, rd_nat, rd_nat, uwrap_id (n := a.getD i 0 * b.getD j 0) (by omega) (by omega), uwrap_id (n := o.getD (i + j) 0 + a.getD i 0 * b.getD j 0) (by omega) (by omega), ← hn, uwrap_id (n := n) (by omega) (by omega),
        Int.tmod_eq_emod_of_nonneg n0, Int.tdiv_eq_ediv_of_nonneg n0, uwrap_id (by omega) (by omega), show wrap64 ((j : Int) + 1) = ((j + 1 : Nat) : Int) by unfold wrap64; omega]
      exact hr k
    · rw [r3, V_set _ _ (by omega), V_drop j (by omega), show i + (j + 1) = i + j + 1 by omega, Int.pow_succ]
      generalize (65536 : Int) ^ (i + j) = P at *
      generalize V (b.drop (j + 1)) = W at *
      have e1 : a.getD i 0 * (b.getD j 0 + 65536 * W) * P = a.getD i 0 * b.getD j 0 * P + a.getD i 0 * W * (P * 65536) := by
        rw [Int.mul_add, Int.add_mul, Int.mul_left_comm (a.getD i 0) 65536 W, Int.mul_comm 65536 (a.getD i 0 * W), Int.mul_assoc (a.getD i 0 * W), Int.mul_comm 65536 P]
      rw [e1]
      have e2 : a.getD i 0 * b.getD j 0 * P + c * P = (n - o.getD (i + j) 0) * P := by rw [← Int.add_mul]; congr 1; omega
      have e3 : (n % 65536 - o.getD (i + j) 0) * P + n / 65536 * (P * 65536) = (n - o.getD (i + j) 0) * P := by
        rw [Int.mul_comm P 65536, ← Int.mul_assoc, ← Int.add_mul]; congr 1; omega
      omega
theorem product_l0 (a b : List Int) (ha : Dg a) (hb : Dg b) (la : a.length ≤ 100) (lb : b.length ≤ 100) (d : Nat) :
    ∀ (i : Nat) (o : List Int), i + d = a.length → o.length = a.length + b.length → Dg o → (∀ m, i + b.length ≤ m → o.getD m 0 = 0) →
    ∃ r, (∀ k, hornbeamref04_Product.l0 (k + (d * (b.length + 2) + 1)) a b o (i : Int) = some r) ∧ r.length = a.length + b.length ∧ Dg r ∧ V r = V o + V (a.drop i) * V b * 65536 ^ i := by
  induction d with
  | zero =>
    intro i o hi ho hd hz
    refine ⟨o, ?_, ho, hd, ?_⟩
    · intro k
      rw [Nat.zero_mul, Nat.zero_add, hornbeamref04_Product.l0, if_neg (by omega)]
    · rw [List.drop_eq_nil_of_le (by omega), V, Int.zero_mul, Int.zero_mul, Int.add_zero]
  | succ d ih =>
    intro i o hi ho hd hz
    obtain ⟨o1, h1, h2, h3, h4, h5⟩ := product_l1 a b ha hb la lb i (by omega) b.length 0 o 0 (by omega) ho hd (by omega) (by omega) hz
    obtain ⟨r, g1, g2, g3, g4⟩ := ih (i + 1) o1 (by omega) h2 h3 h5
    refine ⟨r, ?_, g2, g3, ?_⟩
    · intro k
      rw [show k + ((d + 1) * (b.length + 2) + 1) = k + (d * (b.length + 2) + 1) + (b.length + 1) + 1 by rw [Nat.add_mul]; omega, hornbeamref04_Product.l0, if_pos (by omega)]
      exact (h1 _).trans (g1 k)
    · rw [g4, h4, V_drop i (by omega), List.drop_zero, Nat.add_zero, Int.zero_mul, Int.add_zero, Int.pow_succ]
      generalize (65536 : Int) ^ i = P at *
      generalize V (a.drop (i + 1)) = W at *
      generalize V b = Y at *
      rw [Int.add_mul, Int.add_mul, Int.mul_comm P 65536, ← Int.mul_assoc (W * Y), Int.mul_comm (W * Y) 65536, ← Int.mul_assoc 65536 W Y]
      omega
theorem product_f (a b : List Int) (ha : Dg a) (hb : Dg b) (la : a.length ≤ 100) (lb : b.length ≤ 100) :
    ∃ r, (∀ k, 10300 ≤ k → hornbeamref04_Product.f k a b = some r) ∧ r.length = a.length + b.length ∧ Dg r ∧ V r = V a * V b := by
  have e : wrap64 ((a.length : Int) + (b.length : Int)) = ((a.length + b.length : Nat) : Int) := by unfold wrap64; omega
  obtain ⟨r, h1, h2, h3, h4⟩ := product_l0 a b ha hb la lb a.length 0 (List.replicate (a.length + b.length) 0) (by omega) (List.length_replicate) (Dg.replicate _) (by
    intro m _
    by_cases h : m < a.length + b.length <;> simp [List.getD, h])
  refine ⟨r, ?_, h2, h3, ?_⟩
  · intro k hk
    have hm : a.length * (b.length + 2) ≤ 100 * 102 := Nat.mul_le_mul la (by omega)
    unfold hornbeamref04_Product.f
    rw [e, if_pos (by omega), Int.toNat_natCast, if_pos (by omega)]
    have := h1 (k - (a.length * (b.length + 2) + 1))
    rw [show k - (a.length * (b.length + 2) + 1) + (a.length * (b.length + 2) + 1) = k by omega] at this
    exact this
  · rw [h4, V_replicate, List.drop_zero, Int.pow_zero, Int.mul_one, Int.zero_add]
theorem rmul_f {a b : Int} (a0 : 0 ≤ a) (a1 : a < 18446744073709551616) (b0 : 0 ≤ b) (b1 : b < 18446744073709551616) (k : Nat) (hk : 10300 ≤ k) :
    hornbeamref04_Mul.f k a b = some (a * b / 18446744073709551616, a * b % 18446744073709551616) := by
  obtain ⟨r, h1, h2, h3, h4⟩ := product_f (dig4 a) (dig4 b) (dig4_Dg a0 a1) (dig4_Dg b0 b1) (by rw [dig4_len]; omega) (by rw [dig4_len]; omega)
  rw [dig4_len, dig4_len] at h2
  rw [dig4_V, dig4_V] at h4
  unfold hornbeamref04_Mul.f
  have t1 : (r.take 4).length = 4 := by rw [List.length_take]; omega
  have t2 : (r.drop 4).length = 4 := by rw [List.length_drop]; omega
  rw [digits_f a0 a1, Option.bind_some, digits_f b0 b1, Option.bind_some, h1 k hk, Option.bind_some, if_pos (by omega), number_f t2 (h3.drop 4), Option.bind_some, number_f t1 (h3.take 4), Option.bind_some]
  have e := V_take_drop r 4 (by omega)
  have u1 := V_lt (h3.take 4); have u2 := V_nonneg (h3.take 4)
  rw [t1] at u1
  rw [h4] at e
  rw [show (65536 : Int) ^ 4 = 18446744073709551616 from rfl] at e u1
  simp only [Option.some.injEq, Prod.mk.injEq]
  omega
theorem rsize_f {a : Int} (a0 : -9223372036854775808 ≤ a) (a1 : a ≤ 9223372036854775807) : hornbeamref04_Size.f a = some ((a.natAbs : Nat) : Int) := by
  unfold hornbeamref04_Size.f
  split
  · rw [uwrap_id (by omega) (by omega)]; congr 1; omega
  · rw [wrap64_id (n := a + 1) (by omega) (by omega), wrap64_id (by omega) (by omega), uwrap_id (n := -(a + 1)) (by omega) (by omega), uwrap_id (by omega) (by omega)]; congr 1; omega
theorem sum_l (a b : List Int) (ha : Dg a) (hb : Dg b) (hl : a.length = b.length) (la : a.length ≤ 100) (d : Nat) :
    ∀ (i : Nat) (o : List Int) (c : Int), i + d = a.length → o.length ≤ i → 0 ≤ c → c ≤ 1 →
    ∃ r, (∀ k, hornbeamref04_Sum.l0 (k + (d + 1)) a b o c (i : Int) = some (o ++ r)) ∧ r.length = d + 1 ∧ Dg r ∧ V r = V (a.drop i) + V (b.drop i) + c := by
  induction d with
  | zero =>
    intro i o c hi ho c0 c1
    refine ⟨[c], ?_, rfl, Dg.cons (by omega) (by omega) Dg.nil, ?_⟩
    · intro k
      rw [hornbeamref04_Sum.l0, if_neg (by omega), if_pos (by omega)]
    · rw [List.drop_eq_nil_of_le (by omega), List.drop_eq_nil_of_le (by omega)]; simp [V]
  | succ d ih =>
    intro i o c hi ho c0 c1
    have hA := ha.getD i; have hB := hb.getD i
    obtain ⟨n, hn⟩ : ∃ n, n = a.getD i 0 + b.getD i 0 + c := ⟨_, rfl⟩
    have n0 : 0 ≤ n := by omega
    have n1 : n < 131072 := by omega
    obtain ⟨r, h1, h2, h3, h4⟩ := ih (i + 1) (o ++ [n % 65536]) (n / 65536) (by omega) (by rw [List.length_append, List.length_singleton]; omega) (by omega) (by omega)
    refine ⟨n % 65536 :: r, ?_, by rw [List.length_cons, h2], Dg.cons (by omega) (by omega) h3, ?_⟩
    · intro k
      rw [show k + (d + 1 + 1) = k + (d + 1) + 1 by omega, hornbeamref04_Sum.l0, if_pos (by omega), if_pos (by omega), if_pos (by omega), if_pos (by omega), rd_nat, rd_nat,
        uwrap_id (n := a.getD i 0 + b.getD i 0) (by omega) (by omega), ← hn, uwrap_id (n := n) (by omega) (by omega), Int.tmod_eq_emod_of_nonneg n0, Int.tdiv_eq_ediv_of_nonneg n0, uwrap_id (by omega) (by omega),
        show wrap64 ((i : Int) + 1) = ((i + 1 : Nat) : Int) by unfold wrap64; omega]
      rw [h1 k, List.append_assoc]; rfl
    · rw [V, h4, V_drop i (by omega), V_drop (l := b) i (by omega)]
      generalize V (a.drop (i + 1)) = p at *
      generalize V (b.drop (i + 1)) = q at *
      omega
theorem sum_f (a b : List Int) (ha : Dg a) (hb : Dg b) (hl : a.length = b.length) (la : a.length ≤ 100) :
    ∃ r, (∀ k, 101 ≤ k → hornbeamref04_Sum.f k a b = some r) ∧ r.length = a.length + 1 ∧ Dg r ∧ V r = V a + V b := by
  obtain ⟨r, h1, h2, h3, h4⟩ := sum_l a b ha hb hl la a.length 0 [] 0 (by omega) (by simp) (by omega) (by omega)
  refine ⟨r, ?_, h2, h3, ?_⟩
  · intro k hk
    have := h1 (k - (a.length + 1))
    rw [show k - (a.length + 1) + (a.length + 1) = k by omega] at this
    exact this
  · rw [h4, List.drop_zero, List.drop_zero, Int.add_zero]
def In (n : Int) : Prop := -9223372036854775808 ≤ n ∧ n ≤ 9223372036854775807
/-- A number of a sign and a size. -/
def sg (below : Bool) (n : Int) : Int := if below = true then -n else n
theorem whole_j (k : Nat) (below : Bool) {n : Int} (n0 : 0 < n) (n1 : n < 18446744073709551616) :
    (In (sg below n) → (if below = true then hornbeamref04_whole.j1 (k + 1) below n false else hornbeamref04_whole.j1 (k + 1) below n (decide (n ≤ 9223372036854775807))) = some (sg below n, 0)) ∧
    (¬ In (sg below n) → (if below = true then hornbeamref04_whole.j1 (k + 1) below n false else hornbeamref04_whole.j1 (k + 1) below n (decide (n ≤ 9223372036854775807))) = some (0, 6)) := by
  unfold In sg
  cases below with
  | true =>
    simp only [if_true, hornbeamref04_whole.j1, Bool.false_eq_true, if_false]
    constructor
    · intro h
      rw [if_pos (by omega), uwrap_id (by omega) (by omega), wrap64_id (n := n - 1) (by omega) (by omega), wrap64_id (n := -(n - 1)) (by omega) (by omega), wrap64_id (by omega) (by omega)]
      congr 2; omega
    · intro h
      rw [if_neg (by omega)]
  | false =>
    simp only [Bool.false_eq_true, if_false, hornbeamref04_whole.j1, decide_eq_true_eq]
    constructor
    · intro h
      rw [if_pos (by omega), wrap64_id (by omega) (by omega)]
    · intro h
      rw [if_neg (by omega)]
theorem whole_l (below : Bool) {l : List Int} (hd : Dg l) (h4 : 4 ≤ l.length) (h100 : l.length ≤ 100) (d : Nat) : ∀ (i : Nat), i + d = l.length → 4 ≤ i →
    ∀ k, (V (l.drop i) = 0 → hornbeamref04_whole.l0 (k + 1 + (d + 1)) below l (i : Int) = (if V (l.take 4) = 0 then some (0, 0) else (if below = true then hornbeamref04_whole.j1 (k + 1) below (V (l.take 4)) false else hornbeamref04_whole.j1 (k + 1) below (V (l.take 4)) (decide (V (l.take 4) ≤ 9223372036854775807))))) ∧
      (V (l.drop i) ≠ 0 → hornbeamref04_whole.l0 (k + 1 + (d + 1)) below l (i : Int) = some (0, 6)) := by
  induction d with
  | zero =>
    intro i hi h4i k
    rw [List.drop_eq_nil_of_le (by omega)]
    refine ⟨fun _ => ?_, fun h => absurd rfl h⟩
    rw [hornbeamref04_whole.l0, if_neg (by omega), if_pos (by omega), number_f (by rw [List.length_take]; omega) (hd.take 4), Option.bind_some]
  | succ d ih =>
    intro i hi h4i k
    have hO := hd.getD i
    have hV := V_nonneg (hd.drop (i + 1))
    rw [V_drop i (by omega), show k + 1 + (d + 1 + 1) = k + 1 + (d + 1) + 1 by omega, hornbeamref04_whole.l0, if_pos (by omega), if_pos (by omega), rd_nat, show wrap64 ((i : Int) + 1) = ((i + 1 : Nat) : Int) by unfold wrap64; omega]
    by_cases h0 : l.getD i 0 > 0
    · rw [if_pos h0]
      exact ⟨fun h => by omega, fun _ => rfl⟩
    · rw [if_neg h0]
      have := ih (i + 1) (by omega) (by omega) k
      exact ⟨fun h => this.1 (by omega), fun h => this.2 (by omega)⟩
theorem whole_f (below : Bool) {l : List Int} (hd : Dg l) (h4 : 4 ≤ l.length) (h100 : l.length ≤ 100) (k : Nat) (hk : 200 ≤ k) :
    (In (sg below (V l)) → hornbeamref04_whole.f k below l = some (sg below (V l), 0)) ∧ (¬ In (sg below (V l)) → hornbeamref04_whole.f k below l = some (0, 6)) := by
  have hw := whole_l below hd h4 h100 (l.length - 4) 4 (by omega) (by omega) (k - 2 - (l.length - 4))
  rw [show k - 2 - (l.length - 4) + 1 + (l.length - 4 + 1) = k by omega] at hw
  have e := V_take_drop l 4 h4
  have u1 := V_lt (hd.take 4); have u2 := V_nonneg (hd.take 4); have u3 := V_nonneg (hd.drop 4)
  rw [List.length_take, Nat.min_eq_left h4] at u1
  rw [show (65536 : Int) ^ 4 = 18446744073709551616 from rfl] at e u1
  unfold hornbeamref04_whole.f
  by_cases h0 : V (l.drop 4) = 0
  · have e2 : V l = V (l.take 4) := by rw [e, h0]; omega
    have hw1 : hornbeamref04_whole.l0 k below l 4 = _ := hw.1 h0
    rw [hw1, e2]
    clear e2 hw1 hw e h0 u3
    generalize V (l.take 4) = n at *
    by_cases hn : n = 0
    · subst hn
      have : sg below 0 = 0 := by unfold sg; split <;> rfl
      rw [if_pos rfl, this]
      exact ⟨fun _ => rfl, fun h => absurd (by unfold In; omega) h⟩
    · rw [if_neg hn]
      exact whole_j _ below (by omega) u1
  · have hw1 : hornbeamref04_whole.l0 k below l 4 = _ := hw.2 h0
    rw [hw1]
    refine ⟨fun h => ?_, fun _ => rfl⟩
    exfalso
    unfold In sg at h
    split at h <;> omega
theorem rplus_f {a b : Int} (ha : In a) (hb : In b) (k : Nat) (hk : 10300 ≤ k) : (In (a + b) → hornbeamref04_Plus.f k a b = some (a + b, 0)) ∧ (¬ In (a + b) → hornbeamref04_Plus.f k a b = some (0, 6)) := by
  unfold In at ha hb
  unfold hornbeamref04_Plus.f
  rw [rsize_f ha.1 ha.2, Option.bind_some, rsize_f hb.1 hb.2, Option.bind_some]
  have x0 : (0 : Int) ≤ (a.natAbs : Nat) ∧ ((a.natAbs : Nat) : Int) ≤ 9223372036854775808 := by omega
  have y0 : (0 : Int) ≤ (b.natAbs : Nat) ∧ ((b.natAbs : Nat) : Int) ≤ 9223372036854775808 := by omega
  by_cases hs : ((decide (a < 0)) == (decide (b < 0))) = true
  · rw [if_pos hs, digits_f (by omega) (by omega), Option.bind_some, digits_f (by omega) (by omega), Option.bind_some]
    obtain ⟨r, h1, h2, h3, h4⟩ := sum_f (dig4 (a.natAbs : Nat)) (dig4 (b.natAbs : Nat)) (dig4_Dg (by omega) (by omega)) (dig4_Dg (by omega) (by omega)) rfl (by rw [dig4_len]; omega)
    rw [dig4_V, dig4_V] at h4
    rw [dig4_len] at h2
    rw [h1 k (by omega), Option.bind_some]
    have hw := whole_f (decide (a < 0)) h3 (by omega) (by omega) k (by omega)
    have e : sg (decide (a < 0)) (V r) = a + b := by
      rw [beq_iff_eq, decide_eq_decide] at hs
      unfold sg; rw [h4]; simp only [decide_eq_true_eq]; split <;> omega
    rw [e] at hw
    exact ⟨fun h => by rw [hw.1 h, Option.bind_some], fun h => by rw [hw.2 h, Option.bind_some]⟩
  · rw [if_neg hs]
    rw [beq_iff_eq, decide_eq_decide] at hs
    by_cases hc : ((a.natAbs : Nat) : Int) ≥ ((b.natAbs : Nat) : Int)
    · rw [if_pos hc, uwrap_id (by omega) (by omega), digits_f (by omega) (by omega), Option.bind_some]
      have hw := whole_f (decide (a < 0)) (dig4_Dg (n := ((a.natAbs : Nat) : Int) - (b.natAbs : Nat)) (by omega) (by omega)) (by rw [dig4_len]; omega) (by rw [dig4_len]; omega) k (by omega)
      have e : sg (decide (a < 0)) (((a.natAbs : Nat) : Int) - (b.natAbs : Nat)) = a + b := by
        unfold sg; simp only [decide_eq_true_eq]; split <;> omega
      rw [dig4_V, e] at hw
      exact ⟨fun h => by rw [hw.1 h, Option.bind_some], fun h => by rw [hw.2 h, Option.bind_some]⟩
    · rw [if_neg hc, uwrap_id (by omega) (by omega), digits_f (by omega) (by omega), Option.bind_some]
      have hw := whole_f (decide (b < 0)) (dig4_Dg (n := ((b.natAbs : Nat) : Int) - (a.natAbs : Nat)) (by omega) (by omega)) (by rw [dig4_len]; omega) (by rw [dig4_len]; omega) k (by omega)
      have e : sg (decide (b < 0)) (((b.natAbs : Nat) : Int) - (a.natAbs : Nat)) = a + b := by
        unfold sg; simp only [decide_eq_true_eq]; split <;> omega
      rw [dig4_V, e] at hw
      exact ⟨fun h => by rw [hw.1 h, Option.bind_some], fun h => by rw [hw.2 h, Option.bind_some]⟩
theorem rminus_f {a b : Int} (ha : In a) (hb : In b) (k : Nat) (hk : 10300 ≤ k) : (In (a - b) → hornbeamref04_Minus.f k a b = some (a - b, 0)) ∧ (¬ In (a - b) → hornbeamref04_Minus.f k a b = some (0, 6)) := by
  unfold In at ha hb
  unfold hornbeamref04_Minus.f
  rw [rsize_f ha.1 ha.2, Option.bind_some, rsize_f hb.1 hb.2, Option.bind_some]
  have x0 : (0 : Int) ≤ (a.natAbs : Nat) ∧ ((a.natAbs : Nat) : Int) ≤ 9223372036854775808 := by omega
  have y0 : (0 : Int) ≤ (b.natAbs : Nat) ∧ ((b.natAbs : Nat) : Int) ≤ 9223372036854775808 := by omega
  by_cases hs : ((decide (a < 0)) != (decide (b < 0))) = true
  · rw [if_pos hs, digits_f (by omega) (by omega), Option.bind_some, digits_f (by omega) (by omega), Option.bind_some]
    obtain ⟨r, h1, h2, h3, h4⟩ := sum_f (dig4 (a.natAbs : Nat)) (dig4 (b.natAbs : Nat)) (dig4_Dg (by omega) (by omega)) (dig4_Dg (by omega) (by omega)) rfl (by rw [dig4_len]; omega)
    rw [dig4_V, dig4_V] at h4
    rw [dig4_len] at h2
    rw [h1 k (by omega), Option.bind_some]
    have hw := whole_f (decide (a < 0)) h3 (by omega) (by omega) k (by omega)
    have e : sg (decide (a < 0)) (V r) = a - b := by
      rw [bne_iff_ne, ne_eq, decide_eq_decide] at hs
      unfold sg; rw [h4]; simp only [decide_eq_true_eq]; split <;> omega
    rw [e] at hw
    exact ⟨fun h => by rw [hw.1 h, Option.bind_some], fun h => by rw [hw.2 h, Option.bind_some]⟩
  · rw [if_neg hs]
    rw [bne_iff_ne, ne_eq, decide_eq_decide] at hs
    by_cases hc : ((a.natAbs : Nat) : Int) ≥ ((b.natAbs : Nat) : Int)
    · rw [if_pos hc, uwrap_id (by omega) (by omega), digits_f (by omega) (by omega), Option.bind_some]
      have hw := whole_f (decide (a < 0)) (dig4_Dg (n := ((a.natAbs : Nat) : Int) - (b.natAbs : Nat)) (by omega) (by omega)) (by rw [dig4_len]; omega) (by rw [dig4_len]; omega) k (by omega)
      have e : sg (decide (a < 0)) (((a.natAbs : Nat) : Int) - (b.natAbs : Nat)) = a - b := by
        unfold sg; simp only [decide_eq_true_eq]; split <;> omega
      rw [dig4_V, e] at hw
      exact ⟨fun h => by rw [hw.1 h, Option.bind_some], fun h => by rw [hw.2 h, Option.bind_some]⟩
    · rw [if_neg hc, uwrap_id (by omega) (by omega), digits_f (by omega) (by omega), Option.bind_some]
      have hw := whole_f (decide (a ≥ 0)) (dig4_Dg (n := ((b.natAbs : Nat) : Int) - (a.natAbs : Nat)) (by omega) (by omega)) (by rw [dig4_len]; omega) (by rw [dig4_len]; omega) k (by omega)
      have e : sg (decide (a ≥ 0)) (((b.natAbs : Nat) : Int) - (a.natAbs : Nat)) = a - b := by
        unfold sg; simp only [decide_eq_true_eq]; split <;> omega
      rw [dig4_V, e] at hw
      exact ⟨fun h => by rw [hw.1 h, Option.bind_some], fun h => by rw [hw.2 h, Option.bind_some]⟩
theorem rfloor_f {a b : Int} (ha : In a) : hornbeamref04_Floor.f a b = if b < 1 then some (0, 1) else some (a / b, 0) := by
  unfold In at ha
  unfold hornbeamref04_Floor.f
  by_cases hb : b < 1
  · rw [if_pos hb, if_pos hb]
  · have hq := ediv_bounds ha.1 ha.2 (b := b) (by omega)
    rw [if_neg hb, if_neg hb]
    by_cases h : a ≥ 0
    · rw [if_pos h, if_neg (by omega), Int.tdiv_eq_ediv_of_nonneg h, wrap64_id hq.1 hq.2]
    · have hk := ediv_bounds (a := -(a + 1)) (b := b) (by omega) (by omega) (by omega)
      have hk0 := Int.ediv_nonneg (a := -(a + 1)) (b := b) (by omega) (by omega)
      have e : -(-(a + 1) / b) - 1 = a / b := by
        have h1 := Int.mul_ediv_add_emod (-(a + 1)) b
        have h2 := Int.emod_nonneg (-(a + 1)) (b := b) (by omega)
        have h3 := Int.emod_lt_of_pos (-(a + 1)) (b := b) (by omega)
        symm
        refine (Int.ediv_eq_iff_of_pos (by omega)).2 ?_
        have e2 : (-(-(a + 1) / b) - 1) * b = -(b * (-(a + 1) / b)) - b := by rw [Int.sub_mul, Int.neg_mul, Int.one_mul, Int.mul_comm]
        rw [e2]
        constructor
        · omega
        · omega
      rw [if_neg h, if_neg (by omega), wrap64_id (n := a + 1) (by omega) (by omega), wrap64_id (n := -(a + 1)) (by omega) (by omega), Int.tdiv_eq_ediv_of_nonneg (by omega), wrap64_id (n := -(a + 1) / b) hk.1 hk.2,
        wrap64_id (n := -(-(a + 1) / b)) (by omega) (by omega), wrap64_id (by omega) (by omega), e]
theorem mul_f (a b : Int) : prod_Mul.f a b = some (mul64 a b) := rfl
theorem mul_eq {a b : Int} (a0 : 0 ≤ a) (a1 : a < 18446744073709551616) (b0 : 0 ≤ b) (b1 : b < 18446744073709551616) :
    prod_Mul.f a b = some (a * b / 18446744073709551616, a * b % 18446744073709551616) := by rw [mul_f, mul64_eq a0 a1 b0 b1]
theorem size_f (a : Int) : prod_size.f a = some (sizeI a) := by unfold prod_size.f sizeI; split <;> rfl
theorem square_f {a : Int} : prod_Square.f a = some (mul64 (sizeI a) (sizeI a)) := by
  unfold prod_Square.f
  rw [size_f, Option.bind_some, Option.bind_some, mul_f, Option.bind_some]
theorem floor_f {a b : Int} (a0 : -9223372036854775808 ≤ a) (a1 : a ≤ 9223372036854775807) (hb : 1 ≤ b) : prod_Floor.f a b = some (a / b, 0) := by
  unfold prod_Floor.f
  rw [if_neg (by omega), if_neg (by omega)]
  exact floor_eq a0 a1 hb
theorem fixed_f : hornbeamlaw04_fixed.f = some true := by
  unfold hornbeamlaw04_fixed.f
  rw [floor_f (by omega) (by omega) (by omega), Option.bind_some, if_pos rfl, if_pos (by decide), square_f, Option.bind_some, sizeI_eq (by omega) (by omega), mul64_eq (by omega) (by omega) (by omega) (by omega)]
  rfl
theorem plus_in {a b : Int} (ha : In a) (hb : In b) (h : In (a + b)) : prod_Plus.f a b = some (a + b, 0) := by
  unfold In at *
  unfold prod_Plus.f
  rw [wrap64_id h.1 h.2]
  split
  · rename_i h1
    rw [if_neg]
    rw [beq_iff_eq, decide_eq_decide] at h1
    rw [bne_iff_ne, ne_eq, decide_eq_decide]
    omega
  · rfl
theorem plus_out {a b : Int} (ha : In a) (hb : In b) (h : ¬ In (a + b)) : prod_Plus.f a b = some (0, 6) := by
  unfold In at *
  unfold prod_Plus.f
  rw [if_pos, if_pos]
  · rw [bne_iff_ne, ne_eq, decide_eq_decide]; unfold wrap64; omega
  · rw [beq_iff_eq, decide_eq_decide]; omega
theorem minus_in {a b : Int} (ha : In a) (hb : In b) (h : In (a - b)) : prod_Minus.f a b = some (a - b, 0) := by
  unfold In at *
  unfold prod_Minus.f
  rw [wrap64_id h.1 h.2]
  split
  · rename_i h1
    rw [if_neg]
    rw [bne_iff_ne, ne_eq, decide_eq_decide] at h1
    rw [bne_iff_ne, ne_eq, decide_eq_decide]
    omega
  · rfl
theorem minus_out {a b : Int} (ha : In a) (hb : In b) (h : ¬ In (a - b)) : prod_Minus.f a b = some (0, 6) := by
  unfold In at *
  unfold prod_Minus.f
  rw [if_pos, if_pos]
  · rw [bne_iff_ne, ne_eq, decide_eq_decide]; unfold wrap64; omega
  · rw [bne_iff_ne, ne_eq, decide_eq_decide]; omega
/-- A product's sign and size. -/
theorem mul_parts (a b : Int) : ∃ P : Int, 0 ≤ P ∧ (a.natAbs : Int) * b.natAbs = P ∧
    (((decide (a < 0)) != (decide (b < 0))) = true → a * b = -P) ∧ (((decide (a < 0)) != (decide (b < 0))) = false → a * b = P) := by
  refine ⟨_, Int.mul_nonneg (by omega) (by omega), rfl, ?_, ?_⟩
  · intro h
    rw [bne_iff_ne, ne_eq, decide_eq_decide] at h
    rcases Int.lt_or_le a 0 with h1 | h1
    · have e1 : (a.natAbs : Int) = -a := by omega
      have e2 : (b.natAbs : Int) = b := by omega
      rw [e1, e2, Int.neg_mul]; omega
    · have e1 : (a.natAbs : Int) = a := by omega
      have e2 : (b.natAbs : Int) = -b := by omega
      rw [e1, e2, Int.mul_neg]; omega
  · intro h
    rw [bne_eq_false_iff_eq, decide_eq_decide] at h
    rcases Int.lt_or_le a 0 with h1 | h1
    · have e1 : (a.natAbs : Int) = -a := by omega
      have e2 : (b.natAbs : Int) = -b := by omega
      rw [e1, e2, Int.neg_mul_neg]
    · have e1 : (a.natAbs : Int) = a := by omega
      have e2 : (b.natAbs : Int) = b := by omega
      rw [e1, e2]
theorem product_f' (k : Nat) {a b : Int} (ha : In a) (hb : In b) :
    (In (a * b) → prod_Product.f (k + 1) a b = some (a * b, 0)) ∧ (¬ In (a * b) → prod_Product.f (k + 1) a b = some (0, 6)) := by
  obtain ⟨P, hP, e, h1, h2⟩ := mul_parts a b
  have hf : prod_Product.f (k + 1) a b = (if P / 18446744073709551616 = 0 then (if (((decide (a < 0)) != (decide (b < 0))) = true) then (prod_Product.j0 (k + 1) ((decide (a < 0)) != (decide (b < 0))) false (P / 18446744073709551616) (P % 18446744073709551616)) else (prod_Product.j0 (k + 1) ((decide (a < 0)) != (decide (b < 0))) (decide (P % 18446744073709551616 ≤ 9223372036854775807)) (P / 18446744073709551616) (P % 18446744073709551616))) else (some (0, 6))) := by
    unfold In at ha hb
    unfold prod_Product.f
    rw [size_f, Option.bind_some, size_f, Option.bind_some, mul_f, Option.bind_some, sizeI_eq ha.1 ha.2, sizeI_eq hb.1 hb.2, mul64_eq (by omega) (by omega) (by omega) (by omega), e]
  rw [hf]
  clear hf
  unfold In at *
  by_cases hs : ((decide (a < 0)) != (decide (b < 0))) = true
  · have e3 := h1 hs
    rw [e3, if_pos hs, hs]
    simp only [prod_Product.j0]
    clear e e3 h1 h2 hs
    constructor
    · intro h
      rw [if_pos (by omega), if_neg (by decide), if_pos True.intro, if_pos (by omega)]
      congr 2
      unfold wrap64; omega
    · intro h
      by_cases h0 : P / 18446744073709551616 = 0
      · rw [if_pos h0, if_neg (by decide), if_pos True.intro, if_neg (by omega)]
      · rw [if_neg h0]
  · have hs2 : ((decide (a < 0)) != (decide (b < 0))) = false := by simpa using hs
    have e3 := h2 hs2
    rw [e3, if_neg hs, hs2]
    simp only [prod_Product.j0, decide_eq_true_eq]
    clear e e3 h1 h2 hs hs2
    constructor
    · intro h
      rw [if_pos (by omega), if_pos (by omega)]
      congr 2
      unfold wrap64; omega
    · intro h
      by_cases h0 : P / 18446744073709551616 = 0
      · rw [if_pos h0, if_neg (by omega), if_neg (by decide)]
      · rw [if_neg h0]
theorem rtimes_f {a b : Int} (ha : In a) (hb : In b) (k : Nat) (hk : 10300 ≤ k) : (In (a * b) → hornbeamref04_Times64.f k a b = some (a * b, 0)) ∧ (¬ In (a * b) → hornbeamref04_Times64.f k a b = some (0, 6)) := by
  obtain ⟨P, hP, e, h1, h2⟩ := mul_parts a b
  unfold In at ha hb
  unfold hornbeamref04_Times64.f
  rw [rsize_f ha.1 ha.2, Option.bind_some, digits_f (by omega) (by omega), Option.bind_some, rsize_f hb.1 hb.2, Option.bind_some, digits_f (by omega) (by omega), Option.bind_some]
  obtain ⟨r, g1, g2, g3, g4⟩ := product_f (dig4 (a.natAbs : Nat)) (dig4 (b.natAbs : Nat)) (dig4_Dg (by omega) (by omega)) (dig4_Dg (by omega) (by omega)) (by rw [dig4_len]; omega) (by rw [dig4_len]; omega)
  rw [dig4_V, dig4_V, e] at g4
  rw [dig4_len, dig4_len] at g2
  rw [g1 k hk, Option.bind_some]
  have hw := whole_f ((decide (a < 0)) != (decide (b < 0))) g3 (by omega) (by omega) k (by omega)
  have e2 : sg ((decide (a < 0)) != (decide (b < 0))) (V r) = a * b := by
    unfold sg; rw [g4]
    split
    · rename_i h; exact (h1 h).symm
    · rename_i h; exact (h2 (by simpa using h)).symm
  rw [e2] at hw
  exact ⟨fun h => by rw [hw.1 h, Option.bind_some], fun h => by rw [hw.2 h, Option.bind_some]⟩
theorem same_plus {a b : Int} (ha : In a) (hb : In b) (k : Nat) (hk : 10300 ≤ k) : ∃ r, prod_Plus.f a b = some r ∧ hornbeamref04_Plus.f k a b = some r := by
  have h := rplus_f ha hb k hk
  by_cases hi : In (a + b)
  · exact ⟨_, plus_in ha hb hi, h.1 hi⟩
  · exact ⟨_, plus_out ha hb hi, h.2 hi⟩
theorem same_minus {a b : Int} (ha : In a) (hb : In b) (k : Nat) (hk : 10300 ≤ k) : ∃ r, prod_Minus.f a b = some r ∧ hornbeamref04_Minus.f k a b = some r := by
  have h := rminus_f ha hb k hk
  by_cases hi : In (a - b)
  · exact ⟨_, minus_in ha hb hi, h.1 hi⟩
  · exact ⟨_, minus_out ha hb hi, h.2 hi⟩
theorem same_times {a b : Int} (ha : In a) (hb : In b) (k : Nat) (hk : 10300 ≤ k) : ∃ r, prod_Product.f k a b = some r ∧ hornbeamref04_Times64.f k a b = some r := by
  have h := rtimes_f ha hb k hk
  obtain ⟨m, rfl⟩ : ∃ m, k = m + 1 := ⟨k - 1, by omega⟩
  have h2 := product_f' m ha hb
  by_cases hi : In (a * b)
  · exact ⟨_, h2.1 hi, h.1 hi⟩
  · exact ⟨_, h2.2 hi, h.2 hi⟩
theorem same_floor {a b : Int} (ha : In a) : ∃ r, prod_Floor.f a b = some r ∧ hornbeamref04_Floor.f a b = some r := by
  have hr := rfloor_f (b := b) ha
  by_cases h : b < 1
  · rw [if_pos h] at hr
    exact ⟨_, by unfold prod_Floor.f; rw [if_pos h], hr⟩
  · rw [if_neg h] at hr
    unfold In at ha
    exact ⟨_, floor_f ha.1 ha.2 (by omega), hr⟩
theorem law_f (k : Nat) (hk : 10300 ≤ k) {a b : Int} (ha : In a) (hb : In b) : hornbeamlaw04_ProdWholes.f k a b = some true := by
  obtain ⟨p, p1, p2⟩ := same_plus ha hb k hk
  obtain ⟨m, m1, m2⟩ := same_minus ha hb k hk
  obtain ⟨t, t1, t2⟩ := same_times ha hb k hk
  obtain ⟨q, q1, q2⟩ := same_floor (b := b) ha
  unfold In at ha
  unfold hornbeamlaw04_ProdWholes.f
  rw [p1, Option.bind_some, p2, Option.bind_some, m1, Option.bind_some, m2, Option.bind_some, t1, Option.bind_some, t2, Option.bind_some, q1, Option.bind_some, q2, Option.bind_some, fixed_f, Option.bind_some,
    if_pos rfl, if_pos rfl, if_pos rfl, if_pos rfl, if_pos rfl, if_pos rfl, if_pos rfl, if_pos rfl, if_pos rfl, square_f, Option.bind_some, rsize_f ha.1 ha.2, Option.bind_some, Option.bind_some,
    rmul_f (by omega) (by omega) (by omega) (by omega) k hk, Option.bind_some, sizeI_eq ha.1 ha.2, mul64_eq (by omega) (by omega) (by omega) (by omega), beq_self_eq_true, beq_self_eq_true]
  rfl
end ProdWholes0
open ProdWholes0
theorem ProdWholes : hornbeamlaw04_ProdWholes.Pure := by
  intro a b ha hb
  exact ⟨10300, law_f 10300 (Nat.le_refl _) (wf_i64 ha) (wf_i64 hb)⟩

end Go.Proofs.Ytglicbpnmehloaa.Pure
