/- For all lists of counts the law GiniScores answers true. No condition. -/
import Derived.Test.YtpbgfmbkjojdeaaQGiniScoresx7
import Derived.Test.YtpbgfmbkjojdeaaP64
import Derived.Test.YtpbgfmbkjojdeaaDig
import Derived.Test.YtpbgfmbkjojdeaaSums
namespace Go.Proofs.Ytpbgfmbkjojdeaa.Pure
open Go.RowKit Go.Proofs.Ytpbgfmbkjojdeaa.QGiniScores Go.Proofs.YtpbgfmbkjojdeaaW.PrintWords Go.Proofs.YtpbgfmbkjojdeaaW.PrintLast
open Go.Proofs.Ytpbgfmbkjojdeaa.P64 Go.Proofs.Ytpbgfmbkjojdeaa.Dig Go.Proofs.Ytpbgfmbkjojdeaa.Sums
namespace GiniScores0
theorem digits_f {n : Int} (h0 : 0 ≤ n) (h1 : n < 18446744073709551616) : hornbeamref04_Digits.f n = some (dig4 n) := by
  unfold hornbeamref04_Digits.f dig4
  rw [Int.tmod_eq_emod_of_nonneg h0, Int.tdiv_eq_ediv_of_nonneg h0, Int.tdiv_eq_ediv_of_nonneg h0, Int.tdiv_eq_ediv_of_nonneg h0, uwrap_id (by omega) (by omega), uwrap_id (by omega) (by omega), uwrap_id (by omega) (by omega),
    Int.tmod_eq_emod_of_nonneg (by omega), Int.tmod_eq_emod_of_nonneg (by omega)]
theorem ofwide_f {h l : Int} (h0 : 0 ≤ h) (h1 : h < 18446744073709551616) (l0 : 0 ≤ l) (l1 : l < 18446744073709551616) : ∃ r, hornbeamref04_OfWide.f h l = some r ∧ r.length = 8 ∧ Dg r ∧ V r = h * 18446744073709551616 + l := by
  refine ⟨dig4 l ++ dig4 h, ?_, rfl, (dig4_Dg l0 l1).append (dig4_Dg h0 h1), ?_⟩
  · unfold hornbeamref04_OfWide.f
    rw [digits_f l0 l1, Option.bind_some, digits_f h0 h1, Option.bind_some, if_pos (by rw [dig4_len, dig4_len]; omega)]
  · rw [V_append, dig4_V, dig4_V, dig4_len, show (65536 : Int) ^ 4 = 18446744073709551616 from rfl]; omega
theorem rd_nat (l : List Int) (i : Nat) : rd l (i : Int) = l.getD i 0 := rfl
theorem number_f {l : List Int} (hl : l.length = 4) (hd : Dg l) : hornbeamref04_number.f l = some (V l) := by
  obtain ⟨a, b, c, d, rfl⟩ := len4 hl
  have ha := hd.head; have hb := hd.tail.head; have hc := hd.tail.tail.head; have hdd := hd.tail.tail.tail.head
  unfold hornbeamref04_number.f
  simp only [List.length_cons, List.length_nil]
  rw [if_pos (by decide), if_pos (by decide), if_pos (by decide), if_pos (by decide)]
  simp only [rd, List.getD_cons_zero, List.getD_cons_succ, show (0 : Int).toNat = 0 from rfl, show (1 : Int).toNat = 1 from rfl, show (2 : Int).toNat = 2 from rfl, show (3 : Int).toNat = 3 from rfl, V]
  rw [uwrap_id (n := b * 65536) (by omega) (by omega), uwrap_id (n := c * 4294967296) (by omega) (by omega), uwrap_id (n := d * 281474976710656) (by omega) (by omega),
    uwrap_id (n := a + b * 65536) (by omega) (by omega), uwrap_id (n := a + b * 65536 + c * 4294967296) (by omega) (by omega), uwrap_id (by omega) (by omega)]
  congr 1; omega
theorem product_l1 (a b : List Int) (ha : Dg a) (hb : Dg b) (la : a.length ≤ 100) (lb : b.length ≤ 100) (i : Nat) (hi : i < a.length) (d : Nat) :
    ∀ (j : Nat) (o : List Int) (c : Int), j + d = b.length → o.length = a.length + b.length → Dg o → 0 ≤ c → c < 65536 → (∀ m, i + b.length ≤ m → o.getD m 0 = 0) →
    ∃ r, (∀ k, hornbeamref04_Product.l1 (k + (d + 1)) a b o (i : Int) c (j : Int) = hornbeamref04_Product.l0 k a b r ((i + 1 : Nat) : Int)) ∧ r.length = a.length + b.length ∧ Dg r ∧
      V r = V o + (a.getD i 0 * V (b.drop j)) * 65536 ^ (i + j) + c * 65536 ^ (i + j) ∧ (∀ m, i + 1 + b.length ≤ m → r.getD m 0 = 0) := by
  induction d with
  | zero =>
    intro j o c hj ho hd c0 c1 hz
    have hjb : j = b.length := by omega
    subst hjb
    refine ⟨o.set (i + b.length) c, ?_, by rw [List.length_set]; exact ho, hd.set _ c0 c1, ?_, ?_⟩
    · intro k
      rw [hornbeamref04_Product.l1, if_neg (by omega), show wrap64 ((i : Int) + (b.length : Int)) = ((i + b.length : Nat) : Int) by unfold wrap64; omega, if_pos (by omega), if_pos (by omega),
        show wrap64 ((i : Int) + 1) = ((i + 1 : Nat) : Int) by unfold wrap64; omega]
      rfl
    · rw [V_set _ _ (by omega), hz _ (Nat.le_refl _), List.drop_length, V, Int.mul_zero, Int.zero_mul, Int.add_zero, Int.sub_zero]
    · intro m hm
      rw [digs_set_ne _ (by omega)]
      exact hz m (by omega)
  | succ d ih =>
    intro j o c hj ho hd c0 c1 hz
    have hA := ha.getD i; have hB := hb.getD j; have hO := hd.getD (i + j)
    have hP := mul_bound16 hA.1 hA.2 hB.1 hB.2
    obtain ⟨n, hn⟩ : ∃ n, n = o.getD (i + j) 0 + a.getD i 0 * b.getD j 0 + c := ⟨_, rfl⟩
    have n0 : 0 ≤ n := by omega
    have n1 : n < 4294967296 := by omega
    obtain ⟨r, hr, r1, r2, r3, r4⟩ := ih (j + 1) (o.set (i + j) (n % 65536)) (n / 65536) (by omega) (by rw [List.length_set]; exact ho) (hd.set _ (by omega) (by omega)) (by omega) (by omega) (by
      intro m hm
      rw [digs_set_ne _ (by omega)]
      exact hz m hm)
    refine ⟨r, ?_, r1, r2, ?_, r4⟩
    · intro k
      rw [show k + (d + 1 + 1) = k + (d + 1) + 1 by omega, hornbeamref04_Product.l1, if_pos (by omega), show wrap64 ((i : Int) + (j : Int)) = ((i + j : Nat) : Int) by unfold wrap64; omega, if_pos (by omega), if_pos (by omega), if_pos (by omega), if_pos (by omega), if_pos (by omega)]
      rw [rd_nat, rd_nat, rd_nat, uwrap_id (n := a.getD i 0 * b.getD j 0) (by omega) (by omega), uwrap_id (n := o.getD (i + j) 0 + a.getD i 0 * b.getD j 0) (by omega) (by omega), ← hn, uwrap_id (n := n) (by omega) (by omega),
        Int.tmod_eq_emod_of_nonneg n0, Int.tdiv_eq_ediv_of_nonneg n0, uwrap_id (by omega) (by omega), show wrap64 ((j : Int) + 1) = ((j + 1 : Nat) : Int) by unfold wrap64; omega]
      exact hr k
    · rw [r3, V_set _ _ (by omega), V_drop j (by omega), show i + (j + 1) = i + j + 1 by omega, Int.pow_succ]
      generalize (65536 : Int) ^ (i + j) = P at *
      generalize V (b.drop (j + 1)) = W at *
      have e1 : a.getD i 0 * (b.getD j 0 + 65536 * W) * P = a.getD i 0 * b.getD j 0 * P + a.getD i 0 * W * (P * 65536) := by
        rw [Int.mul_add, Int.add_mul, Int.mul_left_comm (a.getD i 0) 65536 W, Int.mul_comm 65536 (a.getD i 0 * W), Int.mul_assoc (a.getD i 0 * W), Int.mul_comm 65536 P]
      rw [e1]
      have e2 : a.getD i 0 * b.getD j 0 * P + c * P = (n - o.getD (i + j) 0) * P := by rw [← Int.add_mul]; congr 1; omega
      have e3 : (n % 65536 - o.getD (i + j) 0) * P + n / 65536 * (P * 65536) = (n - o.getD (i + j) 0) * P := by
        rw [Int.mul_comm P 65536, ← Int.mul_assoc, ← Int.add_mul]; congr 1; omega
      omega
theorem product_l0 (a b : List Int) (ha : Dg a) (hb : Dg b) (la : a.length ≤ 100) (lb : b.length ≤ 100) (d : Nat) :
    ∀ (i : Nat) (o : List Int), i + d = a.length → o.length = a.length + b.length → Dg o → (∀ m, i + b.length ≤ m → o.getD m 0 = 0) →
    ∃ r, (∀ k, hornbeamref04_Product.l0 (k + (d * (b.length + 2) + 1)) a b o (i : Int) = some r) ∧ r.length = a.length + b.length ∧ Dg r ∧ V r = V o + V (a.drop i) * V b * 65536 ^ i := by
  induction d with
  | zero =>
    intro i o hi ho hd hz
    refine ⟨o, ?_, ho, hd, ?_⟩
    · intro k
      rw [Nat.zero_mul, Nat.zero_add, hornbeamref04_Product.l0, if_neg (by omega)]
    · rw [List.drop_eq_nil_of_le (by omega), V, Int.zero_mul, Int.zero_mul, Int.add_zero]
  | succ d ih =>
    intro i o hi ho hd hz
    obtain ⟨o1, h1, h2, h3, h4, h5⟩ := product_l1 a b ha hb la lb i (by omega) b.length 0 o 0 (by omega) ho hd (by omega) (by omega) hz
    obtain ⟨r, g1, g2, g3, g4⟩ := ih (i + 1) o1 (by omega) h2 h3 h5
    refine ⟨r, ?_, g2, g3, ?_⟩
    · intro k
      rw [show k + ((d + 1) * (b.length + 2) + 1) = k + (d * (b.length + 2) + 1) + (b.length + 1) + 1 by rw [Nat.add_mul]; omega, hornbeamref04_Product.l0, if_pos (by omega)]
      exact (h1 _).trans (g1 k)
    · rw [g4, h4, V_drop i (by omega), List.drop_zero, Nat.add_zero, Int.zero_mul, Int.add_zero, Int.pow_succ]
      generalize (65536 : Int) ^ i = P at *
      generalize V (a.drop (i + 1)) = W at *
      generalize V b = Y at *
      rw [Int.add_mul, Int.add_mul, Int.mul_comm P 65536, ← Int.mul_assoc (W * Y), Int.mul_comm (W * Y) 65536, ← Int.mul_assoc 65536 W Y]
      omega
theorem product_f (a b : List Int) (ha : Dg a) (hb : Dg b) (la : a.length ≤ 100) (lb : b.length ≤ 100) :
    ∃ r, (∀ k, 10300 ≤ k → hornbeamref04_Product.f k a b = some r) ∧ r.length = a.length + b.length ∧ Dg r ∧ V r = V a * V b := by
  have e : wrap64 ((a.length : Int) + (b.length : Int)) = ((a.length + b.length : Nat) : Int) := by unfold wrap64; omega
  obtain ⟨r, h1, h2, h3, h4⟩ := product_l0 a b ha hb la lb a.length 0 (List.replicate (a.length + b.length) 0) (by omega) (List.length_replicate) (Dg.replicate _) (by
    intro m _
    by_cases h : m < a.length + b.length <;> simp [List.getD, h])
  refine ⟨r, ?_, h2, h3, ?_⟩
  · intro k hk
    have hm : a.length * (b.length + 2) ≤ 100 * 102 := Nat.mul_le_mul la (by omega)
    unfold hornbeamref04_Product.f
    rw [e, if_pos (by omega), Int.toNat_natCast, if_pos (by omega)]
    have := h1 (k - (a.length * (b.length + 2) + 1))
    rw [show k - (a.length * (b.length + 2) + 1) + (a.length * (b.length + 2) + 1) = k by omega] at this
    exact this
  · rw [h4, V_replicate, List.drop_zero, Int.pow_zero, Int.mul_one, Int.zero_add]
theorem rmul_f {a b : Int} (a0 : 0 ≤ a) (a1 : a < 18446744073709551616) (b0 : 0 ≤ b) (b1 : b < 18446744073709551616) (k : Nat) (hk : 10300 ≤ k) :
    hornbeamref04_Mul.f k a b = some (a * b / 18446744073709551616, a * b % 18446744073709551616) := by
  obtain ⟨r, h1, h2, h3, h4⟩ := product_f (dig4 a) (dig4 b) (dig4_Dg a0 a1) (dig4_Dg b0 b1) (by rw [dig4_len]; omega) (by rw [dig4_len]; omega)
  rw [dig4_len, dig4_len] at h2
  rw [dig4_V, dig4_V] at h4
  unfold hornbeamref04_Mul.f
  have t1 : (r.take 4).length = 4 := by rw [List.length_take]; omega
  have t2 : (r.drop 4).length = 4 := by rw [List.length_drop]; omega
  rw [digits_f a0 a1, Option.bind_some, digits_f b0 b1, Option.bind_some, h1 k hk, Option.bind_some, if_pos (by omega), number_f t2 (h3.drop 4), Option.bind_some, number_f t1 (h3.take 4), Option.bind_some]
  have e := V_take_drop r 4 (by omega)
  have u1 := V_lt (h3.take 4); have u2 := V_nonneg (h3.take 4)
  rw [t1] at u1
  rw [h4] at e
  rw [show (65536 : Int) ^ 4 = 18446744073709551616 from rfl] at e u1
  simp only [Option.some.injEq, Prod.mk.injEq]
  omega
theorem sum_l (a b : List Int) (ha : Dg a) (hb : Dg b) (hl : a.length = b.length) (la : a.length ≤ 100) (d : Nat) :
    ∀ (i : Nat) (o : List Int) (c : Int), i + d = a.length → o.length ≤ i → 0 ≤ c → c ≤ 1 →
    ∃ r, (∀ k, hornbeamref04_Sum.l0 (k + (d + 1)) a b o c (i : Int) = some (o ++ r)) ∧ r.length = d + 1 ∧ Dg r ∧ V r = V (a.drop i) + V (b.drop i) + c := by
  induction d with
  | zero =>
    intro i o c hi ho c0 c1
    refine ⟨[c], ?_, rfl, Dg.cons (by omega) (by omega) Dg.nil, ?_⟩
    · intro k
      rw [hornbeamref04_Sum.l0, if_neg (by omega), if_pos (by omega)]
    · rw [List.drop_eq_nil_of_le (by omega), List.drop_eq_nil_of_le (by omega)]; simp [V]
  | succ d ih =>
    intro i o c hi ho c0 c1
    have hA := ha.getD i; have hB := hb.getD i
    obtain ⟨n, hn⟩ : ∃ n, n = a.getD i 0 + b.getD i 0 + c := ⟨_, rfl⟩
    have n0 : 0 ≤ n := by omega
    have n1 : n < 131072 := by omega
    obtain ⟨r, h1, h2, h3, h4⟩ := ih (i + 1) (o ++ [n % 65536]) (n / 65536) (by omega) (by rw [List.length_append, List.length_singleton]; omega) (by omega) (by omega)
    refine ⟨n % 65536 :: r, ?_, by rw [List.length_cons, h2], Dg.cons (by omega) (by omega) h3, ?_⟩
    · intro k
      rw [show k + (d + 1 + 1) = k + (d + 1) + 1 by omega, hornbeamref04_Sum.l0, if_pos (by omega), if_pos (by omega), if_pos (by omega), if_pos (by omega), rd_nat, rd_nat,
        uwrap_id (n := a.getD i 0 + b.getD i 0) (by omega) (by omega), ← hn, uwrap_id (n := n) (by omega) (by omega), Int.tmod_eq_emod_of_nonneg n0, Int.tdiv_eq_ediv_of_nonneg n0, uwrap_id (by omega) (by omega),
        show wrap64 ((i : Int) + 1) = ((i + 1 : Nat) : Int) by unfold wrap64; omega]
      rw [h1 k, List.append_assoc]; rfl
    · rw [V, h4, V_drop i (by omega), V_drop (l := b) i (by omega)]
      generalize V (a.drop (i + 1)) = p at *
      generalize V (b.drop (i + 1)) = q at *
      omega
theorem sum_f (a b : List Int) (ha : Dg a) (hb : Dg b) (hl : a.length = b.length) (la : a.length ≤ 100) :
    ∃ r, (∀ k, 101 ≤ k → hornbeamref04_Sum.f k a b = some r) ∧ r.length = a.length + 1 ∧ Dg r ∧ V r = V a + V b := by
  obtain ⟨r, h1, h2, h3, h4⟩ := sum_l a b ha hb hl la a.length 0 [] 0 (by omega) (by simp) (by omega) (by omega)
  refine ⟨r, ?_, h2, h3, ?_⟩
  · intro k hk
    have := h1 (k - (a.length + 1))
    rw [show k - (a.length + 1) + (a.length + 1) = k by omega] at this
    exact this
  · rw [h4, List.drop_zero, List.drop_zero, Int.add_zero]
/-- A list of eight digits and more: its words. -/
theorem words8 {r : List Int} (hd : Dg r) (h : 8 ≤ r.length) : V r = V (r.take 4) + 18446744073709551616 * V ((r.take 8).drop 4) + 340282366920938463463374607431768211456 * V (r.drop 8) ∧
    0 ≤ V (r.take 4) ∧ V (r.take 4) < 18446744073709551616 ∧ 0 ≤ V ((r.take 8).drop 4) ∧ V ((r.take 8).drop 4) < 18446744073709551616 ∧ 0 ≤ V (r.drop 8) := by
  have e1 := V_take_drop r 8 h
  have e2 := V_take_drop (r.take 8) 4 (by rw [List.length_take]; omega)
  rw [List.take_take, Nat.min_eq_left (by omega)] at e2
  rw [show (65536 : Int) ^ 8 = 340282366920938463463374607431768211456 from rfl] at e1
  rw [show (65536 : Int) ^ 4 = 18446744073709551616 from rfl] at e2
  have l1 : (r.take 4).length = 4 := by rw [List.length_take]; omega
  have l2 : ((r.take 8).drop 4).length = 4 := by rw [List.length_drop, List.length_take]; omega
  have u1 := V_lt (hd.take 4); have u2 := V_nonneg (hd.take 4)
  have v1 := V_lt ((hd.take 8).drop 4); have v2 := V_nonneg ((hd.take 8).drop 4)
  have w2 := V_nonneg (hd.drop 8)
  rw [l1, show (65536 : Int) ^ 4 = 18446744073709551616 from rfl] at u1
  rw [l2, show (65536 : Int) ^ 4 = 18446744073709551616 from rfl] at v1
  exact ⟨by omega, u2, u1, v2, v1, w2⟩
theorem radd_f {a b c d : Int} (a0 : 0 ≤ a) (a1 : a < 18446744073709551616) (b0 : 0 ≤ b) (b1 : b < 18446744073709551616) (c0 : 0 ≤ c) (c1 : c < 18446744073709551616) (d0 : 0 ≤ d) (d1 : d < 18446744073709551616) (k : Nat) (hk : 101 ≤ k) :
    hornbeamref04_Add.f k a b c d = some (wideSum (a * 18446744073709551616 + b + (c * 18446744073709551616 + d))) := by
  obtain ⟨x, x1, x2, x3, x4⟩ := ofwide_f a0 a1 b0 b1
  obtain ⟨y, y1, y2, y3, y4⟩ := ofwide_f c0 c1 d0 d1
  obtain ⟨r, r1, r2, r3, r4⟩ := sum_f x y x3 y3 (by omega) (by omega)
  obtain ⟨e, t0, t1, u0, u1, v0⟩ := words8 r3 (by omega)
  have hv : V (r.drop 8) = r.getD 8 0 := by
    rw [V_drop 8 (by omega), List.drop_eq_nil_of_le (by omega)]; simp [V]
  unfold hornbeamref04_Add.f
  rw [x1, Option.bind_some, y1, Option.bind_some, r1 k hk, Option.bind_some, if_pos (by omega), show rd r 8 = r.getD 8 0 from rfl, ← hv]
  rw [x4, y4] at r4
  rw [r4] at e
  unfold wideSum
  by_cases h : V (r.drop 8) > 0
  · rw [if_pos h, if_neg (by omega)]
  · rw [if_neg h, if_pos (by decide), if_pos (by omega), number_f (by rw [List.length_drop, List.length_take]; omega) ((r3.take 8).drop 4), Option.bind_some, if_pos (by omega), number_f (by rw [List.length_take]; omega) (r3.take 4), Option.bind_some, if_pos (by omega)]
    simp only [Option.some.injEq, Prod.mk.injEq]
    exact ⟨by omega, by omega, trivial⟩
theorem rtimesw_f {h l n : Int} (h0 : 0 ≤ h) (h1 : h < 18446744073709551616) (l0 : 0 ≤ l) (l1 : l < 18446744073709551616) (n0 : 0 ≤ n) (n1 : n < 18446744073709551616) (k : Nat) (hk : 10300 ≤ k) :
    hornbeamref04_Times.f k h l n = some (longD ((h * 18446744073709551616 + l) * n)) := by
  obtain ⟨x, x1, x2, x3, x4⟩ := ofwide_f h0 h1 l0 l1
  obtain ⟨r, r1, r2, r3, r4⟩ := product_f x (dig4 n) x3 (dig4_Dg n0 n1) (by omega) (by rw [dig4_len]; omega)
  rw [dig4_V, x4] at r4
  rw [dig4_len] at r2
  obtain ⟨e, t0, t1, u0, u1, v0⟩ := words8 r3 (by omega)
  unfold hornbeamref04_Times.f
  rw [x1, Option.bind_some, digits_f n0 n1, Option.bind_some, r1 k hk, Option.bind_some, if_pos (by omega), number_f (by rw [List.length_drop]; omega) (r3.drop 8), Option.bind_some, if_pos (by decide), number_f (by rw [List.length_drop, List.length_take]; omega) ((r3.take 8).drop 4), Option.bind_some,
    if_pos (by omega), number_f (by rw [List.length_take]; omega) (r3.take 4), Option.bind_some]
  rw [r4] at e
  generalize (h * 18446744073709551616 + l) * n = X at *
  generalize V (r.take 4) = p at *
  generalize V ((r.take 8).drop 4) = q at *
  generalize V (r.drop 8) = s at *
  unfold longD
  have f1 : X / 18446744073709551616 = q + 18446744073709551616 * s := by omega
  rw [f1]
  simp only [Option.some.injEq, Prod.mk.injEq]
  exact ⟨by omega, by omega, by omega⟩
def MayG (l : List Int) : Prop := 2 ≤ l.length ∧ l.length ≤ 256 ∧ (∀ x ∈ l, 0 ≤ x) ∧ S1 l ≤ 1048576
instance (l : List Int) : Decidable (MayG l) := by unfold MayG; exact inferInstance
theorem S1_nonneg {l : List Int} (h : ∀ x ∈ l, 0 ≤ x) : 0 ≤ S1 l := by
  induction l with
  | nil => exact Int.le_refl _
  | cons x l ih =>
    have h1 := h x List.mem_cons_self
    have h2 := ih fun y hy => h y (List.mem_cons_of_mem _ hy)
    rw [S1]; omega
theorem may_l (l : List Int) (hl : l.length ≤ 256) (d : Nat) : ∀ (k i : Nat) (s : Int), i + d = l.length → d < k → 0 ≤ s → s ≤ 1048576 * (i : Int) →
    gini_May.l0 k s l (l.length : Int) (i : Int) = some (decide ((∀ x ∈ l.drop i, 0 ≤ x) ∧ s + S1 (l.drop i) ≤ 1048576)) ∨ (gini_May.l0 k s l (l.length : Int) (i : Int) = some false ∧ ¬ ((∀ x ∈ l.drop i, 0 ≤ x) ∧ s + S1 (l.drop i) ≤ 1048576)) := by
  induction d with
  | zero =>
    intro k i s hi hk s0 s1
    obtain ⟨k, rfl⟩ : ∃ m, k = m + 1 := ⟨k - 1, by omega⟩
    left
    rw [gini_May.l0, if_neg (by omega), List.drop_eq_nil_of_le (by omega)]
    congr 1
    rw [decide_eq_decide, S1]
    exact ⟨fun h => ⟨(fun x hx => by cases hx), by omega⟩, fun h => by omega⟩
  | succ d ih =>
    intro k i s hi hk s0 s1
    obtain ⟨k, rfl⟩ : ∃ m, k = m + 1 := ⟨k - 1, by omega⟩
    have hlt : i < l.length := by omega
    have e : l.getD i 0 = l[i] := by simp [List.getD, hlt]
    rw [gini_May.l0, if_pos (by omega), if_pos (by omega), if_pos (by omega), rd_nat, e, List.drop_eq_getElem_cons hlt, show wrap64 ((i : Int) + 1) = ((i + 1 : Nat) : Int) by unfold wrap64; omega]
    by_cases h1 : l[i] < 0
    · rw [if_pos h1]
      exact .inr ⟨rfl, fun h => by have := h.1 l[i] List.mem_cons_self; omega⟩
    · rw [if_neg h1]
      by_cases h2 : l[i] > 1048576
      · rw [if_pos h2]
        refine .inr ⟨rfl, fun h => ?_⟩
        have := S1_nonneg (l := l.drop (i + 1)) fun y hy => h.1 y (List.mem_cons_of_mem _ hy)
        have h3 := h.2
        rw [S1] at h3
        omega
      · rw [if_neg h2, wrap64_id (n := s + l[i]) (by omega) (by omega)]
        have := ih k (i + 1) (s + l[i]) (by omega) (by omega) (by omega) (by omega)
        have hiff : ((∀ x ∈ l[i] :: l.drop (i + 1), 0 ≤ x) ∧ s + S1 (l[i] :: l.drop (i + 1)) ≤ 1048576) ↔ ((∀ x ∈ l.drop (i + 1), 0 ≤ x) ∧ s + l[i] + S1 (l.drop (i + 1)) ≤ 1048576) := by
          rw [S1]
          constructor
          · intro h; exact ⟨fun y hy => h.1 y (List.mem_cons_of_mem _ hy), by omega⟩
          · intro h
            refine ⟨fun y hy => ?_, by omega⟩
            rcases List.mem_cons.1 hy with rfl | hy
            · omega
            · exact h.1 y hy
        rw [decide_eq_decide.2 hiff, hiff]
        exact this
theorem may_f (l : List Int) (k : Nat) (hk : 300 ≤ k) : gini_May.f k l = some (decide (MayG l)) := by
  obtain ⟨k, rfl⟩ : ∃ m, k = m + 1 := ⟨k - 1, by omega⟩
  have jt : gini_May.j0 (k + 1) l true = some false := by rw [gini_May.j0, if_pos rfl]
  unfold gini_May.f
  by_cases h1 : (l.length : Int) < 2
  · rw [if_pos h1, jt, decide_eq_false (fun h => by have := h.1; omega)]
  · rw [if_neg h1]
    by_cases h2 : (l.length : Int) > 256
    · rw [decide_eq_true h2, jt, decide_eq_false (fun h => by have := h.2.1; omega)]
    · rw [decide_eq_false h2, gini_May.j0, if_neg (by decide)]
      have hm : MayG l ↔ ((∀ x ∈ l.drop 0, 0 ≤ x) ∧ 0 + S1 (l.drop 0) ≤ 1048576) := by
        unfold MayG
        rw [List.drop_zero, Int.zero_add]
        exact ⟨fun h => h.2.2, fun h => ⟨by omega, by omega, h⟩⟩
      rcases may_l l (by omega) l.length k 0 0 (by omega) (by omega) (by omega) (by omega) with h | h
      · refine (show gini_May.l0 k 0 l (l.length : Int) 0 = _ from h).trans ?_
        rw [decide_eq_decide.2 hm]
      · refine (show gini_May.l0 k 0 l (l.length : Int) 0 = _ from h.1).trans ?_
        rw [decide_eq_false (fun h2 => h.2 (hm.1 h2))]
theorem total_s (l : List Int) (h : ∀ x ∈ l, 0 ≤ x) : ∀ s : Int, 0 ≤ s → s + S1 l ≤ 4294967296 → l.foldl (fun acc x => IntKind.u64.wrap (acc + gini_total.g (IntKind.u64.wrap x))) s = s + S1 l := by
  induction l with
  | nil => intro s _ _; simp [S1]
  | cons x l ih =>
    intro s s0 s1
    have h1 := h x List.mem_cons_self
    have h2 := S1_nonneg (l := l) fun y hy => h y (List.mem_cons_of_mem _ hy)
    rw [S1] at s1
    rw [List.foldl_cons, uwrap_id (n := x) h1 (by omega)]
    unfold gini_total.g
    rw [uwrap_id (n := s + x) (by omega) (by omega)]
    have := ih (fun y hy => h y (List.mem_cons_of_mem _ hy)) (s + x) (by omega) (by omega)
    unfold gini_total.g at this
    rw [this, S1]; omega
theorem total_f {l : List Int} (h : MayG l) : gini_total.f l = some (S1 l) := by
  unfold gini_total.f gini_total.s
  rw [if_pos (by have := h.2.1; omega), total_s l h.2.2.1 0 (by omega) (by have := h.2.2.2; omega), Int.zero_add]
theorem S2_le {l : List Int} (h : ∀ x ∈ l, 0 ≤ x) : 0 ≤ S2 l ∧ S2 l ≤ S1 l * S1 l := by
  induction l with
  | nil => simp [S1, S2]
  | cons x l ih =>
    have h1 := h x List.mem_cons_self
    have hl := fun y hy => h y (List.mem_cons_of_mem _ hy)
    have h2 := ih hl
    have h3 := S1_nonneg hl
    have h4 := Int.mul_nonneg h1 h1
    have h5 := Int.mul_nonneg h1 h3
    have e : (x + S1 l) * (x + S1 l) = x * x + 2 * (x * S1 l) + S1 l * S1 l := by rw [Int.add_mul, Int.mul_add, Int.mul_add, Int.mul_comm (S1 l) x]; omega
    rw [S1, S2, e]; omega
theorem squares_s (l : List Int) (h : ∀ x ∈ l, 0 ≤ x) (hs : S1 l ≤ 1048576) : ∀ s : Int, 0 ≤ s → s + S2 l ≤ 1099511627776 → l.foldl (fun acc x => IntKind.u64.wrap (acc + gini_squares.g (IntKind.u64.wrap x))) s = s + S2 l := by
  induction l with
  | nil => intro s _ _; simp [S2]
  | cons x l ih =>
    intro s s0 s1
    have h1 := h x List.mem_cons_self
    have hl := fun y hy => h y (List.mem_cons_of_mem _ hy)
    have h2 := S1_nonneg (l := l) hl
    have h3 := S2_le (l := l) hl
    have h4 := Int.mul_nonneg h1 h1
    rw [S1] at hs
    rw [S2] at s1
    rw [List.foldl_cons, uwrap_id (n := x) h1 (by omega)]
    unfold gini_squares.g
    rw [uwrap_id (n := x * x) h4 (by omega), uwrap_id (n := s + x * x) (by omega) (by omega)]
    have := ih hl (by omega) (s + x * x) (by omega) (by omega)
    unfold gini_squares.g at this
    rw [this, S2]; omega
theorem S2_small {l : List Int} (h : MayG l) : 0 ≤ S2 l ∧ S2 l ≤ 1099511627776 := by
  have h1 := S2_le h.2.2.1
  have h2 := S1_nonneg h.2.2.1
  have h3 := h.2.2.2
  have h4 := Int.mul_le_mul (a := S1 l) (b := S1 l) (c := 1048576) (d := 1048576) h3 h3 h2 (by omega)
  omega
theorem squares_f {l : List Int} (h : MayG l) : gini_squares.f l = some (S2 l) := by
  have := S2_small h
  unfold gini_squares.f gini_squares.s
  rw [if_pos (by have := h.2.1; omega), squares_s l h.2.2.1 h.2.2.2 0 (by omega) (by omega), Int.zero_add]
theorem rmay_l (l : List Int) (hl : l.length ≤ 256) (d : Nat) : ∀ (k i : Nat) (s : Int), i + d = l.length → d < k → 0 ≤ s → s ≤ 1048576 →
    hornbeamref14_May.l0 k l s (i : Int) = some (decide ((∀ x ∈ l.drop i, 0 ≤ x) ∧ S1 (l.drop i) ≤ s)) := by
  induction d with
  | zero =>
    intro k i s hi hk s0 s1
    obtain ⟨k, rfl⟩ : ∃ m, k = m + 1 := ⟨k - 1, by omega⟩
    rw [hornbeamref14_May.l0, if_neg (by omega), List.drop_eq_nil_of_le (by omega), decide_eq_true]
    exact ⟨(fun x hx => by cases hx), by rw [S1]; omega⟩
  | succ d ih =>
    intro k i s hi hk s0 s1
    obtain ⟨k, rfl⟩ : ∃ m, k = m + 1 := ⟨k - 1, by omega⟩
    have hlt : i < l.length := by omega
    have e : l.getD i 0 = l[i] := by simp [List.getD, hlt]
    rw [hornbeamref14_May.l0, if_pos (by omega), if_pos (by omega), rd_nat, e, List.drop_eq_getElem_cons hlt, show wrap64 ((i : Int) + 1) = ((i + 1 : Nat) : Int) by unfold wrap64; omega]
    by_cases h1 : l[i] < 0
    · rw [if_pos h1, decide_eq_false (fun h => by have := h.1 l[i] List.mem_cons_self; omega)]
    · rw [if_neg h1]
      by_cases h2 : l[i] > s
      · rw [if_pos h2, decide_eq_false]
        intro h
        have := S1_nonneg (l := l.drop (i + 1)) fun y hy => h.1 y (List.mem_cons_of_mem _ hy)
        have h3 := h.2
        rw [S1] at h3
        omega
      · rw [if_neg h2, wrap64_id (n := s - l[i]) (by omega) (by omega), ih k (i + 1) (s - l[i]) (by omega) (by omega) (by omega) (by omega)]
        congr 1
        rw [decide_eq_decide, S1]
        constructor
        · intro h
          refine ⟨fun y hy => ?_, by omega⟩
          rcases List.mem_cons.1 hy with rfl | hy
          · omega
          · exact h.1 y hy
        · intro h; exact ⟨fun y hy => h.1 y (List.mem_cons_of_mem _ hy), by omega⟩
theorem rmay_f (l : List Int) (k : Nat) (hk : 300 ≤ k) : hornbeamref14_May.f k l = some (decide (MayG l)) := by
  obtain ⟨k, rfl⟩ : ∃ m, k = m + 1 := ⟨k - 1, by omega⟩
  have jt : hornbeamref14_May.j0 (k + 1) l true = some false := by rw [hornbeamref14_May.j0, if_pos rfl]
  unfold hornbeamref14_May.f
  by_cases h1 : (l.length : Int) < 2
  · rw [if_pos h1, jt, decide_eq_false (fun h => by have := h.1; omega)]
  · rw [if_neg h1]
    by_cases h2 : (l.length : Int) > 256
    · rw [decide_eq_true h2, jt, decide_eq_false (fun h => by have := h.2.1; omega)]
    · rw [decide_eq_false h2, hornbeamref14_May.j0, if_neg (by decide)]
      refine (show hornbeamref14_May.l0 k l 1048576 0 = _ from rmay_l l (by omega) l.length k 0 1048576 (by omega) (by omega) (by omega) (by omega)).trans ?_
      congr 1
      rw [decide_eq_decide, List.drop_zero]
      unfold MayG
      exact ⟨fun h => ⟨by omega, by omega, h⟩, fun h => h.2.2⟩
theorem rtotal_l (l : List Int) (h : MayG l) (d : Nat) : ∀ (k i : Nat) (s : Int), i + d = l.length → d < k → 0 ≤ s → s + S1 (l.drop i) ≤ 1048576 →
    hornbeamref14_Total.l0 k l s (i : Int) = some (s + S1 (l.drop i)) := by
  induction d with
  | zero =>
    intro k i s hi hk s0 s1
    obtain ⟨k, rfl⟩ : ∃ m, k = m + 1 := ⟨k - 1, by omega⟩
    rw [hornbeamref14_Total.l0, if_neg (by omega), List.drop_eq_nil_of_le (by omega), S1, Int.add_zero]
  | succ d ih =>
    intro k i s hi hk s0 s1
    obtain ⟨k, rfl⟩ : ∃ m, k = m + 1 := ⟨k - 1, by omega⟩
    have hlt : i < l.length := by omega
    have hlen := h.2.1
    have e : l.getD i 0 = l[i] := by simp [List.getD, hlt]
    have hx := h.2.2.1 l[i] (List.getElem_mem hlt)
    have hr := S1_nonneg (l := l.drop (i + 1)) fun y hy => h.2.2.1 y (List.mem_of_mem_drop hy)
    rw [List.drop_eq_getElem_cons hlt, S1] at s1 ⊢
    rw [hornbeamref14_Total.l0, if_pos (by omega), if_pos (by omega), rd_nat, e, show wrap64 ((i : Int) + 1) = ((i + 1 : Nat) : Int) by unfold wrap64; omega, uwrap_id (n := l[i]) hx (by omega), uwrap_id (n := s + l[i]) (by omega) (by omega),
      ih k (i + 1) (s + l[i]) (by omega) (by omega) (by omega) (by omega)]
    congr 1; omega
theorem rtotal_f {l : List Int} (h : MayG l) (k : Nat) (hk : 300 ≤ k) : hornbeamref14_Total.f k l = some (S1 l) := by
  have hlen := h.2.1
  have := rtotal_l l h l.length k 0 0 (by omega) (by omega) (by omega) (by rw [List.drop_zero]; have := h.2.2.2; omega)
  rw [List.drop_zero, Int.zero_add] at this
  exact this
theorem S2_drop_nonneg (l : List Int) : 0 ≤ S2 l := by
  induction l with
  | nil => exact Int.le_refl _
  | cons x l ih => have := sq_nonneg' x; rw [S2]; omega
theorem elem_le {l : List Int} (h : ∀ x ∈ l, 0 ≤ x) {x : Int} (hx : x ∈ l) : x ≤ S1 l := by
  induction l with
  | nil => cases hx
  | cons y l ih =>
    have h1 := h y List.mem_cons_self
    have hl := fun z hz => h z (List.mem_cons_of_mem _ hz)
    have h2 := S1_nonneg hl
    rw [S1]
    rcases List.mem_cons.1 hx with rfl | hx
    · omega
    · have := ih hl hx; omega
theorem rsquares_l (l : List Int) (h : MayG l) (d : Nat) : ∀ (k i : Nat) (q : Int), i + d = l.length → d + 10300 < k → 0 ≤ q → q + S2 (l.drop i) ≤ 1099511627776 →
    hornbeamref14_Squares.l0 k l (i : Int) 0 q = some (0, q + S2 (l.drop i)) := by
  induction d with
  | zero =>
    intro k i q hi hk q0 q1
    obtain ⟨k, rfl⟩ : ∃ m, k = m + 1 := ⟨k - 1, by omega⟩
    rw [hornbeamref14_Squares.l0, if_neg (by omega), List.drop_eq_nil_of_le (by omega), S2, Int.add_zero]
  | succ d ih =>
    intro k i q hi hk q0 q1
    obtain ⟨k, rfl⟩ : ∃ m, k = m + 1 := ⟨k - 1, by omega⟩
    have hlt : i < l.length := by omega
    have hlen := h.2.1
    have e : l.getD i 0 = l[i] := by simp [List.getD, hlt]
    have hx := h.2.2.1 l[i] (List.getElem_mem hlt)
    have hxs := elem_le h.2.2.1 (List.getElem_mem hlt)
    have hs := h.2.2.2
    have hr := S2_drop_nonneg (l.drop (i + 1))
    have hxx := sq_nonneg' l[i]
    rw [List.drop_eq_getElem_cons hlt, S2] at q1 ⊢
    rw [hornbeamref14_Squares.l0, if_pos (by omega), if_pos (by omega), rd_nat, e, show wrap64 ((i : Int) + 1) = ((i + 1 : Nat) : Int) by unfold wrap64; omega, uwrap_id (n := l[i]) hx (by omega),
      rmul_f hx (by omega) hx (by omega) k (by omega), Option.bind_some, radd_f (by omega) (by omega) q0 (by omega) (by omega) (by omega) (by omega) (by omega) k (by omega), Option.bind_some]
    have e2 : 0 * 18446744073709551616 + q + (l[i] * l[i] / 18446744073709551616 * 18446744073709551616 + l[i] * l[i] % 18446744073709551616) = q + l[i] * l[i] := by omega
    have e3 : wideSum (q + l[i] * l[i]) = (0, q + l[i] * l[i], 0) := by
      unfold wideSum
      rw [if_pos (by omega), Int.ediv_eq_zero_of_lt (by omega) (by omega), Int.emod_eq_of_lt (by omega) (by omega)]
    rw [e2, e3]
    refine (ih k (i + 1) (q + l[i] * l[i]) (by omega) (by omega) (by omega) (by omega)).trans ?_
    congr 2; omega
theorem rsquares_f {l : List Int} (h : MayG l) (k : Nat) (hk : 11000 ≤ k) : hornbeamref14_Squares.f k l = some (0, S2 l) := by
  have hlen := h.2.1
  have := S2_small h
  have h2 := rsquares_l l h l.length k 0 0 (by omega) (by omega) (by omega) (by rw [List.drop_zero]; omega)
  rw [List.drop_zero, Int.zero_add] at h2
  exact h2
theorem mul_f (a b : Int) : prod_Mul.f a b = some (mul64 a b) := rfl
theorem mul_eq {a b : Int} (a0 : 0 ≤ a) (a1 : a < 18446744073709551616) (b0 : 0 ≤ b) (b1 : b < 18446744073709551616) :
    prod_Mul.f a b = some (a * b / 18446744073709551616, a * b % 18446744073709551616) := by rw [mul_f, mul64_eq a0 a1 b0 b1]
theorem add64_f {a b c : Int} (a0 : 0 ≤ a) (b0 : 0 ≤ b) (c0 : 0 ≤ c) (c1 : c ≤ 1) : bits_Add64.f a b c = some ((a + b + c) % 18446744073709551616, (a + b + c) / 18446744073709551616) := by
  unfold bits_Add64.f
  rw [if_pos ⟨a0, b0, c0, c1⟩]
theorem add_f {a b c d : Int} (a0 : 0 ≤ a) (a1 : a < 18446744073709551616) (b0 : 0 ≤ b) (b1 : b < 18446744073709551616) (c0 : 0 ≤ c) (c1 : c < 18446744073709551616) (d0 : 0 ≤ d) (d1 : d < 18446744073709551616) :
    prod_Add.f a b c d = some (wideSum (a * 18446744073709551616 + b + (c * 18446744073709551616 + d))) := by
  unfold prod_Add.f
  rw [add64_f b0 d0 (by omega) (by omega), Option.bind_some, add64_f a0 c0 (by omega) (by omega), Option.bind_some]
  unfold wideSum
  have e1 : (b + d + 0) / 18446744073709551616 = (b + d) / 18446744073709551616 := by rw [Int.add_zero]
  have e2 : (a * 18446744073709551616 + b + (c * 18446744073709551616 + d)) / 18446744073709551616 = a + c + (b + d) / 18446744073709551616 := by omega
  have e3 : (a * 18446744073709551616 + b + (c * 18446744073709551616 + d)) % 18446744073709551616 = (b + d) % 18446744073709551616 := by omega
  rw [e1, e2, e3, Int.add_zero]
  by_cases h : (a + c + (b + d) / 18446744073709551616) / 18446744073709551616 = 0
  · rw [if_pos h, if_pos (by omega), Int.emod_eq_of_lt (a := a + c + (b + d) / 18446744073709551616) (by omega) (by omega)]
  · rw [if_neg h, if_neg (by omega)]
/-- How well counts are apart. -/
def aloneD (l : List Int) : Int × Int × Int := if MayG l ∧ S1 l ≠ 0 then (0, S2 l, S1 l) else (0, 0, 0)
theorem alone_f (l : List Int) (k : Nat) (hk : 301 ≤ k) : gini_Alone.f k l = some (aloneD l) := by
  obtain ⟨k, rfl⟩ : ∃ m, k = m + 1 := ⟨k - 1, by omega⟩
  have jt : gini_Alone.j0 (k + 1) l true = some (0, 0, 0) := by rw [gini_Alone.j0, if_pos rfl]
  unfold gini_Alone.f aloneD
  rw [may_f l _ (by omega), Option.bind_some]
  by_cases h : MayG l
  · rw [decide_eq_true h, if_pos rfl, total_f h, Option.bind_some]
    by_cases h0 : S1 l = 0
    · rw [show (S1 l == 0) = true from beq_iff_eq.2 h0, jt, if_neg (show ¬ (MayG l ∧ S1 l ≠ 0) from fun h2 => h2.2 h0)]
    · rw [show (S1 l == 0) = false from beq_eq_false_iff_ne.2 h0, gini_Alone.j0, if_neg (by decide), squares_f h, Option.bind_some, total_f h, Option.bind_some, if_pos (show MayG l ∧ S1 l ≠ 0 from ⟨h, h0⟩)]
  · rw [decide_eq_false h, if_neg (by decide), jt, if_neg (show ¬ (MayG l ∧ S1 l ≠ 0) from fun h2 => h h2.1)]
/-- May these two be sides, both with targets? -/
def Sides (a b : List Int) : Prop := MayG a ∧ MayG b ∧ a.length = b.length ∧ S1 a ≠ 0 ∧ S1 b ≠ 0
instance (a b : List Int) : Decidable (Sides a b) := by unfold Sides; exact inferInstance
/-- The upper number of two sides. -/
def upper (a b : List Int) : Int := S2 a * S1 b + S2 b * S1 a
def scoreD (a b : List Int) : Int × Int × Int := if Sides a b then (upper a b / 18446744073709551616, upper a b % 18446744073709551616, S1 a * S1 b) else (0, 0, 0)
theorem upper_bound {a b : List Int} (h : Sides a b) : (0 ≤ S2 a * S1 b ∧ S2 a * S1 b ≤ 1099511627776 * 1048576) ∧ (0 ≤ S2 b * S1 a ∧ S2 b * S1 a ≤ 1099511627776 * 1048576) ∧ (0 ≤ S1 a * S1 b ∧ S1 a * S1 b ≤ 1048576 * 1048576) := by
  obtain ⟨ha, hb, _, _, _⟩ := h
  have a1 := S2_small ha; have b1 := S2_small hb
  have a2 := S1_nonneg ha.2.2.1; have b2 := S1_nonneg hb.2.2.1
  have a3 := ha.2.2.2; have b3 := hb.2.2.2
  exact ⟨⟨Int.mul_nonneg a1.1 b2, Int.mul_le_mul a1.2 b3 b2 (by omega)⟩, ⟨Int.mul_nonneg b1.1 a2, Int.mul_le_mul b1.2 a3 a2 (by omega)⟩, ⟨Int.mul_nonneg a2 b2, Int.mul_le_mul a3 b3 b2 (by omega)⟩⟩
theorem score_f (a b : List Int) (k : Nat) (hk : 301 ≤ k) : gini_Score.f k a b = some (scoreD a b) := by
  obtain ⟨k, rfl⟩ : ∃ m, k = m + 1 := ⟨k - 1, by omega⟩
  have jt : gini_Score.j0 (k + 1) a b true = some (0, 0, 0) := by rw [gini_Score.j0, if_pos rfl]
  have no : ∀ h : ¬ Sides a b, some (0, 0, 0) = some (scoreD a b) := fun h => by unfold scoreD; rw [if_neg h]
  unfold gini_Score.f
  rw [may_f a _ (by omega), Option.bind_some]
  by_cases ha : MayG a
  · rw [decide_eq_true ha, if_pos rfl, may_f b _ (by omega), Option.bind_some]
    by_cases hb : MayG b
    · rw [decide_eq_true hb, if_pos rfl]
      by_cases hl : (a.length : Int) = (b.length : Int)
      · rw [if_pos hl, total_f ha, Option.bind_some]
        by_cases h1 : S1 a = 0
        · rw [if_pos h1, jt]; exact no (fun h => h.2.2.2.1 h1)
        · rw [if_neg h1, total_f hb, Option.bind_some]
          by_cases h2 : S1 b = 0
          · rw [show (S1 b == 0) = true from beq_iff_eq.2 h2, jt]; exact no (fun h => h.2.2.2.2 h2)
          · have hs : Sides a b := ⟨ha, hb, by omega, h1, h2⟩
            have a1 := S2_small ha; have b1 := S2_small hb
            have a2 := S1_nonneg ha.2.2.1; have b2 := S1_nonneg hb.2.2.1
            have a3 := ha.2.2.2; have b3 := hb.2.2.2
            obtain ⟨u1, u2, u3⟩ := upper_bound hs
            rw [show (S1 b == 0) = false from beq_eq_false_iff_ne.2 h2, gini_Score.j0, if_neg (by decide), total_f ha, Option.bind_some, total_f hb, Option.bind_some, squares_f ha, Option.bind_some, mul_eq (by omega) (by omega) (by omega) (by omega), Option.bind_some,
              squares_f hb, Option.bind_some, mul_eq (by omega) (by omega) (by omega) (by omega), Option.bind_some, add_f (by omega) (by omega) (by omega) (by omega) (by omega) (by omega) (by omega) (by omega), Option.bind_some, uwrap_id (n := S1 a * S1 b) (by omega) (by omega)]
            have e : S2 a * S1 b / 18446744073709551616 * 18446744073709551616 + S2 a * S1 b % 18446744073709551616 + (S2 b * S1 a / 18446744073709551616 * 18446744073709551616 + S2 b * S1 a % 18446744073709551616) = upper a b := by unfold upper; omega
            rw [e]
            unfold wideSum scoreD
            rw [if_pos (show upper a b < 340282366920938463463374607431768211456 by unfold upper; omega), if_pos hs]
      · rw [if_neg hl, jt]; exact no (fun h => hl (by rw [h.2.2.1]))
    · rw [decide_eq_false hb, if_neg (by decide), jt]; exact no (fun h => hb h.2.1)
  · rw [decide_eq_false ha, if_neg (by decide), jt]; exact no (fun h => ha h.1)
theorem fixed_f (k : Nat) (hk : 301 ≤ k) : hornbeamlaw14_fixed.f k = some true := by
  unfold hornbeamlaw14_fixed.f
  rw [alone_f _ k hk, Option.bind_some, show aloneD [2, 2] = (0, 8, 4) by decide, if_pos (by decide), score_f _ _ k hk, Option.bind_some, show scoreD [2, 0] [0, 2] = (0, 16, 4) by decide]
  rfl
theorem ralone_f (l : List Int) (k : Nat) (hk : 11010 ≤ k) : hornbeamref14_Alone.f k l = some (aloneD l) := by
  obtain ⟨k, rfl⟩ : ∃ m, k = m + 1 := ⟨k - 1, by omega⟩
  have jt : hornbeamref14_Alone.j0 (k + 1) l true = some (0, 0, 0) := by rw [hornbeamref14_Alone.j0, if_pos rfl]
  unfold hornbeamref14_Alone.f aloneD
  rw [rmay_f l _ (by omega), Option.bind_some]
  by_cases h : MayG l
  · rw [decide_eq_true h, if_pos rfl, rtotal_f h _ (by omega), Option.bind_some]
    by_cases h0 : S1 l = 0
    · rw [show (S1 l == 0) = true from beq_iff_eq.2 h0, jt, if_neg (show ¬ (MayG l ∧ S1 l ≠ 0) from fun h2 => h2.2 h0)]
    · rw [show (S1 l == 0) = false from beq_eq_false_iff_ne.2 h0, hornbeamref14_Alone.j0, if_neg (by decide), rsquares_f h _ (by omega), Option.bind_some, rtotal_f h _ (by omega), Option.bind_some, if_pos (show MayG l ∧ S1 l ≠ 0 from ⟨h, h0⟩)]
  · rw [decide_eq_false h, if_neg (by decide), jt, if_neg (show ¬ (MayG l ∧ S1 l ≠ 0) from fun h2 => h h2.1)]
theorem rscore_f (a b : List Int) (k : Nat) (hk : 11010 ≤ k) : hornbeamref14_Score.f k a b = some (scoreD a b) := by
  obtain ⟨k, rfl⟩ : ∃ m, k = m + 1 := ⟨k - 1, by omega⟩
  have jt : hornbeamref14_Score.j0 (k + 1) a b true = some (0, 0, 0) := by rw [hornbeamref14_Score.j0, if_pos rfl]
  have no : ∀ h : ¬ Sides a b, some (0, 0, 0) = some (scoreD a b) := fun h => by unfold scoreD; rw [if_neg h]
  unfold hornbeamref14_Score.f
  rw [rmay_f a _ (by omega), Option.bind_some]
  by_cases ha : MayG a
  · rw [decide_eq_true ha, if_pos rfl, rmay_f b _ (by omega), Option.bind_some]
    by_cases hb : MayG b
    · rw [decide_eq_true hb, if_pos rfl]
      by_cases hl : (a.length : Int) = (b.length : Int)
      · rw [if_pos hl, rtotal_f ha _ (by omega), Option.bind_some]
        by_cases h1 : S1 a = 0
        · rw [if_pos h1, jt]; exact no (fun h => h.2.2.2.1 h1)
        · rw [if_neg h1, rtotal_f hb _ (by omega), Option.bind_some]
          by_cases h2 : S1 b = 0
          · rw [show (S1 b == 0) = true from beq_iff_eq.2 h2, jt]; exact no (fun h => h.2.2.2.2 h2)
          · have hs : Sides a b := ⟨ha, hb, by omega, h1, h2⟩
            have a1 := S2_small ha; have b1 := S2_small hb
            have a2 := S1_nonneg ha.2.2.1; have b2 := S1_nonneg hb.2.2.1
            have a3 := ha.2.2.2; have b3 := hb.2.2.2
            obtain ⟨u1, u2, u3⟩ := upper_bound hs
            rw [show (S1 b == 0) = false from beq_eq_false_iff_ne.2 h2, hornbeamref14_Score.j0, if_neg (by decide), rsquares_f ha _ (by omega), Option.bind_some, rtotal_f hb _ (by omega), Option.bind_some,
              rtimesw_f (h := 0) (l := S2 a) (n := S1 b) (by omega) (by omega) (by omega) (by omega) (by omega) (by omega) _ (by omega), Option.bind_some, rsquares_f hb _ (by omega), Option.bind_some, rtotal_f ha _ (by omega), Option.bind_some,
              rtimesw_f (h := 0) (l := S2 b) (n := S1 a) (by omega) (by omega) (by omega) (by omega) (by omega) (by omega) _ (by omega), Option.bind_some, Int.zero_mul, Int.zero_add, Int.zero_add]
            unfold longD
            rw [radd_f (a := S2 a * S1 b / 18446744073709551616 % 18446744073709551616) (b := S2 a * S1 b % 18446744073709551616) (c := S2 b * S1 a / 18446744073709551616 % 18446744073709551616) (d := S2 b * S1 a % 18446744073709551616) (by omega) (by omega) (by omega) (by omega) (by omega) (by omega) (by omega) (by omega) _ (by omega), Option.bind_some, Option.bind_some, Option.bind_some, uwrap_id (n := S1 a * S1 b) (by omega) (by omega)]
            have f1 : S2 a * S1 b / 18446744073709551616 % 18446744073709551616 = S2 a * S1 b / 18446744073709551616 := Int.emod_eq_of_lt (by omega) (by omega)
            have f2 : S2 b * S1 a / 18446744073709551616 % 18446744073709551616 = S2 b * S1 a / 18446744073709551616 := Int.emod_eq_of_lt (by omega) (by omega)
            rw [f1, f2]
            have e : S2 a * S1 b / 18446744073709551616 * 18446744073709551616 + S2 a * S1 b % 18446744073709551616 + (S2 b * S1 a / 18446744073709551616 * 18446744073709551616 + S2 b * S1 a % 18446744073709551616) = upper a b := by unfold upper; omega
            rw [e]
            unfold wideSum scoreD
            rw [if_pos (show upper a b < 340282366920938463463374607431768211456 by unfold upper; omega), if_pos hs]
      · rw [if_neg hl, jt]; exact no (fun h => hl (by rw [h.2.2.1]))
    · rw [decide_eq_false hb, if_neg (by decide), jt]; exact no (fun h => hb h.2.1)
  · rw [decide_eq_false ha, if_neg (by decide), jt]; exact no (fun h => ha h.1)
theorem law_f (k : Nat) (hk : 11020 ≤ k) (a b : List Int) : hornbeamlaw14_GiniScores.f k a b = some true := by
  obtain ⟨k, rfl⟩ : ∃ m, k = m + 1 := ⟨k - 1, by omega⟩
  have jt : ∀ c, hornbeamlaw14_GiniScores.j0 (k + 1) a b c = some true := by
    intro c
    rw [hornbeamlaw14_GiniScores.j0, fixed_f k (by omega), Option.bind_some, Option.bind_some]
    cases c
    · rw [if_neg (by decide), if_pos rfl, may_f a k (by omega), Option.bind_some, rmay_f a k (by omega), Option.bind_some, if_pos (by rw [beq_self_eq_true]), alone_f a k (by omega), Option.bind_some, ralone_f a k (by omega), Option.bind_some,
        if_pos (by rw [beq_self_eq_true, beq_self_eq_true, beq_self_eq_true]; rfl), score_f a b k (by omega), Option.bind_some, rscore_f a b k (by omega), Option.bind_some, beq_self_eq_true, beq_self_eq_true, beq_self_eq_true]
      rfl
    · rw [if_pos rfl]
  unfold hornbeamlaw14_GiniScores.f
  split
  · exact jt _
  · exact jt _
end GiniScores0
open GiniScores0
theorem GiniScores : hornbeamlaw14_GiniScores.Pure := by
  intro a b _ _ _ _ _ _
  exact ⟨11020, law_f 11020 (Nat.le_refl _) a b⟩

end Go.Proofs.Ytpbgfmbkjojdeaa.Pure
