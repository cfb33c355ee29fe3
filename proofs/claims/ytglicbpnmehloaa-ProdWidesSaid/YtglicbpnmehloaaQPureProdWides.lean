/- For all wide numbers a, b and numbers n the law ProdWides answers true. No condition. -/
import Derived.Test.YtglicbpnmehloaaQProdWidesx8
import Derived.Test.YtglicbpnmehloaaP64
import Derived.Test.YtglicbpnmehloaaDig
namespace Go.Proofs.Ytglicbpnmehloaa.Pure
open Go.RowKit Go.Proofs.Ytglicbpnmehloaa.QProdWides Go.Proofs.YtglicbpnmehloaaW.PrintWords Go.Proofs.YtglicbpnmehloaaW.PrintLast
open Go.Proofs.Ytglicbpnmehloaa.P64 Go.Proofs.Ytglicbpnmehloaa.Dig
namespace ProdWides0
theorem digits_f {n : Int} (h0 : 0 ≤ n) (h1 : n < 18446744073709551616) : hornbeamref04_Digits.f n = some (dig4 n) := by
  unfold hornbeamref04_Digits.f dig4
  rw [Int.tmod_eq_emod_of_nonneg h0, Int.tdiv_eq_ediv_of_nonneg h0, Int.tdiv_eq_ediv_of_nonneg h0, Int.tdiv_eq_ediv_of_nonneg h0, uwrap_id (by omega) (by omega), uwrap_id (by omega) (by omega), uwrap_id (by omega) (by omega),
    Int.tmod_eq_emod_of_nonneg (by omega), Int.tmod_eq_emod_of_nonneg (by omega)]
theorem ofwide_f {h l : Int} (h0 : 0 ≤ h) (h1 : h < 18446744073709551616) (l0 : 0 ≤ l) (l1 : l < 18446744073709551616) : ∃ r, hornbeamref04_OfWide.f h l = some r ∧ r.length = 8 ∧ Dg r ∧ V r = h * 18446744073709551616 + l := by
  refine ⟨dig4 l ++ dig4 h, ?_, rfl, (dig4_Dg l0 l1).append (dig4_Dg h0 h1), ?_⟩
  · unfold hornbeamref04_OfWide.f
    rw [digits_f l0 l1, Option.bind_some, digits_f h0 h1, Option.bind_some, if_pos (by rw [dig4_len, dig4_len]; omega)]
  · rw [V_append, dig4_V, dig4_V, dig4_len, show (65536 : Int) ^ 4 = 18446744073709551616 from rfl]; omega
theorem rd_nat (l : List Int) (i : Nat) : rd l (i : Int) = l.getD i 0 := rfl
theorem number_f {l : List Int} (hl : l.length = 4) (hd : Dg l) : hornbeamref04_number.f l = some (V l) := by
  obtain ⟨a, b, c, d, rfl⟩ := len4 hl
  have ha := hd.head; have hb := hd.tail.head; have hc := hd.tail.tail.head; have hdd := hd.tail.tail.tail.head
  unfold hornbeamref04_number.f
  simp only [List.length_cons, List.length_nil]
  rw [if_pos (by decide), if_pos (by decide), if_pos (by decide), if_pos (by decide)]
  simp only [rd, List.getD_cons_zero, List.getD_cons_succ, show (0 : Int).toNat = 0 from rfl, show (1 : Int).toNat = 1 from rfl, show (2 : Int).toNat = 2 from rfl, show (3 : Int).toNat = 3 from rfl, V]
  rw [uwrap_id (n := b * 65536) (by omega) (by omega), uwrap_id (n := c * 4294967296) (by omega) (by omega), uwrap_id (n := d * 281474976710656) (by omega) (by omega),
    uwrap_id (n := a + b * 65536) (by omega) (by omega), uwrap_id (n := a + b * 65536 + c * 4294967296) (by omega) (by omega), uwrap_id (by omega) (by omega)]
  congr 1; omega
theorem product_l1 (a b : List Int) (ha : Dg a) (hb : Dg b) (la : a.length ≤ 100) (lb : b.length ≤ 100) (i : Nat) (hi : i < a.length) (d : Nat) :
    ∀ (j : Nat) (o : List Int) (c : Int), j + d = b.length → o.length = a.length + b.length → Dg o → 0 ≤ c → c < 65536 → (∀ m, i + b.length ≤ m → o.getD m 0 = 0) →
    ∃ r, (∀ k, hornbeamref04_Product.l1 (k + (d + 1)) a b o (i : Int) c (j : Int) = hornbeamref04_Product.l0 k a b r ((i + 1 : Nat) : Int)) ∧ r.length = a.length + b.length ∧ Dg r ∧
      V r = V o + (a.getD i 0 * V (b.drop j)) * 65536 ^ (i + j) + c * 65536 ^ (i + j) ∧ (∀ m, i + 1 + b.length ≤ m → r.getD m 0 = 0) := by
  induction d with
  | zero =>
    intro j o c hj ho hd c0 c1 hz
    have hjb : j = b.length := by omega
    subst hjb
    refine ⟨o.set (i + b.length) c, ?_, by rw [List.length_set]; exact ho, hd.set _ c0 c1, ?_, ?_⟩
    · intro k
      rw [hornbeamref04_Product.l1, if_neg (by omega), show wrap64 ((i : Int) + (b.length : Int)) = ((i + b.length : Nat) : Int) by unfold wrap64; omega, if_pos (by omega), if_pos (by omega),
        show wrap64 ((i : Int) + 1) = ((i + 1 : Nat) : Int) by unfold wrap64; omega]
      rfl
    · rw [V_set _ _ (by omega), hz _ (Nat.le_refl _), List.drop_length, V, Int.mul_zero, Int.zero_mul, Int.add_zero, Int.sub_zero]
    · intro m hm
      rw [digs_set_ne _ (by omega)]
      exact hz m (by omega)
  | succ d ih =>
    intro j o c hj ho hd c0 c1 hz
    have hA := ha.getD i; have hB := hb.getD j; have hO := hd.getD (i + j)
    have hP := mul_bound16 hA.1 hA.2 hB.1 hB.2
    obtain ⟨n, hn⟩ : ∃ n, n = o.getD (i + j) 0 + a.getD i 0 * b.getD j 0 + c := ⟨_, rfl⟩
    have n0 : 0 ≤ n := by omega
    have n1 : n < 4294967296 := by omega
    obtain ⟨r, hr, r1, r2, r3, r4⟩ := ih (j + 1) (o.set (i + j) (n % 65536)) (n / 65536) (by omega) (by rw [List.length_set]; exact ho) (hd.set _ (by omega) (by omega)) (by omega) (by omega) (by
      intro m hm
      rw [digs_set_ne _ (by omega)]
      exact hz m hm)
    refine ⟨r, ?_, r1, r2, ?_, r4⟩
    · intro k
      rw [show k + (d + 1 + 1) = k + (d + 1) + 1 by omega, hornbeamref04_Product.l1, if_pos (by omega), show wrap64 ((i : Int) + (j : Int)) = ((i + j : Nat) : Int) by unfold wrap64; omega, if_pos (by omega), if_pos (by omega), if_pos (by omega), if_pos (by omega), if_pos (by omega)]
      rw [rd_nat, rd_nat, rd_nat, uwrap_id (n := a.getD i 0 * b.getD j 0) (by omega) (by omega), uwrap_id (n := o.getD (i + j) 0 + a.getD i 0 * b.getD j 0) (by omega) (by omega), ← hn, uwrap_id (n := n) (by omega) (by omega),
        Int.tmod_eq_emod_of_nonneg n0, Int.tdiv_eq_ediv_of_nonneg n0, uwrap_id (by omega) (by omega), show wrap64 ((j : Int) + 1) = ((j + 1 : Nat) : Int) by unfold wrap64; omega]
      exact hr k
    · rw [r3, V_set _ _ (by omega), V_drop j (by omega), show i + (j + 1) = i + j + 1 by omega, Int.pow_succ]
      generalize (65536 : Int) ^ (i + j) = P at *
      generalize V (b.drop (j + 1)) = W at *
      have e1 : a.getD i 0 * (b.getD j 0 + 65536 * W) * P = a.getD i 0 * b.getD j 0 * P + a.getD i 0 * W * (P * 65536) := by
        rw [Int.mul_add, Int.add_mul, Int.mul_left_comm (a.getD i 0) 65536 W, Int.mul_comm 65536 (a.getD i 0 * W), Int.mul_assoc (a.getD i 0 * W), Int.mul_comm 65536 P]
      rw [e1]
      have e2 : a.getD i 0 * b.getD j 0 * P + c * P = (n - o.getD (i + j) 0) * P := by rw [← Int.add_mul]; congr 1; omega
      have e3 : (n % 65536 - o.getD (i + j) 0) * P + n / 65536 * (P * 65536) = (n - o.getD (i + j) 0) * P := by
        rw [Int.mul_comm P 65536, ← Int.mul_assoc, ← Int.add_mul]; congr 1; omega
      omega
theorem product_l0 (a b : List Int) (ha : Dg a) (hb : Dg b) (la : a.length ≤ 100) (lb : b.length ≤ 100) (d : Nat) :
    ∀ (i : Nat) (o : List Int), i + d = a.length → o.length = a.length + b.length → Dg o → (∀ m, i + b.length ≤ m → o.getD m 0 = 0) →
    ∃ r, (∀ k, hornbeamref04_Product.l0 (k + (d * (b.length + 2) + 1)) a b o (i : Int) = some r) ∧ r.length = a.length + b.length ∧ Dg r ∧ V r = V o + V (a.drop i) * V b * 65536 ^ i := by
  induction d with
  | zero =>
    intro i o hi ho hd hz
    refine ⟨o, ?_, ho, hd, ?_⟩
    · intro k
      rw [Nat.zero_mul, Nat.zero_add, hornbeamref04_Product.l0, if_neg (by omega)]
    · rw [List.drop_eq_nil_of_le (by omega), V, Int.zero_mul, Int.zero_mul, Int.add_zero]
  | succ d ih =>
    intro i o hi ho hd hz
    obtain ⟨o1, h1, h2, h3, h4, h5⟩ := product_l1 a b ha hb la lb i (by omega) b.length 0 o 0 (by omega) ho hd (by omega) (by omega) hz
    obtain ⟨r, g1, g2, g3, g4⟩ := ih (i + 1) o1 (by omega) h2 h3 h5
    refine ⟨r, ?_, g2, g3, ?_⟩
    · intro k
      rw [show k + ((d + 1) * (b.length + 2) + 1) = k + (d * (b.length + 2) + 1) + (b.length + 1) + 1 by rw [Nat.add_mul]; omega, hornbeamref04_Product.l0, if_pos (by omega)]
      exact (h1 _).trans (g1 k)
    · rw [g4, h4, V_drop i (by omega), List.drop_zero, Nat.add_zero, Int.zero_mul, Int.add_zero, Int.pow_succ]
      generalize (65536 : Int) ^ i = P at *
      generalize V (a.drop (i + 1)) = W at *
      generalize V b = Y at *
      rw [Int.add_mul, Int.add_mul, Int.mul_comm P 65536, ← Int.mul_assoc (W * Y), Int.mul_comm (W * Y) 65536, ← Int.mul_assoc 65536 W Y]
      omega
theorem product_f (a b : List Int) (ha : Dg a) (hb : Dg b) (la : a.length ≤ 100) (lb : b.length ≤ 100) :
    ∃ r, (∀ k, 10300 ≤ k → hornbeamref04_Product.f k a b = some r) ∧ r.length = a.length + b.length ∧ Dg r ∧ V r = V a * V b := by
  have e : wrap64 ((a.length : Int) + (b.length : Int)) = ((a.length + b.length : Nat) : Int) := by unfold wrap64; omega
  obtain ⟨r, h1, h2, h3, h4⟩ := product_l0 a b ha hb la lb a.length 0 (List.replicate (a.length + b.length) 0) (by omega) (List.length_replicate) (Dg.replicate _) (by
    intro m _
    by_cases h : m < a.length + b.length <;> simp [List.getD, h])
  refine ⟨r, ?_, h2, h3, ?_⟩
  · intro k hk
    have hm : a.length * (b.length + 2) ≤ 100 * 102 := Nat.mul_le_mul la (by omega)
    unfold hornbeamref04_Product.f
    rw [e, if_pos (by omega), Int.toNat_natCast, if_pos (by omega)]
    have := h1 (k - (a.length * (b.length + 2) + 1))
    rw [show k - (a.length * (b.length + 2) + 1) + (a.length * (b.length + 2) + 1) = k by omega] at this
    exact this
  · rw [h4, V_replicate, List.drop_zero, Int.pow_zero, Int.mul_one, Int.zero_add]
theorem rmul_f {a b : Int} (a0 : 0 ≤ a) (a1 : a < 18446744073709551616) (b0 : 0 ≤ b) (b1 : b < 18446744073709551616) (k : Nat) (hk : 10300 ≤ k) :
    hornbeamref04_Mul.f k a b = some (a * b / 18446744073709551616, a * b % 18446744073709551616) := by
  obtain ⟨r, h1, h2, h3, h4⟩ := product_f (dig4 a) (dig4 b) (dig4_Dg a0 a1) (dig4_Dg b0 b1) (by rw [dig4_len]; omega) (by rw [dig4_len]; omega)
  rw [dig4_len, dig4_len] at h2
  rw [dig4_V, dig4_V] at h4
  unfold hornbeamref04_Mul.f
  have t1 : (r.take 4).length = 4 := by rw [List.length_take]; omega
  have t2 : (r.drop 4).length = 4 := by rw [List.length_drop]; omega
  rw [digits_f a0 a1, Option.bind_some, digits_f b0 b1, Option.bind_some, h1 k hk, Option.bind_some, if_pos (by omega), number_f t2 (h3.drop 4), Option.bind_some, number_f t1 (h3.take 4), Option.bind_some]
  have e := V_take_drop r 4 (by omega)
  have u1 := V_lt (h3.take 4); have u2 := V_nonneg (h3.take 4)
  rw [t1] at u1
  rw [h4] at e
  rw [show (65536 : Int) ^ 4 = 18446744073709551616 from rfl] at e u1
  simp only [Option.some.injEq, Prod.mk.injEq]
  omega
theorem sum_l (a b : List Int) (ha : Dg a) (hb : Dg b) (hl : a.length = b.length) (la : a.length ≤ 100) (d : Nat) :
    ∀ (i : Nat) (o : List Int) (c : Int), i + d = a.length → o.length ≤ i → 0 ≤ c → c ≤ 1 →
    ∃ r, (∀ k, hornbeamref04_Sum.l0 (k + (d + 1)) a b o c (i : Int) = some (o ++ r)) ∧ r.length = d + 1 ∧ Dg r ∧ V r = V (a.drop i) + V (b.drop i) + c := by
  induction d with
  | zero =>
    intro i o c hi ho c0 c1
    refine ⟨[c], ?_, rfl, Dg.cons (by omega) (by omega) Dg.nil, ?_⟩
    · intro k
      rw [hornbeamref04_Sum.l0, if_neg (by omega), if_pos (by omega)]
    · rw [List.drop_eq_nil_of_le (by omega), List.drop_eq_nil_of_le (by omega)]; simp [V]
  | succ d ih =>
    intro i o c hi ho c0 c1
    have hA := ha.getD i; have hB := hb.getD i
    obtain ⟨n, hn⟩ : ∃ n, n = a.getD i 0 + b.getD i 0 + c := ⟨_, rfl⟩
    have n0 : 0 ≤ n := by omega
    have n1 : n < 131072 := by omega
    obtain ⟨r, h1, h2, h3, h4⟩ := ih (i + 1) (o ++ [n % 65536]) (n / 65536) (by omega) (by rw [List.length_append, List.length_singleton]; omega) (by omega) (by omega)
    refine ⟨n % 65536 :: r, ?_, by rw [List.length_cons, h2], Dg.cons (by omega) (by omega) h3, ?_⟩
    · intro k
      rw [show k + (d + 1 + 1) = k + (d + 1) + 1 by omega, hornbeamref04_Sum.l0, if_pos (by omega), if_pos (by omega), if_pos (by omega), if_pos (by omega), rd_nat, rd_nat,
        uwrap_id (n := a.getD i 0 + b.getD i 0) (by omega) (by omega), ← hn, uwrap_id (n := n) (by omega) (by omega), Int.tmod_eq_emod_of_nonneg n0, Int.tdiv_eq_ediv_of_nonneg n0, uwrap_id (by omega) (by omega),
        show wrap64 ((i : Int) + 1) = ((i + 1 : Nat) : Int) by unfold wrap64; omega]
      rw [h1 k, List.append_assoc]; rfl
    · rw [V, h4, V_drop i (by omega), V_drop (l := b) i (by omega)]
      generalize V (a.drop (i + 1)) = p at *
      generalize V (b.drop (i + 1)) = q at *
      omega
theorem sum_f (a b : List Int) (ha : Dg a) (hb : Dg b) (hl : a.length = b.length) (la : a.length ≤ 100) :
    ∃ r, (∀ k, 101 ≤ k → hornbeamref04_Sum.f k a b = some r) ∧ r.length = a.length + 1 ∧ Dg r ∧ V r = V a + V b := by
  obtain ⟨r, h1, h2, h3, h4⟩ := sum_l a b ha hb hl la a.length 0 [] 0 (by omega) (by simp) (by omega) (by omega)
  refine ⟨r, ?_, h2, h3, ?_⟩
  · intro k hk
    have := h1 (k - (a.length + 1))
    rw [show k - (a.length + 1) + (a.length + 1) = k by omega] at this
    exact this
  · rw [h4, List.drop_zero, List.drop_zero, Int.add_zero]
/-- A list of eight digits and more: its words. -/
theorem words8 {r : List Int} (hd : Dg r) (h : 8 ≤ r.length) : V r = V (r.take 4) + 18446744073709551616 * V ((r.take 8).drop 4) + 340282366920938463463374607431768211456 * V (r.drop 8) ∧
    0 ≤ V (r.take 4) ∧ V (r.take 4) < 18446744073709551616 ∧ 0 ≤ V ((r.take 8).drop 4) ∧ V ((r.take 8).drop 4) < 18446744073709551616 ∧ 0 ≤ V (r.drop 8) := by
  have e1 := V_take_drop r 8 h
  have e2 := V_take_drop (r.take 8) 4 (by rw [List.length_take]; omega)
  rw [List.take_take, Nat.min_eq_left (by omega)] at e2
  rw [show (65536 : Int) ^ 8 = 340282366920938463463374607431768211456 from rfl] at e1
  rw [show (65536 : Int) ^ 4 = 18446744073709551616 from rfl] at e2
  have l1 : (r.take 4).length = 4 := by rw [List.length_take]; omega
  have l2 : ((r.take 8).drop 4).length = 4 := by rw [List.length_drop, List.length_take]; omega
  have u1 := V_lt (hd.take 4); have u2 := V_nonneg (hd.take 4)
  have v1 := V_lt ((hd.take 8).drop 4); have v2 := V_nonneg ((hd.take 8).drop 4)
  have w2 := V_nonneg (hd.drop 8)
  rw [l1, show (65536 : Int) ^ 4 = 18446744073709551616 from rfl] at u1
  rw [l2, show (65536 : Int) ^ 4 = 18446744073709551616 from rfl] at v1
  exact ⟨by omega, u2, u1, v2, v1, w2⟩
theorem radd_f {a b c d : Int} (a0 : 0 ≤ a) (a1 : a < 18446744073709551616) (b0 : 0 ≤ b) (b1 : b < 18446744073709551616) (c0 : 0 ≤ c) (c1 : c < 18446744073709551616) (d0 : 0 ≤ d) (d1 : d < 18446744073709551616) (k : Nat) (hk : 101 ≤ k) :
    hornbeamref04_Add.f k a b c d = some (wideSum (a * 18446744073709551616 + b + (c * 18446744073709551616 + d))) := by
  obtain ⟨x, x1, x2, x3, x4⟩ := ofwide_f a0 a1 b0 b1
  obtain ⟨y, y1, y2, y3, y4⟩ := ofwide_f c0 c1 d0 d1
  obtain ⟨r, r1, r2, r3, r4⟩ := sum_f x y x3 y3 (by omega) (by omega)
  obtain ⟨e, t0, t1, u0, u1, v0⟩ := words8 r3 (by omega)
  have hv : V (r.drop 8) = r.getD 8 0 := by
    rw [V_drop 8 (by omega), List.drop_eq_nil_of_le (by omega)]; simp [V]
  unfold hornbeamref04_Add.f
  rw [x1, Option.bind_some, y1, Option.bind_some, r1 k hk, Option.bind_some, if_pos (by omega), show rd r 8 = r.getD 8 0 from rfl, ← hv]
  rw [x4, y4] at r4
  rw [r4] at e
  unfold wideSum
  by_cases h : V (r.drop 8) > 0
  · rw [if_pos h, if_neg (by omega)]
  · rw [if_neg h, if_pos (by decide), if_pos (by omega), number_f (by rw [List.length_drop, List.length_take]; omega) ((r3.take 8).drop 4), Option.bind_some, if_pos (by omega), number_f (by rw [List.length_take]; omega) (r3.take 4), Option.bind_some, if_pos (by omega)]
    simp only [Option.some.injEq, Prod.mk.injEq]
    exact ⟨by omega, by omega, trivial⟩
theorem rtimesw_f {h l n : Int} (h0 : 0 ≤ h) (h1 : h < 18446744073709551616) (l0 : 0 ≤ l) (l1 : l < 18446744073709551616) (n0 : 0 ≤ n) (n1 : n < 18446744073709551616) (k : Nat) (hk : 10300 ≤ k) :
    hornbeamref04_Times.f k h l n = some (longD ((h * 18446744073709551616 + l) * n)) := by
  obtain ⟨x, x1, x2, x3, x4⟩ := ofwide_f h0 h1 l0 l1
  obtain ⟨r, r1, r2, r3, r4⟩ := product_f x (dig4 n) x3 (dig4_Dg n0 n1) (by omega) (by rw [dig4_len]; omega)
  rw [dig4_V, x4] at r4
  rw [dig4_len] at r2
  obtain ⟨e, t0, t1, u0, u1, v0⟩ := words8 r3 (by omega)
  unfold hornbeamref04_Times.f
  rw [x1, Option.bind_some, digits_f n0 n1, Option.bind_some, r1 k hk, Option.bind_some, if_pos (by omega), number_f (by rw [List.length_drop]; omega) (r3.drop 8), Option.bind_some, if_pos (by decide), number_f (by rw [List.length_drop, List.length_take]; omega) ((r3.take 8).drop 4), Option.bind_some,
    if_pos (by omega), number_f (by rw [List.length_take]; omega) (r3.take 4), Option.bind_some]
  rw [r4] at e
  generalize (h * 18446744073709551616 + l) * n = X at *
  generalize V (r.take 4) = p at *
  generalize V ((r.take 8).drop 4) = q at *
  generalize V (r.drop 8) = s at *
  unfold longD
  have f1 : X / 18446744073709551616 = q + 18446744073709551616 * s := by omega
  rw [f1]
  simp only [Option.some.injEq, Prod.mk.injEq]
  exact ⟨by omega, by omega, by omega⟩
theorem rcompare_l (a b : List Int) (ha : Dg a) (hb : Dg b) (hl : a.length = b.length) (h100 : a.length ≤ 100) (m : Nat) : ∀ (k : Nat), m ≤ a.length → m < k →
    hornbeamref04_Compare.l0 k a b ((m : Int) - 1) = some (cmpI (V (a.take m)) (V (b.take m))) := by
  induction m with
  | zero =>
    intro k _ hk
    obtain ⟨k, rfl⟩ : ∃ q, k = q + 1 := ⟨k - 1, by omega⟩
    rw [hornbeamref04_Compare.l0, if_neg (by omega)]
    rfl
  | succ m ih =>
    intro k hm hk
    obtain ⟨k, rfl⟩ : ∃ q, k = q + 1 := ⟨k - 1, by omega⟩
    have tk : ∀ (l : List Int), m < l.length → V (l.take (m + 1)) = V (l.take m) + 65536 ^ m * l.getD m 0 := by
      intro l h
      rw [List.take_succ_eq_append_getElem h, V_append, List.length_take, Nat.min_eq_left (by omega)]
      simp [V, List.getD, h]
    have u1 := V_lt (ha.take m); have u2 := V_nonneg (ha.take m)
    have v1 := V_lt (hb.take m); have v2 := V_nonneg (hb.take m)
    rw [List.length_take, Nat.min_eq_left (by omega)] at u1 v1
    rw [hornbeamref04_Compare.l0, show (((m + 1 : Nat) : Int) - 1) = (m : Int) by omega, if_pos (by omega), if_pos (by omega), if_pos (by omega), if_pos (by omega), rd_nat, rd_nat, show wrap64 ((m : Int) - 1) = (m : Int) - 1 by unfold wrap64; omega,
      ih k (by omega) (by omega), tk a (by omega), tk b (by omega)]
    generalize (65536 : Int) ^ m = P at *
    generalize V (a.take m) = x at *
    generalize V (b.take m) = y at *
    generalize a.getD m 0 = p at *
    generalize b.getD m 0 = q at *
    have key : ∀ s t : Int, s < t → P * s + P ≤ P * t := by
      intro s t h
      have := Int.mul_le_mul_of_nonneg_left (a := s + 1) (b := t) (c := P) (by omega) (by omega)
      rw [Int.mul_add, Int.mul_one] at this
      exact this
    unfold cmpI
    by_cases h1 : p < q
    · have := key p q h1
      rw [if_pos h1, if_pos (by omega)]
    · rw [if_neg h1]
      by_cases h2 : p > q
      · have := key q p h2
        rw [if_pos h2, if_neg (by omega), if_pos (by omega)]
      · have e : p = q := by omega
        subst e
        rw [if_neg h2]
        congr 1
        by_cases h3 : x < y
        · rw [if_pos h3, if_pos (by omega)]
        · rw [if_neg h3, if_neg (show ¬ (x + P * p < y + P * p) by omega)]
          by_cases h4 : y < x
          · rw [if_pos h4, if_pos (by omega)]
          · rw [if_neg h4, if_neg (by omega)]
theorem rcompare_f (a b : List Int) (ha : Dg a) (hb : Dg b) (hl : a.length = b.length) (h100 : a.length ≤ 100) (k : Nat) (hk : 101 ≤ k) :
    hornbeamref04_Compare.f k a b = some (cmpI (V a) (V b)) := by
  have := rcompare_l a b ha hb hl h100 a.length k (Nat.le_refl _) (by omega)
  rw [List.take_length, hl, List.take_length] at this
  unfold hornbeamref04_Compare.f
  rw [show wrap64 ((a.length : Int) - 1) = (a.length : Int) - 1 by unfold wrap64; omega, hl]
  exact this
theorem mul_f (a b : Int) : prod_Mul.f a b = some (mul64 a b) := rfl
theorem mul_eq {a b : Int} (a0 : 0 ≤ a) (a1 : a < 18446744073709551616) (b0 : 0 ≤ b) (b1 : b < 18446744073709551616) :
    prod_Mul.f a b = some (a * b / 18446744073709551616, a * b % 18446744073709551616) := by rw [mul_f, mul64_eq a0 a1 b0 b1]
theorem add64_f {a b c : Int} (a0 : 0 ≤ a) (b0 : 0 ≤ b) (c0 : 0 ≤ c) (c1 : c ≤ 1) : bits_Add64.f a b c = some ((a + b + c) % 18446744073709551616, (a + b + c) / 18446744073709551616) := by
  unfold bits_Add64.f
  rw [if_pos ⟨a0, b0, c0, c1⟩]
theorem times_f {h l n : Int} (h0 : 0 ≤ h) (h1 : h < 18446744073709551616) (l0 : 0 ≤ l) (l1 : l < 18446744073709551616) (n0 : 0 ≤ n) (n1 : n < 18446744073709551616) :
    prod_Times.f h l n = some (longD ((h * 18446744073709551616 + l) * n)) := by
  unfold prod_Times.f
  rw [show bits_Mul64.f l n = some (mul64 l n) from rfl, show bits_Mul64.f h n = some (mul64 h n) from rfl, Option.bind_some, Option.bind_some, mul64_eq l0 l1 n0 n1, mul64_eq h0 h1 n0 n1]
  have p1 := mul_bound64 l0 l1 n0 n1
  have p2 := mul_bound64 h0 h1 n0 n1
  have e : (h * 18446744073709551616 + l) * n = (h * n) * 18446744073709551616 + l * n := by rw [Int.add_mul, Int.mul_right_comm]
  rw [e]
  unfold longD
  generalize h * n = q at *
  generalize l * n = p at *
  rw [add64_f (by omega) (by omega) (by omega) (by omega), Option.bind_some, uwrap_id (by omega) (by omega)]
  simp only [Option.some.injEq, Prod.mk.injEq]
  omega
theorem add_f {a b c d : Int} (a0 : 0 ≤ a) (a1 : a < 18446744073709551616) (b0 : 0 ≤ b) (b1 : b < 18446744073709551616) (c0 : 0 ≤ c) (c1 : c < 18446744073709551616) (d0 : 0 ≤ d) (d1 : d < 18446744073709551616) :
    prod_Add.f a b c d = some (wideSum (a * 18446744073709551616 + b + (c * 18446744073709551616 + d))) := by
  unfold prod_Add.f
  rw [add64_f b0 d0 (by omega) (by omega), Option.bind_some, add64_f a0 c0 (by omega) (by omega), Option.bind_some]
  unfold wideSum
  have e1 : (b + d + 0) / 18446744073709551616 = (b + d) / 18446744073709551616 := by rw [Int.add_zero]
  have e2 : (a * 18446744073709551616 + b + (c * 18446744073709551616 + d)) / 18446744073709551616 = a + c + (b + d) / 18446744073709551616 := by omega
  have e3 : (a * 18446744073709551616 + b + (c * 18446744073709551616 + d)) % 18446744073709551616 = (b + d) % 18446744073709551616 := by omega
  rw [e1, e2, e3, Int.add_zero]
  by_cases h : (a + c + (b + d) / 18446744073709551616) / 18446744073709551616 = 0
  · rw [if_pos h, if_pos (by omega), Int.emod_eq_of_lt (a := a + c + (b + d) / 18446744073709551616) (by omega) (by omega)]
  · rw [if_neg h, if_neg (by omega)]
theorem compare_f (a b : Int) : cmp_Compare_uint64.f a b = some (cmpI a b) := by
  unfold cmp_Compare_uint64.f cmp_isNaN_uint64.f cmpI
  rw [Option.bind_some, Option.bind_some, if_neg (by simp), if_neg (by simp)]
  split
  · rfl
  · split <;> rfl
theorem cmplong_f {X Y : Int} (_x0 : 0 ≤ X) (_y0 : 0 ≤ Y) : prod_CmpLong.f (longD X).1 (longD X).2.1 (longD X).2.2 (longD Y).1 (longD Y).2.1 (longD Y).2.2 = some (cmpI X Y) := by
  unfold prod_CmpLong.f longD
  simp only [compare_f]
  unfold cmpI
  have hx := Int.mul_ediv_add_emod X 18446744073709551616
  have hy := Int.mul_ediv_add_emod Y 18446744073709551616
  have hx2 := Int.mul_ediv_add_emod (X / 18446744073709551616) 18446744073709551616
  have hy2 := Int.mul_ediv_add_emod (Y / 18446744073709551616) 18446744073709551616
  have b1 := Int.emod_nonneg X (b := 18446744073709551616) (by decide)
  have b2 := Int.emod_lt_of_pos X (b := 18446744073709551616) (by decide)
  have b3 := Int.emod_nonneg Y (b := 18446744073709551616) (by decide)
  have b4 := Int.emod_lt_of_pos Y (b := 18446744073709551616) (by decide)
  have b5 := Int.emod_nonneg (X / 18446744073709551616) (b := 18446744073709551616) (by decide)
  have b6 := Int.emod_lt_of_pos (X / 18446744073709551616) (b := 18446744073709551616) (by decide)
  have b7 := Int.emod_nonneg (Y / 18446744073709551616) (b := 18446744073709551616) (by decide)
  have b8 := Int.emod_lt_of_pos (Y / 18446744073709551616) (b := 18446744073709551616) (by decide)
  generalize X % 18446744073709551616 = u0 at *
  generalize Y % 18446744073709551616 = v0 at *
  generalize X / 18446744073709551616 % 18446744073709551616 = u1 at *
  generalize Y / 18446744073709551616 % 18446744073709551616 = v1 at *
  generalize X / 18446744073709551616 / 18446744073709551616 = u2 at *
  generalize Y / 18446744073709551616 / 18446744073709551616 = v2 at *
  generalize X / 18446744073709551616 = p at *
  generalize Y / 18446744073709551616 = q at *
  by_cases h2 : u2 = v2
  · rw [if_pos h2]
    by_cases h1 : u1 = v1
    · rw [if_pos h1]
      by_cases h0 : u0 = v0
      · rw [if_pos h0, if_neg (by omega), if_neg (by omega)]
      · rw [if_neg h0]
        rcases Int.lt_or_gt_of_ne h0 with h | h
        · rw [if_pos h, if_pos (by omega)]
        · rw [if_neg (by omega), if_pos h, if_neg (by omega), if_pos (by omega)]
    · rw [if_neg h1]
      rcases Int.lt_or_gt_of_ne h1 with h | h
      · rw [if_pos h, if_pos (by omega)]
      · rw [if_neg (by omega), if_pos h, if_neg (by omega), if_pos (by omega)]
  · rw [if_neg h2]
    rcases Int.lt_or_gt_of_ne h2 with h | h
    · rw [if_pos h, if_pos (by omega)]
    · rw [if_neg (by omega), if_pos h, if_neg (by omega), if_pos (by omega)]
theorem or_f (k : Nat) (hk : 3 ≤ k) (a b : Int) : cmp_Or_int.f k [a, b] = some (if a = 0 then b else a) := by
  obtain ⟨k, rfl⟩ : ∃ m, k = m + 3 := ⟨k - 3, by omega⟩
  unfold cmp_Or_int.f
  rw [cmp_Or_int.l0, if_pos (by simp), if_pos (by omega), if_pos (by simp)]
  rw [show rd [a, b] 0 = a from rfl, show wrap64 (0 + 1) = 1 by unfold wrap64; omega]
  by_cases ha : a = 0
  · rw [if_pos ha, cmp_Or_int.l0, if_pos (by simp), if_pos (by omega), if_pos (by simp), show rd [a, b] 1 = b from rfl, show wrap64 (1 + 1) = 2 by unfold wrap64; omega, if_pos ha]
    by_cases hb : b = 0
    · rw [if_pos hb, cmp_Or_int.l0, if_neg (by simp), hb]
    · rw [if_neg hb]
  · rw [if_neg ha, if_neg ha]
theorem cmp_f (k : Nat) (hk : 3 ≤ k) (X Y : Int) : prod_Cmp.f k (X / 18446744073709551616) (X % 18446744073709551616) (Y / 18446744073709551616) (Y % 18446744073709551616) = some (cmpI X Y) := by
  unfold prod_Cmp.f
  rw [compare_f, Option.bind_some, compare_f, Option.bind_some, or_f k hk, Option.bind_some]
  congr 1
  unfold cmpI
  by_cases h1 : X / 18446744073709551616 < Y / 18446744073709551616
  · rw [if_pos h1, if_neg (by decide), if_pos (by omega)]
  · rw [if_neg h1]
    by_cases h2 : Y / 18446744073709551616 < X / 18446744073709551616
    · rw [if_pos h2, if_neg (by decide), if_neg (by omega), if_pos (by omega)]
    · rw [if_neg h2, if_pos rfl]
      by_cases h3 : X % 18446744073709551616 < Y % 18446744073709551616
      · rw [if_pos h3, if_pos (by omega)]
      · rw [if_neg h3, if_neg (show ¬ X < Y by omega)]
        by_cases h4 : Y % 18446744073709551616 < X % 18446744073709551616
        · rw [if_pos h4, if_pos (by omega)]
        · rw [if_neg h4, if_neg (by omega)]
theorem cmpw_f (k : Nat) (hk : 3 ≤ k) {h l h2 l2 : Int} (_h0 : 0 ≤ h) (_h1 : h < 18446744073709551616) (l0 : 0 ≤ l) (l1 : l < 18446744073709551616) (_g0 : 0 ≤ h2) (_g1 : h2 < 18446744073709551616) (m0 : 0 ≤ l2) (m1 : l2 < 18446744073709551616) :
    prod_Cmp.f k h l h2 l2 = some (cmpI (h * 18446744073709551616 + l) (h2 * 18446744073709551616 + l2)) := by
  have := cmp_f k hk (h * 18446744073709551616 + l) (h2 * 18446744073709551616 + l2)
  rw [show (h * 18446744073709551616 + l) / 18446744073709551616 = h by omega, show (h * 18446744073709551616 + l) % 18446744073709551616 = l by omega, show (h2 * 18446744073709551616 + l2) / 18446744073709551616 = h2 by omega, show (h2 * 18446744073709551616 + l2) % 18446744073709551616 = l2 by omega] at this
  exact this
theorem rcmpw_f (k : Nat) (hk : 101 ≤ k) {h l h2 l2 : Int} (h0 : 0 ≤ h) (h1 : h < 18446744073709551616) (l0 : 0 ≤ l) (l1 : l < 18446744073709551616) (g0 : 0 ≤ h2) (g1 : h2 < 18446744073709551616) (m0 : 0 ≤ l2) (m1 : l2 < 18446744073709551616) :
    hornbeamref04_Cmp.f k h l h2 l2 = some (cmpI (h * 18446744073709551616 + l) (h2 * 18446744073709551616 + l2)) := by
  obtain ⟨a, a1, a2, a3, a4⟩ := ofwide_f h0 h1 l0 l1
  obtain ⟨b, b1, b2, b3, b4⟩ := ofwide_f g0 g1 m0 m1
  unfold hornbeamref04_Cmp.f
  rw [a1, Option.bind_some, b1, Option.bind_some, rcompare_f a b a3 b3 (by omega) (by omega) k hk, Option.bind_some, a4, b4]
theorem rcmplong_f {X Y : Int} : hornbeamref04_CmpLong.f (longD X).1 (longD X).2.1 (longD X).2.2 (longD Y).1 (longD Y).2.1 (longD Y).2.2 = some (cmpI X Y) := by
  unfold hornbeamref04_CmpLong.f longD
  simp only []
  unfold cmpI
  have hx := Int.mul_ediv_add_emod X 18446744073709551616
  have hy := Int.mul_ediv_add_emod Y 18446744073709551616
  have hx2 := Int.mul_ediv_add_emod (X / 18446744073709551616) 18446744073709551616
  have hy2 := Int.mul_ediv_add_emod (Y / 18446744073709551616) 18446744073709551616
  have b1 := Int.emod_nonneg X (b := 18446744073709551616) (by decide)
  have b2 := Int.emod_lt_of_pos X (b := 18446744073709551616) (by decide)
  have b3 := Int.emod_nonneg Y (b := 18446744073709551616) (by decide)
  have b4 := Int.emod_lt_of_pos Y (b := 18446744073709551616) (by decide)
  have b5 := Int.emod_nonneg (X / 18446744073709551616) (b := 18446744073709551616) (by decide)
  have b6 := Int.emod_lt_of_pos (X / 18446744073709551616) (b := 18446744073709551616) (by decide)
  have b7 := Int.emod_nonneg (Y / 18446744073709551616) (b := 18446744073709551616) (by decide)
  have b8 := Int.emod_lt_of_pos (Y / 18446744073709551616) (b := 18446744073709551616) (by decide)
  generalize X % 18446744073709551616 = u0 at *
  generalize Y % 18446744073709551616 = v0 at *
  generalize X / 18446744073709551616 % 18446744073709551616 = u1 at *
  generalize Y / 18446744073709551616 % 18446744073709551616 = v1 at *
  generalize X / 18446744073709551616 / 18446744073709551616 = u2 at *
  generalize Y / 18446744073709551616 / 18446744073709551616 = v2 at *
  generalize X / 18446744073709551616 = p at *
  generalize Y / 18446744073709551616 = q at *
  by_cases h2 : u2 < v2
  · rw [if_pos h2, if_pos (by omega)]
  · rw [if_neg h2]
    by_cases g2 : v2 < u2
    · rw [if_pos g2, if_neg (by omega), if_pos (by omega)]
    · rw [if_neg g2]
      by_cases h1 : u1 < v1
      · rw [if_pos h1, if_pos (by omega)]
      · rw [if_neg h1]
        by_cases g1 : v1 < u1
        · rw [if_pos g1, if_neg (by omega), if_pos (by omega)]
        · rw [if_neg g1]
          by_cases h0 : u0 < v0
          · rw [if_pos h0, if_pos (by omega)]
          · rw [if_neg h0]
            by_cases g0 : v0 < u0
            · rw [if_pos g0, if_neg (by omega), if_pos (by omega)]
            · rw [if_neg g0, if_neg (by omega), if_neg (by omega)]
theorem size_f (a : Int) : prod_size.f a = some (sizeI a) := by unfold prod_size.f sizeI; split <;> rfl
theorem square_f {a : Int} : prod_Square.f a = some (mul64 (sizeI a) (sizeI a)) := by
  unfold prod_Square.f
  rw [size_f, Option.bind_some, Option.bind_some, mul_f, Option.bind_some]
theorem floor_f {a b : Int} (a0 : -9223372036854775808 ≤ a) (a1 : a ≤ 9223372036854775807) (hb : 1 ≤ b) : prod_Floor.f a b = some (a / b, 0) := by
  unfold prod_Floor.f
  rw [if_neg (by omega), if_neg (by omega)]
  exact floor_eq a0 a1 hb
theorem fixed_f : hornbeamlaw04_fixed.f = some true := by
  unfold hornbeamlaw04_fixed.f
  rw [floor_f (by omega) (by omega) (by omega), Option.bind_some, if_pos rfl, if_pos (by decide), square_f, Option.bind_some, sizeI_eq (by omega) (by omega), mul64_eq (by omega) (by omega) (by omega) (by omega)]
  rfl
theorem law_f (k : Nat) (hk : 10330 ≤ k) {a b c d n : Int} (a0 : 0 ≤ a) (a1 : a < 18446744073709551616) (b0 : 0 ≤ b) (b1 : b < 18446744073709551616) (c0 : 0 ≤ c) (c1 : c < 18446744073709551616) (d0 : 0 ≤ d) (d1 : d < 18446744073709551616) (n0 : 0 ≤ n) (n1 : n < 18446744073709551616) :
    hornbeamlaw04_ProdWides.f k a b c d n = some true := by
  have p1 : 0 ≤ (a * 18446744073709551616 + b) * n := Int.mul_nonneg (by omega) n0
  have p2 : 0 ≤ (c * 18446744073709551616 + d) * b := Int.mul_nonneg (by omega) b0
  unfold hornbeamlaw04_ProdWides.f
  rw [add_f a0 a1 b0 b1 c0 c1 d0 d1, Option.bind_some, radd_f a0 a1 b0 b1 c0 c1 d0 d1 k (by omega), Option.bind_some, times_f a0 a1 b0 b1 n0 n1, Option.bind_some, times_f c0 c1 d0 d1 b0 b1, Option.bind_some, fixed_f, Option.bind_some, if_pos rfl,
    mul_eq b0 b1 d0 d1, Option.bind_some, rmul_f b0 b1 d0 d1 k (by omega), Option.bind_some, if_pos (by simp), if_pos (by simp), if_pos rfl,
    cmpw_f k (by omega) a0 a1 b0 b1 c0 c1 d0 d1, Option.bind_some, rcmpw_f k (by omega) a0 a1 b0 b1 c0 c1 d0 d1, Option.bind_some, if_pos rfl, rtimesw_f a0 a1 b0 b1 n0 n1 k (by omega), Option.bind_some, if_pos (by simp),
    rtimesw_f c0 c1 d0 d1 b0 b1 k (by omega), Option.bind_some, if_pos (by simp), cmplong_f p1 p2, Option.bind_some, rcmplong_f, Option.bind_some, beq_self_eq_true]
end ProdWides0
open ProdWides0
theorem ProdWides : hornbeamlaw04_ProdWides.Pure := by
  intro a b c d n ha hb hc hd hn
  have h1 := wf_u64 ha; have h2 := wf_u64 hb; have h3 := wf_u64 hc; have h4 := wf_u64 hd; have h5 := wf_u64 hn
  exact ⟨10330, law_f 10330 (Nat.le_refl _) h1.1 h1.2 h2.1 h2.2 h3.1 h3.2 h4.1 h4.2 h5.1 h5.2⟩

end Go.Proofs.Ytglicbpnmehloaa.Pure
