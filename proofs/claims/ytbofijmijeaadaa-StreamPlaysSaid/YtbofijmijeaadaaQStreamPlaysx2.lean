-- Written by a program of this session (wip/tools/mkprint.py over the kit's print); Lean checks it.
import Derived.Test.YtbofijmijeaadaaQStreamPlaysx0
import Derived.Test.YtbofijmijeaadaaQStreamPlaysx1
namespace Go.Proofs.Ytbofijmijeaadaa.QStreamPlays
open Go.RowKit Go.Proofs.YtbofijmijeaadaaW.PrintWords Go.Proofs.YtbofijmijeaadaaW.PrintLast Go.Proofs.YtbofijmijeaadaaW.PrintMore
attribute [local go_sem] max2_int min2_int max_two min_two max_three min_three max_four min_four   -- for this text's walks alone
set_option linter.unusedVariables false
set_option linter.unusedSimpArgs false

/-! ### hornbeamref02_Row: function 28 -/
def hornbeamref02_Row.l0 : Nat → Int → Int → List Int → Int → Option (List Int)
  | 0, _, _, _, _ => none
  | k + 1, x0, x1, x5, x6 => if x6 < x1 then ((hornbeamref02_At.f k x0 (IntKind.u64.wrap (x6))).bind fun t127 => (if x5.length < 17592186044416 then (hornbeamref02_Row.l0 k x0 x1 (x5 ++ [t127]) (wrap64 (x6 + 1))) else (none))) else (some x5)
def hornbeamref02_Row.f (k : Nat) (a0 : Int) (a1 : Int) : Option (List Int) := hornbeamref02_Row.l0 k a0 a1 (([] : List Int)) 0
theorem hornbeamref02_Row.mono_l : ∀ k, (∀ y0 y1 y2 y3, LeO (hornbeamref02_Row.l0 k y0 y1 y2 y3) (hornbeamref02_Row.l0 (k + 1) y0 y1 y2 y3))
  | 0 => fun _ _ _ _ r h => by simp [hornbeamref02_Row.l0] at h
  | k + 1 => by
    have ih0 := hornbeamref02_Row.mono_l k
    · intro y0 y1 y2 y3
      unfold hornbeamref02_Row.l0
      repeat' first
      | (with_reducible exact ih0 _ _ _ _)
      | (with_reducible exact hornbeamref02_At.mono _ _ _)
      | (with_reducible exact LeO.refl _)
      | (with_reducible exact LeO.none _)
      | (with_reducible refine LeO.ite ?_ ?_)
      | (with_reducible refine LeO.bind ?_ (fun _ => ?_))
      | exact ih0 _ _ _ _
      | exact hornbeamref02_At.mono _ _ _
      | exact LeO.none _
      | refine LeO.ite ?_ ?_
      | refine LeO.bind ?_ (fun _ => ?_)
theorem hornbeamref02_Row.mono : ∀ a0 a1 k, LeO (hornbeamref02_Row.f k a0 a1) (hornbeamref02_Row.f (k + 1) a0 a1) := by
  intro a0 a1 k
  have ih0 := hornbeamref02_Row.mono_l k
  unfold hornbeamref02_Row.f
  repeat' first
      | (with_reducible exact ih0 _ _ _ _)
      | (with_reducible exact hornbeamref02_At.mono _ _ _)
      | (with_reducible exact LeO.refl _)
      | (with_reducible exact LeO.none _)
      | (with_reducible refine LeO.ite ?_ ?_)
      | (with_reducible refine LeO.bind ?_ (fun _ => ?_))
      | exact ih0 _ _ _ _
      | exact hornbeamref02_At.mono _ _ _
      | exact LeO.none _
      | refine LeO.ite ?_ ?_
      | refine LeO.bind ?_ (fun _ => ?_)
set_option maxHeartbeats 8000000 in
set_option maxRecDepth 100000 in
theorem hornbeamref02_Row.calls (k : Nat) (a0 : Int) (a1 : Int) (r : List Int) (w : World) (h : hornbeamref02_Row.f k a0 a1 = some r) :
    Calls Try.prog 28 #[.int .u64 a0, .int .i64 a1] w fun e w' => ∃ v0_ : Value, e = .returned (v0_) ∧ Kd.R (Kd.int .u64) 22 w' w.heap.size (fun _ => True) v0_ r ∧ Below w.heap.size w w' := by
  have HB := Aside0.mk (Below.refl w.heap.size w)
  have H : (hornbeamref02_Row.l0 k a0 a1 (([] : List Int)) 0) = some r := h
  clear h
  obtain ⟨y124, hy124⟩ : ∃ y_ : List Int, y_ = (([] : List Int)) := ⟨_, rfl⟩
  replace H : (hornbeamref02_Row.l0 k a0 a1 y124 0) = some r := by first | (rw [hy124]; with_reducible exact H) | (have H2_ := (Option.bind_some _ _).symm.trans H; rw [hy124]; with_reducible exact H2_) | (have H2_ := (Option.bind_some _ _).symm.trans H; with_reducible exact H2_) | with_reducible exact H | (rw [hy124]; exact H) | exact H
  have Ny124 := Aside0.mk hy124
  clear hy124
  have H' := Aside0.mk H
  clear H
  go_enter Try.func28, Try.ntmps28
  go_wp2_with (first | ((with_reducible refine gate_dst (N := 7) rfl ?_); refine Kd.R_lit (Kd.int .u64) _ 22 ?hg (N := 7) ?hd (xs := ([] : List Int)) (inner := []) (ok := fun _ => True) (okp := fun _ => True) ?hr ?hp (fun _ hk => hk) trivial (Below.refl _ _) (Nat.le_refl _) (by simp) ?_; (case hd => rfl); (case hg => rfl); (case hr => first | (go_simp; done) | (go_simp; rfl)); (case hp => exact (Reps.none _ _)); intro v125 w3 ho4 hb hg_ hnew_; clear hg_ hnew_; (first | rw [← Ny124.out] at ho4 | (simp only [Int.reduceToNat] at ho4; rw [← Ny124.out] at ho4)); have n0_ := Aside0.mk (Kd.R_lower ho4 (below_size (by repeat (first | (with_reducible first | exact HB.out | apply below_alloc | apply pw_below_drewN | apply below_drew1) | exact HB.out)))); have n1_ := Aside0.mk (below_step (by repeat (first | (with_reducible first | exact HB.out | apply below_alloc | apply pw_below_drewN | apply below_drew1) | exact HB.out)) hb); clear HB; have HO126 := n0_; have HB := n1_; clear n0_ n1_; clear hb ho4))
  go_loopg [5, 6] k (fun kq v5 v6 w' => ∃ (x5_1 : List Int) (x6_1 : Int), v6 = .int .i64 x6_1 ∧ Aside0 (hornbeamref02_Row.l0 kq a0 a1 x5_1 x6_1 = some r) ∧ Aside0 (kq ≤ k) ∧ Aside0 (Kd.R (Kd.int .u64) 22 w' w.heap.size (fun _ => True) v5 x5_1) ∧ Aside0 (Below w.heap.size w w'))
  case atStart => exact ⟨(y124), (0), (by first | rfl | (simp; done) | (simp [*]; done)), H', ⟨Nat.le_refl _⟩, ⟨by (with_reducible repeat (first | apply Kd.R_alloc | apply Kd.R_drewN | apply Kd.R_drew)); exact HO126.out⟩, ⟨by repeat (first | (with_reducible first | exact HB.out | apply below_alloc | apply pw_below_drewN | apply below_drew1) | exact HB.out)⟩⟩
  case round =>
    clear H'
    try clear c2
    try clear p2
    obtain ⟨x5_1, x6_1, rfl, HA, HK1, HO_5, HB⟩ := hrel
    cases gk with
    | zero => exact absurd HA.out (by simp [hornbeamref02_Row.l0])
    | succ k1 =>
      have H := HA.out
      clear HA
      simp only [hornbeamref02_Row.l0] at H
      by_cases c5 : x6_1 < a1
      · rw [if_pos c5] at H
        have c5b0 : decide (x6_1 < a1) = true := decide_eq_true c5
        clear c5
        replace H := Option.bind_eq_some_iff.mp H
        obtain ⟨t127, A60, H⟩ := H
        replace H : (if x5_1.length < 17592186044416 then (hornbeamref02_Row.l0 k1 a0 a1 (x5_1 ++ [t127]) (wrap64 (x6_1 + 1))) else (none)) = some r := H
        have A6 := Aside0.mk A60
        clear A60
        by_cases c7 : x5_1.length < 17592186044416
        · rw [if_pos c7] at H
          have LMc7 := Aside0.mk c7
          clear c7
          obtain ⟨y128, hy128⟩ : ∃ y_ : List Int, y_ = (x5_1 ++ [t127]) := ⟨_, rfl⟩
          replace H : (hornbeamref02_Row.l0 k1 a0 a1 y128 (wrap64 (x6_1 + 1))) = some r := by first | (rw [hy128]; with_reducible exact H) | (have H2_ := (Option.bind_some _ _).symm.trans H; rw [hy128]; with_reducible exact H2_) | (have H2_ := (Option.bind_some _ _).symm.trans H; with_reducible exact H2_) | with_reducible exact H | (rw [hy128]; exact H) | exact H
          have Ny128 := Aside0.mk hy128
          clear hy128
          have H' := Aside0.mk H
          clear H
          go_wp2_with (first | ((with_reducible refine gate_callee (f := 27) rfl ?_); refine goesL_ (some 17) rfl rfl Try.func27 (by kernel_rfl) rfl #[.int .u64 a0, .int .u64 (IntKind.u64.wrap (x6_1))] rfl (by (try simp only [List.map_toArray, List.map_cons, List.map_nil]); first | done | rfl | (simp only [List.length_drop, List.length_take]; rfl)) ?_; (with_reducible refine (hornbeamref02_At.calls k1 a0 (IntKind.u64.wrap (x6_1)) t127 _ A6.out).mono ?_); rintro e w' ⟨rfl, ⟨nd, rfl⟩⟩; refine ⟨_, rfl, ?_⟩) | ((with_reducible refine gate_builtin (b := .append) (xs := #[.tmp 13, .tmp 18]) rfl ?_); at_builtin; refine Kd.R_append (Kd.int .u64) (w0 := w) w.heap.size rfl (.tmp 13) (.tmp 18) 23 22 (.int .u64 0) 8 rfl Try.underlying23 info22 rfl (by decide) (by omega) u5 x5_1 t127 [.int .u64 t127] (fun _ => True) (fun _ => False) rfl rfl ?aP (fun _ hk => hk.elim) ?aF ?aO ?aB ?aS ?aL ?_; (case aP => exact rfl); (case aB => exact (by repeat (first | (with_reducible first | exact HB.out | apply below_alloc | apply pw_below_drewN | apply below_drew1) | exact HB.out))); (case aF => exact (fun _ _ => trivial)); (case aO => exact (by (with_reducible repeat (first | apply Kd.R_alloc | apply Kd.R_drewN | apply Kd.R_drew)); exact HO_5.out)); (case aS => exact (below_size (by repeat (first | (with_reducible first | exact HB.out | apply below_alloc | apply pw_below_drewN | apply below_drew1) | exact HB.out)))); (case aL => have := LMc7.out; omega); intro v129 w8 ho hb hg hat; rw [← Ny128.out] at ho; have n0_ := Aside0.mk (hb); have n1_ := Aside0.mk (ho); clear HB; clear HO_5; have HB := n0_; have HO130 := n1_; clear n0_ n1_; clear ho hb hg hat))
          go_roundg k1
          case measure => have := HK1.out; omega
          case rel => exact ⟨(y128), (wrap64 (x6_1 + 1)), (by first | rfl | (simp; done) | (simp [*]; done)), H', ⟨by have := HK1.out; omega⟩, ⟨by (with_reducible repeat (first | apply Kd.R_alloc | apply Kd.R_drewN | apply Kd.R_drew)); exact HO130.out⟩, ⟨by repeat (first | (with_reducible first | exact HB.out | apply below_alloc | apply pw_below_drewN | apply below_drew1) | exact HB.out)⟩⟩
        · rw [if_neg c7] at H
          exact absurd H (by simp)
      · rw [if_neg c5] at H
        have c5b0 : decide (x6_1 < a1) = false := decide_eq_false c5
        clear c5
        obtain rfl := Option.some.inj H
        go_wp2
        go_ret
        exact ⟨_, by first | rfl | (simp [errW_none, errW_some] <;> rfl) | (simp [*, errW_none, errW_some] <;> rfl), by (with_reducible repeat (first | apply Kd.R_alloc | apply Kd.R_drewN | apply Kd.R_drew)); exact HO_5.out, by repeat (first | (with_reducible first | exact HB.out | apply below_alloc | apply pw_below_drewN | apply below_drew1) | exact HB.out)⟩

/-! ### hornbeamlaw02_StreamPlays: function 11 -/
section
open U64
theorem mix_f (x : B) : mix_Mix.f (U x) = some (U (mixB x)) := congrArg some (mixI_U x)
theorem half_l (n : Int) (d : Nat) : ∀ (k : Nat) (x : B) (i : Int), 0 ≤ i → i + d = n → n ≤ 100 → d < k →
    hornbeamref01_half.l0 k (U x) n i = some (U (x >>> d)) := by
  induction d with
  | zero =>
    intro k x i h0 h1 h2 hk
    obtain ⟨k, rfl⟩ : ∃ m, k = m + 1 := ⟨k - 1, by omega⟩
    simp only [hornbeamref01_half.l0]
    rw [if_neg (by omega), BitVec.ushiftRight_zero]
  | succ d ih =>
    intro k x i h0 h1 h2 hk
    obtain ⟨k, rfl⟩ : ∃ m, k = m + 1 := ⟨k - 1, by omega⟩
    simp only [hornbeamref01_half.l0]
    rw [if_pos (by omega), Int.tdiv_eq_ediv_of_nonneg (U_nonneg x)]
    rw [show U x / (2 : Int) = U (x >>> 1) from div_U x 1, wrap_U, show wrap64 (i + 1) = i + 1 by unfold wrap64; omega]
    rw [ih k (x >>> 1) (i + 1) (by omega) (by omega) h2 (by omega), ← BitVec.shiftRight_add, Nat.add_comm 1 d]
theorem half_f (k : Nat) (x : B) (n : Nat) (m : Int) (hm : m = (n : Int)) (hn : n ≤ 100) (hk : n < k) : hornbeamref01_half.f k (U x) m = some (U (x >>> n)) :=
  half_l m n k x 0 (by omega) (by omega) (by omega) hk
theorem times_l (d : Nat) : ∀ (k : Nat) (a b out : B), b.toNat < 2 ^ d → d < k →
    hornbeamref01_times.l0 k (U a) (U b) (U out) = some (U (out + a * b)) := by
  induction d with
  | zero =>
    intro k a b out hb hk
    obtain ⟨k, rfl⟩ : ∃ m, k = m + 1 := ⟨k - 1, by omega⟩
    have : b = 0#64 := BitVec.eq_of_toNat_eq (by simp at hb ⊢; omega)
    subst this
    simp only [hornbeamref01_times.l0]
    rw [if_neg (by unfold U; simp), BitVec.mul_zero, BitVec.add_zero]
  | succ d ih =>
    intro k a b out hb hk
    obtain ⟨k, rfl⟩ : ∃ m, k = m + 1 := ⟨k - 1, by omega⟩
    simp only [hornbeamref01_times.l0]
    by_cases h0 : U b > 0
    · rw [if_pos h0, Int.tmod_eq_emod_of_nonneg (U_nonneg b), Int.tdiv_eq_ediv_of_nonneg (U_nonneg b), show U b / (2 : Int) = U (b >>> 1) from div_U b 1, wrap_U, wrap_add, wrap_add]
      have hb1 : (b >>> 1).toNat = b.toNat / 2 := by rw [BitVec.toNat_ushiftRight]; rfl
      have hlt : (b >>> 1).toNat < 2 ^ d := by rw [hb1]; rw [Nat.pow_succ] at hb; omega
      have hm : U b % 2 = ((b.toNat % 2 : Nat) : Int) := by unfold U; omega
      by_cases h1 : U b % 2 = 1
      · rw [if_pos h1, ih k _ _ _ hlt (by omega)]
        congr 2
        apply BitVec.eq_of_toNat_eq
        have hb2 : b.toNat = 2 * (b >>> 1).toNat + 1 := by omega
        simp only [BitVec.toNat_add, BitVec.toNat_mul]
        rw [hb2]
        generalize (b >>> 1).toNat = q
        simp only [Nat.mod_add_mod, Nat.add_mod_mod, Nat.mod_mul_mod]
        congr 1
        rw [Nat.mul_add, Nat.add_mul, Nat.mul_one, Nat.mul_comm 2 q, ← Nat.mul_assoc]
        omega
      · rw [if_neg h1, ih k _ _ _ hlt (by omega)]
        congr 2
        apply BitVec.eq_of_toNat_eq
        have hb2 : b.toNat = 2 * (b >>> 1).toNat := by omega
        simp only [BitVec.toNat_add, BitVec.toNat_mul]
        rw [hb2]
        generalize (b >>> 1).toNat = q
        simp only [Nat.add_mod_mod, Nat.mod_mul_mod]
        congr 1
        rw [Nat.add_mul, Nat.mul_comm 2 q, ← Nat.mul_assoc]
        omega
    · have : b = 0#64 := BitVec.eq_of_toNat_eq (by unfold U at h0; simp; omega)
      subst this
      rw [if_neg h0, BitVec.mul_zero, BitVec.add_zero]
theorem times_f (k : Nat) (a b : B) (hk : 64 < k) : hornbeamref01_times.f k (U a) (U b) = some (U (a * b)) := by
  have := times_l 64 k a b 0#64 b.isLt hk
  rw [BitVec.zero_add] at this
  exact this
theorem ref_f (k : Nat) (x : B) (hk : 64 < k) : hornbeamref01_Mix.f k (U x) = some (U (mixB x)) := by
  unfold hornbeamref01_Mix.f
  rw [UC0, wrap_add, UC1, UC2]
  rw [half_f k _ 30 30 rfl (by omega) (by omega)]; simp only [Option.bind_some]
  rw [xor_U, times_f k _ _ hk]; simp only [Option.bind_some]
  rw [half_f k _ 27 27 rfl (by omega) (by omega)]; simp only [Option.bind_some]
  rw [xor_U, times_f k _ _ hk]; simp only [Option.bind_some]
  rw [half_f k _ 31 31 rfl (by omega) (by omega)]; simp only [Option.bind_some]
  rw [xor_U]; rfl
theorem rd_U (l : List B) (i : Nat) (h : i < l.length) : rd (l.map U) (i : Int) = U l[i] := by
  simp [rd, List.getD, h]
theorem fold_l (l : List B) (hl : l.length ≤ 100) (d : Nat) : ∀ (k : Nat) (z : B) (i : Nat), i + d = l.length → d < k →
    mix_Fold.l0 k (U z) (l.map U) (l.length : Int) (i : Int) = some (U (foldB z (l.drop i))) := by
  induction d with
  | zero =>
    intro k z i h hk
    obtain ⟨k, rfl⟩ : ∃ m, k = m + 1 := ⟨k - 1, by omega⟩
    simp only [mix_Fold.l0]
    rw [if_neg (by omega), List.drop_eq_nil_of_le (by omega)]; rfl
  | succ d ih =>
    intro k z i h hk
    obtain ⟨k, rfl⟩ : ∃ m, k = m + 1 := ⟨k - 1, by omega⟩
    simp only [mix_Fold.l0]
    rw [if_pos (by omega), if_pos (by omega), if_pos (by rw [List.length_map]; omega), rd_U l i (by omega), xor_U, mix_f]
    simp only [Option.bind_some]
    rw [show wrap64 ((i : Int) + 1) = ((i + 1 : Nat) : Int) by unfold wrap64; omega, ih k _ (i + 1) (by omega) (by omega), List.drop_eq_getElem_cons (by omega : i < l.length)]
    rfl
theorem fold_f (l : List B) (hl : l.length ≤ 100) (k : Nat) (hk : 100 < k) : mix_Fold.f k (l.map U) = some (U (foldB 0#64 l)) := by
  have := fold_l l hl l.length k 0#64 0 (by omega) (by omega)
  unfold mix_Fold.f
  rw [List.length_map]
  simpa [U] using this
theorem rfold_l (l : List B) (hl : l.length ≤ 100) (d : Nat) : ∀ (k : Nat) (z : B) (i : Nat), i + d = l.length → d + 64 < k →
    hornbeamref01_Fold.l0 k (l.map U) (U z) (i : Int) = some (U (foldB z (l.drop i))) := by
  induction d with
  | zero =>
    intro k z i h hk
    obtain ⟨k, rfl⟩ : ∃ m, k = m + 1 := ⟨k - 1, by omega⟩
    simp only [hornbeamref01_Fold.l0]
    rw [if_neg (by rw [List.length_map]; omega), List.drop_eq_nil_of_le (by omega)]; rfl
  | succ d ih =>
    intro k z i h hk
    obtain ⟨k, rfl⟩ : ∃ m, k = m + 1 := ⟨k - 1, by omega⟩
    simp only [hornbeamref01_Fold.l0]
    rw [if_pos (by rw [List.length_map]; omega), if_pos (by omega), rd_U l i (by omega), xor_U, ref_f k _ (by omega)]
    simp only [Option.bind_some]
    rw [show wrap64 ((i : Int) + 1) = ((i + 1 : Nat) : Int) by unfold wrap64; omega, ih k _ (i + 1) (by omega) (by omega), List.drop_eq_getElem_cons (by omega : i < l.length)]
    rfl
theorem rfold_f (l : List B) (hl : l.length ≤ 100) (k : Nat) (hk : 200 < k) : hornbeamref01_Fold.f k (l.map U) = some (U (foldB 0#64 l)) := by
  have := rfold_l l hl l.length k 0#64 0 (by omega) (by omega)
  unfold hornbeamref01_Fold.f
  simpa [U] using this
theorem key_f (x0 x1 x2 x3 : B) : stream_Key.f 300 (U x0) (U x1) (U x2) (U x3) = some (U (foldB 0#64 [x0, x1, x2, x3])) := by
  have h := fold_f [x0, x1, x2, x3] (by simp) 300 (by omega)
  unfold stream_Key.f
  rw [show [U x0, U x1, U x2, U x3] = [x0, x1, x2, x3].map U from rfl, h]
  rfl
theorem rkey_f (x0 x1 x2 x3 : B) : hornbeamref02_Key.f 300 (U x0) (U x1) (U x2) (U x3) = some (U (foldB 0#64 [x0, x1, x2, x3])) := by
  have h := rfold_f [x0, x1, x2, x3] (by simp) 300 (by omega)
  unfold hornbeamref02_Key.f
  rw [show [U x0, U x1, U x2, U x3] = [x0, x1, x2, x3].map U from rfl, h]
  rfl
theorem at_f (k i : B) : stream_At.f (U k) (U i) = some (U (mixB (k ^^^ mixB i))) := by
  unfold stream_At.f
  rw [mix_f, Option.bind_some, xor_U, mix_f]
  rfl
theorem rat_f (m : Nat) (hm : 64 < m) (k i : B) : hornbeamref02_At.f m (U k) (U i) = some (U (mixB (k ^^^ mixB i))) := by
  unfold hornbeamref02_At.f
  rw [ref_f m _ hm, Option.bind_some, xor_U, ref_f m _ hm]
  rfl
theorem rd_left (l : List Int) (t : Int) (j : Nat) (h : j < l.length) : rd (l ++ [t]) (j : Int) = rd l (j : Int) := by
  simp [rd, List.getD, List.getElem?_append_left h]
theorem rd_right (l : List Int) (t : Int) : rd (l ++ [t]) (l.length : Int) = t := by
  simp [rd, List.getD]
theorem row_l (K : B) (n : Nat) (hn : n ≤ 60) (d : Nat) : ∀ (m i : Nat) (acc : List Int), i + d = n → d + 66 < m → acc.length = i → (∀ j : Nat, j < i → stream_At.f (U K) (j : Int) = some (rd acc (j : Int))) →
    ∃ l, hornbeamref02_Row.l0 m (U K) (n : Int) acc (i : Int) = some l ∧ l.length = n ∧ ∀ j : Nat, j < n → stream_At.f (U K) (j : Int) = some (rd l (j : Int)) := by
  induction d with
  | zero =>
    intro m i acc h hm hl ha
    obtain ⟨m, rfl⟩ : ∃ q, m = q + 1 := ⟨m - 1, by omega⟩
    refine ⟨acc, ?_, by omega, fun j hj => ha j (by omega)⟩
    simp only [hornbeamref02_Row.l0]
    rw [if_neg (by omega)]
  | succ d ih =>
    intro m i acc h hm hl ha
    obtain ⟨m, rfl⟩ : ∃ q, m = q + 1 := ⟨m - 1, by omega⟩
    obtain ⟨b, hb⟩ := U_of (a := (i : Int)) (by omega) (by omega)
    obtain ⟨l, h1, h2, h3⟩ := ih m (i + 1) (acc ++ [U (mixB (K ^^^ mixB b))]) (by omega) (by omega) (by simp [hl]) (fun j hj => by
      by_cases hji : j < i
      · rw [rd_left _ _ _ (by omega)]; exact ha j hji
      · have e : j = acc.length := by omega
        subst e
        rw [rd_right, show ((acc.length : Nat) : Int) = U b by rw [hl]; exact hb, at_f])
    refine ⟨l, ?_, h2, h3⟩
    simp only [hornbeamref02_Row.l0]
    rw [if_pos (by omega), hb, wrap_U, rat_f m (by omega), Option.bind_some, if_pos (by omega), ← hb, show wrap64 ((i : Int) + 1) = ((i + 1 : Nat) : Int) by unfold wrap64; omega]
    exact h1
theorem row_f (K : B) (n : Nat) (hn : n ≤ 60) : ∃ l, hornbeamref02_Row.f 300 (U K) (n : Int) = some l ∧ l.length = n ∧ ∀ j : Nat, j < n → stream_At.f (U K) (j : Int) = some (rd l (j : Int)) :=
  row_l K n hn n 300 0 [] (by omega) (by omega) rfl (fun j hj => by omega)
/-- All that the law asks for. -/
theorem plays_f {x0 x1 x2 x3 i : Int} (h0 : 0 ≤ x0 ∧ x0 < 18446744073709551616) (h1 : 0 ≤ x1 ∧ x1 < 18446744073709551616) (h2 : 0 ≤ x2 ∧ x2 < 18446744073709551616) (h3 : 0 ≤ x3 ∧ x3 < 18446744073709551616) (hi : 0 ≤ i ∧ i < 18446744073709551616) (n : Nat) (hn : n ≤ 60) :
    ∃ (K Z : Int) (l : List Int), stream_Key.f 300 x0 x1 x2 x3 = some K ∧ hornbeamref02_Key.f 300 x0 x1 x2 x3 = some K ∧ stream_At.f K i = some Z ∧ hornbeamref02_At.f 300 K i = some Z ∧ hornbeamref02_Row.f 300 K (n : Int) = some l ∧ l.length = n ∧ ∀ j : Nat, j < n → stream_At.f K (j : Int) = some (rd l (j : Int)) := by
  obtain ⟨y0, rfl⟩ := U_of h0.1 h0.2
  obtain ⟨y1, rfl⟩ := U_of h1.1 h1.2
  obtain ⟨y2, rfl⟩ := U_of h2.1 h2.2
  obtain ⟨y3, rfl⟩ := U_of h3.1 h3.2
  obtain ⟨q, rfl⟩ := U_of hi.1 hi.2
  obtain ⟨l, e1, e2, e3⟩ := row_f (foldB 0#64 [y0, y1, y2, y3]) n hn
  exact ⟨_, _, l, key_f y0 y1 y2 y3, rkey_f y0 y1 y2 y3, at_f _ q, rat_f 300 (by omega) _ q, e1, e2, e3⟩
end
theorem snew_calls (a : Int) (w : World) : Calls Try.prog 20 #[.int .u64 a] w fun e w' => ∃ g, e = .returned (.pointer (some ⟨g, 0, none⟩)) ∧ w.heap.size ≤ g ∧ w'.heap[g]? = some (.cells #[.int .u64 a, .int .u64 0] 59 (0, 0)) ∧ Below w.heap.size w w' := by
  go_enter Try.func20, Try.ntmps20
  go_wp2
  go_ret
  exact ⟨_, rfl, Nat.le_refl _, blk_new _ _, below_alloc (Below.refl _ _) _⟩
set_option maxHeartbeats 4000000 in
theorem snext_calls (g : Nat) (key t x : Int) (w : World) (hb : w.heap[g]? = some (.cells #[.int .u64 key, .int .u64 t] 59 (0, 0))) (hx : stream_At.f key t = some x) :
    Calls Try.prog 21 #[.pointer (some ⟨g, 0, none⟩)] w fun e w' => e = .returned (.int .u64 x) ∧ w'.heap[g]? = some (.cells #[.int .u64 key, .int .u64 (IntKind.u64.wrap (t + 1))] 59 (0, 0)) ∧ Turned g w w' := by
  have hu := Try.underlying59
  have HX := Aside0.mk hx
  have HBK := Aside0.mk hb
  have hc0 : w.cell? ⟨g, 0, none⟩ = some (.int .u64 key) := (blk_cell hb 0).trans rfl
  have hc1 : w.cell? ⟨g, 1, none⟩ = some (.int .u64 t) := (blk_cell hb 1).trans rfl
  have hf0 := blk_frozen hb 0
  have hf1 := blk_frozen hb 1
  clear hx hb
  go_enter Try.func21, Try.ntmps21
  go_wp2
  go_quiet ((go_at_call 22; exact Calls.quiet_of ((stream_At.calls key t x _ HX.out).mono fun e w' ⟨he, hd⟩ => ⟨he, hd.out⟩)))
  go_wp2
  go_ret
  exact ⟨rfl, by first | exact blk_set HBK.out 1 _ | exact blk_drewN (blk_set HBK.out 1 _) _, by first | exact (Turned.drewN _ _ _).trans (Turned.set _ _ _ _) | exact (Turned.set _ _ _ _).trans (Turned.drewN _ _ _)⟩
theorem staken_calls (g : Nat) (key t : Int) (w : World) (hb : w.heap[g]? = some (.cells #[.int .u64 key, .int .u64 t] 59 (0, 0))) :
    Calls Try.prog 23 #[.pointer (some ⟨g, 0, none⟩)] w fun e w' => e = .returned (.int .u64 t) ∧ Drawn0 w w' := by
  have hu := Try.underlying59
  have hc0 : w.cell? ⟨g, 0, none⟩ = some (.int .u64 key) := (blk_cell hb 0).trans rfl
  have hc1 : w.cell? ⟨g, 1, none⟩ = some (.int .u64 t) := (blk_cell hb 1).trans rfl
  go_enter Try.func23, Try.ntmps23
  go_wp2
  go_ret
  exact ⟨rfl, by repeat (first | exact Drawn0.refl _ | apply Drawn0.step)⟩
def hornbeamlaw02_StreamPlays.f (x0 x1 x2 x3 a1 a2 : Int) : Option Bool := if ((0 ≤ x0 ∧ x0 < 18446744073709551616) ∧ (0 ≤ x1 ∧ x1 < 18446744073709551616) ∧ (0 ≤ x2 ∧ x2 < 18446744073709551616) ∧ (0 ≤ x3 ∧ x3 < 18446744073709551616)) ∧ (0 ≤ a1 ∧ a1 < 18446744073709551616) ∧ (0 ≤ a2 ∧ a2 < 256) then some true else none
set_option maxHeartbeats 8000000 in
set_option maxRecDepth 100000 in
theorem hornbeamlaw02_StreamPlays.calls (x0 x1 x2 x3 a1 a2 : Int) (r : Bool) (w : World) (h : hornbeamlaw02_StreamPlays.f x0 x1 x2 x3 a1 a2 = some r) (hr_ : r = true) :
    Calls Try.prog 11 #[.agg #[.int .u64 x0, .int .u64 x1, .int .u64 x2, .int .u64 x3], .int .u64 a1, .int .u8 a2] w fun e w' => e = .returned (.bool r) ∧ Below w.heap.size w w' := by
  subst hr_
  have hw : ((0 ≤ x0 ∧ x0 < 18446744073709551616) ∧ (0 ≤ x1 ∧ x1 < 18446744073709551616) ∧ (0 ≤ x2 ∧ x2 < 18446744073709551616) ∧ (0 ≤ x3 ∧ x3 < 18446744073709551616)) ∧ (0 ≤ a1 ∧ a1 < 18446744073709551616) ∧ (0 ≤ a2 ∧ a2 < 256) := by
    unfold hornbeamlaw02_StreamPlays.f at h
    split at h
    · assumption
    · cases h
  have HWF := Aside0.mk hw
  clear h hw
  obtain ⟨n, hn⟩ : ∃ n : Nat, Int.tmod a2 60 = (n : Int) := Int.eq_ofNat_of_zero_le (Int.tmod_nonneg _ HWF.out.2.2.1)
  have HN := Aside0.mk (show n ≤ 60 by have := Int.tmod_eq_emod_of_nonneg (b := 60) HWF.out.2.2.1; omega)
  obtain ⟨K, Z, l, k1, k2, k3, k4, k5, k6, k7⟩ := plays_f HWF.out.1.1 HWF.out.1.2.1 HWF.out.1.2.2.1 HWF.out.1.2.2.2 HWF.out.2.1 n HN.out
  have HK1 := Aside0.mk k1
  have HK2 := Aside0.mk k2
  have HK3 := Aside0.mk k3
  have HK4 := Aside0.mk k4
  have HK5 := Aside0.mk k5
  have HK6 := Aside0.mk k6
  have HK7 := Aside0.mk k7
  clear k1 k2 k3 k4 k5 k6 k7
  go_enter Try.func11, Try.ntmps11
  have hu := Try.underlying59
  have hwn : IntKind.u64.wrap (n : Int) = (n : Int) := by have := HN.out; rw [U64.wrap_u64]; omega
  have hwn2 : wrap64 (n : Int) = (n : Int) := by have := HN.out; unfold wrap64; omega
  go_wp2_with (first | (go_at_call 25; (with_reducible refine (stream_Key.calls 300 x0 x1 x2 x3 K _ HK1.out).mono ?_); rintro e w1 ⟨rfl, hb1⟩; have HB1 := Aside0.mk (blk_below (blk_new w (.cells #[.int .u64 x0, .int .u64 x1, .int .u64 x2, .int .u64 x3] 49 (0, 0))) hb1); have HW1 := Aside0.mk (below_step (below_alloc (Below.refl w.heap.size w) _) hb1); clear hb1; have hc0 : w1.cell? ⟨w.heap.size, 0, none⟩ = some (.int .u64 x0) := (blk_cell HB1.out 0).trans rfl; have hc1 : w1.cell? ⟨w.heap.size, 1, none⟩ = some (.int .u64 x1) := (blk_cell HB1.out 1).trans rfl; have hc2 : w1.cell? ⟨w.heap.size, 2, none⟩ = some (.int .u64 x2) := (blk_cell HB1.out 2).trans rfl; have hc3 : w1.cell? ⟨w.heap.size, 3, none⟩ = some (.int .u64 x3) := (blk_cell HB1.out 3).trans rfl) | (go_at_call 26; (with_reducible refine (hornbeamref02_Key.calls 300 x0 x1 x2 x3 K _ HK2.out).mono ?_); rintro e w2 ⟨rfl, hb2⟩; have HW2 := Aside0.mk (below_step HW1.out hb2); clear hb2) | (go_at_call 22; (with_reducible refine (stream_At.calls K a1 Z _ HK3.out).mono ?_); rintro e w' ⟨rfl, ⟨nd1, rfl⟩⟩) | (go_at_call 27; (with_reducible refine (hornbeamref02_At.calls 300 K a1 Z _ HK4.out).mono ?_); rintro e w' ⟨rfl, ⟨nd2, rfl⟩⟩) | (go_at_call 20; refine (snew_calls K _).mono ?_; rintro e w3 ⟨g, rfl, hg, hk3, hb3⟩; have HG3 := Aside0.mk (Nat.le_trans HW2.out.size hg); have HK3_ := Aside0.mk hk3; have HW3 := Aside0.mk (below_step (pw_below_drewN HW2.out _) hb3); clear hg hk3 hb3) | (go_at_call 28; (with_reducible refine (hornbeamref02_Row.calls 300 K n l _ HK5.out).mono ?_); rintro e w4 ⟨v0, rfl, hR, hb4⟩; obtain ⟨A, c, ev⟩ := Kd.R_slice hR; subst ev; have HBASE := Aside0.mk (Kd.R_base hR); obtain ⟨_, hc, hr⟩ := Kd.R_reads' hR; have HR := Aside0.mk hr; have HC := Aside0.mk hc; have HK4_ := Aside0.mk (blk_below HK3_.out hb4); have HW4 := Aside0.mk (below_step HW3.out hb4); have HLT := Aside0.mk (blk_lt HK3_.out); clear hR hr hc hb4))
  have HA := Aside0.mk (show ∀ ad, A = some ad → 0 < l.length → ad.block ≠ g from fun ad e _ => Nat.ne_of_gt (Nat.lt_of_lt_of_le HLT.out (HBASE.out ad.block (by rw [e]; rfl))))
  go_loopw [50] (fun v50 w' => ∃ j : Nat, v50 = .int .i64 (j : Int) ∧ Aside0 (j ≤ l.length) ∧ Aside0 (w'.heap[g]? = some (.cells #[.int .u64 K, .int .u64 (j : Int)] 59 (0, 0))) ∧ Aside0 (Kd.C (Kd.int .u64) w' A l.length l) ∧ Aside0 (Below w.heap.size w w')) (fun v50 _ => l.length - (intOf v50).toNat)
  case atStart => exact ⟨0, rfl, ⟨Nat.zero_le _⟩, ⟨by (with_reducible repeat (first | exact HK4_.out | refine blk_drewN ?_ _)); exact HK4_.out⟩, ⟨by (with_reducible repeat (first | exact HR.out | refine Kd.C_drewN ?_ _ | refine Kd.C_drew ?_))⟩, ⟨by repeat (first | exact HW4.out | apply pw_below_drewN | apply below_drew1)⟩⟩
  case round =>
    clear HK4_ HR HW4 HK3_ HW3
    obtain ⟨j, rfl, HJ, HBK, HR, HW⟩ := hrel
    by_cases hlt : j < l.length
    · have hltb : decide ((j : Int) < (l.length : Int)) = true := decide_eq_true (by omega)
      have hltc : decide (j < l.length) = true := decide_eq_true hlt
      have HLTJ := Aside0.mk hlt
      have HJ60 := Aside0.mk (show j < 60 by have := HK6.out; have := HN.out; omega)
      have hwi : wrap64 ((j : Int) + 1) = ((j + 1 : Nat) : Int) := by have := HJ60.out; unfold wrap64; omega
      have hwj : IntKind.u64.wrap (j : Int) = (j : Int) := by have := HJ60.out; rw [U64.wrap_u64]; omega
      have hwk : IntKind.u64.wrap ((j : Int) + 1) = ((j + 1 : Nat) : Int) := by have := HJ60.out; rw [U64.wrap_u64]; omega
      obtain ⟨ad, e, hx⟩ := Kd.at_int HR.out (j : Int) (by omega) (by omega)
      cases e
      rw [Int.toNat_natCast] at hx
      have HT := Aside0.mk (staken_calls g K (j : Int) wr HBK.out)
      have HNX : Aside0 (∀ m, Calls Try.prog 21 #[.pointer (some ⟨g, 0, none⟩)] (wr.drewN m) fun e w' => e = .returned (.int .u64 (rd l (j : Int))) ∧ w'.heap[g]? = some (.cells #[.int .u64 K, .int .u64 ((j + 1 : Nat) : Int)] 59 (0, 0)) ∧ Turned g (wr.drewN m) w') := ⟨fun m => by
        have := snext_calls g K (j : Int) (rd l (j : Int)) (wr.drewN m) (blk_drewN HBK.out m) (HK7.out j (by have := HK6.out; have := HLTJ.out; omega))
        rw [hwk] at this
        exact this⟩
      obtain ⟨v, hv⟩ : ∃ v, rd l (j : Int) = v := ⟨_, rfl⟩
      rw [hv] at hx HNX
      have p1 := eq_true (show (0 : Int) ≤ (j : Int) by omega)
      have q1 := eq_true (show (j : Int) < (l.length : Int) by omega)
      clear hv hlt hwk
      go_wp2_with (first | (go_at_call 23; (with_reducible refine HT.out.mono ?_); rintro e w' ⟨rfl, ⟨n1, rfl⟩⟩) | (go_at_call 21; refine (HNX.out _).mono ?_; rintro e w5 ⟨rfl, hb5, ht5⟩; have HB5 := Aside0.mk hb5; have HW5 := Aside0.mk (ht5.2.2 w (pw_below_drewN HW.out _) HG3.out); have HR5 := Aside0.mk (ht5.reads HA.out (Kd.C_drewN HR.out _)); clear hb5 ht5))
      go_roundw
      case rel => exact ⟨j + 1, by first | (rw [hwi]; done) | go_num, ⟨by have := HLTJ.out; omega⟩, ⟨by first | exact HB5.out | exact blk_drewN HB5.out _⟩, ⟨by (with_reducible repeat (first | exact HR5.out | refine Kd.C_drewN ?_ _ | refine Kd.C_drew ?_))⟩, ⟨by repeat (first | exact HW5.out | apply pw_below_drewN | apply below_drew1)⟩⟩
      case measure => have := HLTJ.out; (try rw [hwi]); first | (show l.length - ((j + 1 : Nat) : Int).toNat < l.length - ((j : Nat) : Int).toNat; omega) | (show l.length - ((j : Int) + 1).toNat < l.length - ((j : Nat) : Int).toNat; omega)
    · have hltb : decide ((j : Int) < (l.length : Int)) = false := decide_eq_false (by omega)
      have hltc : decide (j < l.length) = false := decide_eq_false hlt
      obtain rfl : j = n := by have := HJ.out; have := HK6.out; omega
      clear hlt
      go_wp2_with (first | (go_at_call 17; (with_reducible refine (fixed_calls _).mono ?_); rintro e w6 ⟨rfl, hb6⟩; have HB6 := Aside0.mk (blk_below HBK.out hb6); have HW6 := Aside0.mk (below_step HW.out hb6); have HT6 := Aside0.mk (staken_calls g K (j : Int) w6 HB6.out); clear hb6) | (go_at_call 23; (with_reducible refine HT6.out.mono ?_); rintro e w' ⟨rfl, ⟨n1, rfl⟩⟩))
      all_goals (go_ret; exact ⟨by first | rfl | simp, by repeat (first | exact HW6.out | apply pw_below_drewN | apply below_drew1)⟩)


end Go.Proofs.Ytbofijmijeaadaa.QStreamPlays
