-- Written by a program of this session (wip/tools/mkprint.py over the kit's print); Lean checks it.
import Derived.Test.YtoonddgldmfleaaQSpreadScoresx0
import Derived.Test.YtoonddgldmfleaaQSpreadScoresx7
import Derived.Test.YtoonddgldmfleaaQSpreadScoresx8
namespace Go.Proofs.Ytoonddgldmfleaa.QSpreadScores
open Go.RowKit Go.Proofs.YtoonddgldmfleaaW.PrintWords Go.Proofs.YtoonddgldmfleaaW.PrintLast Go.Proofs.YtoonddgldmfleaaW.PrintMore
attribute [local go_sem] max2_int min2_int max_two min_two max_three min_three max_four min_four   -- for this text's walks alone
set_option linter.unusedVariables false
set_option linter.unusedSimpArgs false

/-! ### hornbeamref04_Mul: function 62 -/
def hornbeamref04_Mul.f (k : Nat) (a0 : Int) (a1 : Int) : Option (Int × Int) := (hornbeamref04_Digits.f a0).bind fun t234 => ((hornbeamref04_Digits.f a1).bind fun t237 => ((hornbeamref04_Product.f k t234 t237).bind fun t240 => (if 4 ≤ (t240.length : Int) then ((hornbeamref04_number.f (t240.drop 4)).bind fun t247 => ((hornbeamref04_number.f (t240.take 4)).bind fun t252 => (some (t247, t252)))) else (none))))
theorem hornbeamref04_Mul.mono : ∀ a0 a1 k, LeO (hornbeamref04_Mul.f k a0 a1) (hornbeamref04_Mul.f (k + 1) a0 a1) := by
  intro a0 a1 k
  unfold hornbeamref04_Mul.f
  repeat' first
      | (with_reducible exact hornbeamref04_Product.mono _ _ _)
      | (with_reducible exact LeO.refl _)
      | (with_reducible exact LeO.none _)
      | (with_reducible refine LeO.ite ?_ ?_)
      | (with_reducible refine LeO.bind ?_ (fun _ => ?_))
      | exact hornbeamref04_Product.mono _ _ _
      | exact LeO.none _
      | refine LeO.ite ?_ ?_
      | refine LeO.bind ?_ (fun _ => ?_)
def hornbeamref04_Mul.T2 : Bool × List (List Nat × List Nat) := (true, [([], []), ([0], [0]), ([1], [1]), ([], []), ([3], [3]), ([4, 2], [4]), ([2, 5], [2, 5]), ([6, 5, 0, 1, 2, 3, 4, 5, 6], [6])])
def hornbeamref04_Mul.B2 : List Nat := [0, 1, 3, 0, 8, 31, 63, 127]
theorem hornbeamref04_Mul.tab2 : rtab .any (opsOf Try.f62 2) = hornbeamref04_Mul.T2 := by kernel_rfl
theorem hornbeamref04_Mul.bits2 : waitsOk hornbeamref04_Mul.T2.2 hornbeamref04_Mul.B2 = true := by kernel_rfl
set_option maxHeartbeats 8000000 in
set_option maxRecDepth 100000 in
theorem hornbeamref04_Mul.calls (k : Nat) (a0 : Int) (a1 : Int) (r1 : Int) (r2 : Int) (w : World) (h : hornbeamref04_Mul.f k a0 a1 = some (r1, r2)) :
  Calls Try.prog 62 #[.int .u64 a0, .int .u64 a1] w fun e w' => e = .returned (.agg #[.int .u64 r1, .int .u64 r2]) ∧ Below w.heap.size w w' := by
 have hu34 := Try.underlying34
 have HB := Aside0.mk (Below.refl w.heap.size w)
 have H : ((hornbeamref04_Digits.f a0).bind fun t234 => ((hornbeamref04_Digits.f a1).bind fun t237 => ((hornbeamref04_Product.f k t234 t237).bind fun t240 => (if 4 ≤ (t240.length : Int) then ((hornbeamref04_number.f (t240.drop 4)).bind fun t247 => ((hornbeamref04_number.f (t240.take 4)).bind fun t252 => (some (t247, t252)))) else (none))))) = some (r1, r2) := h
 clear h
 replace H := Option.bind_eq_some_iff.mp H
 obtain ⟨t234, A30, H⟩ := H
 replace H : ((hornbeamref04_Digits.f a1).bind fun t237 => ((hornbeamref04_Product.f k t234 t237).bind fun t240 => (if 4 ≤ (t240.length : Int) then ((hornbeamref04_number.f (t240.drop 4)).bind fun t247 => ((hornbeamref04_number.f (t240.take 4)).bind fun t252 => (some (t247, t252)))) else (none)))) = some (r1, r2) := H
 have A3 := Aside0.mk A30
 clear A30
 replace H := Option.bind_eq_some_iff.mp H
 obtain ⟨t237, A40, H⟩ := H
 replace H : ((hornbeamref04_Product.f k t234 t237).bind fun t240 => (if 4 ≤ (t240.length : Int) then ((hornbeamref04_number.f (t240.drop 4)).bind fun t247 => ((hornbeamref04_number.f (t240.take 4)).bind fun t252 => (some (t247, t252)))) else (none))) = some (r1, r2) := H
 have A4 := Aside0.mk A40
 clear A40
 replace H := Option.bind_eq_some_iff.mp H
 obtain ⟨t240, A50, H⟩ := H
 replace H : (if 4 ≤ (t240.length : Int) then ((hornbeamref04_number.f (t240.drop 4)).bind fun t247 => ((hornbeamref04_number.f (t240.take 4)).bind fun t252 => (some (t247, t252)))) else (none)) = some (r1, r2) := H
 have A5 := Aside0.mk A50
 clear A50
 by_cases c6 : 4 ≤ (t240.length : Int)
 ·rw [if_pos c6] at H
  have c6b0 := eq_true c6
  have c6b1 : decide (4 ≤ (t240.length : Int)) = true := decide_eq_true c6
  clear c6
  obtain ⟨y243, hy243⟩ : ∃ y_ : List Int, y_ = (t240.drop 4) := ⟨_, rfl⟩
  replace H : ((hornbeamref04_number.f y243).bind fun t247 => ((hornbeamref04_number.f (t240.take 4)).bind fun t252 => (some (t247, t252)))) = some (r1, r2) := by first | (rw [hy243]; with_reducible exact H) | (have H2_ := (Option.bind_some _ _).symm.trans H; rw [hy243]; with_reducible exact H2_) | (have H2_ := (Option.bind_some _ _).symm.trans H; with_reducible exact H2_) | with_reducible exact H | (rw [hy243]; exact H) | exact H
  have Ny243 := Aside0.mk hy243
  clear hy243
  replace H := Option.bind_eq_some_iff.mp H
  obtain ⟨t247, A70, H⟩ := H
  replace H : ((hornbeamref04_number.f (t240.take 4)).bind fun t252 => (some (t247, t252))) = some (r1, r2) := H
  have A7 := Aside0.mk A70
  clear A70
  have c8b0 := eq_true (of_decide_eq_true (by first | (with_reducible assumption) | assumption) : 4 ≤ (t240.length : Int))
  obtain ⟨y248, hy248⟩ : ∃ y_ : List Int, y_ = (t240.take 4) := ⟨_, rfl⟩
  replace H : ((hornbeamref04_number.f y248).bind fun t252 => (some (t247, t252))) = some (r1, r2) := by first | (rw [hy248]; with_reducible exact H) | (have H2_ := (Option.bind_some _ _).symm.trans H; rw [hy248]; with_reducible exact H2_) | (have H2_ := (Option.bind_some _ _).symm.trans H; with_reducible exact H2_) | with_reducible exact H | (rw [hy248]; exact H) | exact H
  have Ny248 := Aside0.mk hy248
  clear hy248
  replace H := Option.bind_eq_some_iff.mp H
  obtain ⟨t252, A90, H⟩ := H
  replace H : (some (t247, t252)) = some (r1, r2) := H
  have A9 := Aside0.mk A90
  clear A90
  simp only [Option.some.injEq, Prod.mk.injEq] at H
  obtain ⟨rfl, rfl⟩ := H
  go_enter Try.func62, Try.ntmps62
  try go_wp2_with (first | ((with_reducible refine gate_dst (N := 4) rfl ?_); refine box_event ?hg (N := 4) ?hd (cs := #[.int .u64 0, .int .u64 0]) (t := 34) ?hr ?_; (case hd => rfl); (case hg => rfl); (case hr => first | (go_simp; done) | (go_simp; rfl)); intro gb233 hg w10 hbox hb; have n0_ := Aside0.mk (lP (by repeat (first | (with_reducible first | exact HB.out | apply lA | apply lN | apply lD) | exact HB.out)) hb); have n1_ := Aside0.mk (hbox); have n2_ := Aside0.mk ((by rw [hg]; exact (lZ (by repeat (first | (with_reducible first | exact HB.out | apply lA | apply lN | apply lD) | exact HB.out))) : w.heap.size ≤ gb233)); have n3_ := Aside0.mk ((by rw [hg]; exact (lZ (by repeat (first | (with_reducible first | exact HB.out | apply lA | apply lN | apply lD) | exact HB.out))) : w.heap.size ≤ gb233)); clear HB; have HB := n0_; have BK233 := n1_; have GW233 := n2_; have GE233 := n3_; clear n0_ n1_ n2_ n3_; clear hb hbox hg) | ((with_reducible refine gate_callee (f := 51) rfl ?_); refine goesL_ (some 7) rfl rfl Try.func51 (by kernel_rfl) rfl #[.int .u64 a0] rfl (by (try simp only [List.map_toArray, List.map_cons, List.map_nil]); first | done | rfl | (simp only [List.length_drop, List.length_take]; rfl)) ?_; (with_reducible refine (hornbeamref04_Digits.calls a0 t234 _ A3.out).mono ?_); rintro e w11 ⟨v235, rfl, ho0, hb⟩; refine ⟨_, rfl, ?_⟩; have n0_ := Aside0.mk (Kd.R_lower ho0 (lZ (by repeat (first | (with_reducible first | exact HB.out | apply lA | apply lN | apply lD | refine lS ?_ GE233.out) | exact HB.out)))); have n1_ := Aside0.mk (bB (g := gb233) (o := .cells #[.int .u64 0, .int .u64 0] 34 (0, 0)) (by (with_reducible repeat (first | refine bN ?_ _ | refine bD ?_ | refine bA ?_ _)); exact BK233.out) hb); have n2_ := Aside0.mk (lP (by repeat (first | (with_reducible first | exact HB.out | apply lA | apply lN | apply lD | refine lS ?_ GE233.out) | exact HB.out)) hb); clear BK233; clear HB; have HO236 := n0_; have BK233 := n1_; have HB := n2_; clear n0_ n1_ n2_; (try clear hb); (try clear hb2); (try clear hk); (try clear hi); (try clear ho0)) | ((with_reducible refine gate_callee (f := 51) rfl ?_); refine goesL_ (some 9) rfl rfl Try.func51 (by kernel_rfl) rfl #[.int .u64 a1] rfl (by (try simp only [List.map_toArray, List.map_cons, List.map_nil]); first | done | rfl | (simp only [List.length_drop, List.length_take]; rfl)) ?_; (with_reducible refine (hornbeamref04_Digits.calls a1 t237 _ A4.out).mono ?_); rintro e w12 ⟨v238, rfl, ho0, hb⟩; refine ⟨_, rfl, ?_⟩; have n0_ := Aside0.mk (Kd.R_elder' (by (with_reducible repeat (first | apply Kd.R_alloc | apply Kd.R_drewN | apply Kd.R_drew)); exact HO236.out) (Kd.R_base ho0) hb); have n1_ := Aside0.mk (Kd.R_lower (Kd.R_new' ho0 (Kd.R_lt (by (with_reducible repeat (first | apply Kd.R_alloc | apply Kd.R_drewN | apply Kd.R_drew)); exact HO236.out))) (lZ (by repeat (first | (with_reducible first | exact HB.out | apply lA | apply lN | apply lD | refine lS ?_ GE233.out) | exact HB.out)))); have n2_ := Aside0.mk (bB (g := gb233) (o := .cells #[.int .u64 0, .int .u64 0] 34 (0, 0)) (by (with_reducible repeat (first | refine bN ?_ _ | refine bD ?_ | refine bA ?_ _)); exact BK233.out) hb); have n3_ := Aside0.mk (lP (by repeat (first | (with_reducible first | exact HB.out | apply lA | apply lN | apply lD | refine lS ?_ GE233.out) | exact HB.out)) hb); clear HO236; clear BK233; clear HB; have HO236 := n0_; have HO239 := n1_; have BK233 := n2_; have HB := n3_; clear n0_ n1_ n2_ n3_; (try clear hb); (try clear hb2); (try clear hk); (try clear hi); (try clear ho0); obtain ⟨Ao13, co13, eo13⟩ := Kd.R_slice HO236.out; subst eo13; obtain ⟨Ao14, co14, eo14⟩ := Kd.R_slice HO239.out; subst eo14) | ((with_reducible refine gate_callee (f := 49) rfl ?_); refine goesL_ (some 10) rfl rfl Try.func49 (by kernel_rfl) rfl #[.slice Ao13 t234.length co13, .slice Ao14 t237.length co14] rfl (by (try simp only [List.map_toArray, List.map_cons, List.map_nil]); first | done | rfl | (simp only [List.length_drop, List.length_take]; rfl)) ?_; (with_reducible refine (hornbeamref04_Product.calls k _ _ t234 _ _ t237 t240 _ ?side1 ?side2 ?side3 ?side4 A5.out).mono ?_); (case side1 => repeat (first | exact (Kd.R_reads' HO236.out).2.2 | (with_reducible refine Kd.C_alloc ?_ _) | (with_reducible refine Kd.C_drewN ?_ _) | (with_reducible refine Kd.C_drew ?_))); (case side2 => exact (Kd.R_reads' HO236.out).2.1); (case side3 => repeat (first | exact (Kd.R_reads' HO239.out).2.2 | (with_reducible refine Kd.C_alloc ?_ _) | (with_reducible refine Kd.C_drewN ?_ _) | (with_reducible refine Kd.C_drew ?_))); (case side4 => exact (Kd.R_reads' HO239.out).2.1); rintro e w15 ⟨v241, rfl, ho0, hb⟩; refine ⟨_, rfl, ?_⟩; have n0_ := Aside0.mk (Kd.R_elder' (by (with_reducible repeat (first | apply Kd.R_alloc | apply Kd.R_drewN | apply Kd.R_drew)); exact HO236.out) (Kd.R_base ho0) hb); have n1_ := Aside0.mk (Kd.R_elder' (by (with_reducible repeat (first | apply Kd.R_alloc | apply Kd.R_drewN | apply Kd.R_drew)); exact HO239.out) (Kd.R_base ho0) hb); have n2_ := Aside0.mk (Kd.R_lower (Kd.R_new' (Kd.R_new' ho0 (Kd.R_lt (by (with_reducible repeat (first | apply Kd.R_alloc | apply Kd.R_drewN | apply Kd.R_drew)); exact HO236.out))) (Kd.R_lt (by (with_reducible repeat (first | apply Kd.R_alloc | apply Kd.R_drewN | apply Kd.R_drew)); exact HO239.out))) (lZ (by repeat (first | (with_reducible first | exact HB.out | apply lA | apply lN | apply lD | refine lS ?_ GE233.out) | exact HB.out)))); have n3_ := Aside0.mk (bB (g := gb233) (o := .cells #[.int .u64 0, .int .u64 0] 34 (0, 0)) (by (with_reducible repeat (first | refine bN ?_ _ | refine bD ?_ | refine bA ?_ _)); exact BK233.out) hb); have n4_ := Aside0.mk (lP (by repeat (first | (with_reducible first | exact HB.out | apply lA | apply lN | apply lD | refine lS ?_ GE233.out) | exact HB.out)) hb); clear HO236; clear HO239; clear BK233; clear HB; have HO236 := n0_; have HO239 := n1_; have HO242 := n2_; have BK233 := n3_; have HB := n4_; clear n0_ n1_ n2_ n3_ n4_; (try clear hb); (try clear hb2); (try clear hk); (try clear hi); (try clear ho0)))
  have n0_ := Aside0.mk (Kd.R_drew HO236.out)
  have n1_ := Aside0.mk (Kd.R_drew HO239.out)
  have n2_ := Aside0.mk (Kd.R_drew HO242.out)
  have n3_ := Aside0.mk (bD BK233.out)
  have n4_ := Aside0.mk (lD HB.out)
  clear HO236 HO239 HO242 BK233 HB
  have HO236 := n0_; have HO239 := n1_; have HO242 := n2_; have BK233 := n3_; have HB := n4_
  clear n0_ n1_ n2_ n3_ n4_
  obtain ⟨Ao18, co18, eo18⟩ := Kd.R_slice HO242.out
  (first | subst eo18 | (injection eo18 with f1_ f2_ f3_; have f4_ := f1_.symm; have f5_ := f3_.symm; clear f1_ f2_ f3_; subst f4_; subst f5_))
  have q17 : (4 : Int) ≤ ((t240.length : Int) : Int) := of_decide_eq_true (by first | (with_reducible assumption) | assumption)
  obtain ⟨i017, hi017, _, hsz17, _⟩ := info_parts info32
  have hroom17 : t240.length ≤ co18 := (Kd.R_reads' HO242.out).2.1
  have hC17 : Kd.C (Kd.int .u64) _ Ao18 t240.length t240 := (Kd.R_reads' HO242.out).2.2
  have hcut17 := cut_from (P := Try.prog) 77 32 .i64 Try.underlying77 hi017 1 hsz17 Ao18 t240.length co18 4 (by omega) q17
  have hr17 := Kd.C_drop (m := (4 : Int).toNat) (c := co18) hC17 (by omega) hroom17
  obtain ⟨A17, hA17⟩ : ∃ A1, A1 = (if co18 = (4 : Int).toNat then Ao18 else (Ao18 : Option Addr).map (·.add ((4 : Int).toNat * 1))) := ⟨_, rfl⟩
  obtain ⟨c17, hc17⟩ : ∃ c1, c1 = co18 - (4 : Int).toNat := ⟨_, rfl⟩
  have hy17 : y243.length = t240.length - (4 : Int).toNat := (by rw [Ny243.out, List.length_drop] <;> omega)
  rw [show (t240).drop (4 : Int).toNat = y243 from Ny243.out.symm] at hr17
  replace hr17 : Kd.C (Kd.int .u64) _ A17 y243.length y243 := (by rw [hA17]; exact hr17)
  rw [← hy17, ← hA17, ← hc17] at hcut17
  have HR246 := Aside0.mk hr17
  have HC246 := Aside0.mk (show y243.length ≤ c17 from by rw [hy17, hc17]; exact Nat.sub_le_sub_right hroom17 _)
  clear hr17 hC17 hroom17 hi017 hsz17 hc17
  have KY17 := Aside0.mk hy17
  have KA17 := Aside0.mk hA17
  clear hy17 hA17
  have KL17 := Aside0.mk (show 4 ≤ t240.length from by omega)
  replace q17 := eq_true q17
  have q19 : (4 : Int) ≤ ((t240.length : Int) : Int) := of_decide_eq_true (by first | (with_reducible assumption) | assumption)
  obtain ⟨i019, hi019, _, hsz19, _⟩ := info_parts info32
  have hroom19 : t240.length ≤ co18 := (Kd.R_reads' HO242.out).2.1
  have hC19 : Kd.C (Kd.int .u64) _ Ao18 t240.length t240 := (Kd.R_reads' HO242.out).2.2
  have hcut19 := cut_to (P := Try.prog) 77 32 .i64 Try.underlying77 hi019 Ao18 t240.length co18 4 (by omega) q19 hroom19
  have hr19 := Kd.C_take (m := 4) hC19 (by omega)
  have hy19 : y248.length = (4 : Int).toNat := (by rw [Ny248.out, List.length_take]; omega)
  rw [← Ny248.out] at hr19
  rw [← hy19] at hcut19
  have HR251 := Aside0.mk hr19
  have HC251 := Aside0.mk (show y248.length ≤ co18 from by omega)
  clear hr19 hC19 hroom19 hi019 hsz19
  have KY19 := Aside0.mk hy19
  clear hy19
  have KL19 := Aside0.mk (show 4 ≤ t240.length from by omega)
  replace q19 := eq_true q19
  refine start_ (n := 8) (S := fun w' => True) (ds := []) #[false, false, false, false, false, false, false, false] (by kernel_rfl) rfl rfl trivial (fun hHeld => ?_); refine with_tabW hornbeamref04_Mul.tab2 hornbeamref04_Mul.bits2 (fun HT_ HW_ => ?_)
  generalize w15.drew = w16 at HO236 HO239 HO242 BK233 HB HR246 HR251 hHeld ⊢
  refine pure_ (i := 0) (N := some 11) (v := ?_) (a' := ?_) #[true, false, false, false, false, false, false, false] rfl rfl (any_of HT_.out (by kernel_rfl)) (fun _ _ _ h => h) (Or.inl ⟨by rfl, ?_⟩) ?_ ?_
  rotate_left
  ·intro w'
   go_simp
   with_reducible rfl
  rotate_left
  ·simp only [Act.put, List.setIfInBounds_toArray, List.set_cons_zero, List.set_cons_succ, i64_w, i32_w]
   rfl
  refine pure_ (i := 1) (N := some 12) (v := ?_) (a' := ?_) #[true, true, false, false, false, false, false, false] rfl rfl (any_of HT_.out (by kernel_rfl)) (fun _ _ _ h => h) (Or.inl ⟨by rfl, ?_⟩) ?_ ?_
  rotate_left
  ·intro w'
   go_simp
   with_reducible rfl
  rotate_left
  ·simp only [Act.put, List.setIfInBounds_toArray, List.set_cons_zero, List.set_cons_succ, i64_w, i32_w]
   rfl
  refine pure_ (i := 3) (N := some 14) (v := ?_) (a' := ?_) #[true, true, false, true, false, false, false, false] rfl rfl (any_of HT_.out (by kernel_rfl)) (fun _ _ _ h => h) (Or.inl ⟨by rfl, ?_⟩) ?_ ?_
  rotate_left
  ·intro w'
   go_simp
   with_reducible rfl
  rotate_left
  ·simp only [Act.put, List.setIfInBounds_toArray, List.set_cons_zero, List.set_cons_succ, i64_w, i32_w]
   rfl
  refine pure_ (i := 4) (N := some 15) (v := ?_) (a' := ?_) #[true, true, false, true, true, false, false, false] rfl rfl (any_of HT_.out (by kernel_rfl)) (fun _ _ _ h => h) (Or.inl ⟨by rfl, ?_⟩) ?_ ?_
  rotate_left
  ·intro w'
   go_simp
   with_reducible rfl
  rotate_left
  ·simp only [Act.put, List.setIfInBounds_toArray, List.set_cons_zero, List.set_cons_succ, i64_w, i32_w]
   rfl
  refine one_ (i := 2) (N := some 13) #[true, true, true, true, true, false, false, false] rfl rfl (one_of HT_.out (by kernel_rfl)) (by decide) (fun K hK => ?_)
  refine goes_ Try.func77 (by kernel_rfl) rfl #[.slice A17 y243.length c17] (by rfl) rfl rfl (by (try simp only [List.map_toArray, List.map_cons, List.map_nil]); first | done | rfl | (simp only [List.length_drop, List.length_take]; rfl)) ?_
  with_reducible refine (hornbeamref04_number.calls _ _ y243 t247 _ ?side1 ?side2 A7.out).mono ?_
  (case side1 => repeat (first | exact (by repeat (first | (with_reducible exact HR246.out) | (with_reducible refine Kd.C_alloc ?_ _) | (with_reducible refine Kd.C_drewN ?_ _) | (with_reducible refine Kd.C_drew ?_) | exact HR246.out)) | (with_reducible refine Kd.C_alloc ?_ _) | (with_reducible refine Kd.C_drewN ?_ _) | (with_reducible refine Kd.C_drew ?_)))
  (case side2 => exact HC246.out)
  rintro e w' ⟨rfl, ⟨nd, rfl⟩⟩
  refine ⟨_, rfl, ?_⟩
  refine hK.out _ _ trivial (fun hHeld => ?_)
  clear hK K
  refine norm_ (a' := ?_) ?_ ?_
  rotate_left
  ·show Act.put _ (some 13) _ = _
   simp only [Act.put, List.setIfInBounds_toArray, List.set_cons_zero, List.set_cons_succ, i64_w, i32_w]
   rfl
  refine one_ (i := 5) (N := some 16) #[true, true, true, true, true, true, false, false] rfl rfl (one_of HT_.out (by kernel_rfl)) (by decide) (fun K hK => ?_)
  refine goes_ Try.func77 (by kernel_rfl) rfl #[.slice Ao18 y248.length co18] (by rfl) rfl rfl (by (try simp only [List.map_toArray, List.map_cons, List.map_nil]); first | done | rfl | (simp only [List.length_drop, List.length_take]; rfl)) ?_
  with_reducible refine (hornbeamref04_number.calls _ _ y248 t252 _ ?side1 ?side2 A9.out).mono ?_
  (case side1 => repeat (first | exact (by repeat (first | (with_reducible exact HR251.out) | (with_reducible refine Kd.C_alloc ?_ _) | (with_reducible refine Kd.C_drewN ?_ _) | (with_reducible refine Kd.C_drew ?_) | exact HR251.out)) | (with_reducible refine Kd.C_alloc ?_ _) | (with_reducible refine Kd.C_drewN ?_ _) | (with_reducible refine Kd.C_drew ?_)))
  (case side2 => exact HC251.out)
  rintro e w' ⟨rfl, ⟨nd, rfl⟩⟩
  refine ⟨_, rfl, ?_⟩
  refine hK.out _ _ trivial (fun hHeld => ?_)
  clear hK K
  refine norm_ (a' := ?_) ?_ ?_
  rotate_left
  ·show Act.put _ (some 16) _ = _
   simp only [Act.put, List.setIfInBounds_toArray, List.set_cons_zero, List.set_cons_succ, i64_w, i32_w]
   rfl
  refine pure_ (i := 6) (N := some 17) (v := ?_) (a' := ?_) #[true, true, true, true, true, true, true, false] rfl rfl (any_of HT_.out (by kernel_rfl)) (fun _ _ _ h => h) (Or.inl ⟨by rfl, ?_⟩) ?_ ?_
  rotate_left
  ·intro w'
   go_simp
   with_reducible rfl
  rotate_left
  ·simp only [Act.put, List.setIfInBounds_toArray, List.set_cons_zero, List.set_cons_succ, i64_w, i32_w]
   rfl
  refine one_ (i := 7) (N := none) #[true, true, true, true, true, true, true, true] rfl rfl (one_of HT_.out (by kernel_rfl)) (by decide) (fun K hK => ?_)
  have hs20 : w16.cell? ⟨gb233, 0, none⟩ = some (.int .u64 0) := (bC BK233.out 0).trans rfl
  have hfs20 := bF BK233.out 0
  have hs21 : w16.cell? ⟨gb233, 1, none⟩ = some (.int .u64 0) := (bC BK233.out 1).trans rfl
  have hfs21 := bF BK233.out 1
  refine skip_ (w1 := ?_) (by rfl) rfl ?_ ?_
  rotate_left
  ·go_simp
   rfl
  refine hK.out _ _ trivial (fun hHeld => ?_)
  clear hK K
  refine done_ (done_of HT_.out (by kernel_rfl)) ?_
  try go_wp2
  refine bodyPost_ret (results_cell_row rfl _ _ gb233 34 #[.int .u64 t247, .int .u64 t252] (0, 0) _ rfl (by (with_reducible repeat (first | refine bN ?_ _ | refine bD ?_ | refine bA ?_ _)); refine blk_put (cs := #[.int .u64 t247, .int .u64 0]) ?_ 1 _ rfl; (with_reducible repeat (first | refine bN ?_ _ | refine bD ?_ | refine bA ?_ _)); refine blk_put (cs := #[.int .u64 0, .int .u64 0]) ?_ 0 _ rfl; (with_reducible repeat (first | refine bN ?_ _ | refine bD ?_ | refine bA ?_ _)); exact BK233.out) Try.underlying34 rfl (by kernel_rfl)) rfl ?_
  exact ⟨by first | rfl | (simp [errW_none, errW_some] <;> rfl) | (simp [*, errW_none, errW_some] <;> rfl), by repeat (first | (with_reducible first | exact HB.out | apply lA | apply lN | apply lD | refine lS ?_ GE233.out) | exact HB.out)⟩
 ·rw [if_neg c6] at H
  exact absurd H (by simp)

/-! ### hornbeamref15_square: function 61 -/
def hornbeamref15_square.f (k : Nat) (a0 : Int) : Option (Int × Int) := (hornbeamref04_Size.f a0).bind fun t254 => ((hornbeamref04_Size.f a0).bind fun t255 => ((hornbeamref04_Mul.f k t254 t255).bind fun bt256 => (some (bt256.1, bt256.2))))
theorem hornbeamref15_square.mono : ∀ a0 k, LeO (hornbeamref15_square.f k a0) (hornbeamref15_square.f (k + 1) a0) := by
  intro a0 k
  unfold hornbeamref15_square.f
  repeat' first
      | (with_reducible exact hornbeamref04_Mul.mono _ _ _)
      | (with_reducible exact LeO.refl _)
      | (with_reducible exact LeO.none _)
      | (with_reducible refine LeO.ite ?_ ?_)
      | (with_reducible refine LeO.bind ?_ (fun _ => ?_))
      | exact hornbeamref04_Mul.mono _ _ _
      | exact LeO.none _
      | refine LeO.ite ?_ ?_
      | refine LeO.bind ?_ (fun _ => ?_)
set_option maxHeartbeats 8000000 in
set_option maxRecDepth 100000 in
theorem hornbeamref15_square.calls (k : Nat) (a0 : Int) (r1 : Int) (r2 : Int) (w : World) (h : hornbeamref15_square.f k a0 = some (r1, r2)) :
    Calls Try.prog 61 #[.int .i64 a0] w fun e w' => e = .returned (.agg #[.int .u64 r1, .int .u64 r2]) ∧ Below w.heap.size w w' := by
  have hu34 := Try.underlying34
  have HB := Aside0.mk (Below.refl w.heap.size w)
  have H : ((hornbeamref04_Size.f a0).bind fun t254 => ((hornbeamref04_Size.f a0).bind fun t255 => ((hornbeamref04_Mul.f k t254 t255).bind fun bt256 => (some (bt256.1, bt256.2))))) = some (r1, r2) := h
  clear h
  replace H := Option.bind_eq_some_iff.mp H
  obtain ⟨t254, A20, H⟩ := H
  replace H : ((hornbeamref04_Size.f a0).bind fun t255 => ((hornbeamref04_Mul.f k t254 t255).bind fun bt256 => (some (bt256.1, bt256.2)))) = some (r1, r2) := H
  have A2 := Aside0.mk A20
  clear A20
  replace H := Option.bind_eq_some_iff.mp H
  obtain ⟨t255, A30, H⟩ := H
  replace H : ((hornbeamref04_Mul.f k t254 t255).bind fun bt256 => (some (bt256.1, bt256.2))) = some (r1, r2) := H
  have A3 := Aside0.mk A30
  obtain rfl : t254 = t255 := Option.some.inj (A2.out.symm.trans A3.out)
  clear A30
  replace H := Option.bind_eq_some_iff.mp H
  obtain ⟨⟨t256, t257⟩, A40, H⟩ := H
  replace H : (some (t256, t257)) = some (r1, r2) := H
  have A4 := Aside0.mk A40
  clear A40
  simp only [Option.some.injEq, Prod.mk.injEq] at H
  obtain ⟨rfl, rfl⟩ := H
  go_enter Try.func61, Try.ntmps61
  go_wp2_with (first | ((with_reducible refine gate_dst (N := 2) rfl ?_); refine box_event ?hg (N := 2) ?hd (cs := #[.int .u64 0, .int .u64 0]) (t := 34) ?hr ?_; (case hd => rfl); (case hg => rfl); (case hr => first | (go_simp; done) | (go_simp; rfl)); intro gb253 hg w5 hbox hb; have n0_ := Aside0.mk (below_step (by repeat (first | (with_reducible first | exact HB.out | apply below_alloc | apply pw_below_drewN | apply below_drew1) | exact HB.out)) hb); have n1_ := Aside0.mk (hbox); have n2_ := Aside0.mk ((by rw [hg]; exact (below_size (by repeat (first | (with_reducible first | exact HB.out | apply below_alloc | apply pw_below_drewN | apply below_drew1) | exact HB.out))) : w.heap.size ≤ gb253)); have n3_ := Aside0.mk ((by rw [hg]; exact (below_size (by repeat (first | (with_reducible first | exact HB.out | apply below_alloc | apply pw_below_drewN | apply below_drew1) | exact HB.out))) : w.heap.size ≤ gb253)); clear HB; have HB := n0_; have BK253 := n1_; have GW253 := n2_; have GE253 := n3_; clear n0_ n1_ n2_ n3_; clear hb hbox hg) | ((with_reducible refine gate_callee (f := 59) rfl ?_); refine goesL_ (some 4) rfl rfl Try.func59 (by kernel_rfl) rfl #[.int .i64 a0] rfl (by (try simp only [List.map_toArray, List.map_cons, List.map_nil]); first | done | rfl | (simp only [List.length_drop, List.length_take]; rfl)) ?_; (with_reducible refine (hornbeamref04_Size.calls a0 t254 _ A2.out).mono ?_); rintro e w' ⟨rfl, ⟨nd, rfl⟩⟩; refine ⟨_, rfl, ?_⟩; (try (rw [drewN_self w5]; generalize hq_ : World.drewN w5 _ = w5; have n0_ : Aside0 (w5.heap[gb253]? = some (.cells #[.int .u64 0, .int .u64 0] 34 (0, 0))) := ⟨by rw [← hq_]; exact (by (with_reducible repeat (first | refine blk_drewN ?_ _ | refine blk_drew ?_ | refine blk_alloc ?_ _)); exact BK253.out)⟩; have n1_ : Aside0 (Below w.heap.size w w5) := ⟨by rw [← hq_]; exact (by repeat (first | (with_reducible first | exact HB.out | apply below_alloc | apply pw_below_drewN | apply below_drew1 | refine below_set ?_ GE253.out) | exact HB.out))⟩; clear BK253 HB hq_; have BK253 := n0_; have HB := n1_; clear n0_ n1_; have hcy253_0 : w5.cell? ⟨gb253, 0, none⟩ = some (.int .u64 0) := (blk_cell BK253.out 0).trans rfl; have hfy253_0 := blk_frozen BK253.out 0; have hcy253_1 : w5.cell? ⟨gb253, 1, none⟩ = some (.int .u64 0) := (blk_cell BK253.out 1).trans rfl; have hfy253_1 := blk_frozen BK253.out 1))) | ((with_reducible refine gate_callee (f := 59) rfl ?_); refine goesL_ (some 6) rfl rfl Try.func59 (by kernel_rfl) rfl #[.int .i64 a0] rfl (by (try simp only [List.map_toArray, List.map_cons, List.map_nil]); first | done | rfl | (simp only [List.length_drop, List.length_take]; rfl)) ?_; (with_reducible refine (hornbeamref04_Size.calls a0 t254 _ A3.out).mono ?_); rintro e w' ⟨rfl, ⟨nd, rfl⟩⟩; refine ⟨_, rfl, ?_⟩; (try (rw [drewN_self w5]; generalize hq_ : World.drewN w5 _ = w5; have n0_ : Aside0 (w5.heap[gb253]? = some (.cells #[.int .u64 0, .int .u64 0] 34 (0, 0))) := ⟨by rw [← hq_]; exact (by (with_reducible repeat (first | refine blk_drewN ?_ _ | refine blk_drew ?_ | refine blk_alloc ?_ _)); exact BK253.out)⟩; have n1_ : Aside0 (Below w.heap.size w w5) := ⟨by rw [← hq_]; exact (by repeat (first | (with_reducible first | exact HB.out | apply below_alloc | apply pw_below_drewN | apply below_drew1 | refine below_set ?_ GE253.out) | exact HB.out))⟩; clear BK253 HB hq_; have BK253 := n0_; have HB := n1_; clear n0_ n1_; have hcy253_0 : w5.cell? ⟨gb253, 0, none⟩ = some (.int .u64 0) := (blk_cell BK253.out 0).trans rfl; have hfy253_0 := blk_frozen BK253.out 0; have hcy253_1 : w5.cell? ⟨gb253, 1, none⟩ = some (.int .u64 0) := (blk_cell BK253.out 1).trans rfl; have hfy253_1 := blk_frozen BK253.out 1))) | ((with_reducible refine gate_callee (f := 62) rfl ?_); refine goesL_ (some 7) rfl rfl Try.func62 (by kernel_rfl) rfl #[.int .u64 t254, .int .u64 t254] rfl (by (try simp only [List.map_toArray, List.map_cons, List.map_nil]); first | done | rfl | (simp only [List.length_drop, List.length_take]; rfl)) ?_; (with_reducible refine (hornbeamref04_Mul.calls k t254 t254 t256 t257 _ A4.out).mono ?_); rintro e w6 ⟨rfl, hb⟩; refine ⟨_, rfl, ?_⟩; have n0_ := Aside0.mk (blk_below (g := gb253) (o := .cells #[.int .u64 0, .int .u64 0] 34 (0, 0)) (by (with_reducible repeat (first | refine blk_drewN ?_ _ | refine blk_drew ?_ | refine blk_alloc ?_ _)); exact BK253.out) hb); have n1_ := Aside0.mk (below_step (by repeat (first | (with_reducible first | exact HB.out | apply below_alloc | apply pw_below_drewN | apply below_drew1 | refine below_set ?_ GE253.out) | exact HB.out)) hb); clear BK253; clear HB; have BK253 := n0_; have HB := n1_; clear n0_ n1_; (try clear hb); (try clear hb2); (try clear hk); (try clear hi); have hcz7_0 : w6.cell? ⟨gb253, 0, none⟩ = some (.int .u64 0) := (blk_cell BK253.out 0).trans rfl; have hcz7_1 : w6.cell? ⟨gb253, 1, none⟩ = some (.int .u64 0) := (blk_cell BK253.out 1).trans rfl; have hfz7_0 := blk_frozen BK253.out 0; have hfz7_1 := blk_frozen BK253.out 1))
  refine bodyPost_ret (results_cell_row rfl _ _ gb253 34 #[.int .u64 t256, .int .u64 t257] (0, 0) _ rfl (by (with_reducible repeat (first | refine blk_drewN ?_ _ | refine blk_drew ?_ | refine blk_alloc ?_ _)); refine blk_put (cs := #[.int .u64 t256, .int .u64 0]) ?_ 1 _ rfl; (with_reducible repeat (first | refine blk_drewN ?_ _ | refine blk_drew ?_ | refine blk_alloc ?_ _)); refine blk_put (cs := #[.int .u64 0, .int .u64 0]) ?_ 0 _ rfl; (with_reducible repeat (first | refine blk_drewN ?_ _ | refine blk_drew ?_ | refine blk_alloc ?_ _)); exact BK253.out) Try.underlying34 rfl (by kernel_rfl)) rfl ?_
  exact ⟨by first | rfl | (simp [errW_none, errW_some] <;> rfl) | (simp [*, errW_none, errW_some] <;> rfl), by repeat (first | (with_reducible first | exact HB.out | apply below_alloc | apply pw_below_drewN | apply below_drew1 | refine below_set ?_ GE253.out) | exact HB.out)⟩

/-! ### hornbeamref15_May: function 29 -/
mutual
def hornbeamref15_May.j0 : Nat → Bool → Int → Int → Int → Option (Bool)
  | 0, _, _, _, _ => none
  | k + 1, x16, x259000, x259001, x259002 => if x16 = true then (some false) else ((hornbeamref04_Size.f x259001).bind fun t259 => (if t259 > (IntKind.u64.wrap (1048576 * (IntKind.u64.wrap (x259000)))) then (hornbeamref15_May.j1 k (IntKind.u64.wrap (x259000)) true x259000 x259001 x259002) else (hornbeamref15_May.j1 k (IntKind.u64.wrap (x259000)) (decide ((IntKind.u64.wrap (x259002)) > (IntKind.u64.wrap (1099511627776 * (IntKind.u64.wrap (x259000)))))) x259000 x259001 x259002)))
def hornbeamref15_May.j1 : Nat → Int → Bool → Int → Int → Int → Option (Bool)
  | 0, _, _, _, _, _ => none
  | k + 1, x3, x33, x259000, x259001, x259002 => if x33 = true then (some false) else ((hornbeamref15_square.f k x259001).bind fun bt260 => ((hornbeamref04_Mul.f k x3 (IntKind.u64.wrap (x259002))).bind fun bt262 => ((hornbeamref04_Cmp.f k bt260.1 bt260.2 bt262.1 bt262.2).bind fun t264 => (some (decide (t264 ≤ 0))))))
end
def hornbeamref15_May.f (k : Nat) (a0_0 : Int) (a0_1 : Int) (a0_2 : Int) : Option (Bool) := if a0_0 < 0 then (hornbeamref15_May.j0 k true a0_0 a0_1 a0_2) else (if a0_0 > 1048576 then (hornbeamref15_May.j0 k true a0_0 a0_1 a0_2) else (hornbeamref15_May.j0 k (decide (a0_2 < 0)) a0_0 a0_1 a0_2))
theorem hornbeamref15_May.mono_l : ∀ k, (∀ y0 y1 y2 y3, LeO (hornbeamref15_May.j0 k y0 y1 y2 y3) (hornbeamref15_May.j0 (k + 1) y0 y1 y2 y3)) ∧ (∀ y0 y1 y2 y3 y4, LeO (hornbeamref15_May.j1 k y0 y1 y2 y3 y4) (hornbeamref15_May.j1 (k + 1) y0 y1 y2 y3 y4))
  | 0 => ⟨fun _ _ _ _ r h => by simp [hornbeamref15_May.j0] at h, fun _ _ _ _ _ r h => by simp [hornbeamref15_May.j1] at h⟩
  | k + 1 => by
    obtain ⟨ih0, ih1⟩ := hornbeamref15_May.mono_l k
    refine ⟨?_, ?_⟩
    · intro y0 y1 y2 y3
      unfold hornbeamref15_May.j0
      repeat' first
      | (with_reducible exact ih0 _ _ _ _)
      | (with_reducible exact ih1 _ _ _ _ _)
      | (with_reducible exact hornbeamref04_Cmp.mono _ _ _ _ _)
      | (with_reducible exact hornbeamref04_Mul.mono _ _ _)
      | (with_reducible exact hornbeamref15_square.mono _ _)
      | (with_reducible exact LeO.refl _)
      | (with_reducible exact LeO.none _)
      | (with_reducible refine LeO.ite ?_ ?_)
      | (with_reducible refine LeO.bind ?_ (fun _ => ?_))
      | exact ih0 _ _ _ _
      | exact ih1 _ _ _ _ _
      | exact hornbeamref04_Cmp.mono _ _ _ _ _
      | exact hornbeamref04_Mul.mono _ _ _
      | exact hornbeamref15_square.mono _ _
      | exact LeO.none _
      | refine LeO.ite ?_ ?_
      | refine LeO.bind ?_ (fun _ => ?_)
    · intro y0 y1 y2 y3 y4
      unfold hornbeamref15_May.j1
      repeat' first
      | (with_reducible exact ih0 _ _ _ _)
      | (with_reducible exact ih1 _ _ _ _ _)
      | (with_reducible exact hornbeamref04_Cmp.mono _ _ _ _ _)
      | (with_reducible exact hornbeamref04_Mul.mono _ _ _)
      | (with_reducible exact hornbeamref15_square.mono _ _)
      | (with_reducible exact LeO.refl _)
      | (with_reducible exact LeO.none _)
      | (with_reducible refine LeO.ite ?_ ?_)
      | (with_reducible refine LeO.bind ?_ (fun _ => ?_))
      | exact ih0 _ _ _ _
      | exact ih1 _ _ _ _ _
      | exact hornbeamref04_Cmp.mono _ _ _ _ _
      | exact hornbeamref04_Mul.mono _ _ _
      | exact hornbeamref15_square.mono _ _
      | exact LeO.none _
      | refine LeO.ite ?_ ?_
      | refine LeO.bind ?_ (fun _ => ?_)
theorem hornbeamref15_May.mono : ∀ a0 a1 a2 k, LeO (hornbeamref15_May.f k a0 a1 a2) (hornbeamref15_May.f (k + 1) a0 a1 a2) := by
  intro a0 a1 a2 k
  obtain ⟨ih0, ih1⟩ := hornbeamref15_May.mono_l k
  unfold hornbeamref15_May.f
  repeat' first
      | (with_reducible exact ih0 _ _ _ _)
      | (with_reducible exact ih1 _ _ _ _ _)
      | (with_reducible exact hornbeamref04_Cmp.mono _ _ _ _ _)
      | (with_reducible exact hornbeamref04_Mul.mono _ _ _)
      | (with_reducible exact hornbeamref15_square.mono _ _)
      | (with_reducible exact LeO.refl _)
      | (with_reducible exact LeO.none _)
      | (with_reducible refine LeO.ite ?_ ?_)
      | (with_reducible refine LeO.bind ?_ (fun _ => ?_))
      | exact ih0 _ _ _ _
      | exact ih1 _ _ _ _ _
      | exact hornbeamref04_Cmp.mono _ _ _ _ _
      | exact hornbeamref04_Mul.mono _ _ _
      | exact hornbeamref15_square.mono _ _
      | exact LeO.none _
      | refine LeO.ite ?_ ?_
      | refine LeO.bind ?_ (fun _ => ?_)
def hornbeamref15_May.T6 : Bool × List (List Nat × List Nat) := (true, [([], []), ([0], [0]), ([1], [1]), ([], []), ([], []), ([4], [4]), ([5], [5]), ([3, 6, 2], [3, 6]), ([2, 7, 7], [2, 7]), ([8], [8]), ([9, 8, 0, 1, 2, 3, 4, 5, 6, 7, 8, 9], [9])])
def hornbeamref15_May.B6 : List Nat := [0, 1, 3, 0, 0, 16, 48, 127, 255, 511, 1023]
theorem hornbeamref15_May.tab6 : rtab .any (opsOf Try.f29 6) = hornbeamref15_May.T6 := by kernel_rfl
theorem hornbeamref15_May.bits6 : waitsOk hornbeamref15_May.T6.2 hornbeamref15_May.B6 = true := by kernel_rfl
set_option maxHeartbeats 8000000 in
set_option maxRecDepth 100000 in
theorem hornbeamref15_May.calls (k : Nat) (a0_0 : Int) (a0_1 : Int) (a0_2 : Int) (r : Bool) (w : World) (h : hornbeamref15_May.f k a0_0 a0_1 a0_2 = some r) :
  Calls Try.prog 29 #[.agg #[.int .i64 a0_0, .int .i64 a0_1, .int .i64 a0_2]] w fun e w' => e = .returned (.bool r) ∧ Below w.heap.size w w' := by
 have hu26 := Try.underlying26
 have HB := Aside0.mk (Below.refl w.heap.size w)
 have H : (if a0_0 < 0 then (hornbeamref15_May.j0 k true a0_0 a0_1 a0_2) else (if a0_0 > 1048576 then (hornbeamref15_May.j0 k true a0_0 a0_1 a0_2) else (hornbeamref15_May.j0 k (decide (a0_2 < 0)) a0_0 a0_1 a0_2))) = some r := h
 clear h
 have HC2 := Aside0.mk H
 clear H
 go_enter Try.func29, Try.ntmps29
 go_upto_region 1 with (first | ((with_reducible refine gate_dst (N := 1) rfl ?_); refine box_event ?hg (N := 1) ?hd (cs := #[.int .i64 a0_0, .int .i64 a0_1, .int .i64 a0_2]) (t := 26) ?hr ?_; (case hd => rfl); (case hg => rfl); (case hr => first | (go_simp; done) | (go_simp; rfl)); intro gb258 hg w3 hbox hb; have n0_ := Aside0.mk (lP (by repeat (first | (with_reducible first | exact HB.out | apply lA | apply lN | apply lD) | exact HB.out)) hb); have n1_ := Aside0.mk (hbox); have n2_ := Aside0.mk ((by rw [hg]; exact (lZ (by repeat (first | (with_reducible first | exact HB.out | apply lA | apply lN | apply lD) | exact HB.out))) : w.heap.size ≤ gb258)); have n3_ := Aside0.mk ((by rw [hg]; exact (lZ (by repeat (first | (with_reducible first | exact HB.out | apply lA | apply lN | apply lD) | exact HB.out))) : w.heap.size ≤ gb258)); clear HB; have HB := n0_; have BK258 := n1_; have GW258 := n2_; have GE258 := n3_; clear n0_ n1_ n2_ n3_; clear hb hbox hg))
 (try simp only [Act.put, List.setIfInBounds_toArray, List.set_cons_zero, List.set_cons_succ])
 go_cut [16] (fun v16 wc => ∃ (kq : Nat) (x16_1 : Bool), v16 = .bool x16_1 ∧ Aside0 (hornbeamref15_May.j0 kq x16_1 a0_0 a0_1 a0_2 = some r) ∧ Aside0 (kq ≤ k) ∧ Aside0 (wc.heap[gb258]? = some (.cells #[.int .i64 a0_0, .int .i64 a0_1, .int .i64 a0_2] 26 (0, 0))) ∧ Aside0 (Below w.heap.size w wc))
 case first =>
  have H := HC2.out
  clear HC2
  by_cases c4 : a0_0 < 0
  ·rw [if_pos c4] at H
   have c4b0 : decide (a0_0 < 0) = true := decide_eq_true c4
   clear c4
   (first | rw [c4b0] | (simp only [i64_w, i32_w]; rw [c4b0]) | skip)
   have H' := Aside0.mk H
   clear H
   have hcz5_0 : w3.cell? ⟨gb258, 0, none⟩ = some (.int .i64 a0_0) := (bC BK258.out 0).trans rfl
   have hcz5_1 : w3.cell? ⟨gb258, 1, none⟩ = some (.int .i64 a0_1) := (bC BK258.out 1).trans rfl
   have hcz5_2 : w3.cell? ⟨gb258, 2, none⟩ = some (.int .i64 a0_2) := (bC BK258.out 2).trans rfl
   have hfz5_0 := bF BK258.out 0
   have hfz5_1 := bF BK258.out 1
   have hfz5_2 := bF BK258.out 2
   go_wp2
   go_meet
   case rel => exact ⟨_, (true), (by first | rfl | (simp; done) | (simp [*]; done)), H', ⟨by first | omega | exact Nat.le_refl _⟩, ⟨by (with_reducible repeat (first | refine bN ?_ _ | refine bD ?_ | refine bA ?_ _)); exact BK258.out⟩, ⟨by repeat (first | (with_reducible first | exact HB.out | apply lA | apply lN | apply lD | refine lS ?_ GE258.out) | exact HB.out)⟩⟩
  ·rw [if_neg c4] at H
   have c4b0 : decide (a0_0 < 0) = false := decide_eq_false c4
   clear c4
   (first | rw [c4b0] | (simp only [i64_w, i32_w]; rw [c4b0]) | skip)
   by_cases c6 : a0_0 > 1048576
   ·rw [if_pos c6] at H
    have c6b0 : decide (1048576 < a0_0) = true := decide_eq_true c6
    clear c6
    have H' := Aside0.mk H
    clear H
    have hcz7_0 : w3.cell? ⟨gb258, 0, none⟩ = some (.int .i64 a0_0) := (bC BK258.out 0).trans rfl
    have hcz7_1 : w3.cell? ⟨gb258, 1, none⟩ = some (.int .i64 a0_1) := (bC BK258.out 1).trans rfl
    have hcz7_2 : w3.cell? ⟨gb258, 2, none⟩ = some (.int .i64 a0_2) := (bC BK258.out 2).trans rfl
    have hfz7_0 := bF BK258.out 0
    have hfz7_1 := bF BK258.out 1
    have hfz7_2 := bF BK258.out 2
    go_wp2
    go_meet
    case rel => exact ⟨_, (true), (by first | rfl | (simp; done) | (simp [*]; done)), H', ⟨by first | omega | exact Nat.le_refl _⟩, ⟨by (with_reducible repeat (first | refine bN ?_ _ | refine bD ?_ | refine bA ?_ _)); exact BK258.out⟩, ⟨by repeat (first | (with_reducible first | exact HB.out | apply lA | apply lN | apply lD | refine lS ?_ GE258.out) | exact HB.out)⟩⟩
   ·rw [if_neg c6] at H
    have c6b0 : decide (1048576 < a0_0) = false := decide_eq_false c6
    clear c6
    have H' := Aside0.mk H
    clear H
    have hcz8_0 : w3.cell? ⟨gb258, 0, none⟩ = some (.int .i64 a0_0) := (bC BK258.out 0).trans rfl
    have hcz8_1 : w3.cell? ⟨gb258, 1, none⟩ = some (.int .i64 a0_1) := (bC BK258.out 1).trans rfl
    have hcz8_2 : w3.cell? ⟨gb258, 2, none⟩ = some (.int .i64 a0_2) := (bC BK258.out 2).trans rfl
    have hfz8_0 := bF BK258.out 0
    have hfz8_1 := bF BK258.out 1
    have hfz8_2 := bF BK258.out 2
    go_wp2
    go_meet
    case rel => exact ⟨_, (decide (a0_2 < 0)), (by first | rfl | (simp; done) | (simp [*]; done)), H', ⟨by first | omega | exact Nat.le_refl _⟩, ⟨by (with_reducible repeat (first | refine bN ?_ _ | refine bD ?_ | refine bA ?_ _)); exact BK258.out⟩, ⟨by repeat (first | (with_reducible first | exact HB.out | apply lA | apply lN | apply lD | refine lS ?_ GE258.out) | exact HB.out)⟩⟩
 case rest =>
  clear HC2
  try clear c2
  try clear p2
  try clear c4
  try clear c4b0
  try clear c6
  try clear c6b0
  try clear hcz5_0
  try clear hcz5_1
  try clear hcz5_2
  try clear hcz7_0
  try clear hcz7_1
  try clear hcz7_2
  try clear hcz8_0
  try clear hcz8_1
  try clear hcz8_2
  try clear hfz5_0
  try clear hfz5_1
  try clear hfz5_2
  try clear hfz7_0
  try clear hfz7_1
  try clear hfz7_2
  try clear hfz8_0
  try clear hfz8_1
  try clear hfz8_2
  obtain ⟨kq, x16_1, rfl, HA, HJ1, BK258, HB⟩ := hcut
  cases kq with
  | zero => exact absurd HA.out (by simp [hornbeamref15_May.j0])
  | succ kj1 =>
   have H := HA.out
   clear HA
   simp only [hornbeamref15_May.j0] at H
   by_cases c9 : x16_1 = true
   ·subst c9
    have H1 : (some false) = some r := by rw [if_pos rfl] at H; exact H
    clear H
    have H := H1
    clear H1
    obtain rfl := Option.some.inj H
    go_wp2
    all_goals (go_ret; exact ⟨by first | rfl | (simp [errW_none, errW_some] <;> rfl) | (simp [*, errW_none, errW_some] <;> rfl) | (simp_all; done), by repeat (first | (with_reducible first | exact HB.out | apply lA | apply lN | apply lD | refine lS ?_ GE258.out) | exact HB.out)⟩)
   ·replace c9 := Bool.eq_false_iff.mpr c9
    subst c9
    have H1 : ((hornbeamref04_Size.f a0_1).bind fun t259 => (if t259 > (IntKind.u64.wrap (1048576 * (IntKind.u64.wrap (a0_0)))) then (hornbeamref15_May.j1 kj1 (IntKind.u64.wrap (a0_0)) true a0_0 a0_1 a0_2) else (hornbeamref15_May.j1 kj1 (IntKind.u64.wrap (a0_0)) (decide ((IntKind.u64.wrap (a0_2)) > (IntKind.u64.wrap (1099511627776 * (IntKind.u64.wrap (a0_0)))))) a0_0 a0_1 a0_2))) = some r := by rw [if_neg (show ¬ (false = true) by decide)] at H; exact H
    clear H
    have H := H1
    clear H1
    have HC10 := Aside0.mk H
    clear H
    have hcz11_0 : wc.cell? ⟨gb258, 0, none⟩ = some (.int .i64 a0_0) := (bC BK258.out 0).trans rfl
    have hcz11_1 : wc.cell? ⟨gb258, 1, none⟩ = some (.int .i64 a0_1) := (bC BK258.out 1).trans rfl
    have hcz11_2 : wc.cell? ⟨gb258, 2, none⟩ = some (.int .i64 a0_2) := (bC BK258.out 2).trans rfl
    have hfz11_0 := bF BK258.out 0
    have hfz11_1 := bF BK258.out 1
    have hfz11_2 := bF BK258.out 2
    go_upto_region 4 with (fail)
    go_cut [33] (fun v33 wc => ∃ (kq : Nat) (x33_9 : Bool), v33 = .bool x33_9 ∧ Aside0 (hornbeamref15_May.j1 kq (IntKind.u64.wrap (a0_0)) x33_9 a0_0 a0_1 a0_2 = some r) ∧ Aside0 (kq ≤ kj1) ∧ Aside0 (wc.heap[gb258]? = some (.cells #[.int .i64 a0_0, .int .i64 a0_1, .int .i64 a0_2] 26 (0, 0))) ∧ Aside0 (Below w.heap.size w wc))
    case first =>
     have H := HC10.out
     clear HC10
     replace H := Option.bind_eq_some_iff.mp H
     obtain ⟨t259, A120, H⟩ := H
     replace H : (if t259 > (IntKind.u64.wrap (1048576 * (IntKind.u64.wrap (a0_0)))) then (hornbeamref15_May.j1 kj1 (IntKind.u64.wrap (a0_0)) true a0_0 a0_1 a0_2) else (hornbeamref15_May.j1 kj1 (IntKind.u64.wrap (a0_0)) (decide ((IntKind.u64.wrap (a0_2)) > (IntKind.u64.wrap (1099511627776 * (IntKind.u64.wrap (a0_0)))))) a0_0 a0_1 a0_2)) = some r := H
     have A12 := Aside0.mk A120
     clear A120
     by_cases c13 : t259 > (IntKind.u64.wrap (1048576 * (IntKind.u64.wrap (a0_0))))
     ·rw [if_pos c13] at H
      have c13b0 : decide ((IntKind.u64.wrap (1048576 * (IntKind.u64.wrap (a0_0)))) < t259) = true := decide_eq_true c13
      clear c13
      (first | rw [c13b0] | (simp only [i64_w, i32_w]; rw [c13b0]) | skip)
      have H' := Aside0.mk H
      clear H
      have hcz14_0 : wc.cell? ⟨gb258, 0, none⟩ = some (.int .i64 a0_0) := (bC BK258.out 0).trans rfl
      have hcz14_1 : wc.cell? ⟨gb258, 1, none⟩ = some (.int .i64 a0_1) := (bC BK258.out 1).trans rfl
      have hcz14_2 : wc.cell? ⟨gb258, 2, none⟩ = some (.int .i64 a0_2) := (bC BK258.out 2).trans rfl
      have hfz14_0 := bF BK258.out 0
      have hfz14_1 := bF BK258.out 1
      have hfz14_2 := bF BK258.out 2
      go_wp2_with (first | ((with_reducible refine gate_callee (f := 59) rfl ?_); refine goesL_ (some 22) rfl rfl Try.func59 (by kernel_rfl) rfl #[.int .i64 a0_1] rfl (by (try simp only [List.map_toArray, List.map_cons, List.map_nil]); first | done | rfl | (simp only [List.length_drop, List.length_take]; rfl)) ?_; (with_reducible refine (hornbeamref04_Size.calls a0_1 t259 _ A12.out).mono ?_); rintro e w' ⟨rfl, ⟨nd, rfl⟩⟩; refine ⟨_, rfl, ?_⟩))
      go_meet
      case rel => exact ⟨_, (true), (by first | rfl | (simp; done) | (simp [*]; done)), H', ⟨by have := HJ1.out; first | omega | exact Nat.le_refl _⟩, ⟨by (with_reducible repeat (first | refine bN ?_ _ | refine bD ?_ | refine bA ?_ _)); exact BK258.out⟩, ⟨by repeat (first | (with_reducible first | exact HB.out | apply lA | apply lN | apply lD | refine lS ?_ GE258.out) | exact HB.out)⟩⟩
     ·rw [if_neg c13] at H
      have c13b0 : decide ((IntKind.u64.wrap (1048576 * (IntKind.u64.wrap (a0_0)))) < t259) = false := decide_eq_false c13
      clear c13
      (first | rw [c13b0] | (simp only [i64_w, i32_w]; rw [c13b0]) | skip)
      have H' := Aside0.mk H
      clear H
      have hcz15_0 : wc.cell? ⟨gb258, 0, none⟩ = some (.int .i64 a0_0) := (bC BK258.out 0).trans rfl
      have hcz15_1 : wc.cell? ⟨gb258, 1, none⟩ = some (.int .i64 a0_1) := (bC BK258.out 1).trans rfl
      have hcz15_2 : wc.cell? ⟨gb258, 2, none⟩ = some (.int .i64 a0_2) := (bC BK258.out 2).trans rfl
      have hfz15_0 := bF BK258.out 0
      have hfz15_1 := bF BK258.out 1
      have hfz15_2 := bF BK258.out 2
      go_wp2_with (first | ((with_reducible refine gate_callee (f := 59) rfl ?_); refine goesL_ (some 22) rfl rfl Try.func59 (by kernel_rfl) rfl #[.int .i64 a0_1] rfl (by (try simp only [List.map_toArray, List.map_cons, List.map_nil]); first | done | rfl | (simp only [List.length_drop, List.length_take]; rfl)) ?_; (with_reducible refine (hornbeamref04_Size.calls a0_1 t259 _ A12.out).mono ?_); rintro e w' ⟨rfl, ⟨nd, rfl⟩⟩; refine ⟨_, rfl, ?_⟩))
      go_meet
      case rel => exact ⟨_, (decide ((IntKind.u64.wrap (a0_2)) > (IntKind.u64.wrap (1099511627776 * (IntKind.u64.wrap (a0_0)))))), (by first | rfl | (simp; done) | (simp [*]; done)), H', ⟨by have := HJ1.out; first | omega | exact Nat.le_refl _⟩, ⟨by (with_reducible repeat (first | refine bN ?_ _ | refine bD ?_ | refine bA ?_ _)); exact BK258.out⟩, ⟨by repeat (first | (with_reducible first | exact HB.out | apply lA | apply lN | apply lD | refine lS ?_ GE258.out) | exact HB.out)⟩⟩
    case rest =>
     clear HC10
     try clear c1
     try clear c2
     try clear p2
     try clear c4
     try clear c4b0
     try clear c5
     try clear c6
     try clear c6b0
     try clear c9
     try clear c13
     try clear c13b0
     try clear hcz11_0
     try clear hcz11_1
     try clear hcz11_2
     try clear hcz14_0
     try clear hcz14_1
     try clear hcz14_2
     try clear hcz15_0
     try clear hcz15_1
     try clear hcz15_2
     try clear hcz5_0
     try clear hcz5_1
     try clear hcz5_2
     try clear hcz7_0
     try clear hcz7_1
     try clear hcz7_2
     try clear hcz8_0
     try clear hcz8_1
     try clear hcz8_2
     try clear hfz11_0
     try clear hfz11_1
     try clear hfz11_2
     try clear hfz14_0
     try clear hfz14_1
     try clear hfz14_2
     try clear hfz15_0
     try clear hfz15_1
     try clear hfz15_2
     try clear hfz5_0
     try clear hfz5_1
     try clear hfz5_2
     try clear hfz7_0
     try clear hfz7_1
     try clear hfz7_2
     try clear hfz8_0
     try clear hfz8_1
     try clear hfz8_2
     try clear p2
     obtain ⟨kq, x33_9, rfl, HA, HJ9, BK258, HB⟩ := hcut
     cases kq with
     | zero => exact absurd HA.out (by simp [hornbeamref15_May.j1])
     | succ kj9 =>
      have H := HA.out
      clear HA
      simp only [hornbeamref15_May.j1] at H
      by_cases c16 : x33_9 = true
      ·subst c16
       have H1 : (some false) = some r := by rw [if_pos rfl] at H; exact H
       clear H
       have H := H1
       clear H1
       obtain rfl := Option.some.inj H
       go_wp2
       all_goals (go_ret; exact ⟨by first | rfl | (simp [errW_none, errW_some] <;> rfl) | (simp [*, errW_none, errW_some] <;> rfl) | (simp_all; done), by repeat (first | (with_reducible first | exact HB.out | apply lA | apply lN | apply lD | refine lS ?_ GE258.out) | exact HB.out)⟩)
      ·replace c16 := Bool.eq_false_iff.mpr c16
       subst c16
       have H1 : ((hornbeamref15_square.f kj9 a0_1).bind fun bt260 => ((hornbeamref04_Mul.f kj9 (IntKind.u64.wrap (a0_0)) (IntKind.u64.wrap (a0_2))).bind fun bt262 => ((hornbeamref04_Cmp.f kj9 bt260.1 bt260.2 bt262.1 bt262.2).bind fun t264 => (some (decide (t264 ≤ 0)))))) = some r := by rw [if_neg (show ¬ (false = true) by decide)] at H; exact H
       clear H
       have H := H1
       clear H1
       replace H := Option.bind_eq_some_iff.mp H
       obtain ⟨⟨t260, t261⟩, A170, H⟩ := H
       replace H : ((hornbeamref04_Mul.f kj9 (IntKind.u64.wrap (a0_0)) (IntKind.u64.wrap (a0_2))).bind fun bt262 => ((hornbeamref04_Cmp.f kj9 t260 t261 bt262.1 bt262.2).bind fun t264 => (some (decide (t264 ≤ 0))))) = some r := H
       have A17 := Aside0.mk A170
       clear A170
       replace H := Option.bind_eq_some_iff.mp H
       obtain ⟨⟨t262, t263⟩, A180, H⟩ := H
       replace H : ((hornbeamref04_Cmp.f kj9 t260 t261 t262 t263).bind fun t264 => (some (decide (t264 ≤ 0)))) = some r := H
       have A18 := Aside0.mk A180
       clear A180
       replace H := Option.bind_eq_some_iff.mp H
       obtain ⟨t264, A190, H⟩ := H
       replace H : (some (decide (t264 ≤ 0))) = some r := H
       have A19 := Aside0.mk A190
       clear A190
       obtain rfl := Option.some.inj H
       try go_wp2
       have n0_ := Aside0.mk (bD BK258.out)
       have n1_ := Aside0.mk (lD HB.out)
       clear BK258 HB
       have BK258 := n0_; have HB := n1_
       clear n0_ n1_
       refine start_ (n := 11) (S := fun w' => w'.cell? ⟨gb258, 0, none⟩ = some (.int .i64 a0_0) ∧ w'.cell? ⟨gb258, 1, none⟩ = some (.int .i64 a0_1) ∧ w'.cell? ⟨gb258, 2, none⟩ = some (.int .i64 a0_2)) (ds := []) #[false, false, false, false, false, false, false, false, false, false, false] (by kernel_rfl) rfl rfl ⟨(bC BK258.out 0).trans rfl, (bC BK258.out 1).trans rfl, (bC BK258.out 2).trans rfl⟩ (fun hHeld => ?_); refine with_tabW hornbeamref15_May.tab6 hornbeamref15_May.bits6 (fun HT_ HW_ => ?_)
       generalize wc.drew = w20 at BK258 HB hHeld ⊢
       refine pure_ (i := 0) (N := some 34) (v := ?_) (a' := ?_) #[true, false, false, false, false, false, false, false, false, false, false] rfl rfl (any_of HT_.out (by kernel_rfl)) (fun _ _ _ h => h) (Or.inl ⟨by rfl, ?_⟩) ?_ ?_
       rotate_left
       ·intro w'
        go_simp
        with_reducible rfl
       rotate_left
       ·simp only [Act.put, List.setIfInBounds_toArray, List.set_cons_zero, List.set_cons_succ, i64_w, i32_w]
        rfl
       refine pure_ (i := 3) (N := some 37) (v := ?_) (a' := ?_) #[true, false, false, true, false, false, false, false, false, false, false] rfl rfl (any_of HT_.out (by kernel_rfl)) (fun _ _ _ h => h) (Or.inl ⟨by rfl, ?_⟩) ?_ ?_
       rotate_left
       ·intro w'
        go_simp
        with_reducible rfl
       rotate_left
       ·simp only [Act.put, List.setIfInBounds_toArray, List.set_cons_zero, List.set_cons_succ, i64_w, i32_w]
        rfl
       refine pure_ (i := 4) (N := some 38) (v := ?_) (a' := ?_) #[true, false, false, true, true, false, false, false, false, false, false] rfl rfl (any_of HT_.out (by kernel_rfl)) (fun _ _ _ h => h) (Or.inl ⟨by rfl, ?_⟩) ?_ ?_
       rotate_left
       ·intro w'
        go_simp
        with_reducible rfl
       rotate_left
       ·simp only [Act.put, List.setIfInBounds_toArray, List.set_cons_zero, List.set_cons_succ, i64_w, i32_w]
        rfl
       refine take_ (i := 1) (N := some 35) (v := ?_) (a' := ?_) #[true, true, false, true, true, false, false, false, false, false, false] rfl rfl (take_ofW HT_.out HW_.out (by kernel_rfl)) (fun _ _ _ h => h) (Or.inl ⟨by rfl, ?_⟩) hHeld ?_ ?_
       rotate_left
       ·rintro w' ⟨s0, s1, s2⟩
        go_simp
        with_reducible rfl
       rotate_left
       ·simp only [Act.put, List.setIfInBounds_toArray, List.set_cons_zero, List.set_cons_succ, i64_w, i32_w]
        rfl
       refine take_ (i := 5) (N := some 39) (v := ?_) (a' := ?_) #[true, true, false, true, true, true, false, false, false, false, false] rfl rfl (take_ofW HT_.out HW_.out (by kernel_rfl)) (fun _ _ _ h => h) (Or.inl ⟨by rfl, ?_⟩) hHeld ?_ ?_
       rotate_left
       ·rintro w' ⟨s0, s1, s2⟩
        go_simp
        with_reducible rfl
       rotate_left
       ·simp only [Act.put, List.setIfInBounds_toArray, List.set_cons_zero, List.set_cons_succ, i64_w, i32_w]
        rfl
       refine pure_ (i := 6) (N := some 40) (v := ?_) (a' := ?_) #[true, true, false, true, true, true, true, false, false, false, false] rfl rfl (any_of HT_.out (by kernel_rfl)) (fun _ _ _ h => h) (Or.inl ⟨by rfl, ?_⟩) ?_ ?_
       rotate_left
       ·intro w'
        go_simp
        with_reducible rfl
       rotate_left
       ·simp only [Act.put, List.setIfInBounds_toArray, List.set_cons_zero, List.set_cons_succ, i64_w, i32_w]
        rfl
       refine one_ (i := 2) (N := some 36) #[true, true, true, true, true, true, true, false, false, false, false] rfl rfl (one_of HT_.out (by kernel_rfl)) (by decide) (fun K hK => ?_)
       refine goes_ Try.func61 (by kernel_rfl) rfl #[.int .i64 a0_1] (by rfl) rfl rfl (by (try simp only [List.map_toArray, List.map_cons, List.map_nil]); first | done | rfl | (simp only [List.length_drop, List.length_take]; rfl)) ?_
       with_reducible refine (hornbeamref15_square.calls kj9 a0_1 t260 t261 _ A17.out).mono ?_
       rintro e w21 ⟨rfl, hb⟩
       refine ⟨_, rfl, ?_⟩
       have n0_ := Aside0.mk (bB (g := gb258) (o := .cells #[.int .i64 a0_0, .int .i64 a0_1, .int .i64 a0_2] 26 (0, 0)) (by (with_reducible repeat (first | refine bN ?_ _ | refine bD ?_ | refine bA ?_ _)); exact BK258.out) hb)
       have n1_ := Aside0.mk (lP (by repeat (first | (with_reducible first | exact HB.out | apply lA | apply lN | apply lD | refine lS ?_ GE258.out) | exact HB.out)) hb)
       clear BK258 HB
       have BK258 := n0_; have HB := n1_
       clear n0_ n1_
       (try clear hb)
       (try clear hb2)
       (try clear hk)
       (try clear hi)
       refine hK.out _ _ ⟨(bC BK258.out 0).trans rfl, (bC BK258.out 1).trans rfl, (bC BK258.out 2).trans rfl⟩ (fun hHeld => ?_)
       clear hK K
       refine norm_ (a' := ?_) ?_ ?_
       rotate_left
       ·show Act.put _ (some 36) _ = _
        simp only [Act.put, List.setIfInBounds_toArray, List.set_cons_zero, List.set_cons_succ, i64_w, i32_w]
        rfl
       refine one_ (i := 7) (N := some 41) #[true, true, true, true, true, true, true, true, false, false, false] rfl rfl (one_of HT_.out (by kernel_rfl)) (by decide) (fun K hK => ?_)
       refine goes_ Try.func62 (by kernel_rfl) rfl #[.int .u64 (IntKind.u64.wrap (a0_0)), .int .u64 (IntKind.u64.wrap (a0_2))] (by rfl) rfl rfl (by (try simp only [List.map_toArray, List.map_cons, List.map_nil]); first | done | rfl | (simp only [List.length_drop, List.length_take]; rfl)) ?_
       with_reducible refine (hornbeamref04_Mul.calls kj9 (IntKind.u64.wrap (a0_0)) (IntKind.u64.wrap (a0_2)) t262 t263 _ A18.out).mono ?_
       rintro e w22 ⟨rfl, hb⟩
       refine ⟨_, rfl, ?_⟩
       have n0_ := Aside0.mk (bB (g := gb258) (o := .cells #[.int .i64 a0_0, .int .i64 a0_1, .int .i64 a0_2] 26 (0, 0)) (by (with_reducible repeat (first | refine bN ?_ _ | refine bD ?_ | refine bA ?_ _)); exact BK258.out) hb)
       have n1_ := Aside0.mk (lP (by repeat (first | (with_reducible first | exact HB.out | apply lA | apply lN | apply lD | refine lS ?_ GE258.out) | exact HB.out)) hb)
       clear BK258 HB
       have BK258 := n0_; have HB := n1_
       clear n0_ n1_
       (try clear hb)
       (try clear hb2)
       (try clear hk)
       (try clear hi)
       refine hK.out _ _ ⟨(bC BK258.out 0).trans rfl, (bC BK258.out 1).trans rfl, (bC BK258.out 2).trans rfl⟩ (fun hHeld => ?_)
       clear hK K
       refine norm_ (a' := ?_) ?_ ?_
       rotate_left
       ·show Act.put _ (some 41) _ = _
        simp only [Act.put, List.setIfInBounds_toArray, List.set_cons_zero, List.set_cons_succ, i64_w, i32_w]
        rfl
       refine one_ (i := 8) (N := some 42) #[true, true, true, true, true, true, true, true, true, false, false] rfl rfl (one_of HT_.out (by kernel_rfl)) (by decide) (fun K hK => ?_)
       refine goes_ Try.func60 (by kernel_rfl) rfl #[.agg #[.int .u64 t260, .int .u64 t261], .agg #[.int .u64 t262, .int .u64 t263]] (by rfl) rfl rfl (by (try simp only [List.map_toArray, List.map_cons, List.map_nil]); first | done | rfl | (simp only [List.length_drop, List.length_take]; rfl)) ?_
       with_reducible refine (hornbeamref04_Cmp.calls kj9 t260 t261 t262 t263 t264 _ A19.out).mono ?_
       rintro e w23 ⟨rfl, hb⟩
       refine ⟨_, rfl, ?_⟩
       have n0_ := Aside0.mk (bB (g := gb258) (o := .cells #[.int .i64 a0_0, .int .i64 a0_1, .int .i64 a0_2] 26 (0, 0)) (by (with_reducible repeat (first | refine bN ?_ _ | refine bD ?_ | refine bA ?_ _)); exact BK258.out) hb)
       have n1_ := Aside0.mk (lP (by repeat (first | (with_reducible first | exact HB.out | apply lA | apply lN | apply lD | refine lS ?_ GE258.out) | exact HB.out)) hb)
       clear BK258 HB
       have BK258 := n0_; have HB := n1_
       clear n0_ n1_
       (try clear hb)
       (try clear hb2)
       (try clear hk)
       (try clear hi)
       refine hK.out _ _ ⟨(bC BK258.out 0).trans rfl, (bC BK258.out 1).trans rfl, (bC BK258.out 2).trans rfl⟩ (fun hHeld => ?_)
       clear hK K
       refine norm_ (a' := ?_) ?_ ?_
       rotate_left
       ·show Act.put _ (some 42) _ = _
        simp only [Act.put, List.setIfInBounds_toArray, List.set_cons_zero, List.set_cons_succ, i64_w, i32_w]
        rfl
       refine pure_ (i := 9) (N := some 43) (v := ?_) (a' := ?_) #[true, true, true, true, true, true, true, true, true, true, false] rfl rfl (any_of HT_.out (by kernel_rfl)) (fun _ _ _ h => h) (Or.inl ⟨by rfl, ?_⟩) ?_ ?_
       rotate_left
       ·intro w'
        go_simp
        with_reducible rfl
       rotate_left
       ·simp only [Act.put, List.setIfInBounds_toArray, List.set_cons_zero, List.set_cons_succ, i64_w, i32_w]
        rfl
       refine pure_ (i := 10) (N := some 2) (v := ?_) (a' := ?_) #[true, true, true, true, true, true, true, true, true, true, true] rfl rfl (any_of HT_.out (by kernel_rfl)) (fun _ _ _ h => h) (Or.inl ⟨by rfl, ?_⟩) ?_ ?_
       rotate_left
       ·intro w'
        go_simp
        with_reducible rfl
       rotate_left
       ·simp only [Act.put, List.setIfInBounds_toArray, List.set_cons_zero, List.set_cons_succ, i64_w, i32_w]
        rfl
       refine done_ (done_of HT_.out (by kernel_rfl)) ?_
       try go_wp2
       all_goals (go_ret; exact ⟨by first | rfl | (simp [errW_none, errW_some] <;> rfl) | (simp [*, errW_none, errW_some] <;> rfl) | (simp_all; done), by repeat (first | (with_reducible first | exact HB.out | apply lA | apply lN | apply lD | refine lS ?_ GE258.out) | exact HB.out)⟩)

/-! ### hornbeamref04_Floor: function 58 -/
def hornbeamref04_Floor.f (a0 : Int) (a1 : Int) : Option (Int × Int) := if a1 < 1 then (some (0, 1)) else (if a0 ≥ 0 then (if a1 = 0 then (none) else (some (wrap64 (Int.tdiv a0 a1), 0))) else (if a1 = 0 then (none) else (some (wrap64 ((wrap64 (-(wrap64 (Int.tdiv (wrap64 (-(wrap64 (a0 + 1)))) a1)))) - 1), 0))))
set_option maxHeartbeats 8000000 in
set_option maxRecDepth 100000 in
theorem hornbeamref04_Floor.calls (a0 : Int) (a1 : Int) (r1 : Int) (r2 : Int) (w : World) (h : hornbeamref04_Floor.f a0 a1 = some (r1, r2)) :
    Calls Try.prog 58 #[.int .i64 a0, .int .i64 a1] w fun e w' => e = .returned (.tuple #[.int .i64 r1, .int .i64 r2]) ∧ Drawn0 w w' := by
  have H : (if a1 < 1 then (some (0, 1)) else (if a0 ≥ 0 then (if a1 = 0 then (none) else (some (wrap64 (Int.tdiv a0 a1), 0))) else (if a1 = 0 then (none) else (some (wrap64 ((wrap64 (-(wrap64 (Int.tdiv (wrap64 (-(wrap64 (a0 + 1)))) a1)))) - 1), 0))))) = some (r1, r2) := h
  clear h
  by_cases c3 : a1 < 1
  · rw [if_pos c3] at H
    have c3b0 : decide (a1 < 1) = true := decide_eq_true c3
    clear c3
    simp only [Option.some.injEq, Prod.mk.injEq] at H
    obtain ⟨rfl, rfl⟩ := H
    go_enter Try.func58, Try.ntmps58
    go_wp2
    all_goals (go_ret2; exact ⟨by first | rfl | (simp; done) | (simp [*]; done), by repeat (first | exact Drawn0.refl _ | apply Drawn0.step)⟩)
  · rw [if_neg c3] at H
    have c3b0 : decide (a1 < 1) = false := decide_eq_false c3
    clear c3
    by_cases c4 : a0 ≥ 0
    · rw [if_pos c4] at H
      have c4b0 : decide (0 ≤ a0) = true := decide_eq_true c4
      clear c4
      by_cases c5 : a1 = 0
      · rw [if_pos c5] at H
        exact absurd H (by simp)
      · rw [if_neg c5] at H
        have c5b0 : (a1 == 0) = false := beq_eq_false_iff_ne.mpr c5
        have c5b1 : (a1 != 0) = true := bne_iff_ne.mpr c5
        simp only [Option.some.injEq, Prod.mk.injEq] at H
        obtain ⟨rfl, rfl⟩ := H
        go_enter Try.func58, Try.ntmps58
        go_wp2
        all_goals (go_ret2; exact ⟨by first | rfl | (simp; done) | (simp [*]; done), by repeat (first | exact Drawn0.refl _ | apply Drawn0.step)⟩)
    · rw [if_neg c4] at H
      have c4b0 : decide (0 ≤ a0) = false := decide_eq_false c4
      clear c4
      by_cases c6 : a1 = 0
      · rw [if_pos c6] at H
        exact absurd H (by simp)
      · rw [if_neg c6] at H
        have c6b0 : (a1 == 0) = false := beq_eq_false_iff_ne.mpr c6
        have c6b1 : (a1 != 0) = true := bne_iff_ne.mpr c6
        simp only [Option.some.injEq, Prod.mk.injEq] at H
        obtain ⟨rfl, rfl⟩ := H
        go_enter Try.func58, Try.ntmps58
        go_wp2
        all_goals (go_ret2; exact ⟨by first | rfl | (simp; done) | (simp [*]; done), by repeat (first | exact Drawn0.refl _ | apply Drawn0.step)⟩)

/-! ### hornbeamref15_Mean: function 28 -/
def hornbeamref15_Mean.f (k : Nat) (a0_0 : Int) (a0_1 : Int) (a0_2 : Int) : Option (Int × Bool) := (hornbeamref15_May.f k a0_0 a0_1 a0_2).bind fun t266 => (if t266 = true then (if a0_0 = 0 then (some (0, false)) else ((hornbeamref04_Floor.f a0_1 a0_0).bind fun bt267 => (some (bt267.1, true)))) else (some (0, false)))
theorem hornbeamref15_Mean.mono : ∀ a0 a1 a2 k, LeO (hornbeamref15_Mean.f k a0 a1 a2) (hornbeamref15_Mean.f (k + 1) a0 a1 a2) := by
  intro a0 a1 a2 k
  unfold hornbeamref15_Mean.f
  repeat' first
      | (with_reducible exact hornbeamref15_May.mono _ _ _ _)
      | (with_reducible exact LeO.refl _)
      | (with_reducible exact LeO.none _)
      | (with_reducible refine LeO.ite ?_ ?_)
      | (with_reducible refine LeO.bind ?_ (fun _ => ?_))
      | exact hornbeamref15_May.mono _ _ _ _
      | exact LeO.none _
      | refine LeO.ite ?_ ?_
      | refine LeO.bind ?_ (fun _ => ?_)
set_option maxHeartbeats 8000000 in
set_option maxRecDepth 100000 in
theorem hornbeamref15_Mean.calls (k : Nat) (a0_0 : Int) (a0_1 : Int) (a0_2 : Int) (r1 : Int) (r2 : Bool) (w : World) (h : hornbeamref15_Mean.f k a0_0 a0_1 a0_2 = some (r1, r2)) :
  Calls Try.prog 28 #[.agg #[.int .i64 a0_0, .int .i64 a0_1, .int .i64 a0_2]] w fun e w' => e = .returned (.tuple #[.int .i64 r1, .bool r2]) ∧ Below w.heap.size w w' := by
 have hu26 := Try.underlying26
 have HB := Aside0.mk (Below.refl w.heap.size w)
 have H : ((hornbeamref15_May.f k a0_0 a0_1 a0_2).bind fun t266 => (if t266 = true then (if a0_0 = 0 then (some (0, false)) else ((hornbeamref04_Floor.f a0_1 a0_0).bind fun bt267 => (some (bt267.1, true)))) else (some (0, false)))) = some (r1, r2) := h
 clear h
 replace H := Option.bind_eq_some_iff.mp H
 obtain ⟨t266, A20, H⟩ := H
 replace H : (if t266 = true then (if a0_0 = 0 then (some (0, false)) else ((hornbeamref04_Floor.f a0_1 a0_0).bind fun bt267 => (some (bt267.1, true)))) else (some (0, false))) = some (r1, r2) := H
 have A2 := Aside0.mk A20
 clear A20
 by_cases c3 : t266 = true
 ·subst c3
  have H1 : (if a0_0 = 0 then (some (0, false)) else ((hornbeamref04_Floor.f a0_1 a0_0).bind fun bt267 => (some (bt267.1, true)))) = some (r1, r2) := by rw [if_pos rfl] at H; exact H
  clear H
  have H := H1
  clear H1
  by_cases c4 : a0_0 = 0
  ·rw [if_pos c4] at H
   have c4b0 : (a0_0 == 0) = true := beq_iff_eq.mpr c4
   have c4b1 : (a0_0 != 0) = false := bne_eq_false_iff_eq.mpr c4
   clear c4
   simp only [Option.some.injEq, Prod.mk.injEq] at H
   obtain ⟨rfl, rfl⟩ := H
   go_enter Try.func28, Try.ntmps28
   go_wp2_with (first | ((with_reducible refine gate_dst (N := 1) rfl ?_); refine box_event ?hg (N := 1) ?hd (cs := #[.int .i64 a0_0, .int .i64 a0_1, .int .i64 a0_2]) (t := 26) ?hr ?_; (case hd => rfl); (case hg => rfl); (case hr => first | (go_simp; done) | (go_simp; rfl)); intro gb265 hg w5 hbox hb; have n0_ := Aside0.mk (lP (by repeat (first | (with_reducible first | exact HB.out | apply lA | apply lN | apply lD) | exact HB.out)) hb); have n1_ := Aside0.mk (hbox); have n2_ := Aside0.mk ((by rw [hg]; exact (lZ (by repeat (first | (with_reducible first | exact HB.out | apply lA | apply lN | apply lD) | exact HB.out))) : w.heap.size ≤ gb265)); have n3_ := Aside0.mk ((by rw [hg]; exact (lZ (by repeat (first | (with_reducible first | exact HB.out | apply lA | apply lN | apply lD) | exact HB.out))) : w.heap.size ≤ gb265)); clear HB; have HB := n0_; have BK265 := n1_; have GW265 := n2_; have GE265 := n3_; clear n0_ n1_ n2_ n3_; clear hb hbox hg; have hcz6_0 : w5.cell? ⟨gb265, 0, none⟩ = some (.int .i64 a0_0) := (bC BK265.out 0).trans rfl; have hcz6_1 : w5.cell? ⟨gb265, 1, none⟩ = some (.int .i64 a0_1) := (bC BK265.out 1).trans rfl; have hcz6_2 : w5.cell? ⟨gb265, 2, none⟩ = some (.int .i64 a0_2) := (bC BK265.out 2).trans rfl; have hfz6_0 := bF BK265.out 0; have hfz6_1 := bF BK265.out 1; have hfz6_2 := bF BK265.out 2) | ((with_reducible refine gate_callee (f := 29) rfl ?_); refine goesL_ (some 7) rfl rfl Try.func29 (by kernel_rfl) rfl #[.agg #[.int .i64 a0_0, .int .i64 a0_1, .int .i64 a0_2]] rfl (by (try simp only [List.map_toArray, List.map_cons, List.map_nil]); first | done | rfl | (simp only [List.length_drop, List.length_take]; rfl)) ?_; (with_reducible refine (hornbeamref15_May.calls k a0_0 a0_1 a0_2 true _ A2.out).mono ?_); rintro e w7 ⟨rfl, hb⟩; refine ⟨_, rfl, ?_⟩; have n0_ := Aside0.mk (bB (g := gb265) (o := .cells #[.int .i64 a0_0, .int .i64 a0_1, .int .i64 a0_2] 26 (0, 0)) (by (with_reducible repeat (first | refine bN ?_ _ | refine bD ?_ | refine bA ?_ _)); exact BK265.out) hb); have n1_ := Aside0.mk (lP (by repeat (first | (with_reducible first | exact HB.out | apply lA | apply lN | apply lD | refine lS ?_ GE265.out) | exact HB.out)) hb); clear BK265; clear HB; have BK265 := n0_; have HB := n1_; clear n0_ n1_; (try clear hb); (try clear hb2); (try clear hk); (try clear hi); have hcz8_0 : w7.cell? ⟨gb265, 0, none⟩ = some (.int .i64 a0_0) := (bC BK265.out 0).trans rfl; have hcz8_1 : w7.cell? ⟨gb265, 1, none⟩ = some (.int .i64 a0_1) := (bC BK265.out 1).trans rfl; have hcz8_2 : w7.cell? ⟨gb265, 2, none⟩ = some (.int .i64 a0_2) := (bC BK265.out 2).trans rfl; have hfz8_0 := bF BK265.out 0; have hfz8_1 := bF BK265.out 1; have hfz8_2 := bF BK265.out 2))
   all_goals (go_ret2; exact ⟨by first | rfl | (simp [errW_none, errW_some] <;> rfl) | (simp [*, errW_none, errW_some] <;> rfl) | (simp_all; done), by repeat (first | (with_reducible first | exact HB.out | apply lA | apply lN | apply lD | refine lS ?_ GE265.out) | exact HB.out)⟩)
  ·rw [if_neg c4] at H
   have c4b0 : (a0_0 == 0) = false := beq_eq_false_iff_ne.mpr c4
   have c4b1 : (a0_0 != 0) = true := bne_iff_ne.mpr c4
   replace H := Option.bind_eq_some_iff.mp H
   obtain ⟨⟨t267, t268⟩, A90, H⟩ := H
   replace H : (some (t267, true)) = some (r1, r2) := H
   have A9 := Aside0.mk A90
   clear A90
   simp only [Option.some.injEq, Prod.mk.injEq] at H
   obtain ⟨rfl, rfl⟩ := H
   go_enter Try.func28, Try.ntmps28
   go_wp2_with (first | ((with_reducible refine gate_dst (N := 1) rfl ?_); refine box_event ?hg (N := 1) ?hd (cs := #[.int .i64 a0_0, .int .i64 a0_1, .int .i64 a0_2]) (t := 26) ?hr ?_; (case hd => rfl); (case hg => rfl); (case hr => first | (go_simp; done) | (go_simp; rfl)); intro gb265 hg w10 hbox hb; have n0_ := Aside0.mk (lP (by repeat (first | (with_reducible first | exact HB.out | apply lA | apply lN | apply lD) | exact HB.out)) hb); have n1_ := Aside0.mk (hbox); have n2_ := Aside0.mk ((by rw [hg]; exact (lZ (by repeat (first | (with_reducible first | exact HB.out | apply lA | apply lN | apply lD) | exact HB.out))) : w.heap.size ≤ gb265)); have n3_ := Aside0.mk ((by rw [hg]; exact (lZ (by repeat (first | (with_reducible first | exact HB.out | apply lA | apply lN | apply lD) | exact HB.out))) : w.heap.size ≤ gb265)); clear HB; have HB := n0_; have BK265 := n1_; have GW265 := n2_; have GE265 := n3_; clear n0_ n1_ n2_ n3_; clear hb hbox hg; have hcz11_0 : w10.cell? ⟨gb265, 0, none⟩ = some (.int .i64 a0_0) := (bC BK265.out 0).trans rfl; have hcz11_1 : w10.cell? ⟨gb265, 1, none⟩ = some (.int .i64 a0_1) := (bC BK265.out 1).trans rfl; have hcz11_2 : w10.cell? ⟨gb265, 2, none⟩ = some (.int .i64 a0_2) := (bC BK265.out 2).trans rfl; have hfz11_0 := bF BK265.out 0; have hfz11_1 := bF BK265.out 1; have hfz11_2 := bF BK265.out 2) | ((with_reducible refine gate_callee (f := 29) rfl ?_); refine goesL_ (some 7) rfl rfl Try.func29 (by kernel_rfl) rfl #[.agg #[.int .i64 a0_0, .int .i64 a0_1, .int .i64 a0_2]] rfl (by (try simp only [List.map_toArray, List.map_cons, List.map_nil]); first | done | rfl | (simp only [List.length_drop, List.length_take]; rfl)) ?_; (with_reducible refine (hornbeamref15_May.calls k a0_0 a0_1 a0_2 true _ A2.out).mono ?_); rintro e w12 ⟨rfl, hb⟩; refine ⟨_, rfl, ?_⟩; have n0_ := Aside0.mk (bB (g := gb265) (o := .cells #[.int .i64 a0_0, .int .i64 a0_1, .int .i64 a0_2] 26 (0, 0)) (by (with_reducible repeat (first | refine bN ?_ _ | refine bD ?_ | refine bA ?_ _)); exact BK265.out) hb); have n1_ := Aside0.mk (lP (by repeat (first | (with_reducible first | exact HB.out | apply lA | apply lN | apply lD | refine lS ?_ GE265.out) | exact HB.out)) hb); clear BK265; clear HB; have BK265 := n0_; have HB := n1_; clear n0_ n1_; (try clear hb); (try clear hb2); (try clear hk); (try clear hi); have hcz13_0 : w12.cell? ⟨gb265, 0, none⟩ = some (.int .i64 a0_0) := (bC BK265.out 0).trans rfl; have hcz13_1 : w12.cell? ⟨gb265, 1, none⟩ = some (.int .i64 a0_1) := (bC BK265.out 1).trans rfl; have hcz13_2 : w12.cell? ⟨gb265, 2, none⟩ = some (.int .i64 a0_2) := (bC BK265.out 2).trans rfl; have hfz13_0 := bF BK265.out 0; have hfz13_1 := bF BK265.out 1; have hfz13_2 := bF BK265.out 2) | ((with_reducible refine gate_callee (f := 58) rfl ?_); refine goesL_ (some 19) rfl rfl Try.func58 (by kernel_rfl) rfl #[.int .i64 a0_1, .int .i64 a0_0] rfl (by (try simp only [List.map_toArray, List.map_cons, List.map_nil]); first | done | rfl | (simp only [List.length_drop, List.length_take]; rfl)) ?_; (with_reducible refine (hornbeamref04_Floor.calls a0_1 a0_0 t267 t268 _ A9.out).mono ?_); rintro e w' ⟨rfl, ⟨nd, rfl⟩⟩; refine ⟨_, rfl, ?_⟩))
   all_goals (go_ret2; exact ⟨by first | rfl | (simp [errW_none, errW_some] <;> rfl) | (simp [*, errW_none, errW_some] <;> rfl) | (simp_all; done), by repeat (first | (with_reducible first | exact HB.out | apply lA | apply lN | apply lD | refine lS ?_ GE265.out) | exact HB.out)⟩)
 ·replace c3 := Bool.eq_false_iff.mpr c3
  subst c3
  have H1 : (some (0, false)) = some (r1, r2) := by rw [if_neg (show ¬ (false = true) by decide)] at H; exact H
  clear H
  have H := H1
  clear H1
  simp only [Option.some.injEq, Prod.mk.injEq] at H
  obtain ⟨rfl, rfl⟩ := H
  go_enter Try.func28, Try.ntmps28
  go_wp2_with (first | ((with_reducible refine gate_dst (N := 1) rfl ?_); refine box_event ?hg (N := 1) ?hd (cs := #[.int .i64 a0_0, .int .i64 a0_1, .int .i64 a0_2]) (t := 26) ?hr ?_; (case hd => rfl); (case hg => rfl); (case hr => first | (go_simp; done) | (go_simp; rfl)); intro gb265 hg w14 hbox hb; have n0_ := Aside0.mk (lP (by repeat (first | (with_reducible first | exact HB.out | apply lA | apply lN | apply lD) | exact HB.out)) hb); have n1_ := Aside0.mk (hbox); have n2_ := Aside0.mk ((by rw [hg]; exact (lZ (by repeat (first | (with_reducible first | exact HB.out | apply lA | apply lN | apply lD) | exact HB.out))) : w.heap.size ≤ gb265)); have n3_ := Aside0.mk ((by rw [hg]; exact (lZ (by repeat (first | (with_reducible first | exact HB.out | apply lA | apply lN | apply lD) | exact HB.out))) : w.heap.size ≤ gb265)); clear HB; have HB := n0_; have BK265 := n1_; have GW265 := n2_; have GE265 := n3_; clear n0_ n1_ n2_ n3_; clear hb hbox hg; have hcz15_0 : w14.cell? ⟨gb265, 0, none⟩ = some (.int .i64 a0_0) := (bC BK265.out 0).trans rfl; have hcz15_1 : w14.cell? ⟨gb265, 1, none⟩ = some (.int .i64 a0_1) := (bC BK265.out 1).trans rfl; have hcz15_2 : w14.cell? ⟨gb265, 2, none⟩ = some (.int .i64 a0_2) := (bC BK265.out 2).trans rfl; have hfz15_0 := bF BK265.out 0; have hfz15_1 := bF BK265.out 1; have hfz15_2 := bF BK265.out 2) | ((with_reducible refine gate_callee (f := 29) rfl ?_); refine goesL_ (some 7) rfl rfl Try.func29 (by kernel_rfl) rfl #[.agg #[.int .i64 a0_0, .int .i64 a0_1, .int .i64 a0_2]] rfl (by (try simp only [List.map_toArray, List.map_cons, List.map_nil]); first | done | rfl | (simp only [List.length_drop, List.length_take]; rfl)) ?_; (with_reducible refine (hornbeamref15_May.calls k a0_0 a0_1 a0_2 false _ A2.out).mono ?_); rintro e w16 ⟨rfl, hb⟩; refine ⟨_, rfl, ?_⟩; have n0_ := Aside0.mk (bB (g := gb265) (o := .cells #[.int .i64 a0_0, .int .i64 a0_1, .int .i64 a0_2] 26 (0, 0)) (by (with_reducible repeat (first | refine bN ?_ _ | refine bD ?_ | refine bA ?_ _)); exact BK265.out) hb); have n1_ := Aside0.mk (lP (by repeat (first | (with_reducible first | exact HB.out | apply lA | apply lN | apply lD | refine lS ?_ GE265.out) | exact HB.out)) hb); clear BK265; clear HB; have BK265 := n0_; have HB := n1_; clear n0_ n1_; (try clear hb); (try clear hb2); (try clear hk); (try clear hi)))
  all_goals (go_ret2; exact ⟨by first | rfl | (simp [errW_none, errW_some] <;> rfl) | (simp [*, errW_none, errW_some] <;> rfl) | (simp_all; done), by repeat (first | (with_reducible first | exact HB.out | apply lA | apply lN | apply lD | refine lS ?_ GE265.out) | exact HB.out)⟩)

end Go.Proofs.Ytoonddgldmfleaa.QSpreadScores
