-- Written by a program of this session (wip/tools/mkprint.py over the kit's print); Lean checks it.
import Derived.Test.YtoonddgldmfleaaQSpreadScoresx0
import Derived.Test.YtoonddgldmfleaaQSpreadScoresx8
namespace Go.Proofs.Ytoonddgldmfleaa.QSpreadScores
open Go.RowKit Go.Proofs.YtoonddgldmfleaaW.PrintWords Go.Proofs.YtoonddgldmfleaaW.PrintLast Go.Proofs.YtoonddgldmfleaaW.PrintMore
attribute [local go_sem] max2_int min2_int max_two min_two max_three min_three max_four min_four   -- for this text's walks alone
set_option linter.unusedVariables false
set_option linter.unusedSimpArgs false

/-! ### hornbeamref04_Times: function 79 -/
def hornbeamref04_Times.f (k : Nat) (a0_0 : Int) (a0_1 : Int) (a1 : Int) : Option (Int × Int × Int) := (hornbeamref04_OfWide.f a0_0 a0_1).bind fun t310 => ((hornbeamref04_Digits.f a1).bind fun t313 => ((hornbeamref04_Product.f k t310 t313).bind fun t316 => (if 8 ≤ (t316.length : Int) then ((hornbeamref04_number.f (t316.drop 8)).bind fun t323 => (if 4 ≤ 8 then ((hornbeamref04_number.f ((t316.take 8).drop 4)).bind fun t328 => (if 4 ≤ (t316.length : Int) then ((hornbeamref04_number.f (t316.take 4)).bind fun t333 => (some (t323, t328, t333))) else (none))) else (none))) else (none))))
theorem hornbeamref04_Times.mono : ∀ a0 a1 a2 k, LeO (hornbeamref04_Times.f k a0 a1 a2) (hornbeamref04_Times.f (k + 1) a0 a1 a2) := by
  intro a0 a1 a2 k
  unfold hornbeamref04_Times.f
  repeat' first
      | (with_reducible exact hornbeamref04_Product.mono _ _ _)
      | (with_reducible exact LeO.refl _)
      | (with_reducible exact LeO.none _)
      | (with_reducible refine LeO.ite ?_ ?_)
      | (with_reducible refine LeO.bind ?_ (fun _ => ?_))
      | exact hornbeamref04_Product.mono _ _ _
      | exact LeO.none _
      | refine LeO.ite ?_ ?_
      | refine LeO.bind ?_ (fun _ => ?_)
def hornbeamref04_Times.T2 : Bool × List (List Nat × List Nat) := (true, [([], []), ([0], [0]), ([1], [1]), ([], []), ([3], [3]), ([4, 2], [4]), ([], []), ([6], [6]), ([7, 5], [7]), ([2, 5, 8], [2, 5, 8]), ([9, 8, 0, 1, 2, 3, 4, 5, 6, 7, 8, 9], [9])])
def hornbeamref04_Times.B2 : List Nat := [0, 1, 3, 0, 8, 31, 0, 64, 255, 511, 1023]
theorem hornbeamref04_Times.tab2 : rtab .any (opsOf Try.f79 2) = hornbeamref04_Times.T2 := by kernel_rfl
theorem hornbeamref04_Times.bits2 : waitsOk hornbeamref04_Times.T2.2 hornbeamref04_Times.B2 = true := by kernel_rfl
set_option maxHeartbeats 8000000 in
set_option maxRecDepth 100000 in
theorem hornbeamref04_Times.calls (k : Nat) (a0_0 : Int) (a0_1 : Int) (a1 : Int) (r1 : Int) (r2 : Int) (r3 : Int) (w : World) (h : hornbeamref04_Times.f k a0_0 a0_1 a1 = some (r1, r2, r3)) :
  Calls Try.prog 79 #[.agg #[.int .u64 a0_0, .int .u64 a0_1], .int .u64 a1] w fun e w' => e = .returned (.agg #[.int .u64 r1, .int .u64 r2, .int .u64 r3]) ∧ Below w.heap.size w w' := by
 have hu34 := Try.underlying34
 have hu107 := Try.underlying107
 have HB := Aside0.mk (Below.refl w.heap.size w)
 have H : ((hornbeamref04_OfWide.f a0_0 a0_1).bind fun t310 => ((hornbeamref04_Digits.f a1).bind fun t313 => ((hornbeamref04_Product.f k t310 t313).bind fun t316 => (if 8 ≤ (t316.length : Int) then ((hornbeamref04_number.f (t316.drop 8)).bind fun t323 => (if 4 ≤ 8 then ((hornbeamref04_number.f ((t316.take 8).drop 4)).bind fun t328 => (if 4 ≤ (t316.length : Int) then ((hornbeamref04_number.f (t316.take 4)).bind fun t333 => (some (t323, t328, t333))) else (none))) else (none))) else (none))))) = some (r1, r2, r3) := h
 clear h
 replace H := Option.bind_eq_some_iff.mp H
 obtain ⟨t310, A30, H⟩ := H
 replace H : ((hornbeamref04_Digits.f a1).bind fun t313 => ((hornbeamref04_Product.f k t310 t313).bind fun t316 => (if 8 ≤ (t316.length : Int) then ((hornbeamref04_number.f (t316.drop 8)).bind fun t323 => (if 4 ≤ 8 then ((hornbeamref04_number.f ((t316.take 8).drop 4)).bind fun t328 => (if 4 ≤ (t316.length : Int) then ((hornbeamref04_number.f (t316.take 4)).bind fun t333 => (some (t323, t328, t333))) else (none))) else (none))) else (none)))) = some (r1, r2, r3) := H
 have A3 := Aside0.mk A30
 clear A30
 replace H := Option.bind_eq_some_iff.mp H
 obtain ⟨t313, A40, H⟩ := H
 replace H : ((hornbeamref04_Product.f k t310 t313).bind fun t316 => (if 8 ≤ (t316.length : Int) then ((hornbeamref04_number.f (t316.drop 8)).bind fun t323 => (if 4 ≤ 8 then ((hornbeamref04_number.f ((t316.take 8).drop 4)).bind fun t328 => (if 4 ≤ (t316.length : Int) then ((hornbeamref04_number.f (t316.take 4)).bind fun t333 => (some (t323, t328, t333))) else (none))) else (none))) else (none))) = some (r1, r2, r3) := H
 have A4 := Aside0.mk A40
 clear A40
 replace H := Option.bind_eq_some_iff.mp H
 obtain ⟨t316, A50, H⟩ := H
 replace H : (if 8 ≤ (t316.length : Int) then ((hornbeamref04_number.f (t316.drop 8)).bind fun t323 => (if 4 ≤ 8 then ((hornbeamref04_number.f ((t316.take 8).drop 4)).bind fun t328 => (if 4 ≤ (t316.length : Int) then ((hornbeamref04_number.f (t316.take 4)).bind fun t333 => (some (t323, t328, t333))) else (none))) else (none))) else (none)) = some (r1, r2, r3) := H
 have A5 := Aside0.mk A50
 clear A50
 by_cases c6 : 8 ≤ (t316.length : Int)
 ·rw [if_pos c6] at H
  have c6b0 := eq_true c6
  have c6b1 : decide (8 ≤ (t316.length : Int)) = true := decide_eq_true c6
  clear c6
  obtain ⟨y319, hy319⟩ : ∃ y_ : List Int, y_ = (t316.drop 8) := ⟨_, rfl⟩
  replace H : ((hornbeamref04_number.f y319).bind fun t323 => (if 4 ≤ 8 then ((hornbeamref04_number.f ((t316.take 8).drop 4)).bind fun t328 => (if 4 ≤ (t316.length : Int) then ((hornbeamref04_number.f (t316.take 4)).bind fun t333 => (some (t323, t328, t333))) else (none))) else (none))) = some (r1, r2, r3) := by first | (rw [hy319]; with_reducible exact H) | (have H2_ := (Option.bind_some _ _).symm.trans H; rw [hy319]; with_reducible exact H2_) | (have H2_ := (Option.bind_some _ _).symm.trans H; with_reducible exact H2_) | with_reducible exact H | (rw [hy319]; exact H) | exact H
  have Ny319 := Aside0.mk hy319
  clear hy319
  replace H := Option.bind_eq_some_iff.mp H
  obtain ⟨t323, A70, H⟩ := H
  replace H : (if 4 ≤ 8 then ((hornbeamref04_number.f ((t316.take 8).drop 4)).bind fun t328 => (if 4 ≤ (t316.length : Int) then ((hornbeamref04_number.f (t316.take 4)).bind fun t333 => (some (t323, t328, t333))) else (none))) else (none)) = some (r1, r2, r3) := H
  have A7 := Aside0.mk A70
  clear A70
  by_cases c8 : 4 ≤ 8
  ·rw [if_pos c8] at H
   have c8b0 := eq_true c8
   have c8b1 : decide (4 ≤ 8) = true := decide_eq_true c8
   clear c8
   have c9b0 := eq_true (of_decide_eq_true (by first | (with_reducible assumption) | assumption) : 8 ≤ (t316.length : Int))
   obtain ⟨y324, hy324⟩ : ∃ y_ : List Int, y_ = ((t316.take 8).drop 4) := ⟨_, rfl⟩
   replace H : ((hornbeamref04_number.f y324).bind fun t328 => (if 4 ≤ (t316.length : Int) then ((hornbeamref04_number.f (t316.take 4)).bind fun t333 => (some (t323, t328, t333))) else (none))) = some (r1, r2, r3) := by first | (rw [hy324]; with_reducible exact H) | (have H2_ := (Option.bind_some _ _).symm.trans H; rw [hy324]; with_reducible exact H2_) | (have H2_ := (Option.bind_some _ _).symm.trans H; with_reducible exact H2_) | with_reducible exact H | (rw [hy324]; exact H) | exact H
   have Ny324 := Aside0.mk hy324
   clear hy324
   replace H := Option.bind_eq_some_iff.mp H
   obtain ⟨t328, A100, H⟩ := H
   replace H : (if 4 ≤ (t316.length : Int) then ((hornbeamref04_number.f (t316.take 4)).bind fun t333 => (some (t323, t328, t333))) else (none)) = some (r1, r2, r3) := H
   have A10 := Aside0.mk A100
   clear A100
   by_cases c11 : 4 ≤ (t316.length : Int)
   ·rw [if_pos c11] at H
    have c11b0 := eq_true c11
    have c11b1 : decide (4 ≤ (t316.length : Int)) = true := decide_eq_true c11
    clear c11
    obtain ⟨y329, hy329⟩ : ∃ y_ : List Int, y_ = (t316.take 4) := ⟨_, rfl⟩
    replace H : ((hornbeamref04_number.f y329).bind fun t333 => (some (t323, t328, t333))) = some (r1, r2, r3) := by first | (rw [hy329]; with_reducible exact H) | (have H2_ := (Option.bind_some _ _).symm.trans H; rw [hy329]; with_reducible exact H2_) | (have H2_ := (Option.bind_some _ _).symm.trans H; with_reducible exact H2_) | with_reducible exact H | (rw [hy329]; exact H) | exact H
    have Ny329 := Aside0.mk hy329
    clear hy329
    replace H := Option.bind_eq_some_iff.mp H
    obtain ⟨t333, A120, H⟩ := H
    replace H : (some (t323, t328, t333)) = some (r1, r2, r3) := H
    have A12 := Aside0.mk A120
    clear A120
    simp only [Option.some.injEq, Prod.mk.injEq] at H
    obtain ⟨rfl, rfl, rfl⟩ := H
    go_enter Try.func79, Try.ntmps79
    try go_wp2_with (first | ((with_reducible refine gate_dst (N := 2) rfl ?_); refine box_event ?hg (N := 2) ?hd (cs := #[.int .u64 a0_0, .int .u64 a0_1]) (t := 34) ?hr ?_; (case hd => rfl); (case hg => rfl); (case hr => first | (go_simp; done) | (go_simp; rfl)); intro gb308 hg w13 hbox hb; have n0_ := Aside0.mk (lP (by repeat (first | (with_reducible first | exact HB.out | apply lA | apply lN | apply lD) | exact HB.out)) hb); have n1_ := Aside0.mk (hbox); have n2_ := Aside0.mk ((by rw [hg]; exact (lZ (by repeat (first | (with_reducible first | exact HB.out | apply lA | apply lN | apply lD) | exact HB.out))) : w.heap.size ≤ gb308)); have n3_ := Aside0.mk ((by rw [hg]; exact (lZ (by repeat (first | (with_reducible first | exact HB.out | apply lA | apply lN | apply lD) | exact HB.out))) : w.heap.size ≤ gb308)); clear HB; have HB := n0_; have BK308 := n1_; have GW308 := n2_; have GE308 := n3_; clear n0_ n1_ n2_ n3_; clear hb hbox hg) | ((with_reducible refine gate_dst (N := 4) rfl ?_); refine box_event ?hg (N := 4) ?hd (cs := #[.int .u64 0, .int .u64 0, .int .u64 0]) (t := 107) ?hr ?_; (case hd => rfl); (case hg => rfl); (case hr => first | (go_simp; done) | (go_simp; rfl)); intro gb309 hg w14 hbox hb; have n0_ := Aside0.mk (bB (g := gb308) (o := .cells #[.int .u64 a0_0, .int .u64 a0_1] 34 (0, 0)) (by (with_reducible repeat (first | refine bN ?_ _ | refine bD ?_ | refine bA ?_ _)); exact BK308.out) hb); have n1_ := Aside0.mk (lP (by repeat (first | (with_reducible first | exact HB.out | apply lA | apply lN | apply lD | refine lS ?_ GE308.out) | exact HB.out)) hb); have n2_ := Aside0.mk (hbox); have n3_ := Aside0.mk ((by rw [hg]; exact (lZ (by repeat (first | (with_reducible first | exact HB.out | apply lA | apply lN | apply lD | refine lS ?_ GE308.out) | exact HB.out))) : w.heap.size ≤ gb309)); have n4_ := Aside0.mk ((by rw [hg]; exact (lZ (by repeat (first | (with_reducible first | exact HB.out | apply lA | apply lN | apply lD | refine lS ?_ GE308.out) | exact HB.out))) : w.heap.size ≤ gb309)); have n5_ := Aside0.mk ((by rw [hg]; exact Nat.ne_of_lt (bL (g := gb308) (o := .cells #[.int .u64 a0_0, .int .u64 a0_1] 34 (0, 0)) (by (with_reducible repeat (first | refine bN ?_ _ | refine bD ?_ | refine bA ?_ _)); exact BK308.out)) : gb308 ≠ gb309)); have n6_ := Aside0.mk ((by rw [hg]; exact Nat.ne_of_gt (bL (g := gb308) (o := .cells #[.int .u64 a0_0, .int .u64 a0_1] 34 (0, 0)) (by (with_reducible repeat (first | refine bN ?_ _ | refine bD ?_ | refine bA ?_ _)); exact BK308.out)) : gb309 ≠ gb308)); clear BK308; clear HB; have BK308 := n0_; have HB := n1_; have BK309 := n2_; have GW309 := n3_; have GE309 := n4_; have NB308_309 := n5_; have NB309_308 := n6_; clear n0_ n1_ n2_ n3_ n4_ n5_ n6_; clear hb hbox hg; have hnb15 := NB308_309.out; have hnc15 := NB309_308.out; have hcz16_0 : w14.cell? ⟨gb308, 0, none⟩ = some (.int .u64 a0_0) := (bC BK308.out 0).trans rfl; have hcz16_1 : w14.cell? ⟨gb308, 1, none⟩ = some (.int .u64 a0_1) := (bC BK308.out 1).trans rfl; have hfz16_0 := bF BK308.out 0; have hfz16_1 := bF BK308.out 1) | ((with_reducible refine gate_callee (f := 50) rfl ?_); refine goesL_ (some 7) rfl rfl Try.func50 (by kernel_rfl) rfl #[.agg #[.int .u64 a0_0, .int .u64 a0_1]] rfl (by (try simp only [List.map_toArray, List.map_cons, List.map_nil]); first | done | rfl | (simp only [List.length_drop, List.length_take]; rfl)) ?_; (with_reducible refine (hornbeamref04_OfWide.calls a0_0 a0_1 t310 _ A3.out).mono ?_); rintro e w17 ⟨v311, rfl, ho0, hb⟩; refine ⟨_, rfl, ?_⟩; have n0_ := Aside0.mk (Kd.R_lower ho0 (lZ (by repeat (first | (with_reducible first | exact HB.out | apply lA | apply lN | apply lD | refine lS ?_ GE308.out | refine lS ?_ GE309.out) | exact HB.out)))); have n1_ := Aside0.mk (bB (g := gb308) (o := .cells #[.int .u64 a0_0, .int .u64 a0_1] 34 (0, 0)) (by (with_reducible repeat (first | refine bN ?_ _ | refine bD ?_ | refine bA ?_ _)); exact BK308.out) hb); have n2_ := Aside0.mk (bB (g := gb309) (o := .cells #[.int .u64 0, .int .u64 0, .int .u64 0] 107 (0, 0)) (by (with_reducible repeat (first | refine bN ?_ _ | refine bD ?_ | refine bA ?_ _)); exact BK309.out) hb); have n3_ := Aside0.mk (lP (by repeat (first | (with_reducible first | exact HB.out | apply lA | apply lN | apply lD | refine lS ?_ GE308.out | refine lS ?_ GE309.out) | exact HB.out)) hb); clear BK308; clear BK309; clear HB; have HO312 := n0_; have BK308 := n1_; have BK309 := n2_; have HB := n3_; clear n0_ n1_ n2_ n3_; (try clear hb); (try clear hb2); (try clear hk); (try clear hi); (try clear ho0)) | ((with_reducible refine gate_callee (f := 51) rfl ?_); refine goesL_ (some 9) rfl rfl Try.func51 (by kernel_rfl) rfl #[.int .u64 a1] rfl (by (try simp only [List.map_toArray, List.map_cons, List.map_nil]); first | done | rfl | (simp only [List.length_drop, List.length_take]; rfl)) ?_; (with_reducible refine (hornbeamref04_Digits.calls a1 t313 _ A4.out).mono ?_); rintro e w18 ⟨v314, rfl, ho0, hb⟩; refine ⟨_, rfl, ?_⟩; have n0_ := Aside0.mk (Kd.R_elder' (by (with_reducible repeat (first | apply Kd.R_alloc | apply Kd.R_drewN | apply Kd.R_drew)); exact HO312.out) (Kd.R_base ho0) hb); have n1_ := Aside0.mk (Kd.R_lower (Kd.R_new' ho0 (Kd.R_lt (by (with_reducible repeat (first | apply Kd.R_alloc | apply Kd.R_drewN | apply Kd.R_drew)); exact HO312.out))) (lZ (by repeat (first | (with_reducible first | exact HB.out | apply lA | apply lN | apply lD | refine lS ?_ GE308.out | refine lS ?_ GE309.out) | exact HB.out)))); have n2_ := Aside0.mk (bB (g := gb308) (o := .cells #[.int .u64 a0_0, .int .u64 a0_1] 34 (0, 0)) (by (with_reducible repeat (first | refine bN ?_ _ | refine bD ?_ | refine bA ?_ _)); exact BK308.out) hb); have n3_ := Aside0.mk (bB (g := gb309) (o := .cells #[.int .u64 0, .int .u64 0, .int .u64 0] 107 (0, 0)) (by (with_reducible repeat (first | refine bN ?_ _ | refine bD ?_ | refine bA ?_ _)); exact BK309.out) hb); have n4_ := Aside0.mk (lP (by repeat (first | (with_reducible first | exact HB.out | apply lA | apply lN | apply lD | refine lS ?_ GE308.out | refine lS ?_ GE309.out) | exact HB.out)) hb); clear HO312; clear BK308; clear BK309; clear HB; have HO312 := n0_; have HO315 := n1_; have BK308 := n2_; have BK309 := n3_; have HB := n4_; clear n0_ n1_ n2_ n3_ n4_; (try clear hb); (try clear hb2); (try clear hk); (try clear hi); (try clear ho0); obtain ⟨Ao19, co19, eo19⟩ := Kd.R_slice HO312.out; subst eo19; obtain ⟨Ao20, co20, eo20⟩ := Kd.R_slice HO315.out; subst eo20) | ((with_reducible refine gate_callee (f := 49) rfl ?_); refine goesL_ (some 10) rfl rfl Try.func49 (by kernel_rfl) rfl #[.slice Ao19 t310.length co19, .slice Ao20 t313.length co20] rfl (by (try simp only [List.map_toArray, List.map_cons, List.map_nil]); first | done | rfl | (simp only [List.length_drop, List.length_take]; rfl)) ?_; (with_reducible refine (hornbeamref04_Product.calls k _ _ t310 _ _ t313 t316 _ ?side1 ?side2 ?side3 ?side4 A5.out).mono ?_); (case side1 => repeat (first | exact (Kd.R_reads' HO312.out).2.2 | (with_reducible refine Kd.C_alloc ?_ _) | (with_reducible refine Kd.C_drewN ?_ _) | (with_reducible refine Kd.C_drew ?_))); (case side2 => exact (Kd.R_reads' HO312.out).2.1); (case side3 => repeat (first | exact (Kd.R_reads' HO315.out).2.2 | (with_reducible refine Kd.C_alloc ?_ _) | (with_reducible refine Kd.C_drewN ?_ _) | (with_reducible refine Kd.C_drew ?_))); (case side4 => exact (Kd.R_reads' HO315.out).2.1); rintro e w21 ⟨v317, rfl, ho0, hb⟩; refine ⟨_, rfl, ?_⟩; have n0_ := Aside0.mk (Kd.R_elder' (by (with_reducible repeat (first | apply Kd.R_alloc | apply Kd.R_drewN | apply Kd.R_drew)); exact HO312.out) (Kd.R_base ho0) hb); have n1_ := Aside0.mk (Kd.R_elder' (by (with_reducible repeat (first | apply Kd.R_alloc | apply Kd.R_drewN | apply Kd.R_drew)); exact HO315.out) (Kd.R_base ho0) hb); have n2_ := Aside0.mk (Kd.R_lower (Kd.R_new' (Kd.R_new' ho0 (Kd.R_lt (by (with_reducible repeat (first | apply Kd.R_alloc | apply Kd.R_drewN | apply Kd.R_drew)); exact HO312.out))) (Kd.R_lt (by (with_reducible repeat (first | apply Kd.R_alloc | apply Kd.R_drewN | apply Kd.R_drew)); exact HO315.out))) (lZ (by repeat (first | (with_reducible first | exact HB.out | apply lA | apply lN | apply lD | refine lS ?_ GE308.out | refine lS ?_ GE309.out) | exact HB.out)))); have n3_ := Aside0.mk (bB (g := gb308) (o := .cells #[.int .u64 a0_0, .int .u64 a0_1] 34 (0, 0)) (by (with_reducible repeat (first | refine bN ?_ _ | refine bD ?_ | refine bA ?_ _)); exact BK308.out) hb); have n4_ := Aside0.mk (bB (g := gb309) (o := .cells #[.int .u64 0, .int .u64 0, .int .u64 0] 107 (0, 0)) (by (with_reducible repeat (first | refine bN ?_ _ | refine bD ?_ | refine bA ?_ _)); exact BK309.out) hb); have n5_ := Aside0.mk (lP (by repeat (first | (with_reducible first | exact HB.out | apply lA | apply lN | apply lD | refine lS ?_ GE308.out | refine lS ?_ GE309.out) | exact HB.out)) hb); clear HO312; clear HO315; clear BK308; clear BK309; clear HB; have HO312 := n0_; have HO315 := n1_; have HO318 := n2_; have BK308 := n3_; have BK309 := n4_; have HB := n5_; clear n0_ n1_ n2_ n3_ n4_ n5_; (try clear hb); (try clear hb2); (try clear hk); (try clear hi); (try clear ho0)))
    have n0_ := Aside0.mk (Kd.R_drew HO312.out)
    have n1_ := Aside0.mk (Kd.R_drew HO315.out)
    have n2_ := Aside0.mk (Kd.R_drew HO318.out)
    have n3_ := Aside0.mk (bD BK308.out)
    have n4_ := Aside0.mk (bD BK309.out)
    have n5_ := Aside0.mk (lD HB.out)
    clear HO312 HO315 HO318 BK308 BK309 HB
    have HO312 := n0_; have HO315 := n1_; have HO318 := n2_; have BK308 := n3_; have BK309 := n4_; have HB := n5_
    clear n0_ n1_ n2_ n3_ n4_ n5_
    obtain ⟨Ao24, co24, eo24⟩ := Kd.R_slice HO318.out
    (first | subst eo24 | (injection eo24 with f1_ f2_ f3_; have f4_ := f1_.symm; have f5_ := f3_.symm; clear f1_ f2_ f3_; subst f4_; subst f5_))
    have q23 : (8 : Int) ≤ ((t316.length : Int) : Int) := of_decide_eq_true (by first | (with_reducible assumption) | assumption)
    obtain ⟨i023, hi023, _, hsz23, _⟩ := info_parts info32
    have hroom23 : t316.length ≤ co24 := (Kd.R_reads' HO318.out).2.1
    have hC23 : Kd.C (Kd.int .u64) _ Ao24 t316.length t316 := (Kd.R_reads' HO318.out).2.2
    have hcut23 := cut_from (P := Try.prog) 77 32 .i64 Try.underlying77 hi023 1 hsz23 Ao24 t316.length co24 8 (by omega) q23
    have hr23 := Kd.C_drop (m := (8 : Int).toNat) (c := co24) hC23 (by omega) hroom23
    obtain ⟨A23, hA23⟩ : ∃ A1, A1 = (if co24 = (8 : Int).toNat then Ao24 else (Ao24 : Option Addr).map (·.add ((8 : Int).toNat * 1))) := ⟨_, rfl⟩
    obtain ⟨c23, hc23⟩ : ∃ c1, c1 = co24 - (8 : Int).toNat := ⟨_, rfl⟩
    have hy23 : y319.length = t316.length - (8 : Int).toNat := (by rw [Ny319.out, List.length_drop] <;> omega)
    rw [show (t316).drop (8 : Int).toNat = y319 from Ny319.out.symm] at hr23
    replace hr23 : Kd.C (Kd.int .u64) _ A23 y319.length y319 := (by rw [hA23]; exact hr23)
    rw [← hy23, ← hA23, ← hc23] at hcut23
    have HR322 := Aside0.mk hr23
    have HC322 := Aside0.mk (show y319.length ≤ c23 from by rw [hy23, hc23]; exact Nat.sub_le_sub_right hroom23 _)
    clear hr23 hC23 hroom23 hi023 hsz23 hc23
    have KY23 := Aside0.mk hy23
    have KA23 := Aside0.mk hA23
    clear hy23 hA23
    have KL23 := Aside0.mk (show 8 ≤ t316.length from by omega)
    replace q23 := eq_true q23
    have q25 : (8 : Int) ≤ ((t316.length : Int) : Int) := of_decide_eq_true (by first | (with_reducible assumption) | assumption)
    obtain ⟨i025, hi025, _, hsz25, _⟩ := info_parts info32
    have hroom25 : t316.length ≤ co24 := (Kd.R_reads' HO318.out).2.1
    have hC25 : Kd.C (Kd.int .u64) _ Ao24 t316.length t316 := (Kd.R_reads' HO318.out).2.2
    have ql25 : (4 : Int) ≤ (8 : Int) := (by omega)
    have hcut25 := cut_mid (P := Try.prog) 77 32 .i64 .i64 Try.underlying77 hi025 1 hsz25 Ao24 t316.length co24 4 8 (by omega) ql25 q25 hroom25
    have hr25 := Kd.C_mid (lo := (4 : Int).toNat) (hi := (8 : Int).toNat) (c := co24) hC25 (by omega) (by omega) hroom25
    obtain ⟨A25, hA25⟩ : ∃ A1, A1 = (if co24 = (4 : Int).toNat then Ao24 else (Ao24 : Option Addr).map (·.add ((4 : Int).toNat * 1))) := ⟨_, rfl⟩
    obtain ⟨c25, hc25⟩ : ∃ c1, c1 = co24 - (4 : Int).toNat := ⟨_, rfl⟩
    have hy25 : y324.length = (8 : Int).toNat - (4 : Int).toNat := (by rw [Ny324.out, List.length_drop, List.length_take] <;> omega)
    rw [show ((t316).take (8 : Int).toNat).drop (4 : Int).toNat = y324 from Ny324.out.symm] at hr25
    replace hr25 : Kd.C (Kd.int .u64) _ A25 y324.length y324 := (by rw [hA25]; exact hr25)
    rw [← hy25, ← hA25, ← hc25] at hcut25
    have HR327 := Aside0.mk hr25
    have HC327 := Aside0.mk (show y324.length ≤ c25 from by rw [hy25, hc25]; exact Nat.sub_le_sub_right (Nat.le_trans (by omega) hroom25) _)
    clear hr25 hC25 hroom25 hi025 hsz25 hc25
    have KY25 := Aside0.mk hy25
    have KA25 := Aside0.mk hA25
    clear hy25 hA25
    have KL25 := Aside0.mk (show 8 ≤ t316.length from by omega)
    have KM25 := Aside0.mk (show 4 ≤ 8 from by omega)
    replace q25 := eq_true q25
    have q26 : (4 : Int) ≤ ((t316.length : Int) : Int) := of_decide_eq_true (by first | (with_reducible assumption) | assumption)
    obtain ⟨i026, hi026, _, hsz26, _⟩ := info_parts info32
    have hroom26 : t316.length ≤ co24 := (Kd.R_reads' HO318.out).2.1
    have hC26 : Kd.C (Kd.int .u64) _ Ao24 t316.length t316 := (Kd.R_reads' HO318.out).2.2
    have hcut26 := cut_to (P := Try.prog) 77 32 .i64 Try.underlying77 hi026 Ao24 t316.length co24 4 (by omega) q26 hroom26
    have hr26 := Kd.C_take (m := 4) hC26 (by omega)
    have hy26 : y329.length = (4 : Int).toNat := (by rw [Ny329.out, List.length_take]; omega)
    rw [← Ny329.out] at hr26
    rw [← hy26] at hcut26
    have HR332 := Aside0.mk hr26
    have HC332 := Aside0.mk (show y329.length ≤ co24 from by omega)
    clear hr26 hC26 hroom26 hi026 hsz26
    have KY26 := Aside0.mk hy26
    clear hy26
    have KL26 := Aside0.mk (show 4 ≤ t316.length from by omega)
    replace q26 := eq_true q26
    refine start_ (n := 11) (S := fun w' => True) (ds := []) #[false, false, false, false, false, false, false, false, false, false, false] (by kernel_rfl) rfl rfl trivial (fun hHeld => ?_); refine with_tabW hornbeamref04_Times.tab2 hornbeamref04_Times.bits2 (fun HT_ HW_ => ?_)
    generalize w21.drew = w22 at HO312 HO315 HO318 BK308 BK309 HB HR322 HR327 HR332 hHeld ⊢
    refine pure_ (i := 0) (N := some 11) (v := ?_) (a' := ?_) #[true, false, false, false, false, false, false, false, false, false, false] rfl rfl (any_of HT_.out (by kernel_rfl)) (fun _ _ _ h => h) (Or.inl ⟨by rfl, ?_⟩) ?_ ?_
    rotate_left
    ·intro w'
     go_simp
     with_reducible rfl
    rotate_left
    ·simp only [Act.put, List.setIfInBounds_toArray, List.set_cons_zero, List.set_cons_succ, i64_w, i32_w]
     rfl
    refine pure_ (i := 1) (N := some 12) (v := ?_) (a' := ?_) #[true, true, false, false, false, false, false, false, false, false, false] rfl rfl (any_of HT_.out (by kernel_rfl)) (fun _ _ _ h => h) (Or.inl ⟨by rfl, ?_⟩) ?_ ?_
    rotate_left
    ·intro w'
     go_simp
     with_reducible rfl
    rotate_left
    ·simp only [Act.put, List.setIfInBounds_toArray, List.set_cons_zero, List.set_cons_succ, i64_w, i32_w]
     rfl
    refine pure_ (i := 3) (N := some 14) (v := ?_) (a' := ?_) #[true, true, false, true, false, false, false, false, false, false, false] rfl rfl (any_of HT_.out (by kernel_rfl)) (fun _ _ _ h => h) (Or.inl ⟨by rfl, ?_⟩) ?_ ?_
    rotate_left
    ·intro w'
     go_simp
     with_reducible rfl
    rotate_left
    ·simp only [Act.put, List.setIfInBounds_toArray, List.set_cons_zero, List.set_cons_succ, i64_w, i32_w]
     rfl
    refine pure_ (i := 4) (N := some 15) (v := ?_) (a' := ?_) #[true, true, false, true, true, false, false, false, false, false, false] rfl rfl (any_of HT_.out (by kernel_rfl)) (fun _ _ _ h => h) (Or.inl ⟨by rfl, ?_⟩) ?_ ?_
    rotate_left
    ·intro w'
     go_simp
     with_reducible rfl
    rotate_left
    ·simp only [Act.put, List.setIfInBounds_toArray, List.set_cons_zero, List.set_cons_succ, i64_w, i32_w]
     rfl
    refine pure_ (i := 6) (N := some 17) (v := ?_) (a' := ?_) #[true, true, false, true, true, false, true, false, false, false, false] rfl rfl (any_of HT_.out (by kernel_rfl)) (fun _ _ _ h => h) (Or.inl ⟨by rfl, ?_⟩) ?_ ?_
    rotate_left
    ·intro w'
     go_simp
     with_reducible rfl
    rotate_left
    ·simp only [Act.put, List.setIfInBounds_toArray, List.set_cons_zero, List.set_cons_succ, i64_w, i32_w]
     rfl
    refine pure_ (i := 7) (N := some 18) (v := ?_) (a' := ?_) #[true, true, false, true, true, false, true, true, false, false, false] rfl rfl (any_of HT_.out (by kernel_rfl)) (fun _ _ _ h => h) (Or.inl ⟨by rfl, ?_⟩) ?_ ?_
    rotate_left
    ·intro w'
     go_simp
     with_reducible rfl
    rotate_left
    ·simp only [Act.put, List.setIfInBounds_toArray, List.set_cons_zero, List.set_cons_succ, i64_w, i32_w]
     rfl
    refine one_ (i := 2) (N := some 13) #[true, true, true, true, true, false, true, true, false, false, false] rfl rfl (one_of HT_.out (by kernel_rfl)) (by decide) (fun K hK => ?_)
    refine goes_ Try.func77 (by kernel_rfl) rfl #[.slice A23 y319.length c23] (by rfl) rfl rfl (by (try simp only [List.map_toArray, List.map_cons, List.map_nil]); first | done | rfl | (simp only [List.length_drop, List.length_take]; rfl)) ?_
    with_reducible refine (hornbeamref04_number.calls _ _ y319 t323 _ ?side1 ?side2 A7.out).mono ?_
    (case side1 => repeat (first | exact (by repeat (first | (with_reducible exact HR322.out) | (with_reducible refine Kd.C_alloc ?_ _) | (with_reducible refine Kd.C_drewN ?_ _) | (with_reducible refine Kd.C_drew ?_) | exact HR322.out)) | (with_reducible refine Kd.C_alloc ?_ _) | (with_reducible refine Kd.C_drewN ?_ _) | (with_reducible refine Kd.C_drew ?_)))
    (case side2 => exact HC322.out)
    rintro e w' ⟨rfl, ⟨nd, rfl⟩⟩
    refine ⟨_, rfl, ?_⟩
    refine hK.out _ _ trivial (fun hHeld => ?_)
    clear hK K
    refine norm_ (a' := ?_) ?_ ?_
    rotate_left
    ·show Act.put _ (some 13) _ = _
     simp only [Act.put, List.setIfInBounds_toArray, List.set_cons_zero, List.set_cons_succ, i64_w, i32_w]
     rfl
    refine one_ (i := 5) (N := some 16) #[true, true, true, true, true, true, true, true, false, false, false] rfl rfl (one_of HT_.out (by kernel_rfl)) (by decide) (fun K hK => ?_)
    refine goes_ Try.func77 (by kernel_rfl) rfl #[.slice A25 y324.length c25] (by rfl) rfl rfl (by (try simp only [List.map_toArray, List.map_cons, List.map_nil]); first | done | rfl | (simp only [List.length_drop, List.length_take]; rfl)) ?_
    with_reducible refine (hornbeamref04_number.calls _ _ y324 t328 _ ?side1 ?side2 A10.out).mono ?_
    (case side1 => repeat (first | exact (by repeat (first | (with_reducible exact HR327.out) | (with_reducible refine Kd.C_alloc ?_ _) | (with_reducible refine Kd.C_drewN ?_ _) | (with_reducible refine Kd.C_drew ?_) | exact HR327.out)) | (with_reducible refine Kd.C_alloc ?_ _) | (with_reducible refine Kd.C_drewN ?_ _) | (with_reducible refine Kd.C_drew ?_)))
    (case side2 => exact HC327.out)
    rintro e w' ⟨rfl, ⟨nd, rfl⟩⟩
    refine ⟨_, rfl, ?_⟩
    refine hK.out _ _ trivial (fun hHeld => ?_)
    clear hK K
    refine norm_ (a' := ?_) ?_ ?_
    rotate_left
    ·show Act.put _ (some 16) _ = _
     simp only [Act.put, List.setIfInBounds_toArray, List.set_cons_zero, List.set_cons_succ, i64_w, i32_w]
     rfl
    refine one_ (i := 8) (N := some 19) #[true, true, true, true, true, true, true, true, true, false, false] rfl rfl (one_of HT_.out (by kernel_rfl)) (by decide) (fun K hK => ?_)
    refine goes_ Try.func77 (by kernel_rfl) rfl #[.slice Ao24 y329.length co24] (by rfl) rfl rfl (by (try simp only [List.map_toArray, List.map_cons, List.map_nil]); first | done | rfl | (simp only [List.length_drop, List.length_take]; rfl)) ?_
    with_reducible refine (hornbeamref04_number.calls _ _ y329 t333 _ ?side1 ?side2 A12.out).mono ?_
    (case side1 => repeat (first | exact (by repeat (first | (with_reducible exact HR332.out) | (with_reducible refine Kd.C_alloc ?_ _) | (with_reducible refine Kd.C_drewN ?_ _) | (with_reducible refine Kd.C_drew ?_) | exact HR332.out)) | (with_reducible refine Kd.C_alloc ?_ _) | (with_reducible refine Kd.C_drewN ?_ _) | (with_reducible refine Kd.C_drew ?_)))
    (case side2 => exact HC332.out)
    rintro e w' ⟨rfl, ⟨nd, rfl⟩⟩
    refine ⟨_, rfl, ?_⟩
    refine hK.out _ _ trivial (fun hHeld => ?_)
    clear hK K
    refine norm_ (a' := ?_) ?_ ?_
    rotate_left
    ·show Act.put _ (some 19) _ = _
     simp only [Act.put, List.setIfInBounds_toArray, List.set_cons_zero, List.set_cons_succ, i64_w, i32_w]
     rfl
    refine pure_ (i := 9) (N := some 20) (v := ?_) (a' := ?_) #[true, true, true, true, true, true, true, true, true, true, false] rfl rfl (any_of HT_.out (by kernel_rfl)) (fun _ _ _ h => h) (Or.inl ⟨by rfl, ?_⟩) ?_ ?_
    rotate_left
    ·intro w'
     go_simp
     with_reducible rfl
    rotate_left
    ·simp only [Act.put, List.setIfInBounds_toArray, List.set_cons_zero, List.set_cons_succ, i64_w, i32_w]
     rfl
    refine one_ (i := 10) (N := none) #[true, true, true, true, true, true, true, true, true, true, true] rfl rfl (one_of HT_.out (by kernel_rfl)) (by decide) (fun K hK => ?_)
    have hs27 : w22.cell? ⟨gb309, 0, none⟩ = some (.int .u64 0) := (bC BK309.out 0).trans rfl
    have hfs27 := bF BK309.out 0
    have hns27_0 := NB308_309.out
    have hms27_0 := NB309_308.out
    have hs28 : w22.cell? ⟨gb309, 1, none⟩ = some (.int .u64 0) := (bC BK309.out 1).trans rfl
    have hfs28 := bF BK309.out 1
    have hns28_0 := NB308_309.out
    have hms28_0 := NB309_308.out
    have hs29 : w22.cell? ⟨gb309, 2, none⟩ = some (.int .u64 0) := (bC BK309.out 2).trans rfl
    have hfs29 := bF BK309.out 2
    have hns29_0 := NB308_309.out
    have hms29_0 := NB309_308.out
    refine skip_ (w1 := ?_) (by rfl) rfl ?_ ?_
    rotate_left
    ·go_simp
     rfl
    refine hK.out _ _ trivial (fun hHeld => ?_)
    clear hK K
    refine done_ (done_of HT_.out (by kernel_rfl)) ?_
    try go_wp2
    refine bodyPost_ret (results_cell_row rfl _ _ gb309 107 #[.int .u64 t323, .int .u64 t328, .int .u64 t333] (0, 0) _ rfl (by (with_reducible repeat (first | refine bN ?_ _ | refine bD ?_ | refine bA ?_ _)); refine blk_put (cs := #[.int .u64 t323, .int .u64 t328, .int .u64 0]) ?_ 2 _ rfl; (with_reducible repeat (first | refine bN ?_ _ | refine bD ?_ | refine bA ?_ _)); refine blk_put (cs := #[.int .u64 t323, .int .u64 0, .int .u64 0]) ?_ 1 _ rfl; (with_reducible repeat (first | refine bN ?_ _ | refine bD ?_ | refine bA ?_ _)); refine blk_put (cs := #[.int .u64 0, .int .u64 0, .int .u64 0]) ?_ 0 _ rfl; (with_reducible repeat (first | refine bN ?_ _ | refine bD ?_ | refine bA ?_ _)); exact BK309.out) Try.underlying107 rfl (by kernel_rfl)) rfl ?_
    exact ⟨by first | rfl | (simp [errW_none, errW_some] <;> rfl) | (simp [*, errW_none, errW_some] <;> rfl), by repeat (first | (with_reducible first | exact HB.out | apply lA | apply lN | apply lD | refine lS ?_ GE308.out | refine lS ?_ GE309.out) | exact HB.out)⟩
   ·rw [if_neg c11] at H
    exact absurd H (by simp)
  ·rw [if_neg c8] at H
   exact absurd H (by simp)
 ·rw [if_neg c6] at H
  exact absurd H (by simp)

/-! ### hornbeamref15_times: function 64 -/
def hornbeamref15_times.f (k : Nat) (a0_0 : Int) (a0_1 : Int) (a1 : Int) : Option (Int × Int) := (hornbeamref04_Times.f k a0_0 a0_1 (IntKind.u64.wrap (a1))).bind fun bt336 => (some (bt336.2.1, bt336.2.2))
theorem hornbeamref15_times.mono : ∀ a0 a1 a2 k, LeO (hornbeamref15_times.f k a0 a1 a2) (hornbeamref15_times.f (k + 1) a0 a1 a2) := by
  intro a0 a1 a2 k
  unfold hornbeamref15_times.f
  repeat' first
      | (with_reducible exact hornbeamref04_Times.mono _ _ _ _)
      | (with_reducible exact LeO.refl _)
      | (with_reducible exact LeO.none _)
      | (with_reducible refine LeO.ite ?_ ?_)
      | (with_reducible refine LeO.bind ?_ (fun _ => ?_))
      | exact hornbeamref04_Times.mono _ _ _ _
      | exact LeO.none _
      | refine LeO.ite ?_ ?_
      | refine LeO.bind ?_ (fun _ => ?_)
set_option maxHeartbeats 8000000 in
set_option maxRecDepth 100000 in
theorem hornbeamref15_times.calls (k : Nat) (a0_0 : Int) (a0_1 : Int) (a1 : Int) (r1 : Int) (r2 : Int) (w : World) (h : hornbeamref15_times.f k a0_0 a0_1 a1 = some (r1, r2)) :
  Calls Try.prog 64 #[.agg #[.int .u64 a0_0, .int .u64 a0_1], .int .i64 a1] w fun e w' => e = .returned (.agg #[.int .u64 r1, .int .u64 r2]) ∧ Below w.heap.size w w' := by
 have hu34 := Try.underlying34
 have hu107 := Try.underlying107
 have HB := Aside0.mk (Below.refl w.heap.size w)
 have H : ((hornbeamref04_Times.f k a0_0 a0_1 (IntKind.u64.wrap (a1))).bind fun bt336 => (some (bt336.2.1, bt336.2.2))) = some (r1, r2) := h
 clear h
 replace H := Option.bind_eq_some_iff.mp H
 obtain ⟨⟨t336, t337, t338⟩, A30, H⟩ := H
 replace H : (some (t337, t338)) = some (r1, r2) := H
 have A3 := Aside0.mk A30
 clear A30
 simp only [Option.some.injEq, Prod.mk.injEq] at H
 obtain ⟨rfl, rfl⟩ := H
 go_enter Try.func64, Try.ntmps64
 go_wp2_with (first | ((with_reducible refine gate_dst (N := 2) rfl ?_); refine box_event ?hg (N := 2) ?hd (cs := #[.int .u64 a0_0, .int .u64 a0_1]) (t := 34) ?hr ?_; (case hd => rfl); (case hg => rfl); (case hr => first | (go_simp; done) | (go_simp; rfl)); intro gb334 hg w4 hbox hb; have n0_ := Aside0.mk (lP (by repeat (first | (with_reducible first | exact HB.out | apply lA | apply lN | apply lD) | exact HB.out)) hb); have n1_ := Aside0.mk (hbox); have n2_ := Aside0.mk ((by rw [hg]; exact (lZ (by repeat (first | (with_reducible first | exact HB.out | apply lA | apply lN | apply lD) | exact HB.out))) : w.heap.size ≤ gb334)); have n3_ := Aside0.mk ((by rw [hg]; exact (lZ (by repeat (first | (with_reducible first | exact HB.out | apply lA | apply lN | apply lD) | exact HB.out))) : w.heap.size ≤ gb334)); clear HB; have HB := n0_; have BK334 := n1_; have GW334 := n2_; have GE334 := n3_; clear n0_ n1_ n2_ n3_; clear hb hbox hg) | ((with_reducible refine gate_dst (N := 4) rfl ?_); refine box_event ?hg (N := 4) ?hd (cs := #[.int .u64 0, .int .u64 0]) (t := 34) ?hr ?_; (case hd => rfl); (case hg => rfl); (case hr => first | (go_simp; done) | (go_simp; rfl)); intro gb335 hg w5 hbox hb; have n0_ := Aside0.mk (bB (g := gb334) (o := .cells #[.int .u64 a0_0, .int .u64 a0_1] 34 (0, 0)) (by (with_reducible repeat (first | refine bN ?_ _ | refine bD ?_ | refine bA ?_ _)); exact BK334.out) hb); have n1_ := Aside0.mk (lP (by repeat (first | (with_reducible first | exact HB.out | apply lA | apply lN | apply lD | refine lS ?_ GE334.out) | exact HB.out)) hb); have n2_ := Aside0.mk (hbox); have n3_ := Aside0.mk ((by rw [hg]; exact (lZ (by repeat (first | (with_reducible first | exact HB.out | apply lA | apply lN | apply lD | refine lS ?_ GE334.out) | exact HB.out))) : w.heap.size ≤ gb335)); have n4_ := Aside0.mk ((by rw [hg]; exact (lZ (by repeat (first | (with_reducible first | exact HB.out | apply lA | apply lN | apply lD | refine lS ?_ GE334.out) | exact HB.out))) : w.heap.size ≤ gb335)); have n5_ := Aside0.mk ((by rw [hg]; exact Nat.ne_of_lt (bL (g := gb334) (o := .cells #[.int .u64 a0_0, .int .u64 a0_1] 34 (0, 0)) (by (with_reducible repeat (first | refine bN ?_ _ | refine bD ?_ | refine bA ?_ _)); exact BK334.out)) : gb334 ≠ gb335)); have n6_ := Aside0.mk ((by rw [hg]; exact Nat.ne_of_gt (bL (g := gb334) (o := .cells #[.int .u64 a0_0, .int .u64 a0_1] 34 (0, 0)) (by (with_reducible repeat (first | refine bN ?_ _ | refine bD ?_ | refine bA ?_ _)); exact BK334.out)) : gb335 ≠ gb334)); clear BK334; clear HB; have BK334 := n0_; have HB := n1_; have BK335 := n2_; have GW335 := n3_; have GE335 := n4_; have NB334_335 := n5_; have NB335_334 := n6_; clear n0_ n1_ n2_ n3_ n4_ n5_ n6_; clear hb hbox hg; have hnb6 := NB334_335.out; have hnc6 := NB335_334.out; have hcz7_0 : w5.cell? ⟨gb334, 0, none⟩ = some (.int .u64 a0_0) := (bC BK334.out 0).trans rfl; have hcz7_1 : w5.cell? ⟨gb334, 1, none⟩ = some (.int .u64 a0_1) := (bC BK334.out 1).trans rfl; have hfz7_0 := bF BK334.out 0; have hfz7_1 := bF BK334.out 1) | ((with_reducible refine gate_callee (f := 79) rfl ?_); refine goesL_ (some 9) rfl rfl Try.func79 (by kernel_rfl) rfl #[.agg #[.int .u64 a0_0, .int .u64 a0_1], .int .u64 (IntKind.u64.wrap (a1))] rfl (by (try simp only [List.map_toArray, List.map_cons, List.map_nil]); first | done | rfl | (simp only [List.length_drop, List.length_take]; rfl)) ?_; (with_reducible refine (hornbeamref04_Times.calls k a0_0 a0_1 (IntKind.u64.wrap (a1)) t336 t337 t338 _ A3.out).mono ?_); rintro e w8 ⟨rfl, hb⟩; refine ⟨_, rfl, ?_⟩; have n0_ := Aside0.mk (bB (g := gb334) (o := .cells #[.int .u64 a0_0, .int .u64 a0_1] 34 (0, 0)) (by (with_reducible repeat (first | refine bN ?_ _ | refine bD ?_ | refine bA ?_ _)); exact BK334.out) hb); have n1_ := Aside0.mk (bB (g := gb335) (o := .cells #[.int .u64 0, .int .u64 0] 34 (0, 0)) (by (with_reducible repeat (first | refine bN ?_ _ | refine bD ?_ | refine bA ?_ _)); exact BK335.out) hb); have n2_ := Aside0.mk (lP (by repeat (first | (with_reducible first | exact HB.out | apply lA | apply lN | apply lD | refine lS ?_ GE334.out | refine lS ?_ GE335.out) | exact HB.out)) hb); clear BK334; clear BK335; clear HB; have BK334 := n0_; have BK335 := n1_; have HB := n2_; clear n0_ n1_ n2_; (try clear hb); (try clear hb2); (try clear hk); (try clear hi)) | ((with_reducible refine gate_dst (N := 5) rfl ?_); refine box_event ?hg (N := 5) ?hd (cs := #[.int .u64 0, .int .u64 0, .int .u64 0]) (t := 107) ?hr ?_; (case hd => rfl); (case hg => rfl); (case hr => first | (go_simp; done) | (go_simp; rfl)); intro gb339 hg w9 hbox hb; have n0_ := Aside0.mk (bB (g := gb334) (o := .cells #[.int .u64 a0_0, .int .u64 a0_1] 34 (0, 0)) (by (with_reducible repeat (first | refine bN ?_ _ | refine bD ?_ | refine bA ?_ _)); exact BK334.out) hb); have n1_ := Aside0.mk (bB (g := gb335) (o := .cells #[.int .u64 0, .int .u64 0] 34 (0, 0)) (by (with_reducible repeat (first | refine bN ?_ _ | refine bD ?_ | refine bA ?_ _)); exact BK335.out) hb); have n2_ := Aside0.mk (lP (by repeat (first | (with_reducible first | exact HB.out | apply lA | apply lN | apply lD | refine lS ?_ GE334.out | refine lS ?_ GE335.out) | exact HB.out)) hb); have n3_ := Aside0.mk (hbox); have n4_ := Aside0.mk ((by rw [hg]; exact (lZ (by repeat (first | (with_reducible first | exact HB.out | apply lA | apply lN | apply lD | refine lS ?_ GE334.out | refine lS ?_ GE335.out) | exact HB.out))) : w.heap.size ≤ gb339)); have n5_ := Aside0.mk ((by rw [hg]; exact (lZ (by repeat (first | (with_reducible first | exact HB.out | apply lA | apply lN | apply lD | refine lS ?_ GE334.out | refine lS ?_ GE335.out) | exact HB.out))) : w.heap.size ≤ gb339)); have n6_ := Aside0.mk ((by rw [hg]; exact Nat.ne_of_lt (bL (g := gb334) (o := .cells #[.int .u64 a0_0, .int .u64 a0_1] 34 (0, 0)) (by (with_reducible repeat (first | refine bN ?_ _ | refine bD ?_ | refine bA ?_ _)); exact BK334.out)) : gb334 ≠ gb339)); have n7_ := Aside0.mk ((by rw [hg]; exact Nat.ne_of_gt (bL (g := gb334) (o := .cells #[.int .u64 a0_0, .int .u64 a0_1] 34 (0, 0)) (by (with_reducible repeat (first | refine bN ?_ _ | refine bD ?_ | refine bA ?_ _)); exact BK334.out)) : gb339 ≠ gb334)); have n8_ := Aside0.mk ((by rw [hg]; exact Nat.ne_of_lt (bL (g := gb335) (o := .cells #[.int .u64 0, .int .u64 0] 34 (0, 0)) (by (with_reducible repeat (first | refine bN ?_ _ | refine bD ?_ | refine bA ?_ _)); exact BK335.out)) : gb335 ≠ gb339)); have n9_ := Aside0.mk ((by rw [hg]; exact Nat.ne_of_gt (bL (g := gb335) (o := .cells #[.int .u64 0, .int .u64 0] 34 (0, 0)) (by (with_reducible repeat (first | refine bN ?_ _ | refine bD ?_ | refine bA ?_ _)); exact BK335.out)) : gb339 ≠ gb335)); clear BK334; clear BK335; clear HB; have BK334 := n0_; have BK335 := n1_; have HB := n2_; have BK339 := n3_; have GW339 := n4_; have GE339 := n5_; have NB334_339 := n6_; have NB339_334 := n7_; have NB335_339 := n8_; have NB339_335 := n9_; clear n0_ n1_ n2_ n3_ n4_ n5_ n6_ n7_ n8_ n9_; clear hb hbox hg; have hnb10 := NB339_334.out; have hnc10 := NB334_339.out; have hnb11 := NB339_335.out; have hnc11 := NB335_339.out; have hcz12_0 : w9.cell? ⟨gb339, 0, none⟩ = some (.int .u64 0) := (bC BK339.out 0).trans rfl; have hcz12_1 : w9.cell? ⟨gb339, 1, none⟩ = some (.int .u64 0) := (bC BK339.out 1).trans rfl; have hcz12_2 : w9.cell? ⟨gb339, 2, none⟩ = some (.int .u64 0) := (bC BK339.out 2).trans rfl; have hfz12_0 := bF BK339.out 0; have hfz12_1 := bF BK339.out 1; have hfz12_2 := bF BK339.out 2; have hcz13_0 : w9.cell? ⟨gb335, 0, none⟩ = some (.int .u64 0) := (bC BK335.out 0).trans rfl; have hcz13_1 : w9.cell? ⟨gb335, 1, none⟩ = some (.int .u64 0) := (bC BK335.out 1).trans rfl; have hfz13_0 := bF BK335.out 0; have hfz13_1 := bF BK335.out 1))
 refine bodyPost_ret (results_cell_row rfl _ _ gb335 34 #[.int .u64 t337, .int .u64 t338] (0, 0) _ rfl (by (with_reducible repeat (first | refine bN ?_ _ | refine bD ?_ | refine bA ?_ _)); refine blk_put (cs := #[.int .u64 t337, .int .u64 0]) ?_ 1 _ rfl; (with_reducible repeat (first | refine bN ?_ _ | refine bD ?_ | refine bA ?_ _)); refine blk_put (cs := #[.int .u64 0, .int .u64 0]) ?_ 0 _ rfl; (with_reducible repeat (first | refine bN ?_ _ | refine bD ?_ | refine bA ?_ _)); refine blk_far ?_ NB335_339.out _; (with_reducible repeat (first | refine bN ?_ _ | refine bD ?_ | refine bA ?_ _)); refine blk_far ?_ NB335_339.out _; (with_reducible repeat (first | refine bN ?_ _ | refine bD ?_ | refine bA ?_ _)); refine blk_far ?_ NB335_339.out _; (with_reducible repeat (first | refine bN ?_ _ | refine bD ?_ | refine bA ?_ _)); exact BK335.out) Try.underlying34 rfl (by kernel_rfl)) rfl ?_
 exact ⟨by first | rfl | (simp [errW_none, errW_some] <;> rfl) | (simp [*, errW_none, errW_some] <;> rfl), by repeat (first | (with_reducible first | exact HB.out | apply lA | apply lN | apply lD | refine lS ?_ GE334.out | refine lS ?_ GE335.out | refine lS ?_ GE339.out) | exact HB.out)⟩

end Go.Proofs.Ytoonddgldmfleaa.QSpreadScores
