-- Written by a program of this session (wip/tools/mkprint.py over the kit's print); Lean checks it.
import Derived.Test.YtoonddgldmfleaaQSchedPlaysx0
import Derived.Test.YtoonddgldmfleaaQSchedPlaysx4
import Derived.Test.YtoonddgldmfleaaQSchedPlaysx9
import Derived.Test.YtoonddgldmfleaaQSchedPlaysx10
namespace Go.Proofs.Ytoonddgldmfleaa.QSchedPlays
open Go.RowKit Go.Proofs.YtoonddgldmfleaaW.PrintWords Go.Proofs.YtoonddgldmfleaaW.PrintLast Go.Proofs.YtoonddgldmfleaaW.PrintMore
attribute [local go_sem] max2_int min2_int max_two min_two max_three min_three max_four min_four   -- for this text's walks alone
set_option linter.unusedVariables false
set_option linter.unusedSimpArgs false

/-! ### hornbeamlaw21_SchedPlays: function 5 -/
def hornbeamlaw21_SchedPlays.j0 : Nat → Int → Int → List Int → Bool → Option (Bool)
 | 0, _, _, _, _ => none
 | k + 1, x0, x1, x2, x23 => if x23 = true then ((hornbeamlaw21_fixed.f k).bind fun t259 => (some t259)) else ((sched_Play.f k x0 x1 x2).bind fun bt260 => ((hornbeamref21_Play.f k x0 x1 x2).bind fun bt275 => ((hornbeamlaw21_fixed.f k).bind fun t290 => (if t290 = true then ((hornbeamlaw21_same.f k bt260.1 bt275.1).bind fun t291 => (if t291 = true then ((hornbeamref21_Same.f k bt260.2.1 bt260.2.2.1 bt260.2.2.2.1 bt260.2.2.2.2.1 bt260.2.2.2.2.2.1 bt260.2.2.2.2.2.2.1 bt275.2.1 bt275.2.2.1 bt275.2.2.2.1 bt275.2.2.2.2.1 bt275.2.2.2.2.2.1 bt275.2.2.2.2.2.2.1).bind fun t292 => (if t292 = true then (some (bt260.2.2.2.2.2.2.2 == bt275.2.2.2.2.2.2.2)) else (some false))) else (some false))) else (some false)))))
def hornbeamlaw21_SchedPlays.f (k : Nat) (a0 : Int) (a1 : Int) (l2 : List Int) : Option (Bool) := if a0 > 100 then (if a0 ≤ 1048576 then (hornbeamlaw21_SchedPlays.j0 k a0 a1 l2 true) else (hornbeamlaw21_SchedPlays.j0 k a0 a1 l2 (decide ((l2.length : Int) > 500)))) else (hornbeamlaw21_SchedPlays.j0 k a0 a1 l2 (decide ((l2.length : Int) > 500)))
theorem hornbeamlaw21_SchedPlays.mono_l : ∀ k, (∀ y0 y1 y2 y3, LeO (hornbeamlaw21_SchedPlays.j0 k y0 y1 y2 y3) (hornbeamlaw21_SchedPlays.j0 (k + 1) y0 y1 y2 y3))
 | 0 => fun _ _ _ _ r h => by simp [hornbeamlaw21_SchedPlays.j0] at h
 | k + 1 => by
  have ih0 := hornbeamlaw21_SchedPlays.mono_l k
  ·intro y0 y1 y2 y3
   unfold hornbeamlaw21_SchedPlays.j0
   repeat' first
   | (with_reducible exact ih0 _ _ _ _)
   | (with_reducible exact hornbeamlaw21_fixed.mono _)
   | (with_reducible exact hornbeamlaw21_same.mono _ _ _)
   | (with_reducible exact hornbeamref21_Play.mono _ _ _ _)
   | (with_reducible exact hornbeamref21_Same.mono _ _ _ _ _ _ _ _ _ _ _ _ _)
   | (with_reducible exact sched_Play.mono _ _ _ _)
   | (with_reducible exact LeO.refl _)
   | (with_reducible exact LeO.none _)
   | (with_reducible refine LeO.ite ?_ ?_)
   | (with_reducible refine LeO.bind ?_ (fun _ => ?_))
   | exact ih0 _ _ _ _
   | exact hornbeamlaw21_fixed.mono _
   | exact hornbeamlaw21_same.mono _ _ _
   | exact hornbeamref21_Play.mono _ _ _ _
   | exact hornbeamref21_Same.mono _ _ _ _ _ _ _ _ _ _ _ _ _
   | exact sched_Play.mono _ _ _ _
   | exact LeO.none _
   | refine LeO.ite ?_ ?_
   | refine LeO.bind ?_ (fun _ => ?_)
theorem hornbeamlaw21_SchedPlays.mono : ∀ a0 a1 a2 k, LeO (hornbeamlaw21_SchedPlays.f k a0 a1 a2) (hornbeamlaw21_SchedPlays.f (k + 1) a0 a1 a2) := by
 intro a0 a1 a2 k
 have ih0 := hornbeamlaw21_SchedPlays.mono_l k
 unfold hornbeamlaw21_SchedPlays.f
 repeat' first
   | (with_reducible exact ih0 _ _ _ _)
   | (with_reducible exact hornbeamlaw21_fixed.mono _)
   | (with_reducible exact hornbeamlaw21_same.mono _ _ _)
   | (with_reducible exact hornbeamref21_Play.mono _ _ _ _)
   | (with_reducible exact hornbeamref21_Same.mono _ _ _ _ _ _ _ _ _ _ _ _ _)
   | (with_reducible exact sched_Play.mono _ _ _ _)
   | (with_reducible exact LeO.refl _)
   | (with_reducible exact LeO.none _)
   | (with_reducible refine LeO.ite ?_ ?_)
   | (with_reducible refine LeO.bind ?_ (fun _ => ?_))
   | exact ih0 _ _ _ _
   | exact hornbeamlaw21_fixed.mono _
   | exact hornbeamlaw21_same.mono _ _ _
   | exact hornbeamref21_Play.mono _ _ _ _
   | exact hornbeamref21_Same.mono _ _ _ _ _ _ _ _ _ _ _ _ _
   | exact sched_Play.mono _ _ _ _
   | exact LeO.none _
   | refine LeO.ite ?_ ?_
   | refine LeO.bind ?_ (fun _ => ?_)
set_option maxHeartbeats 8000000 in
set_option maxRecDepth 100000 in
theorem hornbeamlaw21_SchedPlays.calls (k : Nat) (a0 : Int) (a1 : Int) (A2 : Option Addr) (c2 : Nat) (l2 : List Int) (r : Bool) (w : World) (hr2 : Kd.C (Kd.int .i64) w A2 l2.length l2) (hc2 : l2.length ≤ c2) (h : hornbeamlaw21_SchedPlays.f k a0 a1 l2 = some r) (hr_ : r = true) :
  Calls Try.prog 5 #[.int .i64 a0, .int .i64 a1, .slice A2 l2.length c2] w fun e w' => e = .returned (.bool r) ∧ Below w.heap.size w w' := by
 have hu42 := Try.underlying42
 have HR_ := aaM hr_
 clear hr_
 have HR2 := aaM hr2
 have HC2 := aaM hc2
 clear hr2 hc2
 have HB := aaM (Below.refl w.heap.size w)
 have H : (if a0 > 100 then (if a0 ≤ 1048576 then (hornbeamlaw21_SchedPlays.j0 k a0 a1 l2 true) else (hornbeamlaw21_SchedPlays.j0 k a0 a1 l2 (decide ((l2.length : Int) > 500)))) else (hornbeamlaw21_SchedPlays.j0 k a0 a1 l2 (decide ((l2.length : Int) > 500)))) = some r := h
 clear h
 have HC4 := aaM H
 clear H
 go_enter Try.func5, Try.ntmps5
 go_upto_region 1 with (fail)
 go_cut [23] (fun v23 wc => ∃ (kq : Nat) (x23_3 : Bool), v23 = .bool x23_3 ∧ Aside0 (hornbeamlaw21_SchedPlays.j0 kq a0 a1 l2 x23_3 = some r) ∧ Aside0 (kq ≤ k) ∧ Aside0 (Below w.heap.size w wc))
 case first =>
  have H := HC4.out
  clear HC4
  by_cases c5 : a0 > 100
  ·rw [if_pos c5] at H
   have c5b0 : decide (100 < a0) = true := decide_eq_true c5
   clear c5
   (first | rw [c5b0] | (simp only [i64_w, i32_w]; rw [c5b0]) | skip)
   by_cases c6 : a0 ≤ 1048576
   ·rw [if_pos c6] at H
    have c6b0 : decide (a0 ≤ 1048576) = true := decide_eq_true c6
    clear c6
    have H' := aaM H
    clear H
    go_wp2
    go_meet
    case rel => exact ⟨_, (true), (by first | rfl | (simp; done) | (simp [*]; done)), H', ⟨by first | omega | exact Nat.le_refl _⟩, ⟨by repeat (first | (with_reducible first | exact HB.out | apply lA | apply lN | apply lD) | exact HB.out)⟩⟩
   ·rw [if_neg c6] at H
    have c6b0 : decide (a0 ≤ 1048576) = false := decide_eq_false c6
    clear c6
    have H' := aaM H
    clear H
    go_wp2
    go_meet
    case rel => exact ⟨_, (decide ((l2.length : Int) > 500)), (by first | rfl | (simp; done) | (simp [*]; done)), H', ⟨by first | omega | exact Nat.le_refl _⟩, ⟨by repeat (first | (with_reducible first | exact HB.out | apply lA | apply lN | apply lD) | exact HB.out)⟩⟩
  ·rw [if_neg c5] at H
   have c5b0 : decide (100 < a0) = false := decide_eq_false c5
   clear c5
   (first | rw [c5b0] | (simp only [i64_w, i32_w]; rw [c5b0]) | skip)
   have H' := aaM H
   clear H
   go_wp2
   go_meet
   case rel => exact ⟨_, (decide ((l2.length : Int) > 500)), (by first | rfl | (simp; done) | (simp [*]; done)), H', ⟨by first | omega | exact Nat.le_refl _⟩, ⟨by repeat (first | (with_reducible first | exact HB.out | apply lA | apply lN | apply lD) | exact HB.out)⟩⟩
 case rest =>
  clear HC4
  try clear c2
  try clear p2
  try clear c5
  try clear c5b0
  try clear c6
  try clear c6b0
  obtain ⟨kq, x23_3, rfl, HA, HJ3, HB⟩ := hcut
  cases kq with
  | zero => exact absurd HA.out (by simp [hornbeamlaw21_SchedPlays.j0])
  | succ kj3 =>
   have H := HA.out
   clear HA
   simp only [hornbeamlaw21_SchedPlays.j0] at H
   by_cases c7 : x23_3 = true
   ·subst c7
    have H1 : ((hornbeamlaw21_fixed.f kj3).bind fun t259 => (some t259)) = some r := by rw [if_pos rfl] at H; exact H
    clear H
    have H := H1
    clear H1
    replace H := ooB.mp H
    obtain ⟨t259, A80, H⟩ := H
    replace H : (some t259) = some r := H
    have A8 := aaM A80
    clear A80
    obtain rfl := Option.some.inj H
    go_wp2_with (first | ((with_reducible refine gate_callee (f := 21) rfl ?_); refine goesL_ (some 24) rfl rfl Try.func21 (by kernel_rfl) rfl #[] rfl (by (try simp only [List.map_toArray, List.map_cons, List.map_nil]); first | done | rfl | (simp only [List.length_drop, List.length_take]; rfl)) ?_; (with_reducible refine (hornbeamlaw21_fixed.calls kj3  t259 _ A8.out).mono ?_); rintro e w9 ⟨rfl, hb⟩; refine ⟨_, rfl, ?_⟩; have n0_ := aaM (lP (by repeat (first | (with_reducible first | exact HB.out | apply lA | apply lN | apply lD) | exact HB.out)) hb); clear HB; have HB := n0_; clear n0_; (try clear hb); (try clear hb2); (try clear hk); (try clear hi)))
    all_goals (go_ret; exact ⟨by first | rfl | (simp [errW_none, errW_some] <;> rfl) | (simp [*, errW_none, errW_some] <;> rfl) | (simp_all; done), by repeat (first | (with_reducible first | exact HB.out | apply lA | apply lN | apply lD) | exact HB.out)⟩)
   ·replace c7 := Bool.eq_false_iff.mpr c7
    subst c7
    have H1 : ((sched_Play.f kj3 a0 a1 l2).bind fun bt260 => ((hornbeamref21_Play.f kj3 a0 a1 l2).bind fun bt275 => ((hornbeamlaw21_fixed.f kj3).bind fun t290 => (if t290 = true then ((hornbeamlaw21_same.f kj3 bt260.1 bt275.1).bind fun t291 => (if t291 = true then ((hornbeamref21_Same.f kj3 bt260.2.1 bt260.2.2.1 bt260.2.2.2.1 bt260.2.2.2.2.1 bt260.2.2.2.2.2.1 bt260.2.2.2.2.2.2.1 bt275.2.1 bt275.2.2.1 bt275.2.2.2.1 bt275.2.2.2.2.1 bt275.2.2.2.2.2.1 bt275.2.2.2.2.2.2.1).bind fun t292 => (if t292 = true then (some (bt260.2.2.2.2.2.2.2 == bt275.2.2.2.2.2.2.2)) else (some false))) else (some false))) else (some false))))) = some r := by rw [if_neg (show ¬ (false = true) by decide)] at H; exact H
    clear H
    have H := H1
    clear H1
    replace H := ooB.mp H
    obtain ⟨⟨t260, t263, t264, t265, t266, t269, t272, t273⟩, A100, H⟩ := H
    replace H : ((hornbeamref21_Play.f kj3 a0 a1 l2).bind fun bt275 => ((hornbeamlaw21_fixed.f kj3).bind fun t290 => (if t290 = true then ((hornbeamlaw21_same.f kj3 t260 bt275.1).bind fun t291 => (if t291 = true then ((hornbeamref21_Same.f kj3 t263 t264 t265 t266 t269 t272 bt275.2.1 bt275.2.2.1 bt275.2.2.2.1 bt275.2.2.2.2.1 bt275.2.2.2.2.2.1 bt275.2.2.2.2.2.2.1).bind fun t292 => (if t292 = true then (some (t273 == bt275.2.2.2.2.2.2.2)) else (some false))) else (some false))) else (some false)))) = some r := H
    have A10 := aaM A100
    clear A100
    replace H := ooB.mp H
    obtain ⟨⟨t275, t278, t279, t280, t281, t284, t287, t288⟩, A110, H⟩ := H
    replace H : ((hornbeamlaw21_fixed.f kj3).bind fun t290 => (if t290 = true then ((hornbeamlaw21_same.f kj3 t260 t275).bind fun t291 => (if t291 = true then ((hornbeamref21_Same.f kj3 t263 t264 t265 t266 t269 t272 t278 t279 t280 t281 t284 t287).bind fun t292 => (if t292 = true then (some (t273 == t288)) else (some false))) else (some false))) else (some false))) = some r := H
    have A11 := aaM A110
    clear A110
    replace H := ooB.mp H
    obtain ⟨t290, A120, H⟩ := H
    replace H : (if t290 = true then ((hornbeamlaw21_same.f kj3 t260 t275).bind fun t291 => (if t291 = true then ((hornbeamref21_Same.f kj3 t263 t264 t265 t266 t269 t272 t278 t279 t280 t281 t284 t287).bind fun t292 => (if t292 = true then (some (t273 == t288)) else (some false))) else (some false))) else (some false)) = some r := H
    have A12 := aaM A120
    clear A120
    by_cases c13 : t290 = true
    ·subst c13
     have H1 : ((hornbeamlaw21_same.f kj3 t260 t275).bind fun t291 => (if t291 = true then ((hornbeamref21_Same.f kj3 t263 t264 t265 t266 t269 t272 t278 t279 t280 t281 t284 t287).bind fun t292 => (if t292 = true then (some (t273 == t288)) else (some false))) else (some false))) = some r := by rw [if_pos rfl] at H; exact H
     clear H
     have H := H1
     clear H1
     replace H := ooB.mp H
     obtain ⟨t291, A140, H⟩ := H
     replace H : (if t291 = true then ((hornbeamref21_Same.f kj3 t263 t264 t265 t266 t269 t272 t278 t279 t280 t281 t284 t287).bind fun t292 => (if t292 = true then (some (t273 == t288)) else (some false))) else (some false)) = some r := H
     have A14 := aaM A140
     clear A140
     by_cases c15 : t291 = true
     ·subst c15
      have H1 : ((hornbeamref21_Same.f kj3 t263 t264 t265 t266 t269 t272 t278 t279 t280 t281 t284 t287).bind fun t292 => (if t292 = true then (some (t273 == t288)) else (some false))) = some r := by rw [if_pos rfl] at H; exact H
      clear H
      have H := H1
      clear H1
      replace H := ooB.mp H
      obtain ⟨t292, A160, H⟩ := H
      replace H : (if t292 = true then (some (t273 == t288)) else (some false)) = some r := H
      have A16 := aaM A160
      clear A160
      by_cases c17 : t292 = true
      ·subst c17
       have H1 : (some (t273 == t288)) = some r := by rw [if_pos rfl] at H; exact H
       clear H
       have H := H1
       clear H1
       obtain rfl := Option.some.inj H
       go_wp2_with (first | ((with_reducible refine gate_callee (f := 22) rfl ?_); refine goesL_ (some 29) rfl rfl Try.func22 (by kernel_rfl) rfl #[.int .i64 a0, .int .i64 a1, .slice A2 l2.length c2] rfl (by (try simp only [List.map_toArray, List.map_cons, List.map_nil]); first | done | rfl | (simp only [List.length_drop, List.length_take]; rfl)) ?_; (with_reducible refine (sched_Play.calls kj3 a0 a1 _ _ l2 t260 t263 t264 t265 t266 t269 t272 t273 _ ?side1 ?side2 A10.out).mono ?_); (case side1 => repeat (first | exact (ccB HR2.out HB.out) | (with_reducible refine ccA ?_ _) | (with_reducible refine ccN ?_ _) | (with_reducible refine ccD ?_))); (case side2 => exact HC2.out); rintro e w18 ⟨v261, v267, v270, rfl, ho0, ho1, ho2, hb⟩; refine ⟨_, rfl, ?_⟩; have n0_ := aaM (Kd.R_lower ho0 (lZ (by repeat (first | (with_reducible first | exact HB.out | apply lA | apply lN | apply lD) | exact HB.out)))); have n1_ := aaM (Kd.R_lower ho1 (lZ (by repeat (first | (with_reducible first | exact HB.out | apply lA | apply lN | apply lD) | exact HB.out)))); have n2_ := aaM (Kd.R_lower ho2 (lZ (by repeat (first | (with_reducible first | exact HB.out | apply lA | apply lN | apply lD) | exact HB.out)))); have n3_ := aaM (lP (by repeat (first | (with_reducible first | exact HB.out | apply lA | apply lN | apply lD) | exact HB.out)) hb); clear HB; have HO262 := n0_; have HO268 := n1_; have HO271 := n2_; have HB := n3_; clear n0_ n1_ n2_ n3_; (try clear hb); (try clear hb2); (try clear hk); (try clear hi); (try clear ho0); (try clear ho1); (try clear ho2)) | ((with_reducible refine gate_dst (N := 8) rfl ?_); (try (refine gate_guard (by rfl) ?_; dsimp only)); refine box_event ?hg (N := 8) ?hd (cs := #[.int .i64 0, .int .i64 0, .int .i64 0, .slice none 0 0, .slice none 0 0, .bool false]) (t := 42) ?hr ?_; (case hd => rfl); (case hg => rfl); (case hr => first | (go_simp; done) | (go_simp; rfl)); intro gb274 hg w19 hbox hb; have n0_ := aaM (rrB (by (with_reducible repeat (first | apply rrA | apply rrN | apply rrD)); exact HO262.out) hb); have n1_ := aaM (rrB (by (with_reducible repeat (first | apply rrA | apply rrN | apply rrD)); exact HO268.out) hb); have n2_ := aaM (rrB (by (with_reducible repeat (first | apply rrA | apply rrN | apply rrD)); exact HO271.out) hb); have n3_ := aaM (lP (by repeat (first | (with_reducible first | exact HB.out | apply lA | apply lN | apply lD) | exact HB.out)) hb); have n4_ := aaM (hbox); have n5_ := aaM ((by rw [hg]; exact (lZ (by repeat (first | (with_reducible first | exact HB.out | apply lA | apply lN | apply lD) | exact HB.out))) : w.heap.size ≤ gb274)); have n6_ := aaM ((by rw [hg]; exact (lZ (by repeat (first | (with_reducible first | exact HB.out | apply lA | apply lN | apply lD) | exact HB.out))) : w.heap.size ≤ gb274)); clear HO262; clear HO268; clear HO271; clear HB; have HO262 := n0_; have HO268 := n1_; have HO271 := n2_; have HB := n3_; have BK274 := n4_; have GW274 := n5_; have GE274 := n6_; clear n0_ n1_ n2_ n3_ n4_ n5_ n6_; clear hb hbox hg; have hcz20_0 : w19.cell? ⟨gb274, 0, none⟩ = some (.int .i64 0) := (bC BK274.out 0).trans rfl; have hcz20_1 : w19.cell? ⟨gb274, 1, none⟩ = some (.int .i64 0) := (bC BK274.out 1).trans rfl; have hcz20_2 : w19.cell? ⟨gb274, 2, none⟩ = some (.int .i64 0) := (bC BK274.out 2).trans rfl; have hcz20_3 : w19.cell? ⟨gb274, 3, none⟩ = some (.slice none 0 0) := (bC BK274.out 3).trans rfl; have hcz20_4 : w19.cell? ⟨gb274, 4, none⟩ = some (.slice none 0 0) := (bC BK274.out 4).trans rfl; have hcz20_5 : w19.cell? ⟨gb274, 5, none⟩ = some (.bool false) := (bC BK274.out 5).trans rfl; have hfz20_0 := bF BK274.out 0; have hfz20_1 := bF BK274.out 1; have hfz20_2 := bF BK274.out 2; have hfz20_3 := bF BK274.out 3; have hfz20_4 := bF BK274.out 4; have hfz20_5 := bF BK274.out 5; obtain ⟨Ao21, co21, eo21⟩ := Kd.R_slice HO268.out; subst eo21; obtain ⟨Ao22, co22, eo22⟩ := Kd.R_slice HO271.out; subst eo22) | ((with_reducible refine gate_callee (f := 23) rfl ?_); refine goesL_ (some 37) rfl rfl Try.func23 (by kernel_rfl) rfl #[.int .i64 a0, .int .i64 a1, .slice A2 l2.length c2] rfl (by (try simp only [List.map_toArray, List.map_cons, List.map_nil]); first | done | rfl | (simp only [List.length_drop, List.length_take]; rfl)) ?_; (with_reducible refine (hornbeamref21_Play.calls kj3 a0 a1 _ _ l2 t275 t278 t279 t280 t281 t284 t287 t288 _ ?side1 ?side2 A11.out).mono ?_); (case side1 => exact ccB HR2.out (by repeat (first | (with_reducible first | exact HB.out | apply lA | apply lN | apply lD | refine lS ?_ GE274.out) | exact HB.out))); (case side2 => exact HC2.out); rintro e w23 ⟨v276, v282, v285, rfl, ho0, ho1, ho2, hb⟩; refine ⟨_, rfl, ?_⟩; have n0_ := aaM (Kd.R_elder' (by (with_reducible repeat (first | apply rrA | apply rrN | apply rrD)); exact (Kd.R_mono (rrF (p := ⟨gb274, 5, none⟩) (rrF (p := ⟨gb274, 4, none⟩) (rrF (p := ⟨gb274, 3, none⟩) (rrF (p := ⟨gb274, 2, none⟩) (rrF (p := ⟨gb274, 1, none⟩) (rrF (p := ⟨gb274, 0, none⟩) (Kd.R_types HO262.out BK274.out (by decide)) (fun _ hk => hk.2) (.int .i64 t263)) (fun _ hk => hk.2) (.int .i64 t264)) (fun _ hk => hk.2) (.int .i64 t265)) (fun _ hk => hk.2) (.slice Ao21 t266.length co21)) (fun _ hk => hk.2) (.slice Ao22 t269.length co22)) (fun _ hk => hk.2) (.bool t272)) (fun _ h_ => h_.1))) (Kd.R_base ho0) hb); have n1_ := aaM (Kd.R_elder' (by (with_reducible repeat (first | apply rrA | apply rrN | apply rrD)); exact (Kd.R_mono (rrF (p := ⟨gb274, 5, none⟩) (rrF (p := ⟨gb274, 4, none⟩) (rrF (p := ⟨gb274, 3, none⟩) (rrF (p := ⟨gb274, 2, none⟩) (rrF (p := ⟨gb274, 1, none⟩) (rrF (p := ⟨gb274, 0, none⟩) (Kd.R_types HO268.out BK274.out (by decide)) (fun _ hk => hk.2) (.int .i64 t263)) (fun _ hk => hk.2) (.int .i64 t264)) (fun _ hk => hk.2) (.int .i64 t265)) (fun _ hk => hk.2) (.slice Ao21 t266.length co21)) (fun _ hk => hk.2) (.slice Ao22 t269.length co22)) (fun _ hk => hk.2) (.bool t272)) (fun _ h_ => h_.1))) (Kd.R_base ho1) hb); have n2_ := aaM (Kd.R_elder' (by (with_reducible repeat (first | apply rrA | apply rrN | apply rrD)); exact (Kd.R_mono (rrF (p := ⟨gb274, 5, none⟩) (rrF (p := ⟨gb274, 4, none⟩) (rrF (p := ⟨gb274, 3, none⟩) (rrF (p := ⟨gb274, 2, none⟩) (rrF (p := ⟨gb274, 1, none⟩) (rrF (p := ⟨gb274, 0, none⟩) (Kd.R_types HO271.out BK274.out (by decide)) (fun _ hk => hk.2) (.int .i64 t263)) (fun _ hk => hk.2) (.int .i64 t264)) (fun _ hk => hk.2) (.int .i64 t265)) (fun _ hk => hk.2) (.slice Ao21 t266.length co21)) (fun _ hk => hk.2) (.slice Ao22 t269.length co22)) (fun _ hk => hk.2) (.bool t272)) (fun _ h_ => h_.1))) (Kd.R_base ho2) hb); have n3_ := aaM (Kd.R_lower (Kd.R_new' ho0 (Kd.R_lt (by (with_reducible repeat (first | apply rrA | apply rrN | apply rrD)); exact (Kd.R_mono (rrF (p := ⟨gb274, 5, none⟩) (rrF (p := ⟨gb274, 4, none⟩) (rrF (p := ⟨gb274, 3, none⟩) (rrF (p := ⟨gb274, 2, none⟩) (rrF (p := ⟨gb274, 1, none⟩) (rrF (p := ⟨gb274, 0, none⟩) (Kd.R_types HO262.out BK274.out (by decide)) (fun _ hk => hk.2) (.int .i64 t263)) (fun _ hk => hk.2) (.int .i64 t264)) (fun _ hk => hk.2) (.int .i64 t265)) (fun _ hk => hk.2) (.slice Ao21 t266.length co21)) (fun _ hk => hk.2) (.slice Ao22 t269.length co22)) (fun _ hk => hk.2) (.bool t272)) (fun _ h_ => h_.1))))) (lZ (by repeat (first | (with_reducible first | exact HB.out | apply lA | apply lN | apply lD | refine lS ?_ GE274.out) | exact HB.out)))); have n4_ := aaM (Kd.R_lower (Kd.R_new' ho1 (Kd.R_lt (by (with_reducible repeat (first | apply rrA | apply rrN | apply rrD)); exact (Kd.R_mono (rrF (p := ⟨gb274, 5, none⟩) (rrF (p := ⟨gb274, 4, none⟩) (rrF (p := ⟨gb274, 3, none⟩) (rrF (p := ⟨gb274, 2, none⟩) (rrF (p := ⟨gb274, 1, none⟩) (rrF (p := ⟨gb274, 0, none⟩) (Kd.R_types HO268.out BK274.out (by decide)) (fun _ hk => hk.2) (.int .i64 t263)) (fun _ hk => hk.2) (.int .i64 t264)) (fun _ hk => hk.2) (.int .i64 t265)) (fun _ hk => hk.2) (.slice Ao21 t266.length co21)) (fun _ hk => hk.2) (.slice Ao22 t269.length co22)) (fun _ hk => hk.2) (.bool t272)) (fun _ h_ => h_.1))))) (lZ (by repeat (first | (with_reducible first | exact HB.out | apply lA | apply lN | apply lD | refine lS ?_ GE274.out) | exact HB.out)))); have n5_ := aaM (Kd.R_lower (Kd.R_new' ho2 (Kd.R_lt (by (with_reducible repeat (first | apply rrA | apply rrN | apply rrD)); exact (Kd.R_mono (rrF (p := ⟨gb274, 5, none⟩) (rrF (p := ⟨gb274, 4, none⟩) (rrF (p := ⟨gb274, 3, none⟩) (rrF (p := ⟨gb274, 2, none⟩) (rrF (p := ⟨gb274, 1, none⟩) (rrF (p := ⟨gb274, 0, none⟩) (Kd.R_types HO271.out BK274.out (by decide)) (fun _ hk => hk.2) (.int .i64 t263)) (fun _ hk => hk.2) (.int .i64 t264)) (fun _ hk => hk.2) (.int .i64 t265)) (fun _ hk => hk.2) (.slice Ao21 t266.length co21)) (fun _ hk => hk.2) (.slice Ao22 t269.length co22)) (fun _ hk => hk.2) (.bool t272)) (fun _ h_ => h_.1))))) (lZ (by repeat (first | (with_reducible first | exact HB.out | apply lA | apply lN | apply lD | refine lS ?_ GE274.out) | exact HB.out)))); have n6_ := aaM (bB (g := gb274) (o := .cells #[.int .i64 t263, .int .i64 t264, .int .i64 t265, .slice Ao21 t266.length co21, .slice Ao22 t269.length co22, .bool t272] 42 (0, 0)) (by (with_reducible repeat (first | refine bN ?_ _ | refine bD ?_ | refine bA ?_ _)); refine blk_put (cs := #[.int .i64 t263, .int .i64 t264, .int .i64 t265, .slice Ao21 t266.length co21, .slice Ao22 t269.length co22, .bool false]) ?_ 5 _ rfl; (with_reducible repeat (first | refine bN ?_ _ | refine bD ?_ | refine bA ?_ _)); refine blk_put (cs := #[.int .i64 t263, .int .i64 t264, .int .i64 t265, .slice Ao21 t266.length co21, .slice none 0 0, .bool false]) ?_ 4 _ rfl; (with_reducible repeat (first | refine bN ?_ _ | refine bD ?_ | refine bA ?_ _)); refine blk_put (cs := #[.int .i64 t263, .int .i64 t264, .int .i64 t265, .slice none 0 0, .slice none 0 0, .bool false]) ?_ 3 _ rfl; (with_reducible repeat (first | refine bN ?_ _ | refine bD ?_ | refine bA ?_ _)); refine blk_put (cs := #[.int .i64 t263, .int .i64 t264, .int .i64 0, .slice none 0 0, .slice none 0 0, .bool false]) ?_ 2 _ rfl; (with_reducible repeat (first | refine bN ?_ _ | refine bD ?_ | refine bA ?_ _)); refine blk_put (cs := #[.int .i64 t263, .int .i64 0, .int .i64 0, .slice none 0 0, .slice none 0 0, .bool false]) ?_ 1 _ rfl; (with_reducible repeat (first | refine bN ?_ _ | refine bD ?_ | refine bA ?_ _)); refine blk_put (cs := #[.int .i64 0, .int .i64 0, .int .i64 0, .slice none 0 0, .slice none 0 0, .bool false]) ?_ 0 _ rfl; (with_reducible repeat (first | refine bN ?_ _ | refine bD ?_ | refine bA ?_ _)); exact BK274.out) hb); have n7_ := aaM (lP (by repeat (first | (with_reducible first | exact HB.out | apply lA | apply lN | apply lD | refine lS ?_ GE274.out) | exact HB.out)) hb); clear HO262; clear HO268; clear HO271; clear BK274; clear HB; have HO262 := n0_; have HO268 := n1_; have HO271 := n2_; have HO277 := n3_; have HO283 := n4_; have HO286 := n5_; have BK274 := n6_; have HB := n7_; clear n0_ n1_ n2_ n3_ n4_ n5_ n6_ n7_; (try clear hb); (try clear hb2); (try clear hk); (try clear hi); (try clear ho0); (try clear ho1); (try clear ho2)) | ((with_reducible refine gate_dst (N := 11) rfl ?_); (try (refine gate_guard (by rfl) ?_; dsimp only)); refine box_event ?hg (N := 11) ?hd (cs := #[.int .i64 0, .int .i64 0, .int .i64 0, .slice none 0 0, .slice none 0 0, .bool false]) (t := 42) ?hr ?_; (case hd => rfl); (case hg => rfl); (case hr => first | (go_simp; done) | (go_simp; rfl)); intro gb289 hg w24 hbox hb; have n0_ := aaM (rrB (by (with_reducible repeat (first | apply rrA | apply rrN | apply rrD)); exact HO262.out) hb); have n1_ := aaM (rrB (by (with_reducible repeat (first | apply rrA | apply rrN | apply rrD)); exact HO268.out) hb); have n2_ := aaM (rrB (by (with_reducible repeat (first | apply rrA | apply rrN | apply rrD)); exact HO271.out) hb); have n3_ := aaM (rrB (by (with_reducible repeat (first | apply rrA | apply rrN | apply rrD)); exact HO277.out) hb); have n4_ := aaM (rrB (by (with_reducible repeat (first | apply rrA | apply rrN | apply rrD)); exact HO283.out) hb); have n5_ := aaM (rrB (by (with_reducible repeat (first | apply rrA | apply rrN | apply rrD)); exact HO286.out) hb); have n6_ := aaM (bB (g := gb274) (o := .cells #[.int .i64 t263, .int .i64 t264, .int .i64 t265, .slice Ao21 t266.length co21, .slice Ao22 t269.length co22, .bool t272] 42 (0, 0)) (by (with_reducible repeat (first | refine bN ?_ _ | refine bD ?_ | refine bA ?_ _)); exact BK274.out) hb); have n7_ := aaM (lP (by repeat (first | (with_reducible first | exact HB.out | apply lA | apply lN | apply lD | refine lS ?_ GE274.out) | exact HB.out)) hb); have n8_ := aaM (hbox); have n9_ := aaM ((by rw [hg]; exact (lZ (by repeat (first | (with_reducible first | exact HB.out | apply lA | apply lN | apply lD | refine lS ?_ GE274.out) | exact HB.out))) : w.heap.size ≤ gb289)); have n10_ := aaM ((by rw [hg]; exact (lZ (by repeat (first | (with_reducible first | exact HB.out | apply lA | apply lN | apply lD | refine lS ?_ GE274.out) | exact HB.out))) : w.heap.size ≤ gb289)); have n11_ := aaM ((by rw [hg]; exact Nat.ne_of_lt (bL (g := gb274) (by (with_reducible repeat (first | refine bN ?_ _ | refine bD ?_ | refine bA ?_ _)); exact BK274.out)) : gb274 ≠ gb289)); have n12_ := aaM ((by rw [hg]; exact Nat.ne_of_gt (bL (g := gb274) (by (with_reducible repeat (first | refine bN ?_ _ | refine bD ?_ | refine bA ?_ _)); exact BK274.out)) : gb289 ≠ gb274)); clear HO262; clear HO268; clear HO271; clear HO277; clear HO283; clear HO286; clear BK274; clear HB; have HO262 := n0_; have HO268 := n1_; have HO271 := n2_; have HO277 := n3_; have HO283 := n4_; have HO286 := n5_; have BK274 := n6_; have HB := n7_; have BK289 := n8_; have GW289 := n9_; have GE289 := n10_; have NB274_289 := n11_; have NB289_274 := n12_; clear n0_ n1_ n2_ n3_ n4_ n5_ n6_ n7_ n8_ n9_ n10_ n11_ n12_; clear hb hbox hg; have hnb25 := NB289_274.out; have hnc25 := NB274_289.out; have hcz26_0 : w24.cell? ⟨gb289, 0, none⟩ = some (.int .i64 0) := (bC BK289.out 0).trans rfl; have hcz26_1 : w24.cell? ⟨gb289, 1, none⟩ = some (.int .i64 0) := (bC BK289.out 1).trans rfl; have hcz26_2 : w24.cell? ⟨gb289, 2, none⟩ = some (.int .i64 0) := (bC BK289.out 2).trans rfl; have hcz26_3 : w24.cell? ⟨gb289, 3, none⟩ = some (.slice none 0 0) := (bC BK289.out 3).trans rfl; have hcz26_4 : w24.cell? ⟨gb289, 4, none⟩ = some (.slice none 0 0) := (bC BK289.out 4).trans rfl; have hcz26_5 : w24.cell? ⟨gb289, 5, none⟩ = some (.bool false) := (bC BK289.out 5).trans rfl; have hfz26_0 := bF BK289.out 0; have hfz26_1 := bF BK289.out 1; have hfz26_2 := bF BK289.out 2; have hfz26_3 := bF BK289.out 3; have hfz26_4 := bF BK289.out 4; have hfz26_5 := bF BK289.out 5; obtain ⟨Ao27, co27, eo27⟩ := Kd.R_slice HO283.out; subst eo27; obtain ⟨Ao28, co28, eo28⟩ := Kd.R_slice HO286.out; subst eo28) | ((with_reducible refine gate_callee (f := 21) rfl ?_); refine goesL_ (some 41) rfl rfl Try.func21 (by kernel_rfl) rfl #[] rfl (by (try simp only [List.map_toArray, List.map_cons, List.map_nil]); first | done | rfl | (simp only [List.length_drop, List.length_take]; rfl)) ?_; (with_reducible refine (hornbeamlaw21_fixed.calls kj3  true _ A12.out).mono ?_); rintro e w29 ⟨rfl, hb⟩; refine ⟨_, rfl, ?_⟩; have n0_ := aaM (rrB (by (with_reducible repeat (first | apply rrA | apply rrN | apply rrD)); exact (Kd.R_mono (rrF (p := ⟨gb289, 5, none⟩) (rrF (p := ⟨gb289, 4, none⟩) (rrF (p := ⟨gb289, 3, none⟩) (rrF (p := ⟨gb289, 2, none⟩) (rrF (p := ⟨gb289, 1, none⟩) (rrF (p := ⟨gb289, 0, none⟩) (Kd.R_types HO262.out BK289.out (by decide)) (fun _ hk => hk.2) (.int .i64 t278)) (fun _ hk => hk.2) (.int .i64 t279)) (fun _ hk => hk.2) (.int .i64 t280)) (fun _ hk => hk.2) (.slice Ao27 t281.length co27)) (fun _ hk => hk.2) (.slice Ao28 t284.length co28)) (fun _ hk => hk.2) (.bool t287)) (fun _ h_ => h_.1))) hb); have n1_ := aaM (rrB (by (with_reducible repeat (first | apply rrA | apply rrN | apply rrD)); exact (Kd.R_mono (rrF (p := ⟨gb289, 5, none⟩) (rrF (p := ⟨gb289, 4, none⟩) (rrF (p := ⟨gb289, 3, none⟩) (rrF (p := ⟨gb289, 2, none⟩) (rrF (p := ⟨gb289, 1, none⟩) (rrF (p := ⟨gb289, 0, none⟩) (Kd.R_types HO268.out BK289.out (by decide)) (fun _ hk => hk.2) (.int .i64 t278)) (fun _ hk => hk.2) (.int .i64 t279)) (fun _ hk => hk.2) (.int .i64 t280)) (fun _ hk => hk.2) (.slice Ao27 t281.length co27)) (fun _ hk => hk.2) (.slice Ao28 t284.length co28)) (fun _ hk => hk.2) (.bool t287)) (fun _ h_ => h_.1))) hb); have n2_ := aaM (rrB (by (with_reducible repeat (first | apply rrA | apply rrN | apply rrD)); exact (Kd.R_mono (rrF (p := ⟨gb289, 5, none⟩) (rrF (p := ⟨gb289, 4, none⟩) (rrF (p := ⟨gb289, 3, none⟩) (rrF (p := ⟨gb289, 2, none⟩) (rrF (p := ⟨gb289, 1, none⟩) (rrF (p := ⟨gb289, 0, none⟩) (Kd.R_types HO271.out BK289.out (by decide)) (fun _ hk => hk.2) (.int .i64 t278)) (fun _ hk => hk.2) (.int .i64 t279)) (fun _ hk => hk.2) (.int .i64 t280)) (fun _ hk => hk.2) (.slice Ao27 t281.length co27)) (fun _ hk => hk.2) (.slice Ao28 t284.length co28)) (fun _ hk => hk.2) (.bool t287)) (fun _ h_ => h_.1))) hb); have n3_ := aaM (rrB (by (with_reducible repeat (first | apply rrA | apply rrN | apply rrD)); exact (Kd.R_mono (rrF (p := ⟨gb289, 5, none⟩) (rrF (p := ⟨gb289, 4, none⟩) (rrF (p := ⟨gb289, 3, none⟩) (rrF (p := ⟨gb289, 2, none⟩) (rrF (p := ⟨gb289, 1, none⟩) (rrF (p := ⟨gb289, 0, none⟩) (Kd.R_types HO277.out BK289.out (by decide)) (fun _ hk => hk.2) (.int .i64 t278)) (fun _ hk => hk.2) (.int .i64 t279)) (fun _ hk => hk.2) (.int .i64 t280)) (fun _ hk => hk.2) (.slice Ao27 t281.length co27)) (fun _ hk => hk.2) (.slice Ao28 t284.length co28)) (fun _ hk => hk.2) (.bool t287)) (fun _ h_ => h_.1))) hb); have n4_ := aaM (rrB (by (with_reducible repeat (first | apply rrA | apply rrN | apply rrD)); exact (Kd.R_mono (rrF (p := ⟨gb289, 5, none⟩) (rrF (p := ⟨gb289, 4, none⟩) (rrF (p := ⟨gb289, 3, none⟩) (rrF (p := ⟨gb289, 2, none⟩) (rrF (p := ⟨gb289, 1, none⟩) (rrF (p := ⟨gb289, 0, none⟩) (Kd.R_types HO283.out BK289.out (by decide)) (fun _ hk => hk.2) (.int .i64 t278)) (fun _ hk => hk.2) (.int .i64 t279)) (fun _ hk => hk.2) (.int .i64 t280)) (fun _ hk => hk.2) (.slice Ao27 t281.length co27)) (fun _ hk => hk.2) (.slice Ao28 t284.length co28)) (fun _ hk => hk.2) (.bool t287)) (fun _ h_ => h_.1))) hb); have n5_ := aaM (rrB (by (with_reducible repeat (first | apply rrA | apply rrN | apply rrD)); exact (Kd.R_mono (rrF (p := ⟨gb289, 5, none⟩) (rrF (p := ⟨gb289, 4, none⟩) (rrF (p := ⟨gb289, 3, none⟩) (rrF (p := ⟨gb289, 2, none⟩) (rrF (p := ⟨gb289, 1, none⟩) (rrF (p := ⟨gb289, 0, none⟩) (Kd.R_types HO286.out BK289.out (by decide)) (fun _ hk => hk.2) (.int .i64 t278)) (fun _ hk => hk.2) (.int .i64 t279)) (fun _ hk => hk.2) (.int .i64 t280)) (fun _ hk => hk.2) (.slice Ao27 t281.length co27)) (fun _ hk => hk.2) (.slice Ao28 t284.length co28)) (fun _ hk => hk.2) (.bool t287)) (fun _ h_ => h_.1))) hb); have n6_ := aaM (bB (g := gb274) (o := .cells #[.int .i64 t263, .int .i64 t264, .int .i64 t265, .slice Ao21 t266.length co21, .slice Ao22 t269.length co22, .bool t272] 42 (0, 0)) (by (with_reducible repeat (first | refine bN ?_ _ | refine bD ?_ | refine bA ?_ _)); refine blk_far ?_ NB274_289.out _; (with_reducible repeat (first | refine bN ?_ _ | refine bD ?_ | refine bA ?_ _)); refine blk_far ?_ NB274_289.out _; (with_reducible repeat (first | refine bN ?_ _ | refine bD ?_ | refine bA ?_ _)); refine blk_far ?_ NB274_289.out _; (with_reducible repeat (first | refine bN ?_ _ | refine bD ?_ | refine bA ?_ _)); refine blk_far ?_ NB274_289.out _; (with_reducible repeat (first | refine bN ?_ _ | refine bD ?_ | refine bA ?_ _)); refine blk_far ?_ NB274_289.out _; (with_reducible repeat (first | refine bN ?_ _ | refine bD ?_ | refine bA ?_ _)); refine blk_far ?_ NB274_289.out _; (with_reducible repeat (first | refine bN ?_ _ | refine bD ?_ | refine bA ?_ _)); exact BK274.out) hb); have n7_ := aaM (bB (g := gb289) (o := .cells #[.int .i64 t278, .int .i64 t279, .int .i64 t280, .slice Ao27 t281.length co27, .slice Ao28 t284.length co28, .bool t287] 42 (0, 0)) (by (with_reducible repeat (first | refine bN ?_ _ | refine bD ?_ | refine bA ?_ _)); refine blk_put (cs := #[.int .i64 t278, .int .i64 t279, .int .i64 t280, .slice Ao27 t281.length co27, .slice Ao28 t284.length co28, .bool false]) ?_ 5 _ rfl; (with_reducible repeat (first | refine bN ?_ _ | refine bD ?_ | refine bA ?_ _)); refine blk_put (cs := #[.int .i64 t278, .int .i64 t279, .int .i64 t280, .slice Ao27 t281.length co27, .slice none 0 0, .bool false]) ?_ 4 _ rfl; (with_reducible repeat (first | refine bN ?_ _ | refine bD ?_ | refine bA ?_ _)); refine blk_put (cs := #[.int .i64 t278, .int .i64 t279, .int .i64 t280, .slice none 0 0, .slice none 0 0, .bool false]) ?_ 3 _ rfl; (with_reducible repeat (first | refine bN ?_ _ | refine bD ?_ | refine bA ?_ _)); refine blk_put (cs := #[.int .i64 t278, .int .i64 t279, .int .i64 0, .slice none 0 0, .slice none 0 0, .bool false]) ?_ 2 _ rfl; (with_reducible repeat (first | refine bN ?_ _ | refine bD ?_ | refine bA ?_ _)); refine blk_put (cs := #[.int .i64 t278, .int .i64 0, .int .i64 0, .slice none 0 0, .slice none 0 0, .bool false]) ?_ 1 _ rfl; (with_reducible repeat (first | refine bN ?_ _ | refine bD ?_ | refine bA ?_ _)); refine blk_put (cs := #[.int .i64 0, .int .i64 0, .int .i64 0, .slice none 0 0, .slice none 0 0, .bool false]) ?_ 0 _ rfl; (with_reducible repeat (first | refine bN ?_ _ | refine bD ?_ | refine bA ?_ _)); exact BK289.out) hb); have n8_ := aaM (lP (by repeat (first | (with_reducible first | exact HB.out | apply lA | apply lN | apply lD | refine lS ?_ GE274.out | refine lS ?_ GE289.out) | exact HB.out)) hb); clear HO262; clear HO268; clear HO271; clear HO277; clear HO283; clear HO286; clear BK274; clear BK289; clear HB; have HO262 := n0_; have HO268 := n1_; have HO271 := n2_; have HO277 := n3_; have HO283 := n4_; have HO286 := n5_; have BK274 := n6_; have BK289 := n7_; have HB := n8_; clear n0_ n1_ n2_ n3_ n4_ n5_ n6_ n7_ n8_; (try clear hb); (try clear hb2); (try clear hk); (try clear hi); obtain ⟨Ao30, co30, eo30⟩ := Kd.R_slice HO262.out; subst eo30; obtain ⟨Ao31, co31, eo31⟩ := Kd.R_slice HO277.out; subst eo31) | (go_at_call 24; (with_reducible refine (hornbeamlaw21_same.calls kj3 _ _ t260 _ _ t275 true _ ?side1 ?side2 ?side3 ?side4 A14.out).mono ?_); (case side1 => repeat (first | exact (Kd.R_reads' HO262.out).2.2 | (with_reducible refine ccA ?_ _) | (with_reducible refine ccN ?_ _) | (with_reducible refine ccD ?_))); (case side2 => exact (Kd.R_reads' HO262.out).2.1); (case side3 => repeat (first | exact (Kd.R_reads' HO277.out).2.2 | (with_reducible refine ccA ?_ _) | (with_reducible refine ccN ?_ _) | (with_reducible refine ccD ?_))); (case side4 => exact (Kd.R_reads' HO277.out).2.1); rintro e w' ⟨rfl, ⟨nd, rfl⟩⟩; have hcz32_0 : w29.cell? ⟨gb274, 0, none⟩ = some (.int .i64 t263) := (bC BK274.out 0).trans rfl; have hcz32_1 : w29.cell? ⟨gb274, 1, none⟩ = some (.int .i64 t264) := (bC BK274.out 1).trans rfl; have hcz32_2 : w29.cell? ⟨gb274, 2, none⟩ = some (.int .i64 t265) := (bC BK274.out 2).trans rfl; have hcz32_3 : w29.cell? ⟨gb274, 3, none⟩ = some (.slice Ao21 t266.length co21) := (bC BK274.out 3).trans rfl; have hcz32_4 : w29.cell? ⟨gb274, 4, none⟩ = some (.slice Ao22 t269.length co22) := (bC BK274.out 4).trans rfl; have hcz32_5 : w29.cell? ⟨gb274, 5, none⟩ = some (.bool t272) := (bC BK274.out 5).trans rfl; have hfz32_0 := bF BK274.out 0; have hfz32_1 := bF BK274.out 1; have hfz32_2 := bF BK274.out 2; have hfz32_3 := bF BK274.out 3; have hfz32_4 := bF BK274.out 4; have hfz32_5 := bF BK274.out 5; have hcz33_0 : w29.cell? ⟨gb289, 0, none⟩ = some (.int .i64 t278) := (bC BK289.out 0).trans rfl; have hcz33_1 : w29.cell? ⟨gb289, 1, none⟩ = some (.int .i64 t279) := (bC BK289.out 1).trans rfl; have hcz33_2 : w29.cell? ⟨gb289, 2, none⟩ = some (.int .i64 t280) := (bC BK289.out 2).trans rfl; have hcz33_3 : w29.cell? ⟨gb289, 3, none⟩ = some (.slice Ao27 t281.length co27) := (bC BK289.out 3).trans rfl; have hcz33_4 : w29.cell? ⟨gb289, 4, none⟩ = some (.slice Ao28 t284.length co28) := (bC BK289.out 4).trans rfl; have hcz33_5 : w29.cell? ⟨gb289, 5, none⟩ = some (.bool t287) := (bC BK289.out 5).trans rfl; have hfz33_0 := bF BK289.out 0; have hfz33_1 := bF BK289.out 1; have hfz33_2 := bF BK289.out 2; have hfz33_3 := bF BK289.out 3; have hfz33_4 := bF BK289.out 4; have hfz33_5 := bF BK289.out 5) | (go_at_call 25; (with_reducible refine (hornbeamref21_Same.calls kj3 t263 t264 t265 _ _ t266 _ _ t269 t272 t278 t279 t280 _ _ t281 _ _ t284 t287 true _ ?side1 ?side2 ?side3 ?side4 ?side5 ?side6 ?side7 ?side8 A16.out).mono ?_); (case side1 => repeat (first | exact (Kd.R_reads' HO268.out).2.2 | (with_reducible refine ccA ?_ _) | (with_reducible refine ccN ?_ _) | (with_reducible refine ccD ?_))); (case side2 => exact (Kd.R_reads' HO268.out).2.1); (case side3 => repeat (first | exact (Kd.R_reads' HO271.out).2.2 | (with_reducible refine ccA ?_ _) | (with_reducible refine ccN ?_ _) | (with_reducible refine ccD ?_))); (case side4 => exact (Kd.R_reads' HO271.out).2.1); (case side5 => repeat (first | exact (Kd.R_reads' HO283.out).2.2 | (with_reducible refine ccA ?_ _) | (with_reducible refine ccN ?_ _) | (with_reducible refine ccD ?_))); (case side6 => exact (Kd.R_reads' HO283.out).2.1); (case side7 => repeat (first | exact (Kd.R_reads' HO286.out).2.2 | (with_reducible refine ccA ?_ _) | (with_reducible refine ccN ?_ _) | (with_reducible refine ccD ?_))); (case side8 => exact (Kd.R_reads' HO286.out).2.1); rintro e w34 ⟨rfl, hb⟩; have n0_ := aaM (rrB (by (with_reducible repeat (first | apply rrA | apply rrN | apply rrD)); exact HO262.out) hb); have n1_ := aaM (rrB (by (with_reducible repeat (first | apply rrA | apply rrN | apply rrD)); exact HO268.out) hb); have n2_ := aaM (rrB (by (with_reducible repeat (first | apply rrA | apply rrN | apply rrD)); exact HO271.out) hb); have n3_ := aaM (rrB (by (with_reducible repeat (first | apply rrA | apply rrN | apply rrD)); exact HO277.out) hb); have n4_ := aaM (rrB (by (with_reducible repeat (first | apply rrA | apply rrN | apply rrD)); exact HO283.out) hb); have n5_ := aaM (rrB (by (with_reducible repeat (first | apply rrA | apply rrN | apply rrD)); exact HO286.out) hb); have n6_ := aaM (bB (g := gb274) (o := .cells #[.int .i64 t263, .int .i64 t264, .int .i64 t265, .slice Ao21 t266.length co21, .slice Ao22 t269.length co22, .bool t272] 42 (0, 0)) (by (with_reducible repeat (first | refine bN ?_ _ | refine bD ?_ | refine bA ?_ _)); exact BK274.out) hb); have n7_ := aaM (bB (g := gb289) (o := .cells #[.int .i64 t278, .int .i64 t279, .int .i64 t280, .slice Ao27 t281.length co27, .slice Ao28 t284.length co28, .bool t287] 42 (0, 0)) (by (with_reducible repeat (first | refine bN ?_ _ | refine bD ?_ | refine bA ?_ _)); exact BK289.out) hb); have n8_ := aaM (lP (by repeat (first | (with_reducible first | exact HB.out | apply lA | apply lN | apply lD | refine lS ?_ GE274.out | refine lS ?_ GE289.out) | exact HB.out)) hb); clear HO262; clear HO268; clear HO271; clear HO277; clear HO283; clear HO286; clear BK274; clear BK289; clear HB; have HO262 := n0_; have HO268 := n1_; have HO271 := n2_; have HO277 := n3_; have HO283 := n4_; have HO286 := n5_; have BK274 := n6_; have BK289 := n7_; have HB := n8_; clear n0_ n1_ n2_ n3_ n4_ n5_ n6_ n7_ n8_; (try clear hb); (try clear hb2); (try clear hk); (try clear hi)))
       all_goals (go_ret; exact ⟨by first | rfl | (simp [errW_none, errW_some] <;> rfl) | (simp [*, errW_none, errW_some] <;> rfl) | (simp_all; done), by repeat (first | (with_reducible first | exact HB.out | apply lA | apply lN | apply lD | refine lS ?_ GE274.out | refine lS ?_ GE289.out) | exact HB.out)⟩)
      ·replace c17 := Bool.eq_false_iff.mpr c17
       subst c17
       have H1 : (some false) = some r := by rw [if_neg (show ¬ (false = true) by decide)] at H; exact H
       clear H
       have H := H1
       clear H1
       exact absurd (Option.some.inj H) (by rw [HR_.out]; decide)
     ·replace c15 := Bool.eq_false_iff.mpr c15
      subst c15
      have H1 : (some false) = some r := by rw [if_neg (show ¬ (false = true) by decide)] at H; exact H
      clear H
      have H := H1
      clear H1
      exact absurd (Option.some.inj H) (by rw [HR_.out]; decide)
    ·replace c13 := Bool.eq_false_iff.mpr c13
     subst c13
     have H1 : (some false) = some r := by rw [if_neg (show ¬ (false = true) by decide)] at H; exact H
     clear H
     have H := H1
     clear H1
     exact absurd (Option.some.inj H) (by rw [HR_.out]; decide)

/-- THE ONE PURE STATEMENT of hornbeamlaw21_SchedPlays: yours. -/
def hornbeamlaw21_SchedPlays.Pure : Prop := ∀ (a0 : Int) (a1 : Int) (l2 : List Int), (Lit.int .i64 a0).wf = true → (Lit.int .i64 a1).wf = true → l2.length ≤ maxLen → l2.length * 8 ≤ 140737488351232 → (∀ x ∈ l2, (Lit.int .i64 x).wf = true) → ∃ k, hornbeamlaw21_SchedPlays.f k a0 a1 l2 = some true
theorem hornbeamlaw21_SchedPlays.walk (P : hornbeamlaw21_SchedPlays.Pure) (a0 : Int) (a1 : Int) (a2 : Option Addr) (len2 cap2 : Nat) (z2 : List Int) (w : World) (w0 : (Lit.int .i64 a0).wf = true) (w1 : (Lit.int .i64 a1).wf = true) (w2 : (a2 = none ∧ len2 = 0 ∧ cap2 = 0 ∧ z2 = []) ∨ ∃ x, a2 = some x ∧ len2 ≤ cap2 ∧ cap2 ≤ maxLen ∧ z2.length = cap2 ∧ (∀ i, i < z2.length → w.cell? (x.add i) = some (.int .i64 (z2.getD i 0))) ∧ ∀ n ∈ z2, (Lit.int .i64 n).wf = true) (y2 : len2 * 8 ≤ 140737488351232) :
  Calls Try.prog 5 #[.int .i64 a0, .int .i64 a1, .slice a2 len2 cap2] w fun e w' => e = .returned (.bool true) ∧ Below w.heap.size w w' := by
 obtain ⟨l2, rfl, hr2, hm2, hw2, hc2⟩ := ReadsInt.ofRowC w2
 obtain ⟨k, h⟩ := P a0 a1 l2 w0 w1 hm2 y2 hw2
 refine (hornbeamlaw21_SchedPlays.calls k a0 a1 _ _ l2 true w (Kd.C_of_reads (d := (0 : Int)) (h1 := fun _ => rfl) hr2) hc2 h rfl).mono ?_
 rintro e w' ⟨rfl, hd⟩
 exact ⟨rfl, hd⟩

end Go.Proofs.Ytoonddgldmfleaa.QSchedPlays
