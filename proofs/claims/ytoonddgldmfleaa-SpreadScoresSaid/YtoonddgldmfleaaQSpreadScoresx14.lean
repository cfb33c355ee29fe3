-- Written by a program of this session (wip/tools/mkprint.py over the kit's print); Lean checks it.
import Derived.Test.YtoonddgldmfleaaQSpreadScoresx0
import Derived.Test.YtoonddgldmfleaaQSpreadScoresx3
import Derived.Test.YtoonddgldmfleaaQSpreadScoresx5
import Derived.Test.YtoonddgldmfleaaQSpreadScoresx6
import Derived.Test.YtoonddgldmfleaaQSpreadScoresx7
import Derived.Test.YtoonddgldmfleaaQSpreadScoresx9
import Derived.Test.YtoonddgldmfleaaQSpreadScoresx10
import Derived.Test.YtoonddgldmfleaaQSpreadScoresx12
import Derived.Test.YtoonddgldmfleaaQSpreadScoresx13
namespace Go.Proofs.Ytoonddgldmfleaa.QSpreadScores
open Go.RowKit Go.Proofs.YtoonddgldmfleaaW.PrintWords Go.Proofs.YtoonddgldmfleaaW.PrintLast Go.Proofs.YtoonddgldmfleaaW.PrintMore
attribute [local go_sem] max2_int min2_int max_two min_two max_three min_three max_four min_four   -- for this text's walks alone
set_option linter.unusedVariables false
set_option linter.unusedSimpArgs false

attribute [local go_sem high] eqA36
/-! ### hornbeamlaw15_SpreadScores: function 9 -/
def hornbeamlaw15_SpreadScores.f (k : Nat) (a0_0 : Int) (a0_1 : Int) (a0_2 : Int) (a1_0 : Int) (a1_1 : Int) (a1_2 : Int) : Option (Bool) := (spread_Mean.f k a0_0 a0_1 a0_2).bind fun bt365 => ((hornbeamref15_Mean.f k a0_0 a0_1 a0_2).bind fun bt367 => ((hornbeamlaw15_fixed.f k).bind fun t369 => (if t369 = true then ((spread_May.f k a0_0 a0_1 a0_2).bind fun t370 => ((hornbeamref15_May.f k a0_0 a0_1 a0_2).bind fun t371 => (if (t370 == t371) = true then ((spread_Alone.f k a0_0 a0_1 a0_2).bind fun bt372 => ((hornbeamref15_Alone.f k a0_0 a0_1 a0_2).bind fun bt375 => (if ((bt372.1 == bt375.1 && (bt372.2.1 == bt375.2.1)) && (bt372.2.2 == bt375.2.2)) = true then ((spread_Score.f k a0_0 a0_1 a0_2 a1_0 a1_1 a1_2).bind fun bt378 => ((hornbeamref15_Score.f k a0_0 a0_1 a0_2 a1_0 a1_1 a1_2).bind fun bt381 => (if ((bt378.1 == bt381.1 && (bt378.2.1 == bt381.2.1)) && (bt378.2.2 == bt381.2.2)) = true then (if bt365.1 = bt367.1 then (if (bt365.2 == bt367.2) = true then ((spread_Pure.f k a0_0 a0_1 a0_2).bind fun t384 => ((hornbeamref15_Pure.f k a0_0 a0_1 a0_2).bind fun t385 => (some (t384 == t385)))) else (some false)) else (some false)) else (some false)))) else (some false)))) else (some false)))) else (some false))))
theorem hornbeamlaw15_SpreadScores.mono : ∀ a0 a1 a2 a3 a4 a5 k, LeO (hornbeamlaw15_SpreadScores.f k a0 a1 a2 a3 a4 a5) (hornbeamlaw15_SpreadScores.f (k + 1) a0 a1 a2 a3 a4 a5) := by
  intro a0 a1 a2 a3 a4 a5 k
  unfold hornbeamlaw15_SpreadScores.f
  repeat' first
      | (with_reducible exact hornbeamlaw15_fixed.mono _)
      | (with_reducible exact hornbeamref15_Alone.mono _ _ _ _)
      | (with_reducible exact hornbeamref15_May.mono _ _ _ _)
      | (with_reducible exact hornbeamref15_Mean.mono _ _ _ _)
      | (with_reducible exact hornbeamref15_Pure.mono _ _ _ _)
      | (with_reducible exact hornbeamref15_Score.mono _ _ _ _ _ _ _)
      | (with_reducible exact spread_Alone.mono _ _ _ _)
      | (with_reducible exact spread_May.mono _ _ _ _)
      | (with_reducible exact spread_Mean.mono _ _ _ _)
      | (with_reducible exact spread_Pure.mono _ _ _ _)
      | (with_reducible exact spread_Score.mono _ _ _ _ _ _ _)
      | (with_reducible exact LeO.refl _)
      | (with_reducible exact LeO.none _)
      | (with_reducible refine LeO.ite ?_ ?_)
      | (with_reducible refine LeO.bind ?_ (fun _ => ?_))
      | exact hornbeamlaw15_fixed.mono _
      | exact hornbeamref15_Alone.mono _ _ _ _
      | exact hornbeamref15_May.mono _ _ _ _
      | exact hornbeamref15_Mean.mono _ _ _ _
      | exact hornbeamref15_Pure.mono _ _ _ _
      | exact hornbeamref15_Score.mono _ _ _ _ _ _ _
      | exact spread_Alone.mono _ _ _ _
      | exact spread_May.mono _ _ _ _
      | exact spread_Mean.mono _ _ _ _
      | exact spread_Pure.mono _ _ _ _
      | exact spread_Score.mono _ _ _ _ _ _ _
      | exact LeO.none _
      | refine LeO.ite ?_ ?_
      | refine LeO.bind ?_ (fun _ => ?_)
def hornbeamlaw15_SpreadScores.T3 : Bool × List (List Nat × List Nat) := (true, [([], []), ([0, 0], [0]), ([1], [1]), ([2, 1, 1], [1, 2]), ([1], [1]), ([4, 3, 1], [1, 4]), ([3, 5, 1], [1, 3, 5]), ([1, 6], [1, 6]), ([7, 5], [7]), ([8], [8]), ([9, 8, 8], [8, 9]), ([8], [8]), ([11, 10, 8], [8, 11]), ([10, 12, 8], [8, 10, 12]), ([8, 13], [8, 13]), ([14, 12], [14]), ([15], [15]), ([15], [15]), ([16, 17, 15, 15], [15, 16, 17]), ([15], [15]), ([15], [15]), ([19, 20, 18, 15], [15, 19, 20]), ([18, 21, 15], [15, 18, 21]), ([15, 22], [15, 22]), ([23, 21], [23]), ([24], [24]), ([24], [24]), ([25, 26, 24], [24, 25, 26]), ([24, 27], [24, 27]), ([28, 24], [28]), ([29], [29]), ([29], [29]), ([30, 31, 29], [29, 30, 31]), ([29, 32], [29, 32]), ([33, 29], [33]), ([34], [34]), ([35, 34, 34], [34, 35]), ([34], [34]), ([37, 36, 34], [34, 37]), ([36, 38, 34], [34, 36, 38]), ([34, 39], [34, 39]), ([40, 38, 0, 1, 2, 3, 4, 5, 6, 7, 8, 9, 10, 11, 12, 13, 14, 15, 16, 17, 18, 19, 20, 21, 22, 23, 24, 25, 26, 27, 28, 29, 30, 31, 32, 33, 34, 35, 36, 37, 38, 39, 40], [40])])
def hornbeamlaw15_SpreadScores.B3 : List Nat := [0, 1, 3, 7, 3, 31, 63, 127, 255, 511, 1023, 511, 4095, 8191, 16383, 32767, 65535, 65535, 262143, 65535, 65535, 2097151, 4194303, 8388607, 16777215, 33554431, 33554431, 134217727, 268435455, 536870911, 1073741823, 1073741823, 4294967295, 8589934591, 17179869183, 34359738367, 68719476735, 34359738367, 274877906943, 549755813887, 1099511627775, 2199023255551]
theorem hornbeamlaw15_SpreadScores.tab3 : rtab .any (opsOf Try.f9 3) = hornbeamlaw15_SpreadScores.T3 := by kernel_rfl
theorem hornbeamlaw15_SpreadScores.bits3 : waitsOk hornbeamlaw15_SpreadScores.T3.2 hornbeamlaw15_SpreadScores.B3 = true := by kernel_rfl
set_option maxHeartbeats 8000000 in
set_option maxRecDepth 100000 in
theorem hornbeamlaw15_SpreadScores.calls (k : Nat) (a0_0 : Int) (a0_1 : Int) (a0_2 : Int) (a1_0 : Int) (a1_1 : Int) (a1_2 : Int) (r : Bool) (w : World) (h : hornbeamlaw15_SpreadScores.f k a0_0 a0_1 a0_2 a1_0 a1_1 a1_2 = some r) (hr_ : r = true) :
  Calls Try.prog 9 #[.agg #[.int .i64 a0_0, .int .i64 a0_1, .int .i64 a0_2], .agg #[.int .i64 a1_0, .int .i64 a1_1, .int .i64 a1_2]] w fun e w' => e = .returned (.bool r) ∧ Below w.heap.size w w' := by
 have hu26 := Try.underlying26
 have HR_ := Aside0.mk hr_
 clear hr_
 have HB := Aside0.mk (Below.refl w.heap.size w)
 have H : ((spread_Mean.f k a0_0 a0_1 a0_2).bind fun bt365 => ((hornbeamref15_Mean.f k a0_0 a0_1 a0_2).bind fun bt367 => ((hornbeamlaw15_fixed.f k).bind fun t369 => (if t369 = true then ((spread_May.f k a0_0 a0_1 a0_2).bind fun t370 => ((hornbeamref15_May.f k a0_0 a0_1 a0_2).bind fun t371 => (if (t370 == t371) = true then ((spread_Alone.f k a0_0 a0_1 a0_2).bind fun bt372 => ((hornbeamref15_Alone.f k a0_0 a0_1 a0_2).bind fun bt375 => (if ((bt372.1 == bt375.1 && (bt372.2.1 == bt375.2.1)) && (bt372.2.2 == bt375.2.2)) = true then ((spread_Score.f k a0_0 a0_1 a0_2 a1_0 a1_1 a1_2).bind fun bt378 => ((hornbeamref15_Score.f k a0_0 a0_1 a0_2 a1_0 a1_1 a1_2).bind fun bt381 => (if ((bt378.1 == bt381.1 && (bt378.2.1 == bt381.2.1)) && (bt378.2.2 == bt381.2.2)) = true then (if bt365.1 = bt367.1 then (if (bt365.2 == bt367.2) = true then ((spread_Pure.f k a0_0 a0_1 a0_2).bind fun t384 => ((hornbeamref15_Pure.f k a0_0 a0_1 a0_2).bind fun t385 => (some (t384 == t385)))) else (some false)) else (some false)) else (some false)))) else (some false)))) else (some false)))) else (some false))))) = some r := h
 clear h
 replace H := Option.bind_eq_some_iff.mp H
 obtain ⟨⟨t365, t366⟩, A30, H⟩ := H
 replace H : ((hornbeamref15_Mean.f k a0_0 a0_1 a0_2).bind fun bt367 => ((hornbeamlaw15_fixed.f k).bind fun t369 => (if t369 = true then ((spread_May.f k a0_0 a0_1 a0_2).bind fun t370 => ((hornbeamref15_May.f k a0_0 a0_1 a0_2).bind fun t371 => (if (t370 == t371) = true then ((spread_Alone.f k a0_0 a0_1 a0_2).bind fun bt372 => ((hornbeamref15_Alone.f k a0_0 a0_1 a0_2).bind fun bt375 => (if ((bt372.1 == bt375.1 && (bt372.2.1 == bt375.2.1)) && (bt372.2.2 == bt375.2.2)) = true then ((spread_Score.f k a0_0 a0_1 a0_2 a1_0 a1_1 a1_2).bind fun bt378 => ((hornbeamref15_Score.f k a0_0 a0_1 a0_2 a1_0 a1_1 a1_2).bind fun bt381 => (if ((bt378.1 == bt381.1 && (bt378.2.1 == bt381.2.1)) && (bt378.2.2 == bt381.2.2)) = true then (if t365 = bt367.1 then (if (t366 == bt367.2) = true then ((spread_Pure.f k a0_0 a0_1 a0_2).bind fun t384 => ((hornbeamref15_Pure.f k a0_0 a0_1 a0_2).bind fun t385 => (some (t384 == t385)))) else (some false)) else (some false)) else (some false)))) else (some false)))) else (some false)))) else (some false)))) = some r := H
 have A3 := Aside0.mk A30
 clear A30
 replace H := Option.bind_eq_some_iff.mp H
 obtain ⟨⟨t367, t368⟩, A40, H⟩ := H
 replace H : ((hornbeamlaw15_fixed.f k).bind fun t369 => (if t369 = true then ((spread_May.f k a0_0 a0_1 a0_2).bind fun t370 => ((hornbeamref15_May.f k a0_0 a0_1 a0_2).bind fun t371 => (if (t370 == t371) = true then ((spread_Alone.f k a0_0 a0_1 a0_2).bind fun bt372 => ((hornbeamref15_Alone.f k a0_0 a0_1 a0_2).bind fun bt375 => (if ((bt372.1 == bt375.1 && (bt372.2.1 == bt375.2.1)) && (bt372.2.2 == bt375.2.2)) = true then ((spread_Score.f k a0_0 a0_1 a0_2 a1_0 a1_1 a1_2).bind fun bt378 => ((hornbeamref15_Score.f k a0_0 a0_1 a0_2 a1_0 a1_1 a1_2).bind fun bt381 => (if ((bt378.1 == bt381.1 && (bt378.2.1 == bt381.2.1)) && (bt378.2.2 == bt381.2.2)) = true then (if t365 = t367 then (if (t366 == t368) = true then ((spread_Pure.f k a0_0 a0_1 a0_2).bind fun t384 => ((hornbeamref15_Pure.f k a0_0 a0_1 a0_2).bind fun t385 => (some (t384 == t385)))) else (some false)) else (some false)) else (some false)))) else (some false)))) else (some false)))) else (some false))) = some r := H
 have A4 := Aside0.mk A40
 clear A40
 replace H := Option.bind_eq_some_iff.mp H
 obtain ⟨t369, A50, H⟩ := H
 replace H : (if t369 = true then ((spread_May.f k a0_0 a0_1 a0_2).bind fun t370 => ((hornbeamref15_May.f k a0_0 a0_1 a0_2).bind fun t371 => (if (t370 == t371) = true then ((spread_Alone.f k a0_0 a0_1 a0_2).bind fun bt372 => ((hornbeamref15_Alone.f k a0_0 a0_1 a0_2).bind fun bt375 => (if ((bt372.1 == bt375.1 && (bt372.2.1 == bt375.2.1)) && (bt372.2.2 == bt375.2.2)) = true then ((spread_Score.f k a0_0 a0_1 a0_2 a1_0 a1_1 a1_2).bind fun bt378 => ((hornbeamref15_Score.f k a0_0 a0_1 a0_2 a1_0 a1_1 a1_2).bind fun bt381 => (if ((bt378.1 == bt381.1 && (bt378.2.1 == bt381.2.1)) && (bt378.2.2 == bt381.2.2)) = true then (if t365 = t367 then (if (t366 == t368) = true then ((spread_Pure.f k a0_0 a0_1 a0_2).bind fun t384 => ((hornbeamref15_Pure.f k a0_0 a0_1 a0_2).bind fun t385 => (some (t384 == t385)))) else (some false)) else (some false)) else (some false)))) else (some false)))) else (some false)))) else (some false)) = some r := H
 have A5 := Aside0.mk A50
 clear A50
 by_cases c6 : t369 = true
 ·subst c6
  have H1 : ((spread_May.f k a0_0 a0_1 a0_2).bind fun t370 => ((hornbeamref15_May.f k a0_0 a0_1 a0_2).bind fun t371 => (if (t370 == t371) = true then ((spread_Alone.f k a0_0 a0_1 a0_2).bind fun bt372 => ((hornbeamref15_Alone.f k a0_0 a0_1 a0_2).bind fun bt375 => (if ((bt372.1 == bt375.1 && (bt372.2.1 == bt375.2.1)) && (bt372.2.2 == bt375.2.2)) = true then ((spread_Score.f k a0_0 a0_1 a0_2 a1_0 a1_1 a1_2).bind fun bt378 => ((hornbeamref15_Score.f k a0_0 a0_1 a0_2 a1_0 a1_1 a1_2).bind fun bt381 => (if ((bt378.1 == bt381.1 && (bt378.2.1 == bt381.2.1)) && (bt378.2.2 == bt381.2.2)) = true then (if t365 = t367 then (if (t366 == t368) = true then ((spread_Pure.f k a0_0 a0_1 a0_2).bind fun t384 => ((hornbeamref15_Pure.f k a0_0 a0_1 a0_2).bind fun t385 => (some (t384 == t385)))) else (some false)) else (some false)) else (some false)))) else (some false)))) else (some false)))) = some r := by rw [if_pos rfl] at H; exact H
  clear H
  have H := H1
  clear H1
  replace H := Option.bind_eq_some_iff.mp H
  obtain ⟨t370, A70, H⟩ := H
  replace H : ((hornbeamref15_May.f k a0_0 a0_1 a0_2).bind fun t371 => (if (t370 == t371) = true then ((spread_Alone.f k a0_0 a0_1 a0_2).bind fun bt372 => ((hornbeamref15_Alone.f k a0_0 a0_1 a0_2).bind fun bt375 => (if ((bt372.1 == bt375.1 && (bt372.2.1 == bt375.2.1)) && (bt372.2.2 == bt375.2.2)) = true then ((spread_Score.f k a0_0 a0_1 a0_2 a1_0 a1_1 a1_2).bind fun bt378 => ((hornbeamref15_Score.f k a0_0 a0_1 a0_2 a1_0 a1_1 a1_2).bind fun bt381 => (if ((bt378.1 == bt381.1 && (bt378.2.1 == bt381.2.1)) && (bt378.2.2 == bt381.2.2)) = true then (if t365 = t367 then (if (t366 == t368) = true then ((spread_Pure.f k a0_0 a0_1 a0_2).bind fun t384 => ((hornbeamref15_Pure.f k a0_0 a0_1 a0_2).bind fun t385 => (some (t384 == t385)))) else (some false)) else (some false)) else (some false)))) else (some false)))) else (some false))) = some r := H
  have A7 := Aside0.mk A70
  clear A70
  replace H := Option.bind_eq_some_iff.mp H
  obtain ⟨t371, A80, H⟩ := H
  replace H : (if (t370 == t371) = true then ((spread_Alone.f k a0_0 a0_1 a0_2).bind fun bt372 => ((hornbeamref15_Alone.f k a0_0 a0_1 a0_2).bind fun bt375 => (if ((bt372.1 == bt375.1 && (bt372.2.1 == bt375.2.1)) && (bt372.2.2 == bt375.2.2)) = true then ((spread_Score.f k a0_0 a0_1 a0_2 a1_0 a1_1 a1_2).bind fun bt378 => ((hornbeamref15_Score.f k a0_0 a0_1 a0_2 a1_0 a1_1 a1_2).bind fun bt381 => (if ((bt378.1 == bt381.1 && (bt378.2.1 == bt381.2.1)) && (bt378.2.2 == bt381.2.2)) = true then (if t365 = t367 then (if (t366 == t368) = true then ((spread_Pure.f k a0_0 a0_1 a0_2).bind fun t384 => ((hornbeamref15_Pure.f k a0_0 a0_1 a0_2).bind fun t385 => (some (t384 == t385)))) else (some false)) else (some false)) else (some false)))) else (some false)))) else (some false)) = some r := H
  have A8 := Aside0.mk A80
  clear A80
  by_cases c9 : (t370 == t371) = true
  ·rw [if_pos c9] at H
   have c9b0 : (t370 == t371) = true := c9
   (try (have c9b1 : decide (t370 = t371) = true := by simpa using c9))
   (try (have c9b2 : (t370 == t371) = true := by simpa using c9))
   clear c9
   replace H := Option.bind_eq_some_iff.mp H
   obtain ⟨⟨t372, t373, t374⟩, A100, H⟩ := H
   replace H : ((hornbeamref15_Alone.f k a0_0 a0_1 a0_2).bind fun bt375 => (if ((t372 == bt375.1 && (t373 == bt375.2.1)) && (t374 == bt375.2.2)) = true then ((spread_Score.f k a0_0 a0_1 a0_2 a1_0 a1_1 a1_2).bind fun bt378 => ((hornbeamref15_Score.f k a0_0 a0_1 a0_2 a1_0 a1_1 a1_2).bind fun bt381 => (if ((bt378.1 == bt381.1 && (bt378.2.1 == bt381.2.1)) && (bt378.2.2 == bt381.2.2)) = true then (if t365 = t367 then (if (t366 == t368) = true then ((spread_Pure.f k a0_0 a0_1 a0_2).bind fun t384 => ((hornbeamref15_Pure.f k a0_0 a0_1 a0_2).bind fun t385 => (some (t384 == t385)))) else (some false)) else (some false)) else (some false)))) else (some false))) = some r := H
   have A10 := Aside0.mk A100
   clear A100
   replace H := Option.bind_eq_some_iff.mp H
   obtain ⟨⟨t375, t376, t377⟩, A110, H⟩ := H
   replace H : (if ((t372 == t375 && (t373 == t376)) && (t374 == t377)) = true then ((spread_Score.f k a0_0 a0_1 a0_2 a1_0 a1_1 a1_2).bind fun bt378 => ((hornbeamref15_Score.f k a0_0 a0_1 a0_2 a1_0 a1_1 a1_2).bind fun bt381 => (if ((bt378.1 == bt381.1 && (bt378.2.1 == bt381.2.1)) && (bt378.2.2 == bt381.2.2)) = true then (if t365 = t367 then (if (t366 == t368) = true then ((spread_Pure.f k a0_0 a0_1 a0_2).bind fun t384 => ((hornbeamref15_Pure.f k a0_0 a0_1 a0_2).bind fun t385 => (some (t384 == t385)))) else (some false)) else (some false)) else (some false)))) else (some false)) = some r := H
   have A11 := Aside0.mk A110
   clear A110
   by_cases c12 : ((t372 == t375 && (t373 == t376)) && (t374 == t377)) = true
   ·rw [if_pos c12] at H
    have c12b0 : ((t372 == t375 && (t373 == t376)) && (t374 == t377)) = true := c12
    clear c12
    replace H := Option.bind_eq_some_iff.mp H
    obtain ⟨⟨t378, t379, t380⟩, A130, H⟩ := H
    replace H : ((hornbeamref15_Score.f k a0_0 a0_1 a0_2 a1_0 a1_1 a1_2).bind fun bt381 => (if ((t378 == bt381.1 && (t379 == bt381.2.1)) && (t380 == bt381.2.2)) = true then (if t365 = t367 then (if (t366 == t368) = true then ((spread_Pure.f k a0_0 a0_1 a0_2).bind fun t384 => ((hornbeamref15_Pure.f k a0_0 a0_1 a0_2).bind fun t385 => (some (t384 == t385)))) else (some false)) else (some false)) else (some false))) = some r := H
    have A13 := Aside0.mk A130
    clear A130
    replace H := Option.bind_eq_some_iff.mp H
    obtain ⟨⟨t381, t382, t383⟩, A140, H⟩ := H
    replace H : (if ((t378 == t381 && (t379 == t382)) && (t380 == t383)) = true then (if t365 = t367 then (if (t366 == t368) = true then ((spread_Pure.f k a0_0 a0_1 a0_2).bind fun t384 => ((hornbeamref15_Pure.f k a0_0 a0_1 a0_2).bind fun t385 => (some (t384 == t385)))) else (some false)) else (some false)) else (some false)) = some r := H
    have A14 := Aside0.mk A140
    clear A140
    by_cases c15 : ((t378 == t381 && (t379 == t382)) && (t380 == t383)) = true
    ·rw [if_pos c15] at H
     have c15b0 : ((t378 == t381 && (t379 == t382)) && (t380 == t383)) = true := c15
     clear c15
     by_cases c16 : t365 = t367
     ·rw [if_pos c16] at H
      have c16b0 : (t365 == t367) = true := beq_iff_eq.mpr c16
      have c16b1 : (t365 != t367) = false := bne_eq_false_iff_eq.mpr c16
      clear c16
      by_cases c17 : (t366 == t368) = true
      ·rw [if_pos c17] at H
       have c17b0 : (t366 == t368) = true := c17
       (try (have c17b1 : decide (t366 = t368) = true := by simpa using c17))
       (try (have c17b2 : (t366 == t368) = true := by simpa using c17))
       clear c17
       replace H := Option.bind_eq_some_iff.mp H
       obtain ⟨t384, A180, H⟩ := H
       replace H : ((hornbeamref15_Pure.f k a0_0 a0_1 a0_2).bind fun t385 => (some (t384 == t385))) = some r := H
       have A18 := Aside0.mk A180
       clear A180
       replace H := Option.bind_eq_some_iff.mp H
       obtain ⟨t385, A190, H⟩ := H
       replace H : (some (t384 == t385)) = some r := H
       have A19 := Aside0.mk A190
       clear A190
       obtain rfl := Option.some.inj H
       go_enter Try.func9, Try.ntmps9
       try go_wp2_with (first | ((with_reducible refine gate_dst (N := 2) rfl ?_); refine box_event ?hg (N := 2) ?hd (cs := #[.int .i64 a0_0, .int .i64 a0_1, .int .i64 a0_2]) (t := 26) ?hr ?_; (case hd => rfl); (case hg => rfl); (case hr => first | (go_simp; done) | (go_simp; rfl)); intro gb363 hg w20 hbox hb; have n0_ := Aside0.mk (lP (by repeat (first | (with_reducible first | exact HB.out | apply lA | apply lN | apply lD) | exact HB.out)) hb); have n1_ := Aside0.mk (hbox); have n2_ := Aside0.mk ((by rw [hg]; exact (lZ (by repeat (first | (with_reducible first | exact HB.out | apply lA | apply lN | apply lD) | exact HB.out))) : w.heap.size ≤ gb363)); have n3_ := Aside0.mk ((by rw [hg]; exact (lZ (by repeat (first | (with_reducible first | exact HB.out | apply lA | apply lN | apply lD) | exact HB.out))) : w.heap.size ≤ gb363)); clear HB; have HB := n0_; have BK363 := n1_; have GW363 := n2_; have GE363 := n3_; clear n0_ n1_ n2_ n3_; clear hb hbox hg) | ((with_reducible refine gate_dst (N := 3) rfl ?_); refine box_event ?hg (N := 3) ?hd (cs := #[.int .i64 a1_0, .int .i64 a1_1, .int .i64 a1_2]) (t := 26) ?hr ?_; (case hd => rfl); (case hg => rfl); (case hr => first | (go_simp; done) | (go_simp; rfl)); intro gb364 hg w21 hbox hb; have n0_ := Aside0.mk (bB (g := gb363) (o := .cells #[.int .i64 a0_0, .int .i64 a0_1, .int .i64 a0_2] 26 (0, 0)) (by (with_reducible repeat (first | refine bN ?_ _ | refine bD ?_ | refine bA ?_ _)); exact BK363.out) hb); have n1_ := Aside0.mk (lP (by repeat (first | (with_reducible first | exact HB.out | apply lA | apply lN | apply lD | refine lS ?_ GE363.out) | exact HB.out)) hb); have n2_ := Aside0.mk (hbox); have n3_ := Aside0.mk ((by rw [hg]; exact (lZ (by repeat (first | (with_reducible first | exact HB.out | apply lA | apply lN | apply lD | refine lS ?_ GE363.out) | exact HB.out))) : w.heap.size ≤ gb364)); have n4_ := Aside0.mk ((by rw [hg]; exact (lZ (by repeat (first | (with_reducible first | exact HB.out | apply lA | apply lN | apply lD | refine lS ?_ GE363.out) | exact HB.out))) : w.heap.size ≤ gb364)); have n5_ := Aside0.mk ((by rw [hg]; exact Nat.ne_of_lt (bL (g := gb363) (o := .cells #[.int .i64 a0_0, .int .i64 a0_1, .int .i64 a0_2] 26 (0, 0)) (by (with_reducible repeat (first | refine bN ?_ _ | refine bD ?_ | refine bA ?_ _)); exact BK363.out)) : gb363 ≠ gb364)); have n6_ := Aside0.mk ((by rw [hg]; exact Nat.ne_of_gt (bL (g := gb363) (o := .cells #[.int .i64 a0_0, .int .i64 a0_1, .int .i64 a0_2] 26 (0, 0)) (by (with_reducible repeat (first | refine bN ?_ _ | refine bD ?_ | refine bA ?_ _)); exact BK363.out)) : gb364 ≠ gb363)); clear BK363; clear HB; have BK363 := n0_; have HB := n1_; have BK364 := n2_; have GW364 := n3_; have GE364 := n4_; have NB363_364 := n5_; have NB364_363 := n6_; clear n0_ n1_ n2_ n3_ n4_ n5_ n6_; clear hb hbox hg; have hnb22 := NB363_364.out; have hnc22 := NB364_363.out; have hcz23_0 : w21.cell? ⟨gb363, 0, none⟩ = some (.int .i64 a0_0) := (bC BK363.out 0).trans rfl; have hcz23_1 : w21.cell? ⟨gb363, 1, none⟩ = some (.int .i64 a0_1) := (bC BK363.out 1).trans rfl; have hcz23_2 : w21.cell? ⟨gb363, 2, none⟩ = some (.int .i64 a0_2) := (bC BK363.out 2).trans rfl; have hfz23_0 := bF BK363.out 0; have hfz23_1 := bF BK363.out 1; have hfz23_2 := bF BK363.out 2) | ((with_reducible refine gate_callee (f := 16) rfl ?_); refine goesL_ (some 11) rfl rfl Try.func16 (by kernel_rfl) rfl #[.agg #[.int .i64 a0_0, .int .i64 a0_1, .int .i64 a0_2]] rfl (by (try simp only [List.map_toArray, List.map_cons, List.map_nil]); first | done | rfl | (simp only [List.length_drop, List.length_take]; rfl)) ?_; (with_reducible refine (spread_Mean.calls k a0_0 a0_1 a0_2 t365 t366 _ A3.out).mono ?_); rintro e w24 ⟨rfl, hb⟩; refine ⟨_, rfl, ?_⟩; have n0_ := Aside0.mk (bB (g := gb363) (o := .cells #[.int .i64 a0_0, .int .i64 a0_1, .int .i64 a0_2] 26 (0, 0)) (by (with_reducible repeat (first | refine bN ?_ _ | refine bD ?_ | refine bA ?_ _)); exact BK363.out) hb); have n1_ := Aside0.mk (bB (g := gb364) (o := .cells #[.int .i64 a1_0, .int .i64 a1_1, .int .i64 a1_2] 26 (0, 0)) (by (with_reducible repeat (first | refine bN ?_ _ | refine bD ?_ | refine bA ?_ _)); exact BK364.out) hb); have n2_ := Aside0.mk (lP (by repeat (first | (with_reducible first | exact HB.out | apply lA | apply lN | apply lD | refine lS ?_ GE363.out | refine lS ?_ GE364.out) | exact HB.out)) hb); clear BK363; clear BK364; clear HB; have BK363 := n0_; have BK364 := n1_; have HB := n2_; clear n0_ n1_ n2_; (try clear hb); (try clear hb2); (try clear hk); (try clear hi); have hcz25_0 : w24.cell? ⟨gb363, 0, none⟩ = some (.int .i64 a0_0) := (bC BK363.out 0).trans rfl; have hcz25_1 : w24.cell? ⟨gb363, 1, none⟩ = some (.int .i64 a0_1) := (bC BK363.out 1).trans rfl; have hcz25_2 : w24.cell? ⟨gb363, 2, none⟩ = some (.int .i64 a0_2) := (bC BK363.out 2).trans rfl; have hfz25_0 := bF BK363.out 0; have hfz25_1 := bF BK363.out 1; have hfz25_2 := bF BK363.out 2) | ((with_reducible refine gate_callee (f := 28) rfl ?_); refine goesL_ (some 16) rfl rfl Try.func28 (by kernel_rfl) rfl #[.agg #[.int .i64 a0_0, .int .i64 a0_1, .int .i64 a0_2]] rfl (by (try simp only [List.map_toArray, List.map_cons, List.map_nil]); first | done | rfl | (simp only [List.length_drop, List.length_take]; rfl)) ?_; (with_reducible refine (hornbeamref15_Mean.calls k a0_0 a0_1 a0_2 t367 t368 _ A4.out).mono ?_); rintro e w26 ⟨rfl, hb⟩; refine ⟨_, rfl, ?_⟩; have n0_ := Aside0.mk (bB (g := gb363) (o := .cells #[.int .i64 a0_0, .int .i64 a0_1, .int .i64 a0_2] 26 (0, 0)) (by (with_reducible repeat (first | refine bN ?_ _ | refine bD ?_ | refine bA ?_ _)); exact BK363.out) hb); have n1_ := Aside0.mk (bB (g := gb364) (o := .cells #[.int .i64 a1_0, .int .i64 a1_1, .int .i64 a1_2] 26 (0, 0)) (by (with_reducible repeat (first | refine bN ?_ _ | refine bD ?_ | refine bA ?_ _)); exact BK364.out) hb); have n2_ := Aside0.mk (lP (by repeat (first | (with_reducible first | exact HB.out | apply lA | apply lN | apply lD | refine lS ?_ GE363.out | refine lS ?_ GE364.out) | exact HB.out)) hb); clear BK363; clear BK364; clear HB; have BK363 := n0_; have BK364 := n1_; have HB := n2_; clear n0_ n1_ n2_; (try clear hb); (try clear hb2); (try clear hk); (try clear hi)))
       have n0_ := Aside0.mk (bD BK363.out)
       have n1_ := Aside0.mk (bD BK364.out)
       have n2_ := Aside0.mk (lD HB.out)
       clear BK363 BK364 HB
       have BK363 := n0_; have BK364 := n1_; have HB := n2_
       clear n0_ n1_ n2_
       refine start_ (n := 42) (S := fun w' => w'.cell? ⟨gb363, 0, none⟩ = some (.int .i64 a0_0) ∧ w'.cell? ⟨gb363, 1, none⟩ = some (.int .i64 a0_1) ∧ w'.cell? ⟨gb363, 2, none⟩ = some (.int .i64 a0_2) ∧ w'.cell? ⟨gb364, 0, none⟩ = some (.int .i64 a1_0) ∧ w'.cell? ⟨gb364, 1, none⟩ = some (.int .i64 a1_1) ∧ w'.cell? ⟨gb364, 2, none⟩ = some (.int .i64 a1_2)) (ds := []) #[false, false, false, false, false, false, false, false, false, false, false, false, false, false, false, false, false, false, false, false, false, false, false, false, false, false, false, false, false, false, false, false, false, false, false, false, false, false, false, false, false, false] (by kernel_rfl) rfl rfl ⟨(bC BK363.out 0).trans rfl, (bC BK363.out 1).trans rfl, (bC BK363.out 2).trans rfl, (bC BK364.out 0).trans rfl, (bC BK364.out 1).trans rfl, (bC BK364.out 2).trans rfl⟩ (fun hHeld => ?_); refine with_tabW hornbeamlaw15_SpreadScores.tab3 hornbeamlaw15_SpreadScores.bits3 (fun HT_ HW_ => ?_)
       generalize w26.drew = w27 at BK363 BK364 HB hHeld ⊢
       refine one_ (i := 0) (N := some 19) #[true, false, false, false, false, false, false, false, false, false, false, false, false, false, false, false, false, false, false, false, false, false, false, false, false, false, false, false, false, false, false, false, false, false, false, false, false, false, false, false, false, false] rfl rfl (one_of HT_.out (by kernel_rfl)) (by decide) (fun K hK => ?_)
       refine goes_ Try.func14 (by kernel_rfl) rfl #[] (by rfl) rfl rfl (by (try simp only [List.map_toArray, List.map_cons, List.map_nil]); first | done | rfl | (simp only [List.length_drop, List.length_take]; rfl)) ?_
       with_reducible refine (hornbeamlaw15_fixed.calls k  true _ A5.out).mono ?_
       rintro e w28 ⟨rfl, hb⟩
       refine ⟨_, rfl, ?_⟩
       have n0_ := Aside0.mk (bB (g := gb363) (o := .cells #[.int .i64 a0_0, .int .i64 a0_1, .int .i64 a0_2] 26 (0, 0)) (by (with_reducible repeat (first | refine bN ?_ _ | refine bD ?_ | refine bA ?_ _)); exact BK363.out) hb)
       have n1_ := Aside0.mk (bB (g := gb364) (o := .cells #[.int .i64 a1_0, .int .i64 a1_1, .int .i64 a1_2] 26 (0, 0)) (by (with_reducible repeat (first | refine bN ?_ _ | refine bD ?_ | refine bA ?_ _)); exact BK364.out) hb)
       have n2_ := Aside0.mk (lP (by repeat (first | (with_reducible first | exact HB.out | apply lA | apply lN | apply lD | refine lS ?_ GE363.out | refine lS ?_ GE364.out) | exact HB.out)) hb)
       clear BK363 BK364 HB
       have BK363 := n0_; have BK364 := n1_; have HB := n2_
       clear n0_ n1_ n2_
       (try clear hb)
       (try clear hb2)
       (try clear hk)
       (try clear hi)
       refine hK.out _ _ ⟨(bC BK363.out 0).trans rfl, (bC BK363.out 1).trans rfl, (bC BK363.out 2).trans rfl, (bC BK364.out 0).trans rfl, (bC BK364.out 1).trans rfl, (bC BK364.out 2).trans rfl⟩ (fun hHeld => ?_)
       clear hK K
       refine norm_ (a' := ?_) ?_ ?_
       rotate_left
       ·show Act.put _ (some 19) _ = _
        simp only [Act.put, List.setIfInBounds_toArray, List.set_cons_zero, List.set_cons_succ, i64_w, i32_w]
        rfl
       refine pure_ (i := 1) (N := some 20) (v := ?_) (a' := ?_) #[true, true, false, false, false, false, false, false, false, false, false, false, false, false, false, false, false, false, false, false, false, false, false, false, false, false, false, false, false, false, false, false, false, false, false, false, false, false, false, false, false, false] rfl rfl (any_of HT_.out (by kernel_rfl)) (fun _ _ _ h => h) (Or.inl ⟨by rfl, ?_⟩) ?_ ?_
       rotate_left
       ·intro w'
        go_simp
        with_reducible rfl
       rotate_left
       ·simp only [Act.put, List.setIfInBounds_toArray, List.set_cons_zero, List.set_cons_succ, i64_w, i32_w]
        rfl
       refine take_ (i := 2) (N := some 21) (v := ?_) (a' := ?_) #[true, true, true, false, false, false, false, false, false, false, false, false, false, false, false, false, false, false, false, false, false, false, false, false, false, false, false, false, false, false, false, false, false, false, false, false, false, false, false, false, false, false] rfl rfl (take_ofW HT_.out HW_.out (by kernel_rfl)) (fun _ _ _ h => h) (Or.inl ⟨by rfl, ?_⟩) hHeld ?_ ?_
       rotate_left
       ·rintro w' ⟨s0, s1, s2, s3, s4, s5⟩
        go_simp
        with_reducible rfl
       rotate_left
       ·simp only [Act.put, List.setIfInBounds_toArray, List.set_cons_zero, List.set_cons_succ, i64_w, i32_w]
        rfl
       refine take_ (i := 4) (N := some 23) (v := ?_) (a' := ?_) #[true, true, true, false, true, false, false, false, false, false, false, false, false, false, false, false, false, false, false, false, false, false, false, false, false, false, false, false, false, false, false, false, false, false, false, false, false, false, false, false, false, false] rfl rfl (take_ofW HT_.out HW_.out (by kernel_rfl)) (fun _ _ _ h => h) (Or.inl ⟨by rfl, ?_⟩) hHeld ?_ ?_
       rotate_left
       ·rintro w' ⟨s0, s1, s2, s3, s4, s5⟩
        go_simp
        with_reducible rfl
       rotate_left
       ·simp only [Act.put, List.setIfInBounds_toArray, List.set_cons_zero, List.set_cons_succ, i64_w, i32_w]
        rfl
       refine one_ (i := 3) (N := some 22) #[true, true, true, true, true, false, false, false, false, false, false, false, false, false, false, false, false, false, false, false, false, false, false, false, false, false, false, false, false, false, false, false, false, false, false, false, false, false, false, false, false, false] rfl rfl (one_of HT_.out (by kernel_rfl)) (by decide) (fun K hK => ?_)
       refine goes_ Try.func17 (by kernel_rfl) rfl #[.agg #[.int .i64 a0_0, .int .i64 a0_1, .int .i64 a0_2]] (by rfl) rfl rfl (by (try simp only [List.map_toArray, List.map_cons, List.map_nil]); first | done | rfl | (simp only [List.length_drop, List.length_take]; rfl)) ?_
       with_reducible refine (spread_May.calls k a0_0 a0_1 a0_2 t370 _ A7.out).mono ?_
       rintro e w29 ⟨rfl, hb⟩
       refine ⟨_, rfl, ?_⟩
       have n0_ := Aside0.mk (bB (g := gb363) (o := .cells #[.int .i64 a0_0, .int .i64 a0_1, .int .i64 a0_2] 26 (0, 0)) (by (with_reducible repeat (first | refine bN ?_ _ | refine bD ?_ | refine bA ?_ _)); exact BK363.out) hb)
       have n1_ := Aside0.mk (bB (g := gb364) (o := .cells #[.int .i64 a1_0, .int .i64 a1_1, .int .i64 a1_2] 26 (0, 0)) (by (with_reducible repeat (first | refine bN ?_ _ | refine bD ?_ | refine bA ?_ _)); exact BK364.out) hb)
       have n2_ := Aside0.mk (lP (by repeat (first | (with_reducible first | exact HB.out | apply lA | apply lN | apply lD | refine lS ?_ GE363.out | refine lS ?_ GE364.out) | exact HB.out)) hb)
       clear BK363 BK364 HB
       have BK363 := n0_; have BK364 := n1_; have HB := n2_
       clear n0_ n1_ n2_
       (try clear hb)
       (try clear hb2)
       (try clear hk)
       (try clear hi)
       refine hK.out _ _ ⟨(bC BK363.out 0).trans rfl, (bC BK363.out 1).trans rfl, (bC BK363.out 2).trans rfl, (bC BK364.out 0).trans rfl, (bC BK364.out 1).trans rfl, (bC BK364.out 2).trans rfl⟩ (fun hHeld => ?_)
       clear hK K
       refine norm_ (a' := ?_) ?_ ?_
       rotate_left
       ·show Act.put _ (some 22) _ = _
        simp only [Act.put, List.setIfInBounds_toArray, List.set_cons_zero, List.set_cons_succ, i64_w, i32_w]
        rfl
       refine one_ (i := 5) (N := some 24) #[true, true, true, true, true, true, false, false, false, false, false, false, false, false, false, false, false, false, false, false, false, false, false, false, false, false, false, false, false, false, false, false, false, false, false, false, false, false, false, false, false, false] rfl rfl (one_of HT_.out (by kernel_rfl)) (by decide) (fun K hK => ?_)
       refine goes_ Try.func29 (by kernel_rfl) rfl #[.agg #[.int .i64 a0_0, .int .i64 a0_1, .int .i64 a0_2]] (by rfl) rfl rfl (by (try simp only [List.map_toArray, List.map_cons, List.map_nil]); first | done | rfl | (simp only [List.length_drop, List.length_take]; rfl)) ?_
       with_reducible refine (hornbeamref15_May.calls k a0_0 a0_1 a0_2 t371 _ A8.out).mono ?_
       rintro e w30 ⟨rfl, hb⟩
       refine ⟨_, rfl, ?_⟩
       have n0_ := Aside0.mk (bB (g := gb363) (o := .cells #[.int .i64 a0_0, .int .i64 a0_1, .int .i64 a0_2] 26 (0, 0)) (by (with_reducible repeat (first | refine bN ?_ _ | refine bD ?_ | refine bA ?_ _)); exact BK363.out) hb)
       have n1_ := Aside0.mk (bB (g := gb364) (o := .cells #[.int .i64 a1_0, .int .i64 a1_1, .int .i64 a1_2] 26 (0, 0)) (by (with_reducible repeat (first | refine bN ?_ _ | refine bD ?_ | refine bA ?_ _)); exact BK364.out) hb)
       have n2_ := Aside0.mk (lP (by repeat (first | (with_reducible first | exact HB.out | apply lA | apply lN | apply lD | refine lS ?_ GE363.out | refine lS ?_ GE364.out) | exact HB.out)) hb)
       clear BK363 BK364 HB
       have BK363 := n0_; have BK364 := n1_; have HB := n2_
       clear n0_ n1_ n2_
       (try clear hb)
       (try clear hb2)
       (try clear hk)
       (try clear hi)
       refine hK.out _ _ ⟨(bC BK363.out 0).trans rfl, (bC BK363.out 1).trans rfl, (bC BK363.out 2).trans rfl, (bC BK364.out 0).trans rfl, (bC BK364.out 1).trans rfl, (bC BK364.out 2).trans rfl⟩ (fun hHeld => ?_)
       clear hK K
       refine norm_ (a' := ?_) ?_ ?_
       rotate_left
       ·show Act.put _ (some 24) _ = _
        simp only [Act.put, List.setIfInBounds_toArray, List.set_cons_zero, List.set_cons_succ, i64_w, i32_w]
        rfl
       refine pure_ (i := 6) (N := some 25) (v := ?_) (a' := ?_) #[true, true, true, true, true, true, true, false, false, false, false, false, false, false, false, false, false, false, false, false, false, false, false, false, false, false, false, false, false, false, false, false, false, false, false, false, false, false, false, false, false, false] rfl rfl (any_of HT_.out (by kernel_rfl)) (fun _ _ _ h => h) (Or.inl ⟨by rfl, ?_⟩) ?_ ?_
       rotate_left
       ·intro w'
        go_simp
        with_reducible rfl
       rotate_left
       ·simp only [Act.put, List.setIfInBounds_toArray, List.set_cons_zero, List.set_cons_succ, i64_w, i32_w]
        rfl
       refine pure_ (i := 7) (N := some 26) (v := ?_) (a' := ?_) #[true, true, true, true, true, true, true, true, false, false, false, false, false, false, false, false, false, false, false, false, false, false, false, false, false, false, false, false, false, false, false, false, false, false, false, false, false, false, false, false, false, false] rfl rfl (any_of HT_.out (by kernel_rfl)) (fun _ _ _ h => h) (Or.inl ⟨by rfl, ?_⟩) ?_ ?_
       rotate_left
       ·intro w'
        go_simp
        with_reducible rfl
       rotate_left
       ·simp only [Act.put, List.setIfInBounds_toArray, List.set_cons_zero, List.set_cons_succ, i64_w, i32_w]
        rfl
       refine pure_ (i := 8) (N := some 27) (v := ?_) (a' := ?_) #[true, true, true, true, true, true, true, true, true, false, false, false, false, false, false, false, false, false, false, false, false, false, false, false, false, false, false, false, false, false, false, false, false, false, false, false, false, false, false, false, false, false] rfl rfl (any_of HT_.out (by kernel_rfl)) (fun _ _ _ h => h) (Or.inl ⟨by rfl, ?_⟩) ?_ ?_
       rotate_left
       ·intro w'
        go_simp
        with_reducible rfl
       rotate_left
       ·simp only [Act.put, List.setIfInBounds_toArray, List.set_cons_zero, List.set_cons_succ, i64_w, i32_w]
        rfl
       refine take_ (i := 9) (N := some 28) (v := ?_) (a' := ?_) #[true, true, true, true, true, true, true, true, true, true, false, false, false, false, false, false, false, false, false, false, false, false, false, false, false, false, false, false, false, false, false, false, false, false, false, false, false, false, false, false, false, false] rfl rfl (take_ofW HT_.out HW_.out (by kernel_rfl)) (fun _ _ _ h => h) (Or.inl ⟨by rfl, ?_⟩) hHeld ?_ ?_
       rotate_left
       ·rintro w' ⟨s0, s1, s2, s3, s4, s5⟩
        go_simp
        with_reducible rfl
       rotate_left
       ·simp only [Act.put, List.setIfInBounds_toArray, List.set_cons_zero, List.set_cons_succ, i64_w, i32_w]
        rfl
       refine take_ (i := 11) (N := some 30) (v := ?_) (a' := ?_) #[true, true, true, true, true, true, true, true, true, true, false, true, false, false, false, false, false, false, false, false, false, false, false, false, false, false, false, false, false, false, false, false, false, false, false, false, false, false, false, false, false, false] rfl rfl (take_ofW HT_.out HW_.out (by kernel_rfl)) (fun _ _ _ h => h) (Or.inl ⟨by rfl, ?_⟩) hHeld ?_ ?_
       rotate_left
       ·rintro w' ⟨s0, s1, s2, s3, s4, s5⟩
        go_simp
        with_reducible rfl
       rotate_left
       ·simp only [Act.put, List.setIfInBounds_toArray, List.set_cons_zero, List.set_cons_succ, i64_w, i32_w]
        rfl
       refine one_ (i := 10) (N := some 29) #[true, true, true, true, true, true, true, true, true, true, true, true, false, false, false, false, false, false, false, false, false, false, false, false, false, false, false, false, false, false, false, false, false, false, false, false, false, false, false, false, false, false] rfl rfl (one_of HT_.out (by kernel_rfl)) (by decide) (fun K hK => ?_)
       refine goes_ Try.func20 (by kernel_rfl) rfl #[.agg #[.int .i64 a0_0, .int .i64 a0_1, .int .i64 a0_2]] (by rfl) rfl rfl (by (try simp only [List.map_toArray, List.map_cons, List.map_nil]); first | done | rfl | (simp only [List.length_drop, List.length_take]; rfl)) ?_
       with_reducible refine (spread_Alone.calls k a0_0 a0_1 a0_2 t372 t373 t374 _ A10.out).mono ?_
       rintro e w31 ⟨rfl, hb⟩
       refine ⟨_, rfl, ?_⟩
       have n0_ := Aside0.mk (bB (g := gb363) (o := .cells #[.int .i64 a0_0, .int .i64 a0_1, .int .i64 a0_2] 26 (0, 0)) (by (with_reducible repeat (first | refine bN ?_ _ | refine bD ?_ | refine bA ?_ _)); exact BK363.out) hb)
       have n1_ := Aside0.mk (bB (g := gb364) (o := .cells #[.int .i64 a1_0, .int .i64 a1_1, .int .i64 a1_2] 26 (0, 0)) (by (with_reducible repeat (first | refine bN ?_ _ | refine bD ?_ | refine bA ?_ _)); exact BK364.out) hb)
       have n2_ := Aside0.mk (lP (by repeat (first | (with_reducible first | exact HB.out | apply lA | apply lN | apply lD | refine lS ?_ GE363.out | refine lS ?_ GE364.out) | exact HB.out)) hb)
       clear BK363 BK364 HB
       have BK363 := n0_; have BK364 := n1_; have HB := n2_
       clear n0_ n1_ n2_
       (try clear hb)
       (try clear hb2)
       (try clear hk)
       (try clear hi)
       refine hK.out _ _ ⟨(bC BK363.out 0).trans rfl, (bC BK363.out 1).trans rfl, (bC BK363.out 2).trans rfl, (bC BK364.out 0).trans rfl, (bC BK364.out 1).trans rfl, (bC BK364.out 2).trans rfl⟩ (fun hHeld => ?_)
       clear hK K
       refine norm_ (a' := ?_) ?_ ?_
       rotate_left
       ·show Act.put _ (some 29) _ = _
        simp only [Act.put, List.setIfInBounds_toArray, List.set_cons_zero, List.set_cons_succ, i64_w, i32_w]
        rfl
       refine one_ (i := 12) (N := some 31) #[true, true, true, true, true, true, true, true, true, true, true, true, true, false, false, false, false, false, false, false, false, false, false, false, false, false, false, false, false, false, false, false, false, false, false, false, false, false, false, false, false, false] rfl rfl (one_of HT_.out (by kernel_rfl)) (by decide) (fun K hK => ?_)
       refine goes_ Try.func30 (by kernel_rfl) rfl #[.agg #[.int .i64 a0_0, .int .i64 a0_1, .int .i64 a0_2]] (by rfl) rfl rfl (by (try simp only [List.map_toArray, List.map_cons, List.map_nil]); first | done | rfl | (simp only [List.length_drop, List.length_take]; rfl)) ?_
       with_reducible refine (hornbeamref15_Alone.calls k a0_0 a0_1 a0_2 t375 t376 t377 _ A11.out).mono ?_
       rintro e w32 ⟨rfl, hb⟩
       refine ⟨_, rfl, ?_⟩
       have n0_ := Aside0.mk (bB (g := gb363) (o := .cells #[.int .i64 a0_0, .int .i64 a0_1, .int .i64 a0_2] 26 (0, 0)) (by (with_reducible repeat (first | refine bN ?_ _ | refine bD ?_ | refine bA ?_ _)); exact BK363.out) hb)
       have n1_ := Aside0.mk (bB (g := gb364) (o := .cells #[.int .i64 a1_0, .int .i64 a1_1, .int .i64 a1_2] 26 (0, 0)) (by (with_reducible repeat (first | refine bN ?_ _ | refine bD ?_ | refine bA ?_ _)); exact BK364.out) hb)
       have n2_ := Aside0.mk (lP (by repeat (first | (with_reducible first | exact HB.out | apply lA | apply lN | apply lD | refine lS ?_ GE363.out | refine lS ?_ GE364.out) | exact HB.out)) hb)
       clear BK363 BK364 HB
       have BK363 := n0_; have BK364 := n1_; have HB := n2_
       clear n0_ n1_ n2_
       (try clear hb)
       (try clear hb2)
       (try clear hk)
       (try clear hi)
       refine hK.out _ _ ⟨(bC BK363.out 0).trans rfl, (bC BK363.out 1).trans rfl, (bC BK363.out 2).trans rfl, (bC BK364.out 0).trans rfl, (bC BK364.out 1).trans rfl, (bC BK364.out 2).trans rfl⟩ (fun hHeld => ?_)
       clear hK K
       refine norm_ (a' := ?_) ?_ ?_
       rotate_left
       ·show Act.put _ (some 31) _ = _
        simp only [Act.put, List.setIfInBounds_toArray, List.set_cons_zero, List.set_cons_succ, i64_w, i32_w]
        rfl
       refine pure_ (i := 13) (N := some 32) (v := ?_) (a' := ?_) #[true, true, true, true, true, true, true, true, true, true, true, true, true, true, false, false, false, false, false, false, false, false, false, false, false, false, false, false, false, false, false, false, false, false, false, false, false, false, false, false, false, false] rfl rfl (any_of HT_.out (by kernel_rfl)) (fun _ _ _ h => h) (Or.inl ⟨by rfl, ?_⟩) ?_ ?_
       rotate_left
       ·intro w'
        go_simp
        with_reducible rfl
       rotate_left
       ·simp only [Act.put, List.setIfInBounds_toArray, List.set_cons_zero, List.set_cons_succ, i64_w, i32_w]
        rfl
       refine pure_ (i := 14) (N := some 33) (v := ?_) (a' := ?_) #[true, true, true, true, true, true, true, true, true, true, true, true, true, true, true, false, false, false, false, false, false, false, false, false, false, false, false, false, false, false, false, false, false, false, false, false, false, false, false, false, false, false] rfl rfl (any_of HT_.out (by kernel_rfl)) (fun _ _ _ h => h) (Or.inl ⟨by rfl, ?_⟩) ?_ ?_
       rotate_left
       ·intro w'
        go_simp
        with_reducible rfl
       rotate_left
       ·simp only [Act.put, List.setIfInBounds_toArray, List.set_cons_zero, List.set_cons_succ, i64_w, i32_w]
        rfl
       refine pure_ (i := 15) (N := some 34) (v := ?_) (a' := ?_) #[true, true, true, true, true, true, true, true, true, true, true, true, true, true, true, true, false, false, false, false, false, false, false, false, false, false, false, false, false, false, false, false, false, false, false, false, false, false, false, false, false, false] rfl rfl (any_of HT_.out (by kernel_rfl)) (fun _ _ _ h => h) (Or.inl ⟨by rfl, ?_⟩) ?_ ?_
       rotate_left
       ·intro w'
        go_simp
        with_reducible rfl
       rotate_left
       ·simp only [Act.put, List.setIfInBounds_toArray, List.set_cons_zero, List.set_cons_succ, i64_w, i32_w]
        rfl
       refine take_ (i := 16) (N := some 35) (v := ?_) (a' := ?_) #[true, true, true, true, true, true, true, true, true, true, true, true, true, true, true, true, true, false, false, false, false, false, false, false, false, false, false, false, false, false, false, false, false, false, false, false, false, false, false, false, false, false] rfl rfl (take_ofW HT_.out HW_.out (by kernel_rfl)) (fun _ _ _ h => h) (Or.inl ⟨by rfl, ?_⟩) hHeld ?_ ?_
       rotate_left
       ·rintro w' ⟨s0, s1, s2, s3, s4, s5⟩
        go_simp
        with_reducible rfl
       rotate_left
       ·simp only [Act.put, List.setIfInBounds_toArray, List.set_cons_zero, List.set_cons_succ, i64_w, i32_w]
        rfl
       refine take_ (i := 17) (N := some 36) (v := ?_) (a' := ?_) #[true, true, true, true, true, true, true, true, true, true, true, true, true, true, true, true, true, true, false, false, false, false, false, false, false, false, false, false, false, false, false, false, false, false, false, false, false, false, false, false, false, false] rfl rfl (take_ofW HT_.out HW_.out (by kernel_rfl)) (fun _ _ _ h => h) (Or.inl ⟨by rfl, ?_⟩) hHeld ?_ ?_
       rotate_left
       ·rintro w' ⟨s0, s1, s2, s3, s4, s5⟩
        go_simp
        with_reducible rfl
       rotate_left
       ·simp only [Act.put, List.setIfInBounds_toArray, List.set_cons_zero, List.set_cons_succ, i64_w, i32_w]
        rfl
       refine take_ (i := 19) (N := some 38) (v := ?_) (a' := ?_) #[true, true, true, true, true, true, true, true, true, true, true, true, true, true, true, true, true, true, false, true, false, false, false, false, false, false, false, false, false, false, false, false, false, false, false, false, false, false, false, false, false, false] rfl rfl (take_ofW HT_.out HW_.out (by kernel_rfl)) (fun _ _ _ h => h) (Or.inl ⟨by rfl, ?_⟩) hHeld ?_ ?_
       rotate_left
       ·rintro w' ⟨s0, s1, s2, s3, s4, s5⟩
        go_simp
        with_reducible rfl
       rotate_left
       ·simp only [Act.put, List.setIfInBounds_toArray, List.set_cons_zero, List.set_cons_succ, i64_w, i32_w]
        rfl
       refine take_ (i := 20) (N := some 39) (v := ?_) (a' := ?_) #[true, true, true, true, true, true, true, true, true, true, true, true, true, true, true, true, true, true, false, true, true, false, false, false, false, false, false, false, false, false, false, false, false, false, false, false, false, false, false, false, false, false] rfl rfl (take_ofW HT_.out HW_.out (by kernel_rfl)) (fun _ _ _ h => h) (Or.inl ⟨by rfl, ?_⟩) hHeld ?_ ?_
       rotate_left
       ·rintro w' ⟨s0, s1, s2, s3, s4, s5⟩
        go_simp
        with_reducible rfl
       rotate_left
       ·simp only [Act.put, List.setIfInBounds_toArray, List.set_cons_zero, List.set_cons_succ, i64_w, i32_w]
        rfl
       refine one_ (i := 18) (N := some 37) #[true, true, true, true, true, true, true, true, true, true, true, true, true, true, true, true, true, true, true, true, true, false, false, false, false, false, false, false, false, false, false, false, false, false, false, false, false, false, false, false, false, false] rfl rfl (one_of HT_.out (by kernel_rfl)) (by decide) (fun K hK => ?_)
       refine goes_ Try.func26 (by kernel_rfl) rfl #[.agg #[.int .i64 a0_0, .int .i64 a0_1, .int .i64 a0_2], .agg #[.int .i64 a1_0, .int .i64 a1_1, .int .i64 a1_2]] (by rfl) rfl rfl (by (try simp only [List.map_toArray, List.map_cons, List.map_nil]); first | done | rfl | (simp only [List.length_drop, List.length_take]; rfl)) ?_
       with_reducible refine (spread_Score.calls k a0_0 a0_1 a0_2 a1_0 a1_1 a1_2 t378 t379 t380 _ A13.out).mono ?_
       rintro e w33 ⟨rfl, hb⟩
       refine ⟨_, rfl, ?_⟩
       have n0_ := Aside0.mk (bB (g := gb363) (o := .cells #[.int .i64 a0_0, .int .i64 a0_1, .int .i64 a0_2] 26 (0, 0)) (by (with_reducible repeat (first | refine bN ?_ _ | refine bD ?_ | refine bA ?_ _)); exact BK363.out) hb)
       have n1_ := Aside0.mk (bB (g := gb364) (o := .cells #[.int .i64 a1_0, .int .i64 a1_1, .int .i64 a1_2] 26 (0, 0)) (by (with_reducible repeat (first | refine bN ?_ _ | refine bD ?_ | refine bA ?_ _)); exact BK364.out) hb)
       have n2_ := Aside0.mk (lP (by repeat (first | (with_reducible first | exact HB.out | apply lA | apply lN | apply lD | refine lS ?_ GE363.out | refine lS ?_ GE364.out) | exact HB.out)) hb)
       clear BK363 BK364 HB
       have BK363 := n0_; have BK364 := n1_; have HB := n2_
       clear n0_ n1_ n2_
       (try clear hb)
       (try clear hb2)
       (try clear hk)
       (try clear hi)
       refine hK.out _ _ ⟨(bC BK363.out 0).trans rfl, (bC BK363.out 1).trans rfl, (bC BK363.out 2).trans rfl, (bC BK364.out 0).trans rfl, (bC BK364.out 1).trans rfl, (bC BK364.out 2).trans rfl⟩ (fun hHeld => ?_)
       clear hK K
       refine norm_ (a' := ?_) ?_ ?_
       rotate_left
       ·show Act.put _ (some 37) _ = _
        simp only [Act.put, List.setIfInBounds_toArray, List.set_cons_zero, List.set_cons_succ, i64_w, i32_w]
        rfl
       refine one_ (i := 21) (N := some 40) #[true, true, true, true, true, true, true, true, true, true, true, true, true, true, true, true, true, true, true, true, true, true, false, false, false, false, false, false, false, false, false, false, false, false, false, false, false, false, false, false, false, false] rfl rfl (one_of HT_.out (by kernel_rfl)) (by decide) (fun K hK => ?_)
       refine goes_ Try.func31 (by kernel_rfl) rfl #[.agg #[.int .i64 a0_0, .int .i64 a0_1, .int .i64 a0_2], .agg #[.int .i64 a1_0, .int .i64 a1_1, .int .i64 a1_2]] (by rfl) rfl rfl (by (try simp only [List.map_toArray, List.map_cons, List.map_nil]); first | done | rfl | (simp only [List.length_drop, List.length_take]; rfl)) ?_
       with_reducible refine (hornbeamref15_Score.calls k a0_0 a0_1 a0_2 a1_0 a1_1 a1_2 t381 t382 t383 _ A14.out).mono ?_
       rintro e w34 ⟨rfl, hb⟩
       refine ⟨_, rfl, ?_⟩
       have n0_ := Aside0.mk (bB (g := gb363) (o := .cells #[.int .i64 a0_0, .int .i64 a0_1, .int .i64 a0_2] 26 (0, 0)) (by (with_reducible repeat (first | refine bN ?_ _ | refine bD ?_ | refine bA ?_ _)); exact BK363.out) hb)
       have n1_ := Aside0.mk (bB (g := gb364) (o := .cells #[.int .i64 a1_0, .int .i64 a1_1, .int .i64 a1_2] 26 (0, 0)) (by (with_reducible repeat (first | refine bN ?_ _ | refine bD ?_ | refine bA ?_ _)); exact BK364.out) hb)
       have n2_ := Aside0.mk (lP (by repeat (first | (with_reducible first | exact HB.out | apply lA | apply lN | apply lD | refine lS ?_ GE363.out | refine lS ?_ GE364.out) | exact HB.out)) hb)
       clear BK363 BK364 HB
       have BK363 := n0_; have BK364 := n1_; have HB := n2_
       clear n0_ n1_ n2_
       (try clear hb)
       (try clear hb2)
       (try clear hk)
       (try clear hi)
       refine hK.out _ _ ⟨(bC BK363.out 0).trans rfl, (bC BK363.out 1).trans rfl, (bC BK363.out 2).trans rfl, (bC BK364.out 0).trans rfl, (bC BK364.out 1).trans rfl, (bC BK364.out 2).trans rfl⟩ (fun hHeld => ?_)
       clear hK K
       refine norm_ (a' := ?_) ?_ ?_
       rotate_left
       ·show Act.put _ (some 40) _ = _
        simp only [Act.put, List.setIfInBounds_toArray, List.set_cons_zero, List.set_cons_succ, i64_w, i32_w]
        rfl
       refine pure_ (i := 22) (N := some 41) (v := ?_) (a' := ?_) #[true, true, true, true, true, true, true, true, true, true, true, true, true, true, true, true, true, true, true, true, true, true, true, false, false, false, false, false, false, false, false, false, false, false, false, false, false, false, false, false, false, false] rfl rfl (any_of HT_.out (by kernel_rfl)) (fun _ _ _ h => h) (Or.inl ⟨by rfl, ?_⟩) ?_ ?_
       rotate_left
       ·intro w'
        go_simp
        with_reducible rfl
       rotate_left
       ·simp only [Act.put, List.setIfInBounds_toArray, List.set_cons_zero, List.set_cons_succ, i64_w, i32_w]
        rfl
       refine pure_ (i := 23) (N := some 42) (v := ?_) (a' := ?_) #[true, true, true, true, true, true, true, true, true, true, true, true, true, true, true, true, true, true, true, true, true, true, true, true, false, false, false, false, false, false, false, false, false, false, false, false, false, false, false, false, false, false] rfl rfl (any_of HT_.out (by kernel_rfl)) (fun _ _ _ h => h) (Or.inl ⟨by rfl, ?_⟩) ?_ ?_
       rotate_left
       ·intro w'
        go_simp
        with_reducible rfl
       rotate_left
       ·simp only [Act.put, List.setIfInBounds_toArray, List.set_cons_zero, List.set_cons_succ, i64_w, i32_w]
        rfl
       refine pure_ (i := 24) (N := some 43) (v := ?_) (a' := ?_) #[true, true, true, true, true, true, true, true, true, true, true, true, true, true, true, true, true, true, true, true, true, true, true, true, true, false, false, false, false, false, false, false, false, false, false, false, false, false, false, false, false, false] rfl rfl (any_of HT_.out (by kernel_rfl)) (fun _ _ _ h => h) (Or.inl ⟨by rfl, ?_⟩) ?_ ?_
       rotate_left
       ·intro w'
        go_simp
        with_reducible rfl
       rotate_left
       ·simp only [Act.put, List.setIfInBounds_toArray, List.set_cons_zero, List.set_cons_succ, i64_w, i32_w]
        rfl
       refine pure_ (i := 25) (N := some 44) (v := ?_) (a' := ?_) #[true, true, true, true, true, true, true, true, true, true, true, true, true, true, true, true, true, true, true, true, true, true, true, true, true, true, false, false, false, false, false, false, false, false, false, false, false, false, false, false, false, false] rfl rfl (any_of HT_.out (by kernel_rfl)) (fun _ _ _ h => h) (Or.inl ⟨by rfl, ?_⟩) ?_ ?_
       rotate_left
       ·intro w'
        go_simp
        with_reducible rfl
       rotate_left
       ·simp only [Act.put, List.setIfInBounds_toArray, List.set_cons_zero, List.set_cons_succ, i64_w, i32_w]
        rfl
       refine pure_ (i := 26) (N := some 45) (v := ?_) (a' := ?_) #[true, true, true, true, true, true, true, true, true, true, true, true, true, true, true, true, true, true, true, true, true, true, true, true, true, true, true, false, false, false, false, false, false, false, false, false, false, false, false, false, false, false] rfl rfl (any_of HT_.out (by kernel_rfl)) (fun _ _ _ h => h) (Or.inl ⟨by rfl, ?_⟩) ?_ ?_
       rotate_left
       ·intro w'
        go_simp
        with_reducible rfl
       rotate_left
       ·simp only [Act.put, List.setIfInBounds_toArray, List.set_cons_zero, List.set_cons_succ, i64_w, i32_w]
        rfl
       refine pure_ (i := 27) (N := some 46) (v := ?_) (a' := ?_) #[true, true, true, true, true, true, true, true, true, true, true, true, true, true, true, true, true, true, true, true, true, true, true, true, true, true, true, true, false, false, false, false, false, false, false, false, false, false, false, false, false, false] rfl rfl (any_of HT_.out (by kernel_rfl)) (fun _ _ _ h => h) (Or.inl ⟨by rfl, ?_⟩) ?_ ?_
       rotate_left
       ·intro w'
        go_simp
        with_reducible rfl
       rotate_left
       ·simp only [Act.put, List.setIfInBounds_toArray, List.set_cons_zero, List.set_cons_succ, i64_w, i32_w]
        rfl
       refine pure_ (i := 28) (N := some 47) (v := ?_) (a' := ?_) #[true, true, true, true, true, true, true, true, true, true, true, true, true, true, true, true, true, true, true, true, true, true, true, true, true, true, true, true, true, false, false, false, false, false, false, false, false, false, false, false, false, false] rfl rfl (any_of HT_.out (by kernel_rfl)) (fun _ _ _ h => h) (Or.inl ⟨by rfl, ?_⟩) ?_ ?_
       rotate_left
       ·intro w'
        go_simp
        with_reducible rfl
       rotate_left
       ·simp only [Act.put, List.setIfInBounds_toArray, List.set_cons_zero, List.set_cons_succ, i64_w, i32_w]
        rfl
       refine pure_ (i := 29) (N := some 48) (v := ?_) (a' := ?_) #[true, true, true, true, true, true, true, true, true, true, true, true, true, true, true, true, true, true, true, true, true, true, true, true, true, true, true, true, true, true, false, false, false, false, false, false, false, false, false, false, false, false] rfl rfl (any_of HT_.out (by kernel_rfl)) (fun _ _ _ h => h) (Or.inl ⟨by rfl, ?_⟩) ?_ ?_
       rotate_left
       ·intro w'
        go_simp
        with_reducible rfl
       rotate_left
       ·simp only [Act.put, List.setIfInBounds_toArray, List.set_cons_zero, List.set_cons_succ, i64_w, i32_w]
        rfl
       refine pure_ (i := 30) (N := some 49) (v := ?_) (a' := ?_) #[true, true, true, true, true, true, true, true, true, true, true, true, true, true, true, true, true, true, true, true, true, true, true, true, true, true, true, true, true, true, true, false, false, false, false, false, false, false, false, false, false, false] rfl rfl (any_of HT_.out (by kernel_rfl)) (fun _ _ _ h => h) (Or.inl ⟨by rfl, ?_⟩) ?_ ?_
       rotate_left
       ·intro w'
        go_simp
        with_reducible rfl
       rotate_left
       ·simp only [Act.put, List.setIfInBounds_toArray, List.set_cons_zero, List.set_cons_succ, i64_w, i32_w]
        rfl
       refine pure_ (i := 31) (N := some 50) (v := ?_) (a' := ?_) #[true, true, true, true, true, true, true, true, true, true, true, true, true, true, true, true, true, true, true, true, true, true, true, true, true, true, true, true, true, true, true, true, false, false, false, false, false, false, false, false, false, false] rfl rfl (any_of HT_.out (by kernel_rfl)) (fun _ _ _ h => h) (Or.inl ⟨by rfl, ?_⟩) ?_ ?_
       rotate_left
       ·intro w'
        go_simp
        with_reducible rfl
       rotate_left
       ·simp only [Act.put, List.setIfInBounds_toArray, List.set_cons_zero, List.set_cons_succ, i64_w, i32_w]
        rfl
       refine pure_ (i := 32) (N := some 51) (v := ?_) (a' := ?_) #[true, true, true, true, true, true, true, true, true, true, true, true, true, true, true, true, true, true, true, true, true, true, true, true, true, true, true, true, true, true, true, true, true, false, false, false, false, false, false, false, false, false] rfl rfl (any_of HT_.out (by kernel_rfl)) (fun _ _ _ h => h) (Or.inl ⟨by rfl, ?_⟩) ?_ ?_
       rotate_left
       ·intro w'
        go_simp
        with_reducible rfl
       rotate_left
       ·simp only [Act.put, List.setIfInBounds_toArray, List.set_cons_zero, List.set_cons_succ, i64_w, i32_w]
        rfl
       refine pure_ (i := 33) (N := some 52) (v := ?_) (a' := ?_) #[true, true, true, true, true, true, true, true, true, true, true, true, true, true, true, true, true, true, true, true, true, true, true, true, true, true, true, true, true, true, true, true, true, true, false, false, false, false, false, false, false, false] rfl rfl (any_of HT_.out (by kernel_rfl)) (fun _ _ _ h => h) (Or.inl ⟨by rfl, ?_⟩) ?_ ?_
       rotate_left
       ·intro w'
        go_simp
        with_reducible rfl
       rotate_left
       ·simp only [Act.put, List.setIfInBounds_toArray, List.set_cons_zero, List.set_cons_succ, i64_w, i32_w]
        rfl
       refine pure_ (i := 34) (N := some 53) (v := ?_) (a' := ?_) #[true, true, true, true, true, true, true, true, true, true, true, true, true, true, true, true, true, true, true, true, true, true, true, true, true, true, true, true, true, true, true, true, true, true, true, false, false, false, false, false, false, false] rfl rfl (any_of HT_.out (by kernel_rfl)) (fun _ _ _ h => h) (Or.inl ⟨by rfl, ?_⟩) ?_ ?_
       rotate_left
       ·intro w'
        go_simp
        with_reducible rfl
       rotate_left
       ·simp only [Act.put, List.setIfInBounds_toArray, List.set_cons_zero, List.set_cons_succ, i64_w, i32_w]
        rfl
       refine take_ (i := 35) (N := some 54) (v := ?_) (a' := ?_) #[true, true, true, true, true, true, true, true, true, true, true, true, true, true, true, true, true, true, true, true, true, true, true, true, true, true, true, true, true, true, true, true, true, true, true, true, false, false, false, false, false, false] rfl rfl (take_ofW HT_.out HW_.out (by kernel_rfl)) (fun _ _ _ h => h) (Or.inl ⟨by rfl, ?_⟩) hHeld ?_ ?_
       rotate_left
       ·rintro w' ⟨s0, s1, s2, s3, s4, s5⟩
        go_simp
        with_reducible rfl
       rotate_left
       ·simp only [Act.put, List.setIfInBounds_toArray, List.set_cons_zero, List.set_cons_succ, i64_w, i32_w]
        rfl
       refine take_ (i := 37) (N := some 56) (v := ?_) (a' := ?_) #[true, true, true, true, true, true, true, true, true, true, true, true, true, true, true, true, true, true, true, true, true, true, true, true, true, true, true, true, true, true, true, true, true, true, true, true, false, true, false, false, false, false] rfl rfl (take_ofW HT_.out HW_.out (by kernel_rfl)) (fun _ _ _ h => h) (Or.inl ⟨by rfl, ?_⟩) hHeld ?_ ?_
       rotate_left
       ·rintro w' ⟨s0, s1, s2, s3, s4, s5⟩
        go_simp
        with_reducible rfl
       rotate_left
       ·simp only [Act.put, List.setIfInBounds_toArray, List.set_cons_zero, List.set_cons_succ, i64_w, i32_w]
        rfl
       refine one_ (i := 36) (N := some 55) #[true, true, true, true, true, true, true, true, true, true, true, true, true, true, true, true, true, true, true, true, true, true, true, true, true, true, true, true, true, true, true, true, true, true, true, true, true, true, false, false, false, false] rfl rfl (one_of HT_.out (by kernel_rfl)) (by decide) (fun K hK => ?_)
       refine goes_ Try.func18 (by kernel_rfl) rfl #[.agg #[.int .i64 a0_0, .int .i64 a0_1, .int .i64 a0_2]] (by rfl) rfl rfl (by (try simp only [List.map_toArray, List.map_cons, List.map_nil]); first | done | rfl | (simp only [List.length_drop, List.length_take]; rfl)) ?_
       with_reducible refine (spread_Pure.calls k a0_0 a0_1 a0_2 t384 _ A18.out).mono ?_
       rintro e w35 ⟨rfl, hb⟩
       refine ⟨_, rfl, ?_⟩
       have n0_ := Aside0.mk (bB (g := gb363) (o := .cells #[.int .i64 a0_0, .int .i64 a0_1, .int .i64 a0_2] 26 (0, 0)) (by (with_reducible repeat (first | refine bN ?_ _ | refine bD ?_ | refine bA ?_ _)); exact BK363.out) hb)
       have n1_ := Aside0.mk (bB (g := gb364) (o := .cells #[.int .i64 a1_0, .int .i64 a1_1, .int .i64 a1_2] 26 (0, 0)) (by (with_reducible repeat (first | refine bN ?_ _ | refine bD ?_ | refine bA ?_ _)); exact BK364.out) hb)
       have n2_ := Aside0.mk (lP (by repeat (first | (with_reducible first | exact HB.out | apply lA | apply lN | apply lD | refine lS ?_ GE363.out | refine lS ?_ GE364.out) | exact HB.out)) hb)
       clear BK363 BK364 HB
       have BK363 := n0_; have BK364 := n1_; have HB := n2_
       clear n0_ n1_ n2_
       (try clear hb)
       (try clear hb2)
       (try clear hk)
       (try clear hi)
       refine hK.out _ _ ⟨(bC BK363.out 0).trans rfl, (bC BK363.out 1).trans rfl, (bC BK363.out 2).trans rfl, (bC BK364.out 0).trans rfl, (bC BK364.out 1).trans rfl, (bC BK364.out 2).trans rfl⟩ (fun hHeld => ?_)
       clear hK K
       refine norm_ (a' := ?_) ?_ ?_
       rotate_left
       ·show Act.put _ (some 55) _ = _
        simp only [Act.put, List.setIfInBounds_toArray, List.set_cons_zero, List.set_cons_succ, i64_w, i32_w]
        rfl
       refine one_ (i := 38) (N := some 57) #[true, true, true, true, true, true, true, true, true, true, true, true, true, true, true, true, true, true, true, true, true, true, true, true, true, true, true, true, true, true, true, true, true, true, true, true, true, true, true, false, false, false] rfl rfl (one_of HT_.out (by kernel_rfl)) (by decide) (fun K hK => ?_)
       refine goes_ Try.func32 (by kernel_rfl) rfl #[.agg #[.int .i64 a0_0, .int .i64 a0_1, .int .i64 a0_2]] (by rfl) rfl rfl (by (try simp only [List.map_toArray, List.map_cons, List.map_nil]); first | done | rfl | (simp only [List.length_drop, List.length_take]; rfl)) ?_
       with_reducible refine (hornbeamref15_Pure.calls k a0_0 a0_1 a0_2 t385 _ A19.out).mono ?_
       rintro e w36 ⟨rfl, hb⟩
       refine ⟨_, rfl, ?_⟩
       have n0_ := Aside0.mk (bB (g := gb363) (o := .cells #[.int .i64 a0_0, .int .i64 a0_1, .int .i64 a0_2] 26 (0, 0)) (by (with_reducible repeat (first | refine bN ?_ _ | refine bD ?_ | refine bA ?_ _)); exact BK363.out) hb)
       have n1_ := Aside0.mk (bB (g := gb364) (o := .cells #[.int .i64 a1_0, .int .i64 a1_1, .int .i64 a1_2] 26 (0, 0)) (by (with_reducible repeat (first | refine bN ?_ _ | refine bD ?_ | refine bA ?_ _)); exact BK364.out) hb)
       have n2_ := Aside0.mk (lP (by repeat (first | (with_reducible first | exact HB.out | apply lA | apply lN | apply lD | refine lS ?_ GE363.out | refine lS ?_ GE364.out) | exact HB.out)) hb)
       clear BK363 BK364 HB
       have BK363 := n0_; have BK364 := n1_; have HB := n2_
       clear n0_ n1_ n2_
       (try clear hb)
       (try clear hb2)
       (try clear hk)
       (try clear hi)
       refine hK.out _ _ ⟨(bC BK363.out 0).trans rfl, (bC BK363.out 1).trans rfl, (bC BK363.out 2).trans rfl, (bC BK364.out 0).trans rfl, (bC BK364.out 1).trans rfl, (bC BK364.out 2).trans rfl⟩ (fun hHeld => ?_)
       clear hK K
       refine norm_ (a' := ?_) ?_ ?_
       rotate_left
       ·show Act.put _ (some 57) _ = _
        simp only [Act.put, List.setIfInBounds_toArray, List.set_cons_zero, List.set_cons_succ, i64_w, i32_w]
        rfl
       refine pure_ (i := 39) (N := some 58) (v := ?_) (a' := ?_) #[true, true, true, true, true, true, true, true, true, true, true, true, true, true, true, true, true, true, true, true, true, true, true, true, true, true, true, true, true, true, true, true, true, true, true, true, true, true, true, true, false, false] rfl rfl (any_of HT_.out (by kernel_rfl)) (fun _ _ _ h => h) (Or.inl ⟨by rfl, ?_⟩) ?_ ?_
       rotate_left
       ·intro w'
        go_simp
        with_reducible rfl
       rotate_left
       ·simp only [Act.put, List.setIfInBounds_toArray, List.set_cons_zero, List.set_cons_succ, i64_w, i32_w]
        rfl
       refine pure_ (i := 40) (N := some 59) (v := ?_) (a' := ?_) #[true, true, true, true, true, true, true, true, true, true, true, true, true, true, true, true, true, true, true, true, true, true, true, true, true, true, true, true, true, true, true, true, true, true, true, true, true, true, true, true, true, false] rfl rfl (any_of HT_.out (by kernel_rfl)) (fun _ _ _ h => h) (Or.inl ⟨by rfl, ?_⟩) ?_ ?_
       rotate_left
       ·intro w'
        go_simp
        with_reducible rfl
       rotate_left
       ·simp only [Act.put, List.setIfInBounds_toArray, List.set_cons_zero, List.set_cons_succ, i64_w, i32_w]
        rfl
       refine pure_ (i := 41) (N := some 4) (v := ?_) (a' := ?_) #[true, true, true, true, true, true, true, true, true, true, true, true, true, true, true, true, true, true, true, true, true, true, true, true, true, true, true, true, true, true, true, true, true, true, true, true, true, true, true, true, true, true] rfl rfl (any_of HT_.out (by kernel_rfl)) (fun _ _ _ h => h) (Or.inl ⟨by rfl, ?_⟩) ?_ ?_
       rotate_left
       ·intro w'
        go_simp
        with_reducible rfl
       rotate_left
       ·simp only [Act.put, List.setIfInBounds_toArray, List.set_cons_zero, List.set_cons_succ, i64_w, i32_w]
        rfl
       refine done_ (done_of HT_.out (by kernel_rfl)) ?_
       try go_wp2
       all_goals (go_ret; exact ⟨by first | rfl | (simp [errW_none, errW_some] <;> rfl) | (simp [*, errW_none, errW_some] <;> rfl) | (simp_all; done), by repeat (first | (with_reducible first | exact HB.out | apply lA | apply lN | apply lD | refine lS ?_ GE363.out | refine lS ?_ GE364.out) | exact HB.out)⟩)
      ·rw [if_neg c17] at H
       have c17b0 : (t366 == t368) = false := by simpa using c17
       (try (have c17b1 : decide (t366 = t368) = false := by simpa using c17))
       (try (have c17b2 : (t366 == t368) = false := by simpa using c17))
       (try (have c17b3 : ¬ (t366 = t368) := by simpa using c17))
       clear c17
       exact absurd (Option.some.inj H) (by rw [HR_.out]; decide)
     ·rw [if_neg c16] at H
      have c16b0 : (t365 == t367) = false := beq_eq_false_iff_ne.mpr c16
      have c16b1 : (t365 != t367) = true := bne_iff_ne.mpr c16
      exact absurd (Option.some.inj H) (by rw [HR_.out]; decide)
    ·rw [if_neg c15] at H
     have c15b0 : ((t378 == t381 && (t379 == t382)) && (t380 == t383)) = false := by simpa using c15
     clear c15
     exact absurd (Option.some.inj H) (by rw [HR_.out]; decide)
   ·rw [if_neg c12] at H
    have c12b0 : ((t372 == t375 && (t373 == t376)) && (t374 == t377)) = false := by simpa using c12
    clear c12
    exact absurd (Option.some.inj H) (by rw [HR_.out]; decide)
  ·rw [if_neg c9] at H
   have c9b0 : (t370 == t371) = false := by simpa using c9
   (try (have c9b1 : decide (t370 = t371) = false := by simpa using c9))
   (try (have c9b2 : (t370 == t371) = false := by simpa using c9))
   (try (have c9b3 : ¬ (t370 = t371) := by simpa using c9))
   clear c9
   exact absurd (Option.some.inj H) (by rw [HR_.out]; decide)
 ·replace c6 := Bool.eq_false_iff.mpr c6
  subst c6
  have H1 : (some false) = some r := by rw [if_neg (show ¬ (false = true) by decide)] at H; exact H
  clear H
  have H := H1
  clear H1
  exact absurd (Option.some.inj H) (by rw [HR_.out]; decide)

/-- THE ONE PURE STATEMENT of hornbeamlaw15_SpreadScores: yours. -/
def hornbeamlaw15_SpreadScores.Pure : Prop := ∀ (a0_0 : Int) (a0_1 : Int) (a0_2 : Int) (a1_0 : Int) (a1_1 : Int) (a1_2 : Int), (Lit.int .i64 a0_0).wf = true → (Lit.int .i64 a0_1).wf = true → (Lit.int .i64 a0_2).wf = true → (Lit.int .i64 a1_0).wf = true → (Lit.int .i64 a1_1).wf = true → (Lit.int .i64 a1_2).wf = true → ∃ k, hornbeamlaw15_SpreadScores.f k a0_0 a0_1 a0_2 a1_0 a1_1 a1_2 = some true

end Go.Proofs.Ytoonddgldmfleaa.QSpreadScores
