-- Written by a program of this session (wip/tools/mkprint.py over the kit's print); Lean checks it.
import Derived.Test.YtglicbpnmehloaaQProdWidesx0
import Derived.Test.YtglicbpnmehloaaQProdWidesx1
import Derived.Test.YtglicbpnmehloaaQProdWidesx2
import Derived.Test.YtglicbpnmehloaaQProdWidesx3
import Derived.Test.YtglicbpnmehloaaQProdWidesx4
import Derived.Test.YtglicbpnmehloaaQProdWidesx5
import Derived.Test.YtglicbpnmehloaaQProdWidesx6
import Derived.Test.YtglicbpnmehloaaQProdWidesx7
namespace Go.Proofs.Ytglicbpnmehloaa.QProdWides
open Go.RowKit Go.Proofs.YtglicbpnmehloaaW.PrintWords Go.Proofs.YtglicbpnmehloaaW.PrintLast Go.Proofs.YtglicbpnmehloaaW.PrintMore
attribute [local go_sem] max2_int min2_int max_two min_two max_three min_three max_four min_four   -- for this text's walks alone
set_option linter.unusedVariables false
set_option linter.unusedSimpArgs false

attribute [local go_sem high] eqA38 eqA49
/-! ### hornbeamlaw04_ProdWides: function 10 -/
def hornbeamlaw04_ProdWides.f (k : Nat) (a0_0 : Int) (a0_1 : Int) (a1_0 : Int) (a1_1 : Int) (a2 : Int) : Option (Bool) := (prod_Add.f a0_0 a0_1 a1_0 a1_1).bind fun bt259 => ((hornbeamref04_Add.f k a0_0 a0_1 a1_0 a1_1).bind fun bt263 => ((prod_Times.f a0_0 a0_1 a2).bind fun bt267 => ((prod_Times.f a1_0 a1_1 a0_1).bind fun bt270 => ((hornbeamlaw04_fixed.f).bind fun t275 => (if t275 = true then ((prod_Mul.f a0_1 a1_1).bind fun bt276 => ((hornbeamref04_Mul.f k a0_1 a1_1).bind fun bt278 => (if (bt276.1 == bt278.1 && (bt276.2 == bt278.2)) = true then (if (bt259.1 == bt263.1 && (bt259.2.1 == bt263.2.1)) = true then (if bt259.2.2 = bt263.2.2 then ((prod_Cmp.f k a0_0 a0_1 a1_0 a1_1).bind fun t280 => ((hornbeamref04_Cmp.f k a0_0 a0_1 a1_0 a1_1).bind fun t281 => (if t280 = t281 then ((hornbeamref04_Times.f k a0_0 a0_1 a2).bind fun bt282 => (if (bt267.1 == bt282.1 && (bt267.2.1 == bt282.2.1 && (bt267.2.2 == bt282.2.2))) = true then ((hornbeamref04_Times.f k a1_0 a1_1 a0_1).bind fun bt285 => (if (bt270.1 == bt285.1 && (bt270.2.1 == bt285.2.1 && (bt270.2.2 == bt285.2.2))) = true then ((prod_CmpLong.f bt267.1 bt267.2.1 bt267.2.2 bt270.1 bt270.2.1 bt270.2.2).bind fun t288 => ((hornbeamref04_CmpLong.f bt267.1 bt267.2.1 bt267.2.2 bt270.1 bt270.2.1 bt270.2.2).bind fun t289 => (some (t288 == t289)))) else (some false))) else (some false))) else (some false)))) else (some false)) else (some false)) else (some false)))) else (some false))))))
theorem hornbeamlaw04_ProdWides.mono : ∀ a0 a1 a2 a3 a4 k, LeO (hornbeamlaw04_ProdWides.f k a0 a1 a2 a3 a4) (hornbeamlaw04_ProdWides.f (k + 1) a0 a1 a2 a3 a4) := by
  intro a0 a1 a2 a3 a4 k
  unfold hornbeamlaw04_ProdWides.f
  repeat' first
      | (with_reducible exact hornbeamref04_Add.mono _ _ _ _ _)
      | (with_reducible exact hornbeamref04_Cmp.mono _ _ _ _ _)
      | (with_reducible exact hornbeamref04_Mul.mono _ _ _)
      | (with_reducible exact hornbeamref04_Times.mono _ _ _ _)
      | (with_reducible exact prod_Cmp.mono _ _ _ _ _)
      | (with_reducible exact LeO.refl _)
      | (with_reducible exact LeO.none _)
      | (with_reducible refine LeO.ite ?_ ?_)
      | (with_reducible refine LeO.bind ?_ (fun _ => ?_))
      | exact hornbeamref04_Add.mono _ _ _ _ _
      | exact hornbeamref04_Cmp.mono _ _ _ _ _
      | exact hornbeamref04_Mul.mono _ _ _
      | exact hornbeamref04_Times.mono _ _ _ _
      | exact prod_Cmp.mono _ _ _ _ _
      | exact LeO.none _
      | refine LeO.ite ?_ ?_
      | refine LeO.bind ?_ (fun _ => ?_)
def hornbeamlaw04_ProdWides.T3 : Bool × List (List Nat × List Nat) := (true, [([], []), ([], []), ([0, 1], [0, 1]), ([], []), ([], []), ([4], [4]), ([3, 5, 2], [3, 5]), ([], []), ([], []), ([7, 2, 6, 0, 1, 2, 7, 8], [2, 7]), ([8, 6, 9, 0, 1, 2, 3, 4, 5, 6, 7, 8, 9], [6, 8])])
def hornbeamlaw04_ProdWides.B3 : List Nat := [0, 0, 3, 0, 0, 16, 63, 0, 0, 511, 1023]
theorem hornbeamlaw04_ProdWides.tab3 : rtab .any (opsOf Try.f10 3) = hornbeamlaw04_ProdWides.T3 := by kernel_rfl
theorem hornbeamlaw04_ProdWides.bits3 : waitsOk hornbeamlaw04_ProdWides.T3.2 hornbeamlaw04_ProdWides.B3 = true := by kernel_rfl
def hornbeamlaw04_ProdWides.T4 : Bool × List (List Nat × List Nat) := (true, [([], []), ([0, 0], [0]), ([1], [1]), ([2, 1], [1, 2]), ([1], [1]), ([4, 1], [1, 4]), ([3, 5, 1, 1], [1, 3, 5]), ([1], [1]), ([7, 1], [1, 7]), ([1], [1]), ([9, 1], [1, 9]), ([8, 10, 6, 1], [1, 8, 10]), ([6, 11, 1], [1, 6, 11]), ([1, 12], [1, 12]), ([13, 11], [13]), ([14], [14]), ([14], [14]), ([15, 16, 14], [14, 15, 16]), ([14, 17], [14, 17]), ([18, 14], [18]), ([19], [19]), ([19], [19]), ([20, 21, 19], [19, 20, 21]), ([19, 22], [19, 22]), ([23, 19], [23]), ([24], [24]), ([24], [24]), ([25, 26, 24, 24], [24, 25, 26]), ([24], [24]), ([24], [24]), ([28, 29, 27, 24], [24, 28, 29]), ([27, 30, 24], [24, 27, 30]), ([24, 31], [24, 31]), ([32, 30], [32]), ([33], [33]), ([33], [33]), ([33], [33]), ([35, 36, 33, 33], [33, 35, 36]), ([34, 37, 33], [33, 34, 37]), ([33, 38], [33, 38]), ([39, 37], [39]), ([40], [40]), ([40], [40]), ([40], [40]), ([43, 40], [40, 43]), ([42, 44, 40, 40], [40, 42, 44]), ([41, 45, 40], [40, 41, 45]), ([40, 46], [40, 46]), ([47, 45], [47]), ([48], [48]), ([48], [48]), ([49, 50, 48, 48], [48, 49, 50]), ([48], [48]), ([48], [48]), ([52, 53, 51, 48], [48, 52, 53]), ([51, 54, 48], [48, 51, 54]), ([48, 55], [48, 55]), ([56, 54, 0, 1, 2, 3, 4, 5, 6, 7, 8, 9, 10, 11, 12, 13, 14, 15, 16, 17, 18, 19, 20, 21, 22, 23, 24, 25, 26, 27, 28, 29, 30, 31, 32, 33, 34, 35, 36, 37, 38, 39, 40, 41, 42, 43, 44, 45, 46, 47, 48, 49, 50, 51, 52, 53, 54, 55, 56], [56])])
def hornbeamlaw04_ProdWides.B4 : List Nat := [0, 1, 3, 7, 3, 19, 63, 3, 131, 3, 515, 2047, 4095, 8191, 16383, 32767, 32767, 131071, 262143, 524287, 1048575, 1048575, 4194303, 8388607, 16777215, 33554431, 33554431, 134217727, 33554431, 33554431, 1073741823, 2147483647, 4294967295, 8589934591, 17179869183, 17179869183, 17179869183, 120259084287, 274877906943, 549755813887, 1099511627775, 2199023255551, 2199023255551, 2199023255551, 10995116277759, 32985348833279, 70368744177663, 140737488355327, 281474976710655, 562949953421311, 562949953421311, 2251799813685247, 562949953421311, 562949953421311, 18014398509481983, 36028797018963967, 72057594037927935, 144115188075855871]
theorem hornbeamlaw04_ProdWides.tab4 : rtab .any (opsOf Try.f10 4) = hornbeamlaw04_ProdWides.T4 := by kernel_rfl
theorem hornbeamlaw04_ProdWides.bits4 : waitsOk hornbeamlaw04_ProdWides.T4.2 hornbeamlaw04_ProdWides.B4 = true := by kernel_rfl
set_option maxHeartbeats 8000000 in
set_option maxRecDepth 100000 in
theorem hornbeamlaw04_ProdWides.calls (k : Nat) (a0_0 : Int) (a0_1 : Int) (a1_0 : Int) (a1_1 : Int) (a2 : Int) (r : Bool) (w : World) (h : hornbeamlaw04_ProdWides.f k a0_0 a0_1 a1_0 a1_1 a2 = some r) (hr_ : r = true) :
  Calls Try.prog 10 #[.agg #[.int .u64 a0_0, .int .u64 a0_1], .agg #[.int .u64 a1_0, .int .u64 a1_1], .int .u64 a2] w fun e w' => e = .returned (.bool r) ∧ Below w.heap.size w w' := by
 have hu38 := Try.underlying38
 have hu49 := Try.underlying49
 have HR_ := Aside0.mk hr_
 clear hr_
 have HB := Aside0.mk (Below.refl w.heap.size w)
 have H : ((prod_Add.f a0_0 a0_1 a1_0 a1_1).bind fun bt259 => ((hornbeamref04_Add.f k a0_0 a0_1 a1_0 a1_1).bind fun bt263 => ((prod_Times.f a0_0 a0_1 a2).bind fun bt267 => ((prod_Times.f a1_0 a1_1 a0_1).bind fun bt270 => ((hornbeamlaw04_fixed.f).bind fun t275 => (if t275 = true then ((prod_Mul.f a0_1 a1_1).bind fun bt276 => ((hornbeamref04_Mul.f k a0_1 a1_1).bind fun bt278 => (if (bt276.1 == bt278.1 && (bt276.2 == bt278.2)) = true then (if (bt259.1 == bt263.1 && (bt259.2.1 == bt263.2.1)) = true then (if bt259.2.2 = bt263.2.2 then ((prod_Cmp.f k a0_0 a0_1 a1_0 a1_1).bind fun t280 => ((hornbeamref04_Cmp.f k a0_0 a0_1 a1_0 a1_1).bind fun t281 => (if t280 = t281 then ((hornbeamref04_Times.f k a0_0 a0_1 a2).bind fun bt282 => (if (bt267.1 == bt282.1 && (bt267.2.1 == bt282.2.1 && (bt267.2.2 == bt282.2.2))) = true then ((hornbeamref04_Times.f k a1_0 a1_1 a0_1).bind fun bt285 => (if (bt270.1 == bt285.1 && (bt270.2.1 == bt285.2.1 && (bt270.2.2 == bt285.2.2))) = true then ((prod_CmpLong.f bt267.1 bt267.2.1 bt267.2.2 bt270.1 bt270.2.1 bt270.2.2).bind fun t288 => ((hornbeamref04_CmpLong.f bt267.1 bt267.2.1 bt267.2.2 bt270.1 bt270.2.1 bt270.2.2).bind fun t289 => (some (t288 == t289)))) else (some false))) else (some false))) else (some false)))) else (some false)) else (some false)) else (some false)))) else (some false))))))) = some r := h
 clear h
 replace H := Option.bind_eq_some_iff.mp H
 obtain ⟨⟨t259, t260, t261⟩, A40, H⟩ := H
 replace H : ((hornbeamref04_Add.f k a0_0 a0_1 a1_0 a1_1).bind fun bt263 => ((prod_Times.f a0_0 a0_1 a2).bind fun bt267 => ((prod_Times.f a1_0 a1_1 a0_1).bind fun bt270 => ((hornbeamlaw04_fixed.f).bind fun t275 => (if t275 = true then ((prod_Mul.f a0_1 a1_1).bind fun bt276 => ((hornbeamref04_Mul.f k a0_1 a1_1).bind fun bt278 => (if (bt276.1 == bt278.1 && (bt276.2 == bt278.2)) = true then (if (t259 == bt263.1 && (t260 == bt263.2.1)) = true then (if t261 = bt263.2.2 then ((prod_Cmp.f k a0_0 a0_1 a1_0 a1_1).bind fun t280 => ((hornbeamref04_Cmp.f k a0_0 a0_1 a1_0 a1_1).bind fun t281 => (if t280 = t281 then ((hornbeamref04_Times.f k a0_0 a0_1 a2).bind fun bt282 => (if (bt267.1 == bt282.1 && (bt267.2.1 == bt282.2.1 && (bt267.2.2 == bt282.2.2))) = true then ((hornbeamref04_Times.f k a1_0 a1_1 a0_1).bind fun bt285 => (if (bt270.1 == bt285.1 && (bt270.2.1 == bt285.2.1 && (bt270.2.2 == bt285.2.2))) = true then ((prod_CmpLong.f bt267.1 bt267.2.1 bt267.2.2 bt270.1 bt270.2.1 bt270.2.2).bind fun t288 => ((hornbeamref04_CmpLong.f bt267.1 bt267.2.1 bt267.2.2 bt270.1 bt270.2.1 bt270.2.2).bind fun t289 => (some (t288 == t289)))) else (some false))) else (some false))) else (some false)))) else (some false)) else (some false)) else (some false)))) else (some false)))))) = some r := H
 have A4 := Aside0.mk A40
 clear A40
 replace H := Option.bind_eq_some_iff.mp H
 obtain ⟨⟨t263, t264, t265⟩, A50, H⟩ := H
 replace H : ((prod_Times.f a0_0 a0_1 a2).bind fun bt267 => ((prod_Times.f a1_0 a1_1 a0_1).bind fun bt270 => ((hornbeamlaw04_fixed.f).bind fun t275 => (if t275 = true then ((prod_Mul.f a0_1 a1_1).bind fun bt276 => ((hornbeamref04_Mul.f k a0_1 a1_1).bind fun bt278 => (if (bt276.1 == bt278.1 && (bt276.2 == bt278.2)) = true then (if (t259 == t263 && (t260 == t264)) = true then (if t261 = t265 then ((prod_Cmp.f k a0_0 a0_1 a1_0 a1_1).bind fun t280 => ((hornbeamref04_Cmp.f k a0_0 a0_1 a1_0 a1_1).bind fun t281 => (if t280 = t281 then ((hornbeamref04_Times.f k a0_0 a0_1 a2).bind fun bt282 => (if (bt267.1 == bt282.1 && (bt267.2.1 == bt282.2.1 && (bt267.2.2 == bt282.2.2))) = true then ((hornbeamref04_Times.f k a1_0 a1_1 a0_1).bind fun bt285 => (if (bt270.1 == bt285.1 && (bt270.2.1 == bt285.2.1 && (bt270.2.2 == bt285.2.2))) = true then ((prod_CmpLong.f bt267.1 bt267.2.1 bt267.2.2 bt270.1 bt270.2.1 bt270.2.2).bind fun t288 => ((hornbeamref04_CmpLong.f bt267.1 bt267.2.1 bt267.2.2 bt270.1 bt270.2.1 bt270.2.2).bind fun t289 => (some (t288 == t289)))) else (some false))) else (some false))) else (some false)))) else (some false)) else (some false)) else (some false)))) else (some false))))) = some r := H
 have A5 := Aside0.mk A50
 clear A50
 replace H := Option.bind_eq_some_iff.mp H
 obtain ⟨⟨t267, t268, t269⟩, A60, H⟩ := H
 replace H : ((prod_Times.f a1_0 a1_1 a0_1).bind fun bt270 => ((hornbeamlaw04_fixed.f).bind fun t275 => (if t275 = true then ((prod_Mul.f a0_1 a1_1).bind fun bt276 => ((hornbeamref04_Mul.f k a0_1 a1_1).bind fun bt278 => (if (bt276.1 == bt278.1 && (bt276.2 == bt278.2)) = true then (if (t259 == t263 && (t260 == t264)) = true then (if t261 = t265 then ((prod_Cmp.f k a0_0 a0_1 a1_0 a1_1).bind fun t280 => ((hornbeamref04_Cmp.f k a0_0 a0_1 a1_0 a1_1).bind fun t281 => (if t280 = t281 then ((hornbeamref04_Times.f k a0_0 a0_1 a2).bind fun bt282 => (if (t267 == bt282.1 && (t268 == bt282.2.1 && (t269 == bt282.2.2))) = true then ((hornbeamref04_Times.f k a1_0 a1_1 a0_1).bind fun bt285 => (if (bt270.1 == bt285.1 && (bt270.2.1 == bt285.2.1 && (bt270.2.2 == bt285.2.2))) = true then ((prod_CmpLong.f t267 t268 t269 bt270.1 bt270.2.1 bt270.2.2).bind fun t288 => ((hornbeamref04_CmpLong.f t267 t268 t269 bt270.1 bt270.2.1 bt270.2.2).bind fun t289 => (some (t288 == t289)))) else (some false))) else (some false))) else (some false)))) else (some false)) else (some false)) else (some false)))) else (some false)))) = some r := H
 have A6 := Aside0.mk A60
 clear A60
 replace H := Option.bind_eq_some_iff.mp H
 obtain ⟨⟨t270, t271, t272⟩, A70, H⟩ := H
 replace H : ((hornbeamlaw04_fixed.f).bind fun t275 => (if t275 = true then ((prod_Mul.f a0_1 a1_1).bind fun bt276 => ((hornbeamref04_Mul.f k a0_1 a1_1).bind fun bt278 => (if (bt276.1 == bt278.1 && (bt276.2 == bt278.2)) = true then (if (t259 == t263 && (t260 == t264)) = true then (if t261 = t265 then ((prod_Cmp.f k a0_0 a0_1 a1_0 a1_1).bind fun t280 => ((hornbeamref04_Cmp.f k a0_0 a0_1 a1_0 a1_1).bind fun t281 => (if t280 = t281 then ((hornbeamref04_Times.f k a0_0 a0_1 a2).bind fun bt282 => (if (t267 == bt282.1 && (t268 == bt282.2.1 && (t269 == bt282.2.2))) = true then ((hornbeamref04_Times.f k a1_0 a1_1 a0_1).bind fun bt285 => (if (t270 == bt285.1 && (t271 == bt285.2.1 && (t272 == bt285.2.2))) = true then ((prod_CmpLong.f t267 t268 t269 t270 t271 t272).bind fun t288 => ((hornbeamref04_CmpLong.f t267 t268 t269 t270 t271 t272).bind fun t289 => (some (t288 == t289)))) else (some false))) else (some false))) else (some false)))) else (some false)) else (some false)) else (some false)))) else (some false))) = some r := H
 have A7 := Aside0.mk A70
 clear A70
 replace H := Option.bind_eq_some_iff.mp H
 obtain ⟨t275, A80, H⟩ := H
 replace H : (if t275 = true then ((prod_Mul.f a0_1 a1_1).bind fun bt276 => ((hornbeamref04_Mul.f k a0_1 a1_1).bind fun bt278 => (if (bt276.1 == bt278.1 && (bt276.2 == bt278.2)) = true then (if (t259 == t263 && (t260 == t264)) = true then (if t261 = t265 then ((prod_Cmp.f k a0_0 a0_1 a1_0 a1_1).bind fun t280 => ((hornbeamref04_Cmp.f k a0_0 a0_1 a1_0 a1_1).bind fun t281 => (if t280 = t281 then ((hornbeamref04_Times.f k a0_0 a0_1 a2).bind fun bt282 => (if (t267 == bt282.1 && (t268 == bt282.2.1 && (t269 == bt282.2.2))) = true then ((hornbeamref04_Times.f k a1_0 a1_1 a0_1).bind fun bt285 => (if (t270 == bt285.1 && (t271 == bt285.2.1 && (t272 == bt285.2.2))) = true then ((prod_CmpLong.f t267 t268 t269 t270 t271 t272).bind fun t288 => ((hornbeamref04_CmpLong.f t267 t268 t269 t270 t271 t272).bind fun t289 => (some (t288 == t289)))) else (some false))) else (some false))) else (some false)))) else (some false)) else (some false)) else (some false)))) else (some false)) = some r := H
 have A8 := Aside0.mk A80
 clear A80
 by_cases c9 : t275 = true
 ·subst c9
  have H1 : ((prod_Mul.f a0_1 a1_1).bind fun bt276 => ((hornbeamref04_Mul.f k a0_1 a1_1).bind fun bt278 => (if (bt276.1 == bt278.1 && (bt276.2 == bt278.2)) = true then (if (t259 == t263 && (t260 == t264)) = true then (if t261 = t265 then ((prod_Cmp.f k a0_0 a0_1 a1_0 a1_1).bind fun t280 => ((hornbeamref04_Cmp.f k a0_0 a0_1 a1_0 a1_1).bind fun t281 => (if t280 = t281 then ((hornbeamref04_Times.f k a0_0 a0_1 a2).bind fun bt282 => (if (t267 == bt282.1 && (t268 == bt282.2.1 && (t269 == bt282.2.2))) = true then ((hornbeamref04_Times.f k a1_0 a1_1 a0_1).bind fun bt285 => (if (t270 == bt285.1 && (t271 == bt285.2.1 && (t272 == bt285.2.2))) = true then ((prod_CmpLong.f t267 t268 t269 t270 t271 t272).bind fun t288 => ((hornbeamref04_CmpLong.f t267 t268 t269 t270 t271 t272).bind fun t289 => (some (t288 == t289)))) else (some false))) else (some false))) else (some false)))) else (some false)) else (some false)) else (some false)))) = some r := by rw [if_pos rfl] at H; exact H
  clear H
  have H := H1
  clear H1
  replace H := Option.bind_eq_some_iff.mp H
  obtain ⟨⟨t276, t277⟩, A100, H⟩ := H
  replace H : ((hornbeamref04_Mul.f k a0_1 a1_1).bind fun bt278 => (if (t276 == bt278.1 && (t277 == bt278.2)) = true then (if (t259 == t263 && (t260 == t264)) = true then (if t261 = t265 then ((prod_Cmp.f k a0_0 a0_1 a1_0 a1_1).bind fun t280 => ((hornbeamref04_Cmp.f k a0_0 a0_1 a1_0 a1_1).bind fun t281 => (if t280 = t281 then ((hornbeamref04_Times.f k a0_0 a0_1 a2).bind fun bt282 => (if (t267 == bt282.1 && (t268 == bt282.2.1 && (t269 == bt282.2.2))) = true then ((hornbeamref04_Times.f k a1_0 a1_1 a0_1).bind fun bt285 => (if (t270 == bt285.1 && (t271 == bt285.2.1 && (t272 == bt285.2.2))) = true then ((prod_CmpLong.f t267 t268 t269 t270 t271 t272).bind fun t288 => ((hornbeamref04_CmpLong.f t267 t268 t269 t270 t271 t272).bind fun t289 => (some (t288 == t289)))) else (some false))) else (some false))) else (some false)))) else (some false)) else (some false)) else (some false))) = some r := H
  have A10 := Aside0.mk A100
  clear A100
  replace H := Option.bind_eq_some_iff.mp H
  obtain ⟨⟨t278, t279⟩, A110, H⟩ := H
  replace H : (if (t276 == t278 && (t277 == t279)) = true then (if (t259 == t263 && (t260 == t264)) = true then (if t261 = t265 then ((prod_Cmp.f k a0_0 a0_1 a1_0 a1_1).bind fun t280 => ((hornbeamref04_Cmp.f k a0_0 a0_1 a1_0 a1_1).bind fun t281 => (if t280 = t281 then ((hornbeamref04_Times.f k a0_0 a0_1 a2).bind fun bt282 => (if (t267 == bt282.1 && (t268 == bt282.2.1 && (t269 == bt282.2.2))) = true then ((hornbeamref04_Times.f k a1_0 a1_1 a0_1).bind fun bt285 => (if (t270 == bt285.1 && (t271 == bt285.2.1 && (t272 == bt285.2.2))) = true then ((prod_CmpLong.f t267 t268 t269 t270 t271 t272).bind fun t288 => ((hornbeamref04_CmpLong.f t267 t268 t269 t270 t271 t272).bind fun t289 => (some (t288 == t289)))) else (some false))) else (some false))) else (some false)))) else (some false)) else (some false)) else (some false)) = some r := H
  have A11 := Aside0.mk A110
  clear A110
  by_cases c12 : (t276 == t278 && (t277 == t279)) = true
  ·rw [if_pos c12] at H
   have c12b0 : (t276 == t278 && (t277 == t279)) = true := c12
   (try (have c12b1 : decide (t276 = t278 && (t277 == t279)) = true := by simpa using c12))
   (try (have c12b2 : (t276 == t278 && (t277 == t279)) = true := by simpa using c12))
   clear c12
   by_cases c13 : (t259 == t263 && (t260 == t264)) = true
   ·rw [if_pos c13] at H
    have c13b0 : (t259 == t263 && (t260 == t264)) = true := c13
    (try (have c13b1 : decide (t259 = t263 && (t260 == t264)) = true := by simpa using c13))
    (try (have c13b2 : (t259 == t263 && (t260 == t264)) = true := by simpa using c13))
    clear c13
    by_cases c14 : t261 = t265
    ·rw [if_pos c14] at H
     have c14b0 : (t261 == t265) = true := beq_iff_eq.mpr c14
     have c14b1 : (t261 != t265) = false := bne_eq_false_iff_eq.mpr c14
     clear c14
     replace H := Option.bind_eq_some_iff.mp H
     obtain ⟨t280, A150, H⟩ := H
     replace H : ((hornbeamref04_Cmp.f k a0_0 a0_1 a1_0 a1_1).bind fun t281 => (if t280 = t281 then ((hornbeamref04_Times.f k a0_0 a0_1 a2).bind fun bt282 => (if (t267 == bt282.1 && (t268 == bt282.2.1 && (t269 == bt282.2.2))) = true then ((hornbeamref04_Times.f k a1_0 a1_1 a0_1).bind fun bt285 => (if (t270 == bt285.1 && (t271 == bt285.2.1 && (t272 == bt285.2.2))) = true then ((prod_CmpLong.f t267 t268 t269 t270 t271 t272).bind fun t288 => ((hornbeamref04_CmpLong.f t267 t268 t269 t270 t271 t272).bind fun t289 => (some (t288 == t289)))) else (some false))) else (some false))) else (some false))) = some r := H
     have A15 := Aside0.mk A150
     clear A150
     replace H := Option.bind_eq_some_iff.mp H
     obtain ⟨t281, A160, H⟩ := H
     replace H : (if t280 = t281 then ((hornbeamref04_Times.f k a0_0 a0_1 a2).bind fun bt282 => (if (t267 == bt282.1 && (t268 == bt282.2.1 && (t269 == bt282.2.2))) = true then ((hornbeamref04_Times.f k a1_0 a1_1 a0_1).bind fun bt285 => (if (t270 == bt285.1 && (t271 == bt285.2.1 && (t272 == bt285.2.2))) = true then ((prod_CmpLong.f t267 t268 t269 t270 t271 t272).bind fun t288 => ((hornbeamref04_CmpLong.f t267 t268 t269 t270 t271 t272).bind fun t289 => (some (t288 == t289)))) else (some false))) else (some false))) else (some false)) = some r := H
     have A16 := Aside0.mk A160
     clear A160
     by_cases c17 : t280 = t281
     ·rw [if_pos c17] at H
      have c17b0 : (t280 == t281) = true := beq_iff_eq.mpr c17
      have c17b1 : (t280 != t281) = false := bne_eq_false_iff_eq.mpr c17
      clear c17
      replace H := Option.bind_eq_some_iff.mp H
      obtain ⟨⟨t282, t283, t284⟩, A180, H⟩ := H
      replace H : (if (t267 == t282 && (t268 == t283 && (t269 == t284))) = true then ((hornbeamref04_Times.f k a1_0 a1_1 a0_1).bind fun bt285 => (if (t270 == bt285.1 && (t271 == bt285.2.1 && (t272 == bt285.2.2))) = true then ((prod_CmpLong.f t267 t268 t269 t270 t271 t272).bind fun t288 => ((hornbeamref04_CmpLong.f t267 t268 t269 t270 t271 t272).bind fun t289 => (some (t288 == t289)))) else (some false))) else (some false)) = some r := H
      have A18 := Aside0.mk A180
      clear A180
      by_cases c19 : (t267 == t282 && (t268 == t283 && (t269 == t284))) = true
      ·rw [if_pos c19] at H
       have c19b0 : (t267 == t282 && (t268 == t283 && (t269 == t284))) = true := c19
       (try (have c19b1 : decide (t267 = t282 && (t268 == t283 && (t269 == t284))) = true := by simpa using c19))
       (try (have c19b2 : (t267 == t282 && (t268 == t283 && (t269 == t284))) = true := by simpa using c19))
       clear c19
       replace H := Option.bind_eq_some_iff.mp H
       obtain ⟨⟨t285, t286, t287⟩, A200, H⟩ := H
       replace H : (if (t270 == t285 && (t271 == t286 && (t272 == t287))) = true then ((prod_CmpLong.f t267 t268 t269 t270 t271 t272).bind fun t288 => ((hornbeamref04_CmpLong.f t267 t268 t269 t270 t271 t272).bind fun t289 => (some (t288 == t289)))) else (some false)) = some r := H
       have A20 := Aside0.mk A200
       clear A200
       by_cases c21 : (t270 == t285 && (t271 == t286 && (t272 == t287))) = true
       ·rw [if_pos c21] at H
        have c21b0 : (t270 == t285 && (t271 == t286 && (t272 == t287))) = true := c21
        (try (have c21b1 : decide (t270 = t285 && (t271 == t286 && (t272 == t287))) = true := by simpa using c21))
        (try (have c21b2 : (t270 == t285 && (t271 == t286 && (t272 == t287))) = true := by simpa using c21))
        clear c21
        replace H := Option.bind_eq_some_iff.mp H
        obtain ⟨t288, A220, H⟩ := H
        replace H : ((hornbeamref04_CmpLong.f t267 t268 t269 t270 t271 t272).bind fun t289 => (some (t288 == t289))) = some r := H
        have A22 := Aside0.mk A220
        clear A220
        replace H := Option.bind_eq_some_iff.mp H
        obtain ⟨t289, A230, H⟩ := H
        replace H : (some (t288 == t289)) = some r := H
        have A23 := Aside0.mk A230
        clear A230
        obtain rfl := Option.some.inj H
        go_enter Try.func10, Try.ntmps10
        try go_wp2_with (first | ((with_reducible refine gate_dst (N := 3) rfl ?_); refine box_event ?hg (N := 3) ?hd (cs := #[.int .u64 a0_0, .int .u64 a0_1]) (t := 38) ?hr ?_; (case hd => rfl); (case hg => rfl); (case hr => first | (go_simp; done) | (go_simp; rfl)); intro gb257 hg w24 hbox hb; have n0_ := Aside0.mk (lP (by repeat (first | (with_reducible first | exact HB.out | apply lA | apply lN | apply lD) | exact HB.out)) hb); have n1_ := Aside0.mk (hbox); have n2_ := Aside0.mk ((by rw [hg]; exact (lZ (by repeat (first | (with_reducible first | exact HB.out | apply lA | apply lN | apply lD) | exact HB.out))) : w.heap.size ≤ gb257)); have n3_ := Aside0.mk ((by rw [hg]; exact (lZ (by repeat (first | (with_reducible first | exact HB.out | apply lA | apply lN | apply lD) | exact HB.out))) : w.heap.size ≤ gb257)); clear HB; have HB := n0_; have BK257 := n1_; have GW257 := n2_; have GE257 := n3_; clear n0_ n1_ n2_ n3_; clear hb hbox hg) | ((with_reducible refine gate_dst (N := 4) rfl ?_); refine box_event ?hg (N := 4) ?hd (cs := #[.int .u64 a1_0, .int .u64 a1_1]) (t := 38) ?hr ?_; (case hd => rfl); (case hg => rfl); (case hr => first | (go_simp; done) | (go_simp; rfl)); intro gb258 hg w25 hbox hb; have n0_ := Aside0.mk (bB (g := gb257) (o := .cells #[.int .u64 a0_0, .int .u64 a0_1] 38 (0, 0)) (by (with_reducible repeat (first | refine bN ?_ _ | refine bD ?_ | refine bA ?_ _)); exact BK257.out) hb); have n1_ := Aside0.mk (lP (by repeat (first | (with_reducible first | exact HB.out | apply lA | apply lN | apply lD | refine lS ?_ GE257.out) | exact HB.out)) hb); have n2_ := Aside0.mk (hbox); have n3_ := Aside0.mk ((by rw [hg]; exact (lZ (by repeat (first | (with_reducible first | exact HB.out | apply lA | apply lN | apply lD | refine lS ?_ GE257.out) | exact HB.out))) : w.heap.size ≤ gb258)); have n4_ := Aside0.mk ((by rw [hg]; exact (lZ (by repeat (first | (with_reducible first | exact HB.out | apply lA | apply lN | apply lD | refine lS ?_ GE257.out) | exact HB.out))) : w.heap.size ≤ gb258)); have n5_ := Aside0.mk ((by rw [hg]; exact Nat.ne_of_lt (bL (g := gb257) (o := .cells #[.int .u64 a0_0, .int .u64 a0_1] 38 (0, 0)) (by (with_reducible repeat (first | refine bN ?_ _ | refine bD ?_ | refine bA ?_ _)); exact BK257.out)) : gb257 ≠ gb258)); have n6_ := Aside0.mk ((by rw [hg]; exact Nat.ne_of_gt (bL (g := gb257) (o := .cells #[.int .u64 a0_0, .int .u64 a0_1] 38 (0, 0)) (by (with_reducible repeat (first | refine bN ?_ _ | refine bD ?_ | refine bA ?_ _)); exact BK257.out)) : gb258 ≠ gb257)); clear BK257; clear HB; have BK257 := n0_; have HB := n1_; have BK258 := n2_; have GW258 := n3_; have GE258 := n4_; have NB257_258 := n5_; have NB258_257 := n6_; clear n0_ n1_ n2_ n3_ n4_ n5_ n6_; clear hb hbox hg; have hnb26 := NB257_258.out; have hnc26 := NB258_257.out; have hcz27_0 : w25.cell? ⟨gb257, 0, none⟩ = some (.int .u64 a0_0) := (bC BK257.out 0).trans rfl; have hcz27_1 : w25.cell? ⟨gb257, 1, none⟩ = some (.int .u64 a0_1) := (bC BK257.out 1).trans rfl; have hfz27_0 := bF BK257.out 0; have hfz27_1 := bF BK257.out 1; have hcz28_0 : w25.cell? ⟨gb258, 0, none⟩ = some (.int .u64 a1_0) := (bC BK258.out 0).trans rfl; have hcz28_1 : w25.cell? ⟨gb258, 1, none⟩ = some (.int .u64 a1_1) := (bC BK258.out 1).trans rfl; have hfz28_0 := bF BK258.out 0; have hfz28_1 := bF BK258.out 1) | ((with_reducible refine gate_callee (f := 32) rfl ?_); refine goesL_ (some 16) rfl rfl Try.func32 (by kernel_rfl) rfl #[.agg #[.int .u64 a0_0, .int .u64 a0_1], .agg #[.int .u64 a1_0, .int .u64 a1_1]] rfl (by (try simp only [List.map_toArray, List.map_cons, List.map_nil]); first | done | rfl | (simp only [List.length_drop, List.length_take]; rfl)) ?_; (with_reducible refine (prod_Add.calls a0_0 a0_1 a1_0 a1_1 t259 t260 t261 _ A4.out).mono ?_); rintro e w29 ⟨rfl, hb⟩; refine ⟨_, rfl, ?_⟩; have n0_ := Aside0.mk (bB (g := gb257) (o := .cells #[.int .u64 a0_0, .int .u64 a0_1] 38 (0, 0)) (by (with_reducible repeat (first | refine bN ?_ _ | refine bD ?_ | refine bA ?_ _)); exact BK257.out) hb); have n1_ := Aside0.mk (bB (g := gb258) (o := .cells #[.int .u64 a1_0, .int .u64 a1_1] 38 (0, 0)) (by (with_reducible repeat (first | refine bN ?_ _ | refine bD ?_ | refine bA ?_ _)); exact BK258.out) hb); have n2_ := Aside0.mk (lP (by repeat (first | (with_reducible first | exact HB.out | apply lA | apply lN | apply lD | refine lS ?_ GE257.out | refine lS ?_ GE258.out) | exact HB.out)) hb); clear BK257; clear BK258; clear HB; have BK257 := n0_; have BK258 := n1_; have HB := n2_; clear n0_ n1_ n2_; (try clear hb); (try clear hb2); (try clear hk); (try clear hi)) | ((with_reducible refine gate_dst (N := 7) rfl ?_); refine box_event ?hg (N := 7) ?hd (cs := #[.int .u64 0, .int .u64 0]) (t := 38) ?hr ?_; (case hd => rfl); (case hg => rfl); (case hr => first | (go_simp; done) | (go_simp; rfl)); intro gb262 hg w30 hbox hb; have n0_ := Aside0.mk (bB (g := gb257) (o := .cells #[.int .u64 a0_0, .int .u64 a0_1] 38 (0, 0)) (by (with_reducible repeat (first | refine bN ?_ _ | refine bD ?_ | refine bA ?_ _)); exact BK257.out) hb); have n1_ := Aside0.mk (bB (g := gb258) (o := .cells #[.int .u64 a1_0, .int .u64 a1_1] 38 (0, 0)) (by (with_reducible repeat (first | refine bN ?_ _ | refine bD ?_ | refine bA ?_ _)); exact BK258.out) hb); have n2_ := Aside0.mk (lP (by repeat (first | (with_reducible first | exact HB.out | apply lA | apply lN | apply lD | refine lS ?_ GE257.out | refine lS ?_ GE258.out) | exact HB.out)) hb); have n3_ := Aside0.mk (hbox); have n4_ := Aside0.mk ((by rw [hg]; exact (lZ (by repeat (first | (with_reducible first | exact HB.out | apply lA | apply lN | apply lD | refine lS ?_ GE257.out | refine lS ?_ GE258.out) | exact HB.out))) : w.heap.size ≤ gb262)); have n5_ := Aside0.mk ((by rw [hg]; exact (lZ (by repeat (first | (with_reducible first | exact HB.out | apply lA | apply lN | apply lD | refine lS ?_ GE257.out | refine lS ?_ GE258.out) | exact HB.out))) : w.heap.size ≤ gb262)); have n6_ := Aside0.mk ((by rw [hg]; exact Nat.ne_of_lt (bL (g := gb257) (o := .cells #[.int .u64 a0_0, .int .u64 a0_1] 38 (0, 0)) (by (with_reducible repeat (first | refine bN ?_ _ | refine bD ?_ | refine bA ?_ _)); exact BK257.out)) : gb257 ≠ gb262)); have n7_ := Aside0.mk ((by rw [hg]; exact Nat.ne_of_gt (bL (g := gb257) (o := .cells #[.int .u64 a0_0, .int .u64 a0_1] 38 (0, 0)) (by (with_reducible repeat (first | refine bN ?_ _ | refine bD ?_ | refine bA ?_ _)); exact BK257.out)) : gb262 ≠ gb257)); have n8_ := Aside0.mk ((by rw [hg]; exact Nat.ne_of_lt (bL (g := gb258) (o := .cells #[.int .u64 a1_0, .int .u64 a1_1] 38 (0, 0)) (by (with_reducible repeat (first | refine bN ?_ _ | refine bD ?_ | refine bA ?_ _)); exact BK258.out)) : gb258 ≠ gb262)); have n9_ := Aside0.mk ((by rw [hg]; exact Nat.ne_of_gt (bL (g := gb258) (o := .cells #[.int .u64 a1_0, .int .u64 a1_1] 38 (0, 0)) (by (with_reducible repeat (first | refine bN ?_ _ | refine bD ?_ | refine bA ?_ _)); exact BK258.out)) : gb262 ≠ gb258)); clear BK257; clear BK258; clear HB; have BK257 := n0_; have BK258 := n1_; have HB := n2_; have BK262 := n3_; have GW262 := n4_; have GE262 := n5_; have NB257_262 := n6_; have NB262_257 := n7_; have NB258_262 := n8_; have NB262_258 := n9_; clear n0_ n1_ n2_ n3_ n4_ n5_ n6_ n7_ n8_ n9_; clear hb hbox hg; have hnb31 := NB262_257.out; have hnc31 := NB257_262.out; have hnb32 := NB262_258.out; have hnc32 := NB258_262.out; have hcz33_0 : w30.cell? ⟨gb262, 0, none⟩ = some (.int .u64 0) := (bC BK262.out 0).trans rfl; have hcz33_1 : w30.cell? ⟨gb262, 1, none⟩ = some (.int .u64 0) := (bC BK262.out 1).trans rfl; have hfz33_0 := bF BK262.out 0; have hfz33_1 := bF BK262.out 1; have hcz34_0 : w30.cell? ⟨gb257, 0, none⟩ = some (.int .u64 a0_0) := (bC BK257.out 0).trans rfl; have hcz34_1 : w30.cell? ⟨gb257, 1, none⟩ = some (.int .u64 a0_1) := (bC BK257.out 1).trans rfl; have hfz34_0 := bF BK257.out 0; have hfz34_1 := bF BK257.out 1; have hcz35_0 : w30.cell? ⟨gb258, 0, none⟩ = some (.int .u64 a1_0) := (bC BK258.out 0).trans rfl; have hcz35_1 : w30.cell? ⟨gb258, 1, none⟩ = some (.int .u64 a1_1) := (bC BK258.out 1).trans rfl; have hfz35_0 := bF BK258.out 0; have hfz35_1 := bF BK258.out 1) | ((with_reducible refine gate_callee (f := 34) rfl ?_); refine goesL_ (some 22) rfl rfl Try.func34 (by kernel_rfl) rfl #[.agg #[.int .u64 a0_0, .int .u64 a0_1], .agg #[.int .u64 a1_0, .int .u64 a1_1]] rfl (by (try simp only [List.map_toArray, List.map_cons, List.map_nil]); first | done | rfl | (simp only [List.length_drop, List.length_take]; rfl)) ?_; (with_reducible refine (hornbeamref04_Add.calls k a0_0 a0_1 a1_0 a1_1 t263 t264 t265 _ A5.out).mono ?_); rintro e w36 ⟨rfl, hb⟩; refine ⟨_, rfl, ?_⟩; have n0_ := Aside0.mk (bB (g := gb257) (o := .cells #[.int .u64 a0_0, .int .u64 a0_1] 38 (0, 0)) (by (with_reducible repeat (first | refine bN ?_ _ | refine bD ?_ | refine bA ?_ _)); refine blk_far ?_ NB257_262.out _; (with_reducible repeat (first | refine bN ?_ _ | refine bD ?_ | refine bA ?_ _)); refine blk_far ?_ NB257_262.out _; (with_reducible repeat (first | refine bN ?_ _ | refine bD ?_ | refine bA ?_ _)); exact BK257.out) hb); have n1_ := Aside0.mk (bB (g := gb258) (o := .cells #[.int .u64 a1_0, .int .u64 a1_1] 38 (0, 0)) (by (with_reducible repeat (first | refine bN ?_ _ | refine bD ?_ | refine bA ?_ _)); refine blk_far ?_ NB258_262.out _; (with_reducible repeat (first | refine bN ?_ _ | refine bD ?_ | refine bA ?_ _)); refine blk_far ?_ NB258_262.out _; (with_reducible repeat (first | refine bN ?_ _ | refine bD ?_ | refine bA ?_ _)); exact BK258.out) hb); have n2_ := Aside0.mk (bB (g := gb262) (o := .cells #[.int .u64 t259, .int .u64 t260] 38 (0, 0)) (by (with_reducible repeat (first | refine bN ?_ _ | refine bD ?_ | refine bA ?_ _)); refine blk_put (cs := #[.int .u64 t259, .int .u64 0]) ?_ 1 _ rfl; (with_reducible repeat (first | refine bN ?_ _ | refine bD ?_ | refine bA ?_ _)); refine blk_put (cs := #[.int .u64 0, .int .u64 0]) ?_ 0 _ rfl; (with_reducible repeat (first | refine bN ?_ _ | refine bD ?_ | refine bA ?_ _)); exact BK262.out) hb); have n3_ := Aside0.mk (lP (by repeat (first | (with_reducible first | exact HB.out | apply lA | apply lN | apply lD | refine lS ?_ GE257.out | refine lS ?_ GE258.out | refine lS ?_ GE262.out) | exact HB.out)) hb); clear BK257; clear BK258; clear BK262; clear HB; have BK257 := n0_; have BK258 := n1_; have BK262 := n2_; have HB := n3_; clear n0_ n1_ n2_ n3_; (try clear hb); (try clear hb2); (try clear hk); (try clear hi)) | ((with_reducible refine gate_dst (N := 9) rfl ?_); refine box_event ?hg (N := 9) ?hd (cs := #[.int .u64 0, .int .u64 0]) (t := 38) ?hr ?_; (case hd => rfl); (case hg => rfl); (case hr => first | (go_simp; done) | (go_simp; rfl)); intro gb266 hg w37 hbox hb; have n0_ := Aside0.mk (bB (g := gb257) (o := .cells #[.int .u64 a0_0, .int .u64 a0_1] 38 (0, 0)) (by (with_reducible repeat (first | refine bN ?_ _ | refine bD ?_ | refine bA ?_ _)); exact BK257.out) hb); have n1_ := Aside0.mk (bB (g := gb258) (o := .cells #[.int .u64 a1_0, .int .u64 a1_1] 38 (0, 0)) (by (with_reducible repeat (first | refine bN ?_ _ | refine bD ?_ | refine bA ?_ _)); exact BK258.out) hb); have n2_ := Aside0.mk (bB (g := gb262) (o := .cells #[.int .u64 t259, .int .u64 t260] 38 (0, 0)) (by (with_reducible repeat (first | refine bN ?_ _ | refine bD ?_ | refine bA ?_ _)); exact BK262.out) hb); have n3_ := Aside0.mk (lP (by repeat (first | (with_reducible first | exact HB.out | apply lA | apply lN | apply lD | refine lS ?_ GE257.out | refine lS ?_ GE258.out | refine lS ?_ GE262.out) | exact HB.out)) hb); have n4_ := Aside0.mk (hbox); have n5_ := Aside0.mk ((by rw [hg]; exact (lZ (by repeat (first | (with_reducible first | exact HB.out | apply lA | apply lN | apply lD | refine lS ?_ GE257.out | refine lS ?_ GE258.out | refine lS ?_ GE262.out) | exact HB.out))) : w.heap.size ≤ gb266)); have n6_ := Aside0.mk ((by rw [hg]; exact (lZ (by repeat (first | (with_reducible first | exact HB.out | apply lA | apply lN | apply lD | refine lS ?_ GE257.out | refine lS ?_ GE258.out | refine lS ?_ GE262.out) | exact HB.out))) : w.heap.size ≤ gb266)); have n7_ := Aside0.mk ((by rw [hg]; exact Nat.ne_of_lt (bL (g := gb257) (o := .cells #[.int .u64 a0_0, .int .u64 a0_1] 38 (0, 0)) (by (with_reducible repeat (first | refine bN ?_ _ | refine bD ?_ | refine bA ?_ _)); exact BK257.out)) : gb257 ≠ gb266)); have n8_ := Aside0.mk ((by rw [hg]; exact Nat.ne_of_gt (bL (g := gb257) (o := .cells #[.int .u64 a0_0, .int .u64 a0_1] 38 (0, 0)) (by (with_reducible repeat (first | refine bN ?_ _ | refine bD ?_ | refine bA ?_ _)); exact BK257.out)) : gb266 ≠ gb257)); have n9_ := Aside0.mk ((by rw [hg]; exact Nat.ne_of_lt (bL (g := gb258) (o := .cells #[.int .u64 a1_0, .int .u64 a1_1] 38 (0, 0)) (by (with_reducible repeat (first | refine bN ?_ _ | refine bD ?_ | refine bA ?_ _)); exact BK258.out)) : gb258 ≠ gb266)); have n10_ := Aside0.mk ((by rw [hg]; exact Nat.ne_of_gt (bL (g := gb258) (o := .cells #[.int .u64 a1_0, .int .u64 a1_1] 38 (0, 0)) (by (with_reducible repeat (first | refine bN ?_ _ | refine bD ?_ | refine bA ?_ _)); exact BK258.out)) : gb266 ≠ gb258)); have n11_ := Aside0.mk ((by rw [hg]; exact Nat.ne_of_lt (bL (g := gb262) (o := .cells #[.int .u64 t259, .int .u64 t260] 38 (0, 0)) (by (with_reducible repeat (first | refine bN ?_ _ | refine bD ?_ | refine bA ?_ _)); exact BK262.out)) : gb262 ≠ gb266)); have n12_ := Aside0.mk ((by rw [hg]; exact Nat.ne_of_gt (bL (g := gb262) (o := .cells #[.int .u64 t259, .int .u64 t260] 38 (0, 0)) (by (with_reducible repeat (first | refine bN ?_ _ | refine bD ?_ | refine bA ?_ _)); exact BK262.out)) : gb266 ≠ gb262)); clear BK257; clear BK258; clear BK262; clear HB; have BK257 := n0_; have BK258 := n1_; have BK262 := n2_; have HB := n3_; have BK266 := n4_; have GW266 := n5_; have GE266 := n6_; have NB257_266 := n7_; have NB266_257 := n8_; have NB258_266 := n9_; have NB266_258 := n10_; have NB262_266 := n11_; have NB266_262 := n12_; clear n0_ n1_ n2_ n3_ n4_ n5_ n6_ n7_ n8_ n9_ n10_ n11_ n12_; clear hb hbox hg; have hnb38 := NB266_257.out; have hnc38 := NB257_266.out; have hnb39 := NB266_258.out; have hnc39 := NB258_266.out; have hnb40 := NB266_262.out; have hnc40 := NB262_266.out; have hcz41_0 : w37.cell? ⟨gb266, 0, none⟩ = some (.int .u64 0) := (bC BK266.out 0).trans rfl; have hcz41_1 : w37.cell? ⟨gb266, 1, none⟩ = some (.int .u64 0) := (bC BK266.out 1).trans rfl; have hfz41_0 := bF BK266.out 0; have hfz41_1 := bF BK266.out 1))
        have n0_ : Aside0 (((w37.setCell ⟨gb266, 0, none⟩ (.int .u64 t263)).setCell ⟨gb266, 1, none⟩ (.int .u64 t264)).heap[gb257]? = some (.cells #[.int .u64 a0_0, .int .u64 a0_1] 38 (0, 0))) := ⟨by (with_reducible repeat (first | refine bN ?_ _ | refine bD ?_ | refine bA ?_ _)); refine blk_far ?_ NB257_266.out _; (with_reducible repeat (first | refine bN ?_ _ | refine bD ?_ | refine bA ?_ _)); refine blk_far ?_ NB257_266.out _; (with_reducible repeat (first | refine bN ?_ _ | refine bD ?_ | refine bA ?_ _)); exact BK257.out⟩
        have n1_ : Aside0 (((w37.setCell ⟨gb266, 0, none⟩ (.int .u64 t263)).setCell ⟨gb266, 1, none⟩ (.int .u64 t264)).heap[gb258]? = some (.cells #[.int .u64 a1_0, .int .u64 a1_1] 38 (0, 0))) := ⟨by (with_reducible repeat (first | refine bN ?_ _ | refine bD ?_ | refine bA ?_ _)); refine blk_far ?_ NB258_266.out _; (with_reducible repeat (first | refine bN ?_ _ | refine bD ?_ | refine bA ?_ _)); refine blk_far ?_ NB258_266.out _; (with_reducible repeat (first | refine bN ?_ _ | refine bD ?_ | refine bA ?_ _)); exact BK258.out⟩
        have n2_ : Aside0 (((w37.setCell ⟨gb266, 0, none⟩ (.int .u64 t263)).setCell ⟨gb266, 1, none⟩ (.int .u64 t264)).heap[gb262]? = some (.cells #[.int .u64 t259, .int .u64 t260] 38 (0, 0))) := ⟨by (with_reducible repeat (first | refine bN ?_ _ | refine bD ?_ | refine bA ?_ _)); refine blk_far ?_ NB262_266.out _; (with_reducible repeat (first | refine bN ?_ _ | refine bD ?_ | refine bA ?_ _)); refine blk_far ?_ NB262_266.out _; (with_reducible repeat (first | refine bN ?_ _ | refine bD ?_ | refine bA ?_ _)); exact BK262.out⟩
        have n3_ : Aside0 (((w37.setCell ⟨gb266, 0, none⟩ (.int .u64 t263)).setCell ⟨gb266, 1, none⟩ (.int .u64 t264)).heap[gb266]? = some (.cells #[.int .u64 t263, .int .u64 t264] 38 (0, 0))) := ⟨by (with_reducible repeat (first | refine bN ?_ _ | refine bD ?_ | refine bA ?_ _)); refine blk_put (cs := #[.int .u64 t263, .int .u64 0]) ?_ 1 _ rfl; (with_reducible repeat (first | refine bN ?_ _ | refine bD ?_ | refine bA ?_ _)); refine blk_put (cs := #[.int .u64 0, .int .u64 0]) ?_ 0 _ rfl; (with_reducible repeat (first | refine bN ?_ _ | refine bD ?_ | refine bA ?_ _)); exact BK266.out⟩
        have n4_ : Aside0 (Below w.heap.size w ((w37.setCell ⟨gb266, 0, none⟩ (.int .u64 t263)).setCell ⟨gb266, 1, none⟩ (.int .u64 t264))) := ⟨by repeat (first | (with_reducible first | exact HB.out | apply lA | apply lN | apply lD | refine lS ?_ GE257.out | refine lS ?_ GE258.out | refine lS ?_ GE262.out | refine lS ?_ GE266.out) | exact HB.out)⟩
        (try clear BK257)
        (try clear BK258)
        (try clear BK262)
        (try clear BK266)
        (try clear HB)
        generalize ((w37.setCell ⟨gb266, 0, none⟩ (.int .u64 t263)).setCell ⟨gb266, 1, none⟩ (.int .u64 t264)) = w42 at n0_ n1_ n2_ n3_ n4_ ⊢
        have BK257 := n0_; have BK258 := n1_; have BK262 := n2_; have BK266 := n3_; have HB := n4_
        clear n0_ n1_ n2_ n3_ n4_
        have n0_ := Aside0.mk (bD BK257.out)
        have n1_ := Aside0.mk (bD BK258.out)
        have n2_ := Aside0.mk (bD BK262.out)
        have n3_ := Aside0.mk (bD BK266.out)
        have n4_ := Aside0.mk (lD HB.out)
        clear BK257 BK258 BK262 BK266 HB
        have BK257 := n0_; have BK258 := n1_; have BK262 := n2_; have BK266 := n3_; have HB := n4_
        clear n0_ n1_ n2_ n3_ n4_
        refine start_ (n := 11) (S := fun w' => w'.cell? ⟨gb257, 0, none⟩ = some (.int .u64 a0_0) ∧ w'.cell? ⟨gb257, 1, none⟩ = some (.int .u64 a0_1) ∧ w'.cell? ⟨gb258, 0, none⟩ = some (.int .u64 a1_0) ∧ w'.cell? ⟨gb258, 1, none⟩ = some (.int .u64 a1_1)) (ds := []) #[false, false, false, false, false, false, false, false, false, false, false] (by kernel_rfl) rfl rfl ⟨(bC BK257.out 0).trans rfl, (bC BK257.out 1).trans rfl, (bC BK258.out 0).trans rfl, (bC BK258.out 1).trans rfl⟩ (fun hHeld => ?_); refine with_tabW hornbeamlaw04_ProdWides.tab3 hornbeamlaw04_ProdWides.bits3 (fun HT_ HW_ => ?_)
        generalize w42.drew = w43 at BK257 BK258 BK262 BK266 HB hHeld ⊢
        refine pure_ (i := 1) (N := some 26) (v := ?_) (a' := ?_) #[false, true, false, false, false, false, false, false, false, false, false] rfl rfl (any_of HT_.out (by kernel_rfl)) (fun _ _ _ h => h) (Or.inl ⟨by rfl, ?_⟩) ?_ ?_
        rotate_left
        ·intro w'
         go_simp
         with_reducible rfl
        rotate_left
        ·simp only [Act.put, List.setIfInBounds_toArray, List.set_cons_zero, List.set_cons_succ, i64_w, i32_w]
         rfl
        refine pure_ (i := 4) (N := some 29) (v := ?_) (a' := ?_) #[false, true, false, false, true, false, false, false, false, false, false] rfl rfl (any_of HT_.out (by kernel_rfl)) (fun _ _ _ h => h) (Or.inl ⟨by rfl, ?_⟩) ?_ ?_
        rotate_left
        ·intro w'
         go_simp
         with_reducible rfl
        rotate_left
        ·simp only [Act.put, List.setIfInBounds_toArray, List.set_cons_zero, List.set_cons_succ, i64_w, i32_w]
         rfl
        refine take_ (i := 0) (N := some 25) (v := ?_) (a' := ?_) #[true, true, false, false, true, false, false, false, false, false, false] rfl rfl (take_ofW HT_.out HW_.out (by kernel_rfl)) (fun _ _ _ h => h) (Or.inl ⟨by rfl, ?_⟩) hHeld ?_ ?_
        rotate_left
        ·rintro w' ⟨s0, s1, s2, s3⟩
         go_simp
         with_reducible rfl
        rotate_left
        ·simp only [Act.put, List.setIfInBounds_toArray, List.set_cons_zero, List.set_cons_succ, i64_w, i32_w]
         rfl
        refine take_ (i := 3) (N := some 28) (v := ?_) (a' := ?_) #[true, true, false, true, true, false, false, false, false, false, false] rfl rfl (take_ofW HT_.out HW_.out (by kernel_rfl)) (fun _ _ _ h => h) (Or.inl ⟨by rfl, ?_⟩) hHeld ?_ ?_
        rotate_left
        ·rintro w' ⟨s0, s1, s2, s3⟩
         go_simp
         with_reducible rfl
        rotate_left
        ·simp only [Act.put, List.setIfInBounds_toArray, List.set_cons_zero, List.set_cons_succ, i64_w, i32_w]
         rfl
        refine take_ (i := 5) (N := some 30) (v := ?_) (a' := ?_) #[true, true, false, true, true, true, false, false, false, false, false] rfl rfl (take_ofW HT_.out HW_.out (by kernel_rfl)) (fun _ _ _ h => h) (Or.inl ⟨by rfl, ?_⟩) hHeld ?_ ?_
        rotate_left
        ·rintro w' ⟨s0, s1, s2, s3⟩
         go_simp
         with_reducible rfl
        rotate_left
        ·simp only [Act.put, List.setIfInBounds_toArray, List.set_cons_zero, List.set_cons_succ, i64_w, i32_w]
         rfl
        refine join_ (σ := Nat × Nat) 2 #[true, true, true, true, true, true, true, true, true, false, false] (fun s_ => [(27, .agg #[.int .u64 t267, .int .u64 t268, .int .u64 t269]), (31, .agg #[.int .u64 t270, .int .u64 t271, .int .u64 t272]), (11, .pointer (some ⟨s_.1, 0, none⟩)), (12, .pointer (some ⟨s_.2, 0, none⟩))]) (fun s_ w' => (w'.cell? ⟨gb257, 0, none⟩ = some (.int .u64 a0_0) ∧ w'.cell? ⟨gb257, 1, none⟩ = some (.int .u64 a0_1) ∧ w'.cell? ⟨gb258, 0, none⟩ = some (.int .u64 a1_0) ∧ w'.cell? ⟨gb258, 1, none⟩ = some (.int .u64 a1_1)) ∧ (w'.heap[gb257]? = some (.cells #[.int .u64 a0_0, .int .u64 a0_1] 38 (0, 0))) ∧ (w'.heap[gb258]? = some (.cells #[.int .u64 a1_0, .int .u64 a1_1] 38 (0, 0))) ∧ (w'.heap[gb262]? = some (.cells #[.int .u64 t259, .int .u64 t260] 38 (0, 0))) ∧ (w'.heap[gb266]? = some (.cells #[.int .u64 t263, .int .u64 t264] 38 (0, 0))) ∧ (w'.heap[s_.1]? = some (.cells #[.int .u64 0, .int .u64 0, .int .u64 0] 49 (0, 0))) ∧ (w'.heap[s_.2]? = some (.cells #[.int .u64 0, .int .u64 0, .int .u64 0] 49 (0, 0))) ∧ (w.heap.size ≤ s_.1) ∧ (w.heap.size ≤ s_.1) ∧ (gb257 ≠ s_.1) ∧ (s_.1 ≠ gb257) ∧ (gb258 ≠ s_.1) ∧ (s_.1 ≠ gb258) ∧ (gb262 ≠ s_.1) ∧ (s_.1 ≠ gb262) ∧ (gb266 ≠ s_.1) ∧ (s_.1 ≠ gb266) ∧ (s_.2 ≠ s_.1) ∧ (s_.1 ≠ s_.2) ∧ (w.heap.size ≤ s_.2) ∧ (w.heap.size ≤ s_.2) ∧ (gb257 ≠ s_.2) ∧ (s_.2 ≠ gb257) ∧ (gb258 ≠ s_.2) ∧ (s_.2 ≠ gb258) ∧ (gb262 ≠ s_.2) ∧ (s_.2 ≠ gb262) ∧ (gb266 ≠ s_.2) ∧ (s_.2 ≠ gb266) ∧ (Below w.heap.size w w')) ?_ ?_
        rotate_left
        ·intro hJ2_6_7_8
         refine join_ (σ := Nat) 3 #[true, true, true, true, true, true, true, true, false, false, false] (fun s_ => [(27, .agg #[.int .u64 t267, .int .u64 t268, .int .u64 t269]), (31, .agg #[.int .u64 t270, .int .u64 t271, .int .u64 t272]), (11, .pointer (some ⟨s_, 0, none⟩))]) (fun s_ w' => (w'.cell? ⟨gb257, 0, none⟩ = some (.int .u64 a0_0) ∧ w'.cell? ⟨gb257, 1, none⟩ = some (.int .u64 a0_1) ∧ w'.cell? ⟨gb258, 0, none⟩ = some (.int .u64 a1_0) ∧ w'.cell? ⟨gb258, 1, none⟩ = some (.int .u64 a1_1)) ∧ (w'.heap[gb257]? = some (.cells #[.int .u64 a0_0, .int .u64 a0_1] 38 (0, 0))) ∧ (w'.heap[gb258]? = some (.cells #[.int .u64 a1_0, .int .u64 a1_1] 38 (0, 0))) ∧ (w'.heap[gb262]? = some (.cells #[.int .u64 t259, .int .u64 t260] 38 (0, 0))) ∧ (w'.heap[gb266]? = some (.cells #[.int .u64 t263, .int .u64 t264] 38 (0, 0))) ∧ (w'.heap[s_]? = some (.cells #[.int .u64 0, .int .u64 0, .int .u64 0] 49 (0, 0))) ∧ (w.heap.size ≤ s_) ∧ (w.heap.size ≤ s_) ∧ (gb257 ≠ s_) ∧ (s_ ≠ gb257) ∧ (gb258 ≠ s_) ∧ (s_ ≠ gb258) ∧ (gb262 ≠ s_) ∧ (s_ ≠ gb262) ∧ (gb266 ≠ s_) ∧ (s_ ≠ gb266) ∧ (Below w.heap.size w w')) ?_ ?_
         rotate_left
         ·intro hJ2_6_7
          refine join_ (σ := Nat) 3 #[true, true, true, true, true, true, true, false, true, false, false] (fun s_ => [(27, .agg #[.int .u64 t267, .int .u64 t268, .int .u64 t269]), (31, .agg #[.int .u64 t270, .int .u64 t271, .int .u64 t272]), (12, .pointer (some ⟨s_, 0, none⟩))]) (fun s_ w' => (w'.cell? ⟨gb257, 0, none⟩ = some (.int .u64 a0_0) ∧ w'.cell? ⟨gb257, 1, none⟩ = some (.int .u64 a0_1) ∧ w'.cell? ⟨gb258, 0, none⟩ = some (.int .u64 a1_0) ∧ w'.cell? ⟨gb258, 1, none⟩ = some (.int .u64 a1_1)) ∧ (w'.heap[gb257]? = some (.cells #[.int .u64 a0_0, .int .u64 a0_1] 38 (0, 0))) ∧ (w'.heap[gb258]? = some (.cells #[.int .u64 a1_0, .int .u64 a1_1] 38 (0, 0))) ∧ (w'.heap[gb262]? = some (.cells #[.int .u64 t259, .int .u64 t260] 38 (0, 0))) ∧ (w'.heap[gb266]? = some (.cells #[.int .u64 t263, .int .u64 t264] 38 (0, 0))) ∧ (w'.heap[s_]? = some (.cells #[.int .u64 0, .int .u64 0, .int .u64 0] 49 (0, 0))) ∧ (w.heap.size ≤ s_) ∧ (w.heap.size ≤ s_) ∧ (gb257 ≠ s_) ∧ (s_ ≠ gb257) ∧ (gb258 ≠ s_) ∧ (s_ ≠ gb258) ∧ (gb262 ≠ s_) ∧ (s_ ≠ gb262) ∧ (gb266 ≠ s_) ∧ (s_ ≠ gb266) ∧ (Below w.heap.size w w')) ?_ ?_
          rotate_left
          ·intro hJ2_6_8
           refine join_ (σ := Nat × Nat) 3 #[true, true, true, true, true, true, false, true, true, false, false] (fun s_ => [(27, .agg #[.int .u64 t267, .int .u64 t268, .int .u64 t269]), (11, .pointer (some ⟨s_.1, 0, none⟩)), (12, .pointer (some ⟨s_.2, 0, none⟩))]) (fun s_ w' => (w'.cell? ⟨gb257, 0, none⟩ = some (.int .u64 a0_0) ∧ w'.cell? ⟨gb257, 1, none⟩ = some (.int .u64 a0_1) ∧ w'.cell? ⟨gb258, 0, none⟩ = some (.int .u64 a1_0) ∧ w'.cell? ⟨gb258, 1, none⟩ = some (.int .u64 a1_1)) ∧ (w'.heap[gb257]? = some (.cells #[.int .u64 a0_0, .int .u64 a0_1] 38 (0, 0))) ∧ (w'.heap[gb258]? = some (.cells #[.int .u64 a1_0, .int .u64 a1_1] 38 (0, 0))) ∧ (w'.heap[gb262]? = some (.cells #[.int .u64 t259, .int .u64 t260] 38 (0, 0))) ∧ (w'.heap[gb266]? = some (.cells #[.int .u64 t263, .int .u64 t264] 38 (0, 0))) ∧ (w'.heap[s_.1]? = some (.cells #[.int .u64 0, .int .u64 0, .int .u64 0] 49 (0, 0))) ∧ (w'.heap[s_.2]? = some (.cells #[.int .u64 0, .int .u64 0, .int .u64 0] 49 (0, 0))) ∧ (w.heap.size ≤ s_.1) ∧ (w.heap.size ≤ s_.1) ∧ (gb257 ≠ s_.1) ∧ (s_.1 ≠ gb257) ∧ (gb258 ≠ s_.1) ∧ (s_.1 ≠ gb258) ∧ (gb262 ≠ s_.1) ∧ (s_.1 ≠ gb262) ∧ (gb266 ≠ s_.1) ∧ (s_.1 ≠ gb266) ∧ (s_.2 ≠ s_.1) ∧ (s_.1 ≠ s_.2) ∧ (w.heap.size ≤ s_.2) ∧ (w.heap.size ≤ s_.2) ∧ (gb257 ≠ s_.2) ∧ (s_.2 ≠ gb257) ∧ (gb258 ≠ s_.2) ∧ (s_.2 ≠ gb258) ∧ (gb262 ≠ s_.2) ∧ (s_.2 ≠ gb262) ∧ (gb266 ≠ s_.2) ∧ (s_.2 ≠ gb266) ∧ (Below w.heap.size w w')) ?_ ?_
           rotate_left
           ·intro hJ2_7_8
            refine join_ (σ := Unit) 4 #[true, true, true, true, true, true, true, false, false, false, false] (fun s_ => [(27, .agg #[.int .u64 t267, .int .u64 t268, .int .u64 t269]), (31, .agg #[.int .u64 t270, .int .u64 t271, .int .u64 t272])]) (fun s_ w' => (w'.cell? ⟨gb257, 0, none⟩ = some (.int .u64 a0_0) ∧ w'.cell? ⟨gb257, 1, none⟩ = some (.int .u64 a0_1) ∧ w'.cell? ⟨gb258, 0, none⟩ = some (.int .u64 a1_0) ∧ w'.cell? ⟨gb258, 1, none⟩ = some (.int .u64 a1_1)) ∧ (w'.heap[gb257]? = some (.cells #[.int .u64 a0_0, .int .u64 a0_1] 38 (0, 0))) ∧ (w'.heap[gb258]? = some (.cells #[.int .u64 a1_0, .int .u64 a1_1] 38 (0, 0))) ∧ (w'.heap[gb262]? = some (.cells #[.int .u64 t259, .int .u64 t260] 38 (0, 0))) ∧ (w'.heap[gb266]? = some (.cells #[.int .u64 t263, .int .u64 t264] 38 (0, 0))) ∧ (Below w.heap.size w w')) ?_ ?_
            rotate_left
            ·intro hJ2_6
             refine join_ (σ := Nat) 4 #[true, true, true, true, true, true, false, true, false, false, false] (fun s_ => [(27, .agg #[.int .u64 t267, .int .u64 t268, .int .u64 t269]), (11, .pointer (some ⟨s_, 0, none⟩))]) (fun s_ w' => (w'.cell? ⟨gb257, 0, none⟩ = some (.int .u64 a0_0) ∧ w'.cell? ⟨gb257, 1, none⟩ = some (.int .u64 a0_1) ∧ w'.cell? ⟨gb258, 0, none⟩ = some (.int .u64 a1_0) ∧ w'.cell? ⟨gb258, 1, none⟩ = some (.int .u64 a1_1)) ∧ (w'.heap[gb257]? = some (.cells #[.int .u64 a0_0, .int .u64 a0_1] 38 (0, 0))) ∧ (w'.heap[gb258]? = some (.cells #[.int .u64 a1_0, .int .u64 a1_1] 38 (0, 0))) ∧ (w'.heap[gb262]? = some (.cells #[.int .u64 t259, .int .u64 t260] 38 (0, 0))) ∧ (w'.heap[gb266]? = some (.cells #[.int .u64 t263, .int .u64 t264] 38 (0, 0))) ∧ (w'.heap[s_]? = some (.cells #[.int .u64 0, .int .u64 0, .int .u64 0] 49 (0, 0))) ∧ (w.heap.size ≤ s_) ∧ (w.heap.size ≤ s_) ∧ (gb257 ≠ s_) ∧ (s_ ≠ gb257) ∧ (gb258 ≠ s_) ∧ (s_ ≠ gb258) ∧ (gb262 ≠ s_) ∧ (s_ ≠ gb262) ∧ (gb266 ≠ s_) ∧ (s_ ≠ gb266) ∧ (Below w.heap.size w w')) ?_ ?_
             rotate_left
             ·intro hJ2_7
              refine join_ (σ := Nat) 4 #[true, true, true, true, true, true, false, false, true, false, false] (fun s_ => [(27, .agg #[.int .u64 t267, .int .u64 t268, .int .u64 t269]), (12, .pointer (some ⟨s_, 0, none⟩))]) (fun s_ w' => (w'.cell? ⟨gb257, 0, none⟩ = some (.int .u64 a0_0) ∧ w'.cell? ⟨gb257, 1, none⟩ = some (.int .u64 a0_1) ∧ w'.cell? ⟨gb258, 0, none⟩ = some (.int .u64 a1_0) ∧ w'.cell? ⟨gb258, 1, none⟩ = some (.int .u64 a1_1)) ∧ (w'.heap[gb257]? = some (.cells #[.int .u64 a0_0, .int .u64 a0_1] 38 (0, 0))) ∧ (w'.heap[gb258]? = some (.cells #[.int .u64 a1_0, .int .u64 a1_1] 38 (0, 0))) ∧ (w'.heap[gb262]? = some (.cells #[.int .u64 t259, .int .u64 t260] 38 (0, 0))) ∧ (w'.heap[gb266]? = some (.cells #[.int .u64 t263, .int .u64 t264] 38 (0, 0))) ∧ (w'.heap[s_]? = some (.cells #[.int .u64 0, .int .u64 0, .int .u64 0] 49 (0, 0))) ∧ (w.heap.size ≤ s_) ∧ (w.heap.size ≤ s_) ∧ (gb257 ≠ s_) ∧ (s_ ≠ gb257) ∧ (gb258 ≠ s_) ∧ (s_ ≠ gb258) ∧ (gb262 ≠ s_) ∧ (s_ ≠ gb262) ∧ (gb266 ≠ s_) ∧ (s_ ≠ gb266) ∧ (Below w.heap.size w w')) ?_ ?_
              rotate_left
              ·intro hJ2_8
               refine join_ (σ := Nat × Nat) 4 #[true, true, false, true, true, true, false, true, true, false, false] (fun s_ => [(11, .pointer (some ⟨s_.1, 0, none⟩)), (12, .pointer (some ⟨s_.2, 0, none⟩))]) (fun s_ w' => (w'.cell? ⟨gb257, 0, none⟩ = some (.int .u64 a0_0) ∧ w'.cell? ⟨gb257, 1, none⟩ = some (.int .u64 a0_1) ∧ w'.cell? ⟨gb258, 0, none⟩ = some (.int .u64 a1_0) ∧ w'.cell? ⟨gb258, 1, none⟩ = some (.int .u64 a1_1)) ∧ (w'.heap[gb257]? = some (.cells #[.int .u64 a0_0, .int .u64 a0_1] 38 (0, 0))) ∧ (w'.heap[gb258]? = some (.cells #[.int .u64 a1_0, .int .u64 a1_1] 38 (0, 0))) ∧ (w'.heap[gb262]? = some (.cells #[.int .u64 t259, .int .u64 t260] 38 (0, 0))) ∧ (w'.heap[gb266]? = some (.cells #[.int .u64 t263, .int .u64 t264] 38 (0, 0))) ∧ (w'.heap[s_.1]? = some (.cells #[.int .u64 0, .int .u64 0, .int .u64 0] 49 (0, 0))) ∧ (w'.heap[s_.2]? = some (.cells #[.int .u64 0, .int .u64 0, .int .u64 0] 49 (0, 0))) ∧ (w.heap.size ≤ s_.1) ∧ (w.heap.size ≤ s_.1) ∧ (gb257 ≠ s_.1) ∧ (s_.1 ≠ gb257) ∧ (gb258 ≠ s_.1) ∧ (s_.1 ≠ gb258) ∧ (gb262 ≠ s_.1) ∧ (s_.1 ≠ gb262) ∧ (gb266 ≠ s_.1) ∧ (s_.1 ≠ gb266) ∧ (s_.2 ≠ s_.1) ∧ (s_.1 ≠ s_.2) ∧ (w.heap.size ≤ s_.2) ∧ (w.heap.size ≤ s_.2) ∧ (gb257 ≠ s_.2) ∧ (s_.2 ≠ gb257) ∧ (gb258 ≠ s_.2) ∧ (s_.2 ≠ gb258) ∧ (gb262 ≠ s_.2) ∧ (s_.2 ≠ gb262) ∧ (gb266 ≠ s_.2) ∧ (s_.2 ≠ gb266) ∧ (Below w.heap.size w w')) ?_ ?_
               rotate_left
               ·intro hJ7_8
                refine join_ (σ := Unit) 5 #[true, true, true, true, true, true, false, false, false, false, false] (fun s_ => [(27, .agg #[.int .u64 t267, .int .u64 t268, .int .u64 t269])]) (fun s_ w' => (w'.cell? ⟨gb257, 0, none⟩ = some (.int .u64 a0_0) ∧ w'.cell? ⟨gb257, 1, none⟩ = some (.int .u64 a0_1) ∧ w'.cell? ⟨gb258, 0, none⟩ = some (.int .u64 a1_0) ∧ w'.cell? ⟨gb258, 1, none⟩ = some (.int .u64 a1_1)) ∧ (w'.heap[gb257]? = some (.cells #[.int .u64 a0_0, .int .u64 a0_1] 38 (0, 0))) ∧ (w'.heap[gb258]? = some (.cells #[.int .u64 a1_0, .int .u64 a1_1] 38 (0, 0))) ∧ (w'.heap[gb262]? = some (.cells #[.int .u64 t259, .int .u64 t260] 38 (0, 0))) ∧ (w'.heap[gb266]? = some (.cells #[.int .u64 t263, .int .u64 t264] 38 (0, 0))) ∧ (Below w.heap.size w w')) ?_ ?_
                rotate_left
                ·intro hJ2
                 refine join_ (σ := Nat) 5 #[true, true, false, true, true, true, false, true, false, false, false] (fun s_ => [(11, .pointer (some ⟨s_, 0, none⟩))]) (fun s_ w' => (w'.cell? ⟨gb257, 0, none⟩ = some (.int .u64 a0_0) ∧ w'.cell? ⟨gb257, 1, none⟩ = some (.int .u64 a0_1) ∧ w'.cell? ⟨gb258, 0, none⟩ = some (.int .u64 a1_0) ∧ w'.cell? ⟨gb258, 1, none⟩ = some (.int .u64 a1_1)) ∧ (w'.heap[gb257]? = some (.cells #[.int .u64 a0_0, .int .u64 a0_1] 38 (0, 0))) ∧ (w'.heap[gb258]? = some (.cells #[.int .u64 a1_0, .int .u64 a1_1] 38 (0, 0))) ∧ (w'.heap[gb262]? = some (.cells #[.int .u64 t259, .int .u64 t260] 38 (0, 0))) ∧ (w'.heap[gb266]? = some (.cells #[.int .u64 t263, .int .u64 t264] 38 (0, 0))) ∧ (w'.heap[s_]? = some (.cells #[.int .u64 0, .int .u64 0, .int .u64 0] 49 (0, 0))) ∧ (w.heap.size ≤ s_) ∧ (w.heap.size ≤ s_) ∧ (gb257 ≠ s_) ∧ (s_ ≠ gb257) ∧ (gb258 ≠ s_) ∧ (s_ ≠ gb258) ∧ (gb262 ≠ s_) ∧ (s_ ≠ gb262) ∧ (gb266 ≠ s_) ∧ (s_ ≠ gb266) ∧ (Below w.heap.size w w')) ?_ ?_
                 rotate_left
                 ·intro hJ7
                  refine join_ (σ := Nat) 5 #[true, true, false, true, true, true, false, false, true, false, false] (fun s_ => [(12, .pointer (some ⟨s_, 0, none⟩))]) (fun s_ w' => (w'.cell? ⟨gb257, 0, none⟩ = some (.int .u64 a0_0) ∧ w'.cell? ⟨gb257, 1, none⟩ = some (.int .u64 a0_1) ∧ w'.cell? ⟨gb258, 0, none⟩ = some (.int .u64 a1_0) ∧ w'.cell? ⟨gb258, 1, none⟩ = some (.int .u64 a1_1)) ∧ (w'.heap[gb257]? = some (.cells #[.int .u64 a0_0, .int .u64 a0_1] 38 (0, 0))) ∧ (w'.heap[gb258]? = some (.cells #[.int .u64 a1_0, .int .u64 a1_1] 38 (0, 0))) ∧ (w'.heap[gb262]? = some (.cells #[.int .u64 t259, .int .u64 t260] 38 (0, 0))) ∧ (w'.heap[gb266]? = some (.cells #[.int .u64 t263, .int .u64 t264] 38 (0, 0))) ∧ (w'.heap[s_]? = some (.cells #[.int .u64 0, .int .u64 0, .int .u64 0] 49 (0, 0))) ∧ (w.heap.size ≤ s_) ∧ (w.heap.size ≤ s_) ∧ (gb257 ≠ s_) ∧ (s_ ≠ gb257) ∧ (gb258 ≠ s_) ∧ (s_ ≠ gb258) ∧ (gb262 ≠ s_) ∧ (s_ ≠ gb262) ∧ (gb266 ≠ s_) ∧ (s_ ≠ gb266) ∧ (Below w.heap.size w w')) ?_ ?_
                  rotate_left
                  ·intro hJ8
                   refine three_ (i := 2) (j := 7) (k := 8) (Ni := some 27) (Nj := some 11) (Nk := some 12) #[true, true, true, true, true, true, false, false, false, false, false] #[true, true, false, true, true, true, false, true, false, false, false] #[true, true, false, true, true, true, false, false, true, false, false] rfl rfl rfl rfl rfl rfl (three_of HT_.out (by kernel_rfl)) (by decide) (by decide) (by decide) (fun K hK => ?_) (fun K hK => ?_) (fun K hK => ?_)
                   ·skip
                    refine goes_ Try.func30 (by kernel_rfl) rfl #[.agg #[.int .u64 a0_0, .int .u64 a0_1], .int .u64 a2] (by rfl) rfl rfl (by (try simp only [List.map_toArray, List.map_cons, List.map_nil]); first | done | rfl | (simp only [List.length_drop, List.length_take]; rfl)) ?_
                    with_reducible refine (prod_Times.calls a0_0 a0_1 a2 t267 t268 t269 _ A6.out).mono ?_
                    rintro e w44 ⟨rfl, hb⟩
                    refine ⟨_, rfl, ?_⟩
                    have n0_ := Aside0.mk (bB (g := gb257) (o := .cells #[.int .u64 a0_0, .int .u64 a0_1] 38 (0, 0)) (by (with_reducible repeat (first | refine bN ?_ _ | refine bD ?_ | refine bA ?_ _)); exact BK257.out) hb)
                    have n1_ := Aside0.mk (bB (g := gb258) (o := .cells #[.int .u64 a1_0, .int .u64 a1_1] 38 (0, 0)) (by (with_reducible repeat (first | refine bN ?_ _ | refine bD ?_ | refine bA ?_ _)); exact BK258.out) hb)
                    have n2_ := Aside0.mk (bB (g := gb262) (o := .cells #[.int .u64 t259, .int .u64 t260] 38 (0, 0)) (by (with_reducible repeat (first | refine bN ?_ _ | refine bD ?_ | refine bA ?_ _)); exact BK262.out) hb)
                    have n3_ := Aside0.mk (bB (g := gb266) (o := .cells #[.int .u64 t263, .int .u64 t264] 38 (0, 0)) (by (with_reducible repeat (first | refine bN ?_ _ | refine bD ?_ | refine bA ?_ _)); exact BK266.out) hb)
                    have n4_ := Aside0.mk (lP (by repeat (first | (with_reducible first | exact HB.out | apply lA | apply lN | apply lD | refine lS ?_ GE257.out | refine lS ?_ GE258.out | refine lS ?_ GE262.out | refine lS ?_ GE266.out) | exact HB.out)) hb)
                    clear BK257 BK258 BK262 BK266 HB
                    have BK257 := n0_; have BK258 := n1_; have BK262 := n2_; have BK266 := n3_; have HB := n4_
                    clear n0_ n1_ n2_ n3_ n4_
                    (try clear hb)
                    (try clear hb2)
                    (try clear hk)
                    (try clear hi)
                    refine hK.out _ _ ⟨(bC BK257.out 0).trans rfl, (bC BK257.out 1).trans rfl, (bC BK258.out 0).trans rfl, (bC BK258.out 1).trans rfl⟩ (fun hHeld => ?_)
                    clear hK K
                    refine norm_ (a' := ?_) ?_ ?_
                    rotate_left
                    ·show Act.put _ (some 27) _ = _
                     simp only [Act.put, List.setIfInBounds_toArray, List.set_cons_zero, List.set_cons_succ, i64_w, i32_w]
                     rfl
                    exact norm_ (by first | (simp only [putAll, Act.put, List.setIfInBounds_toArray, List.set_cons_zero, List.set_cons_succ]; done) | (simp only [putAll, Act.put, List.setIfInBounds_toArray, List.set_cons_zero, List.set_cons_succ]; rfl)) (hJ2 () _ ⟨hHeld, (by (with_reducible repeat (first | refine bN ?_ _ | refine bD ?_ | refine bA ?_ _)); exact BK257.out), (by (with_reducible repeat (first | refine bN ?_ _ | refine bD ?_ | refine bA ?_ _)); exact BK258.out), (by (with_reducible repeat (first | refine bN ?_ _ | refine bD ?_ | refine bA ?_ _)); exact BK262.out), (by (with_reducible repeat (first | refine bN ?_ _ | refine bD ?_ | refine bA ?_ _)); exact BK266.out), (by repeat (first | (with_reducible first | exact HB.out | apply lA | apply lN | apply lD | refine lS ?_ GE257.out | refine lS ?_ GE258.out | refine lS ?_ GE262.out | refine lS ?_ GE266.out) | exact HB.out))⟩)
                   ·skip
                    refine box_step ?hg (N := 11) ?hd (cs := #[.int .u64 0, .int .u64 0, .int .u64 0]) (t := 49) ?hr ?_; (case hd => rfl); (case hg => rfl); (case hr => first | (go_simp; done) | (go_simp; rfl))
                    intro gb273 hg w44 hbox hb
                    have n0_ := Aside0.mk (bB (g := gb257) (o := .cells #[.int .u64 a0_0, .int .u64 a0_1] 38 (0, 0)) (by (with_reducible repeat (first | refine bN ?_ _ | refine bD ?_ | refine bA ?_ _)); exact BK257.out) hb)
                    have n1_ := Aside0.mk (bB (g := gb258) (o := .cells #[.int .u64 a1_0, .int .u64 a1_1] 38 (0, 0)) (by (with_reducible repeat (first | refine bN ?_ _ | refine bD ?_ | refine bA ?_ _)); exact BK258.out) hb)
                    have n2_ := Aside0.mk (bB (g := gb262) (o := .cells #[.int .u64 t259, .int .u64 t260] 38 (0, 0)) (by (with_reducible repeat (first | refine bN ?_ _ | refine bD ?_ | refine bA ?_ _)); exact BK262.out) hb)
                    have n3_ := Aside0.mk (bB (g := gb266) (o := .cells #[.int .u64 t263, .int .u64 t264] 38 (0, 0)) (by (with_reducible repeat (first | refine bN ?_ _ | refine bD ?_ | refine bA ?_ _)); exact BK266.out) hb)
                    have n4_ := Aside0.mk (lP (by repeat (first | (with_reducible first | exact HB.out | apply lA | apply lN | apply lD | refine lS ?_ GE257.out | refine lS ?_ GE258.out | refine lS ?_ GE262.out | refine lS ?_ GE266.out) | exact HB.out)) hb)
                    have n5_ := Aside0.mk (hbox)
                    have n6_ := Aside0.mk ((by rw [hg]; exact (lZ (by repeat (first | (with_reducible first | exact HB.out | apply lA | apply lN | apply lD | refine lS ?_ GE257.out | refine lS ?_ GE258.out | refine lS ?_ GE262.out | refine lS ?_ GE266.out) | exact HB.out))) : w.heap.size ≤ gb273))
                    have n7_ := Aside0.mk ((by rw [hg]; exact (lZ (by repeat (first | (with_reducible first | exact HB.out | apply lA | apply lN | apply lD | refine lS ?_ GE257.out | refine lS ?_ GE258.out | refine lS ?_ GE262.out | refine lS ?_ GE266.out) | exact HB.out))) : w.heap.size ≤ gb273))
                    have n8_ := Aside0.mk ((by rw [hg]; exact Nat.ne_of_lt (bL (g := gb257) (o := .cells #[.int .u64 a0_0, .int .u64 a0_1] 38 (0, 0)) (by (with_reducible repeat (first | refine bN ?_ _ | refine bD ?_ | refine bA ?_ _)); exact BK257.out)) : gb257 ≠ gb273))
                    have n9_ := Aside0.mk ((by rw [hg]; exact Nat.ne_of_gt (bL (g := gb257) (o := .cells #[.int .u64 a0_0, .int .u64 a0_1] 38 (0, 0)) (by (with_reducible repeat (first | refine bN ?_ _ | refine bD ?_ | refine bA ?_ _)); exact BK257.out)) : gb273 ≠ gb257))
                    have n10_ := Aside0.mk ((by rw [hg]; exact Nat.ne_of_lt (bL (g := gb258) (o := .cells #[.int .u64 a1_0, .int .u64 a1_1] 38 (0, 0)) (by (with_reducible repeat (first | refine bN ?_ _ | refine bD ?_ | refine bA ?_ _)); exact BK258.out)) : gb258 ≠ gb273))
                    have n11_ := Aside0.mk ((by rw [hg]; exact Nat.ne_of_gt (bL (g := gb258) (o := .cells #[.int .u64 a1_0, .int .u64 a1_1] 38 (0, 0)) (by (with_reducible repeat (first | refine bN ?_ _ | refine bD ?_ | refine bA ?_ _)); exact BK258.out)) : gb273 ≠ gb258))
                    have n12_ := Aside0.mk ((by rw [hg]; exact Nat.ne_of_lt (bL (g := gb262) (o := .cells #[.int .u64 t259, .int .u64 t260] 38 (0, 0)) (by (with_reducible repeat (first | refine bN ?_ _ | refine bD ?_ | refine bA ?_ _)); exact BK262.out)) : gb262 ≠ gb273))
                    have n13_ := Aside0.mk ((by rw [hg]; exact Nat.ne_of_gt (bL (g := gb262) (o := .cells #[.int .u64 t259, .int .u64 t260] 38 (0, 0)) (by (with_reducible repeat (first | refine bN ?_ _ | refine bD ?_ | refine bA ?_ _)); exact BK262.out)) : gb273 ≠ gb262))
                    have n14_ := Aside0.mk ((by rw [hg]; exact Nat.ne_of_lt (bL (g := gb266) (o := .cells #[.int .u64 t263, .int .u64 t264] 38 (0, 0)) (by (with_reducible repeat (first | refine bN ?_ _ | refine bD ?_ | refine bA ?_ _)); exact BK266.out)) : gb266 ≠ gb273))
                    have n15_ := Aside0.mk ((by rw [hg]; exact Nat.ne_of_gt (bL (g := gb266) (o := .cells #[.int .u64 t263, .int .u64 t264] 38 (0, 0)) (by (with_reducible repeat (first | refine bN ?_ _ | refine bD ?_ | refine bA ?_ _)); exact BK266.out)) : gb273 ≠ gb266))
                    clear BK257 BK258 BK262 BK266 HB
                    have BK257 := n0_; have BK258 := n1_; have BK262 := n2_; have BK266 := n3_; have HB := n4_; have BK273 := n5_; have GW273 := n6_; have GE273 := n7_; have NB257_273 := n8_; have NB273_257 := n9_; have NB258_273 := n10_; have NB273_258 := n11_; have NB262_273 := n12_; have NB273_262 := n13_; have NB266_273 := n14_; have NB273_266 := n15_
                    clear n0_ n1_ n2_ n3_ n4_ n5_ n6_ n7_ n8_ n9_ n10_ n11_ n12_ n13_ n14_ n15_ hb hbox hg
                    refine hK.out _ _ ⟨(bC BK257.out 0).trans rfl, (bC BK257.out 1).trans rfl, (bC BK258.out 0).trans rfl, (bC BK258.out 1).trans rfl⟩ (fun hHeld => ?_)
                    clear hK K
                    refine norm_ (a' := ?_) ?_ ?_
                    rotate_left
                    ·show Act.put _ (some 11) _ = _
                     simp only [Act.put, List.setIfInBounds_toArray, List.set_cons_zero, List.set_cons_succ, i64_w, i32_w]
                     rfl
                    exact norm_ (by first | (simp only [putAll, Act.put, List.setIfInBounds_toArray, List.set_cons_zero, List.set_cons_succ]; done) | (simp only [putAll, Act.put, List.setIfInBounds_toArray, List.set_cons_zero, List.set_cons_succ]; rfl)) (hJ7 (gb273) _ ⟨hHeld, (by (with_reducible repeat (first | refine bN ?_ _ | refine bD ?_ | refine bA ?_ _)); exact BK257.out), (by (with_reducible repeat (first | refine bN ?_ _ | refine bD ?_ | refine bA ?_ _)); exact BK258.out), (by (with_reducible repeat (first | refine bN ?_ _ | refine bD ?_ | refine bA ?_ _)); exact BK262.out), (by (with_reducible repeat (first | refine bN ?_ _ | refine bD ?_ | refine bA ?_ _)); exact BK266.out), (by (with_reducible repeat (first | refine bN ?_ _ | refine bD ?_ | refine bA ?_ _)); exact BK273.out), GW273.out, GE273.out, NB257_273.out, NB273_257.out, NB258_273.out, NB273_258.out, NB262_273.out, NB273_262.out, NB266_273.out, NB273_266.out, (by repeat (first | (with_reducible first | exact HB.out | apply lA | apply lN | apply lD | refine lS ?_ GE257.out | refine lS ?_ GE258.out | refine lS ?_ GE262.out | refine lS ?_ GE266.out | refine lS ?_ GE273.out) | exact HB.out))⟩)
                   ·skip
                    refine box_step ?hg (N := 12) ?hd (cs := #[.int .u64 0, .int .u64 0, .int .u64 0]) (t := 49) ?hr ?_; (case hd => rfl); (case hg => rfl); (case hr => first | (go_simp; done) | (go_simp; rfl))
                    intro gb274 hg w44 hbox hb
                    have n0_ := Aside0.mk (bB (g := gb257) (o := .cells #[.int .u64 a0_0, .int .u64 a0_1] 38 (0, 0)) (by (with_reducible repeat (first | refine bN ?_ _ | refine bD ?_ | refine bA ?_ _)); exact BK257.out) hb)
                    have n1_ := Aside0.mk (bB (g := gb258) (o := .cells #[.int .u64 a1_0, .int .u64 a1_1] 38 (0, 0)) (by (with_reducible repeat (first | refine bN ?_ _ | refine bD ?_ | refine bA ?_ _)); exact BK258.out) hb)
                    have n2_ := Aside0.mk (bB (g := gb262) (o := .cells #[.int .u64 t259, .int .u64 t260] 38 (0, 0)) (by (with_reducible repeat (first | refine bN ?_ _ | refine bD ?_ | refine bA ?_ _)); exact BK262.out) hb)
                    have n3_ := Aside0.mk (bB (g := gb266) (o := .cells #[.int .u64 t263, .int .u64 t264] 38 (0, 0)) (by (with_reducible repeat (first | refine bN ?_ _ | refine bD ?_ | refine bA ?_ _)); exact BK266.out) hb)
                    have n4_ := Aside0.mk (lP (by repeat (first | (with_reducible first | exact HB.out | apply lA | apply lN | apply lD | refine lS ?_ GE257.out | refine lS ?_ GE258.out | refine lS ?_ GE262.out | refine lS ?_ GE266.out) | exact HB.out)) hb)
                    have n5_ := Aside0.mk (hbox)
                    have n6_ := Aside0.mk ((by rw [hg]; exact (lZ (by repeat (first | (with_reducible first | exact HB.out | apply lA | apply lN | apply lD | refine lS ?_ GE257.out | refine lS ?_ GE258.out | refine lS ?_ GE262.out | refine lS ?_ GE266.out) | exact HB.out))) : w.heap.size ≤ gb274))
                    have n7_ := Aside0.mk ((by rw [hg]; exact (lZ (by repeat (first | (with_reducible first | exact HB.out | apply lA | apply lN | apply lD | refine lS ?_ GE257.out | refine lS ?_ GE258.out | refine lS ?_ GE262.out | refine lS ?_ GE266.out) | exact HB.out))) : w.heap.size ≤ gb274))
                    have n8_ := Aside0.mk ((by rw [hg]; exact Nat.ne_of_lt (bL (g := gb257) (o := .cells #[.int .u64 a0_0, .int .u64 a0_1] 38 (0, 0)) (by (with_reducible repeat (first | refine bN ?_ _ | refine bD ?_ | refine bA ?_ _)); exact BK257.out)) : gb257 ≠ gb274))
                    have n9_ := Aside0.mk ((by rw [hg]; exact Nat.ne_of_gt (bL (g := gb257) (o := .cells #[.int .u64 a0_0, .int .u64 a0_1] 38 (0, 0)) (by (with_reducible repeat (first | refine bN ?_ _ | refine bD ?_ | refine bA ?_ _)); exact BK257.out)) : gb274 ≠ gb257))
                    have n10_ := Aside0.mk ((by rw [hg]; exact Nat.ne_of_lt (bL (g := gb258) (o := .cells #[.int .u64 a1_0, .int .u64 a1_1] 38 (0, 0)) (by (with_reducible repeat (first | refine bN ?_ _ | refine bD ?_ | refine bA ?_ _)); exact BK258.out)) : gb258 ≠ gb274))
                    have n11_ := Aside0.mk ((by rw [hg]; exact Nat.ne_of_gt (bL (g := gb258) (o := .cells #[.int .u64 a1_0, .int .u64 a1_1] 38 (0, 0)) (by (with_reducible repeat (first | refine bN ?_ _ | refine bD ?_ | refine bA ?_ _)); exact BK258.out)) : gb274 ≠ gb258))
                    have n12_ := Aside0.mk ((by rw [hg]; exact Nat.ne_of_lt (bL (g := gb262) (o := .cells #[.int .u64 t259, .int .u64 t260] 38 (0, 0)) (by (with_reducible repeat (first | refine bN ?_ _ | refine bD ?_ | refine bA ?_ _)); exact BK262.out)) : gb262 ≠ gb274))
                    have n13_ := Aside0.mk ((by rw [hg]; exact Nat.ne_of_gt (bL (g := gb262) (o := .cells #[.int .u64 t259, .int .u64 t260] 38 (0, 0)) (by (with_reducible repeat (first | refine bN ?_ _ | refine bD ?_ | refine bA ?_ _)); exact BK262.out)) : gb274 ≠ gb262))
                    have n14_ := Aside0.mk ((by rw [hg]; exact Nat.ne_of_lt (bL (g := gb266) (o := .cells #[.int .u64 t263, .int .u64 t264] 38 (0, 0)) (by (with_reducible repeat (first | refine bN ?_ _ | refine bD ?_ | refine bA ?_ _)); exact BK266.out)) : gb266 ≠ gb274))
                    have n15_ := Aside0.mk ((by rw [hg]; exact Nat.ne_of_gt (bL (g := gb266) (o := .cells #[.int .u64 t263, .int .u64 t264] 38 (0, 0)) (by (with_reducible repeat (first | refine bN ?_ _ | refine bD ?_ | refine bA ?_ _)); exact BK266.out)) : gb274 ≠ gb266))
                    clear BK257 BK258 BK262 BK266 HB
                    have BK257 := n0_; have BK258 := n1_; have BK262 := n2_; have BK266 := n3_; have HB := n4_; have BK274 := n5_; have GW274 := n6_; have GE274 := n7_; have NB257_274 := n8_; have NB274_257 := n9_; have NB258_274 := n10_; have NB274_258 := n11_; have NB262_274 := n12_; have NB274_262 := n13_; have NB266_274 := n14_; have NB274_266 := n15_
                    clear n0_ n1_ n2_ n3_ n4_ n5_ n6_ n7_ n8_ n9_ n10_ n11_ n12_ n13_ n14_ n15_ hb hbox hg
                    refine hK.out _ _ ⟨(bC BK257.out 0).trans rfl, (bC BK257.out 1).trans rfl, (bC BK258.out 0).trans rfl, (bC BK258.out 1).trans rfl⟩ (fun hHeld => ?_)
                    clear hK K
                    refine norm_ (a' := ?_) ?_ ?_
                    rotate_left
                    ·show Act.put _ (some 12) _ = _
                     simp only [Act.put, List.setIfInBounds_toArray, List.set_cons_zero, List.set_cons_succ, i64_w, i32_w]
                     rfl
                    exact norm_ (by first | (simp only [putAll, Act.put, List.setIfInBounds_toArray, List.set_cons_zero, List.set_cons_succ]; done) | (simp only [putAll, Act.put, List.setIfInBounds_toArray, List.set_cons_zero, List.set_cons_succ]; rfl)) (hJ8 (gb274) _ ⟨hHeld, (by (with_reducible repeat (first | refine bN ?_ _ | refine bD ?_ | refine bA ?_ _)); exact BK257.out), (by (with_reducible repeat (first | refine bN ?_ _ | refine bD ?_ | refine bA ?_ _)); exact BK258.out), (by (with_reducible repeat (first | refine bN ?_ _ | refine bD ?_ | refine bA ?_ _)); exact BK262.out), (by (with_reducible repeat (first | refine bN ?_ _ | refine bD ?_ | refine bA ?_ _)); exact BK266.out), (by (with_reducible repeat (first | refine bN ?_ _ | refine bD ?_ | refine bA ?_ _)); exact BK274.out), GW274.out, GE274.out, NB257_274.out, NB274_257.out, NB258_274.out, NB274_258.out, NB262_274.out, NB274_262.out, NB266_274.out, NB274_266.out, (by repeat (first | (with_reducible first | exact HB.out | apply lA | apply lN | apply lD | refine lS ?_ GE257.out | refine lS ?_ GE258.out | refine lS ?_ GE262.out | refine lS ?_ GE266.out | refine lS ?_ GE274.out) | exact HB.out))⟩)
                  ·skip
                   rintro gb274 w45 ⟨hS_, h0_, h1_, h2_, h3_, h4_, h5_, h6_, h7_, h8_, h9_, h10_, h11_, h12_, h13_, h14_, h15_⟩
                   have n0_ : Aside0 (w45.heap[gb257]? = some (.cells #[.int .u64 a0_0, .int .u64 a0_1] 38 (0, 0))) := ⟨h0_⟩
                   have n1_ : Aside0 (w45.heap[gb258]? = some (.cells #[.int .u64 a1_0, .int .u64 a1_1] 38 (0, 0))) := ⟨h1_⟩
                   have n2_ : Aside0 (w45.heap[gb262]? = some (.cells #[.int .u64 t259, .int .u64 t260] 38 (0, 0))) := ⟨h2_⟩
                   have n3_ : Aside0 (w45.heap[gb266]? = some (.cells #[.int .u64 t263, .int .u64 t264] 38 (0, 0))) := ⟨h3_⟩
                   have n4_ : Aside0 (w45.heap[gb274]? = some (.cells #[.int .u64 0, .int .u64 0, .int .u64 0] 49 (0, 0))) := ⟨h4_⟩
                   have n5_ : Aside0 (w.heap.size ≤ gb274) := ⟨h5_⟩
                   have n6_ : Aside0 (w.heap.size ≤ gb274) := ⟨h6_⟩
                   have n7_ : Aside0 (gb257 ≠ gb274) := ⟨h7_⟩
                   have n8_ : Aside0 (gb274 ≠ gb257) := ⟨h8_⟩
                   have n9_ : Aside0 (gb258 ≠ gb274) := ⟨h9_⟩
                   have n10_ : Aside0 (gb274 ≠ gb258) := ⟨h10_⟩
                   have n11_ : Aside0 (gb262 ≠ gb274) := ⟨h11_⟩
                   have n12_ : Aside0 (gb274 ≠ gb262) := ⟨h12_⟩
                   have n13_ : Aside0 (gb266 ≠ gb274) := ⟨h13_⟩
                   have n14_ : Aside0 (gb274 ≠ gb266) := ⟨h14_⟩
                   have n15_ : Aside0 (Below w.heap.size w w45) := ⟨h15_⟩
                   clear BK257 BK258 BK262 BK266 HB h0_ h1_ h2_ h3_ h4_ h5_ h6_ h7_ h8_ h9_ h10_ h11_ h12_ h13_ h14_ h15_
                   have BK257 := n0_; have BK258 := n1_; have BK262 := n2_; have BK266 := n3_; have BK274 := n4_; have GW274 := n5_; have GE274 := n6_; have NB257_274 := n7_; have NB274_257 := n8_; have NB258_274 := n9_; have NB274_258 := n10_; have NB262_274 := n11_; have NB274_262 := n12_; have NB266_274 := n13_; have NB274_266 := n14_; have HB := n15_
                   clear n0_ n1_ n2_ n3_ n4_ n5_ n6_ n7_ n8_ n9_ n10_ n11_ n12_ n13_ n14_ n15_
                   have hHeld : w45.cell? ⟨gb257, 0, none⟩ = some (.int .u64 a0_0) ∧ w45.cell? ⟨gb257, 1, none⟩ = some (.int .u64 a0_1) ∧ w45.cell? ⟨gb258, 0, none⟩ = some (.int .u64 a1_0) ∧ w45.cell? ⟨gb258, 1, none⟩ = some (.int .u64 a1_1) := hS_
                   refine norm_ (a' := ?_) ?_ ?_
                   rotate_left
                   ·simp only [putAll, Act.put, List.setIfInBounds_toArray, List.set_cons_zero, List.set_cons_succ]
                    rfl
                   refine two_ (i := 2) (j := 7) (Ni := some 27) (Nj := some 11) #[true, true, true, true, true, true, false, false, true, false, false] #[true, true, false, true, true, true, false, true, true, false, false] rfl rfl rfl rfl (two_of HT_.out (by kernel_rfl)) (by decide) (by decide) (fun K hK => ?_) (fun K hK => ?_)
                   ·skip
                    refine goes_ Try.func30 (by kernel_rfl) rfl #[.agg #[.int .u64 a0_0, .int .u64 a0_1], .int .u64 a2] (by rfl) rfl rfl (by (try simp only [List.map_toArray, List.map_cons, List.map_nil]); first | done | rfl | (simp only [List.length_drop, List.length_take]; rfl)) ?_
                    with_reducible refine (prod_Times.calls a0_0 a0_1 a2 t267 t268 t269 _ A6.out).mono ?_
                    rintro e w46 ⟨rfl, hb⟩
                    refine ⟨_, rfl, ?_⟩
                    have n0_ := Aside0.mk (bB (g := gb257) (o := .cells #[.int .u64 a0_0, .int .u64 a0_1] 38 (0, 0)) (by (with_reducible repeat (first | refine bN ?_ _ | refine bD ?_ | refine bA ?_ _)); exact BK257.out) hb)
                    have n1_ := Aside0.mk (bB (g := gb258) (o := .cells #[.int .u64 a1_0, .int .u64 a1_1] 38 (0, 0)) (by (with_reducible repeat (first | refine bN ?_ _ | refine bD ?_ | refine bA ?_ _)); exact BK258.out) hb)
                    have n2_ := Aside0.mk (bB (g := gb262) (o := .cells #[.int .u64 t259, .int .u64 t260] 38 (0, 0)) (by (with_reducible repeat (first | refine bN ?_ _ | refine bD ?_ | refine bA ?_ _)); exact BK262.out) hb)
                    have n3_ := Aside0.mk (bB (g := gb266) (o := .cells #[.int .u64 t263, .int .u64 t264] 38 (0, 0)) (by (with_reducible repeat (first | refine bN ?_ _ | refine bD ?_ | refine bA ?_ _)); exact BK266.out) hb)
                    have n4_ := Aside0.mk (bB (g := gb274) (o := .cells #[.int .u64 0, .int .u64 0, .int .u64 0] 49 (0, 0)) (by (with_reducible repeat (first | refine bN ?_ _ | refine bD ?_ | refine bA ?_ _)); exact BK274.out) hb)
                    have n5_ := Aside0.mk (lP (by repeat (first | (with_reducible first | exact HB.out | apply lA | apply lN | apply lD | refine lS ?_ GE257.out | refine lS ?_ GE258.out | refine lS ?_ GE262.out | refine lS ?_ GE266.out | refine lS ?_ GE274.out) | exact HB.out)) hb)
                    clear BK257 BK258 BK262 BK266 BK274 HB
                    have BK257 := n0_; have BK258 := n1_; have BK262 := n2_; have BK266 := n3_; have BK274 := n4_; have HB := n5_
                    clear n0_ n1_ n2_ n3_ n4_ n5_
                    (try clear hb)
                    (try clear hb2)
                    (try clear hk)
                    (try clear hi)
                    refine hK.out _ _ ⟨(bC BK257.out 0).trans rfl, (bC BK257.out 1).trans rfl, (bC BK258.out 0).trans rfl, (bC BK258.out 1).trans rfl⟩ (fun hHeld => ?_)
                    clear hK K
                    refine norm_ (a' := ?_) ?_ ?_
                    rotate_left
                    ·show Act.put _ (some 27) _ = _
                     simp only [Act.put, List.setIfInBounds_toArray, List.set_cons_zero, List.set_cons_succ, i64_w, i32_w]
                     rfl
                    exact norm_ (by first | (simp only [putAll, Act.put, List.setIfInBounds_toArray, List.set_cons_zero, List.set_cons_succ]; done) | (simp only [putAll, Act.put, List.setIfInBounds_toArray, List.set_cons_zero, List.set_cons_succ]; rfl)) (hJ2_8 (gb274) _ ⟨hHeld, (by (with_reducible repeat (first | refine bN ?_ _ | refine bD ?_ | refine bA ?_ _)); exact BK257.out), (by (with_reducible repeat (first | refine bN ?_ _ | refine bD ?_ | refine bA ?_ _)); exact BK258.out), (by (with_reducible repeat (first | refine bN ?_ _ | refine bD ?_ | refine bA ?_ _)); exact BK262.out), (by (with_reducible repeat (first | refine bN ?_ _ | refine bD ?_ | refine bA ?_ _)); exact BK266.out), (by (with_reducible repeat (first | refine bN ?_ _ | refine bD ?_ | refine bA ?_ _)); exact BK274.out), GW274.out, GE274.out, NB257_274.out, NB274_257.out, NB258_274.out, NB274_258.out, NB262_274.out, NB274_262.out, NB266_274.out, NB274_266.out, (by repeat (first | (with_reducible first | exact HB.out | apply lA | apply lN | apply lD | refine lS ?_ GE257.out | refine lS ?_ GE258.out | refine lS ?_ GE262.out | refine lS ?_ GE266.out | refine lS ?_ GE274.out) | exact HB.out))⟩)
                   ·skip
                    refine box_step ?hg (N := 11) ?hd (cs := #[.int .u64 0, .int .u64 0, .int .u64 0]) (t := 49) ?hr ?_; (case hd => rfl); (case hg => rfl); (case hr => first | (go_simp; done) | (go_simp; rfl))
                    intro gb273 hg w46 hbox hb
                    have n0_ := Aside0.mk (bB (g := gb257) (o := .cells #[.int .u64 a0_0, .int .u64 a0_1] 38 (0, 0)) (by (with_reducible repeat (first | refine bN ?_ _ | refine bD ?_ | refine bA ?_ _)); exact BK257.out) hb)
                    have n1_ := Aside0.mk (bB (g := gb258) (o := .cells #[.int .u64 a1_0, .int .u64 a1_1] 38 (0, 0)) (by (with_reducible repeat (first | refine bN ?_ _ | refine bD ?_ | refine bA ?_ _)); exact BK258.out) hb)
                    have n2_ := Aside0.mk (bB (g := gb262) (o := .cells #[.int .u64 t259, .int .u64 t260] 38 (0, 0)) (by (with_reducible repeat (first | refine bN ?_ _ | refine bD ?_ | refine bA ?_ _)); exact BK262.out) hb)
                    have n3_ := Aside0.mk (bB (g := gb266) (o := .cells #[.int .u64 t263, .int .u64 t264] 38 (0, 0)) (by (with_reducible repeat (first | refine bN ?_ _ | refine bD ?_ | refine bA ?_ _)); exact BK266.out) hb)
                    have n4_ := Aside0.mk (bB (g := gb274) (o := .cells #[.int .u64 0, .int .u64 0, .int .u64 0] 49 (0, 0)) (by (with_reducible repeat (first | refine bN ?_ _ | refine bD ?_ | refine bA ?_ _)); exact BK274.out) hb)
                    have n5_ := Aside0.mk (lP (by repeat (first | (with_reducible first | exact HB.out | apply lA | apply lN | apply lD | refine lS ?_ GE257.out | refine lS ?_ GE258.out | refine lS ?_ GE262.out | refine lS ?_ GE266.out | refine lS ?_ GE274.out) | exact HB.out)) hb)
                    have n6_ := Aside0.mk (hbox)
                    have n7_ := Aside0.mk ((by rw [hg]; exact (lZ (by repeat (first | (with_reducible first | exact HB.out | apply lA | apply lN | apply lD | refine lS ?_ GE257.out | refine lS ?_ GE258.out | refine lS ?_ GE262.out | refine lS ?_ GE266.out | refine lS ?_ GE274.out) | exact HB.out))) : w.heap.size ≤ gb273))
                    have n8_ := Aside0.mk ((by rw [hg]; exact (lZ (by repeat (first | (with_reducible first | exact HB.out | apply lA | apply lN | apply lD | refine lS ?_ GE257.out | refine lS ?_ GE258.out | refine lS ?_ GE262.out | refine lS ?_ GE266.out | refine lS ?_ GE274.out) | exact HB.out))) : w.heap.size ≤ gb273))
                    have n9_ := Aside0.mk ((by rw [hg]; exact Nat.ne_of_lt (bL (g := gb257) (o := .cells #[.int .u64 a0_0, .int .u64 a0_1] 38 (0, 0)) (by (with_reducible repeat (first | refine bN ?_ _ | refine bD ?_ | refine bA ?_ _)); exact BK257.out)) : gb257 ≠ gb273))
                    have n10_ := Aside0.mk ((by rw [hg]; exact Nat.ne_of_gt (bL (g := gb257) (o := .cells #[.int .u64 a0_0, .int .u64 a0_1] 38 (0, 0)) (by (with_reducible repeat (first | refine bN ?_ _ | refine bD ?_ | refine bA ?_ _)); exact BK257.out)) : gb273 ≠ gb257))
                    have n11_ := Aside0.mk ((by rw [hg]; exact Nat.ne_of_lt (bL (g := gb258) (o := .cells #[.int .u64 a1_0, .int .u64 a1_1] 38 (0, 0)) (by (with_reducible repeat (first | refine bN ?_ _ | refine bD ?_ | refine bA ?_ _)); exact BK258.out)) : gb258 ≠ gb273))
                    have n12_ := Aside0.mk ((by rw [hg]; exact Nat.ne_of_gt (bL (g := gb258) (o := .cells #[.int .u64 a1_0, .int .u64 a1_1] 38 (0, 0)) (by (with_reducible repeat (first | refine bN ?_ _ | refine bD ?_ | refine bA ?_ _)); exact BK258.out)) : gb273 ≠ gb258))
                    have n13_ := Aside0.mk ((by rw [hg]; exact Nat.ne_of_lt (bL (g := gb262) (o := .cells #[.int .u64 t259, .int .u64 t260] 38 (0, 0)) (by (with_reducible repeat (first | refine bN ?_ _ | refine bD ?_ | refine bA ?_ _)); exact BK262.out)) : gb262 ≠ gb273))
                    have n14_ := Aside0.mk ((by rw [hg]; exact Nat.ne_of_gt (bL (g := gb262) (o := .cells #[.int .u64 t259, .int .u64 t260] 38 (0, 0)) (by (with_reducible repeat (first | refine bN ?_ _ | refine bD ?_ | refine bA ?_ _)); exact BK262.out)) : gb273 ≠ gb262))
                    have n15_ := Aside0.mk ((by rw [hg]; exact Nat.ne_of_lt (bL (g := gb266) (o := .cells #[.int .u64 t263, .int .u64 t264] 38 (0, 0)) (by (with_reducible repeat (first | refine bN ?_ _ | refine bD ?_ | refine bA ?_ _)); exact BK266.out)) : gb266 ≠ gb273))
                    have n16_ := Aside0.mk ((by rw [hg]; exact Nat.ne_of_gt (bL (g := gb266) (o := .cells #[.int .u64 t263, .int .u64 t264] 38 (0, 0)) (by (with_reducible repeat (first | refine bN ?_ _ | refine bD ?_ | refine bA ?_ _)); exact BK266.out)) : gb273 ≠ gb266))
                    have n17_ := Aside0.mk ((by rw [hg]; exact Nat.ne_of_lt (bL (g := gb274) (o := .cells #[.int .u64 0, .int .u64 0, .int .u64 0] 49 (0, 0)) (by (with_reducible repeat (first | refine bN ?_ _ | refine bD ?_ | refine bA ?_ _)); exact BK274.out)) : gb274 ≠ gb273))
                    have n18_ := Aside0.mk ((by rw [hg]; exact Nat.ne_of_gt (bL (g := gb274) (o := .cells #[.int .u64 0, .int .u64 0, .int .u64 0] 49 (0, 0)) (by (with_reducible repeat (first | refine bN ?_ _ | refine bD ?_ | refine bA ?_ _)); exact BK274.out)) : gb273 ≠ gb274))
                    clear BK257 BK258 BK262 BK266 BK274 HB
                    have BK257 := n0_; have BK258 := n1_; have BK262 := n2_; have BK266 := n3_; have BK274 := n4_; have HB := n5_; have BK273 := n6_; have GW273 := n7_; have GE273 := n8_; have NB257_273 := n9_; have NB273_257 := n10_; have NB258_273 := n11_; have NB273_258 := n12_; have NB262_273 := n13_; have NB273_262 := n14_; have NB266_273 := n15_; have NB273_266 := n16_; have NB274_273 := n17_; have NB273_274 := n18_
                    clear n0_ n1_ n2_ n3_ n4_ n5_ n6_ n7_ n8_ n9_ n10_ n11_ n12_ n13_ n14_ n15_ n16_ n17_ n18_ hb hbox hg
                    refine hK.out _ _ ⟨(bC BK257.out 0).trans rfl, (bC BK257.out 1).trans rfl, (bC BK258.out 0).trans rfl, (bC BK258.out 1).trans rfl⟩ (fun hHeld => ?_)
                    clear hK K
                    refine norm_ (a' := ?_) ?_ ?_
                    rotate_left
                    ·show Act.put _ (some 11) _ = _
                     simp only [Act.put, List.setIfInBounds_toArray, List.set_cons_zero, List.set_cons_succ, i64_w, i32_w]
                     rfl
                    exact norm_ (by first | (simp only [putAll, Act.put, List.setIfInBounds_toArray, List.set_cons_zero, List.set_cons_succ]; done) | (simp only [putAll, Act.put, List.setIfInBounds_toArray, List.set_cons_zero, List.set_cons_succ]; rfl)) (hJ7_8 (gb273, gb274) _ ⟨hHeld, (by (with_reducible repeat (first | refine bN ?_ _ | refine bD ?_ | refine bA ?_ _)); exact BK257.out), (by (with_reducible repeat (first | refine bN ?_ _ | refine bD ?_ | refine bA ?_ _)); exact BK258.out), (by (with_reducible repeat (first | refine bN ?_ _ | refine bD ?_ | refine bA ?_ _)); exact BK262.out), (by (with_reducible repeat (first | refine bN ?_ _ | refine bD ?_ | refine bA ?_ _)); exact BK266.out), (by (with_reducible repeat (first | refine bN ?_ _ | refine bD ?_ | refine bA ?_ _)); exact BK273.out), (by (with_reducible repeat (first | refine bN ?_ _ | refine bD ?_ | refine bA ?_ _)); exact BK274.out), GW273.out, GE273.out, NB257_273.out, NB273_257.out, NB258_273.out, NB273_258.out, NB262_273.out, NB273_262.out, NB266_273.out, NB273_266.out, NB274_273.out, NB273_274.out, GW274.out, GE274.out, NB257_274.out, NB274_257.out, NB258_274.out, NB274_258.out, NB262_274.out, NB274_262.out, NB266_274.out, NB274_266.out, (by repeat (first | (with_reducible first | exact HB.out | apply lA | apply lN | apply lD | refine lS ?_ GE257.out | refine lS ?_ GE258.out | refine lS ?_ GE262.out | refine lS ?_ GE266.out | refine lS ?_ GE274.out | refine lS ?_ GE273.out) | exact HB.out))⟩)
                 ·skip
                  rintro gb273 w45 ⟨hS_, h0_, h1_, h2_, h3_, h4_, h5_, h6_, h7_, h8_, h9_, h10_, h11_, h12_, h13_, h14_, h15_⟩
                  have n0_ : Aside0 (w45.heap[gb257]? = some (.cells #[.int .u64 a0_0, .int .u64 a0_1] 38 (0, 0))) := ⟨h0_⟩
                  have n1_ : Aside0 (w45.heap[gb258]? = some (.cells #[.int .u64 a1_0, .int .u64 a1_1] 38 (0, 0))) := ⟨h1_⟩
                  have n2_ : Aside0 (w45.heap[gb262]? = some (.cells #[.int .u64 t259, .int .u64 t260] 38 (0, 0))) := ⟨h2_⟩
                  have n3_ : Aside0 (w45.heap[gb266]? = some (.cells #[.int .u64 t263, .int .u64 t264] 38 (0, 0))) := ⟨h3_⟩
                  have n4_ : Aside0 (w45.heap[gb273]? = some (.cells #[.int .u64 0, .int .u64 0, .int .u64 0] 49 (0, 0))) := ⟨h4_⟩
                  have n5_ : Aside0 (w.heap.size ≤ gb273) := ⟨h5_⟩
                  have n6_ : Aside0 (w.heap.size ≤ gb273) := ⟨h6_⟩
                  have n7_ : Aside0 (gb257 ≠ gb273) := ⟨h7_⟩
                  have n8_ : Aside0 (gb273 ≠ gb257) := ⟨h8_⟩
                  have n9_ : Aside0 (gb258 ≠ gb273) := ⟨h9_⟩
                  have n10_ : Aside0 (gb273 ≠ gb258) := ⟨h10_⟩
                  have n11_ : Aside0 (gb262 ≠ gb273) := ⟨h11_⟩
                  have n12_ : Aside0 (gb273 ≠ gb262) := ⟨h12_⟩
                  have n13_ : Aside0 (gb266 ≠ gb273) := ⟨h13_⟩
                  have n14_ : Aside0 (gb273 ≠ gb266) := ⟨h14_⟩
                  have n15_ : Aside0 (Below w.heap.size w w45) := ⟨h15_⟩
                  clear BK257 BK258 BK262 BK266 HB h0_ h1_ h2_ h3_ h4_ h5_ h6_ h7_ h8_ h9_ h10_ h11_ h12_ h13_ h14_ h15_
                  have BK257 := n0_; have BK258 := n1_; have BK262 := n2_; have BK266 := n3_; have BK273 := n4_; have GW273 := n5_; have GE273 := n6_; have NB257_273 := n7_; have NB273_257 := n8_; have NB258_273 := n9_; have NB273_258 := n10_; have NB262_273 := n11_; have NB273_262 := n12_; have NB266_273 := n13_; have NB273_266 := n14_; have HB := n15_
                  clear n0_ n1_ n2_ n3_ n4_ n5_ n6_ n7_ n8_ n9_ n10_ n11_ n12_ n13_ n14_ n15_
                  have hHeld : w45.cell? ⟨gb257, 0, none⟩ = some (.int .u64 a0_0) ∧ w45.cell? ⟨gb257, 1, none⟩ = some (.int .u64 a0_1) ∧ w45.cell? ⟨gb258, 0, none⟩ = some (.int .u64 a1_0) ∧ w45.cell? ⟨gb258, 1, none⟩ = some (.int .u64 a1_1) := hS_
                  refine norm_ (a' := ?_) ?_ ?_
                  rotate_left
                  ·simp only [putAll, Act.put, List.setIfInBounds_toArray, List.set_cons_zero, List.set_cons_succ]
                   rfl
                  refine two_ (i := 2) (j := 8) (Ni := some 27) (Nj := some 12) #[true, true, true, true, true, true, false, true, false, false, false] #[true, true, false, true, true, true, false, true, true, false, false] rfl rfl rfl rfl (two_of HT_.out (by kernel_rfl)) (by decide) (by decide) (fun K hK => ?_) (fun K hK => ?_)
                  ·skip
                   refine goes_ Try.func30 (by kernel_rfl) rfl #[.agg #[.int .u64 a0_0, .int .u64 a0_1], .int .u64 a2] (by rfl) rfl rfl (by (try simp only [List.map_toArray, List.map_cons, List.map_nil]); first | done | rfl | (simp only [List.length_drop, List.length_take]; rfl)) ?_
                   with_reducible refine (prod_Times.calls a0_0 a0_1 a2 t267 t268 t269 _ A6.out).mono ?_
                   rintro e w46 ⟨rfl, hb⟩
                   refine ⟨_, rfl, ?_⟩
                   have n0_ := Aside0.mk (bB (g := gb257) (o := .cells #[.int .u64 a0_0, .int .u64 a0_1] 38 (0, 0)) (by (with_reducible repeat (first | refine bN ?_ _ | refine bD ?_ | refine bA ?_ _)); exact BK257.out) hb)
                   have n1_ := Aside0.mk (bB (g := gb258) (o := .cells #[.int .u64 a1_0, .int .u64 a1_1] 38 (0, 0)) (by (with_reducible repeat (first | refine bN ?_ _ | refine bD ?_ | refine bA ?_ _)); exact BK258.out) hb)
                   have n2_ := Aside0.mk (bB (g := gb262) (o := .cells #[.int .u64 t259, .int .u64 t260] 38 (0, 0)) (by (with_reducible repeat (first | refine bN ?_ _ | refine bD ?_ | refine bA ?_ _)); exact BK262.out) hb)
                   have n3_ := Aside0.mk (bB (g := gb266) (o := .cells #[.int .u64 t263, .int .u64 t264] 38 (0, 0)) (by (with_reducible repeat (first | refine bN ?_ _ | refine bD ?_ | refine bA ?_ _)); exact BK266.out) hb)
                   have n4_ := Aside0.mk (bB (g := gb273) (o := .cells #[.int .u64 0, .int .u64 0, .int .u64 0] 49 (0, 0)) (by (with_reducible repeat (first | refine bN ?_ _ | refine bD ?_ | refine bA ?_ _)); exact BK273.out) hb)
                   have n5_ := Aside0.mk (lP (by repeat (first | (with_reducible first | exact HB.out | apply lA | apply lN | apply lD | refine lS ?_ GE257.out | refine lS ?_ GE258.out | refine lS ?_ GE262.out | refine lS ?_ GE266.out | refine lS ?_ GE273.out) | exact HB.out)) hb)
                   clear BK257 BK258 BK262 BK266 BK273 HB
                   have BK257 := n0_; have BK258 := n1_; have BK262 := n2_; have BK266 := n3_; have BK273 := n4_; have HB := n5_
                   clear n0_ n1_ n2_ n3_ n4_ n5_
                   (try clear hb)
                   (try clear hb2)
                   (try clear hk)
                   (try clear hi)
                   refine hK.out _ _ ⟨(bC BK257.out 0).trans rfl, (bC BK257.out 1).trans rfl, (bC BK258.out 0).trans rfl, (bC BK258.out 1).trans rfl⟩ (fun hHeld => ?_)
                   clear hK K
                   refine norm_ (a' := ?_) ?_ ?_
                   rotate_left
                   ·show Act.put _ (some 27) _ = _
                    simp only [Act.put, List.setIfInBounds_toArray, List.set_cons_zero, List.set_cons_succ, i64_w, i32_w]
                    rfl
                   exact norm_ (by first | (simp only [putAll, Act.put, List.setIfInBounds_toArray, List.set_cons_zero, List.set_cons_succ]; done) | (simp only [putAll, Act.put, List.setIfInBounds_toArray, List.set_cons_zero, List.set_cons_succ]; rfl)) (hJ2_7 (gb273) _ ⟨hHeld, (by (with_reducible repeat (first | refine bN ?_ _ | refine bD ?_ | refine bA ?_ _)); exact BK257.out), (by (with_reducible repeat (first | refine bN ?_ _ | refine bD ?_ | refine bA ?_ _)); exact BK258.out), (by (with_reducible repeat (first | refine bN ?_ _ | refine bD ?_ | refine bA ?_ _)); exact BK262.out), (by (with_reducible repeat (first | refine bN ?_ _ | refine bD ?_ | refine bA ?_ _)); exact BK266.out), (by (with_reducible repeat (first | refine bN ?_ _ | refine bD ?_ | refine bA ?_ _)); exact BK273.out), GW273.out, GE273.out, NB257_273.out, NB273_257.out, NB258_273.out, NB273_258.out, NB262_273.out, NB273_262.out, NB266_273.out, NB273_266.out, (by repeat (first | (with_reducible first | exact HB.out | apply lA | apply lN | apply lD | refine lS ?_ GE257.out | refine lS ?_ GE258.out | refine lS ?_ GE262.out | refine lS ?_ GE266.out | refine lS ?_ GE273.out) | exact HB.out))⟩)
                  ·skip
                   refine box_step ?hg (N := 12) ?hd (cs := #[.int .u64 0, .int .u64 0, .int .u64 0]) (t := 49) ?hr ?_; (case hd => rfl); (case hg => rfl); (case hr => first | (go_simp; done) | (go_simp; rfl))
                   intro gb274 hg w46 hbox hb
                   have n0_ := Aside0.mk (bB (g := gb257) (o := .cells #[.int .u64 a0_0, .int .u64 a0_1] 38 (0, 0)) (by (with_reducible repeat (first | refine bN ?_ _ | refine bD ?_ | refine bA ?_ _)); exact BK257.out) hb)
                   have n1_ := Aside0.mk (bB (g := gb258) (o := .cells #[.int .u64 a1_0, .int .u64 a1_1] 38 (0, 0)) (by (with_reducible repeat (first | refine bN ?_ _ | refine bD ?_ | refine bA ?_ _)); exact BK258.out) hb)
                   have n2_ := Aside0.mk (bB (g := gb262) (o := .cells #[.int .u64 t259, .int .u64 t260] 38 (0, 0)) (by (with_reducible repeat (first | refine bN ?_ _ | refine bD ?_ | refine bA ?_ _)); exact BK262.out) hb)
                   have n3_ := Aside0.mk (bB (g := gb266) (o := .cells #[.int .u64 t263, .int .u64 t264] 38 (0, 0)) (by (with_reducible repeat (first | refine bN ?_ _ | refine bD ?_ | refine bA ?_ _)); exact BK266.out) hb)
                   have n4_ := Aside0.mk (bB (g := gb273) (o := .cells #[.int .u64 0, .int .u64 0, .int .u64 0] 49 (0, 0)) (by (with_reducible repeat (first | refine bN ?_ _ | refine bD ?_ | refine bA ?_ _)); exact BK273.out) hb)
                   have n5_ := Aside0.mk (lP (by repeat (first | (with_reducible first | exact HB.out | apply lA | apply lN | apply lD | refine lS ?_ GE257.out | refine lS ?_ GE258.out | refine lS ?_ GE262.out | refine lS ?_ GE266.out | refine lS ?_ GE273.out) | exact HB.out)) hb)
                   have n6_ := Aside0.mk (hbox)
                   have n7_ := Aside0.mk ((by rw [hg]; exact (lZ (by repeat (first | (with_reducible first | exact HB.out | apply lA | apply lN | apply lD | refine lS ?_ GE257.out | refine lS ?_ GE258.out | refine lS ?_ GE262.out | refine lS ?_ GE266.out | refine lS ?_ GE273.out) | exact HB.out))) : w.heap.size ≤ gb274))
                   have n8_ := Aside0.mk ((by rw [hg]; exact (lZ (by repeat (first | (with_reducible first | exact HB.out | apply lA | apply lN | apply lD | refine lS ?_ GE257.out | refine lS ?_ GE258.out | refine lS ?_ GE262.out | refine lS ?_ GE266.out | refine lS ?_ GE273.out) | exact HB.out))) : w.heap.size ≤ gb274))
                   have n9_ := Aside0.mk ((by rw [hg]; exact Nat.ne_of_lt (bL (g := gb257) (o := .cells #[.int .u64 a0_0, .int .u64 a0_1] 38 (0, 0)) (by (with_reducible repeat (first | refine bN ?_ _ | refine bD ?_ | refine bA ?_ _)); exact BK257.out)) : gb257 ≠ gb274))
                   have n10_ := Aside0.mk ((by rw [hg]; exact Nat.ne_of_gt (bL (g := gb257) (o := .cells #[.int .u64 a0_0, .int .u64 a0_1] 38 (0, 0)) (by (with_reducible repeat (first | refine bN ?_ _ | refine bD ?_ | refine bA ?_ _)); exact BK257.out)) : gb274 ≠ gb257))
                   have n11_ := Aside0.mk ((by rw [hg]; exact Nat.ne_of_lt (bL (g := gb258) (o := .cells #[.int .u64 a1_0, .int .u64 a1_1] 38 (0, 0)) (by (with_reducible repeat (first | refine bN ?_ _ | refine bD ?_ | refine bA ?_ _)); exact BK258.out)) : gb258 ≠ gb274))
                   have n12_ := Aside0.mk ((by rw [hg]; exact Nat.ne_of_gt (bL (g := gb258) (o := .cells #[.int .u64 a1_0, .int .u64 a1_1] 38 (0, 0)) (by (with_reducible repeat (first | refine bN ?_ _ | refine bD ?_ | refine bA ?_ _)); exact BK258.out)) : gb274 ≠ gb258))
                   have n13_ := Aside0.mk ((by rw [hg]; exact Nat.ne_of_lt (bL (g := gb262) (o := .cells #[.int .u64 t259, .int .u64 t260] 38 (0, 0)) (by (with_reducible repeat (first | refine bN ?_ _ | refine bD ?_ | refine bA ?_ _)); exact BK262.out)) : gb262 ≠ gb274))
                   have n14_ := Aside0.mk ((by rw [hg]; exact Nat.ne_of_gt (bL (g := gb262) (o := .cells #[.int .u64 t259, .int .u64 t260] 38 (0, 0)) (by (with_reducible repeat (first | refine bN ?_ _ | refine bD ?_ | refine bA ?_ _)); exact BK262.out)) : gb274 ≠ gb262))
                   have n15_ := Aside0.mk ((by rw [hg]; exact Nat.ne_of_lt (bL (g := gb266) (o := .cells #[.int .u64 t263, .int .u64 t264] 38 (0, 0)) (by (with_reducible repeat (first | refine bN ?_ _ | refine bD ?_ | refine bA ?_ _)); exact BK266.out)) : gb266 ≠ gb274))
                   have n16_ := Aside0.mk ((by rw [hg]; exact Nat.ne_of_gt (bL (g := gb266) (o := .cells #[.int .u64 t263, .int .u64 t264] 38 (0, 0)) (by (with_reducible repeat (first | refine bN ?_ _ | refine bD ?_ | refine bA ?_ _)); exact BK266.out)) : gb274 ≠ gb266))
                   have n17_ := Aside0.mk ((by rw [hg]; exact Nat.ne_of_lt (bL (g := gb273) (o := .cells #[.int .u64 0, .int .u64 0, .int .u64 0] 49 (0, 0)) (by (with_reducible repeat (first | refine bN ?_ _ | refine bD ?_ | refine bA ?_ _)); exact BK273.out)) : gb273 ≠ gb274))
                   have n18_ := Aside0.mk ((by rw [hg]; exact Nat.ne_of_gt (bL (g := gb273) (o := .cells #[.int .u64 0, .int .u64 0, .int .u64 0] 49 (0, 0)) (by (with_reducible repeat (first | refine bN ?_ _ | refine bD ?_ | refine bA ?_ _)); exact BK273.out)) : gb274 ≠ gb273))
                   clear BK257 BK258 BK262 BK266 BK273 HB
                   have BK257 := n0_; have BK258 := n1_; have BK262 := n2_; have BK266 := n3_; have BK273 := n4_; have HB := n5_; have BK274 := n6_; have GW274 := n7_; have GE274 := n8_; have NB257_274 := n9_; have NB274_257 := n10_; have NB258_274 := n11_; have NB274_258 := n12_; have NB262_274 := n13_; have NB274_262 := n14_; have NB266_274 := n15_; have NB274_266 := n16_; have NB273_274 := n17_; have NB274_273 := n18_
                   clear n0_ n1_ n2_ n3_ n4_ n5_ n6_ n7_ n8_ n9_ n10_ n11_ n12_ n13_ n14_ n15_ n16_ n17_ n18_ hb hbox hg
                   refine hK.out _ _ ⟨(bC BK257.out 0).trans rfl, (bC BK257.out 1).trans rfl, (bC BK258.out 0).trans rfl, (bC BK258.out 1).trans rfl⟩ (fun hHeld => ?_)
                   clear hK K
                   refine norm_ (a' := ?_) ?_ ?_
                   rotate_left
                   ·show Act.put _ (some 12) _ = _
                    simp only [Act.put, List.setIfInBounds_toArray, List.set_cons_zero, List.set_cons_succ, i64_w, i32_w]
                    rfl
                   exact norm_ (by first | (simp only [putAll, Act.put, List.setIfInBounds_toArray, List.set_cons_zero, List.set_cons_succ]; done) | (simp only [putAll, Act.put, List.setIfInBounds_toArray, List.set_cons_zero, List.set_cons_succ]; rfl)) (hJ7_8 (gb273, gb274) _ ⟨hHeld, (by (with_reducible repeat (first | refine bN ?_ _ | refine bD ?_ | refine bA ?_ _)); exact BK257.out), (by (with_reducible repeat (first | refine bN ?_ _ | refine bD ?_ | refine bA ?_ _)); exact BK258.out), (by (with_reducible repeat (first | refine bN ?_ _ | refine bD ?_ | refine bA ?_ _)); exact BK262.out), (by (with_reducible repeat (first | refine bN ?_ _ | refine bD ?_ | refine bA ?_ _)); exact BK266.out), (by (with_reducible repeat (first | refine bN ?_ _ | refine bD ?_ | refine bA ?_ _)); exact BK273.out), (by (with_reducible repeat (first | refine bN ?_ _ | refine bD ?_ | refine bA ?_ _)); exact BK274.out), GW273.out, GE273.out, NB257_273.out, NB273_257.out, NB258_273.out, NB273_258.out, NB262_273.out, NB273_262.out, NB266_273.out, NB273_266.out, NB274_273.out, NB273_274.out, GW274.out, GE274.out, NB257_274.out, NB274_257.out, NB258_274.out, NB274_258.out, NB262_274.out, NB274_262.out, NB266_274.out, NB274_266.out, (by repeat (first | (with_reducible first | exact HB.out | apply lA | apply lN | apply lD | refine lS ?_ GE257.out | refine lS ?_ GE258.out | refine lS ?_ GE262.out | refine lS ?_ GE266.out | refine lS ?_ GE273.out | refine lS ?_ GE274.out) | exact HB.out))⟩)
                ·skip
                 rintro _ w45 ⟨hS_, h0_, h1_, h2_, h3_, h4_⟩
                 have n0_ : Aside0 (w45.heap[gb257]? = some (.cells #[.int .u64 a0_0, .int .u64 a0_1] 38 (0, 0))) := ⟨h0_⟩
                 have n1_ : Aside0 (w45.heap[gb258]? = some (.cells #[.int .u64 a1_0, .int .u64 a1_1] 38 (0, 0))) := ⟨h1_⟩
                 have n2_ : Aside0 (w45.heap[gb262]? = some (.cells #[.int .u64 t259, .int .u64 t260] 38 (0, 0))) := ⟨h2_⟩
                 have n3_ : Aside0 (w45.heap[gb266]? = some (.cells #[.int .u64 t263, .int .u64 t264] 38 (0, 0))) := ⟨h3_⟩
                 have n4_ : Aside0 (Below w.heap.size w w45) := ⟨h4_⟩
                 clear BK257 BK258 BK262 BK266 HB h0_ h1_ h2_ h3_ h4_
                 have BK257 := n0_; have BK258 := n1_; have BK262 := n2_; have BK266 := n3_; have HB := n4_
                 clear n0_ n1_ n2_ n3_ n4_
                 have hHeld : w45.cell? ⟨gb257, 0, none⟩ = some (.int .u64 a0_0) ∧ w45.cell? ⟨gb257, 1, none⟩ = some (.int .u64 a0_1) ∧ w45.cell? ⟨gb258, 0, none⟩ = some (.int .u64 a1_0) ∧ w45.cell? ⟨gb258, 1, none⟩ = some (.int .u64 a1_1) := hS_
                 refine norm_ (a' := ?_) ?_ ?_
                 rotate_left
                 ·simp only [putAll, Act.put, List.setIfInBounds_toArray, List.set_cons_zero, List.set_cons_succ]
                  rfl
                 refine three_ (i := 6) (j := 7) (k := 8) (Ni := some 31) (Nj := some 11) (Nk := some 12) #[true, true, true, true, true, true, true, false, false, false, false] #[true, true, true, true, true, true, false, true, false, false, false] #[true, true, true, true, true, true, false, false, true, false, false] rfl rfl rfl rfl rfl rfl (three_of HT_.out (by kernel_rfl)) (by decide) (by decide) (by decide) (fun K hK => ?_) (fun K hK => ?_) (fun K hK => ?_)
                 ·skip
                  refine goes_ Try.func30 (by kernel_rfl) rfl #[.agg #[.int .u64 a1_0, .int .u64 a1_1], .int .u64 a0_1] (by rfl) rfl rfl (by (try simp only [List.map_toArray, List.map_cons, List.map_nil]); first | done | rfl | (simp only [List.length_drop, List.length_take]; rfl)) ?_
                  with_reducible refine (prod_Times.calls a1_0 a1_1 a0_1 t270 t271 t272 _ A7.out).mono ?_
                  rintro e w46 ⟨rfl, hb⟩
                  refine ⟨_, rfl, ?_⟩
                  have n0_ := Aside0.mk (bB (g := gb257) (o := .cells #[.int .u64 a0_0, .int .u64 a0_1] 38 (0, 0)) (by (with_reducible repeat (first | refine bN ?_ _ | refine bD ?_ | refine bA ?_ _)); exact BK257.out) hb)
                  have n1_ := Aside0.mk (bB (g := gb258) (o := .cells #[.int .u64 a1_0, .int .u64 a1_1] 38 (0, 0)) (by (with_reducible repeat (first | refine bN ?_ _ | refine bD ?_ | refine bA ?_ _)); exact BK258.out) hb)
                  have n2_ := Aside0.mk (bB (g := gb262) (o := .cells #[.int .u64 t259, .int .u64 t260] 38 (0, 0)) (by (with_reducible repeat (first | refine bN ?_ _ | refine bD ?_ | refine bA ?_ _)); exact BK262.out) hb)
                  have n3_ := Aside0.mk (bB (g := gb266) (o := .cells #[.int .u64 t263, .int .u64 t264] 38 (0, 0)) (by (with_reducible repeat (first | refine bN ?_ _ | refine bD ?_ | refine bA ?_ _)); exact BK266.out) hb)
                  have n4_ := Aside0.mk (lP (by repeat (first | (with_reducible first | exact HB.out | apply lA | apply lN | apply lD | refine lS ?_ GE257.out | refine lS ?_ GE258.out | refine lS ?_ GE262.out | refine lS ?_ GE266.out) | exact HB.out)) hb)
                  clear BK257 BK258 BK262 BK266 HB
                  have BK257 := n0_; have BK258 := n1_; have BK262 := n2_; have BK266 := n3_; have HB := n4_
                  clear n0_ n1_ n2_ n3_ n4_
                  (try clear hb)
                  (try clear hb2)
                  (try clear hk)
                  (try clear hi)
                  refine hK.out _ _ ⟨(bC BK257.out 0).trans rfl, (bC BK257.out 1).trans rfl, (bC BK258.out 0).trans rfl, (bC BK258.out 1).trans rfl⟩ (fun hHeld => ?_)
                  clear hK K
                  refine norm_ (a' := ?_) ?_ ?_
                  rotate_left
                  ·show Act.put _ (some 31) _ = _
                   simp only [Act.put, List.setIfInBounds_toArray, List.set_cons_zero, List.set_cons_succ, i64_w, i32_w]
                   rfl
                  exact norm_ (by first | (simp only [putAll, Act.put, List.setIfInBounds_toArray, List.set_cons_zero, List.set_cons_succ]; done) | (simp only [putAll, Act.put, List.setIfInBounds_toArray, List.set_cons_zero, List.set_cons_succ]; rfl)) (hJ2_6 () _ ⟨hHeld, (by (with_reducible repeat (first | refine bN ?_ _ | refine bD ?_ | refine bA ?_ _)); exact BK257.out), (by (with_reducible repeat (first | refine bN ?_ _ | refine bD ?_ | refine bA ?_ _)); exact BK258.out), (by (with_reducible repeat (first | refine bN ?_ _ | refine bD ?_ | refine bA ?_ _)); exact BK262.out), (by (with_reducible repeat (first | refine bN ?_ _ | refine bD ?_ | refine bA ?_ _)); exact BK266.out), (by repeat (first | (with_reducible first | exact HB.out | apply lA | apply lN | apply lD | refine lS ?_ GE257.out | refine lS ?_ GE258.out | refine lS ?_ GE262.out | refine lS ?_ GE266.out) | exact HB.out))⟩)
                 ·skip
                  refine box_step ?hg (N := 11) ?hd (cs := #[.int .u64 0, .int .u64 0, .int .u64 0]) (t := 49) ?hr ?_; (case hd => rfl); (case hg => rfl); (case hr => first | (go_simp; done) | (go_simp; rfl))
                  intro gb273 hg w46 hbox hb
                  have n0_ := Aside0.mk (bB (g := gb257) (o := .cells #[.int .u64 a0_0, .int .u64 a0_1] 38 (0, 0)) (by (with_reducible repeat (first | refine bN ?_ _ | refine bD ?_ | refine bA ?_ _)); exact BK257.out) hb)
                  have n1_ := Aside0.mk (bB (g := gb258) (o := .cells #[.int .u64 a1_0, .int .u64 a1_1] 38 (0, 0)) (by (with_reducible repeat (first | refine bN ?_ _ | refine bD ?_ | refine bA ?_ _)); exact BK258.out) hb)
                  have n2_ := Aside0.mk (bB (g := gb262) (o := .cells #[.int .u64 t259, .int .u64 t260] 38 (0, 0)) (by (with_reducible repeat (first | refine bN ?_ _ | refine bD ?_ | refine bA ?_ _)); exact BK262.out) hb)
                  have n3_ := Aside0.mk (bB (g := gb266) (o := .cells #[.int .u64 t263, .int .u64 t264] 38 (0, 0)) (by (with_reducible repeat (first | refine bN ?_ _ | refine bD ?_ | refine bA ?_ _)); exact BK266.out) hb)
                  have n4_ := Aside0.mk (lP (by repeat (first | (with_reducible first | exact HB.out | apply lA | apply lN | apply lD | refine lS ?_ GE257.out | refine lS ?_ GE258.out | refine lS ?_ GE262.out | refine lS ?_ GE266.out) | exact HB.out)) hb)
                  have n5_ := Aside0.mk (hbox)
                  have n6_ := Aside0.mk ((by rw [hg]; exact (lZ (by repeat (first | (with_reducible first | exact HB.out | apply lA | apply lN | apply lD | refine lS ?_ GE257.out | refine lS ?_ GE258.out | refine lS ?_ GE262.out | refine lS ?_ GE266.out) | exact HB.out))) : w.heap.size ≤ gb273))
                  have n7_ := Aside0.mk ((by rw [hg]; exact (lZ (by repeat (first | (with_reducible first | exact HB.out | apply lA | apply lN | apply lD | refine lS ?_ GE257.out | refine lS ?_ GE258.out | refine lS ?_ GE262.out | refine lS ?_ GE266.out) | exact HB.out))) : w.heap.size ≤ gb273))
                  have n8_ := Aside0.mk ((by rw [hg]; exact Nat.ne_of_lt (bL (g := gb257) (o := .cells #[.int .u64 a0_0, .int .u64 a0_1] 38 (0, 0)) (by (with_reducible repeat (first | refine bN ?_ _ | refine bD ?_ | refine bA ?_ _)); exact BK257.out)) : gb257 ≠ gb273))
                  have n9_ := Aside0.mk ((by rw [hg]; exact Nat.ne_of_gt (bL (g := gb257) (o := .cells #[.int .u64 a0_0, .int .u64 a0_1] 38 (0, 0)) (by (with_reducible repeat (first | refine bN ?_ _ | refine bD ?_ | refine bA ?_ _)); exact BK257.out)) : gb273 ≠ gb257))
                  have n10_ := Aside0.mk ((by rw [hg]; exact Nat.ne_of_lt (bL (g := gb258) (o := .cells #[.int .u64 a1_0, .int .u64 a1_1] 38 (0, 0)) (by (with_reducible repeat (first | refine bN ?_ _ | refine bD ?_ | refine bA ?_ _)); exact BK258.out)) : gb258 ≠ gb273))
                  have n11_ := Aside0.mk ((by rw [hg]; exact Nat.ne_of_gt (bL (g := gb258) (o := .cells #[.int .u64 a1_0, .int .u64 a1_1] 38 (0, 0)) (by (with_reducible repeat (first | refine bN ?_ _ | refine bD ?_ | refine bA ?_ _)); exact BK258.out)) : gb273 ≠ gb258))
                  have n12_ := Aside0.mk ((by rw [hg]; exact Nat.ne_of_lt (bL (g := gb262) (o := .cells #[.int .u64 t259, .int .u64 t260] 38 (0, 0)) (by (with_reducible repeat (first | refine bN ?_ _ | refine bD ?_ | refine bA ?_ _)); exact BK262.out)) : gb262 ≠ gb273))
                  have n13_ := Aside0.mk ((by rw [hg]; exact Nat.ne_of_gt (bL (g := gb262) (o := .cells #[.int .u64 t259, .int .u64 t260] 38 (0, 0)) (by (with_reducible repeat (first | refine bN ?_ _ | refine bD ?_ | refine bA ?_ _)); exact BK262.out)) : gb273 ≠ gb262))
                  have n14_ := Aside0.mk ((by rw [hg]; exact Nat.ne_of_lt (bL (g := gb266) (o := .cells #[.int .u64 t263, .int .u64 t264] 38 (0, 0)) (by (with_reducible repeat (first | refine bN ?_ _ | refine bD ?_ | refine bA ?_ _)); exact BK266.out)) : gb266 ≠ gb273))
                  have n15_ := Aside0.mk ((by rw [hg]; exact Nat.ne_of_gt (bL (g := gb266) (o := .cells #[.int .u64 t263, .int .u64 t264] 38 (0, 0)) (by (with_reducible repeat (first | refine bN ?_ _ | refine bD ?_ | refine bA ?_ _)); exact BK266.out)) : gb273 ≠ gb266))
                  clear BK257 BK258 BK262 BK266 HB
                  have BK257 := n0_; have BK258 := n1_; have BK262 := n2_; have BK266 := n3_; have HB := n4_; have BK273 := n5_; have GW273 := n6_; have GE273 := n7_; have NB257_273 := n8_; have NB273_257 := n9_; have NB258_273 := n10_; have NB273_258 := n11_; have NB262_273 := n12_; have NB273_262 := n13_; have NB266_273 := n14_; have NB273_266 := n15_
                  clear n0_ n1_ n2_ n3_ n4_ n5_ n6_ n7_ n8_ n9_ n10_ n11_ n12_ n13_ n14_ n15_ hb hbox hg
                  refine hK.out _ _ ⟨(bC BK257.out 0).trans rfl, (bC BK257.out 1).trans rfl, (bC BK258.out 0).trans rfl, (bC BK258.out 1).trans rfl⟩ (fun hHeld => ?_)
                  clear hK K
                  refine norm_ (a' := ?_) ?_ ?_
                  rotate_left
                  ·show Act.put _ (some 11) _ = _
                   simp only [Act.put, List.setIfInBounds_toArray, List.set_cons_zero, List.set_cons_succ, i64_w, i32_w]
                   rfl
                  exact norm_ (by first | (simp only [putAll, Act.put, List.setIfInBounds_toArray, List.set_cons_zero, List.set_cons_succ]; done) | (simp only [putAll, Act.put, List.setIfInBounds_toArray, List.set_cons_zero, List.set_cons_succ]; rfl)) (hJ2_7 (gb273) _ ⟨hHeld, (by (with_reducible repeat (first | refine bN ?_ _ | refine bD ?_ | refine bA ?_ _)); exact BK257.out), (by (with_reducible repeat (first | refine bN ?_ _ | refine bD ?_ | refine bA ?_ _)); exact BK258.out), (by (with_reducible repeat (first | refine bN ?_ _ | refine bD ?_ | refine bA ?_ _)); exact BK262.out), (by (with_reducible repeat (first | refine bN ?_ _ | refine bD ?_ | refine bA ?_ _)); exact BK266.out), (by (with_reducible repeat (first | refine bN ?_ _ | refine bD ?_ | refine bA ?_ _)); exact BK273.out), GW273.out, GE273.out, NB257_273.out, NB273_257.out, NB258_273.out, NB273_258.out, NB262_273.out, NB273_262.out, NB266_273.out, NB273_266.out, (by repeat (first | (with_reducible first | exact HB.out | apply lA | apply lN | apply lD | refine lS ?_ GE257.out | refine lS ?_ GE258.out | refine lS ?_ GE262.out | refine lS ?_ GE266.out | refine lS ?_ GE273.out) | exact HB.out))⟩)
                 ·skip
                  refine box_step ?hg (N := 12) ?hd (cs := #[.int .u64 0, .int .u64 0, .int .u64 0]) (t := 49) ?hr ?_; (case hd => rfl); (case hg => rfl); (case hr => first | (go_simp; done) | (go_simp; rfl))
                  intro gb274 hg w46 hbox hb
                  have n0_ := Aside0.mk (bB (g := gb257) (o := .cells #[.int .u64 a0_0, .int .u64 a0_1] 38 (0, 0)) (by (with_reducible repeat (first | refine bN ?_ _ | refine bD ?_ | refine bA ?_ _)); exact BK257.out) hb)
                  have n1_ := Aside0.mk (bB (g := gb258) (o := .cells #[.int .u64 a1_0, .int .u64 a1_1] 38 (0, 0)) (by (with_reducible repeat (first | refine bN ?_ _ | refine bD ?_ | refine bA ?_ _)); exact BK258.out) hb)
                  have n2_ := Aside0.mk (bB (g := gb262) (o := .cells #[.int .u64 t259, .int .u64 t260] 38 (0, 0)) (by (with_reducible repeat (first | refine bN ?_ _ | refine bD ?_ | refine bA ?_ _)); exact BK262.out) hb)
                  have n3_ := Aside0.mk (bB (g := gb266) (o := .cells #[.int .u64 t263, .int .u64 t264] 38 (0, 0)) (by (with_reducible repeat (first | refine bN ?_ _ | refine bD ?_ | refine bA ?_ _)); exact BK266.out) hb)
                  have n4_ := Aside0.mk (lP (by repeat (first | (with_reducible first | exact HB.out | apply lA | apply lN | apply lD | refine lS ?_ GE257.out | refine lS ?_ GE258.out | refine lS ?_ GE262.out | refine lS ?_ GE266.out) | exact HB.out)) hb)
                  have n5_ := Aside0.mk (hbox)
                  have n6_ := Aside0.mk ((by rw [hg]; exact (lZ (by repeat (first | (with_reducible first | exact HB.out | apply lA | apply lN | apply lD | refine lS ?_ GE257.out | refine lS ?_ GE258.out | refine lS ?_ GE262.out | refine lS ?_ GE266.out) | exact HB.out))) : w.heap.size ≤ gb274))
                  have n7_ := Aside0.mk ((by rw [hg]; exact (lZ (by repeat (first | (with_reducible first | exact HB.out | apply lA | apply lN | apply lD | refine lS ?_ GE257.out | refine lS ?_ GE258.out | refine lS ?_ GE262.out | refine lS ?_ GE266.out) | exact HB.out))) : w.heap.size ≤ gb274))
                  have n8_ := Aside0.mk ((by rw [hg]; exact Nat.ne_of_lt (bL (g := gb257) (o := .cells #[.int .u64 a0_0, .int .u64 a0_1] 38 (0, 0)) (by (with_reducible repeat (first | refine bN ?_ _ | refine bD ?_ | refine bA ?_ _)); exact BK257.out)) : gb257 ≠ gb274))
                  have n9_ := Aside0.mk ((by rw [hg]; exact Nat.ne_of_gt (bL (g := gb257) (o := .cells #[.int .u64 a0_0, .int .u64 a0_1] 38 (0, 0)) (by (with_reducible repeat (first | refine bN ?_ _ | refine bD ?_ | refine bA ?_ _)); exact BK257.out)) : gb274 ≠ gb257))
                  have n10_ := Aside0.mk ((by rw [hg]; exact Nat.ne_of_lt (bL (g := gb258) (o := .cells #[.int .u64 a1_0, .int .u64 a1_1] 38 (0, 0)) (by (with_reducible repeat (first | refine bN ?_ _ | refine bD ?_ | refine bA ?_ _)); exact BK258.out)) : gb258 ≠ gb274))
                  have n11_ := Aside0.mk ((by rw [hg]; exact Nat.ne_of_gt (bL (g := gb258) (o := .cells #[.int .u64 a1_0, .int .u64 a1_1] 38 (0, 0)) (by (with_reducible repeat (first | refine bN ?_ _ | refine bD ?_ | refine bA ?_ _)); exact BK258.out)) : gb274 ≠ gb258))
                  have n12_ := Aside0.mk ((by rw [hg]; exact Nat.ne_of_lt (bL (g := gb262) (o := .cells #[.int .u64 t259, .int .u64 t260] 38 (0, 0)) (by (with_reducible repeat (first | refine bN ?_ _ | refine bD ?_ | refine bA ?_ _)); exact BK262.out)) : gb262 ≠ gb274))
                  have n13_ := Aside0.mk ((by rw [hg]; exact Nat.ne_of_gt (bL (g := gb262) (o := .cells #[.int .u64 t259, .int .u64 t260] 38 (0, 0)) (by (with_reducible repeat (first | refine bN ?_ _ | refine bD ?_ | refine bA ?_ _)); exact BK262.out)) : gb274 ≠ gb262))
                  have n14_ := Aside0.mk ((by rw [hg]; exact Nat.ne_of_lt (bL (g := gb266) (o := .cells #[.int .u64 t263, .int .u64 t264] 38 (0, 0)) (by (with_reducible repeat (first | refine bN ?_ _ | refine bD ?_ | refine bA ?_ _)); exact BK266.out)) : gb266 ≠ gb274))
                  have n15_ := Aside0.mk ((by rw [hg]; exact Nat.ne_of_gt (bL (g := gb266) (o := .cells #[.int .u64 t263, .int .u64 t264] 38 (0, 0)) (by (with_reducible repeat (first | refine bN ?_ _ | refine bD ?_ | refine bA ?_ _)); exact BK266.out)) : gb274 ≠ gb266))
                  clear BK257 BK258 BK262 BK266 HB
                  have BK257 := n0_; have BK258 := n1_; have BK262 := n2_; have BK266 := n3_; have HB := n4_; have BK274 := n5_; have GW274 := n6_; have GE274 := n7_; have NB257_274 := n8_; have NB274_257 := n9_; have NB258_274 := n10_; have NB274_258 := n11_; have NB262_274 := n12_; have NB274_262 := n13_; have NB266_274 := n14_; have NB274_266 := n15_
                  clear n0_ n1_ n2_ n3_ n4_ n5_ n6_ n7_ n8_ n9_ n10_ n11_ n12_ n13_ n14_ n15_ hb hbox hg
                  refine hK.out _ _ ⟨(bC BK257.out 0).trans rfl, (bC BK257.out 1).trans rfl, (bC BK258.out 0).trans rfl, (bC BK258.out 1).trans rfl⟩ (fun hHeld => ?_)
                  clear hK K
                  refine norm_ (a' := ?_) ?_ ?_
                  rotate_left
                  ·show Act.put _ (some 12) _ = _
                   simp only [Act.put, List.setIfInBounds_toArray, List.set_cons_zero, List.set_cons_succ, i64_w, i32_w]
                   rfl
                  exact norm_ (by first | (simp only [putAll, Act.put, List.setIfInBounds_toArray, List.set_cons_zero, List.set_cons_succ]; done) | (simp only [putAll, Act.put, List.setIfInBounds_toArray, List.set_cons_zero, List.set_cons_succ]; rfl)) (hJ2_8 (gb274) _ ⟨hHeld, (by (with_reducible repeat (first | refine bN ?_ _ | refine bD ?_ | refine bA ?_ _)); exact BK257.out), (by (with_reducible repeat (first | refine bN ?_ _ | refine bD ?_ | refine bA ?_ _)); exact BK258.out), (by (with_reducible repeat (first | refine bN ?_ _ | refine bD ?_ | refine bA ?_ _)); exact BK262.out), (by (with_reducible repeat (first | refine bN ?_ _ | refine bD ?_ | refine bA ?_ _)); exact BK266.out), (by (with_reducible repeat (first | refine bN ?_ _ | refine bD ?_ | refine bA ?_ _)); exact BK274.out), GW274.out, GE274.out, NB257_274.out, NB274_257.out, NB258_274.out, NB274_258.out, NB262_274.out, NB274_262.out, NB266_274.out, NB274_266.out, (by repeat (first | (with_reducible first | exact HB.out | apply lA | apply lN | apply lD | refine lS ?_ GE257.out | refine lS ?_ GE258.out | refine lS ?_ GE262.out | refine lS ?_ GE266.out | refine lS ?_ GE274.out) | exact HB.out))⟩)
               ·skip
                rintro ⟨gb273, gb274⟩ w46 ⟨hS_, h0_, h1_, h2_, h3_, h4_, h5_, h6_, h7_, h8_, h9_, h10_, h11_, h12_, h13_, h14_, h15_, h16_, h17_, h18_, h19_, h20_, h21_, h22_, h23_, h24_, h25_, h26_, h27_, h28_⟩
                have n0_ : Aside0 (w46.heap[gb257]? = some (.cells #[.int .u64 a0_0, .int .u64 a0_1] 38 (0, 0))) := ⟨h0_⟩
                have n1_ : Aside0 (w46.heap[gb258]? = some (.cells #[.int .u64 a1_0, .int .u64 a1_1] 38 (0, 0))) := ⟨h1_⟩
                have n2_ : Aside0 (w46.heap[gb262]? = some (.cells #[.int .u64 t259, .int .u64 t260] 38 (0, 0))) := ⟨h2_⟩
                have n3_ : Aside0 (w46.heap[gb266]? = some (.cells #[.int .u64 t263, .int .u64 t264] 38 (0, 0))) := ⟨h3_⟩
                have n4_ : Aside0 (w46.heap[gb273]? = some (.cells #[.int .u64 0, .int .u64 0, .int .u64 0] 49 (0, 0))) := ⟨h4_⟩
                have n5_ : Aside0 (w46.heap[gb274]? = some (.cells #[.int .u64 0, .int .u64 0, .int .u64 0] 49 (0, 0))) := ⟨h5_⟩
                have n6_ : Aside0 (w.heap.size ≤ gb273) := ⟨h6_⟩
                have n7_ : Aside0 (w.heap.size ≤ gb273) := ⟨h7_⟩
                have n8_ : Aside0 (gb257 ≠ gb273) := ⟨h8_⟩
                have n9_ : Aside0 (gb273 ≠ gb257) := ⟨h9_⟩
                have n10_ : Aside0 (gb258 ≠ gb273) := ⟨h10_⟩
                have n11_ : Aside0 (gb273 ≠ gb258) := ⟨h11_⟩
                have n12_ : Aside0 (gb262 ≠ gb273) := ⟨h12_⟩
                have n13_ : Aside0 (gb273 ≠ gb262) := ⟨h13_⟩
                have n14_ : Aside0 (gb266 ≠ gb273) := ⟨h14_⟩
                have n15_ : Aside0 (gb273 ≠ gb266) := ⟨h15_⟩
                have n16_ : Aside0 (gb274 ≠ gb273) := ⟨h16_⟩
                have n17_ : Aside0 (gb273 ≠ gb274) := ⟨h17_⟩
                have n18_ : Aside0 (w.heap.size ≤ gb274) := ⟨h18_⟩
                have n19_ : Aside0 (w.heap.size ≤ gb274) := ⟨h19_⟩
                have n20_ : Aside0 (gb257 ≠ gb274) := ⟨h20_⟩
                have n21_ : Aside0 (gb274 ≠ gb257) := ⟨h21_⟩
                have n22_ : Aside0 (gb258 ≠ gb274) := ⟨h22_⟩
                have n23_ : Aside0 (gb274 ≠ gb258) := ⟨h23_⟩
                have n24_ : Aside0 (gb262 ≠ gb274) := ⟨h24_⟩
                have n25_ : Aside0 (gb274 ≠ gb262) := ⟨h25_⟩
                have n26_ : Aside0 (gb266 ≠ gb274) := ⟨h26_⟩
                have n27_ : Aside0 (gb274 ≠ gb266) := ⟨h27_⟩
                have n28_ : Aside0 (Below w.heap.size w w46) := ⟨h28_⟩
                clear BK257 BK258 BK262 BK266 HB h0_ h1_ h2_ h3_ h4_ h5_ h6_ h7_ h8_ h9_ h10_ h11_ h12_ h13_ h14_ h15_ h16_ h17_ h18_ h19_ h20_ h21_ h22_ h23_ h24_ h25_ h26_ h27_ h28_
                have BK257 := n0_; have BK258 := n1_; have BK262 := n2_; have BK266 := n3_; have BK273 := n4_; have BK274 := n5_; have GW273 := n6_; have GE273 := n7_; have NB257_273 := n8_; have NB273_257 := n9_; have NB258_273 := n10_; have NB273_258 := n11_; have NB262_273 := n12_; have NB273_262 := n13_; have NB266_273 := n14_; have NB273_266 := n15_; have NB274_273 := n16_; have NB273_274 := n17_; have GW274 := n18_; have GE274 := n19_; have NB257_274 := n20_; have NB274_257 := n21_; have NB258_274 := n22_; have NB274_258 := n23_; have NB262_274 := n24_; have NB274_262 := n25_; have NB266_274 := n26_; have NB274_266 := n27_; have HB := n28_
                clear n0_ n1_ n2_ n3_ n4_ n5_ n6_ n7_ n8_ n9_ n10_ n11_ n12_ n13_ n14_ n15_ n16_ n17_ n18_ n19_ n20_ n21_ n22_ n23_ n24_ n25_ n26_ n27_ n28_
                have hHeld : w46.cell? ⟨gb257, 0, none⟩ = some (.int .u64 a0_0) ∧ w46.cell? ⟨gb257, 1, none⟩ = some (.int .u64 a0_1) ∧ w46.cell? ⟨gb258, 0, none⟩ = some (.int .u64 a1_0) ∧ w46.cell? ⟨gb258, 1, none⟩ = some (.int .u64 a1_1) := hS_
                refine norm_ (a' := ?_) ?_ ?_
                rotate_left
                ·simp only [putAll, Act.put, List.setIfInBounds_toArray, List.set_cons_zero, List.set_cons_succ]
                 rfl
                refine one_ (i := 2) (N := some 27) #[true, true, true, true, true, true, false, true, true, false, false] rfl rfl (one_of HT_.out (by kernel_rfl)) (by decide) (fun K hK => ?_)
                refine goes_ Try.func30 (by kernel_rfl) rfl #[.agg #[.int .u64 a0_0, .int .u64 a0_1], .int .u64 a2] (by rfl) rfl rfl (by (try simp only [List.map_toArray, List.map_cons, List.map_nil]); first | done | rfl | (simp only [List.length_drop, List.length_take]; rfl)) ?_
                with_reducible refine (prod_Times.calls a0_0 a0_1 a2 t267 t268 t269 _ A6.out).mono ?_
                rintro e w47 ⟨rfl, hb⟩
                refine ⟨_, rfl, ?_⟩
                have n0_ := Aside0.mk (bB (g := gb257) (o := .cells #[.int .u64 a0_0, .int .u64 a0_1] 38 (0, 0)) (by (with_reducible repeat (first | refine bN ?_ _ | refine bD ?_ | refine bA ?_ _)); exact BK257.out) hb)
                have n1_ := Aside0.mk (bB (g := gb258) (o := .cells #[.int .u64 a1_0, .int .u64 a1_1] 38 (0, 0)) (by (with_reducible repeat (first | refine bN ?_ _ | refine bD ?_ | refine bA ?_ _)); exact BK258.out) hb)
                have n2_ := Aside0.mk (bB (g := gb262) (o := .cells #[.int .u64 t259, .int .u64 t260] 38 (0, 0)) (by (with_reducible repeat (first | refine bN ?_ _ | refine bD ?_ | refine bA ?_ _)); exact BK262.out) hb)
                have n3_ := Aside0.mk (bB (g := gb266) (o := .cells #[.int .u64 t263, .int .u64 t264] 38 (0, 0)) (by (with_reducible repeat (first | refine bN ?_ _ | refine bD ?_ | refine bA ?_ _)); exact BK266.out) hb)
                have n4_ := Aside0.mk (bB (g := gb273) (o := .cells #[.int .u64 0, .int .u64 0, .int .u64 0] 49 (0, 0)) (by (with_reducible repeat (first | refine bN ?_ _ | refine bD ?_ | refine bA ?_ _)); exact BK273.out) hb)
                have n5_ := Aside0.mk (bB (g := gb274) (o := .cells #[.int .u64 0, .int .u64 0, .int .u64 0] 49 (0, 0)) (by (with_reducible repeat (first | refine bN ?_ _ | refine bD ?_ | refine bA ?_ _)); exact BK274.out) hb)
                have n6_ := Aside0.mk (lP (by repeat (first | (with_reducible first | exact HB.out | apply lA | apply lN | apply lD | refine lS ?_ GE257.out | refine lS ?_ GE258.out | refine lS ?_ GE262.out | refine lS ?_ GE266.out | refine lS ?_ GE273.out | refine lS ?_ GE274.out) | exact HB.out)) hb)
                clear BK257 BK258 BK262 BK266 BK273 BK274 HB
                have BK257 := n0_; have BK258 := n1_; have BK262 := n2_; have BK266 := n3_; have BK273 := n4_; have BK274 := n5_; have HB := n6_
                clear n0_ n1_ n2_ n3_ n4_ n5_ n6_
                (try clear hb)
                (try clear hb2)
                (try clear hk)
                (try clear hi)
                refine hK.out _ _ ⟨(bC BK257.out 0).trans rfl, (bC BK257.out 1).trans rfl, (bC BK258.out 0).trans rfl, (bC BK258.out 1).trans rfl⟩ (fun hHeld => ?_)
                clear hK K
                refine norm_ (a' := ?_) ?_ ?_
                rotate_left
                ·show Act.put _ (some 27) _ = _
                 simp only [Act.put, List.setIfInBounds_toArray, List.set_cons_zero, List.set_cons_succ, i64_w, i32_w]
                 rfl
                exact norm_ (by first | (simp only [putAll, Act.put, List.setIfInBounds_toArray, List.set_cons_zero, List.set_cons_succ]; done) | (simp only [putAll, Act.put, List.setIfInBounds_toArray, List.set_cons_zero, List.set_cons_succ]; rfl)) (hJ2_7_8 (gb273, gb274) _ ⟨hHeld, (by (with_reducible repeat (first | refine bN ?_ _ | refine bD ?_ | refine bA ?_ _)); exact BK257.out), (by (with_reducible repeat (first | refine bN ?_ _ | refine bD ?_ | refine bA ?_ _)); exact BK258.out), (by (with_reducible repeat (first | refine bN ?_ _ | refine bD ?_ | refine bA ?_ _)); exact BK262.out), (by (with_reducible repeat (first | refine bN ?_ _ | refine bD ?_ | refine bA ?_ _)); exact BK266.out), (by (with_reducible repeat (first | refine bN ?_ _ | refine bD ?_ | refine bA ?_ _)); exact BK273.out), (by (with_reducible repeat (first | refine bN ?_ _ | refine bD ?_ | refine bA ?_ _)); exact BK274.out), GW273.out, GE273.out, NB257_273.out, NB273_257.out, NB258_273.out, NB273_258.out, NB262_273.out, NB273_262.out, NB266_273.out, NB273_266.out, NB274_273.out, NB273_274.out, GW274.out, GE274.out, NB257_274.out, NB274_257.out, NB258_274.out, NB274_258.out, NB262_274.out, NB274_262.out, NB266_274.out, NB274_266.out, (by repeat (first | (with_reducible first | exact HB.out | apply lA | apply lN | apply lD | refine lS ?_ GE257.out | refine lS ?_ GE258.out | refine lS ?_ GE262.out | refine lS ?_ GE266.out | refine lS ?_ GE273.out | refine lS ?_ GE274.out) | exact HB.out))⟩)
              ·skip
               rintro gb274 w46 ⟨hS_, h0_, h1_, h2_, h3_, h4_, h5_, h6_, h7_, h8_, h9_, h10_, h11_, h12_, h13_, h14_, h15_⟩
               have n0_ : Aside0 (w46.heap[gb257]? = some (.cells #[.int .u64 a0_0, .int .u64 a0_1] 38 (0, 0))) := ⟨h0_⟩
               have n1_ : Aside0 (w46.heap[gb258]? = some (.cells #[.int .u64 a1_0, .int .u64 a1_1] 38 (0, 0))) := ⟨h1_⟩
               have n2_ : Aside0 (w46.heap[gb262]? = some (.cells #[.int .u64 t259, .int .u64 t260] 38 (0, 0))) := ⟨h2_⟩
               have n3_ : Aside0 (w46.heap[gb266]? = some (.cells #[.int .u64 t263, .int .u64 t264] 38 (0, 0))) := ⟨h3_⟩
               have n4_ : Aside0 (w46.heap[gb274]? = some (.cells #[.int .u64 0, .int .u64 0, .int .u64 0] 49 (0, 0))) := ⟨h4_⟩
               have n5_ : Aside0 (w.heap.size ≤ gb274) := ⟨h5_⟩
               have n6_ : Aside0 (w.heap.size ≤ gb274) := ⟨h6_⟩
               have n7_ : Aside0 (gb257 ≠ gb274) := ⟨h7_⟩
               have n8_ : Aside0 (gb274 ≠ gb257) := ⟨h8_⟩
               have n9_ : Aside0 (gb258 ≠ gb274) := ⟨h9_⟩
               have n10_ : Aside0 (gb274 ≠ gb258) := ⟨h10_⟩
               have n11_ : Aside0 (gb262 ≠ gb274) := ⟨h11_⟩
               have n12_ : Aside0 (gb274 ≠ gb262) := ⟨h12_⟩
               have n13_ : Aside0 (gb266 ≠ gb274) := ⟨h13_⟩
               have n14_ : Aside0 (gb274 ≠ gb266) := ⟨h14_⟩
               have n15_ : Aside0 (Below w.heap.size w w46) := ⟨h15_⟩
               clear BK257 BK258 BK262 BK266 HB h0_ h1_ h2_ h3_ h4_ h5_ h6_ h7_ h8_ h9_ h10_ h11_ h12_ h13_ h14_ h15_
               have BK257 := n0_; have BK258 := n1_; have BK262 := n2_; have BK266 := n3_; have BK274 := n4_; have GW274 := n5_; have GE274 := n6_; have NB257_274 := n7_; have NB274_257 := n8_; have NB258_274 := n9_; have NB274_258 := n10_; have NB262_274 := n11_; have NB274_262 := n12_; have NB266_274 := n13_; have NB274_266 := n14_; have HB := n15_
               clear n0_ n1_ n2_ n3_ n4_ n5_ n6_ n7_ n8_ n9_ n10_ n11_ n12_ n13_ n14_ n15_
               have hHeld : w46.cell? ⟨gb257, 0, none⟩ = some (.int .u64 a0_0) ∧ w46.cell? ⟨gb257, 1, none⟩ = some (.int .u64 a0_1) ∧ w46.cell? ⟨gb258, 0, none⟩ = some (.int .u64 a1_0) ∧ w46.cell? ⟨gb258, 1, none⟩ = some (.int .u64 a1_1) := hS_
               refine norm_ (a' := ?_) ?_ ?_
               rotate_left
               ·simp only [putAll, Act.put, List.setIfInBounds_toArray, List.set_cons_zero, List.set_cons_succ]
                rfl
               refine two_ (i := 6) (j := 7) (Ni := some 31) (Nj := some 11) #[true, true, true, true, true, true, true, false, true, false, false] #[true, true, true, true, true, true, false, true, true, false, false] rfl rfl rfl rfl (two_of HT_.out (by kernel_rfl)) (by decide) (by decide) (fun K hK => ?_) (fun K hK => ?_)
               ·skip
                refine goes_ Try.func30 (by kernel_rfl) rfl #[.agg #[.int .u64 a1_0, .int .u64 a1_1], .int .u64 a0_1] (by rfl) rfl rfl (by (try simp only [List.map_toArray, List.map_cons, List.map_nil]); first | done | rfl | (simp only [List.length_drop, List.length_take]; rfl)) ?_
                with_reducible refine (prod_Times.calls a1_0 a1_1 a0_1 t270 t271 t272 _ A7.out).mono ?_
                rintro e w47 ⟨rfl, hb⟩
                refine ⟨_, rfl, ?_⟩
                have n0_ := Aside0.mk (bB (g := gb257) (o := .cells #[.int .u64 a0_0, .int .u64 a0_1] 38 (0, 0)) (by (with_reducible repeat (first | refine bN ?_ _ | refine bD ?_ | refine bA ?_ _)); exact BK257.out) hb)
                have n1_ := Aside0.mk (bB (g := gb258) (o := .cells #[.int .u64 a1_0, .int .u64 a1_1] 38 (0, 0)) (by (with_reducible repeat (first | refine bN ?_ _ | refine bD ?_ | refine bA ?_ _)); exact BK258.out) hb)
                have n2_ := Aside0.mk (bB (g := gb262) (o := .cells #[.int .u64 t259, .int .u64 t260] 38 (0, 0)) (by (with_reducible repeat (first | refine bN ?_ _ | refine bD ?_ | refine bA ?_ _)); exact BK262.out) hb)
                have n3_ := Aside0.mk (bB (g := gb266) (o := .cells #[.int .u64 t263, .int .u64 t264] 38 (0, 0)) (by (with_reducible repeat (first | refine bN ?_ _ | refine bD ?_ | refine bA ?_ _)); exact BK266.out) hb)
                have n4_ := Aside0.mk (bB (g := gb274) (o := .cells #[.int .u64 0, .int .u64 0, .int .u64 0] 49 (0, 0)) (by (with_reducible repeat (first | refine bN ?_ _ | refine bD ?_ | refine bA ?_ _)); exact BK274.out) hb)
                have n5_ := Aside0.mk (lP (by repeat (first | (with_reducible first | exact HB.out | apply lA | apply lN | apply lD | refine lS ?_ GE257.out | refine lS ?_ GE258.out | refine lS ?_ GE262.out | refine lS ?_ GE266.out | refine lS ?_ GE274.out) | exact HB.out)) hb)
                clear BK257 BK258 BK262 BK266 BK274 HB
                have BK257 := n0_; have BK258 := n1_; have BK262 := n2_; have BK266 := n3_; have BK274 := n4_; have HB := n5_
                clear n0_ n1_ n2_ n3_ n4_ n5_
                (try clear hb)
                (try clear hb2)
                (try clear hk)
                (try clear hi)
                refine hK.out _ _ ⟨(bC BK257.out 0).trans rfl, (bC BK257.out 1).trans rfl, (bC BK258.out 0).trans rfl, (bC BK258.out 1).trans rfl⟩ (fun hHeld => ?_)
                clear hK K
                refine norm_ (a' := ?_) ?_ ?_
                rotate_left
                ·show Act.put _ (some 31) _ = _
                 simp only [Act.put, List.setIfInBounds_toArray, List.set_cons_zero, List.set_cons_succ, i64_w, i32_w]
                 rfl
                exact norm_ (by first | (simp only [putAll, Act.put, List.setIfInBounds_toArray, List.set_cons_zero, List.set_cons_succ]; done) | (simp only [putAll, Act.put, List.setIfInBounds_toArray, List.set_cons_zero, List.set_cons_succ]; rfl)) (hJ2_6_8 (gb274) _ ⟨hHeld, (by (with_reducible repeat (first | refine bN ?_ _ | refine bD ?_ | refine bA ?_ _)); exact BK257.out), (by (with_reducible repeat (first | refine bN ?_ _ | refine bD ?_ | refine bA ?_ _)); exact BK258.out), (by (with_reducible repeat (first | refine bN ?_ _ | refine bD ?_ | refine bA ?_ _)); exact BK262.out), (by (with_reducible repeat (first | refine bN ?_ _ | refine bD ?_ | refine bA ?_ _)); exact BK266.out), (by (with_reducible repeat (first | refine bN ?_ _ | refine bD ?_ | refine bA ?_ _)); exact BK274.out), GW274.out, GE274.out, NB257_274.out, NB274_257.out, NB258_274.out, NB274_258.out, NB262_274.out, NB274_262.out, NB266_274.out, NB274_266.out, (by repeat (first | (with_reducible first | exact HB.out | apply lA | apply lN | apply lD | refine lS ?_ GE257.out | refine lS ?_ GE258.out | refine lS ?_ GE262.out | refine lS ?_ GE266.out | refine lS ?_ GE274.out) | exact HB.out))⟩)
               ·skip
                refine box_step ?hg (N := 11) ?hd (cs := #[.int .u64 0, .int .u64 0, .int .u64 0]) (t := 49) ?hr ?_; (case hd => rfl); (case hg => rfl); (case hr => first | (go_simp; done) | (go_simp; rfl))
                intro gb273 hg w47 hbox hb
                have n0_ := Aside0.mk (bB (g := gb257) (o := .cells #[.int .u64 a0_0, .int .u64 a0_1] 38 (0, 0)) (by (with_reducible repeat (first | refine bN ?_ _ | refine bD ?_ | refine bA ?_ _)); exact BK257.out) hb)
                have n1_ := Aside0.mk (bB (g := gb258) (o := .cells #[.int .u64 a1_0, .int .u64 a1_1] 38 (0, 0)) (by (with_reducible repeat (first | refine bN ?_ _ | refine bD ?_ | refine bA ?_ _)); exact BK258.out) hb)
                have n2_ := Aside0.mk (bB (g := gb262) (o := .cells #[.int .u64 t259, .int .u64 t260] 38 (0, 0)) (by (with_reducible repeat (first | refine bN ?_ _ | refine bD ?_ | refine bA ?_ _)); exact BK262.out) hb)
                have n3_ := Aside0.mk (bB (g := gb266) (o := .cells #[.int .u64 t263, .int .u64 t264] 38 (0, 0)) (by (with_reducible repeat (first | refine bN ?_ _ | refine bD ?_ | refine bA ?_ _)); exact BK266.out) hb)
                have n4_ := Aside0.mk (bB (g := gb274) (o := .cells #[.int .u64 0, .int .u64 0, .int .u64 0] 49 (0, 0)) (by (with_reducible repeat (first | refine bN ?_ _ | refine bD ?_ | refine bA ?_ _)); exact BK274.out) hb)
                have n5_ := Aside0.mk (lP (by repeat (first | (with_reducible first | exact HB.out | apply lA | apply lN | apply lD | refine lS ?_ GE257.out | refine lS ?_ GE258.out | refine lS ?_ GE262.out | refine lS ?_ GE266.out | refine lS ?_ GE274.out) | exact HB.out)) hb)
                have n6_ := Aside0.mk (hbox)
                have n7_ := Aside0.mk ((by rw [hg]; exact (lZ (by repeat (first | (with_reducible first | exact HB.out | apply lA | apply lN | apply lD | refine lS ?_ GE257.out | refine lS ?_ GE258.out | refine lS ?_ GE262.out | refine lS ?_ GE266.out | refine lS ?_ GE274.out) | exact HB.out))) : w.heap.size ≤ gb273))
                have n8_ := Aside0.mk ((by rw [hg]; exact (lZ (by repeat (first | (with_reducible first | exact HB.out | apply lA | apply lN | apply lD | refine lS ?_ GE257.out | refine lS ?_ GE258.out | refine lS ?_ GE262.out | refine lS ?_ GE266.out | refine lS ?_ GE274.out) | exact HB.out))) : w.heap.size ≤ gb273))
                have n9_ := Aside0.mk ((by rw [hg]; exact Nat.ne_of_lt (bL (g := gb257) (o := .cells #[.int .u64 a0_0, .int .u64 a0_1] 38 (0, 0)) (by (with_reducible repeat (first | refine bN ?_ _ | refine bD ?_ | refine bA ?_ _)); exact BK257.out)) : gb257 ≠ gb273))
                have n10_ := Aside0.mk ((by rw [hg]; exact Nat.ne_of_gt (bL (g := gb257) (o := .cells #[.int .u64 a0_0, .int .u64 a0_1] 38 (0, 0)) (by (with_reducible repeat (first | refine bN ?_ _ | refine bD ?_ | refine bA ?_ _)); exact BK257.out)) : gb273 ≠ gb257))
                have n11_ := Aside0.mk ((by rw [hg]; exact Nat.ne_of_lt (bL (g := gb258) (o := .cells #[.int .u64 a1_0, .int .u64 a1_1] 38 (0, 0)) (by (with_reducible repeat (first | refine bN ?_ _ | refine bD ?_ | refine bA ?_ _)); exact BK258.out)) : gb258 ≠ gb273))
                have n12_ := Aside0.mk ((by rw [hg]; exact Nat.ne_of_gt (bL (g := gb258) (o := .cells #[.int .u64 a1_0, .int .u64 a1_1] 38 (0, 0)) (by (with_reducible repeat (first | refine bN ?_ _ | refine bD ?_ | refine bA ?_ _)); exact BK258.out)) : gb273 ≠ gb258))
                have n13_ := Aside0.mk ((by rw [hg]; exact Nat.ne_of_lt (bL (g := gb262) (o := .cells #[.int .u64 t259, .int .u64 t260] 38 (0, 0)) (by (with_reducible repeat (first | refine bN ?_ _ | refine bD ?_ | refine bA ?_ _)); exact BK262.out)) : gb262 ≠ gb273))
                have n14_ := Aside0.mk ((by rw [hg]; exact Nat.ne_of_gt (bL (g := gb262) (o := .cells #[.int .u64 t259, .int .u64 t260] 38 (0, 0)) (by (with_reducible repeat (first | refine bN ?_ _ | refine bD ?_ | refine bA ?_ _)); exact BK262.out)) : gb273 ≠ gb262))
                have n15_ := Aside0.mk ((by rw [hg]; exact Nat.ne_of_lt (bL (g := gb266) (o := .cells #[.int .u64 t263, .int .u64 t264] 38 (0, 0)) (by (with_reducible repeat (first | refine bN ?_ _ | refine bD ?_ | refine bA ?_ _)); exact BK266.out)) : gb266 ≠ gb273))
                have n16_ := Aside0.mk ((by rw [hg]; exact Nat.ne_of_gt (bL (g := gb266) (o := .cells #[.int .u64 t263, .int .u64 t264] 38 (0, 0)) (by (with_reducible repeat (first | refine bN ?_ _ | refine bD ?_ | refine bA ?_ _)); exact BK266.out)) : gb273 ≠ gb266))
                have n17_ := Aside0.mk ((by rw [hg]; exact Nat.ne_of_lt (bL (g := gb274) (o := .cells #[.int .u64 0, .int .u64 0, .int .u64 0] 49 (0, 0)) (by (with_reducible repeat (first | refine bN ?_ _ | refine bD ?_ | refine bA ?_ _)); exact BK274.out)) : gb274 ≠ gb273))
                have n18_ := Aside0.mk ((by rw [hg]; exact Nat.ne_of_gt (bL (g := gb274) (o := .cells #[.int .u64 0, .int .u64 0, .int .u64 0] 49 (0, 0)) (by (with_reducible repeat (first | refine bN ?_ _ | refine bD ?_ | refine bA ?_ _)); exact BK274.out)) : gb273 ≠ gb274))
                clear BK257 BK258 BK262 BK266 BK274 HB
                have BK257 := n0_; have BK258 := n1_; have BK262 := n2_; have BK266 := n3_; have BK274 := n4_; have HB := n5_; have BK273 := n6_; have GW273 := n7_; have GE273 := n8_; have NB257_273 := n9_; have NB273_257 := n10_; have NB258_273 := n11_; have NB273_258 := n12_; have NB262_273 := n13_; have NB273_262 := n14_; have NB266_273 := n15_; have NB273_266 := n16_; have NB274_273 := n17_; have NB273_274 := n18_
                clear n0_ n1_ n2_ n3_ n4_ n5_ n6_ n7_ n8_ n9_ n10_ n11_ n12_ n13_ n14_ n15_ n16_ n17_ n18_ hb hbox hg
                refine hK.out _ _ ⟨(bC BK257.out 0).trans rfl, (bC BK257.out 1).trans rfl, (bC BK258.out 0).trans rfl, (bC BK258.out 1).trans rfl⟩ (fun hHeld => ?_)
                clear hK K
                refine norm_ (a' := ?_) ?_ ?_
                rotate_left
                ·show Act.put _ (some 11) _ = _
                 simp only [Act.put, List.setIfInBounds_toArray, List.set_cons_zero, List.set_cons_succ, i64_w, i32_w]
                 rfl
                exact norm_ (by first | (simp only [putAll, Act.put, List.setIfInBounds_toArray, List.set_cons_zero, List.set_cons_succ]; done) | (simp only [putAll, Act.put, List.setIfInBounds_toArray, List.set_cons_zero, List.set_cons_succ]; rfl)) (hJ2_7_8 (gb273, gb274) _ ⟨hHeld, (by (with_reducible repeat (first | refine bN ?_ _ | refine bD ?_ | refine bA ?_ _)); exact BK257.out), (by (with_reducible repeat (first | refine bN ?_ _ | refine bD ?_ | refine bA ?_ _)); exact BK258.out), (by (with_reducible repeat (first | refine bN ?_ _ | refine bD ?_ | refine bA ?_ _)); exact BK262.out), (by (with_reducible repeat (first | refine bN ?_ _ | refine bD ?_ | refine bA ?_ _)); exact BK266.out), (by (with_reducible repeat (first | refine bN ?_ _ | refine bD ?_ | refine bA ?_ _)); exact BK273.out), (by (with_reducible repeat (first | refine bN ?_ _ | refine bD ?_ | refine bA ?_ _)); exact BK274.out), GW273.out, GE273.out, NB257_273.out, NB273_257.out, NB258_273.out, NB273_258.out, NB262_273.out, NB273_262.out, NB266_273.out, NB273_266.out, NB274_273.out, NB273_274.out, GW274.out, GE274.out, NB257_274.out, NB274_257.out, NB258_274.out, NB274_258.out, NB262_274.out, NB274_262.out, NB266_274.out, NB274_266.out, (by repeat (first | (with_reducible first | exact HB.out | apply lA | apply lN | apply lD | refine lS ?_ GE257.out | refine lS ?_ GE258.out | refine lS ?_ GE262.out | refine lS ?_ GE266.out | refine lS ?_ GE274.out | refine lS ?_ GE273.out) | exact HB.out))⟩)
             ·skip
              rintro gb273 w46 ⟨hS_, h0_, h1_, h2_, h3_, h4_, h5_, h6_, h7_, h8_, h9_, h10_, h11_, h12_, h13_, h14_, h15_⟩
              have n0_ : Aside0 (w46.heap[gb257]? = some (.cells #[.int .u64 a0_0, .int .u64 a0_1] 38 (0, 0))) := ⟨h0_⟩
              have n1_ : Aside0 (w46.heap[gb258]? = some (.cells #[.int .u64 a1_0, .int .u64 a1_1] 38 (0, 0))) := ⟨h1_⟩
              have n2_ : Aside0 (w46.heap[gb262]? = some (.cells #[.int .u64 t259, .int .u64 t260] 38 (0, 0))) := ⟨h2_⟩
              have n3_ : Aside0 (w46.heap[gb266]? = some (.cells #[.int .u64 t263, .int .u64 t264] 38 (0, 0))) := ⟨h3_⟩
              have n4_ : Aside0 (w46.heap[gb273]? = some (.cells #[.int .u64 0, .int .u64 0, .int .u64 0] 49 (0, 0))) := ⟨h4_⟩
              have n5_ : Aside0 (w.heap.size ≤ gb273) := ⟨h5_⟩
              have n6_ : Aside0 (w.heap.size ≤ gb273) := ⟨h6_⟩
              have n7_ : Aside0 (gb257 ≠ gb273) := ⟨h7_⟩
              have n8_ : Aside0 (gb273 ≠ gb257) := ⟨h8_⟩
              have n9_ : Aside0 (gb258 ≠ gb273) := ⟨h9_⟩
              have n10_ : Aside0 (gb273 ≠ gb258) := ⟨h10_⟩
              have n11_ : Aside0 (gb262 ≠ gb273) := ⟨h11_⟩
              have n12_ : Aside0 (gb273 ≠ gb262) := ⟨h12_⟩
              have n13_ : Aside0 (gb266 ≠ gb273) := ⟨h13_⟩
              have n14_ : Aside0 (gb273 ≠ gb266) := ⟨h14_⟩
              have n15_ : Aside0 (Below w.heap.size w w46) := ⟨h15_⟩
              clear BK257 BK258 BK262 BK266 HB h0_ h1_ h2_ h3_ h4_ h5_ h6_ h7_ h8_ h9_ h10_ h11_ h12_ h13_ h14_ h15_
              have BK257 := n0_; have BK258 := n1_; have BK262 := n2_; have BK266 := n3_; have BK273 := n4_; have GW273 := n5_; have GE273 := n6_; have NB257_273 := n7_; have NB273_257 := n8_; have NB258_273 := n9_; have NB273_258 := n10_; have NB262_273 := n11_; have NB273_262 := n12_; have NB266_273 := n13_; have NB273_266 := n14_; have HB := n15_
              clear n0_ n1_ n2_ n3_ n4_ n5_ n6_ n7_ n8_ n9_ n10_ n11_ n12_ n13_ n14_ n15_
              have hHeld : w46.cell? ⟨gb257, 0, none⟩ = some (.int .u64 a0_0) ∧ w46.cell? ⟨gb257, 1, none⟩ = some (.int .u64 a0_1) ∧ w46.cell? ⟨gb258, 0, none⟩ = some (.int .u64 a1_0) ∧ w46.cell? ⟨gb258, 1, none⟩ = some (.int .u64 a1_1) := hS_
              refine norm_ (a' := ?_) ?_ ?_
              rotate_left
              ·simp only [putAll, Act.put, List.setIfInBounds_toArray, List.set_cons_zero, List.set_cons_succ]
               rfl
              refine two_ (i := 6) (j := 8) (Ni := some 31) (Nj := some 12) #[true, true, true, true, true, true, true, true, false, false, false] #[true, true, true, true, true, true, false, true, true, false, false] rfl rfl rfl rfl (two_of HT_.out (by kernel_rfl)) (by decide) (by decide) (fun K hK => ?_) (fun K hK => ?_)
              ·skip
               refine goes_ Try.func30 (by kernel_rfl) rfl #[.agg #[.int .u64 a1_0, .int .u64 a1_1], .int .u64 a0_1] (by rfl) rfl rfl (by (try simp only [List.map_toArray, List.map_cons, List.map_nil]); first | done | rfl | (simp only [List.length_drop, List.length_take]; rfl)) ?_
               with_reducible refine (prod_Times.calls a1_0 a1_1 a0_1 t270 t271 t272 _ A7.out).mono ?_
               rintro e w47 ⟨rfl, hb⟩
               refine ⟨_, rfl, ?_⟩
               have n0_ := Aside0.mk (bB (g := gb257) (o := .cells #[.int .u64 a0_0, .int .u64 a0_1] 38 (0, 0)) (by (with_reducible repeat (first | refine bN ?_ _ | refine bD ?_ | refine bA ?_ _)); exact BK257.out) hb)
               have n1_ := Aside0.mk (bB (g := gb258) (o := .cells #[.int .u64 a1_0, .int .u64 a1_1] 38 (0, 0)) (by (with_reducible repeat (first | refine bN ?_ _ | refine bD ?_ | refine bA ?_ _)); exact BK258.out) hb)
               have n2_ := Aside0.mk (bB (g := gb262) (o := .cells #[.int .u64 t259, .int .u64 t260] 38 (0, 0)) (by (with_reducible repeat (first | refine bN ?_ _ | refine bD ?_ | refine bA ?_ _)); exact BK262.out) hb)
               have n3_ := Aside0.mk (bB (g := gb266) (o := .cells #[.int .u64 t263, .int .u64 t264] 38 (0, 0)) (by (with_reducible repeat (first | refine bN ?_ _ | refine bD ?_ | refine bA ?_ _)); exact BK266.out) hb)
               have n4_ := Aside0.mk (bB (g := gb273) (o := .cells #[.int .u64 0, .int .u64 0, .int .u64 0] 49 (0, 0)) (by (with_reducible repeat (first | refine bN ?_ _ | refine bD ?_ | refine bA ?_ _)); exact BK273.out) hb)
               have n5_ := Aside0.mk (lP (by repeat (first | (with_reducible first | exact HB.out | apply lA | apply lN | apply lD | refine lS ?_ GE257.out | refine lS ?_ GE258.out | refine lS ?_ GE262.out | refine lS ?_ GE266.out | refine lS ?_ GE273.out) | exact HB.out)) hb)
               clear BK257 BK258 BK262 BK266 BK273 HB
               have BK257 := n0_; have BK258 := n1_; have BK262 := n2_; have BK266 := n3_; have BK273 := n4_; have HB := n5_
               clear n0_ n1_ n2_ n3_ n4_ n5_
               (try clear hb)
               (try clear hb2)
               (try clear hk)
               (try clear hi)
               refine hK.out _ _ ⟨(bC BK257.out 0).trans rfl, (bC BK257.out 1).trans rfl, (bC BK258.out 0).trans rfl, (bC BK258.out 1).trans rfl⟩ (fun hHeld => ?_)
               clear hK K
               refine norm_ (a' := ?_) ?_ ?_
               rotate_left
               ·show Act.put _ (some 31) _ = _
                simp only [Act.put, List.setIfInBounds_toArray, List.set_cons_zero, List.set_cons_succ, i64_w, i32_w]
                rfl
               exact norm_ (by first | (simp only [putAll, Act.put, List.setIfInBounds_toArray, List.set_cons_zero, List.set_cons_succ]; done) | (simp only [putAll, Act.put, List.setIfInBounds_toArray, List.set_cons_zero, List.set_cons_succ]; rfl)) (hJ2_6_7 (gb273) _ ⟨hHeld, (by (with_reducible repeat (first | refine bN ?_ _ | refine bD ?_ | refine bA ?_ _)); exact BK257.out), (by (with_reducible repeat (first | refine bN ?_ _ | refine bD ?_ | refine bA ?_ _)); exact BK258.out), (by (with_reducible repeat (first | refine bN ?_ _ | refine bD ?_ | refine bA ?_ _)); exact BK262.out), (by (with_reducible repeat (first | refine bN ?_ _ | refine bD ?_ | refine bA ?_ _)); exact BK266.out), (by (with_reducible repeat (first | refine bN ?_ _ | refine bD ?_ | refine bA ?_ _)); exact BK273.out), GW273.out, GE273.out, NB257_273.out, NB273_257.out, NB258_273.out, NB273_258.out, NB262_273.out, NB273_262.out, NB266_273.out, NB273_266.out, (by repeat (first | (with_reducible first | exact HB.out | apply lA | apply lN | apply lD | refine lS ?_ GE257.out | refine lS ?_ GE258.out | refine lS ?_ GE262.out | refine lS ?_ GE266.out | refine lS ?_ GE273.out) | exact HB.out))⟩)
              ·skip
               refine box_step ?hg (N := 12) ?hd (cs := #[.int .u64 0, .int .u64 0, .int .u64 0]) (t := 49) ?hr ?_; (case hd => rfl); (case hg => rfl); (case hr => first | (go_simp; done) | (go_simp; rfl))
               intro gb274 hg w47 hbox hb
               have n0_ := Aside0.mk (bB (g := gb257) (o := .cells #[.int .u64 a0_0, .int .u64 a0_1] 38 (0, 0)) (by (with_reducible repeat (first | refine bN ?_ _ | refine bD ?_ | refine bA ?_ _)); exact BK257.out) hb)
               have n1_ := Aside0.mk (bB (g := gb258) (o := .cells #[.int .u64 a1_0, .int .u64 a1_1] 38 (0, 0)) (by (with_reducible repeat (first | refine bN ?_ _ | refine bD ?_ | refine bA ?_ _)); exact BK258.out) hb)
               have n2_ := Aside0.mk (bB (g := gb262) (o := .cells #[.int .u64 t259, .int .u64 t260] 38 (0, 0)) (by (with_reducible repeat (first | refine bN ?_ _ | refine bD ?_ | refine bA ?_ _)); exact BK262.out) hb)
               have n3_ := Aside0.mk (bB (g := gb266) (o := .cells #[.int .u64 t263, .int .u64 t264] 38 (0, 0)) (by (with_reducible repeat (first | refine bN ?_ _ | refine bD ?_ | refine bA ?_ _)); exact BK266.out) hb)
               have n4_ := Aside0.mk (bB (g := gb273) (o := .cells #[.int .u64 0, .int .u64 0, .int .u64 0] 49 (0, 0)) (by (with_reducible repeat (first | refine bN ?_ _ | refine bD ?_ | refine bA ?_ _)); exact BK273.out) hb)
               have n5_ := Aside0.mk (lP (by repeat (first | (with_reducible first | exact HB.out | apply lA | apply lN | apply lD | refine lS ?_ GE257.out | refine lS ?_ GE258.out | refine lS ?_ GE262.out | refine lS ?_ GE266.out | refine lS ?_ GE273.out) | exact HB.out)) hb)
               have n6_ := Aside0.mk (hbox)
               have n7_ := Aside0.mk ((by rw [hg]; exact (lZ (by repeat (first | (with_reducible first | exact HB.out | apply lA | apply lN | apply lD | refine lS ?_ GE257.out | refine lS ?_ GE258.out | refine lS ?_ GE262.out | refine lS ?_ GE266.out | refine lS ?_ GE273.out) | exact HB.out))) : w.heap.size ≤ gb274))
               have n8_ := Aside0.mk ((by rw [hg]; exact (lZ (by repeat (first | (with_reducible first | exact HB.out | apply lA | apply lN | apply lD | refine lS ?_ GE257.out | refine lS ?_ GE258.out | refine lS ?_ GE262.out | refine lS ?_ GE266.out | refine lS ?_ GE273.out) | exact HB.out))) : w.heap.size ≤ gb274))
               have n9_ := Aside0.mk ((by rw [hg]; exact Nat.ne_of_lt (bL (g := gb257) (o := .cells #[.int .u64 a0_0, .int .u64 a0_1] 38 (0, 0)) (by (with_reducible repeat (first | refine bN ?_ _ | refine bD ?_ | refine bA ?_ _)); exact BK257.out)) : gb257 ≠ gb274))
               have n10_ := Aside0.mk ((by rw [hg]; exact Nat.ne_of_gt (bL (g := gb257) (o := .cells #[.int .u64 a0_0, .int .u64 a0_1] 38 (0, 0)) (by (with_reducible repeat (first | refine bN ?_ _ | refine bD ?_ | refine bA ?_ _)); exact BK257.out)) : gb274 ≠ gb257))
               have n11_ := Aside0.mk ((by rw [hg]; exact Nat.ne_of_lt (bL (g := gb258) (o := .cells #[.int .u64 a1_0, .int .u64 a1_1] 38 (0, 0)) (by (with_reducible repeat (first | refine bN ?_ _ | refine bD ?_ | refine bA ?_ _)); exact BK258.out)) : gb258 ≠ gb274))
               have n12_ := Aside0.mk ((by rw [hg]; exact Nat.ne_of_gt (bL (g := gb258) (o := .cells #[.int .u64 a1_0, .int .u64 a1_1] 38 (0, 0)) (by (with_reducible repeat (first | refine bN ?_ _ | refine bD ?_ | refine bA ?_ _)); exact BK258.out)) : gb274 ≠ gb258))
               have n13_ := Aside0.mk ((by rw [hg]; exact Nat.ne_of_lt (bL (g := gb262) (o := .cells #[.int .u64 t259, .int .u64 t260] 38 (0, 0)) (by (with_reducible repeat (first | refine bN ?_ _ | refine bD ?_ | refine bA ?_ _)); exact BK262.out)) : gb262 ≠ gb274))
               have n14_ := Aside0.mk ((by rw [hg]; exact Nat.ne_of_gt (bL (g := gb262) (o := .cells #[.int .u64 t259, .int .u64 t260] 38 (0, 0)) (by (with_reducible repeat (first | refine bN ?_ _ | refine bD ?_ | refine bA ?_ _)); exact BK262.out)) : gb274 ≠ gb262))
               have n15_ := Aside0.mk ((by rw [hg]; exact Nat.ne_of_lt (bL (g := gb266) (o := .cells #[.int .u64 t263, .int .u64 t264] 38 (0, 0)) (by (with_reducible repeat (first | refine bN ?_ _ | refine bD ?_ | refine bA ?_ _)); exact BK266.out)) : gb266 ≠ gb274))
               have n16_ := Aside0.mk ((by rw [hg]; exact Nat.ne_of_gt (bL (g := gb266) (o := .cells #[.int .u64 t263, .int .u64 t264] 38 (0, 0)) (by (with_reducible repeat (first | refine bN ?_ _ | refine bD ?_ | refine bA ?_ _)); exact BK266.out)) : gb274 ≠ gb266))
               have n17_ := Aside0.mk ((by rw [hg]; exact Nat.ne_of_lt (bL (g := gb273) (o := .cells #[.int .u64 0, .int .u64 0, .int .u64 0] 49 (0, 0)) (by (with_reducible repeat (first | refine bN ?_ _ | refine bD ?_ | refine bA ?_ _)); exact BK273.out)) : gb273 ≠ gb274))
               have n18_ := Aside0.mk ((by rw [hg]; exact Nat.ne_of_gt (bL (g := gb273) (o := .cells #[.int .u64 0, .int .u64 0, .int .u64 0] 49 (0, 0)) (by (with_reducible repeat (first | refine bN ?_ _ | refine bD ?_ | refine bA ?_ _)); exact BK273.out)) : gb274 ≠ gb273))
               clear BK257 BK258 BK262 BK266 BK273 HB
               have BK257 := n0_; have BK258 := n1_; have BK262 := n2_; have BK266 := n3_; have BK273 := n4_; have HB := n5_; have BK274 := n6_; have GW274 := n7_; have GE274 := n8_; have NB257_274 := n9_; have NB274_257 := n10_; have NB258_274 := n11_; have NB274_258 := n12_; have NB262_274 := n13_; have NB274_262 := n14_; have NB266_274 := n15_; have NB274_266 := n16_; have NB273_274 := n17_; have NB274_273 := n18_
               clear n0_ n1_ n2_ n3_ n4_ n5_ n6_ n7_ n8_ n9_ n10_ n11_ n12_ n13_ n14_ n15_ n16_ n17_ n18_ hb hbox hg
               refine hK.out _ _ ⟨(bC BK257.out 0).trans rfl, (bC BK257.out 1).trans rfl, (bC BK258.out 0).trans rfl, (bC BK258.out 1).trans rfl⟩ (fun hHeld => ?_)
               clear hK K
               refine norm_ (a' := ?_) ?_ ?_
               rotate_left
               ·show Act.put _ (some 12) _ = _
                simp only [Act.put, List.setIfInBounds_toArray, List.set_cons_zero, List.set_cons_succ, i64_w, i32_w]
                rfl
               exact norm_ (by first | (simp only [putAll, Act.put, List.setIfInBounds_toArray, List.set_cons_zero, List.set_cons_succ]; done) | (simp only [putAll, Act.put, List.setIfInBounds_toArray, List.set_cons_zero, List.set_cons_succ]; rfl)) (hJ2_7_8 (gb273, gb274) _ ⟨hHeld, (by (with_reducible repeat (first | refine bN ?_ _ | refine bD ?_ | refine bA ?_ _)); exact BK257.out), (by (with_reducible repeat (first | refine bN ?_ _ | refine bD ?_ | refine bA ?_ _)); exact BK258.out), (by (with_reducible repeat (first | refine bN ?_ _ | refine bD ?_ | refine bA ?_ _)); exact BK262.out), (by (with_reducible repeat (first | refine bN ?_ _ | refine bD ?_ | refine bA ?_ _)); exact BK266.out), (by (with_reducible repeat (first | refine bN ?_ _ | refine bD ?_ | refine bA ?_ _)); exact BK273.out), (by (with_reducible repeat (first | refine bN ?_ _ | refine bD ?_ | refine bA ?_ _)); exact BK274.out), GW273.out, GE273.out, NB257_273.out, NB273_257.out, NB258_273.out, NB273_258.out, NB262_273.out, NB273_262.out, NB266_273.out, NB273_266.out, NB274_273.out, NB273_274.out, GW274.out, GE274.out, NB257_274.out, NB274_257.out, NB258_274.out, NB274_258.out, NB262_274.out, NB274_262.out, NB266_274.out, NB274_266.out, (by repeat (first | (with_reducible first | exact HB.out | apply lA | apply lN | apply lD | refine lS ?_ GE257.out | refine lS ?_ GE258.out | refine lS ?_ GE262.out | refine lS ?_ GE266.out | refine lS ?_ GE273.out | refine lS ?_ GE274.out) | exact HB.out))⟩)
            ·skip
             rintro _ w46 ⟨hS_, h0_, h1_, h2_, h3_, h4_⟩
             have n0_ : Aside0 (w46.heap[gb257]? = some (.cells #[.int .u64 a0_0, .int .u64 a0_1] 38 (0, 0))) := ⟨h0_⟩
             have n1_ : Aside0 (w46.heap[gb258]? = some (.cells #[.int .u64 a1_0, .int .u64 a1_1] 38 (0, 0))) := ⟨h1_⟩
             have n2_ : Aside0 (w46.heap[gb262]? = some (.cells #[.int .u64 t259, .int .u64 t260] 38 (0, 0))) := ⟨h2_⟩
             have n3_ : Aside0 (w46.heap[gb266]? = some (.cells #[.int .u64 t263, .int .u64 t264] 38 (0, 0))) := ⟨h3_⟩
             have n4_ : Aside0 (Below w.heap.size w w46) := ⟨h4_⟩
             clear BK257 BK258 BK262 BK266 HB h0_ h1_ h2_ h3_ h4_
             have BK257 := n0_; have BK258 := n1_; have BK262 := n2_; have BK266 := n3_; have HB := n4_
             clear n0_ n1_ n2_ n3_ n4_
             have hHeld : w46.cell? ⟨gb257, 0, none⟩ = some (.int .u64 a0_0) ∧ w46.cell? ⟨gb257, 1, none⟩ = some (.int .u64 a0_1) ∧ w46.cell? ⟨gb258, 0, none⟩ = some (.int .u64 a1_0) ∧ w46.cell? ⟨gb258, 1, none⟩ = some (.int .u64 a1_1) := hS_
             refine norm_ (a' := ?_) ?_ ?_
             rotate_left
             ·simp only [putAll, Act.put, List.setIfInBounds_toArray, List.set_cons_zero, List.set_cons_succ]
              rfl
             refine two_ (i := 7) (j := 8) (Ni := some 11) (Nj := some 12) #[true, true, true, true, true, true, true, true, false, false, false] #[true, true, true, true, true, true, true, false, true, false, false] rfl rfl rfl rfl (two_of HT_.out (by kernel_rfl)) (by decide) (by decide) (fun K hK => ?_) (fun K hK => ?_)
             ·skip
              refine box_step ?hg (N := 11) ?hd (cs := #[.int .u64 0, .int .u64 0, .int .u64 0]) (t := 49) ?hr ?_; (case hd => rfl); (case hg => rfl); (case hr => first | (go_simp; done) | (go_simp; rfl))
              intro gb273 hg w47 hbox hb
              have n0_ := Aside0.mk (bB (g := gb257) (o := .cells #[.int .u64 a0_0, .int .u64 a0_1] 38 (0, 0)) (by (with_reducible repeat (first | refine bN ?_ _ | refine bD ?_ | refine bA ?_ _)); exact BK257.out) hb)
              have n1_ := Aside0.mk (bB (g := gb258) (o := .cells #[.int .u64 a1_0, .int .u64 a1_1] 38 (0, 0)) (by (with_reducible repeat (first | refine bN ?_ _ | refine bD ?_ | refine bA ?_ _)); exact BK258.out) hb)
              have n2_ := Aside0.mk (bB (g := gb262) (o := .cells #[.int .u64 t259, .int .u64 t260] 38 (0, 0)) (by (with_reducible repeat (first | refine bN ?_ _ | refine bD ?_ | refine bA ?_ _)); exact BK262.out) hb)
              have n3_ := Aside0.mk (bB (g := gb266) (o := .cells #[.int .u64 t263, .int .u64 t264] 38 (0, 0)) (by (with_reducible repeat (first | refine bN ?_ _ | refine bD ?_ | refine bA ?_ _)); exact BK266.out) hb)
              have n4_ := Aside0.mk (lP (by repeat (first | (with_reducible first | exact HB.out | apply lA | apply lN | apply lD | refine lS ?_ GE257.out | refine lS ?_ GE258.out | refine lS ?_ GE262.out | refine lS ?_ GE266.out) | exact HB.out)) hb)
              have n5_ := Aside0.mk (hbox)
              have n6_ := Aside0.mk ((by rw [hg]; exact (lZ (by repeat (first | (with_reducible first | exact HB.out | apply lA | apply lN | apply lD | refine lS ?_ GE257.out | refine lS ?_ GE258.out | refine lS ?_ GE262.out | refine lS ?_ GE266.out) | exact HB.out))) : w.heap.size ≤ gb273))
              have n7_ := Aside0.mk ((by rw [hg]; exact (lZ (by repeat (first | (with_reducible first | exact HB.out | apply lA | apply lN | apply lD | refine lS ?_ GE257.out | refine lS ?_ GE258.out | refine lS ?_ GE262.out | refine lS ?_ GE266.out) | exact HB.out))) : w.heap.size ≤ gb273))
              have n8_ := Aside0.mk ((by rw [hg]; exact Nat.ne_of_lt (bL (g := gb257) (o := .cells #[.int .u64 a0_0, .int .u64 a0_1] 38 (0, 0)) (by (with_reducible repeat (first | refine bN ?_ _ | refine bD ?_ | refine bA ?_ _)); exact BK257.out)) : gb257 ≠ gb273))
              have n9_ := Aside0.mk ((by rw [hg]; exact Nat.ne_of_gt (bL (g := gb257) (o := .cells #[.int .u64 a0_0, .int .u64 a0_1] 38 (0, 0)) (by (with_reducible repeat (first | refine bN ?_ _ | refine bD ?_ | refine bA ?_ _)); exact BK257.out)) : gb273 ≠ gb257))
              have n10_ := Aside0.mk ((by rw [hg]; exact Nat.ne_of_lt (bL (g := gb258) (o := .cells #[.int .u64 a1_0, .int .u64 a1_1] 38 (0, 0)) (by (with_reducible repeat (first | refine bN ?_ _ | refine bD ?_ | refine bA ?_ _)); exact BK258.out)) : gb258 ≠ gb273))
              have n11_ := Aside0.mk ((by rw [hg]; exact Nat.ne_of_gt (bL (g := gb258) (o := .cells #[.int .u64 a1_0, .int .u64 a1_1] 38 (0, 0)) (by (with_reducible repeat (first | refine bN ?_ _ | refine bD ?_ | refine bA ?_ _)); exact BK258.out)) : gb273 ≠ gb258))
              have n12_ := Aside0.mk ((by rw [hg]; exact Nat.ne_of_lt (bL (g := gb262) (o := .cells #[.int .u64 t259, .int .u64 t260] 38 (0, 0)) (by (with_reducible repeat (first | refine bN ?_ _ | refine bD ?_ | refine bA ?_ _)); exact BK262.out)) : gb262 ≠ gb273))
              have n13_ := Aside0.mk ((by rw [hg]; exact Nat.ne_of_gt (bL (g := gb262) (o := .cells #[.int .u64 t259, .int .u64 t260] 38 (0, 0)) (by (with_reducible repeat (first | refine bN ?_ _ | refine bD ?_ | refine bA ?_ _)); exact BK262.out)) : gb273 ≠ gb262))
              have n14_ := Aside0.mk ((by rw [hg]; exact Nat.ne_of_lt (bL (g := gb266) (o := .cells #[.int .u64 t263, .int .u64 t264] 38 (0, 0)) (by (with_reducible repeat (first | refine bN ?_ _ | refine bD ?_ | refine bA ?_ _)); exact BK266.out)) : gb266 ≠ gb273))
              have n15_ := Aside0.mk ((by rw [hg]; exact Nat.ne_of_gt (bL (g := gb266) (o := .cells #[.int .u64 t263, .int .u64 t264] 38 (0, 0)) (by (with_reducible repeat (first | refine bN ?_ _ | refine bD ?_ | refine bA ?_ _)); exact BK266.out)) : gb273 ≠ gb266))
              clear BK257 BK258 BK262 BK266 HB
              have BK257 := n0_; have BK258 := n1_; have BK262 := n2_; have BK266 := n3_; have HB := n4_; have BK273 := n5_; have GW273 := n6_; have GE273 := n7_; have NB257_273 := n8_; have NB273_257 := n9_; have NB258_273 := n10_; have NB273_258 := n11_; have NB262_273 := n12_; have NB273_262 := n13_; have NB266_273 := n14_; have NB273_266 := n15_
              clear n0_ n1_ n2_ n3_ n4_ n5_ n6_ n7_ n8_ n9_ n10_ n11_ n12_ n13_ n14_ n15_ hb hbox hg
              refine hK.out _ _ ⟨(bC BK257.out 0).trans rfl, (bC BK257.out 1).trans rfl, (bC BK258.out 0).trans rfl, (bC BK258.out 1).trans rfl⟩ (fun hHeld => ?_)
              clear hK K
              refine norm_ (a' := ?_) ?_ ?_
              rotate_left
              ·show Act.put _ (some 11) _ = _
               simp only [Act.put, List.setIfInBounds_toArray, List.set_cons_zero, List.set_cons_succ, i64_w, i32_w]
               rfl
              exact norm_ (by first | (simp only [putAll, Act.put, List.setIfInBounds_toArray, List.set_cons_zero, List.set_cons_succ]; done) | (simp only [putAll, Act.put, List.setIfInBounds_toArray, List.set_cons_zero, List.set_cons_succ]; rfl)) (hJ2_6_7 (gb273) _ ⟨hHeld, (by (with_reducible repeat (first | refine bN ?_ _ | refine bD ?_ | refine bA ?_ _)); exact BK257.out), (by (with_reducible repeat (first | refine bN ?_ _ | refine bD ?_ | refine bA ?_ _)); exact BK258.out), (by (with_reducible repeat (first | refine bN ?_ _ | refine bD ?_ | refine bA ?_ _)); exact BK262.out), (by (with_reducible repeat (first | refine bN ?_ _ | refine bD ?_ | refine bA ?_ _)); exact BK266.out), (by (with_reducible repeat (first | refine bN ?_ _ | refine bD ?_ | refine bA ?_ _)); exact BK273.out), GW273.out, GE273.out, NB257_273.out, NB273_257.out, NB258_273.out, NB273_258.out, NB262_273.out, NB273_262.out, NB266_273.out, NB273_266.out, (by repeat (first | (with_reducible first | exact HB.out | apply lA | apply lN | apply lD | refine lS ?_ GE257.out | refine lS ?_ GE258.out | refine lS ?_ GE262.out | refine lS ?_ GE266.out | refine lS ?_ GE273.out) | exact HB.out))⟩)
             ·skip
              refine box_step ?hg (N := 12) ?hd (cs := #[.int .u64 0, .int .u64 0, .int .u64 0]) (t := 49) ?hr ?_; (case hd => rfl); (case hg => rfl); (case hr => first | (go_simp; done) | (go_simp; rfl))
              intro gb274 hg w47 hbox hb
              have n0_ := Aside0.mk (bB (g := gb257) (o := .cells #[.int .u64 a0_0, .int .u64 a0_1] 38 (0, 0)) (by (with_reducible repeat (first | refine bN ?_ _ | refine bD ?_ | refine bA ?_ _)); exact BK257.out) hb)
              have n1_ := Aside0.mk (bB (g := gb258) (o := .cells #[.int .u64 a1_0, .int .u64 a1_1] 38 (0, 0)) (by (with_reducible repeat (first | refine bN ?_ _ | refine bD ?_ | refine bA ?_ _)); exact BK258.out) hb)
              have n2_ := Aside0.mk (bB (g := gb262) (o := .cells #[.int .u64 t259, .int .u64 t260] 38 (0, 0)) (by (with_reducible repeat (first | refine bN ?_ _ | refine bD ?_ | refine bA ?_ _)); exact BK262.out) hb)
              have n3_ := Aside0.mk (bB (g := gb266) (o := .cells #[.int .u64 t263, .int .u64 t264] 38 (0, 0)) (by (with_reducible repeat (first | refine bN ?_ _ | refine bD ?_ | refine bA ?_ _)); exact BK266.out) hb)
              have n4_ := Aside0.mk (lP (by repeat (first | (with_reducible first | exact HB.out | apply lA | apply lN | apply lD | refine lS ?_ GE257.out | refine lS ?_ GE258.out | refine lS ?_ GE262.out | refine lS ?_ GE266.out) | exact HB.out)) hb)
              have n5_ := Aside0.mk (hbox)
              have n6_ := Aside0.mk ((by rw [hg]; exact (lZ (by repeat (first | (with_reducible first | exact HB.out | apply lA | apply lN | apply lD | refine lS ?_ GE257.out | refine lS ?_ GE258.out | refine lS ?_ GE262.out | refine lS ?_ GE266.out) | exact HB.out))) : w.heap.size ≤ gb274))
              have n7_ := Aside0.mk ((by rw [hg]; exact (lZ (by repeat (first | (with_reducible first | exact HB.out | apply lA | apply lN | apply lD | refine lS ?_ GE257.out | refine lS ?_ GE258.out | refine lS ?_ GE262.out | refine lS ?_ GE266.out) | exact HB.out))) : w.heap.size ≤ gb274))
              have n8_ := Aside0.mk ((by rw [hg]; exact Nat.ne_of_lt (bL (g := gb257) (o := .cells #[.int .u64 a0_0, .int .u64 a0_1] 38 (0, 0)) (by (with_reducible repeat (first | refine bN ?_ _ | refine bD ?_ | refine bA ?_ _)); exact BK257.out)) : gb257 ≠ gb274))
              have n9_ := Aside0.mk ((by rw [hg]; exact Nat.ne_of_gt (bL (g := gb257) (o := .cells #[.int .u64 a0_0, .int .u64 a0_1] 38 (0, 0)) (by (with_reducible repeat (first | refine bN ?_ _ | refine bD ?_ | refine bA ?_ _)); exact BK257.out)) : gb274 ≠ gb257))
              have n10_ := Aside0.mk ((by rw [hg]; exact Nat.ne_of_lt (bL (g := gb258) (o := .cells #[.int .u64 a1_0, .int .u64 a1_1] 38 (0, 0)) (by (with_reducible repeat (first | refine bN ?_ _ | refine bD ?_ | refine bA ?_ _)); exact BK258.out)) : gb258 ≠ gb274))
              have n11_ := Aside0.mk ((by rw [hg]; exact Nat.ne_of_gt (bL (g := gb258) (o := .cells #[.int .u64 a1_0, .int .u64 a1_1] 38 (0, 0)) (by (with_reducible repeat (first | refine bN ?_ _ | refine bD ?_ | refine bA ?_ _)); exact BK258.out)) : gb274 ≠ gb258))
              have n12_ := Aside0.mk ((by rw [hg]; exact Nat.ne_of_lt (bL (g := gb262) (o := .cells #[.int .u64 t259, .int .u64 t260] 38 (0, 0)) (by (with_reducible repeat (first | refine bN ?_ _ | refine bD ?_ | refine bA ?_ _)); exact BK262.out)) : gb262 ≠ gb274))
              have n13_ := Aside0.mk ((by rw [hg]; exact Nat.ne_of_gt (bL (g := gb262) (o := .cells #[.int .u64 t259, .int .u64 t260] 38 (0, 0)) (by (with_reducible repeat (first | refine bN ?_ _ | refine bD ?_ | refine bA ?_ _)); exact BK262.out)) : gb274 ≠ gb262))
              have n14_ := Aside0.mk ((by rw [hg]; exact Nat.ne_of_lt (bL (g := gb266) (o := .cells #[.int .u64 t263, .int .u64 t264] 38 (0, 0)) (by (with_reducible repeat (first | refine bN ?_ _ | refine bD ?_ | refine bA ?_ _)); exact BK266.out)) : gb266 ≠ gb274))
              have n15_ := Aside0.mk ((by rw [hg]; exact Nat.ne_of_gt (bL (g := gb266) (o := .cells #[.int .u64 t263, .int .u64 t264] 38 (0, 0)) (by (with_reducible repeat (first | refine bN ?_ _ | refine bD ?_ | refine bA ?_ _)); exact BK266.out)) : gb274 ≠ gb266))
              clear BK257 BK258 BK262 BK266 HB
              have BK257 := n0_; have BK258 := n1_; have BK262 := n2_; have BK266 := n3_; have HB := n4_; have BK274 := n5_; have GW274 := n6_; have GE274 := n7_; have NB257_274 := n8_; have NB274_257 := n9_; have NB258_274 := n10_; have NB274_258 := n11_; have NB262_274 := n12_; have NB274_262 := n13_; have NB266_274 := n14_; have NB274_266 := n15_
              clear n0_ n1_ n2_ n3_ n4_ n5_ n6_ n7_ n8_ n9_ n10_ n11_ n12_ n13_ n14_ n15_ hb hbox hg
              refine hK.out _ _ ⟨(bC BK257.out 0).trans rfl, (bC BK257.out 1).trans rfl, (bC BK258.out 0).trans rfl, (bC BK258.out 1).trans rfl⟩ (fun hHeld => ?_)
              clear hK K
              refine norm_ (a' := ?_) ?_ ?_
              rotate_left
              ·show Act.put _ (some 12) _ = _
               simp only [Act.put, List.setIfInBounds_toArray, List.set_cons_zero, List.set_cons_succ, i64_w, i32_w]
               rfl
              exact norm_ (by first | (simp only [putAll, Act.put, List.setIfInBounds_toArray, List.set_cons_zero, List.set_cons_succ]; done) | (simp only [putAll, Act.put, List.setIfInBounds_toArray, List.set_cons_zero, List.set_cons_succ]; rfl)) (hJ2_6_8 (gb274) _ ⟨hHeld, (by (with_reducible repeat (first | refine bN ?_ _ | refine bD ?_ | refine bA ?_ _)); exact BK257.out), (by (with_reducible repeat (first | refine bN ?_ _ | refine bD ?_ | refine bA ?_ _)); exact BK258.out), (by (with_reducible repeat (first | refine bN ?_ _ | refine bD ?_ | refine bA ?_ _)); exact BK262.out), (by (with_reducible repeat (first | refine bN ?_ _ | refine bD ?_ | refine bA ?_ _)); exact BK266.out), (by (with_reducible repeat (first | refine bN ?_ _ | refine bD ?_ | refine bA ?_ _)); exact BK274.out), GW274.out, GE274.out, NB257_274.out, NB274_257.out, NB258_274.out, NB274_258.out, NB262_274.out, NB274_262.out, NB266_274.out, NB274_266.out, (by repeat (first | (with_reducible first | exact HB.out | apply lA | apply lN | apply lD | refine lS ?_ GE257.out | refine lS ?_ GE258.out | refine lS ?_ GE262.out | refine lS ?_ GE266.out | refine lS ?_ GE274.out) | exact HB.out))⟩)
           ·skip
            rintro ⟨gb273, gb274⟩ w47 ⟨hS_, h0_, h1_, h2_, h3_, h4_, h5_, h6_, h7_, h8_, h9_, h10_, h11_, h12_, h13_, h14_, h15_, h16_, h17_, h18_, h19_, h20_, h21_, h22_, h23_, h24_, h25_, h26_, h27_, h28_⟩
            have n0_ : Aside0 (w47.heap[gb257]? = some (.cells #[.int .u64 a0_0, .int .u64 a0_1] 38 (0, 0))) := ⟨h0_⟩
            have n1_ : Aside0 (w47.heap[gb258]? = some (.cells #[.int .u64 a1_0, .int .u64 a1_1] 38 (0, 0))) := ⟨h1_⟩
            have n2_ : Aside0 (w47.heap[gb262]? = some (.cells #[.int .u64 t259, .int .u64 t260] 38 (0, 0))) := ⟨h2_⟩
            have n3_ : Aside0 (w47.heap[gb266]? = some (.cells #[.int .u64 t263, .int .u64 t264] 38 (0, 0))) := ⟨h3_⟩
            have n4_ : Aside0 (w47.heap[gb273]? = some (.cells #[.int .u64 0, .int .u64 0, .int .u64 0] 49 (0, 0))) := ⟨h4_⟩
            have n5_ : Aside0 (w47.heap[gb274]? = some (.cells #[.int .u64 0, .int .u64 0, .int .u64 0] 49 (0, 0))) := ⟨h5_⟩
            have n6_ : Aside0 (w.heap.size ≤ gb273) := ⟨h6_⟩
            have n7_ : Aside0 (w.heap.size ≤ gb273) := ⟨h7_⟩
            have n8_ : Aside0 (gb257 ≠ gb273) := ⟨h8_⟩
            have n9_ : Aside0 (gb273 ≠ gb257) := ⟨h9_⟩
            have n10_ : Aside0 (gb258 ≠ gb273) := ⟨h10_⟩
            have n11_ : Aside0 (gb273 ≠ gb258) := ⟨h11_⟩
            have n12_ : Aside0 (gb262 ≠ gb273) := ⟨h12_⟩
            have n13_ : Aside0 (gb273 ≠ gb262) := ⟨h13_⟩
            have n14_ : Aside0 (gb266 ≠ gb273) := ⟨h14_⟩
            have n15_ : Aside0 (gb273 ≠ gb266) := ⟨h15_⟩
            have n16_ : Aside0 (gb274 ≠ gb273) := ⟨h16_⟩
            have n17_ : Aside0 (gb273 ≠ gb274) := ⟨h17_⟩
            have n18_ : Aside0 (w.heap.size ≤ gb274) := ⟨h18_⟩
            have n19_ : Aside0 (w.heap.size ≤ gb274) := ⟨h19_⟩
            have n20_ : Aside0 (gb257 ≠ gb274) := ⟨h20_⟩
            have n21_ : Aside0 (gb274 ≠ gb257) := ⟨h21_⟩
            have n22_ : Aside0 (gb258 ≠ gb274) := ⟨h22_⟩
            have n23_ : Aside0 (gb274 ≠ gb258) := ⟨h23_⟩
            have n24_ : Aside0 (gb262 ≠ gb274) := ⟨h24_⟩
            have n25_ : Aside0 (gb274 ≠ gb262) := ⟨h25_⟩
            have n26_ : Aside0 (gb266 ≠ gb274) := ⟨h26_⟩
            have n27_ : Aside0 (gb274 ≠ gb266) := ⟨h27_⟩
            have n28_ : Aside0 (Below w.heap.size w w47) := ⟨h28_⟩
            clear BK257 BK258 BK262 BK266 HB h0_ h1_ h2_ h3_ h4_ h5_ h6_ h7_ h8_ h9_ h10_ h11_ h12_ h13_ h14_ h15_ h16_ h17_ h18_ h19_ h20_ h21_ h22_ h23_ h24_ h25_ h26_ h27_ h28_
            have BK257 := n0_; have BK258 := n1_; have BK262 := n2_; have BK266 := n3_; have BK273 := n4_; have BK274 := n5_; have GW273 := n6_; have GE273 := n7_; have NB257_273 := n8_; have NB273_257 := n9_; have NB258_273 := n10_; have NB273_258 := n11_; have NB262_273 := n12_; have NB273_262 := n13_; have NB266_273 := n14_; have NB273_266 := n15_; have NB274_273 := n16_; have NB273_274 := n17_; have GW274 := n18_; have GE274 := n19_; have NB257_274 := n20_; have NB274_257 := n21_; have NB258_274 := n22_; have NB274_258 := n23_; have NB262_274 := n24_; have NB274_262 := n25_; have NB266_274 := n26_; have NB274_266 := n27_; have HB := n28_
            clear n0_ n1_ n2_ n3_ n4_ n5_ n6_ n7_ n8_ n9_ n10_ n11_ n12_ n13_ n14_ n15_ n16_ n17_ n18_ n19_ n20_ n21_ n22_ n23_ n24_ n25_ n26_ n27_ n28_
            have hHeld : w47.cell? ⟨gb257, 0, none⟩ = some (.int .u64 a0_0) ∧ w47.cell? ⟨gb257, 1, none⟩ = some (.int .u64 a0_1) ∧ w47.cell? ⟨gb258, 0, none⟩ = some (.int .u64 a1_0) ∧ w47.cell? ⟨gb258, 1, none⟩ = some (.int .u64 a1_1) := hS_
            refine norm_ (a' := ?_) ?_ ?_
            rotate_left
            ·simp only [putAll, Act.put, List.setIfInBounds_toArray, List.set_cons_zero, List.set_cons_succ]
             rfl
            refine one_ (i := 6) (N := some 31) #[true, true, true, true, true, true, true, true, true, false, false] rfl rfl (one_of HT_.out (by kernel_rfl)) (by decide) (fun K hK => ?_)
            refine goes_ Try.func30 (by kernel_rfl) rfl #[.agg #[.int .u64 a1_0, .int .u64 a1_1], .int .u64 a0_1] (by rfl) rfl rfl (by (try simp only [List.map_toArray, List.map_cons, List.map_nil]); first | done | rfl | (simp only [List.length_drop, List.length_take]; rfl)) ?_
            with_reducible refine (prod_Times.calls a1_0 a1_1 a0_1 t270 t271 t272 _ A7.out).mono ?_
            rintro e w48 ⟨rfl, hb⟩
            refine ⟨_, rfl, ?_⟩
            have n0_ := Aside0.mk (bB (g := gb257) (o := .cells #[.int .u64 a0_0, .int .u64 a0_1] 38 (0, 0)) (by (with_reducible repeat (first | refine bN ?_ _ | refine bD ?_ | refine bA ?_ _)); exact BK257.out) hb)
            have n1_ := Aside0.mk (bB (g := gb258) (o := .cells #[.int .u64 a1_0, .int .u64 a1_1] 38 (0, 0)) (by (with_reducible repeat (first | refine bN ?_ _ | refine bD ?_ | refine bA ?_ _)); exact BK258.out) hb)
            have n2_ := Aside0.mk (bB (g := gb262) (o := .cells #[.int .u64 t259, .int .u64 t260] 38 (0, 0)) (by (with_reducible repeat (first | refine bN ?_ _ | refine bD ?_ | refine bA ?_ _)); exact BK262.out) hb)
            have n3_ := Aside0.mk (bB (g := gb266) (o := .cells #[.int .u64 t263, .int .u64 t264] 38 (0, 0)) (by (with_reducible repeat (first | refine bN ?_ _ | refine bD ?_ | refine bA ?_ _)); exact BK266.out) hb)
            have n4_ := Aside0.mk (bB (g := gb273) (o := .cells #[.int .u64 0, .int .u64 0, .int .u64 0] 49 (0, 0)) (by (with_reducible repeat (first | refine bN ?_ _ | refine bD ?_ | refine bA ?_ _)); exact BK273.out) hb)
            have n5_ := Aside0.mk (bB (g := gb274) (o := .cells #[.int .u64 0, .int .u64 0, .int .u64 0] 49 (0, 0)) (by (with_reducible repeat (first | refine bN ?_ _ | refine bD ?_ | refine bA ?_ _)); exact BK274.out) hb)
            have n6_ := Aside0.mk (lP (by repeat (first | (with_reducible first | exact HB.out | apply lA | apply lN | apply lD | refine lS ?_ GE257.out | refine lS ?_ GE258.out | refine lS ?_ GE262.out | refine lS ?_ GE266.out | refine lS ?_ GE273.out | refine lS ?_ GE274.out) | exact HB.out)) hb)
            clear BK257 BK258 BK262 BK266 BK273 BK274 HB
            have BK257 := n0_; have BK258 := n1_; have BK262 := n2_; have BK266 := n3_; have BK273 := n4_; have BK274 := n5_; have HB := n6_
            clear n0_ n1_ n2_ n3_ n4_ n5_ n6_
            (try clear hb)
            (try clear hb2)
            (try clear hk)
            (try clear hi)
            refine hK.out _ _ ⟨(bC BK257.out 0).trans rfl, (bC BK257.out 1).trans rfl, (bC BK258.out 0).trans rfl, (bC BK258.out 1).trans rfl⟩ (fun hHeld => ?_)
            clear hK K
            refine norm_ (a' := ?_) ?_ ?_
            rotate_left
            ·show Act.put _ (some 31) _ = _
             simp only [Act.put, List.setIfInBounds_toArray, List.set_cons_zero, List.set_cons_succ, i64_w, i32_w]
             rfl
            exact norm_ (by first | (simp only [putAll, Act.put, List.setIfInBounds_toArray, List.set_cons_zero, List.set_cons_succ]; done) | (simp only [putAll, Act.put, List.setIfInBounds_toArray, List.set_cons_zero, List.set_cons_succ]; rfl)) (hJ2_6_7_8 (gb273, gb274) _ ⟨hHeld, (by (with_reducible repeat (first | refine bN ?_ _ | refine bD ?_ | refine bA ?_ _)); exact BK257.out), (by (with_reducible repeat (first | refine bN ?_ _ | refine bD ?_ | refine bA ?_ _)); exact BK258.out), (by (with_reducible repeat (first | refine bN ?_ _ | refine bD ?_ | refine bA ?_ _)); exact BK262.out), (by (with_reducible repeat (first | refine bN ?_ _ | refine bD ?_ | refine bA ?_ _)); exact BK266.out), (by (with_reducible repeat (first | refine bN ?_ _ | refine bD ?_ | refine bA ?_ _)); exact BK273.out), (by (with_reducible repeat (first | refine bN ?_ _ | refine bD ?_ | refine bA ?_ _)); exact BK274.out), GW273.out, GE273.out, NB257_273.out, NB273_257.out, NB258_273.out, NB273_258.out, NB262_273.out, NB273_262.out, NB266_273.out, NB273_266.out, NB274_273.out, NB273_274.out, GW274.out, GE274.out, NB257_274.out, NB274_257.out, NB258_274.out, NB274_258.out, NB262_274.out, NB274_262.out, NB266_274.out, NB274_266.out, (by repeat (first | (with_reducible first | exact HB.out | apply lA | apply lN | apply lD | refine lS ?_ GE257.out | refine lS ?_ GE258.out | refine lS ?_ GE262.out | refine lS ?_ GE266.out | refine lS ?_ GE273.out | refine lS ?_ GE274.out) | exact HB.out))⟩)
          ·skip
           rintro gb274 w47 ⟨hS_, h0_, h1_, h2_, h3_, h4_, h5_, h6_, h7_, h8_, h9_, h10_, h11_, h12_, h13_, h14_, h15_⟩
           have n0_ : Aside0 (w47.heap[gb257]? = some (.cells #[.int .u64 a0_0, .int .u64 a0_1] 38 (0, 0))) := ⟨h0_⟩
           have n1_ : Aside0 (w47.heap[gb258]? = some (.cells #[.int .u64 a1_0, .int .u64 a1_1] 38 (0, 0))) := ⟨h1_⟩
           have n2_ : Aside0 (w47.heap[gb262]? = some (.cells #[.int .u64 t259, .int .u64 t260] 38 (0, 0))) := ⟨h2_⟩
           have n3_ : Aside0 (w47.heap[gb266]? = some (.cells #[.int .u64 t263, .int .u64 t264] 38 (0, 0))) := ⟨h3_⟩
           have n4_ : Aside0 (w47.heap[gb274]? = some (.cells #[.int .u64 0, .int .u64 0, .int .u64 0] 49 (0, 0))) := ⟨h4_⟩
           have n5_ : Aside0 (w.heap.size ≤ gb274) := ⟨h5_⟩
           have n6_ : Aside0 (w.heap.size ≤ gb274) := ⟨h6_⟩
           have n7_ : Aside0 (gb257 ≠ gb274) := ⟨h7_⟩
           have n8_ : Aside0 (gb274 ≠ gb257) := ⟨h8_⟩
           have n9_ : Aside0 (gb258 ≠ gb274) := ⟨h9_⟩
           have n10_ : Aside0 (gb274 ≠ gb258) := ⟨h10_⟩
           have n11_ : Aside0 (gb262 ≠ gb274) := ⟨h11_⟩
           have n12_ : Aside0 (gb274 ≠ gb262) := ⟨h12_⟩
           have n13_ : Aside0 (gb266 ≠ gb274) := ⟨h13_⟩
           have n14_ : Aside0 (gb274 ≠ gb266) := ⟨h14_⟩
           have n15_ : Aside0 (Below w.heap.size w w47) := ⟨h15_⟩
           clear BK257 BK258 BK262 BK266 HB h0_ h1_ h2_ h3_ h4_ h5_ h6_ h7_ h8_ h9_ h10_ h11_ h12_ h13_ h14_ h15_
           have BK257 := n0_; have BK258 := n1_; have BK262 := n2_; have BK266 := n3_; have BK274 := n4_; have GW274 := n5_; have GE274 := n6_; have NB257_274 := n7_; have NB274_257 := n8_; have NB258_274 := n9_; have NB274_258 := n10_; have NB262_274 := n11_; have NB274_262 := n12_; have NB266_274 := n13_; have NB274_266 := n14_; have HB := n15_
           clear n0_ n1_ n2_ n3_ n4_ n5_ n6_ n7_ n8_ n9_ n10_ n11_ n12_ n13_ n14_ n15_
           have hHeld : w47.cell? ⟨gb257, 0, none⟩ = some (.int .u64 a0_0) ∧ w47.cell? ⟨gb257, 1, none⟩ = some (.int .u64 a0_1) ∧ w47.cell? ⟨gb258, 0, none⟩ = some (.int .u64 a1_0) ∧ w47.cell? ⟨gb258, 1, none⟩ = some (.int .u64 a1_1) := hS_
           refine norm_ (a' := ?_) ?_ ?_
           rotate_left
           ·simp only [putAll, Act.put, List.setIfInBounds_toArray, List.set_cons_zero, List.set_cons_succ]
            rfl
           refine one_ (i := 7) (N := some 11) #[true, true, true, true, true, true, true, true, true, false, false] rfl rfl (one_of HT_.out (by kernel_rfl)) (by decide) (fun K hK => ?_)
           refine box_step ?hg (N := 11) ?hd (cs := #[.int .u64 0, .int .u64 0, .int .u64 0]) (t := 49) ?hr ?_; (case hd => rfl); (case hg => rfl); (case hr => first | (go_simp; done) | (go_simp; rfl))
           intro gb273 hg w48 hbox hb
           have n0_ := Aside0.mk (bB (g := gb257) (o := .cells #[.int .u64 a0_0, .int .u64 a0_1] 38 (0, 0)) (by (with_reducible repeat (first | refine bN ?_ _ | refine bD ?_ | refine bA ?_ _)); exact BK257.out) hb)
           have n1_ := Aside0.mk (bB (g := gb258) (o := .cells #[.int .u64 a1_0, .int .u64 a1_1] 38 (0, 0)) (by (with_reducible repeat (first | refine bN ?_ _ | refine bD ?_ | refine bA ?_ _)); exact BK258.out) hb)
           have n2_ := Aside0.mk (bB (g := gb262) (o := .cells #[.int .u64 t259, .int .u64 t260] 38 (0, 0)) (by (with_reducible repeat (first | refine bN ?_ _ | refine bD ?_ | refine bA ?_ _)); exact BK262.out) hb)
           have n3_ := Aside0.mk (bB (g := gb266) (o := .cells #[.int .u64 t263, .int .u64 t264] 38 (0, 0)) (by (with_reducible repeat (first | refine bN ?_ _ | refine bD ?_ | refine bA ?_ _)); exact BK266.out) hb)
           have n4_ := Aside0.mk (bB (g := gb274) (o := .cells #[.int .u64 0, .int .u64 0, .int .u64 0] 49 (0, 0)) (by (with_reducible repeat (first | refine bN ?_ _ | refine bD ?_ | refine bA ?_ _)); exact BK274.out) hb)
           have n5_ := Aside0.mk (lP (by repeat (first | (with_reducible first | exact HB.out | apply lA | apply lN | apply lD | refine lS ?_ GE257.out | refine lS ?_ GE258.out | refine lS ?_ GE262.out | refine lS ?_ GE266.out | refine lS ?_ GE274.out) | exact HB.out)) hb)
           have n6_ := Aside0.mk (hbox)
           have n7_ := Aside0.mk ((by rw [hg]; exact (lZ (by repeat (first | (with_reducible first | exact HB.out | apply lA | apply lN | apply lD | refine lS ?_ GE257.out | refine lS ?_ GE258.out | refine lS ?_ GE262.out | refine lS ?_ GE266.out | refine lS ?_ GE274.out) | exact HB.out))) : w.heap.size ≤ gb273))
           have n8_ := Aside0.mk ((by rw [hg]; exact (lZ (by repeat (first | (with_reducible first | exact HB.out | apply lA | apply lN | apply lD | refine lS ?_ GE257.out | refine lS ?_ GE258.out | refine lS ?_ GE262.out | refine lS ?_ GE266.out | refine lS ?_ GE274.out) | exact HB.out))) : w.heap.size ≤ gb273))
           have n9_ := Aside0.mk ((by rw [hg]; exact Nat.ne_of_lt (bL (g := gb257) (o := .cells #[.int .u64 a0_0, .int .u64 a0_1] 38 (0, 0)) (by (with_reducible repeat (first | refine bN ?_ _ | refine bD ?_ | refine bA ?_ _)); exact BK257.out)) : gb257 ≠ gb273))
           have n10_ := Aside0.mk ((by rw [hg]; exact Nat.ne_of_gt (bL (g := gb257) (o := .cells #[.int .u64 a0_0, .int .u64 a0_1] 38 (0, 0)) (by (with_reducible repeat (first | refine bN ?_ _ | refine bD ?_ | refine bA ?_ _)); exact BK257.out)) : gb273 ≠ gb257))
           have n11_ := Aside0.mk ((by rw [hg]; exact Nat.ne_of_lt (bL (g := gb258) (o := .cells #[.int .u64 a1_0, .int .u64 a1_1] 38 (0, 0)) (by (with_reducible repeat (first | refine bN ?_ _ | refine bD ?_ | refine bA ?_ _)); exact BK258.out)) : gb258 ≠ gb273))
           have n12_ := Aside0.mk ((by rw [hg]; exact Nat.ne_of_gt (bL (g := gb258) (o := .cells #[.int .u64 a1_0, .int .u64 a1_1] 38 (0, 0)) (by (with_reducible repeat (first | refine bN ?_ _ | refine bD ?_ | refine bA ?_ _)); exact BK258.out)) : gb273 ≠ gb258))
           have n13_ := Aside0.mk ((by rw [hg]; exact Nat.ne_of_lt (bL (g := gb262) (o := .cells #[.int .u64 t259, .int .u64 t260] 38 (0, 0)) (by (with_reducible repeat (first | refine bN ?_ _ | refine bD ?_ | refine bA ?_ _)); exact BK262.out)) : gb262 ≠ gb273))
           have n14_ := Aside0.mk ((by rw [hg]; exact Nat.ne_of_gt (bL (g := gb262) (o := .cells #[.int .u64 t259, .int .u64 t260] 38 (0, 0)) (by (with_reducible repeat (first | refine bN ?_ _ | refine bD ?_ | refine bA ?_ _)); exact BK262.out)) : gb273 ≠ gb262))
           have n15_ := Aside0.mk ((by rw [hg]; exact Nat.ne_of_lt (bL (g := gb266) (o := .cells #[.int .u64 t263, .int .u64 t264] 38 (0, 0)) (by (with_reducible repeat (first | refine bN ?_ _ | refine bD ?_ | refine bA ?_ _)); exact BK266.out)) : gb266 ≠ gb273))
           have n16_ := Aside0.mk ((by rw [hg]; exact Nat.ne_of_gt (bL (g := gb266) (o := .cells #[.int .u64 t263, .int .u64 t264] 38 (0, 0)) (by (with_reducible repeat (first | refine bN ?_ _ | refine bD ?_ | refine bA ?_ _)); exact BK266.out)) : gb273 ≠ gb266))
           have n17_ := Aside0.mk ((by rw [hg]; exact Nat.ne_of_lt (bL (g := gb274) (o := .cells #[.int .u64 0, .int .u64 0, .int .u64 0] 49 (0, 0)) (by (with_reducible repeat (first | refine bN ?_ _ | refine bD ?_ | refine bA ?_ _)); exact BK274.out)) : gb274 ≠ gb273))
           have n18_ := Aside0.mk ((by rw [hg]; exact Nat.ne_of_gt (bL (g := gb274) (o := .cells #[.int .u64 0, .int .u64 0, .int .u64 0] 49 (0, 0)) (by (with_reducible repeat (first | refine bN ?_ _ | refine bD ?_ | refine bA ?_ _)); exact BK274.out)) : gb273 ≠ gb274))
           clear BK257 BK258 BK262 BK266 BK274 HB
           have BK257 := n0_; have BK258 := n1_; have BK262 := n2_; have BK266 := n3_; have BK274 := n4_; have HB := n5_; have BK273 := n6_; have GW273 := n7_; have GE273 := n8_; have NB257_273 := n9_; have NB273_257 := n10_; have NB258_273 := n11_; have NB273_258 := n12_; have NB262_273 := n13_; have NB273_262 := n14_; have NB266_273 := n15_; have NB273_266 := n16_; have NB274_273 := n17_; have NB273_274 := n18_
           clear n0_ n1_ n2_ n3_ n4_ n5_ n6_ n7_ n8_ n9_ n10_ n11_ n12_ n13_ n14_ n15_ n16_ n17_ n18_ hb hbox hg
           refine hK.out _ _ ⟨(bC BK257.out 0).trans rfl, (bC BK257.out 1).trans rfl, (bC BK258.out 0).trans rfl, (bC BK258.out 1).trans rfl⟩ (fun hHeld => ?_)
           clear hK K
           refine norm_ (a' := ?_) ?_ ?_
           rotate_left
           ·show Act.put _ (some 11) _ = _
            simp only [Act.put, List.setIfInBounds_toArray, List.set_cons_zero, List.set_cons_succ, i64_w, i32_w]
            rfl
           exact norm_ (by first | (simp only [putAll, Act.put, List.setIfInBounds_toArray, List.set_cons_zero, List.set_cons_succ]; done) | (simp only [putAll, Act.put, List.setIfInBounds_toArray, List.set_cons_zero, List.set_cons_succ]; rfl)) (hJ2_6_7_8 (gb273, gb274) _ ⟨hHeld, (by (with_reducible repeat (first | refine bN ?_ _ | refine bD ?_ | refine bA ?_ _)); exact BK257.out), (by (with_reducible repeat (first | refine bN ?_ _ | refine bD ?_ | refine bA ?_ _)); exact BK258.out), (by (with_reducible repeat (first | refine bN ?_ _ | refine bD ?_ | refine bA ?_ _)); exact BK262.out), (by (with_reducible repeat (first | refine bN ?_ _ | refine bD ?_ | refine bA ?_ _)); exact BK266.out), (by (with_reducible repeat (first | refine bN ?_ _ | refine bD ?_ | refine bA ?_ _)); exact BK273.out), (by (with_reducible repeat (first | refine bN ?_ _ | refine bD ?_ | refine bA ?_ _)); exact BK274.out), GW273.out, GE273.out, NB257_273.out, NB273_257.out, NB258_273.out, NB273_258.out, NB262_273.out, NB273_262.out, NB266_273.out, NB273_266.out, NB274_273.out, NB273_274.out, GW274.out, GE274.out, NB257_274.out, NB274_257.out, NB258_274.out, NB274_258.out, NB262_274.out, NB274_262.out, NB266_274.out, NB274_266.out, (by repeat (first | (with_reducible first | exact HB.out | apply lA | apply lN | apply lD | refine lS ?_ GE257.out | refine lS ?_ GE258.out | refine lS ?_ GE262.out | refine lS ?_ GE266.out | refine lS ?_ GE274.out | refine lS ?_ GE273.out) | exact HB.out))⟩)
         ·skip
          rintro gb273 w47 ⟨hS_, h0_, h1_, h2_, h3_, h4_, h5_, h6_, h7_, h8_, h9_, h10_, h11_, h12_, h13_, h14_, h15_⟩
          have n0_ : Aside0 (w47.heap[gb257]? = some (.cells #[.int .u64 a0_0, .int .u64 a0_1] 38 (0, 0))) := ⟨h0_⟩
          have n1_ : Aside0 (w47.heap[gb258]? = some (.cells #[.int .u64 a1_0, .int .u64 a1_1] 38 (0, 0))) := ⟨h1_⟩
          have n2_ : Aside0 (w47.heap[gb262]? = some (.cells #[.int .u64 t259, .int .u64 t260] 38 (0, 0))) := ⟨h2_⟩
          have n3_ : Aside0 (w47.heap[gb266]? = some (.cells #[.int .u64 t263, .int .u64 t264] 38 (0, 0))) := ⟨h3_⟩
          have n4_ : Aside0 (w47.heap[gb273]? = some (.cells #[.int .u64 0, .int .u64 0, .int .u64 0] 49 (0, 0))) := ⟨h4_⟩
          have n5_ : Aside0 (w.heap.size ≤ gb273) := ⟨h5_⟩
          have n6_ : Aside0 (w.heap.size ≤ gb273) := ⟨h6_⟩
          have n7_ : Aside0 (gb257 ≠ gb273) := ⟨h7_⟩
          have n8_ : Aside0 (gb273 ≠ gb257) := ⟨h8_⟩
          have n9_ : Aside0 (gb258 ≠ gb273) := ⟨h9_⟩
          have n10_ : Aside0 (gb273 ≠ gb258) := ⟨h10_⟩
          have n11_ : Aside0 (gb262 ≠ gb273) := ⟨h11_⟩
          have n12_ : Aside0 (gb273 ≠ gb262) := ⟨h12_⟩
          have n13_ : Aside0 (gb266 ≠ gb273) := ⟨h13_⟩
          have n14_ : Aside0 (gb273 ≠ gb266) := ⟨h14_⟩
          have n15_ : Aside0 (Below w.heap.size w w47) := ⟨h15_⟩
          clear BK257 BK258 BK262 BK266 HB h0_ h1_ h2_ h3_ h4_ h5_ h6_ h7_ h8_ h9_ h10_ h11_ h12_ h13_ h14_ h15_
          have BK257 := n0_; have BK258 := n1_; have BK262 := n2_; have BK266 := n3_; have BK273 := n4_; have GW273 := n5_; have GE273 := n6_; have NB257_273 := n7_; have NB273_257 := n8_; have NB258_273 := n9_; have NB273_258 := n10_; have NB262_273 := n11_; have NB273_262 := n12_; have NB266_273 := n13_; have NB273_266 := n14_; have HB := n15_
          clear n0_ n1_ n2_ n3_ n4_ n5_ n6_ n7_ n8_ n9_ n10_ n11_ n12_ n13_ n14_ n15_
          have hHeld : w47.cell? ⟨gb257, 0, none⟩ = some (.int .u64 a0_0) ∧ w47.cell? ⟨gb257, 1, none⟩ = some (.int .u64 a0_1) ∧ w47.cell? ⟨gb258, 0, none⟩ = some (.int .u64 a1_0) ∧ w47.cell? ⟨gb258, 1, none⟩ = some (.int .u64 a1_1) := hS_
          refine norm_ (a' := ?_) ?_ ?_
          rotate_left
          ·simp only [putAll, Act.put, List.setIfInBounds_toArray, List.set_cons_zero, List.set_cons_succ]
           rfl
          refine one_ (i := 8) (N := some 12) #[true, true, true, true, true, true, true, true, true, false, false] rfl rfl (one_of HT_.out (by kernel_rfl)) (by decide) (fun K hK => ?_)
          refine box_step ?hg (N := 12) ?hd (cs := #[.int .u64 0, .int .u64 0, .int .u64 0]) (t := 49) ?hr ?_; (case hd => rfl); (case hg => rfl); (case hr => first | (go_simp; done) | (go_simp; rfl))
          intro gb274 hg w48 hbox hb
          have n0_ := Aside0.mk (bB (g := gb257) (o := .cells #[.int .u64 a0_0, .int .u64 a0_1] 38 (0, 0)) (by (with_reducible repeat (first | refine bN ?_ _ | refine bD ?_ | refine bA ?_ _)); exact BK257.out) hb)
          have n1_ := Aside0.mk (bB (g := gb258) (o := .cells #[.int .u64 a1_0, .int .u64 a1_1] 38 (0, 0)) (by (with_reducible repeat (first | refine bN ?_ _ | refine bD ?_ | refine bA ?_ _)); exact BK258.out) hb)
          have n2_ := Aside0.mk (bB (g := gb262) (o := .cells #[.int .u64 t259, .int .u64 t260] 38 (0, 0)) (by (with_reducible repeat (first | refine bN ?_ _ | refine bD ?_ | refine bA ?_ _)); exact BK262.out) hb)
          have n3_ := Aside0.mk (bB (g := gb266) (o := .cells #[.int .u64 t263, .int .u64 t264] 38 (0, 0)) (by (with_reducible repeat (first | refine bN ?_ _ | refine bD ?_ | refine bA ?_ _)); exact BK266.out) hb)
          have n4_ := Aside0.mk (bB (g := gb273) (o := .cells #[.int .u64 0, .int .u64 0, .int .u64 0] 49 (0, 0)) (by (with_reducible repeat (first | refine bN ?_ _ | refine bD ?_ | refine bA ?_ _)); exact BK273.out) hb)
          have n5_ := Aside0.mk (lP (by repeat (first | (with_reducible first | exact HB.out | apply lA | apply lN | apply lD | refine lS ?_ GE257.out | refine lS ?_ GE258.out | refine lS ?_ GE262.out | refine lS ?_ GE266.out | refine lS ?_ GE273.out) | exact HB.out)) hb)
          have n6_ := Aside0.mk (hbox)
          have n7_ := Aside0.mk ((by rw [hg]; exact (lZ (by repeat (first | (with_reducible first | exact HB.out | apply lA | apply lN | apply lD | refine lS ?_ GE257.out | refine lS ?_ GE258.out | refine lS ?_ GE262.out | refine lS ?_ GE266.out | refine lS ?_ GE273.out) | exact HB.out))) : w.heap.size ≤ gb274))
          have n8_ := Aside0.mk ((by rw [hg]; exact (lZ (by repeat (first | (with_reducible first | exact HB.out | apply lA | apply lN | apply lD | refine lS ?_ GE257.out | refine lS ?_ GE258.out | refine lS ?_ GE262.out | refine lS ?_ GE266.out | refine lS ?_ GE273.out) | exact HB.out))) : w.heap.size ≤ gb274))
          have n9_ := Aside0.mk ((by rw [hg]; exact Nat.ne_of_lt (bL (g := gb257) (o := .cells #[.int .u64 a0_0, .int .u64 a0_1] 38 (0, 0)) (by (with_reducible repeat (first | refine bN ?_ _ | refine bD ?_ | refine bA ?_ _)); exact BK257.out)) : gb257 ≠ gb274))
          have n10_ := Aside0.mk ((by rw [hg]; exact Nat.ne_of_gt (bL (g := gb257) (o := .cells #[.int .u64 a0_0, .int .u64 a0_1] 38 (0, 0)) (by (with_reducible repeat (first | refine bN ?_ _ | refine bD ?_ | refine bA ?_ _)); exact BK257.out)) : gb274 ≠ gb257))
          have n11_ := Aside0.mk ((by rw [hg]; exact Nat.ne_of_lt (bL (g := gb258) (o := .cells #[.int .u64 a1_0, .int .u64 a1_1] 38 (0, 0)) (by (with_reducible repeat (first | refine bN ?_ _ | refine bD ?_ | refine bA ?_ _)); exact BK258.out)) : gb258 ≠ gb274))
          have n12_ := Aside0.mk ((by rw [hg]; exact Nat.ne_of_gt (bL (g := gb258) (o := .cells #[.int .u64 a1_0, .int .u64 a1_1] 38 (0, 0)) (by (with_reducible repeat (first | refine bN ?_ _ | refine bD ?_ | refine bA ?_ _)); exact BK258.out)) : gb274 ≠ gb258))
          have n13_ := Aside0.mk ((by rw [hg]; exact Nat.ne_of_lt (bL (g := gb262) (o := .cells #[.int .u64 t259, .int .u64 t260] 38 (0, 0)) (by (with_reducible repeat (first | refine bN ?_ _ | refine bD ?_ | refine bA ?_ _)); exact BK262.out)) : gb262 ≠ gb274))
          have n14_ := Aside0.mk ((by rw [hg]; exact Nat.ne_of_gt (bL (g := gb262) (o := .cells #[.int .u64 t259, .int .u64 t260] 38 (0, 0)) (by (with_reducible repeat (first | refine bN ?_ _ | refine bD ?_ | refine bA ?_ _)); exact BK262.out)) : gb274 ≠ gb262))
          have n15_ := Aside0.mk ((by rw [hg]; exact Nat.ne_of_lt (bL (g := gb266) (o := .cells #[.int .u64 t263, .int .u64 t264] 38 (0, 0)) (by (with_reducible repeat (first | refine bN ?_ _ | refine bD ?_ | refine bA ?_ _)); exact BK266.out)) : gb266 ≠ gb274))
          have n16_ := Aside0.mk ((by rw [hg]; exact Nat.ne_of_gt (bL (g := gb266) (o := .cells #[.int .u64 t263, .int .u64 t264] 38 (0, 0)) (by (with_reducible repeat (first | refine bN ?_ _ | refine bD ?_ | refine bA ?_ _)); exact BK266.out)) : gb274 ≠ gb266))
          have n17_ := Aside0.mk ((by rw [hg]; exact Nat.ne_of_lt (bL (g := gb273) (o := .cells #[.int .u64 0, .int .u64 0, .int .u64 0] 49 (0, 0)) (by (with_reducible repeat (first | refine bN ?_ _ | refine bD ?_ | refine bA ?_ _)); exact BK273.out)) : gb273 ≠ gb274))
          have n18_ := Aside0.mk ((by rw [hg]; exact Nat.ne_of_gt (bL (g := gb273) (o := .cells #[.int .u64 0, .int .u64 0, .int .u64 0] 49 (0, 0)) (by (with_reducible repeat (first | refine bN ?_ _ | refine bD ?_ | refine bA ?_ _)); exact BK273.out)) : gb274 ≠ gb273))
          clear BK257 BK258 BK262 BK266 BK273 HB
          have BK257 := n0_; have BK258 := n1_; have BK262 := n2_; have BK266 := n3_; have BK273 := n4_; have HB := n5_; have BK274 := n6_; have GW274 := n7_; have GE274 := n8_; have NB257_274 := n9_; have NB274_257 := n10_; have NB258_274 := n11_; have NB274_258 := n12_; have NB262_274 := n13_; have NB274_262 := n14_; have NB266_274 := n15_; have NB274_266 := n16_; have NB273_274 := n17_; have NB274_273 := n18_
          clear n0_ n1_ n2_ n3_ n4_ n5_ n6_ n7_ n8_ n9_ n10_ n11_ n12_ n13_ n14_ n15_ n16_ n17_ n18_ hb hbox hg
          refine hK.out _ _ ⟨(bC BK257.out 0).trans rfl, (bC BK257.out 1).trans rfl, (bC BK258.out 0).trans rfl, (bC BK258.out 1).trans rfl⟩ (fun hHeld => ?_)
          clear hK K
          refine norm_ (a' := ?_) ?_ ?_
          rotate_left
          ·show Act.put _ (some 12) _ = _
           simp only [Act.put, List.setIfInBounds_toArray, List.set_cons_zero, List.set_cons_succ, i64_w, i32_w]
           rfl
          exact norm_ (by first | (simp only [putAll, Act.put, List.setIfInBounds_toArray, List.set_cons_zero, List.set_cons_succ]; done) | (simp only [putAll, Act.put, List.setIfInBounds_toArray, List.set_cons_zero, List.set_cons_succ]; rfl)) (hJ2_6_7_8 (gb273, gb274) _ ⟨hHeld, (by (with_reducible repeat (first | refine bN ?_ _ | refine bD ?_ | refine bA ?_ _)); exact BK257.out), (by (with_reducible repeat (first | refine bN ?_ _ | refine bD ?_ | refine bA ?_ _)); exact BK258.out), (by (with_reducible repeat (first | refine bN ?_ _ | refine bD ?_ | refine bA ?_ _)); exact BK262.out), (by (with_reducible repeat (first | refine bN ?_ _ | refine bD ?_ | refine bA ?_ _)); exact BK266.out), (by (with_reducible repeat (first | refine bN ?_ _ | refine bD ?_ | refine bA ?_ _)); exact BK273.out), (by (with_reducible repeat (first | refine bN ?_ _ | refine bD ?_ | refine bA ?_ _)); exact BK274.out), GW273.out, GE273.out, NB257_273.out, NB273_257.out, NB258_273.out, NB273_258.out, NB262_273.out, NB273_262.out, NB266_273.out, NB273_266.out, NB274_273.out, NB273_274.out, GW274.out, GE274.out, NB257_274.out, NB274_257.out, NB258_274.out, NB274_258.out, NB262_274.out, NB274_262.out, NB266_274.out, NB274_266.out, (by repeat (first | (with_reducible first | exact HB.out | apply lA | apply lN | apply lD | refine lS ?_ GE257.out | refine lS ?_ GE258.out | refine lS ?_ GE262.out | refine lS ?_ GE266.out | refine lS ?_ GE273.out | refine lS ?_ GE274.out) | exact HB.out))⟩)
        rintro ⟨gb273, gb274⟩ w48 ⟨hS_, h0_, h1_, h2_, h3_, h4_, h5_, h6_, h7_, h8_, h9_, h10_, h11_, h12_, h13_, h14_, h15_, h16_, h17_, h18_, h19_, h20_, h21_, h22_, h23_, h24_, h25_, h26_, h27_, h28_⟩
        have n0_ : Aside0 (w48.heap[gb257]? = some (.cells #[.int .u64 a0_0, .int .u64 a0_1] 38 (0, 0))) := ⟨h0_⟩
        have n1_ : Aside0 (w48.heap[gb258]? = some (.cells #[.int .u64 a1_0, .int .u64 a1_1] 38 (0, 0))) := ⟨h1_⟩
        have n2_ : Aside0 (w48.heap[gb262]? = some (.cells #[.int .u64 t259, .int .u64 t260] 38 (0, 0))) := ⟨h2_⟩
        have n3_ : Aside0 (w48.heap[gb266]? = some (.cells #[.int .u64 t263, .int .u64 t264] 38 (0, 0))) := ⟨h3_⟩
        have n4_ : Aside0 (w48.heap[gb273]? = some (.cells #[.int .u64 0, .int .u64 0, .int .u64 0] 49 (0, 0))) := ⟨h4_⟩
        have n5_ : Aside0 (w48.heap[gb274]? = some (.cells #[.int .u64 0, .int .u64 0, .int .u64 0] 49 (0, 0))) := ⟨h5_⟩
        have n6_ : Aside0 (w.heap.size ≤ gb273) := ⟨h6_⟩
        have n7_ : Aside0 (w.heap.size ≤ gb273) := ⟨h7_⟩
        have n8_ : Aside0 (gb257 ≠ gb273) := ⟨h8_⟩
        have n9_ : Aside0 (gb273 ≠ gb257) := ⟨h9_⟩
        have n10_ : Aside0 (gb258 ≠ gb273) := ⟨h10_⟩
        have n11_ : Aside0 (gb273 ≠ gb258) := ⟨h11_⟩
        have n12_ : Aside0 (gb262 ≠ gb273) := ⟨h12_⟩
        have n13_ : Aside0 (gb273 ≠ gb262) := ⟨h13_⟩
        have n14_ : Aside0 (gb266 ≠ gb273) := ⟨h14_⟩
        have n15_ : Aside0 (gb273 ≠ gb266) := ⟨h15_⟩
        have n16_ : Aside0 (gb274 ≠ gb273) := ⟨h16_⟩
        have n17_ : Aside0 (gb273 ≠ gb274) := ⟨h17_⟩
        have n18_ : Aside0 (w.heap.size ≤ gb274) := ⟨h18_⟩
        have n19_ : Aside0 (w.heap.size ≤ gb274) := ⟨h19_⟩
        have n20_ : Aside0 (gb257 ≠ gb274) := ⟨h20_⟩
        have n21_ : Aside0 (gb274 ≠ gb257) := ⟨h21_⟩
        have n22_ : Aside0 (gb258 ≠ gb274) := ⟨h22_⟩
        have n23_ : Aside0 (gb274 ≠ gb258) := ⟨h23_⟩
        have n24_ : Aside0 (gb262 ≠ gb274) := ⟨h24_⟩
        have n25_ : Aside0 (gb274 ≠ gb262) := ⟨h25_⟩
        have n26_ : Aside0 (gb266 ≠ gb274) := ⟨h26_⟩
        have n27_ : Aside0 (gb274 ≠ gb266) := ⟨h27_⟩
        have n28_ : Aside0 (Below w.heap.size w w48) := ⟨h28_⟩
        clear BK257 BK258 BK262 BK266 HB h0_ h1_ h2_ h3_ h4_ h5_ h6_ h7_ h8_ h9_ h10_ h11_ h12_ h13_ h14_ h15_ h16_ h17_ h18_ h19_ h20_ h21_ h22_ h23_ h24_ h25_ h26_ h27_ h28_
        have BK257 := n0_; have BK258 := n1_; have BK262 := n2_; have BK266 := n3_; have BK273 := n4_; have BK274 := n5_; have GW273 := n6_; have GE273 := n7_; have NB257_273 := n8_; have NB273_257 := n9_; have NB258_273 := n10_; have NB273_258 := n11_; have NB262_273 := n12_; have NB273_262 := n13_; have NB266_273 := n14_; have NB273_266 := n15_; have NB274_273 := n16_; have NB273_274 := n17_; have GW274 := n18_; have GE274 := n19_; have NB257_274 := n20_; have NB274_257 := n21_; have NB258_274 := n22_; have NB274_258 := n23_; have NB262_274 := n24_; have NB274_262 := n25_; have NB266_274 := n26_; have NB274_266 := n27_; have HB := n28_
        clear n0_ n1_ n2_ n3_ n4_ n5_ n6_ n7_ n8_ n9_ n10_ n11_ n12_ n13_ n14_ n15_ n16_ n17_ n18_ n19_ n20_ n21_ n22_ n23_ n24_ n25_ n26_ n27_ n28_
        have hHeld : w48.cell? ⟨gb257, 0, none⟩ = some (.int .u64 a0_0) ∧ w48.cell? ⟨gb257, 1, none⟩ = some (.int .u64 a0_1) ∧ w48.cell? ⟨gb258, 0, none⟩ = some (.int .u64 a1_0) ∧ w48.cell? ⟨gb258, 1, none⟩ = some (.int .u64 a1_1) := hS_
        refine norm_ (a' := ?_) ?_ ?_
        rotate_left
        ·simp only [putAll, Act.put, List.setIfInBounds_toArray, List.set_cons_zero, List.set_cons_succ]
         rfl
        refine one_ (i := 9) (N := none) #[true, true, true, true, true, true, true, true, true, true, false] rfl rfl (one_of HT_.out (by kernel_rfl)) (by decide) (fun K hK => ?_)
        have hs49 : w48.cell? ⟨gb273, 0, none⟩ = some (.int .u64 0) := (bC BK273.out 0).trans rfl
        have hfs49 := bF BK273.out 0
        have hns49_0 := NB257_273.out
        have hns49_1 := NB258_273.out
        have hns49_2 := NB262_273.out
        have hns49_3 := NB266_273.out
        have hns49_5 := NB274_273.out
        have hms49_0 := NB273_257.out
        have hms49_1 := NB273_258.out
        have hms49_2 := NB273_262.out
        have hms49_3 := NB273_266.out
        have hms49_5 := NB273_274.out
        have hs50 : w48.cell? ⟨gb273, 1, none⟩ = some (.int .u64 0) := (bC BK273.out 1).trans rfl
        have hfs50 := bF BK273.out 1
        have hns50_0 := NB257_273.out
        have hns50_1 := NB258_273.out
        have hns50_2 := NB262_273.out
        have hns50_3 := NB266_273.out
        have hns50_5 := NB274_273.out
        have hms50_0 := NB273_257.out
        have hms50_1 := NB273_258.out
        have hms50_2 := NB273_262.out
        have hms50_3 := NB273_266.out
        have hms50_5 := NB273_274.out
        have hs51 : w48.cell? ⟨gb273, 2, none⟩ = some (.int .u64 0) := (bC BK273.out 2).trans rfl
        have hfs51 := bF BK273.out 2
        have hns51_0 := NB257_273.out
        have hns51_1 := NB258_273.out
        have hns51_2 := NB262_273.out
        have hns51_3 := NB266_273.out
        have hns51_5 := NB274_273.out
        have hms51_0 := NB273_257.out
        have hms51_1 := NB273_258.out
        have hms51_2 := NB273_262.out
        have hms51_3 := NB273_266.out
        have hms51_5 := NB273_274.out
        refine skip_ (w1 := ?_) (by rfl) rfl ?_ ?_
        rotate_left
        ·go_simp
         rfl
        refine hK.out _ _ ⟨((cell_far (p := ⟨gb273, _, none⟩) NB257_273.out _).trans (((cell_far (p := ⟨gb273, _, none⟩) NB257_273.out _).trans (((cell_far (p := ⟨gb273, _, none⟩) NB257_273.out _).trans (hHeld.1)))))), ((cell_far (p := ⟨gb273, _, none⟩) NB257_273.out _).trans (((cell_far (p := ⟨gb273, _, none⟩) NB257_273.out _).trans (((cell_far (p := ⟨gb273, _, none⟩) NB257_273.out _).trans (hHeld.2.1)))))), ((cell_far (p := ⟨gb273, _, none⟩) NB258_273.out _).trans (((cell_far (p := ⟨gb273, _, none⟩) NB258_273.out _).trans (((cell_far (p := ⟨gb273, _, none⟩) NB258_273.out _).trans (hHeld.2.2.1)))))), ((cell_far (p := ⟨gb273, _, none⟩) NB258_273.out _).trans (((cell_far (p := ⟨gb273, _, none⟩) NB258_273.out _).trans (((cell_far (p := ⟨gb273, _, none⟩) NB258_273.out _).trans (hHeld.2.2.2))))))⟩ (fun hHeld => ?_)
        clear hK K
        refine one_ (i := 10) (N := none) #[true, true, true, true, true, true, true, true, true, true, true] rfl rfl (one_of HT_.out (by kernel_rfl)) (by decide) (fun K hK => ?_)
        have hs52 : w48.cell? ⟨gb274, 0, none⟩ = some (.int .u64 0) := (bC BK274.out 0).trans rfl
        have hfs52 := bF BK274.out 0
        have hns52_0 := NB257_274.out
        have hns52_1 := NB258_274.out
        have hns52_2 := NB262_274.out
        have hns52_3 := NB266_274.out
        have hns52_4 := NB273_274.out
        have hms52_0 := NB274_257.out
        have hms52_1 := NB274_258.out
        have hms52_2 := NB274_262.out
        have hms52_3 := NB274_266.out
        have hms52_4 := NB274_273.out
        have hs53 : w48.cell? ⟨gb274, 1, none⟩ = some (.int .u64 0) := (bC BK274.out 1).trans rfl
        have hfs53 := bF BK274.out 1
        have hns53_0 := NB257_274.out
        have hns53_1 := NB258_274.out
        have hns53_2 := NB262_274.out
        have hns53_3 := NB266_274.out
        have hns53_4 := NB273_274.out
        have hms53_0 := NB274_257.out
        have hms53_1 := NB274_258.out
        have hms53_2 := NB274_262.out
        have hms53_3 := NB274_266.out
        have hms53_4 := NB274_273.out
        have hs54 : w48.cell? ⟨gb274, 2, none⟩ = some (.int .u64 0) := (bC BK274.out 2).trans rfl
        have hfs54 := bF BK274.out 2
        have hns54_0 := NB257_274.out
        have hns54_1 := NB258_274.out
        have hns54_2 := NB262_274.out
        have hns54_3 := NB266_274.out
        have hns54_4 := NB273_274.out
        have hms54_0 := NB274_257.out
        have hms54_1 := NB274_258.out
        have hms54_2 := NB274_262.out
        have hms54_3 := NB274_266.out
        have hms54_4 := NB274_273.out
        refine skip_ (w1 := ?_) (by rfl) rfl ?_ ?_
        rotate_left
        ·go_simp
         rfl
        refine hK.out _ _ ⟨((cell_far (p := ⟨gb274, _, none⟩) NB257_274.out _).trans (((cell_far (p := ⟨gb274, _, none⟩) NB257_274.out _).trans (((cell_far (p := ⟨gb274, _, none⟩) NB257_274.out _).trans (hHeld.1)))))), ((cell_far (p := ⟨gb274, _, none⟩) NB257_274.out _).trans (((cell_far (p := ⟨gb274, _, none⟩) NB257_274.out _).trans (((cell_far (p := ⟨gb274, _, none⟩) NB257_274.out _).trans (hHeld.2.1)))))), ((cell_far (p := ⟨gb274, _, none⟩) NB258_274.out _).trans (((cell_far (p := ⟨gb274, _, none⟩) NB258_274.out _).trans (((cell_far (p := ⟨gb274, _, none⟩) NB258_274.out _).trans (hHeld.2.2.1)))))), ((cell_far (p := ⟨gb274, _, none⟩) NB258_274.out _).trans (((cell_far (p := ⟨gb274, _, none⟩) NB258_274.out _).trans (((cell_far (p := ⟨gb274, _, none⟩) NB258_274.out _).trans (hHeld.2.2.2))))))⟩ (fun hHeld => ?_)
        clear hK K
        refine done_ (done_of HT_.out (by kernel_rfl)) ?_
        try go_wp2
        have n0_ : Aside0 (((((((w48.setCell ⟨gb273, 0, none⟩ (.int .u64 t267)).setCell ⟨gb273, 1, none⟩ (.int .u64 t268)).setCell ⟨gb273, 2, none⟩ (.int .u64 t269)).setCell ⟨gb274, 0, none⟩ (.int .u64 t270)).setCell ⟨gb274, 1, none⟩ (.int .u64 t271)).setCell ⟨gb274, 2, none⟩ (.int .u64 t272)).heap[gb257]? = some (.cells #[.int .u64 a0_0, .int .u64 a0_1] 38 (0, 0))) := ⟨by (with_reducible repeat (first | refine bN ?_ _ | refine bD ?_ | refine bA ?_ _)); refine blk_far ?_ NB257_274.out _; (with_reducible repeat (first | refine bN ?_ _ | refine bD ?_ | refine bA ?_ _)); refine blk_far ?_ NB257_274.out _; (with_reducible repeat (first | refine bN ?_ _ | refine bD ?_ | refine bA ?_ _)); refine blk_far ?_ NB257_274.out _; (with_reducible repeat (first | refine bN ?_ _ | refine bD ?_ | refine bA ?_ _)); refine blk_far ?_ NB257_273.out _; (with_reducible repeat (first | refine bN ?_ _ | refine bD ?_ | refine bA ?_ _)); refine blk_far ?_ NB257_273.out _; (with_reducible repeat (first | refine bN ?_ _ | refine bD ?_ | refine bA ?_ _)); refine blk_far ?_ NB257_273.out _; (with_reducible repeat (first | refine bN ?_ _ | refine bD ?_ | refine bA ?_ _)); exact BK257.out⟩
        have n1_ : Aside0 (((((((w48.setCell ⟨gb273, 0, none⟩ (.int .u64 t267)).setCell ⟨gb273, 1, none⟩ (.int .u64 t268)).setCell ⟨gb273, 2, none⟩ (.int .u64 t269)).setCell ⟨gb274, 0, none⟩ (.int .u64 t270)).setCell ⟨gb274, 1, none⟩ (.int .u64 t271)).setCell ⟨gb274, 2, none⟩ (.int .u64 t272)).heap[gb258]? = some (.cells #[.int .u64 a1_0, .int .u64 a1_1] 38 (0, 0))) := ⟨by (with_reducible repeat (first | refine bN ?_ _ | refine bD ?_ | refine bA ?_ _)); refine blk_far ?_ NB258_274.out _; (with_reducible repeat (first | refine bN ?_ _ | refine bD ?_ | refine bA ?_ _)); refine blk_far ?_ NB258_274.out _; (with_reducible repeat (first | refine bN ?_ _ | refine bD ?_ | refine bA ?_ _)); refine blk_far ?_ NB258_274.out _; (with_reducible repeat (first | refine bN ?_ _ | refine bD ?_ | refine bA ?_ _)); refine blk_far ?_ NB258_273.out _; (with_reducible repeat (first | refine bN ?_ _ | refine bD ?_ | refine bA ?_ _)); refine blk_far ?_ NB258_273.out _; (with_reducible repeat (first | refine bN ?_ _ | refine bD ?_ | refine bA ?_ _)); refine blk_far ?_ NB258_273.out _; (with_reducible repeat (first | refine bN ?_ _ | refine bD ?_ | refine bA ?_ _)); exact BK258.out⟩
        have n2_ : Aside0 (((((((w48.setCell ⟨gb273, 0, none⟩ (.int .u64 t267)).setCell ⟨gb273, 1, none⟩ (.int .u64 t268)).setCell ⟨gb273, 2, none⟩ (.int .u64 t269)).setCell ⟨gb274, 0, none⟩ (.int .u64 t270)).setCell ⟨gb274, 1, none⟩ (.int .u64 t271)).setCell ⟨gb274, 2, none⟩ (.int .u64 t272)).heap[gb262]? = some (.cells #[.int .u64 t259, .int .u64 t260] 38 (0, 0))) := ⟨by (with_reducible repeat (first | refine bN ?_ _ | refine bD ?_ | refine bA ?_ _)); refine blk_far ?_ NB262_274.out _; (with_reducible repeat (first | refine bN ?_ _ | refine bD ?_ | refine bA ?_ _)); refine blk_far ?_ NB262_274.out _; (with_reducible repeat (first | refine bN ?_ _ | refine bD ?_ | refine bA ?_ _)); refine blk_far ?_ NB262_274.out _; (with_reducible repeat (first | refine bN ?_ _ | refine bD ?_ | refine bA ?_ _)); refine blk_far ?_ NB262_273.out _; (with_reducible repeat (first | refine bN ?_ _ | refine bD ?_ | refine bA ?_ _)); refine blk_far ?_ NB262_273.out _; (with_reducible repeat (first | refine bN ?_ _ | refine bD ?_ | refine bA ?_ _)); refine blk_far ?_ NB262_273.out _; (with_reducible repeat (first | refine bN ?_ _ | refine bD ?_ | refine bA ?_ _)); exact BK262.out⟩
        have n3_ : Aside0 (((((((w48.setCell ⟨gb273, 0, none⟩ (.int .u64 t267)).setCell ⟨gb273, 1, none⟩ (.int .u64 t268)).setCell ⟨gb273, 2, none⟩ (.int .u64 t269)).setCell ⟨gb274, 0, none⟩ (.int .u64 t270)).setCell ⟨gb274, 1, none⟩ (.int .u64 t271)).setCell ⟨gb274, 2, none⟩ (.int .u64 t272)).heap[gb266]? = some (.cells #[.int .u64 t263, .int .u64 t264] 38 (0, 0))) := ⟨by (with_reducible repeat (first | refine bN ?_ _ | refine bD ?_ | refine bA ?_ _)); refine blk_far ?_ NB266_274.out _; (with_reducible repeat (first | refine bN ?_ _ | refine bD ?_ | refine bA ?_ _)); refine blk_far ?_ NB266_274.out _; (with_reducible repeat (first | refine bN ?_ _ | refine bD ?_ | refine bA ?_ _)); refine blk_far ?_ NB266_274.out _; (with_reducible repeat (first | refine bN ?_ _ | refine bD ?_ | refine bA ?_ _)); refine blk_far ?_ NB266_273.out _; (with_reducible repeat (first | refine bN ?_ _ | refine bD ?_ | refine bA ?_ _)); refine blk_far ?_ NB266_273.out _; (with_reducible repeat (first | refine bN ?_ _ | refine bD ?_ | refine bA ?_ _)); refine blk_far ?_ NB266_273.out _; (with_reducible repeat (first | refine bN ?_ _ | refine bD ?_ | refine bA ?_ _)); exact BK266.out⟩
        have n4_ : Aside0 (((((((w48.setCell ⟨gb273, 0, none⟩ (.int .u64 t267)).setCell ⟨gb273, 1, none⟩ (.int .u64 t268)).setCell ⟨gb273, 2, none⟩ (.int .u64 t269)).setCell ⟨gb274, 0, none⟩ (.int .u64 t270)).setCell ⟨gb274, 1, none⟩ (.int .u64 t271)).setCell ⟨gb274, 2, none⟩ (.int .u64 t272)).heap[gb273]? = some (.cells #[.int .u64 t267, .int .u64 t268, .int .u64 t269] 49 (0, 0))) := ⟨by (with_reducible repeat (first | refine bN ?_ _ | refine bD ?_ | refine bA ?_ _)); refine blk_far ?_ NB273_274.out _; (with_reducible repeat (first | refine bN ?_ _ | refine bD ?_ | refine bA ?_ _)); refine blk_far ?_ NB273_274.out _; (with_reducible repeat (first | refine bN ?_ _ | refine bD ?_ | refine bA ?_ _)); refine blk_far ?_ NB273_274.out _; (with_reducible repeat (first | refine bN ?_ _ | refine bD ?_ | refine bA ?_ _)); refine blk_put (cs := #[.int .u64 t267, .int .u64 t268, .int .u64 0]) ?_ 2 _ rfl; (with_reducible repeat (first | refine bN ?_ _ | refine bD ?_ | refine bA ?_ _)); refine blk_put (cs := #[.int .u64 t267, .int .u64 0, .int .u64 0]) ?_ 1 _ rfl; (with_reducible repeat (first | refine bN ?_ _ | refine bD ?_ | refine bA ?_ _)); refine blk_put (cs := #[.int .u64 0, .int .u64 0, .int .u64 0]) ?_ 0 _ rfl; (with_reducible repeat (first | refine bN ?_ _ | refine bD ?_ | refine bA ?_ _)); exact BK273.out⟩
        have n5_ : Aside0 (((((((w48.setCell ⟨gb273, 0, none⟩ (.int .u64 t267)).setCell ⟨gb273, 1, none⟩ (.int .u64 t268)).setCell ⟨gb273, 2, none⟩ (.int .u64 t269)).setCell ⟨gb274, 0, none⟩ (.int .u64 t270)).setCell ⟨gb274, 1, none⟩ (.int .u64 t271)).setCell ⟨gb274, 2, none⟩ (.int .u64 t272)).heap[gb274]? = some (.cells #[.int .u64 t270, .int .u64 t271, .int .u64 t272] 49 (0, 0))) := ⟨by (with_reducible repeat (first | refine bN ?_ _ | refine bD ?_ | refine bA ?_ _)); refine blk_put (cs := #[.int .u64 t270, .int .u64 t271, .int .u64 0]) ?_ 2 _ rfl; (with_reducible repeat (first | refine bN ?_ _ | refine bD ?_ | refine bA ?_ _)); refine blk_put (cs := #[.int .u64 t270, .int .u64 0, .int .u64 0]) ?_ 1 _ rfl; (with_reducible repeat (first | refine bN ?_ _ | refine bD ?_ | refine bA ?_ _)); refine blk_put (cs := #[.int .u64 0, .int .u64 0, .int .u64 0]) ?_ 0 _ rfl; (with_reducible repeat (first | refine bN ?_ _ | refine bD ?_ | refine bA ?_ _)); refine blk_far ?_ NB274_273.out _; (with_reducible repeat (first | refine bN ?_ _ | refine bD ?_ | refine bA ?_ _)); refine blk_far ?_ NB274_273.out _; (with_reducible repeat (first | refine bN ?_ _ | refine bD ?_ | refine bA ?_ _)); refine blk_far ?_ NB274_273.out _; (with_reducible repeat (first | refine bN ?_ _ | refine bD ?_ | refine bA ?_ _)); exact BK274.out⟩
        have n6_ : Aside0 (Below w.heap.size w ((((((w48.setCell ⟨gb273, 0, none⟩ (.int .u64 t267)).setCell ⟨gb273, 1, none⟩ (.int .u64 t268)).setCell ⟨gb273, 2, none⟩ (.int .u64 t269)).setCell ⟨gb274, 0, none⟩ (.int .u64 t270)).setCell ⟨gb274, 1, none⟩ (.int .u64 t271)).setCell ⟨gb274, 2, none⟩ (.int .u64 t272))) := ⟨by repeat (first | (with_reducible first | exact HB.out | apply lA | apply lN | apply lD | refine lS ?_ GE257.out | refine lS ?_ GE258.out | refine lS ?_ GE262.out | refine lS ?_ GE266.out | refine lS ?_ GE273.out | refine lS ?_ GE274.out) | exact HB.out)⟩
        (try clear BK257)
        (try clear BK258)
        (try clear BK262)
        (try clear BK266)
        (try clear BK273)
        (try clear BK274)
        (try clear HB)
        generalize ((((((w48.setCell ⟨gb273, 0, none⟩ (.int .u64 t267)).setCell ⟨gb273, 1, none⟩ (.int .u64 t268)).setCell ⟨gb273, 2, none⟩ (.int .u64 t269)).setCell ⟨gb274, 0, none⟩ (.int .u64 t270)).setCell ⟨gb274, 1, none⟩ (.int .u64 t271)).setCell ⟨gb274, 2, none⟩ (.int .u64 t272)) = w55 at n0_ n1_ n2_ n3_ n4_ n5_ n6_ ⊢
        have BK257 := n0_; have BK258 := n1_; have BK262 := n2_; have BK266 := n3_; have BK273 := n4_; have BK274 := n5_; have HB := n6_
        clear n0_ n1_ n2_ n3_ n4_ n5_ n6_
        have n0_ := Aside0.mk (bD BK257.out)
        have n1_ := Aside0.mk (bD BK258.out)
        have n2_ := Aside0.mk (bD BK262.out)
        have n3_ := Aside0.mk (bD BK266.out)
        have n4_ := Aside0.mk (bD BK273.out)
        have n5_ := Aside0.mk (bD BK274.out)
        have n6_ := Aside0.mk (lD HB.out)
        clear BK257 BK258 BK262 BK266 BK273 BK274 HB
        have BK257 := n0_; have BK258 := n1_; have BK262 := n2_; have BK266 := n3_; have BK273 := n4_; have BK274 := n5_; have HB := n6_
        clear n0_ n1_ n2_ n3_ n4_ n5_ n6_
        refine start_ (n := 58) (S := fun w' => w'.cell? ⟨gb257, 0, none⟩ = some (.int .u64 a0_0) ∧ w'.cell? ⟨gb257, 1, none⟩ = some (.int .u64 a0_1) ∧ w'.cell? ⟨gb258, 0, none⟩ = some (.int .u64 a1_0) ∧ w'.cell? ⟨gb258, 1, none⟩ = some (.int .u64 a1_1) ∧ w'.cell? ⟨gb262, 0, none⟩ = some (.int .u64 t259) ∧ w'.cell? ⟨gb262, 1, none⟩ = some (.int .u64 t260) ∧ w'.cell? ⟨gb266, 0, none⟩ = some (.int .u64 t263) ∧ w'.cell? ⟨gb266, 1, none⟩ = some (.int .u64 t264) ∧ w'.cell? ⟨gb273, 0, none⟩ = some (.int .u64 t267) ∧ w'.cell? ⟨gb273, 1, none⟩ = some (.int .u64 t268) ∧ w'.cell? ⟨gb273, 2, none⟩ = some (.int .u64 t269) ∧ w'.cell? ⟨gb274, 0, none⟩ = some (.int .u64 t270) ∧ w'.cell? ⟨gb274, 1, none⟩ = some (.int .u64 t271) ∧ w'.cell? ⟨gb274, 2, none⟩ = some (.int .u64 t272)) (ds := []) #[false, false, false, false, false, false, false, false, false, false, false, false, false, false, false, false, false, false, false, false, false, false, false, false, false, false, false, false, false, false, false, false, false, false, false, false, false, false, false, false, false, false, false, false, false, false, false, false, false, false, false, false, false, false, false, false, false, false] (by kernel_rfl) rfl rfl ⟨(bC BK257.out 0).trans rfl, (bC BK257.out 1).trans rfl, (bC BK258.out 0).trans rfl, (bC BK258.out 1).trans rfl, (bC BK262.out 0).trans rfl, (bC BK262.out 1).trans rfl, (bC BK266.out 0).trans rfl, (bC BK266.out 1).trans rfl, (bC BK273.out 0).trans rfl, (bC BK273.out 1).trans rfl, (bC BK273.out 2).trans rfl, (bC BK274.out 0).trans rfl, (bC BK274.out 1).trans rfl, (bC BK274.out 2).trans rfl⟩ (fun hHeld => ?_); refine with_tabW hornbeamlaw04_ProdWides.tab4 hornbeamlaw04_ProdWides.bits4 (fun HT_ HW_ => ?_)
        generalize w55.drew = w56 at BK257 BK258 BK262 BK266 BK273 BK274 HB hHeld ⊢
        refine one_ (i := 0) (N := some 32) #[true, false, false, false, false, false, false, false, false, false, false, false, false, false, false, false, false, false, false, false, false, false, false, false, false, false, false, false, false, false, false, false, false, false, false, false, false, false, false, false, false, false, false, false, false, false, false, false, false, false, false, false, false, false, false, false, false, false] rfl rfl (one_of HT_.out (by kernel_rfl)) (by decide) (fun K hK => ?_)
        refine goes_ Try.func12 (by kernel_rfl) rfl #[] (by rfl) rfl rfl (by (try simp only [List.map_toArray, List.map_cons, List.map_nil]); first | done | rfl | (simp only [List.length_drop, List.length_take]; rfl)) ?_
        with_reducible refine (hornbeamlaw04_fixed.calls  true _ A8.out).mono ?_
        rintro e w57 ⟨rfl, hb⟩
        refine ⟨_, rfl, ?_⟩
        have n0_ := Aside0.mk (bB (g := gb257) (o := .cells #[.int .u64 a0_0, .int .u64 a0_1] 38 (0, 0)) (by (with_reducible repeat (first | refine bN ?_ _ | refine bD ?_ | refine bA ?_ _)); exact BK257.out) hb)
        have n1_ := Aside0.mk (bB (g := gb258) (o := .cells #[.int .u64 a1_0, .int .u64 a1_1] 38 (0, 0)) (by (with_reducible repeat (first | refine bN ?_ _ | refine bD ?_ | refine bA ?_ _)); exact BK258.out) hb)
        have n2_ := Aside0.mk (bB (g := gb262) (o := .cells #[.int .u64 t259, .int .u64 t260] 38 (0, 0)) (by (with_reducible repeat (first | refine bN ?_ _ | refine bD ?_ | refine bA ?_ _)); exact BK262.out) hb)
        have n3_ := Aside0.mk (bB (g := gb266) (o := .cells #[.int .u64 t263, .int .u64 t264] 38 (0, 0)) (by (with_reducible repeat (first | refine bN ?_ _ | refine bD ?_ | refine bA ?_ _)); exact BK266.out) hb)
        have n4_ := Aside0.mk (bB (g := gb273) (o := .cells #[.int .u64 t267, .int .u64 t268, .int .u64 t269] 49 (0, 0)) (by (with_reducible repeat (first | refine bN ?_ _ | refine bD ?_ | refine bA ?_ _)); exact BK273.out) hb)
        have n5_ := Aside0.mk (bB (g := gb274) (o := .cells #[.int .u64 t270, .int .u64 t271, .int .u64 t272] 49 (0, 0)) (by (with_reducible repeat (first | refine bN ?_ _ | refine bD ?_ | refine bA ?_ _)); exact BK274.out) hb)
        have n6_ := Aside0.mk (lP (by repeat (first | (with_reducible first | exact HB.out | apply lA | apply lN | apply lD | refine lS ?_ GE257.out | refine lS ?_ GE258.out | refine lS ?_ GE262.out | refine lS ?_ GE266.out | refine lS ?_ GE273.out | refine lS ?_ GE274.out) | exact HB.out)) hb)
        clear BK257 BK258 BK262 BK266 BK273 BK274 HB
        have BK257 := n0_; have BK258 := n1_; have BK262 := n2_; have BK266 := n3_; have BK273 := n4_; have BK274 := n5_; have HB := n6_
        clear n0_ n1_ n2_ n3_ n4_ n5_ n6_
        (try clear hb)
        (try clear hb2)
        (try clear hk)
        (try clear hi)
        refine hK.out _ _ ⟨(bC BK257.out 0).trans rfl, (bC BK257.out 1).trans rfl, (bC BK258.out 0).trans rfl, (bC BK258.out 1).trans rfl, (bC BK262.out 0).trans rfl, (bC BK262.out 1).trans rfl, (bC BK266.out 0).trans rfl, (bC BK266.out 1).trans rfl, (bC BK273.out 0).trans rfl, (bC BK273.out 1).trans rfl, (bC BK273.out 2).trans rfl, (bC BK274.out 0).trans rfl, (bC BK274.out 1).trans rfl, (bC BK274.out 2).trans rfl⟩ (fun hHeld => ?_)
        clear hK K
        refine norm_ (a' := ?_) ?_ ?_
        rotate_left
        ·show Act.put _ (some 32) _ = _
         simp only [Act.put, List.setIfInBounds_toArray, List.set_cons_zero, List.set_cons_succ, i64_w, i32_w]
         rfl
        refine pure_ (i := 1) (N := some 33) (v := ?_) (a' := ?_) #[true, true, false, false, false, false, false, false, false, false, false, false, false, false, false, false, false, false, false, false, false, false, false, false, false, false, false, false, false, false, false, false, false, false, false, false, false, false, false, false, false, false, false, false, false, false, false, false, false, false, false, false, false, false, false, false, false, false] rfl rfl (any_of HT_.out (by kernel_rfl)) (fun _ _ _ h => h) (Or.inl ⟨by rfl, ?_⟩) ?_ ?_
        rotate_left
        ·intro w'
         go_simp
         with_reducible rfl
        rotate_left
        ·simp only [Act.put, List.setIfInBounds_toArray, List.set_cons_zero, List.set_cons_succ, i64_w, i32_w]
         rfl
        refine pure_ (i := 2) (N := some 34) (v := ?_) (a' := ?_) #[true, true, true, false, false, false, false, false, false, false, false, false, false, false, false, false, false, false, false, false, false, false, false, false, false, false, false, false, false, false, false, false, false, false, false, false, false, false, false, false, false, false, false, false, false, false, false, false, false, false, false, false, false, false, false, false, false, false] rfl rfl (any_of HT_.out (by kernel_rfl)) (fun _ _ _ h => h) (Or.inl ⟨by rfl, ?_⟩) ?_ ?_
        rotate_left
        ·intro w'
         go_simp
         with_reducible rfl
        rotate_left
        ·simp only [Act.put, List.setIfInBounds_toArray, List.set_cons_zero, List.set_cons_succ, i64_w, i32_w]
         rfl
        refine pure_ (i := 4) (N := some 36) (v := ?_) (a' := ?_) #[true, true, true, false, true, false, false, false, false, false, false, false, false, false, false, false, false, false, false, false, false, false, false, false, false, false, false, false, false, false, false, false, false, false, false, false, false, false, false, false, false, false, false, false, false, false, false, false, false, false, false, false, false, false, false, false, false, false] rfl rfl (any_of HT_.out (by kernel_rfl)) (fun _ _ _ h => h) (Or.inl ⟨by rfl, ?_⟩) ?_ ?_
        rotate_left
        ·intro w'
         go_simp
         with_reducible rfl
        rotate_left
        ·simp only [Act.put, List.setIfInBounds_toArray, List.set_cons_zero, List.set_cons_succ, i64_w, i32_w]
         rfl
        refine pure_ (i := 7) (N := some 39) (v := ?_) (a' := ?_) #[true, true, true, false, true, false, false, true, false, false, false, false, false, false, false, false, false, false, false, false, false, false, false, false, false, false, false, false, false, false, false, false, false, false, false, false, false, false, false, false, false, false, false, false, false, false, false, false, false, false, false, false, false, false, false, false, false, false] rfl rfl (any_of HT_.out (by kernel_rfl)) (fun _ _ _ h => h) (Or.inl ⟨by rfl, ?_⟩) ?_ ?_
        rotate_left
        ·intro w'
         go_simp
         with_reducible rfl
        rotate_left
        ·simp only [Act.put, List.setIfInBounds_toArray, List.set_cons_zero, List.set_cons_succ, i64_w, i32_w]
         rfl
        refine pure_ (i := 9) (N := some 41) (v := ?_) (a' := ?_) #[true, true, true, false, true, false, false, true, false, true, false, false, false, false, false, false, false, false, false, false, false, false, false, false, false, false, false, false, false, false, false, false, false, false, false, false, false, false, false, false, false, false, false, false, false, false, false, false, false, false, false, false, false, false, false, false, false, false] rfl rfl (any_of HT_.out (by kernel_rfl)) (fun _ _ _ h => h) (Or.inl ⟨by rfl, ?_⟩) ?_ ?_
        rotate_left
        ·intro w'
         go_simp
         with_reducible rfl
        rotate_left
        ·simp only [Act.put, List.setIfInBounds_toArray, List.set_cons_zero, List.set_cons_succ, i64_w, i32_w]
         rfl
        refine take_ (i := 3) (N := some 35) (v := ?_) (a' := ?_) #[true, true, true, true, true, false, false, true, false, true, false, false, false, false, false, false, false, false, false, false, false, false, false, false, false, false, false, false, false, false, false, false, false, false, false, false, false, false, false, false, false, false, false, false, false, false, false, false, false, false, false, false, false, false, false, false, false, false] rfl rfl (take_ofW HT_.out HW_.out (by kernel_rfl)) (fun _ _ _ h => h) (Or.inl ⟨by rfl, ?_⟩) hHeld ?_ ?_
        rotate_left
        ·rintro w' ⟨s0, s1, s2, s3, s4, s5, s6, s7, s8, s9, s10, s11, s12, s13⟩
         go_simp
         with_reducible rfl
        rotate_left
        ·simp only [Act.put, List.setIfInBounds_toArray, List.set_cons_zero, List.set_cons_succ, i64_w, i32_w]
         rfl
        refine take_ (i := 5) (N := some 37) (v := ?_) (a' := ?_) #[true, true, true, true, true, true, false, true, false, true, false, false, false, false, false, false, false, false, false, false, false, false, false, false, false, false, false, false, false, false, false, false, false, false, false, false, false, false, false, false, false, false, false, false, false, false, false, false, false, false, false, false, false, false, false, false, false, false] rfl rfl (take_ofW HT_.out HW_.out (by kernel_rfl)) (fun _ _ _ h => h) (Or.inl ⟨by rfl, ?_⟩) hHeld ?_ ?_
        rotate_left
        ·rintro w' ⟨s0, s1, s2, s3, s4, s5, s6, s7, s8, s9, s10, s11, s12, s13⟩
         go_simp
         with_reducible rfl
        rotate_left
        ·simp only [Act.put, List.setIfInBounds_toArray, List.set_cons_zero, List.set_cons_succ, i64_w, i32_w]
         rfl
        refine take_ (i := 8) (N := some 40) (v := ?_) (a' := ?_) #[true, true, true, true, true, true, false, true, true, true, false, false, false, false, false, false, false, false, false, false, false, false, false, false, false, false, false, false, false, false, false, false, false, false, false, false, false, false, false, false, false, false, false, false, false, false, false, false, false, false, false, false, false, false, false, false, false, false] rfl rfl (take_ofW HT_.out HW_.out (by kernel_rfl)) (fun _ _ _ h => h) (Or.inl ⟨by rfl, ?_⟩) hHeld ?_ ?_
        rotate_left
        ·rintro w' ⟨s0, s1, s2, s3, s4, s5, s6, s7, s8, s9, s10, s11, s12, s13⟩
         go_simp
         with_reducible rfl
        rotate_left
        ·simp only [Act.put, List.setIfInBounds_toArray, List.set_cons_zero, List.set_cons_succ, i64_w, i32_w]
         rfl
        refine take_ (i := 10) (N := some 42) (v := ?_) (a' := ?_) #[true, true, true, true, true, true, false, true, true, true, true, false, false, false, false, false, false, false, false, false, false, false, false, false, false, false, false, false, false, false, false, false, false, false, false, false, false, false, false, false, false, false, false, false, false, false, false, false, false, false, false, false, false, false, false, false, false, false] rfl rfl (take_ofW HT_.out HW_.out (by kernel_rfl)) (fun _ _ _ h => h) (Or.inl ⟨by rfl, ?_⟩) hHeld ?_ ?_
        rotate_left
        ·rintro w' ⟨s0, s1, s2, s3, s4, s5, s6, s7, s8, s9, s10, s11, s12, s13⟩
         go_simp
         with_reducible rfl
        rotate_left
        ·simp only [Act.put, List.setIfInBounds_toArray, List.set_cons_zero, List.set_cons_succ, i64_w, i32_w]
         rfl
        refine one_ (i := 6) (N := some 38) #[true, true, true, true, true, true, true, true, true, true, true, false, false, false, false, false, false, false, false, false, false, false, false, false, false, false, false, false, false, false, false, false, false, false, false, false, false, false, false, false, false, false, false, false, false, false, false, false, false, false, false, false, false, false, false, false, false, false] rfl rfl (one_of HT_.out (by kernel_rfl)) (by decide) (fun K hK => ?_)
        refine goes_ Try.func31 (by kernel_rfl) rfl #[.int .u64 a0_1, .int .u64 a1_1] (by rfl) rfl rfl (by (try simp only [List.map_toArray, List.map_cons, List.map_nil]); first | done | rfl | (simp only [List.length_drop, List.length_take]; rfl)) ?_
        with_reducible refine (prod_Mul.calls a0_1 a1_1 t276 t277 _ A10.out).mono ?_
        rintro e w58 ⟨rfl, hb⟩
        refine ⟨_, rfl, ?_⟩
        have n0_ := Aside0.mk (bB (g := gb257) (o := .cells #[.int .u64 a0_0, .int .u64 a0_1] 38 (0, 0)) (by (with_reducible repeat (first | refine bN ?_ _ | refine bD ?_ | refine bA ?_ _)); exact BK257.out) hb)
        have n1_ := Aside0.mk (bB (g := gb258) (o := .cells #[.int .u64 a1_0, .int .u64 a1_1] 38 (0, 0)) (by (with_reducible repeat (first | refine bN ?_ _ | refine bD ?_ | refine bA ?_ _)); exact BK258.out) hb)
        have n2_ := Aside0.mk (bB (g := gb262) (o := .cells #[.int .u64 t259, .int .u64 t260] 38 (0, 0)) (by (with_reducible repeat (first | refine bN ?_ _ | refine bD ?_ | refine bA ?_ _)); exact BK262.out) hb)
        have n3_ := Aside0.mk (bB (g := gb266) (o := .cells #[.int .u64 t263, .int .u64 t264] 38 (0, 0)) (by (with_reducible repeat (first | refine bN ?_ _ | refine bD ?_ | refine bA ?_ _)); exact BK266.out) hb)
        have n4_ := Aside0.mk (bB (g := gb273) (o := .cells #[.int .u64 t267, .int .u64 t268, .int .u64 t269] 49 (0, 0)) (by (with_reducible repeat (first | refine bN ?_ _ | refine bD ?_ | refine bA ?_ _)); exact BK273.out) hb)
        have n5_ := Aside0.mk (bB (g := gb274) (o := .cells #[.int .u64 t270, .int .u64 t271, .int .u64 t272] 49 (0, 0)) (by (with_reducible repeat (first | refine bN ?_ _ | refine bD ?_ | refine bA ?_ _)); exact BK274.out) hb)
        have n6_ := Aside0.mk (lP (by repeat (first | (with_reducible first | exact HB.out | apply lA | apply lN | apply lD | refine lS ?_ GE257.out | refine lS ?_ GE258.out | refine lS ?_ GE262.out | refine lS ?_ GE266.out | refine lS ?_ GE273.out | refine lS ?_ GE274.out) | exact HB.out)) hb)
        clear BK257 BK258 BK262 BK266 BK273 BK274 HB
        have BK257 := n0_; have BK258 := n1_; have BK262 := n2_; have BK266 := n3_; have BK273 := n4_; have BK274 := n5_; have HB := n6_
        clear n0_ n1_ n2_ n3_ n4_ n5_ n6_
        (try clear hb)
        (try clear hb2)
        (try clear hk)
        (try clear hi)
        refine hK.out _ _ ⟨(bC BK257.out 0).trans rfl, (bC BK257.out 1).trans rfl, (bC BK258.out 0).trans rfl, (bC BK258.out 1).trans rfl, (bC BK262.out 0).trans rfl, (bC BK262.out 1).trans rfl, (bC BK266.out 0).trans rfl, (bC BK266.out 1).trans rfl, (bC BK273.out 0).trans rfl, (bC BK273.out 1).trans rfl, (bC BK273.out 2).trans rfl, (bC BK274.out 0).trans rfl, (bC BK274.out 1).trans rfl, (bC BK274.out 2).trans rfl⟩ (fun hHeld => ?_)
        clear hK K
        refine norm_ (a' := ?_) ?_ ?_
        rotate_left
        ·show Act.put _ (some 38) _ = _
         simp only [Act.put, List.setIfInBounds_toArray, List.set_cons_zero, List.set_cons_succ, i64_w, i32_w]
         rfl
        refine one_ (i := 11) (N := some 43) #[true, true, true, true, true, true, true, true, true, true, true, true, false, false, false, false, false, false, false, false, false, false, false, false, false, false, false, false, false, false, false, false, false, false, false, false, false, false, false, false, false, false, false, false, false, false, false, false, false, false, false, false, false, false, false, false, false, false] rfl rfl (one_of HT_.out (by kernel_rfl)) (by decide) (fun K hK => ?_)
        refine goes_ Try.func24 (by kernel_rfl) rfl #[.int .u64 a0_1, .int .u64 a1_1] (by rfl) rfl rfl (by (try simp only [List.map_toArray, List.map_cons, List.map_nil]); first | done | rfl | (simp only [List.length_drop, List.length_take]; rfl)) ?_
        with_reducible refine (hornbeamref04_Mul.calls k a0_1 a1_1 t278 t279 _ A11.out).mono ?_
        rintro e w59 ⟨rfl, hb⟩
        refine ⟨_, rfl, ?_⟩
        have n0_ := Aside0.mk (bB (g := gb257) (o := .cells #[.int .u64 a0_0, .int .u64 a0_1] 38 (0, 0)) (by (with_reducible repeat (first | refine bN ?_ _ | refine bD ?_ | refine bA ?_ _)); exact BK257.out) hb)
        have n1_ := Aside0.mk (bB (g := gb258) (o := .cells #[.int .u64 a1_0, .int .u64 a1_1] 38 (0, 0)) (by (with_reducible repeat (first | refine bN ?_ _ | refine bD ?_ | refine bA ?_ _)); exact BK258.out) hb)
        have n2_ := Aside0.mk (bB (g := gb262) (o := .cells #[.int .u64 t259, .int .u64 t260] 38 (0, 0)) (by (with_reducible repeat (first | refine bN ?_ _ | refine bD ?_ | refine bA ?_ _)); exact BK262.out) hb)
        have n3_ := Aside0.mk (bB (g := gb266) (o := .cells #[.int .u64 t263, .int .u64 t264] 38 (0, 0)) (by (with_reducible repeat (first | refine bN ?_ _ | refine bD ?_ | refine bA ?_ _)); exact BK266.out) hb)
        have n4_ := Aside0.mk (bB (g := gb273) (o := .cells #[.int .u64 t267, .int .u64 t268, .int .u64 t269] 49 (0, 0)) (by (with_reducible repeat (first | refine bN ?_ _ | refine bD ?_ | refine bA ?_ _)); exact BK273.out) hb)
        have n5_ := Aside0.mk (bB (g := gb274) (o := .cells #[.int .u64 t270, .int .u64 t271, .int .u64 t272] 49 (0, 0)) (by (with_reducible repeat (first | refine bN ?_ _ | refine bD ?_ | refine bA ?_ _)); exact BK274.out) hb)
        have n6_ := Aside0.mk (lP (by repeat (first | (with_reducible first | exact HB.out | apply lA | apply lN | apply lD | refine lS ?_ GE257.out | refine lS ?_ GE258.out | refine lS ?_ GE262.out | refine lS ?_ GE266.out | refine lS ?_ GE273.out | refine lS ?_ GE274.out) | exact HB.out)) hb)
        clear BK257 BK258 BK262 BK266 BK273 BK274 HB
        have BK257 := n0_; have BK258 := n1_; have BK262 := n2_; have BK266 := n3_; have BK273 := n4_; have BK274 := n5_; have HB := n6_
        clear n0_ n1_ n2_ n3_ n4_ n5_ n6_
        (try clear hb)
        (try clear hb2)
        (try clear hk)
        (try clear hi)
        refine hK.out _ _ ⟨(bC BK257.out 0).trans rfl, (bC BK257.out 1).trans rfl, (bC BK258.out 0).trans rfl, (bC BK258.out 1).trans rfl, (bC BK262.out 0).trans rfl, (bC BK262.out 1).trans rfl, (bC BK266.out 0).trans rfl, (bC BK266.out 1).trans rfl, (bC BK273.out 0).trans rfl, (bC BK273.out 1).trans rfl, (bC BK273.out 2).trans rfl, (bC BK274.out 0).trans rfl, (bC BK274.out 1).trans rfl, (bC BK274.out 2).trans rfl⟩ (fun hHeld => ?_)
        clear hK K
        refine norm_ (a' := ?_) ?_ ?_
        rotate_left
        ·show Act.put _ (some 43) _ = _
         simp only [Act.put, List.setIfInBounds_toArray, List.set_cons_zero, List.set_cons_succ, i64_w, i32_w]
         rfl
        refine pure_ (i := 12) (N := some 44) (v := ?_) (a' := ?_) #[true, true, true, true, true, true, true, true, true, true, true, true, true, false, false, false, false, false, false, false, false, false, false, false, false, false, false, false, false, false, false, false, false, false, false, false, false, false, false, false, false, false, false, false, false, false, false, false, false, false, false, false, false, false, false, false, false, false] rfl rfl (any_of HT_.out (by kernel_rfl)) (fun _ _ _ h => h) (Or.inl ⟨by rfl, ?_⟩) ?_ ?_
        rotate_left
        ·intro w'
         go_simp
         with_reducible rfl
        rotate_left
        ·simp only [Act.put, List.setIfInBounds_toArray, List.set_cons_zero, List.set_cons_succ, i64_w, i32_w]
         rfl
        refine pure_ (i := 13) (N := some 45) (v := ?_) (a' := ?_) #[true, true, true, true, true, true, true, true, true, true, true, true, true, true, false, false, false, false, false, false, false, false, false, false, false, false, false, false, false, false, false, false, false, false, false, false, false, false, false, false, false, false, false, false, false, false, false, false, false, false, false, false, false, false, false, false, false, false] rfl rfl (any_of HT_.out (by kernel_rfl)) (fun _ _ _ h => h) (Or.inl ⟨by rfl, ?_⟩) ?_ ?_
        rotate_left
        ·intro w'
         go_simp
         with_reducible rfl
        rotate_left
        ·simp only [Act.put, List.setIfInBounds_toArray, List.set_cons_zero, List.set_cons_succ, i64_w, i32_w]
         rfl
        refine pure_ (i := 14) (N := some 46) (v := ?_) (a' := ?_) #[true, true, true, true, true, true, true, true, true, true, true, true, true, true, true, false, false, false, false, false, false, false, false, false, false, false, false, false, false, false, false, false, false, false, false, false, false, false, false, false, false, false, false, false, false, false, false, false, false, false, false, false, false, false, false, false, false, false] rfl rfl (any_of HT_.out (by kernel_rfl)) (fun _ _ _ h => h) (Or.inl ⟨by rfl, ?_⟩) ?_ ?_
        rotate_left
        ·intro w'
         go_simp
         with_reducible rfl
        rotate_left
        ·simp only [Act.put, List.setIfInBounds_toArray, List.set_cons_zero, List.set_cons_succ, i64_w, i32_w]
         rfl
        refine take_ (i := 15) (N := some 47) (v := ?_) (a' := ?_) #[true, true, true, true, true, true, true, true, true, true, true, true, true, true, true, true, false, false, false, false, false, false, false, false, false, false, false, false, false, false, false, false, false, false, false, false, false, false, false, false, false, false, false, false, false, false, false, false, false, false, false, false, false, false, false, false, false, false] rfl rfl (take_ofW HT_.out HW_.out (by kernel_rfl)) (fun _ _ _ h => h) (Or.inl ⟨by rfl, ?_⟩) hHeld ?_ ?_
        rotate_left
        ·rintro w' ⟨s0, s1, s2, s3, s4, s5, s6, s7, s8, s9, s10, s11, s12, s13⟩
         go_simp
         with_reducible rfl
        rotate_left
        ·simp only [Act.put, List.setIfInBounds_toArray, List.set_cons_zero, List.set_cons_succ, i64_w, i32_w]
         rfl
        refine take_ (i := 16) (N := some 48) (v := ?_) (a' := ?_) #[true, true, true, true, true, true, true, true, true, true, true, true, true, true, true, true, true, false, false, false, false, false, false, false, false, false, false, false, false, false, false, false, false, false, false, false, false, false, false, false, false, false, false, false, false, false, false, false, false, false, false, false, false, false, false, false, false, false] rfl rfl (take_ofW HT_.out HW_.out (by kernel_rfl)) (fun _ _ _ h => h) (Or.inl ⟨by rfl, ?_⟩) hHeld ?_ ?_
        rotate_left
        ·rintro w' ⟨s0, s1, s2, s3, s4, s5, s6, s7, s8, s9, s10, s11, s12, s13⟩
         go_simp
         with_reducible rfl
        rotate_left
        ·simp only [Act.put, List.setIfInBounds_toArray, List.set_cons_zero, List.set_cons_succ, i64_w, i32_w]
         rfl
        refine pure_ (i := 17) (N := some 49) (v := ?_) (a' := ?_) #[true, true, true, true, true, true, true, true, true, true, true, true, true, true, true, true, true, true, false, false, false, false, false, false, false, false, false, false, false, false, false, false, false, false, false, false, false, false, false, false, false, false, false, false, false, false, false, false, false, false, false, false, false, false, false, false, false, false] rfl rfl (any_of HT_.out (by kernel_rfl)) (fun _ _ _ h => h) (Or.inl ⟨by rfl, ?_⟩) ?_ ?_
        rotate_left
        ·intro w'
         go_simp
         with_reducible rfl
        rotate_left
        ·simp only [Act.put, List.setIfInBounds_toArray, List.set_cons_zero, List.set_cons_succ, i64_w, i32_w]
         rfl
        refine pure_ (i := 18) (N := some 50) (v := ?_) (a' := ?_) #[true, true, true, true, true, true, true, true, true, true, true, true, true, true, true, true, true, true, true, false, false, false, false, false, false, false, false, false, false, false, false, false, false, false, false, false, false, false, false, false, false, false, false, false, false, false, false, false, false, false, false, false, false, false, false, false, false, false] rfl rfl (any_of HT_.out (by kernel_rfl)) (fun _ _ _ h => h) (Or.inl ⟨by rfl, ?_⟩) ?_ ?_
        rotate_left
        ·intro w'
         go_simp
         with_reducible rfl
        rotate_left
        ·simp only [Act.put, List.setIfInBounds_toArray, List.set_cons_zero, List.set_cons_succ, i64_w, i32_w]
         rfl
        refine pure_ (i := 19) (N := some 51) (v := ?_) (a' := ?_) #[true, true, true, true, true, true, true, true, true, true, true, true, true, true, true, true, true, true, true, true, false, false, false, false, false, false, false, false, false, false, false, false, false, false, false, false, false, false, false, false, false, false, false, false, false, false, false, false, false, false, false, false, false, false, false, false, false, false] rfl rfl (any_of HT_.out (by kernel_rfl)) (fun _ _ _ h => h) (Or.inl ⟨by rfl, ?_⟩) ?_ ?_
        rotate_left
        ·intro w'
         go_simp
         with_reducible rfl
        rotate_left
        ·simp only [Act.put, List.setIfInBounds_toArray, List.set_cons_zero, List.set_cons_succ, i64_w, i32_w]
         rfl
        refine pure_ (i := 20) (N := some 52) (v := ?_) (a' := ?_) #[true, true, true, true, true, true, true, true, true, true, true, true, true, true, true, true, true, true, true, true, true, false, false, false, false, false, false, false, false, false, false, false, false, false, false, false, false, false, false, false, false, false, false, false, false, false, false, false, false, false, false, false, false, false, false, false, false, false] rfl rfl (any_of HT_.out (by kernel_rfl)) (fun _ _ _ h => h) (Or.inl ⟨by rfl, ?_⟩) ?_ ?_
        rotate_left
        ·intro w'
         go_simp
         with_reducible rfl
        rotate_left
        ·simp only [Act.put, List.setIfInBounds_toArray, List.set_cons_zero, List.set_cons_succ, i64_w, i32_w]
         rfl
        refine pure_ (i := 21) (N := some 53) (v := ?_) (a' := ?_) #[true, true, true, true, true, true, true, true, true, true, true, true, true, true, true, true, true, true, true, true, true, true, false, false, false, false, false, false, false, false, false, false, false, false, false, false, false, false, false, false, false, false, false, false, false, false, false, false, false, false, false, false, false, false, false, false, false, false] rfl rfl (any_of HT_.out (by kernel_rfl)) (fun _ _ _ h => h) (Or.inl ⟨by rfl, ?_⟩) ?_ ?_
        rotate_left
        ·intro w'
         go_simp
         with_reducible rfl
        rotate_left
        ·simp only [Act.put, List.setIfInBounds_toArray, List.set_cons_zero, List.set_cons_succ, i64_w, i32_w]
         rfl
        refine pure_ (i := 22) (N := some 54) (v := ?_) (a' := ?_) #[true, true, true, true, true, true, true, true, true, true, true, true, true, true, true, true, true, true, true, true, true, true, true, false, false, false, false, false, false, false, false, false, false, false, false, false, false, false, false, false, false, false, false, false, false, false, false, false, false, false, false, false, false, false, false, false, false, false] rfl rfl (any_of HT_.out (by kernel_rfl)) (fun _ _ _ h => h) (Or.inl ⟨by rfl, ?_⟩) ?_ ?_
        rotate_left
        ·intro w'
         go_simp
         with_reducible rfl
        rotate_left
        ·simp only [Act.put, List.setIfInBounds_toArray, List.set_cons_zero, List.set_cons_succ, i64_w, i32_w]
         rfl
        refine pure_ (i := 23) (N := some 55) (v := ?_) (a' := ?_) #[true, true, true, true, true, true, true, true, true, true, true, true, true, true, true, true, true, true, true, true, true, true, true, true, false, false, false, false, false, false, false, false, false, false, false, false, false, false, false, false, false, false, false, false, false, false, false, false, false, false, false, false, false, false, false, false, false, false] rfl rfl (any_of HT_.out (by kernel_rfl)) (fun _ _ _ h => h) (Or.inl ⟨by rfl, ?_⟩) ?_ ?_
        rotate_left
        ·intro w'
         go_simp
         with_reducible rfl
        rotate_left
        ·simp only [Act.put, List.setIfInBounds_toArray, List.set_cons_zero, List.set_cons_succ, i64_w, i32_w]
         rfl
        refine pure_ (i := 24) (N := some 56) (v := ?_) (a' := ?_) #[true, true, true, true, true, true, true, true, true, true, true, true, true, true, true, true, true, true, true, true, true, true, true, true, true, false, false, false, false, false, false, false, false, false, false, false, false, false, false, false, false, false, false, false, false, false, false, false, false, false, false, false, false, false, false, false, false, false] rfl rfl (any_of HT_.out (by kernel_rfl)) (fun _ _ _ h => h) (Or.inl ⟨by rfl, ?_⟩) ?_ ?_
        rotate_left
        ·intro w'
         go_simp
         with_reducible rfl
        rotate_left
        ·simp only [Act.put, List.setIfInBounds_toArray, List.set_cons_zero, List.set_cons_succ, i64_w, i32_w]
         rfl
        refine take_ (i := 25) (N := some 57) (v := ?_) (a' := ?_) #[true, true, true, true, true, true, true, true, true, true, true, true, true, true, true, true, true, true, true, true, true, true, true, true, true, true, false, false, false, false, false, false, false, false, false, false, false, false, false, false, false, false, false, false, false, false, false, false, false, false, false, false, false, false, false, false, false, false] rfl rfl (take_ofW HT_.out HW_.out (by kernel_rfl)) (fun _ _ _ h => h) (Or.inl ⟨by rfl, ?_⟩) hHeld ?_ ?_
        rotate_left
        ·rintro w' ⟨s0, s1, s2, s3, s4, s5, s6, s7, s8, s9, s10, s11, s12, s13⟩
         go_simp
         with_reducible rfl
        rotate_left
        ·simp only [Act.put, List.setIfInBounds_toArray, List.set_cons_zero, List.set_cons_succ, i64_w, i32_w]
         rfl
        refine take_ (i := 26) (N := some 58) (v := ?_) (a' := ?_) #[true, true, true, true, true, true, true, true, true, true, true, true, true, true, true, true, true, true, true, true, true, true, true, true, true, true, true, false, false, false, false, false, false, false, false, false, false, false, false, false, false, false, false, false, false, false, false, false, false, false, false, false, false, false, false, false, false, false] rfl rfl (take_ofW HT_.out HW_.out (by kernel_rfl)) (fun _ _ _ h => h) (Or.inl ⟨by rfl, ?_⟩) hHeld ?_ ?_
        rotate_left
        ·rintro w' ⟨s0, s1, s2, s3, s4, s5, s6, s7, s8, s9, s10, s11, s12, s13⟩
         go_simp
         with_reducible rfl
        rotate_left
        ·simp only [Act.put, List.setIfInBounds_toArray, List.set_cons_zero, List.set_cons_succ, i64_w, i32_w]
         rfl
        refine take_ (i := 28) (N := some 60) (v := ?_) (a' := ?_) #[true, true, true, true, true, true, true, true, true, true, true, true, true, true, true, true, true, true, true, true, true, true, true, true, true, true, true, false, true, false, false, false, false, false, false, false, false, false, false, false, false, false, false, false, false, false, false, false, false, false, false, false, false, false, false, false, false, false] rfl rfl (take_ofW HT_.out HW_.out (by kernel_rfl)) (fun _ _ _ h => h) (Or.inl ⟨by rfl, ?_⟩) hHeld ?_ ?_
        rotate_left
        ·rintro w' ⟨s0, s1, s2, s3, s4, s5, s6, s7, s8, s9, s10, s11, s12, s13⟩
         go_simp
         with_reducible rfl
        rotate_left
        ·simp only [Act.put, List.setIfInBounds_toArray, List.set_cons_zero, List.set_cons_succ, i64_w, i32_w]
         rfl
        refine take_ (i := 29) (N := some 61) (v := ?_) (a' := ?_) #[true, true, true, true, true, true, true, true, true, true, true, true, true, true, true, true, true, true, true, true, true, true, true, true, true, true, true, false, true, true, false, false, false, false, false, false, false, false, false, false, false, false, false, false, false, false, false, false, false, false, false, false, false, false, false, false, false, false] rfl rfl (take_ofW HT_.out HW_.out (by kernel_rfl)) (fun _ _ _ h => h) (Or.inl ⟨by rfl, ?_⟩) hHeld ?_ ?_
        rotate_left
        ·rintro w' ⟨s0, s1, s2, s3, s4, s5, s6, s7, s8, s9, s10, s11, s12, s13⟩
         go_simp
         with_reducible rfl
        rotate_left
        ·simp only [Act.put, List.setIfInBounds_toArray, List.set_cons_zero, List.set_cons_succ, i64_w, i32_w]
         rfl
        refine one_ (i := 27) (N := some 59) #[true, true, true, true, true, true, true, true, true, true, true, true, true, true, true, true, true, true, true, true, true, true, true, true, true, true, true, true, true, true, false, false, false, false, false, false, false, false, false, false, false, false, false, false, false, false, false, false, false, false, false, false, false, false, false, false, false, false] rfl rfl (one_of HT_.out (by kernel_rfl)) (by decide) (fun K hK => ?_)
        refine goes_ Try.func35 (by kernel_rfl) rfl #[.agg #[.int .u64 a0_0, .int .u64 a0_1], .agg #[.int .u64 a1_0, .int .u64 a1_1]] (by rfl) rfl rfl (by (try simp only [List.map_toArray, List.map_cons, List.map_nil]); first | done | rfl | (simp only [List.length_drop, List.length_take]; rfl)) ?_
        with_reducible refine (prod_Cmp.calls k a0_0 a0_1 a1_0 a1_1 t280 _ A15.out).mono ?_
        rintro e w60 ⟨rfl, hb⟩
        refine ⟨_, rfl, ?_⟩
        have n0_ := Aside0.mk (bB (g := gb257) (o := .cells #[.int .u64 a0_0, .int .u64 a0_1] 38 (0, 0)) (by (with_reducible repeat (first | refine bN ?_ _ | refine bD ?_ | refine bA ?_ _)); exact BK257.out) hb)
        have n1_ := Aside0.mk (bB (g := gb258) (o := .cells #[.int .u64 a1_0, .int .u64 a1_1] 38 (0, 0)) (by (with_reducible repeat (first | refine bN ?_ _ | refine bD ?_ | refine bA ?_ _)); exact BK258.out) hb)
        have n2_ := Aside0.mk (bB (g := gb262) (o := .cells #[.int .u64 t259, .int .u64 t260] 38 (0, 0)) (by (with_reducible repeat (first | refine bN ?_ _ | refine bD ?_ | refine bA ?_ _)); exact BK262.out) hb)
        have n3_ := Aside0.mk (bB (g := gb266) (o := .cells #[.int .u64 t263, .int .u64 t264] 38 (0, 0)) (by (with_reducible repeat (first | refine bN ?_ _ | refine bD ?_ | refine bA ?_ _)); exact BK266.out) hb)
        have n4_ := Aside0.mk (bB (g := gb273) (o := .cells #[.int .u64 t267, .int .u64 t268, .int .u64 t269] 49 (0, 0)) (by (with_reducible repeat (first | refine bN ?_ _ | refine bD ?_ | refine bA ?_ _)); exact BK273.out) hb)
        have n5_ := Aside0.mk (bB (g := gb274) (o := .cells #[.int .u64 t270, .int .u64 t271, .int .u64 t272] 49 (0, 0)) (by (with_reducible repeat (first | refine bN ?_ _ | refine bD ?_ | refine bA ?_ _)); exact BK274.out) hb)
        have n6_ := Aside0.mk (lP (by repeat (first | (with_reducible first | exact HB.out | apply lA | apply lN | apply lD | refine lS ?_ GE257.out | refine lS ?_ GE258.out | refine lS ?_ GE262.out | refine lS ?_ GE266.out | refine lS ?_ GE273.out | refine lS ?_ GE274.out) | exact HB.out)) hb)
        clear BK257 BK258 BK262 BK266 BK273 BK274 HB
        have BK257 := n0_; have BK258 := n1_; have BK262 := n2_; have BK266 := n3_; have BK273 := n4_; have BK274 := n5_; have HB := n6_
        clear n0_ n1_ n2_ n3_ n4_ n5_ n6_
        (try clear hb)
        (try clear hb2)
        (try clear hk)
        (try clear hi)
        refine hK.out _ _ ⟨(bC BK257.out 0).trans rfl, (bC BK257.out 1).trans rfl, (bC BK258.out 0).trans rfl, (bC BK258.out 1).trans rfl, (bC BK262.out 0).trans rfl, (bC BK262.out 1).trans rfl, (bC BK266.out 0).trans rfl, (bC BK266.out 1).trans rfl, (bC BK273.out 0).trans rfl, (bC BK273.out 1).trans rfl, (bC BK273.out 2).trans rfl, (bC BK274.out 0).trans rfl, (bC BK274.out 1).trans rfl, (bC BK274.out 2).trans rfl⟩ (fun hHeld => ?_)
        clear hK K
        refine norm_ (a' := ?_) ?_ ?_
        rotate_left
        ·show Act.put _ (some 59) _ = _
         simp only [Act.put, List.setIfInBounds_toArray, List.set_cons_zero, List.set_cons_succ, i64_w, i32_w]
         rfl
        refine one_ (i := 30) (N := some 62) #[true, true, true, true, true, true, true, true, true, true, true, true, true, true, true, true, true, true, true, true, true, true, true, true, true, true, true, true, true, true, true, false, false, false, false, false, false, false, false, false, false, false, false, false, false, false, false, false, false, false, false, false, false, false, false, false, false, false] rfl rfl (one_of HT_.out (by kernel_rfl)) (by decide) (fun K hK => ?_)
        refine goes_ Try.func36 (by kernel_rfl) rfl #[.agg #[.int .u64 a0_0, .int .u64 a0_1], .agg #[.int .u64 a1_0, .int .u64 a1_1]] (by rfl) rfl rfl (by (try simp only [List.map_toArray, List.map_cons, List.map_nil]); first | done | rfl | (simp only [List.length_drop, List.length_take]; rfl)) ?_
        with_reducible refine (hornbeamref04_Cmp.calls k a0_0 a0_1 a1_0 a1_1 t281 _ A16.out).mono ?_
        rintro e w61 ⟨rfl, hb⟩
        refine ⟨_, rfl, ?_⟩
        have n0_ := Aside0.mk (bB (g := gb257) (o := .cells #[.int .u64 a0_0, .int .u64 a0_1] 38 (0, 0)) (by (with_reducible repeat (first | refine bN ?_ _ | refine bD ?_ | refine bA ?_ _)); exact BK257.out) hb)
        have n1_ := Aside0.mk (bB (g := gb258) (o := .cells #[.int .u64 a1_0, .int .u64 a1_1] 38 (0, 0)) (by (with_reducible repeat (first | refine bN ?_ _ | refine bD ?_ | refine bA ?_ _)); exact BK258.out) hb)
        have n2_ := Aside0.mk (bB (g := gb262) (o := .cells #[.int .u64 t259, .int .u64 t260] 38 (0, 0)) (by (with_reducible repeat (first | refine bN ?_ _ | refine bD ?_ | refine bA ?_ _)); exact BK262.out) hb)
        have n3_ := Aside0.mk (bB (g := gb266) (o := .cells #[.int .u64 t263, .int .u64 t264] 38 (0, 0)) (by (with_reducible repeat (first | refine bN ?_ _ | refine bD ?_ | refine bA ?_ _)); exact BK266.out) hb)
        have n4_ := Aside0.mk (bB (g := gb273) (o := .cells #[.int .u64 t267, .int .u64 t268, .int .u64 t269] 49 (0, 0)) (by (with_reducible repeat (first | refine bN ?_ _ | refine bD ?_ | refine bA ?_ _)); exact BK273.out) hb)
        have n5_ := Aside0.mk (bB (g := gb274) (o := .cells #[.int .u64 t270, .int .u64 t271, .int .u64 t272] 49 (0, 0)) (by (with_reducible repeat (first | refine bN ?_ _ | refine bD ?_ | refine bA ?_ _)); exact BK274.out) hb)
        have n6_ := Aside0.mk (lP (by repeat (first | (with_reducible first | exact HB.out | apply lA | apply lN | apply lD | refine lS ?_ GE257.out | refine lS ?_ GE258.out | refine lS ?_ GE262.out | refine lS ?_ GE266.out | refine lS ?_ GE273.out | refine lS ?_ GE274.out) | exact HB.out)) hb)
        clear BK257 BK258 BK262 BK266 BK273 BK274 HB
        have BK257 := n0_; have BK258 := n1_; have BK262 := n2_; have BK266 := n3_; have BK273 := n4_; have BK274 := n5_; have HB := n6_
        clear n0_ n1_ n2_ n3_ n4_ n5_ n6_
        (try clear hb)
        (try clear hb2)
        (try clear hk)
        (try clear hi)
        refine hK.out _ _ ⟨(bC BK257.out 0).trans rfl, (bC BK257.out 1).trans rfl, (bC BK258.out 0).trans rfl, (bC BK258.out 1).trans rfl, (bC BK262.out 0).trans rfl, (bC BK262.out 1).trans rfl, (bC BK266.out 0).trans rfl, (bC BK266.out 1).trans rfl, (bC BK273.out 0).trans rfl, (bC BK273.out 1).trans rfl, (bC BK273.out 2).trans rfl, (bC BK274.out 0).trans rfl, (bC BK274.out 1).trans rfl, (bC BK274.out 2).trans rfl⟩ (fun hHeld => ?_)
        clear hK K
        refine norm_ (a' := ?_) ?_ ?_
        rotate_left
        ·show Act.put _ (some 62) _ = _
         simp only [Act.put, List.setIfInBounds_toArray, List.set_cons_zero, List.set_cons_succ, i64_w, i32_w]
         rfl
        refine pure_ (i := 31) (N := some 63) (v := ?_) (a' := ?_) #[true, true, true, true, true, true, true, true, true, true, true, true, true, true, true, true, true, true, true, true, true, true, true, true, true, true, true, true, true, true, true, true, false, false, false, false, false, false, false, false, false, false, false, false, false, false, false, false, false, false, false, false, false, false, false, false, false, false] rfl rfl (any_of HT_.out (by kernel_rfl)) (fun _ _ _ h => h) (Or.inl ⟨by rfl, ?_⟩) ?_ ?_
        rotate_left
        ·intro w'
         go_simp
         with_reducible rfl
        rotate_left
        ·simp only [Act.put, List.setIfInBounds_toArray, List.set_cons_zero, List.set_cons_succ, i64_w, i32_w]
         rfl
        refine pure_ (i := 32) (N := some 64) (v := ?_) (a' := ?_) #[true, true, true, true, true, true, true, true, true, true, true, true, true, true, true, true, true, true, true, true, true, true, true, true, true, true, true, true, true, true, true, true, true, false, false, false, false, false, false, false, false, false, false, false, false, false, false, false, false, false, false, false, false, false, false, false, false, false] rfl rfl (any_of HT_.out (by kernel_rfl)) (fun _ _ _ h => h) (Or.inl ⟨by rfl, ?_⟩) ?_ ?_
        rotate_left
        ·intro w'
         go_simp
         with_reducible rfl
        rotate_left
        ·simp only [Act.put, List.setIfInBounds_toArray, List.set_cons_zero, List.set_cons_succ, i64_w, i32_w]
         rfl
        refine pure_ (i := 33) (N := some 65) (v := ?_) (a' := ?_) #[true, true, true, true, true, true, true, true, true, true, true, true, true, true, true, true, true, true, true, true, true, true, true, true, true, true, true, true, true, true, true, true, true, true, false, false, false, false, false, false, false, false, false, false, false, false, false, false, false, false, false, false, false, false, false, false, false, false] rfl rfl (any_of HT_.out (by kernel_rfl)) (fun _ _ _ h => h) (Or.inl ⟨by rfl, ?_⟩) ?_ ?_
        rotate_left
        ·intro w'
         go_simp
         with_reducible rfl
        rotate_left
        ·simp only [Act.put, List.setIfInBounds_toArray, List.set_cons_zero, List.set_cons_succ, i64_w, i32_w]
         rfl
        refine pure_ (i := 36) (N := some 68) (v := ?_) (a' := ?_) #[true, true, true, true, true, true, true, true, true, true, true, true, true, true, true, true, true, true, true, true, true, true, true, true, true, true, true, true, true, true, true, true, true, true, false, false, true, false, false, false, false, false, false, false, false, false, false, false, false, false, false, false, false, false, false, false, false, false] rfl rfl (any_of HT_.out (by kernel_rfl)) (fun _ _ _ h => h) (Or.inl ⟨by rfl, ?_⟩) ?_ ?_
        rotate_left
        ·intro w'
         go_simp
         with_reducible rfl
        rotate_left
        ·simp only [Act.put, List.setIfInBounds_toArray, List.set_cons_zero, List.set_cons_succ, i64_w, i32_w]
         rfl
        refine take_ (i := 34) (N := some 66) (v := ?_) (a' := ?_) #[true, true, true, true, true, true, true, true, true, true, true, true, true, true, true, true, true, true, true, true, true, true, true, true, true, true, true, true, true, true, true, true, true, true, true, false, true, false, false, false, false, false, false, false, false, false, false, false, false, false, false, false, false, false, false, false, false, false] rfl rfl (take_ofW HT_.out HW_.out (by kernel_rfl)) (fun _ _ _ h => h) (Or.inl ⟨by rfl, ?_⟩) hHeld ?_ ?_
        rotate_left
        ·rintro w' ⟨s0, s1, s2, s3, s4, s5, s6, s7, s8, s9, s10, s11, s12, s13⟩
         go_simp
         with_reducible rfl
        rotate_left
        ·simp only [Act.put, List.setIfInBounds_toArray, List.set_cons_zero, List.set_cons_succ, i64_w, i32_w]
         rfl
        refine take_ (i := 35) (N := some 67) (v := ?_) (a' := ?_) #[true, true, true, true, true, true, true, true, true, true, true, true, true, true, true, true, true, true, true, true, true, true, true, true, true, true, true, true, true, true, true, true, true, true, true, true, true, false, false, false, false, false, false, false, false, false, false, false, false, false, false, false, false, false, false, false, false, false] rfl rfl (take_ofW HT_.out HW_.out (by kernel_rfl)) (fun _ _ _ h => h) (Or.inl ⟨by rfl, ?_⟩) hHeld ?_ ?_
        rotate_left
        ·rintro w' ⟨s0, s1, s2, s3, s4, s5, s6, s7, s8, s9, s10, s11, s12, s13⟩
         go_simp
         with_reducible rfl
        rotate_left
        ·simp only [Act.put, List.setIfInBounds_toArray, List.set_cons_zero, List.set_cons_succ, i64_w, i32_w]
         rfl
        refine one_ (i := 37) (N := some 69) #[true, true, true, true, true, true, true, true, true, true, true, true, true, true, true, true, true, true, true, true, true, true, true, true, true, true, true, true, true, true, true, true, true, true, true, true, true, true, false, false, false, false, false, false, false, false, false, false, false, false, false, false, false, false, false, false, false, false] rfl rfl (one_of HT_.out (by kernel_rfl)) (by decide) (fun K hK => ?_)
        refine goes_ Try.func37 (by kernel_rfl) rfl #[.agg #[.int .u64 a0_0, .int .u64 a0_1], .int .u64 a2] (by rfl) rfl rfl (by (try simp only [List.map_toArray, List.map_cons, List.map_nil]); first | done | rfl | (simp only [List.length_drop, List.length_take]; rfl)) ?_
        with_reducible refine (hornbeamref04_Times.calls k a0_0 a0_1 a2 t282 t283 t284 _ A18.out).mono ?_
        rintro e w62 ⟨rfl, hb⟩
        refine ⟨_, rfl, ?_⟩
        have n0_ := Aside0.mk (bB (g := gb257) (o := .cells #[.int .u64 a0_0, .int .u64 a0_1] 38 (0, 0)) (by (with_reducible repeat (first | refine bN ?_ _ | refine bD ?_ | refine bA ?_ _)); exact BK257.out) hb)
        have n1_ := Aside0.mk (bB (g := gb258) (o := .cells #[.int .u64 a1_0, .int .u64 a1_1] 38 (0, 0)) (by (with_reducible repeat (first | refine bN ?_ _ | refine bD ?_ | refine bA ?_ _)); exact BK258.out) hb)
        have n2_ := Aside0.mk (bB (g := gb262) (o := .cells #[.int .u64 t259, .int .u64 t260] 38 (0, 0)) (by (with_reducible repeat (first | refine bN ?_ _ | refine bD ?_ | refine bA ?_ _)); exact BK262.out) hb)
        have n3_ := Aside0.mk (bB (g := gb266) (o := .cells #[.int .u64 t263, .int .u64 t264] 38 (0, 0)) (by (with_reducible repeat (first | refine bN ?_ _ | refine bD ?_ | refine bA ?_ _)); exact BK266.out) hb)
        have n4_ := Aside0.mk (bB (g := gb273) (o := .cells #[.int .u64 t267, .int .u64 t268, .int .u64 t269] 49 (0, 0)) (by (with_reducible repeat (first | refine bN ?_ _ | refine bD ?_ | refine bA ?_ _)); exact BK273.out) hb)
        have n5_ := Aside0.mk (bB (g := gb274) (o := .cells #[.int .u64 t270, .int .u64 t271, .int .u64 t272] 49 (0, 0)) (by (with_reducible repeat (first | refine bN ?_ _ | refine bD ?_ | refine bA ?_ _)); exact BK274.out) hb)
        have n6_ := Aside0.mk (lP (by repeat (first | (with_reducible first | exact HB.out | apply lA | apply lN | apply lD | refine lS ?_ GE257.out | refine lS ?_ GE258.out | refine lS ?_ GE262.out | refine lS ?_ GE266.out | refine lS ?_ GE273.out | refine lS ?_ GE274.out) | exact HB.out)) hb)
        clear BK257 BK258 BK262 BK266 BK273 BK274 HB
        have BK257 := n0_; have BK258 := n1_; have BK262 := n2_; have BK266 := n3_; have BK273 := n4_; have BK274 := n5_; have HB := n6_
        clear n0_ n1_ n2_ n3_ n4_ n5_ n6_
        (try clear hb)
        (try clear hb2)
        (try clear hk)
        (try clear hi)
        refine hK.out _ _ ⟨(bC BK257.out 0).trans rfl, (bC BK257.out 1).trans rfl, (bC BK258.out 0).trans rfl, (bC BK258.out 1).trans rfl, (bC BK262.out 0).trans rfl, (bC BK262.out 1).trans rfl, (bC BK266.out 0).trans rfl, (bC BK266.out 1).trans rfl, (bC BK273.out 0).trans rfl, (bC BK273.out 1).trans rfl, (bC BK273.out 2).trans rfl, (bC BK274.out 0).trans rfl, (bC BK274.out 1).trans rfl, (bC BK274.out 2).trans rfl⟩ (fun hHeld => ?_)
        clear hK K
        refine norm_ (a' := ?_) ?_ ?_
        rotate_left
        ·show Act.put _ (some 69) _ = _
         simp only [Act.put, List.setIfInBounds_toArray, List.set_cons_zero, List.set_cons_succ, i64_w, i32_w]
         rfl
        refine pure_ (i := 38) (N := some 70) (v := ?_) (a' := ?_) #[true, true, true, true, true, true, true, true, true, true, true, true, true, true, true, true, true, true, true, true, true, true, true, true, true, true, true, true, true, true, true, true, true, true, true, true, true, true, true, false, false, false, false, false, false, false, false, false, false, false, false, false, false, false, false, false, false, false] rfl rfl (any_of HT_.out (by kernel_rfl)) (fun _ _ _ h => h) (Or.inl ⟨by rfl, ?_⟩) ?_ ?_
        rotate_left
        ·intro w'
         go_simp
         with_reducible rfl
        rotate_left
        ·simp only [Act.put, List.setIfInBounds_toArray, List.set_cons_zero, List.set_cons_succ, i64_w, i32_w]
         rfl
        refine pure_ (i := 39) (N := some 71) (v := ?_) (a' := ?_) #[true, true, true, true, true, true, true, true, true, true, true, true, true, true, true, true, true, true, true, true, true, true, true, true, true, true, true, true, true, true, true, true, true, true, true, true, true, true, true, true, false, false, false, false, false, false, false, false, false, false, false, false, false, false, false, false, false, false] rfl rfl (any_of HT_.out (by kernel_rfl)) (fun _ _ _ h => h) (Or.inl ⟨by rfl, ?_⟩) ?_ ?_
        rotate_left
        ·intro w'
         go_simp
         with_reducible rfl
        rotate_left
        ·simp only [Act.put, List.setIfInBounds_toArray, List.set_cons_zero, List.set_cons_succ, i64_w, i32_w]
         rfl
        refine pure_ (i := 40) (N := some 72) (v := ?_) (a' := ?_) #[true, true, true, true, true, true, true, true, true, true, true, true, true, true, true, true, true, true, true, true, true, true, true, true, true, true, true, true, true, true, true, true, true, true, true, true, true, true, true, true, true, false, false, false, false, false, false, false, false, false, false, false, false, false, false, false, false, false] rfl rfl (any_of HT_.out (by kernel_rfl)) (fun _ _ _ h => h) (Or.inl ⟨by rfl, ?_⟩) ?_ ?_
        rotate_left
        ·intro w'
         go_simp
         with_reducible rfl
        rotate_left
        ·simp only [Act.put, List.setIfInBounds_toArray, List.set_cons_zero, List.set_cons_succ, i64_w, i32_w]
         rfl
        refine pure_ (i := 43) (N := some 75) (v := ?_) (a' := ?_) #[true, true, true, true, true, true, true, true, true, true, true, true, true, true, true, true, true, true, true, true, true, true, true, true, true, true, true, true, true, true, true, true, true, true, true, true, true, true, true, true, true, false, false, true, false, false, false, false, false, false, false, false, false, false, false, false, false, false] rfl rfl (any_of HT_.out (by kernel_rfl)) (fun _ _ _ h => h) (Or.inl ⟨by rfl, ?_⟩) ?_ ?_
        rotate_left
        ·intro w'
         go_simp
         with_reducible rfl
        rotate_left
        ·simp only [Act.put, List.setIfInBounds_toArray, List.set_cons_zero, List.set_cons_succ, i64_w, i32_w]
         rfl
        refine take_ (i := 41) (N := some 73) (v := ?_) (a' := ?_) #[true, true, true, true, true, true, true, true, true, true, true, true, true, true, true, true, true, true, true, true, true, true, true, true, true, true, true, true, true, true, true, true, true, true, true, true, true, true, true, true, true, true, false, true, false, false, false, false, false, false, false, false, false, false, false, false, false, false] rfl rfl (take_ofW HT_.out HW_.out (by kernel_rfl)) (fun _ _ _ h => h) (Or.inl ⟨by rfl, ?_⟩) hHeld ?_ ?_
        rotate_left
        ·rintro w' ⟨s0, s1, s2, s3, s4, s5, s6, s7, s8, s9, s10, s11, s12, s13⟩
         go_simp
         with_reducible rfl
        rotate_left
        ·simp only [Act.put, List.setIfInBounds_toArray, List.set_cons_zero, List.set_cons_succ, i64_w, i32_w]
         rfl
        refine take_ (i := 42) (N := some 74) (v := ?_) (a' := ?_) #[true, true, true, true, true, true, true, true, true, true, true, true, true, true, true, true, true, true, true, true, true, true, true, true, true, true, true, true, true, true, true, true, true, true, true, true, true, true, true, true, true, true, true, true, false, false, false, false, false, false, false, false, false, false, false, false, false, false] rfl rfl (take_ofW HT_.out HW_.out (by kernel_rfl)) (fun _ _ _ h => h) (Or.inl ⟨by rfl, ?_⟩) hHeld ?_ ?_
        rotate_left
        ·rintro w' ⟨s0, s1, s2, s3, s4, s5, s6, s7, s8, s9, s10, s11, s12, s13⟩
         go_simp
         with_reducible rfl
        rotate_left
        ·simp only [Act.put, List.setIfInBounds_toArray, List.set_cons_zero, List.set_cons_succ, i64_w, i32_w]
         rfl
        refine take_ (i := 44) (N := some 76) (v := ?_) (a' := ?_) #[true, true, true, true, true, true, true, true, true, true, true, true, true, true, true, true, true, true, true, true, true, true, true, true, true, true, true, true, true, true, true, true, true, true, true, true, true, true, true, true, true, true, true, true, true, false, false, false, false, false, false, false, false, false, false, false, false, false] rfl rfl (take_ofW HT_.out HW_.out (by kernel_rfl)) (fun _ _ _ h => h) (Or.inl ⟨by rfl, ?_⟩) hHeld ?_ ?_
        rotate_left
        ·rintro w' ⟨s0, s1, s2, s3, s4, s5, s6, s7, s8, s9, s10, s11, s12, s13⟩
         go_simp
         with_reducible rfl
        rotate_left
        ·simp only [Act.put, List.setIfInBounds_toArray, List.set_cons_zero, List.set_cons_succ, i64_w, i32_w]
         rfl
        refine one_ (i := 45) (N := some 77) #[true, true, true, true, true, true, true, true, true, true, true, true, true, true, true, true, true, true, true, true, true, true, true, true, true, true, true, true, true, true, true, true, true, true, true, true, true, true, true, true, true, true, true, true, true, true, false, false, false, false, false, false, false, false, false, false, false, false] rfl rfl (one_of HT_.out (by kernel_rfl)) (by decide) (fun K hK => ?_)
        refine goes_ Try.func37 (by kernel_rfl) rfl #[.agg #[.int .u64 a1_0, .int .u64 a1_1], .int .u64 a0_1] (by rfl) rfl rfl (by (try simp only [List.map_toArray, List.map_cons, List.map_nil]); first | done | rfl | (simp only [List.length_drop, List.length_take]; rfl)) ?_
        with_reducible refine (hornbeamref04_Times.calls k a1_0 a1_1 a0_1 t285 t286 t287 _ A20.out).mono ?_
        rintro e w63 ⟨rfl, hb⟩
        refine ⟨_, rfl, ?_⟩
        have n0_ := Aside0.mk (bB (g := gb257) (o := .cells #[.int .u64 a0_0, .int .u64 a0_1] 38 (0, 0)) (by (with_reducible repeat (first | refine bN ?_ _ | refine bD ?_ | refine bA ?_ _)); exact BK257.out) hb)
        have n1_ := Aside0.mk (bB (g := gb258) (o := .cells #[.int .u64 a1_0, .int .u64 a1_1] 38 (0, 0)) (by (with_reducible repeat (first | refine bN ?_ _ | refine bD ?_ | refine bA ?_ _)); exact BK258.out) hb)
        have n2_ := Aside0.mk (bB (g := gb262) (o := .cells #[.int .u64 t259, .int .u64 t260] 38 (0, 0)) (by (with_reducible repeat (first | refine bN ?_ _ | refine bD ?_ | refine bA ?_ _)); exact BK262.out) hb)
        have n3_ := Aside0.mk (bB (g := gb266) (o := .cells #[.int .u64 t263, .int .u64 t264] 38 (0, 0)) (by (with_reducible repeat (first | refine bN ?_ _ | refine bD ?_ | refine bA ?_ _)); exact BK266.out) hb)
        have n4_ := Aside0.mk (bB (g := gb273) (o := .cells #[.int .u64 t267, .int .u64 t268, .int .u64 t269] 49 (0, 0)) (by (with_reducible repeat (first | refine bN ?_ _ | refine bD ?_ | refine bA ?_ _)); exact BK273.out) hb)
        have n5_ := Aside0.mk (bB (g := gb274) (o := .cells #[.int .u64 t270, .int .u64 t271, .int .u64 t272] 49 (0, 0)) (by (with_reducible repeat (first | refine bN ?_ _ | refine bD ?_ | refine bA ?_ _)); exact BK274.out) hb)
        have n6_ := Aside0.mk (lP (by repeat (first | (with_reducible first | exact HB.out | apply lA | apply lN | apply lD | refine lS ?_ GE257.out | refine lS ?_ GE258.out | refine lS ?_ GE262.out | refine lS ?_ GE266.out | refine lS ?_ GE273.out | refine lS ?_ GE274.out) | exact HB.out)) hb)
        clear BK257 BK258 BK262 BK266 BK273 BK274 HB
        have BK257 := n0_; have BK258 := n1_; have BK262 := n2_; have BK266 := n3_; have BK273 := n4_; have BK274 := n5_; have HB := n6_
        clear n0_ n1_ n2_ n3_ n4_ n5_ n6_
        (try clear hb)
        (try clear hb2)
        (try clear hk)
        (try clear hi)
        refine hK.out _ _ ⟨(bC BK257.out 0).trans rfl, (bC BK257.out 1).trans rfl, (bC BK258.out 0).trans rfl, (bC BK258.out 1).trans rfl, (bC BK262.out 0).trans rfl, (bC BK262.out 1).trans rfl, (bC BK266.out 0).trans rfl, (bC BK266.out 1).trans rfl, (bC BK273.out 0).trans rfl, (bC BK273.out 1).trans rfl, (bC BK273.out 2).trans rfl, (bC BK274.out 0).trans rfl, (bC BK274.out 1).trans rfl, (bC BK274.out 2).trans rfl⟩ (fun hHeld => ?_)
        clear hK K
        refine norm_ (a' := ?_) ?_ ?_
        rotate_left
        ·show Act.put _ (some 77) _ = _
         simp only [Act.put, List.setIfInBounds_toArray, List.set_cons_zero, List.set_cons_succ, i64_w, i32_w]
         rfl
        refine pure_ (i := 46) (N := some 78) (v := ?_) (a' := ?_) #[true, true, true, true, true, true, true, true, true, true, true, true, true, true, true, true, true, true, true, true, true, true, true, true, true, true, true, true, true, true, true, true, true, true, true, true, true, true, true, true, true, true, true, true, true, true, true, false, false, false, false, false, false, false, false, false, false, false] rfl rfl (any_of HT_.out (by kernel_rfl)) (fun _ _ _ h => h) (Or.inl ⟨by rfl, ?_⟩) ?_ ?_
        rotate_left
        ·intro w'
         go_simp
         with_reducible rfl
        rotate_left
        ·simp only [Act.put, List.setIfInBounds_toArray, List.set_cons_zero, List.set_cons_succ, i64_w, i32_w]
         rfl
        refine pure_ (i := 47) (N := some 79) (v := ?_) (a' := ?_) #[true, true, true, true, true, true, true, true, true, true, true, true, true, true, true, true, true, true, true, true, true, true, true, true, true, true, true, true, true, true, true, true, true, true, true, true, true, true, true, true, true, true, true, true, true, true, true, true, false, false, false, false, false, false, false, false, false, false] rfl rfl (any_of HT_.out (by kernel_rfl)) (fun _ _ _ h => h) (Or.inl ⟨by rfl, ?_⟩) ?_ ?_
        rotate_left
        ·intro w'
         go_simp
         with_reducible rfl
        rotate_left
        ·simp only [Act.put, List.setIfInBounds_toArray, List.set_cons_zero, List.set_cons_succ, i64_w, i32_w]
         rfl
        refine pure_ (i := 48) (N := some 80) (v := ?_) (a' := ?_) #[true, true, true, true, true, true, true, true, true, true, true, true, true, true, true, true, true, true, true, true, true, true, true, true, true, true, true, true, true, true, true, true, true, true, true, true, true, true, true, true, true, true, true, true, true, true, true, true, true, false, false, false, false, false, false, false, false, false] rfl rfl (any_of HT_.out (by kernel_rfl)) (fun _ _ _ h => h) (Or.inl ⟨by rfl, ?_⟩) ?_ ?_
        rotate_left
        ·intro w'
         go_simp
         with_reducible rfl
        rotate_left
        ·simp only [Act.put, List.setIfInBounds_toArray, List.set_cons_zero, List.set_cons_succ, i64_w, i32_w]
         rfl
        refine take_ (i := 49) (N := some 81) (v := ?_) (a' := ?_) #[true, true, true, true, true, true, true, true, true, true, true, true, true, true, true, true, true, true, true, true, true, true, true, true, true, true, true, true, true, true, true, true, true, true, true, true, true, true, true, true, true, true, true, true, true, true, true, true, true, true, false, false, false, false, false, false, false, false] rfl rfl (take_ofW HT_.out HW_.out (by kernel_rfl)) (fun _ _ _ h => h) (Or.inl ⟨by rfl, ?_⟩) hHeld ?_ ?_
        rotate_left
        ·rintro w' ⟨s0, s1, s2, s3, s4, s5, s6, s7, s8, s9, s10, s11, s12, s13⟩
         go_simp
         with_reducible rfl
        rotate_left
        ·simp only [Act.put, List.setIfInBounds_toArray, List.set_cons_zero, List.set_cons_succ, i64_w, i32_w]
         rfl
        refine take_ (i := 50) (N := some 82) (v := ?_) (a' := ?_) #[true, true, true, true, true, true, true, true, true, true, true, true, true, true, true, true, true, true, true, true, true, true, true, true, true, true, true, true, true, true, true, true, true, true, true, true, true, true, true, true, true, true, true, true, true, true, true, true, true, true, true, false, false, false, false, false, false, false] rfl rfl (take_ofW HT_.out HW_.out (by kernel_rfl)) (fun _ _ _ h => h) (Or.inl ⟨by rfl, ?_⟩) hHeld ?_ ?_
        rotate_left
        ·rintro w' ⟨s0, s1, s2, s3, s4, s5, s6, s7, s8, s9, s10, s11, s12, s13⟩
         go_simp
         with_reducible rfl
        rotate_left
        ·simp only [Act.put, List.setIfInBounds_toArray, List.set_cons_zero, List.set_cons_succ, i64_w, i32_w]
         rfl
        refine take_ (i := 52) (N := some 84) (v := ?_) (a' := ?_) #[true, true, true, true, true, true, true, true, true, true, true, true, true, true, true, true, true, true, true, true, true, true, true, true, true, true, true, true, true, true, true, true, true, true, true, true, true, true, true, true, true, true, true, true, true, true, true, true, true, true, true, false, true, false, false, false, false, false] rfl rfl (take_ofW HT_.out HW_.out (by kernel_rfl)) (fun _ _ _ h => h) (Or.inl ⟨by rfl, ?_⟩) hHeld ?_ ?_
        rotate_left
        ·rintro w' ⟨s0, s1, s2, s3, s4, s5, s6, s7, s8, s9, s10, s11, s12, s13⟩
         go_simp
         with_reducible rfl
        rotate_left
        ·simp only [Act.put, List.setIfInBounds_toArray, List.set_cons_zero, List.set_cons_succ, i64_w, i32_w]
         rfl
        refine take_ (i := 53) (N := some 85) (v := ?_) (a' := ?_) #[true, true, true, true, true, true, true, true, true, true, true, true, true, true, true, true, true, true, true, true, true, true, true, true, true, true, true, true, true, true, true, true, true, true, true, true, true, true, true, true, true, true, true, true, true, true, true, true, true, true, true, false, true, true, false, false, false, false] rfl rfl (take_ofW HT_.out HW_.out (by kernel_rfl)) (fun _ _ _ h => h) (Or.inl ⟨by rfl, ?_⟩) hHeld ?_ ?_
        rotate_left
        ·rintro w' ⟨s0, s1, s2, s3, s4, s5, s6, s7, s8, s9, s10, s11, s12, s13⟩
         go_simp
         with_reducible rfl
        rotate_left
        ·simp only [Act.put, List.setIfInBounds_toArray, List.set_cons_zero, List.set_cons_succ, i64_w, i32_w]
         rfl
        refine one_ (i := 51) (N := some 83) #[true, true, true, true, true, true, true, true, true, true, true, true, true, true, true, true, true, true, true, true, true, true, true, true, true, true, true, true, true, true, true, true, true, true, true, true, true, true, true, true, true, true, true, true, true, true, true, true, true, true, true, true, true, true, false, false, false, false] rfl rfl (one_of HT_.out (by kernel_rfl)) (by decide) (fun K hK => ?_)
        refine goes_ Try.func33 (by kernel_rfl) rfl #[.agg #[.int .u64 t267, .int .u64 t268, .int .u64 t269], .agg #[.int .u64 t270, .int .u64 t271, .int .u64 t272]] (by rfl) rfl rfl (by (try simp only [List.map_toArray, List.map_cons, List.map_nil]); first | done | rfl | (simp only [List.length_drop, List.length_take]; rfl)) ?_
        with_reducible refine (prod_CmpLong.calls t267 t268 t269 t270 t271 t272 t288 _ A22.out).mono ?_
        rintro e w64 ⟨rfl, hb⟩
        refine ⟨_, rfl, ?_⟩
        have n0_ := Aside0.mk (bB (g := gb257) (o := .cells #[.int .u64 a0_0, .int .u64 a0_1] 38 (0, 0)) (by (with_reducible repeat (first | refine bN ?_ _ | refine bD ?_ | refine bA ?_ _)); exact BK257.out) hb)
        have n1_ := Aside0.mk (bB (g := gb258) (o := .cells #[.int .u64 a1_0, .int .u64 a1_1] 38 (0, 0)) (by (with_reducible repeat (first | refine bN ?_ _ | refine bD ?_ | refine bA ?_ _)); exact BK258.out) hb)
        have n2_ := Aside0.mk (bB (g := gb262) (o := .cells #[.int .u64 t259, .int .u64 t260] 38 (0, 0)) (by (with_reducible repeat (first | refine bN ?_ _ | refine bD ?_ | refine bA ?_ _)); exact BK262.out) hb)
        have n3_ := Aside0.mk (bB (g := gb266) (o := .cells #[.int .u64 t263, .int .u64 t264] 38 (0, 0)) (by (with_reducible repeat (first | refine bN ?_ _ | refine bD ?_ | refine bA ?_ _)); exact BK266.out) hb)
        have n4_ := Aside0.mk (bB (g := gb273) (o := .cells #[.int .u64 t267, .int .u64 t268, .int .u64 t269] 49 (0, 0)) (by (with_reducible repeat (first | refine bN ?_ _ | refine bD ?_ | refine bA ?_ _)); exact BK273.out) hb)
        have n5_ := Aside0.mk (bB (g := gb274) (o := .cells #[.int .u64 t270, .int .u64 t271, .int .u64 t272] 49 (0, 0)) (by (with_reducible repeat (first | refine bN ?_ _ | refine bD ?_ | refine bA ?_ _)); exact BK274.out) hb)
        have n6_ := Aside0.mk (lP (by repeat (first | (with_reducible first | exact HB.out | apply lA | apply lN | apply lD | refine lS ?_ GE257.out | refine lS ?_ GE258.out | refine lS ?_ GE262.out | refine lS ?_ GE266.out | refine lS ?_ GE273.out | refine lS ?_ GE274.out) | exact HB.out)) hb)
        clear BK257 BK258 BK262 BK266 BK273 BK274 HB
        have BK257 := n0_; have BK258 := n1_; have BK262 := n2_; have BK266 := n3_; have BK273 := n4_; have BK274 := n5_; have HB := n6_
        clear n0_ n1_ n2_ n3_ n4_ n5_ n6_
        (try clear hb)
        (try clear hb2)
        (try clear hk)
        (try clear hi)
        refine hK.out _ _ ⟨(bC BK257.out 0).trans rfl, (bC BK257.out 1).trans rfl, (bC BK258.out 0).trans rfl, (bC BK258.out 1).trans rfl, (bC BK262.out 0).trans rfl, (bC BK262.out 1).trans rfl, (bC BK266.out 0).trans rfl, (bC BK266.out 1).trans rfl, (bC BK273.out 0).trans rfl, (bC BK273.out 1).trans rfl, (bC BK273.out 2).trans rfl, (bC BK274.out 0).trans rfl, (bC BK274.out 1).trans rfl, (bC BK274.out 2).trans rfl⟩ (fun hHeld => ?_)
        clear hK K
        refine norm_ (a' := ?_) ?_ ?_
        rotate_left
        ·show Act.put _ (some 83) _ = _
         simp only [Act.put, List.setIfInBounds_toArray, List.set_cons_zero, List.set_cons_succ, i64_w, i32_w]
         rfl
        refine one_ (i := 54) (N := some 86) #[true, true, true, true, true, true, true, true, true, true, true, true, true, true, true, true, true, true, true, true, true, true, true, true, true, true, true, true, true, true, true, true, true, true, true, true, true, true, true, true, true, true, true, true, true, true, true, true, true, true, true, true, true, true, true, false, false, false] rfl rfl (one_of HT_.out (by kernel_rfl)) (by decide) (fun K hK => ?_)
        refine goes_ Try.func38 (by kernel_rfl) rfl #[.agg #[.int .u64 t267, .int .u64 t268, .int .u64 t269], .agg #[.int .u64 t270, .int .u64 t271, .int .u64 t272]] (by rfl) rfl rfl (by (try simp only [List.map_toArray, List.map_cons, List.map_nil]); first | done | rfl | (simp only [List.length_drop, List.length_take]; rfl)) ?_
        with_reducible refine (hornbeamref04_CmpLong.calls t267 t268 t269 t270 t271 t272 t289 _ A23.out).mono ?_
        rintro e w65 ⟨rfl, hb⟩
        refine ⟨_, rfl, ?_⟩
        have n0_ := Aside0.mk (bB (g := gb257) (o := .cells #[.int .u64 a0_0, .int .u64 a0_1] 38 (0, 0)) (by (with_reducible repeat (first | refine bN ?_ _ | refine bD ?_ | refine bA ?_ _)); exact BK257.out) hb)
        have n1_ := Aside0.mk (bB (g := gb258) (o := .cells #[.int .u64 a1_0, .int .u64 a1_1] 38 (0, 0)) (by (with_reducible repeat (first | refine bN ?_ _ | refine bD ?_ | refine bA ?_ _)); exact BK258.out) hb)
        have n2_ := Aside0.mk (bB (g := gb262) (o := .cells #[.int .u64 t259, .int .u64 t260] 38 (0, 0)) (by (with_reducible repeat (first | refine bN ?_ _ | refine bD ?_ | refine bA ?_ _)); exact BK262.out) hb)
        have n3_ := Aside0.mk (bB (g := gb266) (o := .cells #[.int .u64 t263, .int .u64 t264] 38 (0, 0)) (by (with_reducible repeat (first | refine bN ?_ _ | refine bD ?_ | refine bA ?_ _)); exact BK266.out) hb)
        have n4_ := Aside0.mk (bB (g := gb273) (o := .cells #[.int .u64 t267, .int .u64 t268, .int .u64 t269] 49 (0, 0)) (by (with_reducible repeat (first | refine bN ?_ _ | refine bD ?_ | refine bA ?_ _)); exact BK273.out) hb)
        have n5_ := Aside0.mk (bB (g := gb274) (o := .cells #[.int .u64 t270, .int .u64 t271, .int .u64 t272] 49 (0, 0)) (by (with_reducible repeat (first | refine bN ?_ _ | refine bD ?_ | refine bA ?_ _)); exact BK274.out) hb)
        have n6_ := Aside0.mk (lP (by repeat (first | (with_reducible first | exact HB.out | apply lA | apply lN | apply lD | refine lS ?_ GE257.out | refine lS ?_ GE258.out | refine lS ?_ GE262.out | refine lS ?_ GE266.out | refine lS ?_ GE273.out | refine lS ?_ GE274.out) | exact HB.out)) hb)
        clear BK257 BK258 BK262 BK266 BK273 BK274 HB
        have BK257 := n0_; have BK258 := n1_; have BK262 := n2_; have BK266 := n3_; have BK273 := n4_; have BK274 := n5_; have HB := n6_
        clear n0_ n1_ n2_ n3_ n4_ n5_ n6_
        (try clear hb)
        (try clear hb2)
        (try clear hk)
        (try clear hi)
        refine hK.out _ _ ⟨(bC BK257.out 0).trans rfl, (bC BK257.out 1).trans rfl, (bC BK258.out 0).trans rfl, (bC BK258.out 1).trans rfl, (bC BK262.out 0).trans rfl, (bC BK262.out 1).trans rfl, (bC BK266.out 0).trans rfl, (bC BK266.out 1).trans rfl, (bC BK273.out 0).trans rfl, (bC BK273.out 1).trans rfl, (bC BK273.out 2).trans rfl, (bC BK274.out 0).trans rfl, (bC BK274.out 1).trans rfl, (bC BK274.out 2).trans rfl⟩ (fun hHeld => ?_)
        clear hK K
        refine norm_ (a' := ?_) ?_ ?_
        rotate_left
        ·show Act.put _ (some 86) _ = _
         simp only [Act.put, List.setIfInBounds_toArray, List.set_cons_zero, List.set_cons_succ, i64_w, i32_w]
         rfl
        refine pure_ (i := 55) (N := some 87) (v := ?_) (a' := ?_) #[true, true, true, true, true, true, true, true, true, true, true, true, true, true, true, true, true, true, true, true, true, true, true, true, true, true, true, true, true, true, true, true, true, true, true, true, true, true, true, true, true, true, true, true, true, true, true, true, true, true, true, true, true, true, true, true, false, false] rfl rfl (any_of HT_.out (by kernel_rfl)) (fun _ _ _ h => h) (Or.inl ⟨by rfl, ?_⟩) ?_ ?_
        rotate_left
        ·intro w'
         go_simp
         with_reducible rfl
        rotate_left
        ·simp only [Act.put, List.setIfInBounds_toArray, List.set_cons_zero, List.set_cons_succ, i64_w, i32_w]
         rfl
        refine pure_ (i := 56) (N := some 88) (v := ?_) (a' := ?_) #[true, true, true, true, true, true, true, true, true, true, true, true, true, true, true, true, true, true, true, true, true, true, true, true, true, true, true, true, true, true, true, true, true, true, true, true, true, true, true, true, true, true, true, true, true, true, true, true, true, true, true, true, true, true, true, true, true, false] rfl rfl (any_of HT_.out (by kernel_rfl)) (fun _ _ _ h => h) (Or.inl ⟨by rfl, ?_⟩) ?_ ?_
        rotate_left
        ·intro w'
         go_simp
         with_reducible rfl
        rotate_left
        ·simp only [Act.put, List.setIfInBounds_toArray, List.set_cons_zero, List.set_cons_succ, i64_w, i32_w]
         rfl
        refine pure_ (i := 57) (N := some 6) (v := ?_) (a' := ?_) #[true, true, true, true, true, true, true, true, true, true, true, true, true, true, true, true, true, true, true, true, true, true, true, true, true, true, true, true, true, true, true, true, true, true, true, true, true, true, true, true, true, true, true, true, true, true, true, true, true, true, true, true, true, true, true, true, true, true] rfl rfl (any_of HT_.out (by kernel_rfl)) (fun _ _ _ h => h) (Or.inl ⟨by rfl, ?_⟩) ?_ ?_
        rotate_left
        ·intro w'
         go_simp
         with_reducible rfl
        rotate_left
        ·simp only [Act.put, List.setIfInBounds_toArray, List.set_cons_zero, List.set_cons_succ, i64_w, i32_w]
         rfl
        refine done_ (done_of HT_.out (by kernel_rfl)) ?_
        try go_wp2
        all_goals (go_ret; exact ⟨by first | rfl | (simp [errW_none, errW_some] <;> rfl) | (simp [*, errW_none, errW_some] <;> rfl) | (simp_all; done), by repeat (first | (with_reducible first | exact HB.out | apply lA | apply lN | apply lD | refine lS ?_ GE257.out | refine lS ?_ GE258.out | refine lS ?_ GE262.out | refine lS ?_ GE266.out | refine lS ?_ GE273.out | refine lS ?_ GE274.out) | exact HB.out)⟩)
       ·rw [if_neg c21] at H
        have c21b0 : (t270 == t285 && (t271 == t286 && (t272 == t287))) = false := by simpa using c21
        (try (have c21b1 : decide (t270 = t285 && (t271 == t286 && (t272 == t287))) = false := by simpa using c21))
        (try (have c21b2 : (t270 == t285 && (t271 == t286 && (t272 == t287))) = false := by simpa using c21))
        (try (have c21b3 : ¬ (t270 = t285 && (t271 == t286 && (t272 == t287))) := by simpa using c21))
        clear c21
        exact absurd (Option.some.inj H) (by rw [HR_.out]; decide)
      ·rw [if_neg c19] at H
       have c19b0 : (t267 == t282 && (t268 == t283 && (t269 == t284))) = false := by simpa using c19
       (try (have c19b1 : decide (t267 = t282 && (t268 == t283 && (t269 == t284))) = false := by simpa using c19))
       (try (have c19b2 : (t267 == t282 && (t268 == t283 && (t269 == t284))) = false := by simpa using c19))
       (try (have c19b3 : ¬ (t267 = t282 && (t268 == t283 && (t269 == t284))) := by simpa using c19))
       clear c19
       exact absurd (Option.some.inj H) (by rw [HR_.out]; decide)
     ·rw [if_neg c17] at H
      have c17b0 : (t280 == t281) = false := beq_eq_false_iff_ne.mpr c17
      have c17b1 : (t280 != t281) = true := bne_iff_ne.mpr c17
      exact absurd (Option.some.inj H) (by rw [HR_.out]; decide)
    ·rw [if_neg c14] at H
     have c14b0 : (t261 == t265) = false := beq_eq_false_iff_ne.mpr c14
     have c14b1 : (t261 != t265) = true := bne_iff_ne.mpr c14
     exact absurd (Option.some.inj H) (by rw [HR_.out]; decide)
   ·rw [if_neg c13] at H
    have c13b0 : (t259 == t263 && (t260 == t264)) = false := by simpa using c13
    (try (have c13b1 : decide (t259 = t263 && (t260 == t264)) = false := by simpa using c13))
    (try (have c13b2 : (t259 == t263 && (t260 == t264)) = false := by simpa using c13))
    (try (have c13b3 : ¬ (t259 = t263 && (t260 == t264)) := by simpa using c13))
    clear c13
    exact absurd (Option.some.inj H) (by rw [HR_.out]; decide)
  ·rw [if_neg c12] at H
   have c12b0 : (t276 == t278 && (t277 == t279)) = false := by simpa using c12
   (try (have c12b1 : decide (t276 = t278 && (t277 == t279)) = false := by simpa using c12))
   (try (have c12b2 : (t276 == t278 && (t277 == t279)) = false := by simpa using c12))
   (try (have c12b3 : ¬ (t276 = t278 && (t277 == t279)) := by simpa using c12))
   clear c12
   exact absurd (Option.some.inj H) (by rw [HR_.out]; decide)
 ·replace c9 := Bool.eq_false_iff.mpr c9
  subst c9
  have H1 : (some false) = some r := by rw [if_neg (show ¬ (false = true) by decide)] at H; exact H
  clear H
  have H := H1
  clear H1
  exact absurd (Option.some.inj H) (by rw [HR_.out]; decide)

/-- THE ONE PURE STATEMENT of hornbeamlaw04_ProdWides: yours. -/
def hornbeamlaw04_ProdWides.Pure : Prop := ∀ (a0_0 : Int) (a0_1 : Int) (a1_0 : Int) (a1_1 : Int) (a2 : Int), (Lit.int .u64 a0_0).wf = true → (Lit.int .u64 a0_1).wf = true → (Lit.int .u64 a1_0).wf = true → (Lit.int .u64 a1_1).wf = true → (Lit.int .u64 a2).wf = true → ∃ k, hornbeamlaw04_ProdWides.f k a0_0 a0_1 a1_0 a1_1 a2 = some true

end Go.Proofs.Ytglicbpnmehloaa.QProdWides
