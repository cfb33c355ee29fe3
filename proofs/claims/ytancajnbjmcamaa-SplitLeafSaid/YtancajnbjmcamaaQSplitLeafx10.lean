-- Written by a program of this session (wip/tools/mkprint.py over the kit's print); Lean checks it.
import Derived.Test.YtancajnbjmcamaaQSplitLeafx0
import Derived.Test.YtancajnbjmcamaaQSplitLeafx4
import Derived.Test.YtancajnbjmcamaaQSplitLeafx9
namespace Go.Proofs.Ytancajnbjmcamaa.QSplitLeaf
open Go.RowKit Go.Proofs.YtancajnbjmcamaaW.PrintWords Go.Proofs.YtancajnbjmcamaaW.PrintLast Go.Proofs.YtancajnbjmcamaaW.PrintMore
attribute [local go_sem] max2_int min2_int max_two min_two max_three min_three max_four min_four   -- for this text's walks alone
set_option linter.unusedVariables false
set_option linter.unusedSimpArgs false

/-! ### hist_Sum: function 34 -/
set_option maxHeartbeats 4000000 in
theorem hist_moments.calls (w : World) : Calls Try.prog 49 #[.func (.func 50) #[] #[]] w fun e w' => ∃ g, e = .returned (.func (.func 61) #[] #[.pointer (some ⟨g, 0, none⟩)]) ∧ w'.cell? ⟨g, 0, none⟩ = some (.func (.func 50) #[] #[]) ∧ Below w.heap.size w w' := by
 go_enter Try.func49, Try.ntmps49
 go_wp2
 go_ret
 exact ⟨_, rfl, (bC (blk_new _ _) 0).trans rfl, lA (Below.refl _ _) _⟩
mutual
def hist_Sum.j0 : Nat → Int → Int → List Int → Int → Int → Int → List Int → List (S54) → Option (List Int × Int × Int × Int × Int)
 | 0, _, _, _, _, _, _, _, _ => none
 | k + 1, x1, x2, x9, x232000, x232001, x232002, x232003, x232004 => hist_Sum.l0 k x2 x9 x1 x232000 x232001 x232002 x232003 x232004 0 0 0
def hist_Sum.l0 : Nat → Int → List Int → Int → Int → Int → Int → List Int → List (S54) → Int → Int → Int → Option (List Int × Int × Int × Int × Int)
 | 0, _, _, _, _, _, _, _, _, _, _, _ => none
 | k + 1, x2, x9, x11, x232000, x232001, x232002, x232003, x232004, x238000, x238001, x238002 => if x11 < x2 then (hist_Sum.l1 k x2 x9 x11 (x9.length : Int) 0 x232000 x232001 x232002 x232003 x232004 x238000 x238001 x238002) else (some (x9, x238000, x238001, x238002, 0))
def hist_Sum.l1 : Nat → Int → List Int → Int → Int → Int → Int → Int → Int → List Int → List (S54) → Int → Int → Int → Option (List Int × Int × Int × Int × Int)
 | 0, _, _, _, _, _, _, _, _, _, _, _, _, _ => none
 | k + 1, x2, x9, x11, x50, x51, x232000, x232001, x232002, x232003, x232004, x238000, x238001, x238002 => if x51 < x50 then (if 0 ≤ x51 then (if x51 < (x9.length : Int) then (if 0 ≤ (wrap64 ((wrap64 (x11 * x232002)) + x51)) then (if (wrap64 ((wrap64 (x11 * x232002)) + x51)) < (x232003.length : Int) then ((prod_Plus.f (rd x9 x51) (rd x232003 (wrap64 ((wrap64 (x11 * x232002)) + x51)))).bind fun bt240 => (if bt240.2 = 0 then (hist_Sum.l1 k x2 (x9.set (x51 : Int).toNat bt240.1) x11 x50 (wrap64 (x51 + 1)) x232000 x232001 x232002 x232003 x232004 x238000 x238001 x238002) else (some (([] : List Int), 0, 0, 0, bt240.2)))) else (none)) else (none)) else (none)) else (none)) else (if x232000 = 1 then (if 0 ≤ x11 then (if x11 < (x232004.length : Int) then ((hist_moments_1.f x238000 x238001 x238002 ((rd_T54 x232004 x11).f0) ((rd_T54 x232004 x11).f1) ((rd_T54 x232004 x11).f2)).bind fun bt244 => (if bt244.2.2.2 = 0 then (hist_Sum.l0 k x2 x9 (wrap64 (x11 + 1)) x232000 x232001 x232002 x232003 x232004 bt244.1 bt244.2.1 bt244.2.2.1) else (some (([] : List Int), 0, 0, 0, bt244.2.2.2)))) else (none)) else (none)) else (hist_Sum.l0 k x2 x9 (wrap64 (x11 + 1)) x232000 x232001 x232002 x232003 x232004 x238000 x238001 x238002))
end
def hist_Sum.f (k : Nat) (a0_0 : Int) (a0_1 : Int) (a0_2 : Int) (l0_3 : List Int) (l0_4 : List (S54)) (a1 : Int) (a2 : Int) : Option (List Int × Int × Int × Int × Int) := (hist_Right.f a0_0 a0_1 a0_2 l0_3 l0_4).bind fun t233 => (if t233 = true then (if a1 < 0 then (some (([] : List Int), 0, 0, 0, 1)) else (if a1 > a2 then (some (([] : List Int), 0, 0, 0, 1)) else (if a2 > a0_1 then (some (([] : List Int), 0, 0, 0, 1)) else (if a0_0 = 0 then (if 0 ≤ a0_2 then (if (a0_2 : Int).toNat ≤ 35184372088832 then (hist_Sum.j0 k a1 a2 (List.replicate (a0_2 : Int).toNat 0) a0_0 a0_1 a0_2 l0_3 l0_4) else (none)) else (none)) else (hist_Sum.j0 k a1 a2 ([] : List Int) a0_0 a0_1 a0_2 l0_3 l0_4))))) else (some (([] : List Int), 0, 0, 0, 8)))
theorem hist_Sum.mono_l : ∀ k, (∀ y0 y1 y2 y3 y4 y5 y6 y7, LeO (hist_Sum.j0 k y0 y1 y2 y3 y4 y5 y6 y7) (hist_Sum.j0 (k + 1) y0 y1 y2 y3 y4 y5 y6 y7)) ∧ (∀ y0 y1 y2 y3 y4 y5 y6 y7 y8 y9 y10, LeO (hist_Sum.l0 k y0 y1 y2 y3 y4 y5 y6 y7 y8 y9 y10) (hist_Sum.l0 (k + 1) y0 y1 y2 y3 y4 y5 y6 y7 y8 y9 y10)) ∧ (∀ y0 y1 y2 y3 y4 y5 y6 y7 y8 y9 y10 y11 y12, LeO (hist_Sum.l1 k y0 y1 y2 y3 y4 y5 y6 y7 y8 y9 y10 y11 y12) (hist_Sum.l1 (k + 1) y0 y1 y2 y3 y4 y5 y6 y7 y8 y9 y10 y11 y12))
 | 0 => ⟨fun _ _ _ _ _ _ _ _ r h => by simp [hist_Sum.j0] at h, fun _ _ _ _ _ _ _ _ _ _ _ r h => by simp [hist_Sum.l0] at h, fun _ _ _ _ _ _ _ _ _ _ _ _ _ r h => by simp [hist_Sum.l1] at h⟩
 | k + 1 => by
  obtain ⟨ih0, ih1, ih2⟩ := hist_Sum.mono_l k
  refine ⟨?_, ?_, ?_⟩
  ·intro y0 y1 y2 y3 y4 y5 y6 y7
   unfold hist_Sum.j0
   repeat' first
   | (with_reducible exact ih0 _ _ _ _ _ _ _ _)
   | (with_reducible exact ih1 _ _ _ _ _ _ _ _ _ _ _)
   | (with_reducible exact ih2 _ _ _ _ _ _ _ _ _ _ _ _ _)
   | (with_reducible exact LeO.refl _)
   | (with_reducible exact LeO.none _)
   | (with_reducible refine LeO.ite ?_ ?_)
   | (with_reducible refine LeO.bind ?_ (fun _ => ?_))
   | exact ih0 _ _ _ _ _ _ _ _
   | exact ih1 _ _ _ _ _ _ _ _ _ _ _
   | exact ih2 _ _ _ _ _ _ _ _ _ _ _ _ _
   | exact LeO.none _
   | refine LeO.ite ?_ ?_
   | refine LeO.bind ?_ (fun _ => ?_)
  ·intro y0 y1 y2 y3 y4 y5 y6 y7 y8 y9 y10
   unfold hist_Sum.l0
   repeat' first
   | (with_reducible exact ih0 _ _ _ _ _ _ _ _)
   | (with_reducible exact ih1 _ _ _ _ _ _ _ _ _ _ _)
   | (with_reducible exact ih2 _ _ _ _ _ _ _ _ _ _ _ _ _)
   | (with_reducible exact LeO.refl _)
   | (with_reducible exact LeO.none _)
   | (with_reducible refine LeO.ite ?_ ?_)
   | (with_reducible refine LeO.bind ?_ (fun _ => ?_))
   | exact ih0 _ _ _ _ _ _ _ _
   | exact ih1 _ _ _ _ _ _ _ _ _ _ _
   | exact ih2 _ _ _ _ _ _ _ _ _ _ _ _ _
   | exact LeO.none _
   | refine LeO.ite ?_ ?_
   | refine LeO.bind ?_ (fun _ => ?_)
  ·intro y0 y1 y2 y3 y4 y5 y6 y7 y8 y9 y10 y11 y12
   unfold hist_Sum.l1
   repeat' first
   | (with_reducible exact ih0 _ _ _ _ _ _ _ _)
   | (with_reducible exact ih1 _ _ _ _ _ _ _ _ _ _ _)
   | (with_reducible exact ih2 _ _ _ _ _ _ _ _ _ _ _ _ _)
   | (with_reducible exact LeO.refl _)
   | (with_reducible exact LeO.none _)
   | (with_reducible refine LeO.ite ?_ ?_)
   | (with_reducible refine LeO.bind ?_ (fun _ => ?_))
   | exact ih0 _ _ _ _ _ _ _ _
   | exact ih1 _ _ _ _ _ _ _ _ _ _ _
   | exact ih2 _ _ _ _ _ _ _ _ _ _ _ _ _
   | exact LeO.none _
   | refine LeO.ite ?_ ?_
   | refine LeO.bind ?_ (fun _ => ?_)
theorem hist_Sum.mono : ∀ a0 a1 a2 a3 a4 a5 a6 k, LeO (hist_Sum.f k a0 a1 a2 a3 a4 a5 a6) (hist_Sum.f (k + 1) a0 a1 a2 a3 a4 a5 a6) := by
 intro a0 a1 a2 a3 a4 a5 a6 k
 obtain ⟨ih0, ih1, ih2⟩ := hist_Sum.mono_l k
 unfold hist_Sum.f
 repeat' first
   | (with_reducible exact ih0 _ _ _ _ _ _ _ _)
   | (with_reducible exact ih1 _ _ _ _ _ _ _ _ _ _ _)
   | (with_reducible exact ih2 _ _ _ _ _ _ _ _ _ _ _ _ _)
   | (with_reducible exact LeO.refl _)
   | (with_reducible exact LeO.none _)
   | (with_reducible refine LeO.ite ?_ ?_)
   | (with_reducible refine LeO.bind ?_ (fun _ => ?_))
   | exact ih0 _ _ _ _ _ _ _ _
   | exact ih1 _ _ _ _ _ _ _ _ _ _ _
   | exact ih2 _ _ _ _ _ _ _ _ _ _ _ _ _
   | exact LeO.none _
   | refine LeO.ite ?_ ?_
   | refine LeO.bind ?_ (fun _ => ?_)
def hist_Sum.T15 : Bool × List (List Nat × List Nat) := (true, [([], []), ([], []), ([0, 1], [0, 1]), ([2], [2]), ([], []), ([4], [4]), ([], []), ([], []), ([7], [7]), ([6, 8], [6, 8]), ([], []), ([9, 10], [9, 10]), ([5, 11], [5, 11]), ([12], [12]), ([3, 13], [3, 13]), ([14], [14]), ([15], [15]), ([15], [15]), ([16, 14, 0, 1, 2, 3, 4, 5, 6, 7, 8, 9, 10, 11, 12, 13, 14, 15, 16], [16]), ([17, 18, 0, 1, 2, 3, 4, 5, 6, 7, 8, 9, 10, 11, 12, 13, 14, 15, 16, 17, 18], [17])])
def hist_Sum.B15 : List Nat := [0, 0, 3, 7, 0, 16, 0, 0, 128, 448, 0, 1984, 4080, 8176, 16383, 32767, 65535, 65535, 131071, 524287]
theorem hist_Sum.tab15 : rtab .any (opsOf Try.f34 15) = hist_Sum.T15 := by kernel_rfl
theorem hist_Sum.bits15 : waitsOk hist_Sum.T15.2 hist_Sum.B15 = true := by kernel_rfl
def hist_Sum.T21 : Bool × List (List Nat × List Nat) := (true, [([], []), ([], []), ([], []), ([2], [2]), ([], []), ([3, 4], [3, 4]), ([5], [5]), ([0, 1, 6, 0], [0, 1, 6]), ([7], [7]), ([8], [8]), ([8], [8]), ([], []), ([11, 9, 7, 0, 1, 2, 3, 4, 5, 6, 7, 8, 9, 11], [9, 11]), ([10, 12, 0, 1, 2, 3, 4, 5, 6, 7, 8, 9, 10, 11, 12], [10])])
def hist_Sum.B21 : List Nat := [0, 0, 0, 4, 0, 28, 60, 127, 255, 511, 511, 0, 3071, 8191]
theorem hist_Sum.tab21 : rtab .any (opsOf Try.f34 21) = hist_Sum.T21 := by kernel_rfl
theorem hist_Sum.bits21 : waitsOk hist_Sum.T21.2 hist_Sum.B21 = true := by kernel_rfl
set_option maxHeartbeats 8000000 in
set_option maxRecDepth 100000 in
theorem hist_Sum.calls (k : Nat) (a0_0 : Int) (a0_1 : Int) (a0_2 : Int) (A0_3 : Option Addr) (c0_3 : Nat) (l0_3 : List Int) (A0_4 : Option Addr) (c0_4 : Nat) (l0_4 : List (S54)) (a1 : Int) (a2 : Int) (r1 : List Int) (r2 : Int) (r3 : Int) (r4 : Int) (r5 : Int) (w : World) (hr0_3 : Kd.C (Kd.int .i64) w A0_3 l0_3.length l0_3) (hc0_3 : l0_3.length ≤ c0_3) (hr0_4 : Kd.C k54 w A0_4 l0_4.length l0_4) (hc0_4 : l0_4.length ≤ c0_4) (h : hist_Sum.f k a0_0 a0_1 a0_2 l0_3 l0_4 a1 a2 = some (r1, r2, r3, r4, r5)) :
  Calls Try.prog 34 #[.agg #[.int .i64 a0_0, .int .i64 a0_1, .int .i64 a0_2, .slice A0_3 l0_3.length c0_3, .slice A0_4 l0_4.length c0_4], .int .i64 a1, .int .i64 a2] w fun e w' => ∃ v0_ : Value, e = .returned (.tuple #[v0_, .agg #[.int .i64 r2, .int .i64 r3, .int .i64 r4], .int .i64 r5]) ∧ Kd.R (Kd.int .i64) 2 w' w.heap.size (fun _ => True) v0_ r1 ∧ Below w.heap.size w w' := by
 have hu25 := Try.underlying25
 have hu54 := Try.underlying54
 have HR0_3 := aaM hr0_3
 have HC0_3 := aaM hc0_3
 clear hr0_3 hc0_3
 have HR0_4 := aaM hr0_4
 have HC0_4 := aaM hc0_4
 clear hr0_4 hc0_4
 have HB := aaM (Below.refl w.heap.size w)
 have H : ((hist_Right.f a0_0 a0_1 a0_2 l0_3 l0_4).bind fun t233 => (if t233 = true then (if a1 < 0 then (some (([] : List Int), 0, 0, 0, 1)) else (if a1 > a2 then (some (([] : List Int), 0, 0, 0, 1)) else (if a2 > a0_1 then (some (([] : List Int), 0, 0, 0, 1)) else (if a0_0 = 0 then (if 0 ≤ a0_2 then (if (a0_2 : Int).toNat ≤ 35184372088832 then (hist_Sum.j0 k a1 a2 (List.replicate (a0_2 : Int).toNat 0) a0_0 a0_1 a0_2 l0_3 l0_4) else (none)) else (none)) else (hist_Sum.j0 k a1 a2 ([] : List Int) a0_0 a0_1 a0_2 l0_3 l0_4))))) else (some (([] : List Int), 0, 0, 0, 8)))) = some (r1, r2, r3, r4, r5) := h
 clear h
 replace H := ooB.mp H
 obtain ⟨t233, A40, H⟩ := H
 replace H : (if t233 = true then (if a1 < 0 then (some (([] : List Int), 0, 0, 0, 1)) else (if a1 > a2 then (some (([] : List Int), 0, 0, 0, 1)) else (if a2 > a0_1 then (some (([] : List Int), 0, 0, 0, 1)) else (if a0_0 = 0 then (if 0 ≤ a0_2 then (if (a0_2 : Int).toNat ≤ 35184372088832 then (hist_Sum.j0 k a1 a2 (List.replicate (a0_2 : Int).toNat 0) a0_0 a0_1 a0_2 l0_3 l0_4) else (none)) else (none)) else (hist_Sum.j0 k a1 a2 ([] : List Int) a0_0 a0_1 a0_2 l0_3 l0_4))))) else (some (([] : List Int), 0, 0, 0, 8))) = some (r1, r2, r3, r4, r5) := H
 have A4 := aaM A40
 clear A40
 by_cases c5 : t233 = true
 ·subst c5
  have H1 : (if a1 < 0 then (some (([] : List Int), 0, 0, 0, 1)) else (if a1 > a2 then (some (([] : List Int), 0, 0, 0, 1)) else (if a2 > a0_1 then (some (([] : List Int), 0, 0, 0, 1)) else (if a0_0 = 0 then (if 0 ≤ a0_2 then (if (a0_2 : Int).toNat ≤ 35184372088832 then (hist_Sum.j0 k a1 a2 (List.replicate (a0_2 : Int).toNat 0) a0_0 a0_1 a0_2 l0_3 l0_4) else (none)) else (none)) else (hist_Sum.j0 k a1 a2 ([] : List Int) a0_0 a0_1 a0_2 l0_3 l0_4))))) = some (r1, r2, r3, r4, r5) := by rw [if_pos rfl] at H; exact H
  clear H
  have H := H1
  clear H1
  by_cases c6 : a1 < 0
  ·rw [if_pos c6] at H
   have c6b0 : decide (a1 < 0) = true := decide_eq_true c6
   clear c6
   simp only [Option.some.injEq, Prod.mk.injEq] at H
   obtain ⟨rfl, rfl, rfl, rfl, rfl⟩ := H
   go_enter Try.func34, Try.ntmps34
   go_wp2_with (first | ((with_reducible refine gate_dst (N := 3) rfl ?_); refine box_event ?hg (N := 3) ?hd (cs := #[.int .i64 a0_0, .int .i64 a0_1, .int .i64 a0_2, .slice A0_3 l0_3.length c0_3, .slice A0_4 l0_4.length c0_4]) (t := 25) ?hr ?_; (case hd => rfl); (case hg => rfl); (case hr => first | (go_simp; done) | (go_simp; rfl)); intro gb231 hg w7 hbox hb; have hP_ := lQ (by repeat (first | (with_reducible first | exact HB.out | apply lA | apply lN | apply lD) | exact HB.out)) hb; replace HB := aaM hP_.1; have BK231 := aaM (hbox); have GW231 := aaM (gQ hg hP_.2); have GE231 := aaM (gQ hg hP_.2); clear hP_ hb hbox hg) | ((with_reducible refine gate_dst (N := 7) rfl ?_); refine box_event ?hg (N := 7) ?hd (cs := #[.int .i64 0, .int .i64 0, .int .i64 0]) (t := 54) ?hr ?_; (case hd => rfl); (case hg => rfl); (case hr => first | (go_simp; done) | (go_simp; rfl)); intro gb232 hg w8 hbox hb; have hP_ := lQ (by repeat (first | (with_reducible first | exact HB.out | apply lA | apply lN | apply lD | refine lS ?_ GE231.out) | exact HB.out)) hb; replace HB := aaM hP_.1; have BK232 := aaM (hbox); have GW232 := aaM (gQ hg hP_.2); have GE232 := aaM (gQ hg hP_.2); have NB231_232 := aaM (nL hg BK231.out); have NB232_231 := aaM (nL hg BK231.out).symm; replace BK231 := aaM (bX hb BK231.out); clear hP_ hb hbox hg; have hnb9 := NB231_232.out; have hnc9 := NB232_231.out; obtain ⟨hcz10_0, hcz10_1, hcz10_2, hcz10_3, hcz10_4, hfz10_0, hfz10_1, hfz10_2, hfz10_3, hfz10_4⟩ := bE5 BK231.out) | ((with_reducible refine gate_callee (f := 18) rfl ?_); refine goesL_ (some 19) rfl rfl Try.func18 (by kernel_rfl) rfl #[.agg #[.int .i64 a0_0, .int .i64 a0_1, .int .i64 a0_2, .slice A0_3 l0_3.length c0_3, .slice A0_4 l0_4.length c0_4]] rfl (by (try simp only [mmT, mmC, mmN]); first | done | rfl | (simp only [ddD, ddT]; rfl)) ?_; (with_reducible refine (hist_Right.calls a0_0 a0_1 a0_2 _ _ l0_3 _ _ l0_4 true _ ?side1 ?side2 ?side3 ?side4 A4.out).mono ?_); (case side1 => repeat (first | exact (ccB HR0_3.out HB.out) | (with_reducible refine ccA ?_ _) | (with_reducible refine ccN ?_ _) | (with_reducible refine ccD ?_))); (case side2 => exact HC0_3.out); (case side3 => repeat (first | exact (ccB HR0_4.out HB.out) | (with_reducible refine ccA ?_ _) | (with_reducible refine ccN ?_ _) | (with_reducible refine ccD ?_))); (case side4 => exact HC0_4.out); rintro e w11 ⟨rfl, hb⟩; refine ⟨_, rfl, ?_⟩; replace BK231 := aaM (bX hb BK231.out); replace BK232 := aaM (bX hb BK232.out); replace HB := aaM (lP (by repeat (first | (with_reducible first | exact HB.out | apply lA | apply lN | apply lD | refine lS ?_ GE231.out | refine lS ?_ GE232.out) | exact HB.out)) hb); (try clear hb); (try clear hb2); (try clear hk); (try clear hi); obtain ⟨hcz12_0, hcz12_1, hcz12_2, hfz12_0, hfz12_1, hfz12_2⟩ := bE3 BK232.out))
   refine bodyPost_ret (results_list (rs := [.tmp 6, .cell 7 54, .tmp 8]) rfl (by simp) (.tmp (.cell gb232 54 #[.int .i64 0, .int .i64 0, .int .i64 0] (0, 0) _ rfl (by (with_reducible repeat (first | refine bN ?_ _ | refine bD ?_ | refine bA ?_ _)); refine blk_put (cs := #[.int .i64 0, .int .i64 0, .int .i64 0]) ?_ 2 _ rfl; (with_reducible repeat (first | refine bN ?_ _ | refine bD ?_ | refine bA ?_ _)); refine blk_put (cs := #[.int .i64 0, .int .i64 0, .int .i64 0]) ?_ 1 _ rfl; (with_reducible repeat (first | refine bN ?_ _ | refine bD ?_ | refine bA ?_ _)); refine blk_put (cs := #[.int .i64 0, .int .i64 0, .int .i64 0]) ?_ 0 _ rfl; (with_reducible repeat (first | refine bN ?_ _ | refine bD ?_ | refine bA ?_ _)); exact BK232.out) Try.underlying54 rfl (by kernel_rfl) (.tmp .nil)))) rfl ?_
   exact ⟨_, by first | rfl | (simp [errW_none, errW_some] <;> rfl) | (simp [*, errW_none, errW_some] <;> rfl), by first | exact Kd.R_nil _ _ _ _ _ | exact Kd.N_nil _ _ _ _ _ | exact Kd.V_nil _ _ _ _ _ | exact Kd.Q_nil _ _ _ _ _ | exact Kd.S_nil _ _ _ _ _, by repeat (first | (with_reducible first | exact HB.out | apply lA | apply lN | apply lD | refine lS ?_ GE231.out | refine lS ?_ GE232.out) | exact HB.out)⟩
  ·rw [if_neg c6] at H
   have c6b0 : decide (a1 < 0) = false := decide_eq_false c6
   clear c6
   by_cases c13 : a1 > a2
   ·rw [if_pos c13] at H
    have c13b0 : decide (a2 < a1) = true := decide_eq_true c13
    clear c13
    simp only [Option.some.injEq, Prod.mk.injEq] at H
    obtain ⟨rfl, rfl, rfl, rfl, rfl⟩ := H
    go_enter Try.func34, Try.ntmps34
    go_wp2_with (first | ((with_reducible refine gate_dst (N := 3) rfl ?_); refine box_event ?hg (N := 3) ?hd (cs := #[.int .i64 a0_0, .int .i64 a0_1, .int .i64 a0_2, .slice A0_3 l0_3.length c0_3, .slice A0_4 l0_4.length c0_4]) (t := 25) ?hr ?_; (case hd => rfl); (case hg => rfl); (case hr => first | (go_simp; done) | (go_simp; rfl)); intro gb231 hg w14 hbox hb; have hP_ := lQ (by repeat (first | (with_reducible first | exact HB.out | apply lA | apply lN | apply lD) | exact HB.out)) hb; replace HB := aaM hP_.1; have BK231 := aaM (hbox); have GW231 := aaM (gQ hg hP_.2); have GE231 := aaM (gQ hg hP_.2); clear hP_ hb hbox hg) | ((with_reducible refine gate_dst (N := 7) rfl ?_); refine box_event ?hg (N := 7) ?hd (cs := #[.int .i64 0, .int .i64 0, .int .i64 0]) (t := 54) ?hr ?_; (case hd => rfl); (case hg => rfl); (case hr => first | (go_simp; done) | (go_simp; rfl)); intro gb232 hg w15 hbox hb; have hP_ := lQ (by repeat (first | (with_reducible first | exact HB.out | apply lA | apply lN | apply lD | refine lS ?_ GE231.out) | exact HB.out)) hb; replace HB := aaM hP_.1; have BK232 := aaM (hbox); have GW232 := aaM (gQ hg hP_.2); have GE232 := aaM (gQ hg hP_.2); have NB231_232 := aaM (nL hg BK231.out); have NB232_231 := aaM (nL hg BK231.out).symm; replace BK231 := aaM (bX hb BK231.out); clear hP_ hb hbox hg; have hnb16 := NB231_232.out; have hnc16 := NB232_231.out; obtain ⟨hcz17_0, hcz17_1, hcz17_2, hcz17_3, hcz17_4, hfz17_0, hfz17_1, hfz17_2, hfz17_3, hfz17_4⟩ := bE5 BK231.out) | ((with_reducible refine gate_callee (f := 18) rfl ?_); refine goesL_ (some 19) rfl rfl Try.func18 (by kernel_rfl) rfl #[.agg #[.int .i64 a0_0, .int .i64 a0_1, .int .i64 a0_2, .slice A0_3 l0_3.length c0_3, .slice A0_4 l0_4.length c0_4]] rfl (by (try simp only [mmT, mmC, mmN]); first | done | rfl | (simp only [ddD, ddT]; rfl)) ?_; (with_reducible refine (hist_Right.calls a0_0 a0_1 a0_2 _ _ l0_3 _ _ l0_4 true _ ?side1 ?side2 ?side3 ?side4 A4.out).mono ?_); (case side1 => repeat (first | exact (ccB HR0_3.out HB.out) | (with_reducible refine ccA ?_ _) | (with_reducible refine ccN ?_ _) | (with_reducible refine ccD ?_))); (case side2 => exact HC0_3.out); (case side3 => repeat (first | exact (ccB HR0_4.out HB.out) | (with_reducible refine ccA ?_ _) | (with_reducible refine ccN ?_ _) | (with_reducible refine ccD ?_))); (case side4 => exact HC0_4.out); rintro e w18 ⟨rfl, hb⟩; refine ⟨_, rfl, ?_⟩; replace BK231 := aaM (bX hb BK231.out); replace BK232 := aaM (bX hb BK232.out); replace HB := aaM (lP (by repeat (first | (with_reducible first | exact HB.out | apply lA | apply lN | apply lD | refine lS ?_ GE231.out | refine lS ?_ GE232.out) | exact HB.out)) hb); (try clear hb); (try clear hb2); (try clear hk); (try clear hi); obtain ⟨hcz19_0, hcz19_1, hcz19_2, hfz19_0, hfz19_1, hfz19_2⟩ := bE3 BK232.out))
    refine bodyPost_ret (results_list (rs := [.tmp 6, .cell 7 54, .tmp 8]) rfl (by simp) (.tmp (.cell gb232 54 #[.int .i64 0, .int .i64 0, .int .i64 0] (0, 0) _ rfl (by (with_reducible repeat (first | refine bN ?_ _ | refine bD ?_ | refine bA ?_ _)); refine blk_put (cs := #[.int .i64 0, .int .i64 0, .int .i64 0]) ?_ 2 _ rfl; (with_reducible repeat (first | refine bN ?_ _ | refine bD ?_ | refine bA ?_ _)); refine blk_put (cs := #[.int .i64 0, .int .i64 0, .int .i64 0]) ?_ 1 _ rfl; (with_reducible repeat (first | refine bN ?_ _ | refine bD ?_ | refine bA ?_ _)); refine blk_put (cs := #[.int .i64 0, .int .i64 0, .int .i64 0]) ?_ 0 _ rfl; (with_reducible repeat (first | refine bN ?_ _ | refine bD ?_ | refine bA ?_ _)); exact BK232.out) Try.underlying54 rfl (by kernel_rfl) (.tmp .nil)))) rfl ?_
    exact ⟨_, by first | rfl | (simp [errW_none, errW_some] <;> rfl) | (simp [*, errW_none, errW_some] <;> rfl), by first | exact Kd.R_nil _ _ _ _ _ | exact Kd.N_nil _ _ _ _ _ | exact Kd.V_nil _ _ _ _ _ | exact Kd.Q_nil _ _ _ _ _ | exact Kd.S_nil _ _ _ _ _, by repeat (first | (with_reducible first | exact HB.out | apply lA | apply lN | apply lD | refine lS ?_ GE231.out | refine lS ?_ GE232.out) | exact HB.out)⟩
   ·rw [if_neg c13] at H
    have c13b0 : decide (a2 < a1) = false := decide_eq_false c13
    clear c13
    by_cases c20 : a2 > a0_1
    ·rw [if_pos c20] at H
     have c20b0 : decide (a0_1 < a2) = true := decide_eq_true c20
     clear c20
     simp only [Option.some.injEq, Prod.mk.injEq] at H
     obtain ⟨rfl, rfl, rfl, rfl, rfl⟩ := H
     go_enter Try.func34, Try.ntmps34
     go_wp2_with (first | ((with_reducible refine gate_dst (N := 3) rfl ?_); refine box_event ?hg (N := 3) ?hd (cs := #[.int .i64 a0_0, .int .i64 a0_1, .int .i64 a0_2, .slice A0_3 l0_3.length c0_3, .slice A0_4 l0_4.length c0_4]) (t := 25) ?hr ?_; (case hd => rfl); (case hg => rfl); (case hr => first | (go_simp; done) | (go_simp; rfl)); intro gb231 hg w21 hbox hb; have hP_ := lQ (by repeat (first | (with_reducible first | exact HB.out | apply lA | apply lN | apply lD) | exact HB.out)) hb; replace HB := aaM hP_.1; have BK231 := aaM (hbox); have GW231 := aaM (gQ hg hP_.2); have GE231 := aaM (gQ hg hP_.2); clear hP_ hb hbox hg) | ((with_reducible refine gate_dst (N := 7) rfl ?_); refine box_event ?hg (N := 7) ?hd (cs := #[.int .i64 0, .int .i64 0, .int .i64 0]) (t := 54) ?hr ?_; (case hd => rfl); (case hg => rfl); (case hr => first | (go_simp; done) | (go_simp; rfl)); intro gb232 hg w22 hbox hb; have hP_ := lQ (by repeat (first | (with_reducible first | exact HB.out | apply lA | apply lN | apply lD | refine lS ?_ GE231.out) | exact HB.out)) hb; replace HB := aaM hP_.1; have BK232 := aaM (hbox); have GW232 := aaM (gQ hg hP_.2); have GE232 := aaM (gQ hg hP_.2); have NB231_232 := aaM (nL hg BK231.out); have NB232_231 := aaM (nL hg BK231.out).symm; replace BK231 := aaM (bX hb BK231.out); clear hP_ hb hbox hg; have hnb23 := NB231_232.out; have hnc23 := NB232_231.out; obtain ⟨hcz24_0, hcz24_1, hcz24_2, hcz24_3, hcz24_4, hfz24_0, hfz24_1, hfz24_2, hfz24_3, hfz24_4⟩ := bE5 BK231.out) | ((with_reducible refine gate_callee (f := 18) rfl ?_); refine goesL_ (some 19) rfl rfl Try.func18 (by kernel_rfl) rfl #[.agg #[.int .i64 a0_0, .int .i64 a0_1, .int .i64 a0_2, .slice A0_3 l0_3.length c0_3, .slice A0_4 l0_4.length c0_4]] rfl (by (try simp only [mmT, mmC, mmN]); first | done | rfl | (simp only [ddD, ddT]; rfl)) ?_; (with_reducible refine (hist_Right.calls a0_0 a0_1 a0_2 _ _ l0_3 _ _ l0_4 true _ ?side1 ?side2 ?side3 ?side4 A4.out).mono ?_); (case side1 => repeat (first | exact (ccB HR0_3.out HB.out) | (with_reducible refine ccA ?_ _) | (with_reducible refine ccN ?_ _) | (with_reducible refine ccD ?_))); (case side2 => exact HC0_3.out); (case side3 => repeat (first | exact (ccB HR0_4.out HB.out) | (with_reducible refine ccA ?_ _) | (with_reducible refine ccN ?_ _) | (with_reducible refine ccD ?_))); (case side4 => exact HC0_4.out); rintro e w25 ⟨rfl, hb⟩; refine ⟨_, rfl, ?_⟩; replace BK231 := aaM (bX hb BK231.out); replace BK232 := aaM (bX hb BK232.out); replace HB := aaM (lP (by repeat (first | (with_reducible first | exact HB.out | apply lA | apply lN | apply lD | refine lS ?_ GE231.out | refine lS ?_ GE232.out) | exact HB.out)) hb); (try clear hb); (try clear hb2); (try clear hk); (try clear hi); obtain ⟨hcz26_0, hcz26_1, hcz26_2, hcz26_3, hcz26_4, hfz26_0, hfz26_1, hfz26_2, hfz26_3, hfz26_4⟩ := bE5 BK231.out; obtain ⟨hcz27_0, hcz27_1, hcz27_2, hfz27_0, hfz27_1, hfz27_2⟩ := bE3 BK232.out))
     refine bodyPost_ret (results_list (rs := [.tmp 6, .cell 7 54, .tmp 8]) rfl (by simp) (.tmp (.cell gb232 54 #[.int .i64 0, .int .i64 0, .int .i64 0] (0, 0) _ rfl (by (with_reducible repeat (first | refine bN ?_ _ | refine bD ?_ | refine bA ?_ _)); refine blk_put (cs := #[.int .i64 0, .int .i64 0, .int .i64 0]) ?_ 2 _ rfl; (with_reducible repeat (first | refine bN ?_ _ | refine bD ?_ | refine bA ?_ _)); refine blk_put (cs := #[.int .i64 0, .int .i64 0, .int .i64 0]) ?_ 1 _ rfl; (with_reducible repeat (first | refine bN ?_ _ | refine bD ?_ | refine bA ?_ _)); refine blk_put (cs := #[.int .i64 0, .int .i64 0, .int .i64 0]) ?_ 0 _ rfl; (with_reducible repeat (first | refine bN ?_ _ | refine bD ?_ | refine bA ?_ _)); exact BK232.out) Try.underlying54 rfl (by kernel_rfl) (.tmp .nil)))) rfl ?_
     exact ⟨_, by first | rfl | (simp [errW_none, errW_some] <;> rfl) | (simp [*, errW_none, errW_some] <;> rfl), by first | exact Kd.R_nil _ _ _ _ _ | exact Kd.N_nil _ _ _ _ _ | exact Kd.V_nil _ _ _ _ _ | exact Kd.Q_nil _ _ _ _ _ | exact Kd.S_nil _ _ _ _ _, by repeat (first | (with_reducible first | exact HB.out | apply lA | apply lN | apply lD | refine lS ?_ GE231.out | refine lS ?_ GE232.out) | exact HB.out)⟩
    ·rw [if_neg c20] at H
     have c20b0 : decide (a0_1 < a2) = false := decide_eq_false c20
     clear c20
     have HC28 := aaM H
     clear H
     go_enter Try.func34, Try.ntmps34
     go_upto_if 39 with (first | ((with_reducible refine gate_dst (N := 3) rfl ?_); refine box_event ?hg (N := 3) ?hd (cs := #[.int .i64 a0_0, .int .i64 a0_1, .int .i64 a0_2, .slice A0_3 l0_3.length c0_3, .slice A0_4 l0_4.length c0_4]) (t := 25) ?hr ?_; (case hd => rfl); (case hg => rfl); (case hr => first | (go_simp; done) | (go_simp; rfl)); intro gb231 hg w29 hbox hb; have hP_ := lQ (by repeat (first | (with_reducible first | exact HB.out | apply lA | apply lN | apply lD) | exact HB.out)) hb; replace HB := aaM hP_.1; have BK231 := aaM (hbox); have GW231 := aaM (gQ hg hP_.2); have GE231 := aaM (gQ hg hP_.2); clear hP_ hb hbox hg) | ((with_reducible refine gate_dst (N := 7) rfl ?_); refine box_event ?hg (N := 7) ?hd (cs := #[.int .i64 0, .int .i64 0, .int .i64 0]) (t := 54) ?hr ?_; (case hd => rfl); (case hg => rfl); (case hr => first | (go_simp; done) | (go_simp; rfl)); intro gb232 hg w30 hbox hb; have hP_ := lQ (by repeat (first | (with_reducible first | exact HB.out | apply lA | apply lN | apply lD | refine lS ?_ GE231.out) | exact HB.out)) hb; replace HB := aaM hP_.1; have BK232 := aaM (hbox); have GW232 := aaM (gQ hg hP_.2); have GE232 := aaM (gQ hg hP_.2); have NB231_232 := aaM (nL hg BK231.out); have NB232_231 := aaM (nL hg BK231.out).symm; replace BK231 := aaM (bX hb BK231.out); clear hP_ hb hbox hg; have hnb31 := NB231_232.out; have hnc31 := NB232_231.out; obtain ⟨hcz32_0, hcz32_1, hcz32_2, hcz32_3, hcz32_4, hfz32_0, hfz32_1, hfz32_2, hfz32_3, hfz32_4⟩ := bE5 BK231.out) | ((with_reducible refine gate_callee (f := 18) rfl ?_); refine goesL_ (some 19) rfl rfl Try.func18 (by kernel_rfl) rfl #[.agg #[.int .i64 a0_0, .int .i64 a0_1, .int .i64 a0_2, .slice A0_3 l0_3.length c0_3, .slice A0_4 l0_4.length c0_4]] rfl (by (try simp only [mmT, mmC, mmN]); first | done | rfl | (simp only [ddD, ddT]; rfl)) ?_; (with_reducible refine (hist_Right.calls a0_0 a0_1 a0_2 _ _ l0_3 _ _ l0_4 true _ ?side1 ?side2 ?side3 ?side4 A4.out).mono ?_); (case side1 => repeat (first | exact (ccB HR0_3.out HB.out) | (with_reducible refine ccA ?_ _) | (with_reducible refine ccN ?_ _) | (with_reducible refine ccD ?_))); (case side2 => exact HC0_3.out); (case side3 => repeat (first | exact (ccB HR0_4.out HB.out) | (with_reducible refine ccA ?_ _) | (with_reducible refine ccN ?_ _) | (with_reducible refine ccD ?_))); (case side4 => exact HC0_4.out); rintro e w33 ⟨rfl, hb⟩; refine ⟨_, rfl, ?_⟩; replace BK231 := aaM (bX hb BK231.out); replace BK232 := aaM (bX hb BK232.out); replace HB := aaM (lP (by repeat (first | (with_reducible first | exact HB.out | apply lA | apply lN | apply lD | refine lS ?_ GE231.out | refine lS ?_ GE232.out) | exact HB.out)) hb); (try clear hb); (try clear hb2); (try clear hk); (try clear hi); obtain ⟨hcz34_0, hcz34_1, hcz34_2, hcz34_3, hcz34_4, hfz34_0, hfz34_1, hfz34_2, hfz34_3, hfz34_4⟩ := bE5 BK231.out))
     (try simp only [Act.put, ssB, ssZ, ssS])
     go_cut [9] (fun v9 wc => ∃ (kq : Nat) (x9_27 : List Int), Aside0 (hist_Sum.j0 kq a1 a2 x9_27 a0_0 a0_1 a0_2 l0_3 l0_4 = some (r1, r2, r3, r4, r5)) ∧ Aside0 (kq ≤ k) ∧ Aside0 (Kd.R (Kd.int .i64) 2 wc w.heap.size (fun _ => True) v9 x9_27) ∧ Aside0 (wc.heap[gb231]? = some (.cells #[.int .i64 a0_0, .int .i64 a0_1, .int .i64 a0_2, (.slice A0_3 l0_3.length c0_3), (.slice A0_4 l0_4.length c0_4)] 25 (0, 0))) ∧ Aside0 (wc.heap[gb232]? = some (.cells #[.int .i64 0, .int .i64 0, .int .i64 0] 54 (0, 0))) ∧ Aside0 (Below w.heap.size w wc))
     case first =>
      have H := HC28.out
      clear HC28
      by_cases c35 : a0_0 = 0
      ·rw [if_pos c35] at H
       have c35b0 : (a0_0 == 0) = true := beq_iff_eq.mpr c35
       have c35b1 : (a0_0 != 0) = false := bne_eq_false_iff_eq.mpr c35
       clear c35
       (first | rw [c35b0] | (simp only [i64_w, i32_w]; rw [c35b0]) | skip)
       by_cases c36 : 0 ≤ a0_2
       ·rw [if_pos c36] at H
        have c36b0 := eq_true c36
        have c36b1 : decide (0 ≤ a0_2) = true := decide_eq_true c36
        clear c36
        by_cases c37 : (a0_2 : Int).toNat ≤ 35184372088832
        ·rw [if_pos c37] at H
         have c37b0 := eq_true c37
         have c37b1 : decide ((a0_2 : Int).toNat ≤ 35184372088832) = true := decide_eq_true c37
         clear c37
         obtain ⟨y234, hy234⟩ : ∃ y_ : List Int, y_ = (List.replicate (a0_2 : Int).toNat 0) := ⟨_, rfl⟩
         replace H : (hist_Sum.j0 k a1 a2 y234 a0_0 a0_1 a0_2 l0_3 l0_4) = some (r1, r2, r3, r4, r5) := by first | (rw [hy234]; with_reducible exact H) | (have H2_ := (Option.bind_some _ _).symm.trans H; rw [hy234]; with_reducible exact H2_) | (have H2_ := (Option.bind_some _ _).symm.trans H; with_reducible exact H2_) | with_reducible exact H | (rw [hy234]; exact H) | exact H
         have Ny234 := aaM hy234
         clear hy234
         have H' := aaM H
         clear H
         have hnb38 := NB231_232.out
         have hnc38 := NB232_231.out
         obtain ⟨hcz39_0, hcz39_1, hcz39_2, hcz39_3, hcz39_4, hfz39_0, hfz39_1, hfz39_2, hfz39_3, hfz39_4⟩ := bE5 BK231.out
         go_wp2_with (first | ((with_reducible refine gate_dst (N := 42) rfl ?_); refine Kd.R_make (Kd.int .i64) _ 2 rfl (N := 42) rfl 22 _ _ rfl a0_2 rfl rfl Try.underlying22 (.int .i64 0) 8 info2 rfl (by decide) (by omega) 0 (ok := fun _ => True) (okp := fun _ => True) rfl (fun _ hk => hk) trivial (of_decide_eq_true (by first | (with_reducible assumption) | assumption)) (Nat.le_trans (Nat.mul_le_mul_right _ (of_decide_eq_true (by first | (with_reducible assumption) | assumption) : a0_2.toNat ≤ 35184372088832)) (by omega)) (Below.refl _ _) (Nat.le_refl _) ?_; intro v235 w40 ho41 hb hg_ hnew_; clear hg_ hnew_; (first | rw [← Ny234.out] at ho41 | (simp only [Int.reduceToNat] at ho41; rw [← Ny234.out] at ho41)); have HO236 := aaM (Kd.R_lower ho41 (lZ (by repeat (first | (with_reducible first | exact HB.out | apply lA | apply lN | apply lD | refine lS ?_ GE231.out | refine lS ?_ GE232.out) | exact HB.out)))); replace BK231 := aaM (bX hb BK231.out); replace BK232 := aaM (bX hb BK232.out); replace HB := aaM (lP (by repeat (first | (with_reducible first | exact HB.out | apply lA | apply lN | apply lD | refine lS ?_ GE231.out | refine lS ?_ GE232.out) | exact HB.out)) hb); clear hb ho41))
         go_meet
         case rel => exact ⟨_, (y234), H', ⟨by first | omega | exact Nat.le_refl _⟩, ⟨by (with_reducible repeat (first | apply rrA | apply rrN | apply rrD)); exact HO236.out⟩, ⟨by (with_reducible repeat (first | refine bN ?_ _ | refine bD ?_ | refine bA ?_ _)); exact BK231.out⟩, ⟨by (with_reducible repeat (first | refine bN ?_ _ | refine bD ?_ | refine bA ?_ _)); exact BK232.out⟩, ⟨by repeat (first | (with_reducible first | exact HB.out | apply lA | apply lN | apply lD | refine lS ?_ GE231.out | refine lS ?_ GE232.out) | exact HB.out)⟩⟩
        ·rw [if_neg c37] at H
         exact absurd H (by simp)
       ·rw [if_neg c36] at H
        exact absurd H (by simp)
      ·rw [if_neg c35] at H
       have c35b0 : (a0_0 == 0) = false := beq_eq_false_iff_ne.mpr c35
       have c35b1 : (a0_0 != 0) = true := bne_iff_ne.mpr c35
       (first | rw [c35b0] | (simp only [i64_w, i32_w]; rw [c35b0]) | skip)
       have H' := aaM H
       clear H
       go_wp2
       go_meet
       case rel => exact ⟨_, (([] : List Int)), H', ⟨by first | omega | exact Nat.le_refl _⟩, ⟨by first | exact Kd.R_nil _ _ _ _ _ | exact Kd.N_nil _ _ _ _ _ | exact Kd.V_nil _ _ _ _ _ | exact Kd.Q_nil _ _ _ _ _ | exact Kd.S_nil _ _ _ _ _⟩, ⟨by (with_reducible repeat (first | refine bN ?_ _ | refine bD ?_ | refine bA ?_ _)); exact BK231.out⟩, ⟨by (with_reducible repeat (first | refine bN ?_ _ | refine bD ?_ | refine bA ?_ _)); exact BK232.out⟩, ⟨by repeat (first | (with_reducible first | exact HB.out | apply lA | apply lN | apply lD | refine lS ?_ GE231.out | refine lS ?_ GE232.out) | exact HB.out)⟩⟩
     case rest =>
      clear HC28
      try clear c1
      try clear c2
      try clear p2
      try clear c3
      try clear c5
      try clear c6
      try clear c6b0
      try clear c9
      try clear c13
      try clear c13b0
      try clear c16
      try clear c18
      try clear c20
      try clear c20b0
      try clear c23
      try clear c31
      try clear c34
      try clear c35
      try clear c35b0
      try clear c35b1
      try clear c36
      try clear c36b0
      try clear c36b1
      try clear c37
      try clear c37b0
      try clear c37b1
      try clear c38
      try clear hcz10_0
      try clear hcz10_1
      try clear hcz10_2
      try clear hcz10_3
      try clear hcz10_4
      try clear hcz12_0
      try clear hcz12_1
      try clear hcz12_2
      try clear hcz17_0
      try clear hcz17_1
      try clear hcz17_2
      try clear hcz17_3
      try clear hcz17_4
      try clear hcz19_0
      try clear hcz19_1
      try clear hcz19_2
      try clear hcz24_0
      try clear hcz24_1
      try clear hcz24_2
      try clear hcz24_3
      try clear hcz24_4
      try clear hcz26_0
      try clear hcz26_1
      try clear hcz26_2
      try clear hcz26_3
      try clear hcz26_4
      try clear hcz27_0
      try clear hcz27_1
      try clear hcz27_2
      try clear hcz32_0
      try clear hcz32_1
      try clear hcz32_2
      try clear hcz32_3
      try clear hcz32_4
      try clear hcz34_0
      try clear hcz34_1
      try clear hcz34_2
      try clear hcz34_3
      try clear hcz34_4
      try clear hcz39_0
      try clear hcz39_1
      try clear hcz39_2
      try clear hcz39_3
      try clear hcz39_4
      try clear hfz10_0
      try clear hfz10_1
      try clear hfz10_2
      try clear hfz10_3
      try clear hfz10_4
      try clear hfz12_0
      try clear hfz12_1
      try clear hfz12_2
      try clear hfz17_0
      try clear hfz17_1
      try clear hfz17_2
      try clear hfz17_3
      try clear hfz17_4
      try clear hfz19_0
      try clear hfz19_1
      try clear hfz19_2
      try clear hfz24_0
      try clear hfz24_1
      try clear hfz24_2
      try clear hfz24_3
      try clear hfz24_4
      try clear hfz26_0
      try clear hfz26_1
      try clear hfz26_2
      try clear hfz26_3
      try clear hfz26_4
      try clear hfz27_0
      try clear hfz27_1
      try clear hfz27_2
      try clear hfz32_0
      try clear hfz32_1
      try clear hfz32_2
      try clear hfz32_3
      try clear hfz32_4
      try clear hfz34_0
      try clear hfz34_1
      try clear hfz34_2
      try clear hfz34_3
      try clear hfz34_4
      try clear hfz39_0
      try clear hfz39_1
      try clear hfz39_2
      try clear hfz39_3
      try clear hfz39_4
      obtain ⟨kq, x9_27, HA, HJ27, HO_9, BK231, BK232, HB⟩ := hcut
      cases kq with
      | zero => exact absurd HA.out (by simp [hist_Sum.j0])
      | succ kj27 =>
       have H := HA.out
       clear HA
       simp only [hist_Sum.j0] at H
       have H' := aaM H
       clear H
       go_wp2_with (first | ((with_reducible refine gate_dst (N := 10) rfl ?_); refine box_event ?hg (N := 10) ?hd (cs := #[.int .i64 0, .int .i64 0, .int .i64 0]) (t := 54) ?hr ?_; (case hd => rfl); (case hg => rfl); (case hr => first | (go_simp; done) | (go_simp; rfl)); intro gb237 hg w42 hbox hb; have hP_ := lQ (by repeat (first | (with_reducible first | exact HB.out | apply lA | apply lN | apply lD | refine lS ?_ GE231.out | refine lS ?_ GE232.out) | exact HB.out)) hb; replace HO_9 := aaM (rrB (by (with_reducible repeat (first | apply rrA | apply rrN | apply rrD)); exact HO_9.out) hb); replace HB := aaM hP_.1; have BK237 := aaM (hbox); have GW237 := aaM (gQ hg hP_.2); have GE237 := aaM (gQ hg hP_.2); have NB231_237 := aaM (nL hg BK231.out); have NB237_231 := aaM (nL hg BK231.out).symm; replace BK231 := aaM (bX hb BK231.out); have NB232_237 := aaM (nL hg BK232.out); have NB237_232 := aaM (nL hg BK232.out).symm; replace BK232 := aaM (bX hb BK232.out); clear hP_ hb hbox hg))
       go_loopg [11] kj27 (fun kq v11 w' => ∃ (x9_2 : List Int) (x11_2 : Int) (x233000_2 : Int) (x233001_2 : Int) (x233002_2 : Int) (x238000_2 : Int) (x238001_2 : Int) (x238002_2 : Int), v11 = .int .i64 x11_2 ∧ Aside0 (hist_Sum.l0 kq a2 x9_2 x11_2 a0_0 a0_1 a0_2 l0_3 l0_4 x238000_2 x238001_2 x238002_2 = some (r1, r2, r3, r4, r5)) ∧ Aside0 (kq ≤ kj27) ∧ Aside0 (Kd.R (Kd.int .i64) 2 w' w.heap.size (fun _ => True) u9 x9_2) ∧ Aside0 (w'.heap[gb231]? = some (.cells #[.int .i64 a0_0, .int .i64 a0_1, .int .i64 a0_2, (.slice A0_3 l0_3.length c0_3), (.slice A0_4 l0_4.length c0_4)] 25 (0, 0))) ∧ Aside0 (w'.heap[gb232]? = some (.cells #[.int .i64 x233000_2, .int .i64 x233001_2, .int .i64 x233002_2] 54 (0, 0))) ∧ Aside0 (w'.heap[gb237]? = some (.cells #[.int .i64 x238000_2, .int .i64 x238001_2, .int .i64 x238002_2] 54 (0, 0))) ∧ Aside0 (Below w.heap.size w w'))
       case atStart => exact ⟨(x9_27), (a1), (0), (0), (0), (0), (0), (0), (by first | rfl | (simp; done) | (simp [*]; done)), H', ⟨Nat.le_refl _⟩, ⟨by (with_reducible repeat (first | apply rrA | apply rrN | apply rrD)); exact HO_9.out⟩, ⟨by (with_reducible repeat (first | refine bN ?_ _ | refine bD ?_ | refine bA ?_ _)); exact BK231.out⟩, ⟨by (with_reducible repeat (first | refine bN ?_ _ | refine bD ?_ | refine bA ?_ _)); exact BK232.out⟩, ⟨by (with_reducible repeat (first | refine bN ?_ _ | refine bD ?_ | refine bA ?_ _)); exact BK237.out⟩, ⟨by repeat (first | (with_reducible first | exact HB.out | apply lA | apply lN | apply lD | refine lS ?_ GE231.out | refine lS ?_ GE232.out | refine lS ?_ GE237.out) | exact HB.out)⟩⟩
       case round =>
        clear H'
        try clear c1
        try clear c2
        try clear p2
        try clear c3
        try clear c5
        try clear c6
        try clear c6b0
        try clear c9
        try clear c13
        try clear c13b0
        try clear c16
        try clear c18
        try clear c20
        try clear c20b0
        try clear c23
        try clear c31
        try clear c34
        try clear c35
        try clear c35b0
        try clear c35b1
        try clear c36
        try clear c36b0
        try clear c36b1
        try clear c37
        try clear c37b0
        try clear c37b1
        try clear c38
        try clear hcz10_0
        try clear hcz10_1
        try clear hcz10_2
        try clear hcz10_3
        try clear hcz10_4
        try clear hcz12_0
        try clear hcz12_1
        try clear hcz12_2
        try clear hcz17_0
        try clear hcz17_1
        try clear hcz17_2
        try clear hcz17_3
        try clear hcz17_4
        try clear hcz19_0
        try clear hcz19_1
        try clear hcz19_2
        try clear hcz24_0
        try clear hcz24_1
        try clear hcz24_2
        try clear hcz24_3
        try clear hcz24_4
        try clear hcz26_0
        try clear hcz26_1
        try clear hcz26_2
        try clear hcz26_3
        try clear hcz26_4
        try clear hcz27_0
        try clear hcz27_1
        try clear hcz27_2
        try clear hcz32_0
        try clear hcz32_1
        try clear hcz32_2
        try clear hcz32_3
        try clear hcz32_4
        try clear hcz34_0
        try clear hcz34_1
        try clear hcz34_2
        try clear hcz34_3
        try clear hcz34_4
        try clear hcz39_0
        try clear hcz39_1
        try clear hcz39_2
        try clear hcz39_3
        try clear hcz39_4
        try clear hfz10_0
        try clear hfz10_1
        try clear hfz10_2
        try clear hfz10_3
        try clear hfz10_4
        try clear hfz12_0
        try clear hfz12_1
        try clear hfz12_2
        try clear hfz17_0
        try clear hfz17_1
        try clear hfz17_2
        try clear hfz17_3
        try clear hfz17_4
        try clear hfz19_0
        try clear hfz19_1
        try clear hfz19_2
        try clear hfz24_0
        try clear hfz24_1
        try clear hfz24_2
        try clear hfz24_3
        try clear hfz24_4
        try clear hfz26_0
        try clear hfz26_1
        try clear hfz26_2
        try clear hfz26_3
        try clear hfz26_4
        try clear hfz27_0
        try clear hfz27_1
        try clear hfz27_2
        try clear hfz32_0
        try clear hfz32_1
        try clear hfz32_2
        try clear hfz32_3
        try clear hfz32_4
        try clear hfz34_0
        try clear hfz34_1
        try clear hfz34_2
        try clear hfz34_3
        try clear hfz34_4
        try clear hfz39_0
        try clear hfz39_1
        try clear hfz39_2
        try clear hfz39_3
        try clear hfz39_4
        try clear p2
        obtain ⟨x9_2, x11_2, x233000_2, x233001_2, x233002_2, x238000_2, x238001_2, x238002_2, rfl, HA, HK2, HO_9, BK231, BK232, BK237, HB⟩ := hrel
        cases gk with
        | zero => exact absurd HA.out (by simp [hist_Sum.l0])
        | succ k2 =>
         have H := HA.out
         clear HA
         simp only [hist_Sum.l0] at H
         by_cases c43 : x11_2 < a2
         ·rw [if_pos c43] at H
          have c43b0 : decide (x11_2 < a2) = true := decide_eq_true c43
          clear c43
          have H' := aaM H
          clear H
          obtain ⟨Ao44, co44, eo44⟩ := Kd.R_slice HO_9.out
          subst eo44
          go_wp2
          go_loopg [51] k2 (fun kq v51 w' => ∃ (x9_3 : List Int) (x51_3 : Int) (x233000_3 : Int) (x233001_3 : Int) (x233002_3 : Int), v51 = .int .i64 x51_3 ∧ Aside0 (hist_Sum.l1 kq a2 x9_3 x11_2 (x9_2.length : Int) x51_3 a0_0 a0_1 a0_2 l0_3 l0_4 x238000_2 x238001_2 x238002_2 = some (r1, r2, r3, r4, r5)) ∧ Aside0 (kq ≤ k2) ∧ Aside0 (Kd.R (Kd.int .i64) 2 w' w.heap.size (fun _ => True) (.slice Ao44 x9_2.length co44) x9_3) ∧ Aside0 (w'.heap[gb231]? = some (.cells #[.int .i64 a0_0, .int .i64 a0_1, .int .i64 a0_2, (.slice A0_3 l0_3.length c0_3), (.slice A0_4 l0_4.length c0_4)] 25 (0, 0))) ∧ Aside0 (w'.heap[gb232]? = some (.cells #[.int .i64 x233000_3, .int .i64 x233001_3, .int .i64 x233002_3] 54 (0, 0))) ∧ Aside0 (w'.heap[gb237]? = some (.cells #[.int .i64 x238000_2, .int .i64 x238001_2, .int .i64 x238002_2] 54 (0, 0))) ∧ Aside0 (Below w.heap.size w w'))
          case atStart => exact ⟨(x9_2), (0), (x233000_2), (x233001_2), (x233002_2), (by first | rfl | (simp; done) | (simp [*]; done)), H', ⟨Nat.le_refl _⟩, ⟨by (with_reducible repeat (first | apply rrA | apply rrN | apply rrD)); exact HO_9.out⟩, ⟨by (with_reducible repeat (first | refine bN ?_ _ | refine bD ?_ | refine bA ?_ _)); exact BK231.out⟩, ⟨by (with_reducible repeat (first | refine bN ?_ _ | refine bD ?_ | refine bA ?_ _)); exact BK232.out⟩, ⟨by (with_reducible repeat (first | refine bN ?_ _ | refine bD ?_ | refine bA ?_ _)); exact BK237.out⟩, ⟨by repeat (first | (with_reducible first | exact HB.out | apply lA | apply lN | apply lD | refine lS ?_ GE231.out | refine lS ?_ GE232.out | refine lS ?_ GE237.out) | exact HB.out)⟩⟩
          case round =>
           clear H'
           try clear c1
           try clear c2
           try clear p2
           try clear c3
           try clear c4
           try clear c5
           try clear c6
           try clear c6b0
           try clear c9
           try clear c13
           try clear c13b0
           try clear c16
           try clear c18
           try clear c20
           try clear c20b0
           try clear c23
           try clear c31
           try clear c34
           try clear c35
           try clear c35b0
           try clear c35b1
           try clear c36
           try clear c36b0
           try clear c36b1
           try clear c37
           try clear c37b0
           try clear c37b1
           try clear c38
           try clear c43
           try clear c43b0
           try clear hcz10_0
           try clear hcz10_1
           try clear hcz10_2
           try clear hcz10_3
           try clear hcz10_4
           try clear hcz12_0
           try clear hcz12_1
           try clear hcz12_2
           try clear hcz17_0
           try clear hcz17_1
           try clear hcz17_2
           try clear hcz17_3
           try clear hcz17_4
           try clear hcz19_0
           try clear hcz19_1
           try clear hcz19_2
           try clear hcz24_0
           try clear hcz24_1
           try clear hcz24_2
           try clear hcz24_3
           try clear hcz24_4
           try clear hcz26_0
           try clear hcz26_1
           try clear hcz26_2
           try clear hcz26_3
           try clear hcz26_4
           try clear hcz27_0
           try clear hcz27_1
           try clear hcz27_2
           try clear hcz32_0
           try clear hcz32_1
           try clear hcz32_2
           try clear hcz32_3
           try clear hcz32_4
           try clear hcz34_0
           try clear hcz34_1
           try clear hcz34_2
           try clear hcz34_3
           try clear hcz34_4
           try clear hcz39_0
           try clear hcz39_1
           try clear hcz39_2
           try clear hcz39_3
           try clear hcz39_4
           try clear hfz10_0
           try clear hfz10_1
           try clear hfz10_2
           try clear hfz10_3
           try clear hfz10_4
           try clear hfz12_0
           try clear hfz12_1
           try clear hfz12_2
           try clear hfz17_0
           try clear hfz17_1
           try clear hfz17_2
           try clear hfz17_3
           try clear hfz17_4
           try clear hfz19_0
           try clear hfz19_1
           try clear hfz19_2
           try clear hfz24_0
           try clear hfz24_1
           try clear hfz24_2
           try clear hfz24_3
           try clear hfz24_4
           try clear hfz26_0
           try clear hfz26_1
           try clear hfz26_2
           try clear hfz26_3
           try clear hfz26_4
           try clear hfz27_0
           try clear hfz27_1
           try clear hfz27_2
           try clear hfz32_0
           try clear hfz32_1
           try clear hfz32_2
           try clear hfz32_3
           try clear hfz32_4
           try clear hfz34_0
           try clear hfz34_1
           try clear hfz34_2
           try clear hfz34_3
           try clear hfz34_4
           try clear hfz39_0
           try clear hfz39_1
           try clear hfz39_2
           try clear hfz39_3
           try clear hfz39_4
           try clear p2
           obtain ⟨x9_3, x51_3, x233000_3, x233001_3, x233002_3, rfl, HA, HK3, HO_9, BK231, BK232, BK237, HB⟩ := hrel
           have hl9_3 := (Kd.R_reads' HO_9.out).1
           rw [hl9_3] at HO_9
           (try simp only [hl9_3])
           (try simp only [hl9_3] at BK231)
           (try simp only [hl9_3] at BK232)
           (try simp only [hl9_3] at BK237)
           cases gk with
           | zero => exact absurd HA.out (by simp [hist_Sum.l1])
           | succ k3 =>
            have H := HA.out
            clear HA
            simp only [hist_Sum.l1] at H
            by_cases c45 : x51_3 < (x9_2.length : Int)
            ·rw [if_pos c45] at H
             have c45b0 : decide (x51_3 < (x9_2.length : Int)) = true := decide_eq_true c45
             (try have c45b0z : decide (x51_3 < (x9_3.length : Int)) = true := by rw [← hl9_3]; exact c45b0)
             clear c45
             by_cases c46 : 0 ≤ x51_3
             ·rw [if_pos c46] at H
              have c46b0 : decide (0 ≤ x51_3) = true := decide_eq_true c46
              clear c46
              by_cases c47 : x51_3 < (x9_3.length : Int)
              ·rw [if_pos c47] at H
               have c47b0 : decide (x51_3 < (x9_3.length : Int)) = true := decide_eq_true c47
               (try have c47b0z : decide (x51_3 < (x9_4.length : Int)) = true := by rw [← hl9_4]; exact c47b0)
               clear c47
               obtain ⟨ji48, hji48⟩ : ∃ j_ : Int, (wrap64 ((wrap64 (x11_2 * a0_2)) + x51_3)) = j_ := ⟨_, rfl⟩
               replace H : (if 0 ≤ (ji48) then (if (ji48) < (l0_3.length : Int) then ((prod_Plus.f (rd x9_3 x51_3) (rd l0_3 (ji48))).bind fun bt240 => (if bt240.2 = 0 then (hist_Sum.l1 k3 a2 (x9_3.set (x51_3 : Int).toNat bt240.1) x11_2 (x9_2.length : Int) (wrap64 (x51_3 + 1)) a0_0 a0_1 a0_2 l0_3 l0_4 x238000_2 x238001_2 x238002_2) else (some (([] : List Int), 0, 0, 0, bt240.2)))) else (none)) else (none)) = some (r1, r2, r3, r4, r5) := by first | (rw [hji48] at H; exact H) | (simp only [hji48] at H ⊢; exact H)
               have hji48w : (IntKind.i64.wrap ((wrap64 (x11_2 * a0_2)) + x51_3)) = ji48 := (i64_w _).trans hji48
               by_cases c49 : 0 ≤ (ji48)
               ·rw [if_pos c49] at H
                have c49b0 : decide (0 ≤ (ji48)) = true := decide_eq_true c49
                clear c49
                by_cases c50 : (ji48) < (l0_3.length : Int)
                ·rw [if_pos c50] at H
                 have c50b0 : decide ((ji48) < (l0_3.length : Int)) = true := decide_eq_true c50
                 clear c50
                 replace H := ooB.mp H
                 obtain ⟨⟨t240, t241⟩, A510, H⟩ := H
                 replace H : (if t241 = 0 then (hist_Sum.l1 k3 a2 (x9_3.set (x51_3 : Int).toNat t240) x11_2 (x9_2.length : Int) (wrap64 (x51_3 + 1)) a0_0 a0_1 a0_2 l0_3 l0_4 x238000_2 x238001_2 x238002_2) else (some (([] : List Int), 0, 0, 0, t241))) = some (r1, r2, r3, r4, r5) := H
                 have A51 := aaM A510
                 clear A510
                 by_cases c52 : t241 = 0
                 ·rw [if_pos c52] at H
                  have c52b0 : (t241 == 0) = true := beq_iff_eq.mpr c52
                  have c52b1 : (t241 != 0) = false := bne_eq_false_iff_eq.mpr c52
                  clear c52
                  obtain ⟨y242, hy242⟩ : ∃ y_ : List Int, y_ = (x9_3.set (x51_3 : Int).toNat t240) := ⟨_, rfl⟩
                  replace H : (hist_Sum.l1 k3 a2 y242 x11_2 (x9_2.length : Int) (wrap64 (x51_3 + 1)) a0_0 a0_1 a0_2 l0_3 l0_4 x238000_2 x238001_2 x238002_2) = some (r1, r2, r3, r4, r5) := by first | (rw [hy242]; with_reducible exact H) | (have H2_ := (Option.bind_some _ _).symm.trans H; rw [hy242]; with_reducible exact H2_) | (have H2_ := (Option.bind_some _ _).symm.trans H; with_reducible exact H2_) | with_reducible exact H | (rw [hy242]; exact H) | exact H
                  have Ny242 := aaM hy242
                  clear hy242
                  have H' := aaM H
                  clear H
                  try go_wp2
                  replace HO_9 := aaM (rrD HO_9.out)
                  replace BK231 := aaM (bD BK231.out)
                  replace BK232 := aaM (bD BK232.out)
                  replace BK237 := aaM (bD BK237.out)
                  replace HB := aaM (lD HB.out)
                  have p238 : 0 ≤ (x51_3 : Int) := of_decide_eq_true (by first | (with_reducible assumption) | assumption)
                  have q238 : x51_3 < (x9_3.length : Int) := of_decide_eq_true (by first | (with_reducible assumption) | assumption)
                  obtain ⟨ad238, e238, hx238_0⟩ := Kd.at_int (Kd.R_reads' HO_9.out).2.2 x51_3 p238 q238
                  cases e238
                  replace p238 := eq_true p238
                  replace q238 := eq_true q238
                  have p239 : 0 ≤ ((ji48) : Int) := of_decide_eq_true (by first | (with_reducible assumption) | assumption)
                  have q239 : (ji48) < (l0_3.length : Int) := of_decide_eq_true (by first | (with_reducible assumption) | assumption)
                  obtain ⟨ad239, e239, hx239_0⟩ := Kd.at_int HR0_3.out (ji48) p239 q239
                  have hw239_0 := hx239_0
                  cases e239
                  replace hx239_0 := (HB.out.cell (World.block_lt_of_cell? w _ hx239_0)).trans hx239_0
                  replace p239 := eq_true p239
                  replace q239 := eq_true q239
                  refine start_ (n := 20) (S := fun w' => w'.cell? ⟨gb231, 0, none⟩ = some (.int .i64 a0_0) ∧ w'.cell? ⟨gb231, 1, none⟩ = some (.int .i64 a0_1) ∧ w'.cell? ⟨gb231, 2, none⟩ = some (.int .i64 a0_2) ∧ w'.cell? ⟨gb231, 3, none⟩ = some (.slice (some ad239) l0_3.length c0_3) ∧ w'.cell? ⟨gb231, 4, none⟩ = some (.slice A0_4 l0_4.length c0_4) ∧ w'.cell? (ad238.add (x51_3).toNat) = some (.int .i64 (rd x9_3 x51_3)) ∧ w'.cell? (ad239.add ((ji48)).toNat) = some (.int .i64 (rd l0_3 (ji48)))) (ds := []) #[false, false, false, false, false, false, false, false, false, false, false, false, false, false, false, false, false, false, false, false] (by kernel_rfl) rfl rfl ⟨(bC BK231.out 0).trans rfl, (bC BK231.out 1).trans rfl, (bC BK231.out 2).trans rfl, (bC BK231.out 3).trans rfl, (bC BK231.out 4).trans rfl, hx238_0, ((HB.out.cell (World.block_lt_of_cell? w _ hw239_0)).trans hw239_0)⟩ (fun hHeld => ?_); refine with_tabW hist_Sum.tab15 hist_Sum.bits15 (fun HT_ HW_ => ?_)
                  generalize wr.drew = w54 at HO_9 BK231 BK232 BK237 HB hx238_0 hx239_0 hHeld ⊢
                  refine pure_ (i := 0) (N := some 55) (v := ?_) (a' := ?_) #[true, false, false, false, false, false, false, false, false, false, false, false, false, false, false, false, false, false, false, false] rfl rfl (any_of HT_.out (by kernel_rfl)) (fun _ _ _ h => h) (Or.inl ⟨by rfl, ?_⟩) ?_ ?_
                  rotate_left
                  ·intro w'
                   go_simp
                   with_reducible rfl
                  rotate_left
                  ·simp only [Act.put, ssB, ssZ, ssS, i64_w, i32_w]
                   rfl
                  refine pure_ (i := 1) (N := some 56) (v := ?_) (a' := ?_) #[true, true, false, false, false, false, false, false, false, false, false, false, false, false, false, false, false, false, false, false] rfl rfl (any_of HT_.out (by kernel_rfl)) (fun _ _ _ h => h) (Or.inl ⟨by rfl, ?_⟩) ?_ ?_
                  rotate_left
                  ·intro w'
                   go_simp
                   with_reducible rfl
                  rotate_left
                  ·simp only [Act.put, ssB, ssZ, ssS, i64_w, i32_w]
                   rfl
                  refine pure_ (i := 2) (N := some 57) (v := ?_) (a' := ?_) #[true, true, true, false, false, false, false, false, false, false, false, false, false, false, false, false, false, false, false, false] rfl rfl (any_of HT_.out (by kernel_rfl)) (fun _ _ _ h => h) (Or.inl ⟨by rfl, ?_⟩) ?_ ?_
                  rotate_left
                  ·intro w'
                   go_simp
                   with_reducible rfl
                  rotate_left
                  ·simp only [Act.put, ssB, ssZ, ssS, i64_w, i32_w]
                   rfl
                  refine pure_ (i := 4) (N := some 59) (v := ?_) (a' := ?_) #[true, true, true, false, true, false, false, false, false, false, false, false, false, false, false, false, false, false, false, false] rfl rfl (any_of HT_.out (by kernel_rfl)) (fun _ _ _ h => h) (Or.inl ⟨by rfl, ?_⟩) ?_ ?_
                  rotate_left
                  ·intro w'
                   go_simp
                   with_reducible rfl
                  rotate_left
                  ·simp only [Act.put, ssB, ssZ, ssS, i64_w, i32_w]
                   rfl
                  refine pure_ (i := 6) (N := some 61) (v := ?_) (a' := ?_) #[true, true, true, false, true, false, true, false, false, false, false, false, false, false, false, false, false, false, false, false] rfl rfl (any_of HT_.out (by kernel_rfl)) (fun _ _ _ h => h) (Or.inl ⟨by rfl, ?_⟩) ?_ ?_
                  rotate_left
                  ·intro w'
                   go_simp
                   with_reducible rfl
                  rotate_left
                  ·simp only [Act.put, ssB, ssZ, ssS, i64_w, i32_w]
                   rfl
                  refine pure_ (i := 7) (N := some 62) (v := ?_) (a' := ?_) #[true, true, true, false, true, false, true, true, false, false, false, false, false, false, false, false, false, false, false, false] rfl rfl (any_of HT_.out (by kernel_rfl)) (fun _ _ _ h => h) (Or.inl ⟨by rfl, ?_⟩) ?_ ?_
                  rotate_left
                  ·intro w'
                   go_simp
                   with_reducible rfl
                  rotate_left
                  ·simp only [Act.put, ssB, ssZ, ssS, i64_w, i32_w]
                   rfl
                  refine pure_ (i := 10) (N := some 65) (v := ?_) (a' := ?_) #[true, true, true, false, true, false, true, true, false, false, true, false, false, false, false, false, false, false, false, false] rfl rfl (any_of HT_.out (by kernel_rfl)) (fun _ _ _ h => h) (Or.inl ⟨by rfl, ?_⟩) ?_ ?_
                  rotate_left
                  ·intro w'
                   go_simp
                   with_reducible rfl
                  rotate_left
                  ·simp only [Act.put, ssB, ssZ, ssS, i64_w, i32_w]
                   rfl
                  refine take_ (i := 3) (N := some 58) (v := ?_) (a' := ?_) #[true, true, true, true, true, false, true, true, false, false, true, false, false, false, false, false, false, false, false, false] rfl rfl (take_ofW HT_.out HW_.out (by kernel_rfl)) (fun _ _ _ h => h) (Or.inl ⟨by rfl, ?_⟩) hHeld ?_ ?_
                  rotate_left
                  ·rintro w' ⟨s0, s1, s2, s3, s4, s5, s6⟩
                   go_simp
                   with_reducible rfl
                  rotate_left
                  ·simp only [Act.put, ssB, ssZ, ssS, i64_w, i32_w]
                   rfl
                  refine take_ (i := 5) (N := some 60) (v := ?_) (a' := ?_) #[true, true, true, true, true, true, true, true, false, false, true, false, false, false, false, false, false, false, false, false] rfl rfl (take_ofW HT_.out HW_.out (by kernel_rfl)) (fun _ _ _ h => h) (Or.inl ⟨by rfl, ?_⟩) hHeld ?_ ?_
                  rotate_left
                  ·rintro w' ⟨s0, s1, s2, s3, s4, s5, s6⟩
                   go_simp
                   with_reducible rfl
                  rotate_left
                  ·simp only [Act.put, ssB, ssZ, ssS, i64_w, i32_w]
                   rfl
                  refine take_ (i := 8) (N := some 63) (v := ?_) (a' := ?_) #[true, true, true, true, true, true, true, true, true, false, true, false, false, false, false, false, false, false, false, false] rfl rfl (take_ofW HT_.out HW_.out (by kernel_rfl)) (fun _ _ _ h => h) (Or.inl ⟨by rfl, ?_⟩) hHeld ?_ ?_
                  rotate_left
                  ·rintro w' ⟨s0, s1, s2, s3, s4, s5, s6⟩
                   go_simp
                   with_reducible rfl
                  rotate_left
                  ·simp only [Act.put, ssB, ssZ, ssS, i64_w, i32_w]
                   rfl
                  refine pure_ (i := 9) (N := some 64) (v := ?_) (a' := ?_) #[true, true, true, true, true, true, true, true, true, true, true, false, false, false, false, false, false, false, false, false] rfl rfl (any_of HT_.out (by kernel_rfl)) (fun _ _ _ h => h) (Or.inl ⟨by rfl, ?_⟩) ?_ ?_
                  rotate_left
                  ·intro w'
                   go_simp
                   with_reducible rfl
                  rotate_left
                  ·simp only [Act.put, ssB, ssZ, ssS, i64_w, i32_w]
                   rfl
                  refine pure_ (i := 11) (N := some 66) (v := ?_) (a' := ?_) #[true, true, true, true, true, true, true, true, true, true, true, true, false, false, false, false, false, false, false, false] rfl rfl (any_of HT_.out (by kernel_rfl)) (fun _ _ _ h => h) (Or.inl ⟨by rfl, ?_⟩) ?_ ?_
                  rotate_left
                  ·intro w'
                   go_simp
                   with_reducible rfl
                  rotate_left
                  ·simp only [Act.put, ssB, ssZ, ssS, i64_w, i32_w]
                   rfl
                  refine pure_ (i := 12) (N := some 67) (v := ?_) (a' := ?_) #[true, true, true, true, true, true, true, true, true, true, true, true, true, false, false, false, false, false, false, false] rfl rfl (any_of HT_.out (by kernel_rfl)) (fun _ _ _ h => h) (Or.inl ⟨by rfl, ?_⟩) ?_ ?_
                  rotate_left
                  ·intro w'
                   go_simp
                   with_reducible rfl
                  rotate_left
                  ·simp only [Act.put, ssB, ssZ, ssS, i64_w, i32_w]
                   rfl
                  refine take_ (i := 13) (N := some 68) (v := ?_) (a' := ?_) #[true, true, true, true, true, true, true, true, true, true, true, true, true, true, false, false, false, false, false, false] rfl rfl (take_ofW HT_.out HW_.out (by kernel_rfl)) (fun _ _ _ h => h) (Or.inl ⟨by rfl, ?_⟩) hHeld ?_ ?_
                  rotate_left
                  ·rintro w' ⟨s0, s1, s2, s3, s4, s5, s6⟩
                   go_simp
                   with_reducible rfl
                  rotate_left
                  ·simp only [Act.put, ssB, ssZ, ssS, i64_w, i32_w]
                   rfl
                  refine one_ (i := 14) (N := some 69) #[true, true, true, true, true, true, true, true, true, true, true, true, true, true, true, false, false, false, false, false] rfl rfl (one_of HT_.out (by kernel_rfl)) (by decide) (fun K hK => ?_)
                  refine goes_ Try.func48 (by kernel_rfl) rfl #[.int .i64 (rd x9_3 x51_3), .int .i64 (rd l0_3 (ji48))] (by rfl) rfl rfl (by (try simp only [mmT, mmC, mmN]); first | done | (simp only [hji48]; rfl) | rfl | (simp only [ddD, ddT]; rfl)) ?_
                  with_reducible refine (prod_Plus.calls (rd x9_3 x51_3) (rd l0_3 (ji48)) t240 t241 _ A51.out).mono ?_
                  rintro e w' ⟨rfl, ⟨nd, rfl⟩⟩
                  refine ⟨_, rfl, ?_⟩
                  refine hK.out _ _ ⟨(bC BK231.out 0).trans rfl, (bC BK231.out 1).trans rfl, (bC BK231.out 2).trans rfl, (bC BK231.out 3).trans rfl, (bC BK231.out 4).trans rfl, hHeld.2.2.2.2.2.1, ((HB.out.cell (World.block_lt_of_cell? w _ hw239_0)).trans hw239_0)⟩ (fun hHeld => ?_)
                  clear hK K
                  refine norm_ (a' := ?_) ?_ ?_
                  rotate_left
                  ·show Act.put _ (some 69) _ = _
                   simp only [Act.put, ssB, ssZ, ssS, i64_w, i32_w]
                   rfl
                  refine pure_ (i := 15) (N := some 54) (v := ?_) (a' := ?_) #[true, true, true, true, true, true, true, true, true, true, true, true, true, true, true, true, false, false, false, false] rfl rfl (any_of HT_.out (by kernel_rfl)) (fun _ _ _ h => h) (Or.inl ⟨by rfl, ?_⟩) ?_ ?_
                  rotate_left
                  ·intro w'
                   go_simp
                   with_reducible rfl
                  rotate_left
                  ·simp only [Act.put, ssB, ssZ, ssS, i64_w, i32_w]
                   rfl
                  refine pure_ (i := 16) (N := some 70) (v := ?_) (a' := ?_) #[true, true, true, true, true, true, true, true, true, true, true, true, true, true, true, true, true, false, false, false] rfl rfl (any_of HT_.out (by kernel_rfl)) (fun _ _ _ h => h) (Or.inl ⟨by rfl, ?_⟩) ?_ ?_
                  rotate_left
                  ·intro w'
                   go_simp
                   with_reducible rfl
                  rotate_left
                  ·simp only [Act.put, ssB, ssZ, ssS, i64_w, i32_w]
                   rfl
                  refine pure_ (i := 17) (N := some 71) (v := ?_) (a' := ?_) #[true, true, true, true, true, true, true, true, true, true, true, true, true, true, true, true, true, true, false, false] rfl rfl (any_of HT_.out (by kernel_rfl)) (fun _ _ _ h => h) (Or.inl ⟨by rfl, ?_⟩) ?_ ?_
                  rotate_left
                  ·intro w'
                   go_simp
                   with_reducible rfl
                  rotate_left
                  ·simp only [Act.put, ssB, ssZ, ssS, i64_w, i32_w]
                   rfl
                  refine pure_ (i := 18) (N := some 13) (v := ?_) (a' := ?_) #[true, true, true, true, true, true, true, true, true, true, true, true, true, true, true, true, true, true, true, false] rfl rfl (any_of HT_.out (by kernel_rfl)) (fun _ _ _ h => h) (Or.inl ⟨by rfl, ?_⟩) ?_ ?_
                  rotate_left
                  ·intro w'
                   go_simp
                   with_reducible rfl
                  rotate_left
                  ·simp only [Act.put, ssB, ssZ, ssS, i64_w, i32_w]
                   rfl
                  refine pure_ (i := 19) (N := some 14) (v := ?_) (a' := ?_) #[true, true, true, true, true, true, true, true, true, true, true, true, true, true, true, true, true, true, true, true] rfl rfl (any_of HT_.out (by kernel_rfl)) (fun _ _ _ h => h) (Or.inl ⟨by rfl, ?_⟩) ?_ ?_
                  rotate_left
                  ·intro w'
                   go_simp
                   with_reducible rfl
                  rotate_left
                  ·simp only [Act.put, ssB, ssZ, ssS, i64_w, i32_w]
                   rfl
                  refine done_ (done_of HT_.out (by kernel_rfl)) ?_
                  have m0_ := aaM (rrN HO_9.out nd)
                  have m1_ := aaM (bN BK231.out nd)
                  have m2_ := aaM (bN BK232.out nd)
                  have m3_ := aaM (bN BK237.out nd)
                  have m4_ := aaM (lN HB.out nd)
                  clear HO_9 BK231 BK232 BK237 HB
                  have HO_9 := m0_
                  have BK231 := m1_
                  have BK232 := m2_
                  have BK237 := m3_
                  have HB := m4_
                  clear m0_ m1_ m2_ m3_ m4_
                  generalize World.drewN w54 nd = w54 at HO_9 BK231 BK232 BK237 HB ⊢
                  have p53 : 0 ≤ (x51_3 : Int) := of_decide_eq_true (by first | (with_reducible assumption) | assumption)
                  have q53 : (x51_3 : Int) < ((x9_3.length : Int) : Int) := of_decide_eq_true (by first | (with_reducible assumption) | assumption)
                  obtain ⟨go53, co53, eo53, gb53, gl53, cl53, HG53⟩ := Kd.R_form HO_9.out (by omega)
                  (first | cases eo53 | (injection eo53 with ea_ en_ ec_; (first | subst ea_ | (injection ea_ with ea_; subst ea_)); subst ec_; clear en_))
                  have GB53 := aaM gb53
                  have GG53 := aaM HG53
                  clear gb53 gl53 HG53
                  (first | simp only [add_plain] at hx238_0 | skip)
                  obtain ⟨hx53_0, hf53_0⟩ := Kd.R_celln 0 HO_9.out (x51_3 : Int) p53 q53
                  replace p53 := eq_true p53
                  replace q53 := eq_true q53
                  obtain ⟨hy55_, hz55_⟩ := Kd.R_celln 0 HO_9.out (x51_3 : Int) (of_decide_eq_true (by first | (with_reducible assumption) | assumption)) (of_decide_eq_true (by first | (with_reducible assumption) | assumption))
                  have HP55 := Kd.R_putg HO_9.out (x51_3 : Int) t240
                  try go_wp2_with (first | ((with_reducible refine gate_store (t := 2) (p := 79) rfl ?_); refine store_event (t := 2) (p := 79) (v := ?vo_w56) (w1 := (w54.setCell ⟨go53, (x51_3 : Int).toNat, none⟩ (.int .i64 t240))) ?hg ?ho ?hn ?hr ?_; (case ho => rfl); (case hg => rfl); (case hn => rfl); (case hr => first | (go_simp; done) | (go_simp; rfl)); intro w56 hw; have hg : w54.grownBy w56 (some go53) := (by rw [hw]; exact HP55.2); have hp_ : Kd.R (Kd.int .i64) 2 w56 w.heap.size (fun _ => True) (.slice (some ⟨go53, 0, none⟩) x9_3.length co44) y242 := (by rw [hw, Ny242.out]; exact HP55.1); clear HP55; replace BK231 := aaM (blk_grown (g := gb231) (by (with_reducible repeat (first | refine bN ?_ _ | refine bD ?_ | refine bA ?_ _)); exact BK231.out) hg (Kd.R_ne HO_9.out BK231.out (by decide))); replace BK232 := aaM (blk_grown (g := gb232) (by (with_reducible repeat (first | refine bN ?_ _ | refine bD ?_ | refine bA ?_ _)); exact BK232.out) hg (Kd.R_ne HO_9.out BK232.out (by decide))); replace BK237 := aaM (blk_grown (g := gb237) (by (with_reducible repeat (first | refine bN ?_ _ | refine bD ?_ | refine bA ?_ _)); exact BK237.out) hg (Kd.R_ne HO_9.out BK237.out (by decide))); replace HO_9 := aaM (hp_); replace HB := aaM ((by rw [hw]; exact lS (HB.out) GB53.out : Below w.heap.size w w56)); clear hg hw hp_))
                  (try simp only [← hl9_3])
                  go_roundg k3
                  case measure => have := HJ27.out; have := HK2.out; have := HK3.out; omega
                  case rel => exact ⟨(y242), (wrap64 (x51_3 + 1)), (x233000_3), (x233001_3), (x233002_3), (by first | rfl | (simp; done) | (simp [*]; done)), H', ⟨by have := HJ27.out; have := HK2.out; have := HK3.out; omega⟩, ⟨by (try simp only [hl9_3]); (with_reducible repeat (first | apply rrA | apply rrN | apply rrD)); exact HO_9.out⟩, ⟨by (try simp only [hl9_3]); (with_reducible repeat (first | refine bN ?_ _ | refine bD ?_ | refine bA ?_ _)); exact BK231.out⟩, ⟨by (try simp only [hl9_3]); (with_reducible repeat (first | refine bN ?_ _ | refine bD ?_ | refine bA ?_ _)); exact BK232.out⟩, ⟨by (try simp only [hl9_3]); (with_reducible repeat (first | refine bN ?_ _ | refine bD ?_ | refine bA ?_ _)); exact BK237.out⟩, ⟨by repeat (first | (with_reducible first | exact HB.out | apply lA | apply lN | apply lD | refine lS ?_ GE231.out | refine lS ?_ GE232.out | refine lS ?_ GE237.out) | exact HB.out)⟩⟩
                 ·rw [if_neg c52] at H
                  have c52b0 : (t241 == 0) = false := beq_eq_false_iff_ne.mpr c52
                  have c52b1 : (t241 != 0) = true := bne_iff_ne.mpr c52
                  simp only [Option.some.injEq, Prod.mk.injEq] at H
                  obtain ⟨rfl, rfl, rfl, rfl, rfl⟩ := H
                  try go_wp2
                  replace HO_9 := aaM (rrD HO_9.out)
                  replace BK231 := aaM (bD BK231.out)
                  replace BK232 := aaM (bD BK232.out)
                  replace BK237 := aaM (bD BK237.out)
                  replace HB := aaM (lD HB.out)
                  have p238 : 0 ≤ (x51_3 : Int) := of_decide_eq_true (by first | (with_reducible assumption) | assumption)
                  have q238 : x51_3 < (x9_3.length : Int) := of_decide_eq_true (by first | (with_reducible assumption) | assumption)
                  obtain ⟨ad238, e238, hx238_0⟩ := Kd.at_int (Kd.R_reads' HO_9.out).2.2 x51_3 p238 q238
                  cases e238
                  replace p238 := eq_true p238
                  replace q238 := eq_true q238
                  have p239 : 0 ≤ ((ji48) : Int) := of_decide_eq_true (by first | (with_reducible assumption) | assumption)
                  have q239 : (ji48) < (l0_3.length : Int) := of_decide_eq_true (by first | (with_reducible assumption) | assumption)
                  obtain ⟨ad239, e239, hx239_0⟩ := Kd.at_int HR0_3.out (ji48) p239 q239
                  have hw239_0 := hx239_0
                  cases e239
                  replace hx239_0 := (HB.out.cell (World.block_lt_of_cell? w _ hx239_0)).trans hx239_0
                  replace p239 := eq_true p239
                  replace q239 := eq_true q239
                  refine start_ (n := 20) (S := fun w' => w'.cell? ⟨gb231, 0, none⟩ = some (.int .i64 a0_0) ∧ w'.cell? ⟨gb231, 1, none⟩ = some (.int .i64 a0_1) ∧ w'.cell? ⟨gb231, 2, none⟩ = some (.int .i64 a0_2) ∧ w'.cell? ⟨gb231, 3, none⟩ = some (.slice (some ad239) l0_3.length c0_3) ∧ w'.cell? ⟨gb231, 4, none⟩ = some (.slice A0_4 l0_4.length c0_4) ∧ w'.cell? (ad238.add (x51_3).toNat) = some (.int .i64 (rd x9_3 x51_3)) ∧ w'.cell? (ad239.add ((ji48)).toNat) = some (.int .i64 (rd l0_3 (ji48)))) (ds := []) #[false, false, false, false, false, false, false, false, false, false, false, false, false, false, false, false, false, false, false, false] (by kernel_rfl) rfl rfl ⟨(bC BK231.out 0).trans rfl, (bC BK231.out 1).trans rfl, (bC BK231.out 2).trans rfl, (bC BK231.out 3).trans rfl, (bC BK231.out 4).trans rfl, hx238_0, ((HB.out.cell (World.block_lt_of_cell? w _ hw239_0)).trans hw239_0)⟩ (fun hHeld => ?_); refine with_tabW hist_Sum.tab15 hist_Sum.bits15 (fun HT_ HW_ => ?_)
                  generalize wr.drew = w57 at HO_9 BK231 BK232 BK237 HB hx238_0 hx239_0 hHeld ⊢
                  refine pure_ (i := 0) (N := some 55) (v := ?_) (a' := ?_) #[true, false, false, false, false, false, false, false, false, false, false, false, false, false, false, false, false, false, false, false] rfl rfl (any_of HT_.out (by kernel_rfl)) (fun _ _ _ h => h) (Or.inl ⟨by rfl, ?_⟩) ?_ ?_
                  rotate_left
                  ·intro w'
                   go_simp
                   with_reducible rfl
                  rotate_left
                  ·simp only [Act.put, ssB, ssZ, ssS, i64_w, i32_w]
                   rfl
                  refine pure_ (i := 1) (N := some 56) (v := ?_) (a' := ?_) #[true, true, false, false, false, false, false, false, false, false, false, false, false, false, false, false, false, false, false, false] rfl rfl (any_of HT_.out (by kernel_rfl)) (fun _ _ _ h => h) (Or.inl ⟨by rfl, ?_⟩) ?_ ?_
                  rotate_left
                  ·intro w'
                   go_simp
                   with_reducible rfl
                  rotate_left
                  ·simp only [Act.put, ssB, ssZ, ssS, i64_w, i32_w]
                   rfl
                  refine pure_ (i := 2) (N := some 57) (v := ?_) (a' := ?_) #[true, true, true, false, false, false, false, false, false, false, false, false, false, false, false, false, false, false, false, false] rfl rfl (any_of HT_.out (by kernel_rfl)) (fun _ _ _ h => h) (Or.inl ⟨by rfl, ?_⟩) ?_ ?_
                  rotate_left
                  ·intro w'
                   go_simp
                   with_reducible rfl
                  rotate_left
                  ·simp only [Act.put, ssB, ssZ, ssS, i64_w, i32_w]
                   rfl
                  refine pure_ (i := 4) (N := some 59) (v := ?_) (a' := ?_) #[true, true, true, false, true, false, false, false, false, false, false, false, false, false, false, false, false, false, false, false] rfl rfl (any_of HT_.out (by kernel_rfl)) (fun _ _ _ h => h) (Or.inl ⟨by rfl, ?_⟩) ?_ ?_
                  rotate_left
                  ·intro w'
                   go_simp
                   with_reducible rfl
                  rotate_left
                  ·simp only [Act.put, ssB, ssZ, ssS, i64_w, i32_w]
                   rfl
                  refine pure_ (i := 6) (N := some 61) (v := ?_) (a' := ?_) #[true, true, true, false, true, false, true, false, false, false, false, false, false, false, false, false, false, false, false, false] rfl rfl (any_of HT_.out (by kernel_rfl)) (fun _ _ _ h => h) (Or.inl ⟨by rfl, ?_⟩) ?_ ?_
                  rotate_left
                  ·intro w'
                   go_simp
                   with_reducible rfl
                  rotate_left
                  ·simp only [Act.put, ssB, ssZ, ssS, i64_w, i32_w]
                   rfl
                  refine pure_ (i := 7) (N := some 62) (v := ?_) (a' := ?_) #[true, true, true, false, true, false, true, true, false, false, false, false, false, false, false, false, false, false, false, false] rfl rfl (any_of HT_.out (by kernel_rfl)) (fun _ _ _ h => h) (Or.inl ⟨by rfl, ?_⟩) ?_ ?_
                  rotate_left
                  ·intro w'
                   go_simp
                   with_reducible rfl
                  rotate_left
                  ·simp only [Act.put, ssB, ssZ, ssS, i64_w, i32_w]
                   rfl
                  refine pure_ (i := 10) (N := some 65) (v := ?_) (a' := ?_) #[true, true, true, false, true, false, true, true, false, false, true, false, false, false, false, false, false, false, false, false] rfl rfl (any_of HT_.out (by kernel_rfl)) (fun _ _ _ h => h) (Or.inl ⟨by rfl, ?_⟩) ?_ ?_
                  rotate_left
                  ·intro w'
                   go_simp
                   with_reducible rfl
                  rotate_left
                  ·simp only [Act.put, ssB, ssZ, ssS, i64_w, i32_w]
                   rfl
                  refine take_ (i := 3) (N := some 58) (v := ?_) (a' := ?_) #[true, true, true, true, true, false, true, true, false, false, true, false, false, false, false, false, false, false, false, false] rfl rfl (take_ofW HT_.out HW_.out (by kernel_rfl)) (fun _ _ _ h => h) (Or.inl ⟨by rfl, ?_⟩) hHeld ?_ ?_
                  rotate_left
                  ·rintro w' ⟨s0, s1, s2, s3, s4, s5, s6⟩
                   go_simp
                   with_reducible rfl
                  rotate_left
                  ·simp only [Act.put, ssB, ssZ, ssS, i64_w, i32_w]
                   rfl
                  refine take_ (i := 5) (N := some 60) (v := ?_) (a' := ?_) #[true, true, true, true, true, true, true, true, false, false, true, false, false, false, false, false, false, false, false, false] rfl rfl (take_ofW HT_.out HW_.out (by kernel_rfl)) (fun _ _ _ h => h) (Or.inl ⟨by rfl, ?_⟩) hHeld ?_ ?_
                  rotate_left
                  ·rintro w' ⟨s0, s1, s2, s3, s4, s5, s6⟩
                   go_simp
                   with_reducible rfl
                  rotate_left
                  ·simp only [Act.put, ssB, ssZ, ssS, i64_w, i32_w]
                   rfl
                  refine take_ (i := 8) (N := some 63) (v := ?_) (a' := ?_) #[true, true, true, true, true, true, true, true, true, false, true, false, false, false, false, false, false, false, false, false] rfl rfl (take_ofW HT_.out HW_.out (by kernel_rfl)) (fun _ _ _ h => h) (Or.inl ⟨by rfl, ?_⟩) hHeld ?_ ?_
                  rotate_left
                  ·rintro w' ⟨s0, s1, s2, s3, s4, s5, s6⟩
                   go_simp
                   with_reducible rfl
                  rotate_left
                  ·simp only [Act.put, ssB, ssZ, ssS, i64_w, i32_w]
                   rfl
                  refine pure_ (i := 9) (N := some 64) (v := ?_) (a' := ?_) #[true, true, true, true, true, true, true, true, true, true, true, false, false, false, false, false, false, false, false, false] rfl rfl (any_of HT_.out (by kernel_rfl)) (fun _ _ _ h => h) (Or.inl ⟨by rfl, ?_⟩) ?_ ?_
                  rotate_left
                  ·intro w'
                   go_simp
                   with_reducible rfl
                  rotate_left
                  ·simp only [Act.put, ssB, ssZ, ssS, i64_w, i32_w]
                   rfl
                  refine pure_ (i := 11) (N := some 66) (v := ?_) (a' := ?_) #[true, true, true, true, true, true, true, true, true, true, true, true, false, false, false, false, false, false, false, false] rfl rfl (any_of HT_.out (by kernel_rfl)) (fun _ _ _ h => h) (Or.inl ⟨by rfl, ?_⟩) ?_ ?_
                  rotate_left
                  ·intro w'
                   go_simp
                   with_reducible rfl
                  rotate_left
                  ·simp only [Act.put, ssB, ssZ, ssS, i64_w, i32_w]
                   rfl
                  refine pure_ (i := 12) (N := some 67) (v := ?_) (a' := ?_) #[true, true, true, true, true, true, true, true, true, true, true, true, true, false, false, false, false, false, false, false] rfl rfl (any_of HT_.out (by kernel_rfl)) (fun _ _ _ h => h) (Or.inl ⟨by rfl, ?_⟩) ?_ ?_
                  rotate_left
                  ·intro w'
                   go_simp
                   with_reducible rfl
                  rotate_left
                  ·simp only [Act.put, ssB, ssZ, ssS, i64_w, i32_w]
                   rfl
                  refine take_ (i := 13) (N := some 68) (v := ?_) (a' := ?_) #[true, true, true, true, true, true, true, true, true, true, true, true, true, true, false, false, false, false, false, false] rfl rfl (take_ofW HT_.out HW_.out (by kernel_rfl)) (fun _ _ _ h => h) (Or.inl ⟨by rfl, ?_⟩) hHeld ?_ ?_
                  rotate_left
                  ·rintro w' ⟨s0, s1, s2, s3, s4, s5, s6⟩
                   go_simp
                   with_reducible rfl
                  rotate_left
                  ·simp only [Act.put, ssB, ssZ, ssS, i64_w, i32_w]
                   rfl
                  refine one_ (i := 14) (N := some 69) #[true, true, true, true, true, true, true, true, true, true, true, true, true, true, true, false, false, false, false, false] rfl rfl (one_of HT_.out (by kernel_rfl)) (by decide) (fun K hK => ?_)
                  refine goes_ Try.func48 (by kernel_rfl) rfl #[.int .i64 (rd x9_3 x51_3), .int .i64 (rd l0_3 (ji48))] (by rfl) rfl rfl (by (try simp only [mmT, mmC, mmN]); first | done | (simp only [hji48]; rfl) | rfl | (simp only [ddD, ddT]; rfl)) ?_
                  with_reducible refine (prod_Plus.calls (rd x9_3 x51_3) (rd l0_3 (ji48)) t240 t241 _ A51.out).mono ?_
                  rintro e w' ⟨rfl, ⟨nd, rfl⟩⟩
                  refine ⟨_, rfl, ?_⟩
                  refine hK.out _ _ ⟨(bC BK231.out 0).trans rfl, (bC BK231.out 1).trans rfl, (bC BK231.out 2).trans rfl, (bC BK231.out 3).trans rfl, (bC BK231.out 4).trans rfl, hHeld.2.2.2.2.2.1, ((HB.out.cell (World.block_lt_of_cell? w _ hw239_0)).trans hw239_0)⟩ (fun hHeld => ?_)
                  clear hK K
                  refine norm_ (a' := ?_) ?_ ?_
                  rotate_left
                  ·show Act.put _ (some 69) _ = _
                   simp only [Act.put, ssB, ssZ, ssS, i64_w, i32_w]
                   rfl
                  refine pure_ (i := 15) (N := some 54) (v := ?_) (a' := ?_) #[true, true, true, true, true, true, true, true, true, true, true, true, true, true, true, true, false, false, false, false] rfl rfl (any_of HT_.out (by kernel_rfl)) (fun _ _ _ h => h) (Or.inl ⟨by rfl, ?_⟩) ?_ ?_
                  rotate_left
                  ·intro w'
                   go_simp
                   with_reducible rfl
                  rotate_left
                  ·simp only [Act.put, ssB, ssZ, ssS, i64_w, i32_w]
                   rfl
                  refine pure_ (i := 16) (N := some 70) (v := ?_) (a' := ?_) #[true, true, true, true, true, true, true, true, true, true, true, true, true, true, true, true, true, false, false, false] rfl rfl (any_of HT_.out (by kernel_rfl)) (fun _ _ _ h => h) (Or.inl ⟨by rfl, ?_⟩) ?_ ?_
                  rotate_left
                  ·intro w'
                   go_simp
                   with_reducible rfl
                  rotate_left
                  ·simp only [Act.put, ssB, ssZ, ssS, i64_w, i32_w]
                   rfl
                  refine pure_ (i := 17) (N := some 71) (v := ?_) (a' := ?_) #[true, true, true, true, true, true, true, true, true, true, true, true, true, true, true, true, true, true, false, false] rfl rfl (any_of HT_.out (by kernel_rfl)) (fun _ _ _ h => h) (Or.inl ⟨by rfl, ?_⟩) ?_ ?_
                  rotate_left
                  ·intro w'
                   go_simp
                   with_reducible rfl
                  rotate_left
                  ·simp only [Act.put, ssB, ssZ, ssS, i64_w, i32_w]
                   rfl
                  refine pure_ (i := 18) (N := some 13) (v := ?_) (a' := ?_) #[true, true, true, true, true, true, true, true, true, true, true, true, true, true, true, true, true, true, true, false] rfl rfl (any_of HT_.out (by kernel_rfl)) (fun _ _ _ h => h) (Or.inl ⟨by rfl, ?_⟩) ?_ ?_
                  rotate_left
                  ·intro w'
                   go_simp
                   with_reducible rfl
                  rotate_left
                  ·simp only [Act.put, ssB, ssZ, ssS, i64_w, i32_w]
                   rfl
                  refine pure_ (i := 19) (N := some 14) (v := ?_) (a' := ?_) #[true, true, true, true, true, true, true, true, true, true, true, true, true, true, true, true, true, true, true, true] rfl rfl (any_of HT_.out (by kernel_rfl)) (fun _ _ _ h => h) (Or.inl ⟨by rfl, ?_⟩) ?_ ?_
                  rotate_left
                  ·intro w'
                   go_simp
                   with_reducible rfl
                  rotate_left
                  ·simp only [Act.put, ssB, ssZ, ssS, i64_w, i32_w]
                   rfl
                  refine done_ (done_of HT_.out (by kernel_rfl)) ?_
                  have m0_ := aaM (rrN HO_9.out nd)
                  have m1_ := aaM (bN BK231.out nd)
                  have m2_ := aaM (bN BK232.out nd)
                  have m3_ := aaM (bN BK237.out nd)
                  have m4_ := aaM (lN HB.out nd)
                  clear HO_9 BK231 BK232 BK237 HB
                  have HO_9 := m0_
                  have BK231 := m1_
                  have BK232 := m2_
                  have BK237 := m3_
                  have HB := m4_
                  clear m0_ m1_ m2_ m3_ m4_
                  generalize World.drewN w57 nd = w57 at HO_9 BK231 BK232 BK237 HB ⊢
                  have hnb58 := NB232_231.out
                  have hnc58 := NB231_232.out
                  have hnb59 := NB232_237.out
                  have hnc59 := NB237_232.out
                  obtain ⟨hcz60_0, hcz60_1, hcz60_2, hfz60_0, hfz60_1, hfz60_2⟩ := bE3 BK232.out
                  try go_wp2
                  refine bodyPost_ret (results_list (rs := [.tmp 6, .cell 7 54, .tmp 8]) rfl (by simp) (.tmp (.cell gb232 54 #[.int .i64 0, .int .i64 0, .int .i64 0] (0, 0) _ rfl (by (with_reducible repeat (first | refine bN ?_ _ | refine bD ?_ | refine bA ?_ _)); refine blk_put (cs := #[.int .i64 0, .int .i64 0, .int .i64 x233002_3]) ?_ 2 _ rfl; (with_reducible repeat (first | refine bN ?_ _ | refine bD ?_ | refine bA ?_ _)); refine blk_put (cs := #[.int .i64 0, .int .i64 x233001_3, .int .i64 x233002_3]) ?_ 1 _ rfl; (with_reducible repeat (first | refine bN ?_ _ | refine bD ?_ | refine bA ?_ _)); refine blk_put (cs := #[.int .i64 x233000_3, .int .i64 x233001_3, .int .i64 x233002_3]) ?_ 0 _ rfl; (with_reducible repeat (first | refine bN ?_ _ | refine bD ?_ | refine bA ?_ _)); exact BK232.out) Try.underlying54 rfl (by kernel_rfl) (.tmp .nil)))) rfl ?_
                  exact ⟨_, by first | rfl | (simp [errW_none, errW_some] <;> rfl) | (simp only [← hji48]; first | rfl | (simp [errW_none, errW_some] <;> rfl)) | (simp [*, errW_none, errW_some] <;> rfl), by first | exact Kd.R_nil _ _ _ _ _ | exact Kd.N_nil _ _ _ _ _ | exact Kd.V_nil _ _ _ _ _ | exact Kd.Q_nil _ _ _ _ _ | exact Kd.S_nil _ _ _ _ _, by repeat (first | (with_reducible first | exact HB.out | apply lA | apply lN | apply lD | refine lS ?_ GE231.out | refine lS ?_ GE232.out | refine lS ?_ GE237.out) | exact HB.out)⟩
                ·rw [if_neg c50] at H
                 exact absurd H (by simp)
               ·rw [if_neg c49] at H
                exact absurd H (by simp)
              ·rw [if_neg c47] at H
               exact absurd H (by simp)
             ·rw [if_neg c46] at H
              exact absurd H (by simp)
            ·rw [if_neg c45] at H
             have c45b0 : decide (x51_3 < (x9_2.length : Int)) = false := decide_eq_false c45
             (try have c45b0z : decide (x51_3 < (x9_3.length : Int)) = false := by rw [← hl9_3]; exact c45b0)
             clear c45
             by_cases c61 : a0_0 = 1
             ·rw [if_pos c61] at H
              have c61b0 : (a0_0 == 1) = true := beq_iff_eq.mpr c61
              have c61b1 : (a0_0 != 1) = false := bne_eq_false_iff_eq.mpr c61
              clear c61
              by_cases c62 : 0 ≤ x11_2
              ·rw [if_pos c62] at H
               have c62b0 : decide (0 ≤ x11_2) = true := decide_eq_true c62
               clear c62
               by_cases c63 : x11_2 < (l0_4.length : Int)
               ·rw [if_pos c63] at H
                have c63b0 : decide (x11_2 < (l0_4.length : Int)) = true := decide_eq_true c63
                clear c63
                replace H := ooB.mp H
                obtain ⟨⟨t244, t245, t246, t247⟩, A640, H⟩ := H
                replace H : (if t247 = 0 then (hist_Sum.l0 k3 a2 x9_3 (wrap64 (x11_2 + 1)) a0_0 a0_1 a0_2 l0_3 l0_4 t244 t245 t246) else (some (([] : List Int), 0, 0, 0, t247))) = some (r1, r2, r3, r4, r5) := H
                have A64 := aaM A640
                clear A640
                by_cases c65 : t247 = 0
                ·rw [if_pos c65] at H
                 have c65b0 : (t247 == 0) = true := beq_iff_eq.mpr c65
                 have c65b1 : (t247 != 0) = false := bne_eq_false_iff_eq.mpr c65
                 clear c65
                 have H' := aaM H
                 clear H
                 have hnb66 := NB231_232.out
                 have hnc66 := NB232_231.out
                 have hnb67 := NB231_237.out
                 have hnc67 := NB237_231.out
                 obtain ⟨hcz68_0, hcz68_1, hcz68_2, hcz68_3, hcz68_4, hfz68_0, hfz68_1, hfz68_2, hfz68_3, hfz68_4⟩ := bE5 BK231.out
                 try go_wp2
                 replace HO_9 := aaM (rrD HO_9.out)
                 replace BK231 := aaM (bD BK231.out)
                 replace BK232 := aaM (bD BK232.out)
                 replace BK237 := aaM (bD BK237.out)
                 replace HB := aaM (lD HB.out)
                 have p243 : 0 ≤ (x11_2 : Int) := of_decide_eq_true (by first | (with_reducible assumption) | assumption)
                 have q243 : x11_2 < (l0_4.length : Int) := of_decide_eq_true (by first | (with_reducible assumption) | assumption)
                 obtain ⟨ad243, e243, hx243_0, hx243_1, hx243_2⟩ := at_T54 HR0_4.out x11_2 p243 q243
                 have hw243_2 := hx243_2
                 have hw243_1 := hx243_1
                 have hw243_0 := hx243_0
                 cases e243
                 replace hx243_0 := (HB.out.cell (World.block_lt_of_cell? w _ hx243_0)).trans hx243_0
                 replace hx243_1 := (HB.out.cell (World.block_lt_of_cell? w _ hx243_1)).trans hx243_1
                 replace hx243_2 := (HB.out.cell (World.block_lt_of_cell? w _ hx243_2)).trans hx243_2
                 replace p243 := eq_true p243
                 replace q243 := eq_true q243
                 refine start_ (n := 14) (S := fun w' => w'.cell? ⟨gb237, 0, none⟩ = some (.int .i64 x238000_2) ∧ w'.cell? ⟨gb237, 1, none⟩ = some (.int .i64 x238001_2) ∧ w'.cell? ⟨gb237, 2, none⟩ = some (.int .i64 x238002_2) ∧ w'.cell? ⟨gb231, 0, none⟩ = some (.int .i64 a0_0) ∧ w'.cell? ⟨gb231, 1, none⟩ = some (.int .i64 a0_1) ∧ w'.cell? ⟨gb231, 2, none⟩ = some (.int .i64 a0_2) ∧ w'.cell? ⟨gb231, 3, none⟩ = some (.slice A0_3 l0_3.length c0_3) ∧ w'.cell? ⟨gb231, 4, none⟩ = some (.slice (some ad243) l0_4.length c0_4) ∧ w'.cell? (ad243.add ((x11_2).toNat * 3)) = some (.int .i64 ((rd_T54 l0_4 x11_2).f0)) ∧ w'.cell? ⟨(ad243.add ((x11_2).toNat * 3)).block, (ad243.add ((x11_2).toNat * 3)).off + 1, none⟩ = some (.int .i64 ((rd_T54 l0_4 x11_2).f1)) ∧ w'.cell? ⟨(ad243.add ((x11_2).toNat * 3)).block, (ad243.add ((x11_2).toNat * 3)).off + 2, none⟩ = some (.int .i64 ((rd_T54 l0_4 x11_2).f2))) (ds := []) #[false, false, false, false, false, false, false, false, false, false, false, false, false, false] (by kernel_rfl) rfl rfl ⟨(bC BK237.out 0).trans rfl, (bC BK237.out 1).trans rfl, (bC BK237.out 2).trans rfl, (bC BK231.out 0).trans rfl, (bC BK231.out 1).trans rfl, (bC BK231.out 2).trans rfl, (bC BK231.out 3).trans rfl, (bC BK231.out 4).trans rfl, ((HB.out.cell (World.block_lt_of_cell? w _ hw243_0)).trans hw243_0), ((HB.out.cell (World.block_lt_of_cell? w _ hw243_1)).trans hw243_1), ((HB.out.cell (World.block_lt_of_cell? w _ hw243_2)).trans hw243_2)⟩ (fun hHeld => ?_); refine with_tabW hist_Sum.tab21 hist_Sum.bits21 (fun HT_ HW_ => ?_)
                 generalize wr.drew = w69 at HO_9 BK231 BK232 BK237 HB hx243_0 hx243_1 hx243_2 hHeld ⊢
                 refine pure_ (i := 2) (N := some 87) (v := ?_) (a' := ?_) #[false, false, true, false, false, false, false, false, false, false, false, false, false, false] rfl rfl (any_of HT_.out (by kernel_rfl)) (fun _ _ _ h => h) (Or.inl ⟨by rfl, ?_⟩) ?_ ?_
                 rotate_left
                 ·intro w'
                  go_simp
                  with_reducible rfl
                 rotate_left
                 ·simp only [Act.put, ssB, ssZ, ssS, i64_w, i32_w]
                  rfl
                 refine pure_ (i := 4) (N := some 89) (v := ?_) (a' := ?_) #[false, false, true, false, true, false, false, false, false, false, false, false, false, false] rfl rfl (any_of HT_.out (by kernel_rfl)) (fun _ _ _ h => h) (Or.inl ⟨by rfl, ?_⟩) ?_ ?_
                 rotate_left
                 ·intro w'
                  go_simp
                  with_reducible rfl
                 rotate_left
                 ·simp only [Act.put, ssB, ssZ, ssS, i64_w, i32_w]
                  rfl
                 refine take_ (i := 1) (N := some 86) (v := ?_) (a' := ?_) #[false, true, true, false, true, false, false, false, false, false, false, false, false, false] rfl rfl (take_ofW HT_.out HW_.out (by kernel_rfl)) (fun _ _ _ h => h) (Or.inl ⟨by rfl, ?_⟩) hHeld ?_ ?_
                 rotate_left
                 ·rintro w' ⟨s0, s1, s2, s3, s4, s5, s6, s7, s8, s9, s10⟩
                  go_simp
                  with_reducible rfl
                 rotate_left
                 ·simp only [Act.put, ssB, ssZ, ssS, i64_w, i32_w]
                  rfl
                 refine take_ (i := 3) (N := some 88) (v := ?_) (a' := ?_) #[false, true, true, true, true, false, false, false, false, false, false, false, false, false] rfl rfl (take_ofW HT_.out HW_.out (by kernel_rfl)) (fun _ _ _ h => h) (Or.inl ⟨by rfl, ?_⟩) hHeld ?_ ?_
                 rotate_left
                 ·rintro w' ⟨s0, s1, s2, s3, s4, s5, s6, s7, s8, s9, s10⟩
                  go_simp
                  with_reducible rfl
                 rotate_left
                 ·simp only [Act.put, ssB, ssZ, ssS, i64_w, i32_w]
                  rfl
                 refine pure_ (i := 5) (N := some 90) (v := ?_) (a' := ?_) #[false, true, true, true, true, true, false, false, false, false, false, false, false, false] rfl rfl (any_of HT_.out (by kernel_rfl)) (fun _ _ _ h => h) (Or.inl ⟨by rfl, ?_⟩) ?_ ?_
                 rotate_left
                 ·intro w'
                  go_simp
                  with_reducible rfl
                 rotate_left
                 ·simp only [Act.put, ssB, ssZ, ssS, i64_w, i32_w]
                  rfl
                 refine take_ (i := 6) (N := some 91) (v := ?_) (a' := ?_) #[false, true, true, true, true, true, true, false, false, false, false, false, false, false] rfl rfl (take_ofW HT_.out HW_.out (by kernel_rfl)) (fun _ _ _ h => h) (Or.inl ⟨by rfl, ?_⟩) hHeld ?_ ?_
                 rotate_left
                 ·rintro w' ⟨s0, s1, s2, s3, s4, s5, s6, s7, s8, s9, s10⟩
                  go_simp
                  with_reducible rfl
                 rotate_left
                 ·simp only [Act.put, ssB, ssZ, ssS, i64_w, i32_w]
                  rfl
                 refine join_ (σ := Nat × Nat) 2 #[true, true, true, true, true, true, true, true, true, true, true, true, false, false] (fun s_ => [(85, .func (.func 61) #[] #[.pointer (some ⟨s_.2, 0, none⟩)]), (92, .tuple #[.agg #[.int .i64 t244, .int .i64 t245, .int .i64 t246], .int .i64 t247]), (15, .pointer (some ⟨s_.1, 0, none⟩)), (84, .tuple #[.agg #[.int .i64 t244, .int .i64 t245, .int .i64 t246], .int .i64 t247]), (93, .agg #[.int .i64 t244, .int .i64 t245, .int .i64 t246]), (94, .int .i64 t247)]) (fun s_ w' => (w'.cell? ⟨gb237, 0, none⟩ = some (.int .i64 x238000_2) ∧ w'.cell? ⟨gb237, 1, none⟩ = some (.int .i64 x238001_2) ∧ w'.cell? ⟨gb237, 2, none⟩ = some (.int .i64 x238002_2) ∧ w'.cell? ⟨gb231, 0, none⟩ = some (.int .i64 a0_0) ∧ w'.cell? ⟨gb231, 1, none⟩ = some (.int .i64 a0_1) ∧ w'.cell? ⟨gb231, 2, none⟩ = some (.int .i64 a0_2) ∧ w'.cell? ⟨gb231, 3, none⟩ = some (.slice A0_3 l0_3.length c0_3) ∧ w'.cell? ⟨gb231, 4, none⟩ = some (.slice (some ad243) l0_4.length c0_4) ∧ w'.cell? (ad243.add ((x11_2).toNat * 3)) = some (.int .i64 ((rd_T54 l0_4 x11_2).f0)) ∧ w'.cell? ⟨(ad243.add ((x11_2).toNat * 3)).block, (ad243.add ((x11_2).toNat * 3)).off + 1, none⟩ = some (.int .i64 ((rd_T54 l0_4 x11_2).f1)) ∧ w'.cell? ⟨(ad243.add ((x11_2).toNat * 3)).block, (ad243.add ((x11_2).toNat * 3)).off + 2, none⟩ = some (.int .i64 ((rd_T54 l0_4 x11_2).f2))) ∧ (Kd.R (Kd.int .i64) 2 w' w.heap.size (fun _ => True) (.slice Ao44 x9_3.length co44) x9_3) ∧ (w'.heap[gb231]? = some (.cells #[.int .i64 a0_0, .int .i64 a0_1, .int .i64 a0_2, .slice A0_3 l0_3.length c0_3, .slice (some ad243) l0_4.length c0_4] 25 (0, 0))) ∧ (w'.heap[gb232]? = some (.cells #[.int .i64 x233000_3, .int .i64 x233001_3, .int .i64 x233002_3] 54 (0, 0))) ∧ (w'.heap[gb237]? = some (.cells #[.int .i64 x238000_2, .int .i64 x238001_2, .int .i64 x238002_2] 54 (0, 0))) ∧ (w'.heap[s_.1]? = some (.cells #[.int .i64 0, .int .i64 0, .int .i64 0] 54 (0, 0))) ∧ (w.heap.size ≤ s_.1) ∧ (w.heap.size ≤ s_.1) ∧ (gb231 ≠ s_.1) ∧ (s_.1 ≠ gb231) ∧ (gb232 ≠ s_.1) ∧ (s_.1 ≠ gb232) ∧ (gb237 ≠ s_.1) ∧ (s_.1 ≠ gb237) ∧ (Below w.heap.size w w')) ?_ ?_
                 rotate_left
                 ·intro hCont
                  refine two_ (i := 0) (j := 11) (Ni := some 85) (Nj := some 15) #[true, true, true, true, true, true, true, false, false, false, false, false, false, false] #[false, true, true, true, true, true, true, false, false, false, false, true, false, false] rfl rfl rfl rfl (two_of HT_.out (by kernel_rfl)) (by decide) (by decide) (fun K hK => ?_) (fun K hK => ?_)
                  ·skip
                   refine goes_ Try.func49 (by kernel_rfl) rfl #[.func (.func 50) #[] #[]] (by rfl) rfl rfl (by first | rfl | simp [Act.eval]) ?_
                   with_reducible refine (hist_moments.calls _).mono ?_
                   rintro e w70c ⟨gc, rfl, hgc_, hb⟩
                   have hgc := aaM hgc_
                   clear hgc_
                   refine ⟨_, rfl, ?_⟩
                   replace HO_9 := aaM (rrB (by (with_reducible repeat (first | apply rrA | apply rrN | apply rrD)); exact HO_9.out) hb)
                   replace BK231 := aaM (bX hb BK231.out)
                   replace BK232 := aaM (bX hb BK232.out)
                   replace BK237 := aaM (bX hb BK237.out)
                   replace HB := aaM (lP (by repeat (first | (with_reducible first | exact HB.out | apply lA | apply lN | apply lD | refine lS ?_ GE231.out | refine lS ?_ GE232.out | refine lS ?_ GE237.out) | exact HB.out)) hb)
                   (try clear hb)
                   (try clear hb2)
                   (try clear hk)
                   (try clear hi)
                   refine hK.out _ _ ⟨(bC BK237.out 0).trans rfl, (bC BK237.out 1).trans rfl, (bC BK237.out 2).trans rfl, (bC BK231.out 0).trans rfl, (bC BK231.out 1).trans rfl, (bC BK231.out 2).trans rfl, (bC BK231.out 3).trans rfl, (bC BK231.out 4).trans rfl, ((HB.out.cell (World.block_lt_of_cell? w _ hw243_0)).trans hw243_0), ((HB.out.cell (World.block_lt_of_cell? w _ hw243_1)).trans hw243_1), ((HB.out.cell (World.block_lt_of_cell? w _ hw243_2)).trans hw243_2)⟩ (fun hHeld => ?_)
                   clear hK K
                   refine norm_ (a' := ?_) ?_ ?_
                   rotate_left
                   ·show Act.put _ (some 85) _ = _
                    simp only [Act.put, ssB, ssZ, ssS, i64_w, i32_w]
                    rfl
                   refine two_ (i := 7) (j := 11) (Ni := some 92) (Nj := some 15) #[true, true, true, true, true, true, true, true, false, false, false, false, false, false] #[true, true, true, true, true, true, true, false, false, false, false, true, false, false] rfl rfl rfl rfl (two_of HT_.out (by kernel_rfl)) (by decide) (by decide) (fun K hK => ?_) (fun K hK => ?_)
                   ·skip
                    refine goesC_ Try.func61 (by kernel_rfl) rfl #[.agg #[.int .i64 x238000_2, .int .i64 x238001_2, .int .i64 x238002_2], .agg #[.int .i64 ((rd_T54 l0_4 x11_2).f0), .int .i64 ((rd_T54 l0_4 x11_2).f1), .int .i64 ((rd_T54 l0_4 x11_2).f2)]] #[.pointer (some ⟨gc, 0, none⟩)] #[.agg #[.int .i64 x238000_2, .int .i64 x238001_2, .int .i64 x238002_2], .agg #[.int .i64 ((rd_T54 l0_4 x11_2).f0), .int .i64 ((rd_T54 l0_4 x11_2).f1), .int .i64 ((rd_T54 l0_4 x11_2).f2)], .pointer (some ⟨gc, 0, none⟩)] rfl (by rfl) rfl rfl rfl (by (try simp only [mmT, mmC, mmN]); first | done | rfl | (simp only [ddD, ddT]; rfl)) ?_
                    with_reducible refine (hist_moments_1.calls x238000_2 x238001_2 x238002_2 ((rd_T54 l0_4 x11_2).f0) ((rd_T54 l0_4 x11_2).f1) ((rd_T54 l0_4 x11_2).f2) t244 t245 t246 t247 gc _ hgc.out A64.out).mono ?_
                    rintro e w70 ⟨rfl, hb⟩
                    refine ⟨_, rfl, ?_⟩
                    replace HO_9 := aaM (rrB (by (with_reducible repeat (first | apply rrA | apply rrN | apply rrD)); exact HO_9.out) hb)
                    replace BK231 := aaM (bX hb BK231.out)
                    replace BK232 := aaM (bX hb BK232.out)
                    replace BK237 := aaM (bX hb BK237.out)
                    replace HB := aaM (lP (by repeat (first | (with_reducible first | exact HB.out | apply lA | apply lN | apply lD | refine lS ?_ GE231.out | refine lS ?_ GE232.out | refine lS ?_ GE237.out) | exact HB.out)) hb)
                    (try clear hb)
                    (try clear hb2)
                    (try clear hk)
                    (try clear hi)
                    refine hK.out _ _ ⟨(bC BK237.out 0).trans rfl, (bC BK237.out 1).trans rfl, (bC BK237.out 2).trans rfl, (bC BK231.out 0).trans rfl, (bC BK231.out 1).trans rfl, (bC BK231.out 2).trans rfl, (bC BK231.out 3).trans rfl, (bC BK231.out 4).trans rfl, ((HB.out.cell (World.block_lt_of_cell? w _ hw243_0)).trans hw243_0), ((HB.out.cell (World.block_lt_of_cell? w _ hw243_1)).trans hw243_1), ((HB.out.cell (World.block_lt_of_cell? w _ hw243_2)).trans hw243_2)⟩ (fun hHeld => ?_)
                    clear hK K
                    refine norm_ (a' := ?_) ?_ ?_
                    rotate_left
                    ·show Act.put _ (some 92) _ = _
                     simp only [Act.put, ssB, ssZ, ssS, i64_w, i32_w]
                     rfl
                    refine pure_ (i := 8) (N := some 84) (v := ?_) (a' := ?_) #[true, true, true, true, true, true, true, true, true, false, false, false, false, false] rfl rfl (any_of HT_.out (by kernel_rfl)) (fun _ _ _ h => h) (Or.inl ⟨by rfl, ?_⟩) ?_ ?_
                    rotate_left
                    ·intro w'
                     go_simp
                     with_reducible rfl
                    rotate_left
                    ·simp only [Act.put, ssB, ssZ, ssS, i64_w, i32_w]
                     rfl
                    refine pure_ (i := 9) (N := some 93) (v := ?_) (a' := ?_) #[true, true, true, true, true, true, true, true, true, true, false, false, false, false] rfl rfl (any_of HT_.out (by kernel_rfl)) (fun _ _ _ h => h) (Or.inl ⟨by rfl, ?_⟩) ?_ ?_
                    rotate_left
                    ·intro w'
                     go_simp
                     with_reducible rfl
                    rotate_left
                    ·simp only [Act.put, ssB, ssZ, ssS, i64_w, i32_w]
                     rfl
                    refine pure_ (i := 10) (N := some 94) (v := ?_) (a' := ?_) #[true, true, true, true, true, true, true, true, true, true, true, false, false, false] rfl rfl (any_of HT_.out (by kernel_rfl)) (fun _ _ _ h => h) (Or.inl ⟨by rfl, ?_⟩) ?_ ?_
                    rotate_left
                    ·intro w'
                     go_simp
                     with_reducible rfl
                    rotate_left
                    ·simp only [Act.put, ssB, ssZ, ssS, i64_w, i32_w]
                     rfl
                    refine one_ (i := 11) (N := some 15) #[true, true, true, true, true, true, true, true, true, true, true, true, false, false] rfl rfl (one_of HT_.out (by kernel_rfl)) (by decide) (fun K hK => ?_)
                    refine box_step ?hg (N := 15) ?hd (cs := #[.int .i64 0, .int .i64 0, .int .i64 0]) (t := 54) ?hr ?_; (case hd => rfl); (case hg => rfl); (case hr => first | (go_simp; done) | (go_simp; rfl))
                    intro gb248 hg w71 hbox hb
                    have hP_ := lQ (by repeat (first | (with_reducible first | exact HB.out | apply lA | apply lN | apply lD | refine lS ?_ GE231.out | refine lS ?_ GE232.out | refine lS ?_ GE237.out) | exact HB.out)) hb
                    replace HO_9 := aaM (rrB (by (with_reducible repeat (first | apply rrA | apply rrN | apply rrD)); exact HO_9.out) hb)
                    replace HB := aaM hP_.1
                    have BK248 := aaM (hbox)
                    have GW248 := aaM (gQ hg hP_.2)
                    have GE248 := aaM (gQ hg hP_.2)
                    have NB231_248 := aaM (nL hg BK231.out)
                    have NB248_231 := aaM (nL hg BK231.out).symm
                    replace BK231 := aaM (bX hb BK231.out)
                    have NB232_248 := aaM (nL hg BK232.out)
                    have NB248_232 := aaM (nL hg BK232.out).symm
                    replace BK232 := aaM (bX hb BK232.out)
                    have NB237_248 := aaM (nL hg BK237.out)
                    have NB248_237 := aaM (nL hg BK237.out).symm
                    replace BK237 := aaM (bX hb BK237.out)
                    clear hb hbox hg hP_
                    refine hK.out _ _ ⟨(bC BK237.out 0).trans rfl, (bC BK237.out 1).trans rfl, (bC BK237.out 2).trans rfl, (bC BK231.out 0).trans rfl, (bC BK231.out 1).trans rfl, (bC BK231.out 2).trans rfl, (bC BK231.out 3).trans rfl, (bC BK231.out 4).trans rfl, ((HB.out.cell (World.block_lt_of_cell? w _ hw243_0)).trans hw243_0), ((HB.out.cell (World.block_lt_of_cell? w _ hw243_1)).trans hw243_1), ((HB.out.cell (World.block_lt_of_cell? w _ hw243_2)).trans hw243_2)⟩ (fun hHeld => ?_)
                    clear hK K
                    refine norm_ (a' := ?_) ?_ ?_
                    rotate_left
                    ·show Act.put _ (some 15) _ = _
                     simp only [Act.put, ssB, ssZ, ssS, i64_w, i32_w]
                     rfl
                    exact norm_ (by simp only [putAll, Act.put, ssB, ssZ, ssS]) (hCont (gb248, gc) _ ⟨hHeld, (by (with_reducible repeat (first | apply rrA | apply rrN | apply rrD)); exact HO_9.out), (by (with_reducible repeat (first | refine bN ?_ _ | refine bD ?_ | refine bA ?_ _)); exact BK231.out), (by (with_reducible repeat (first | refine bN ?_ _ | refine bD ?_ | refine bA ?_ _)); exact BK232.out), (by (with_reducible repeat (first | refine bN ?_ _ | refine bD ?_ | refine bA ?_ _)); exact BK237.out), (by (with_reducible repeat (first | refine bN ?_ _ | refine bD ?_ | refine bA ?_ _)); exact BK248.out), GW248.out, GE248.out, NB231_248.out, NB248_231.out, NB232_248.out, NB248_232.out, NB237_248.out, NB248_237.out, (by repeat (first | (with_reducible first | exact HB.out | apply lA | apply lN | apply lD | refine lS ?_ GE231.out | refine lS ?_ GE232.out | refine lS ?_ GE237.out | refine lS ?_ GE248.out) | exact HB.out))⟩)
                   ·skip
                    refine box_step ?hg (N := 15) ?hd (cs := #[.int .i64 0, .int .i64 0, .int .i64 0]) (t := 54) ?hr ?_; (case hd => rfl); (case hg => rfl); (case hr => first | (go_simp; done) | (go_simp; rfl))
                    intro gb248 hg w70 hbox hb
                    have hgc := aaM ((hb.cell (World.block_lt_of_cell? _ _ hgc.out)).trans hgc.out)
                    have hP_ := lQ (by repeat (first | (with_reducible first | exact HB.out | apply lA | apply lN | apply lD | refine lS ?_ GE231.out | refine lS ?_ GE232.out | refine lS ?_ GE237.out) | exact HB.out)) hb
                    replace HO_9 := aaM (rrB (by (with_reducible repeat (first | apply rrA | apply rrN | apply rrD)); exact HO_9.out) hb)
                    replace HB := aaM hP_.1
                    have BK248 := aaM (hbox)
                    have GW248 := aaM (gQ hg hP_.2)
                    have GE248 := aaM (gQ hg hP_.2)
                    have NB231_248 := aaM (nL hg BK231.out)
                    have NB248_231 := aaM (nL hg BK231.out).symm
                    replace BK231 := aaM (bX hb BK231.out)
                    have NB232_248 := aaM (nL hg BK232.out)
                    have NB248_232 := aaM (nL hg BK232.out).symm
                    replace BK232 := aaM (bX hb BK232.out)
                    have NB237_248 := aaM (nL hg BK237.out)
                    have NB248_237 := aaM (nL hg BK237.out).symm
                    replace BK237 := aaM (bX hb BK237.out)
                    clear hb hbox hg hP_
                    refine hK.out _ _ ⟨(bC BK237.out 0).trans rfl, (bC BK237.out 1).trans rfl, (bC BK237.out 2).trans rfl, (bC BK231.out 0).trans rfl, (bC BK231.out 1).trans rfl, (bC BK231.out 2).trans rfl, (bC BK231.out 3).trans rfl, (bC BK231.out 4).trans rfl, ((HB.out.cell (World.block_lt_of_cell? w _ hw243_0)).trans hw243_0), ((HB.out.cell (World.block_lt_of_cell? w _ hw243_1)).trans hw243_1), ((HB.out.cell (World.block_lt_of_cell? w _ hw243_2)).trans hw243_2)⟩ (fun hHeld => ?_)
                    clear hK K
                    refine norm_ (a' := ?_) ?_ ?_
                    rotate_left
                    ·show Act.put _ (some 15) _ = _
                     simp only [Act.put, ssB, ssZ, ssS, i64_w, i32_w]
                     rfl
                    refine one_ (i := 7) (N := some 92) #[true, true, true, true, true, true, true, true, false, false, false, true, false, false] rfl rfl (one_of HT_.out (by kernel_rfl)) (by decide) (fun K hK => ?_)
                    refine goesC_ Try.func61 (by kernel_rfl) rfl #[.agg #[.int .i64 x238000_2, .int .i64 x238001_2, .int .i64 x238002_2], .agg #[.int .i64 ((rd_T54 l0_4 x11_2).f0), .int .i64 ((rd_T54 l0_4 x11_2).f1), .int .i64 ((rd_T54 l0_4 x11_2).f2)]] #[.pointer (some ⟨gc, 0, none⟩)] #[.agg #[.int .i64 x238000_2, .int .i64 x238001_2, .int .i64 x238002_2], .agg #[.int .i64 ((rd_T54 l0_4 x11_2).f0), .int .i64 ((rd_T54 l0_4 x11_2).f1), .int .i64 ((rd_T54 l0_4 x11_2).f2)], .pointer (some ⟨gc, 0, none⟩)] rfl (by rfl) rfl rfl rfl (by (try simp only [mmT, mmC, mmN]); first | done | rfl | (simp only [ddD, ddT]; rfl)) ?_
                    with_reducible refine (hist_moments_1.calls x238000_2 x238001_2 x238002_2 ((rd_T54 l0_4 x11_2).f0) ((rd_T54 l0_4 x11_2).f1) ((rd_T54 l0_4 x11_2).f2) t244 t245 t246 t247 gc _ hgc.out A64.out).mono ?_
                    rintro e w71 ⟨rfl, hb⟩
                    refine ⟨_, rfl, ?_⟩
                    replace HO_9 := aaM (rrB (by (with_reducible repeat (first | apply rrA | apply rrN | apply rrD)); exact HO_9.out) hb)
                    replace BK231 := aaM (bX hb BK231.out)
                    replace BK232 := aaM (bX hb BK232.out)
                    replace BK237 := aaM (bX hb BK237.out)
                    replace BK248 := aaM (bX hb BK248.out)
                    replace HB := aaM (lP (by repeat (first | (with_reducible first | exact HB.out | apply lA | apply lN | apply lD | refine lS ?_ GE231.out | refine lS ?_ GE232.out | refine lS ?_ GE237.out | refine lS ?_ GE248.out) | exact HB.out)) hb)
                    (try clear hb)
                    (try clear hb2)
                    (try clear hk)
                    (try clear hi)
                    refine hK.out _ _ ⟨(bC BK237.out 0).trans rfl, (bC BK237.out 1).trans rfl, (bC BK237.out 2).trans rfl, (bC BK231.out 0).trans rfl, (bC BK231.out 1).trans rfl, (bC BK231.out 2).trans rfl, (bC BK231.out 3).trans rfl, (bC BK231.out 4).trans rfl, ((HB.out.cell (World.block_lt_of_cell? w _ hw243_0)).trans hw243_0), ((HB.out.cell (World.block_lt_of_cell? w _ hw243_1)).trans hw243_1), ((HB.out.cell (World.block_lt_of_cell? w _ hw243_2)).trans hw243_2)⟩ (fun hHeld => ?_)
                    clear hK K
                    refine norm_ (a' := ?_) ?_ ?_
                    rotate_left
                    ·show Act.put _ (some 92) _ = _
                     simp only [Act.put, ssB, ssZ, ssS, i64_w, i32_w]
                     rfl
                    refine pure_ (i := 8) (N := some 84) (v := ?_) (a' := ?_) #[true, true, true, true, true, true, true, true, true, false, false, true, false, false] rfl rfl (any_of HT_.out (by kernel_rfl)) (fun _ _ _ h => h) (Or.inl ⟨by rfl, ?_⟩) ?_ ?_
                    rotate_left
                    ·intro w'
                     go_simp
                     with_reducible rfl
                    rotate_left
                    ·simp only [Act.put, ssB, ssZ, ssS, i64_w, i32_w]
                     rfl
                    refine pure_ (i := 9) (N := some 93) (v := ?_) (a' := ?_) #[true, true, true, true, true, true, true, true, true, true, false, true, false, false] rfl rfl (any_of HT_.out (by kernel_rfl)) (fun _ _ _ h => h) (Or.inl ⟨by rfl, ?_⟩) ?_ ?_
                    rotate_left
                    ·intro w'
                     go_simp
                     with_reducible rfl
                    rotate_left
                    ·simp only [Act.put, ssB, ssZ, ssS, i64_w, i32_w]
                     rfl
                    refine pure_ (i := 10) (N := some 94) (v := ?_) (a' := ?_) #[true, true, true, true, true, true, true, true, true, true, true, true, false, false] rfl rfl (any_of HT_.out (by kernel_rfl)) (fun _ _ _ h => h) (Or.inl ⟨by rfl, ?_⟩) ?_ ?_
                    rotate_left
                    ·intro w'
                     go_simp
                     with_reducible rfl
                    rotate_left
                    ·simp only [Act.put, ssB, ssZ, ssS, i64_w, i32_w]
                     rfl
                    exact norm_ (by simp only [putAll, Act.put, ssB, ssZ, ssS]) (hCont (gb248, gc) _ ⟨hHeld, (by (with_reducible repeat (first | apply rrA | apply rrN | apply rrD)); exact HO_9.out), (by (with_reducible repeat (first | refine bN ?_ _ | refine bD ?_ | refine bA ?_ _)); exact BK231.out), (by (with_reducible repeat (first | refine bN ?_ _ | refine bD ?_ | refine bA ?_ _)); exact BK232.out), (by (with_reducible repeat (first | refine bN ?_ _ | refine bD ?_ | refine bA ?_ _)); exact BK237.out), (by (with_reducible repeat (first | refine bN ?_ _ | refine bD ?_ | refine bA ?_ _)); exact BK248.out), GW248.out, GE248.out, NB231_248.out, NB248_231.out, NB232_248.out, NB248_232.out, NB237_248.out, NB248_237.out, (by repeat (first | (with_reducible first | exact HB.out | apply lA | apply lN | apply lD | refine lS ?_ GE231.out | refine lS ?_ GE232.out | refine lS ?_ GE237.out | refine lS ?_ GE248.out) | exact HB.out))⟩)
                  ·skip
                   refine box_step ?hg (N := 15) ?hd (cs := #[.int .i64 0, .int .i64 0, .int .i64 0]) (t := 54) ?hr ?_; (case hd => rfl); (case hg => rfl); (case hr => first | (go_simp; done) | (go_simp; rfl))
                   intro gb248 hg w70 hbox hb
                   have hP_ := lQ (by repeat (first | (with_reducible first | exact HB.out | apply lA | apply lN | apply lD | refine lS ?_ GE231.out | refine lS ?_ GE232.out | refine lS ?_ GE237.out) | exact HB.out)) hb
                   replace HO_9 := aaM (rrB (by (with_reducible repeat (first | apply rrA | apply rrN | apply rrD)); exact HO_9.out) hb)
                   replace HB := aaM hP_.1
                   have BK248 := aaM (hbox)
                   have GW248 := aaM (gQ hg hP_.2)
                   have GE248 := aaM (gQ hg hP_.2)
                   have NB231_248 := aaM (nL hg BK231.out)
                   have NB248_231 := aaM (nL hg BK231.out).symm
                   replace BK231 := aaM (bX hb BK231.out)
                   have NB232_248 := aaM (nL hg BK232.out)
                   have NB248_232 := aaM (nL hg BK232.out).symm
                   replace BK232 := aaM (bX hb BK232.out)
                   have NB237_248 := aaM (nL hg BK237.out)
                   have NB248_237 := aaM (nL hg BK237.out).symm
                   replace BK237 := aaM (bX hb BK237.out)
                   clear hb hbox hg hP_
                   refine hK.out _ _ ⟨(bC BK237.out 0).trans rfl, (bC BK237.out 1).trans rfl, (bC BK237.out 2).trans rfl, (bC BK231.out 0).trans rfl, (bC BK231.out 1).trans rfl, (bC BK231.out 2).trans rfl, (bC BK231.out 3).trans rfl, (bC BK231.out 4).trans rfl, ((HB.out.cell (World.block_lt_of_cell? w _ hw243_0)).trans hw243_0), ((HB.out.cell (World.block_lt_of_cell? w _ hw243_1)).trans hw243_1), ((HB.out.cell (World.block_lt_of_cell? w _ hw243_2)).trans hw243_2)⟩ (fun hHeld => ?_)
                   clear hK K
                   refine norm_ (a' := ?_) ?_ ?_
                   rotate_left
                   ·show Act.put _ (some 15) _ = _
                    simp only [Act.put, ssB, ssZ, ssS, i64_w, i32_w]
                    rfl
                   refine one_ (i := 0) (N := some 85) #[true, true, true, true, true, true, true, false, false, false, false, true, false, false] rfl rfl (one_of HT_.out (by kernel_rfl)) (by decide) (fun K hK => ?_)
                   refine goes_ Try.func49 (by kernel_rfl) rfl #[.func (.func 50) #[] #[]] (by rfl) rfl rfl (by first | rfl | simp [Act.eval]) ?_
                   with_reducible refine (hist_moments.calls _).mono ?_
                   rintro e w71c ⟨gc, rfl, hgc_, hb⟩
                   have hgc := aaM hgc_
                   clear hgc_
                   refine ⟨_, rfl, ?_⟩
                   replace HO_9 := aaM (rrB (by (with_reducible repeat (first | apply rrA | apply rrN | apply rrD)); exact HO_9.out) hb)
                   replace BK231 := aaM (bX hb BK231.out)
                   replace BK232 := aaM (bX hb BK232.out)
                   replace BK237 := aaM (bX hb BK237.out)
                   replace BK248 := aaM (bX hb BK248.out)
                   replace HB := aaM (lP (by repeat (first | (with_reducible first | exact HB.out | apply lA | apply lN | apply lD | refine lS ?_ GE231.out | refine lS ?_ GE232.out | refine lS ?_ GE237.out | refine lS ?_ GE248.out) | exact HB.out)) hb)
                   (try clear hb)
                   (try clear hb2)
                   (try clear hk)
                   (try clear hi)
                   refine hK.out _ _ ⟨(bC BK237.out 0).trans rfl, (bC BK237.out 1).trans rfl, (bC BK237.out 2).trans rfl, (bC BK231.out 0).trans rfl, (bC BK231.out 1).trans rfl, (bC BK231.out 2).trans rfl, (bC BK231.out 3).trans rfl, (bC BK231.out 4).trans rfl, ((HB.out.cell (World.block_lt_of_cell? w _ hw243_0)).trans hw243_0), ((HB.out.cell (World.block_lt_of_cell? w _ hw243_1)).trans hw243_1), ((HB.out.cell (World.block_lt_of_cell? w _ hw243_2)).trans hw243_2)⟩ (fun hHeld => ?_)
                   clear hK K
                   refine norm_ (a' := ?_) ?_ ?_
                   rotate_left
                   ·show Act.put _ (some 85) _ = _
                    simp only [Act.put, ssB, ssZ, ssS, i64_w, i32_w]
                    rfl
                   refine one_ (i := 7) (N := some 92) #[true, true, true, true, true, true, true, true, false, false, false, true, false, false] rfl rfl (one_of HT_.out (by kernel_rfl)) (by decide) (fun K hK => ?_)
                   refine goesC_ Try.func61 (by kernel_rfl) rfl #[.agg #[.int .i64 x238000_2, .int .i64 x238001_2, .int .i64 x238002_2], .agg #[.int .i64 ((rd_T54 l0_4 x11_2).f0), .int .i64 ((rd_T54 l0_4 x11_2).f1), .int .i64 ((rd_T54 l0_4 x11_2).f2)]] #[.pointer (some ⟨gc, 0, none⟩)] #[.agg #[.int .i64 x238000_2, .int .i64 x238001_2, .int .i64 x238002_2], .agg #[.int .i64 ((rd_T54 l0_4 x11_2).f0), .int .i64 ((rd_T54 l0_4 x11_2).f1), .int .i64 ((rd_T54 l0_4 x11_2).f2)], .pointer (some ⟨gc, 0, none⟩)] rfl (by rfl) rfl rfl rfl (by (try simp only [mmT, mmC, mmN]); first | done | rfl | (simp only [ddD, ddT]; rfl)) ?_
                   with_reducible refine (hist_moments_1.calls x238000_2 x238001_2 x238002_2 ((rd_T54 l0_4 x11_2).f0) ((rd_T54 l0_4 x11_2).f1) ((rd_T54 l0_4 x11_2).f2) t244 t245 t246 t247 gc _ hgc.out A64.out).mono ?_
                   rintro e w71 ⟨rfl, hb⟩
                   refine ⟨_, rfl, ?_⟩
                   replace HO_9 := aaM (rrB (by (with_reducible repeat (first | apply rrA | apply rrN | apply rrD)); exact HO_9.out) hb)
                   replace BK231 := aaM (bX hb BK231.out)
                   replace BK232 := aaM (bX hb BK232.out)
                   replace BK237 := aaM (bX hb BK237.out)
                   replace BK248 := aaM (bX hb BK248.out)
                   replace HB := aaM (lP (by repeat (first | (with_reducible first | exact HB.out | apply lA | apply lN | apply lD | refine lS ?_ GE231.out | refine lS ?_ GE232.out | refine lS ?_ GE237.out | refine lS ?_ GE248.out) | exact HB.out)) hb)
                   (try clear hb)
                   (try clear hb2)
                   (try clear hk)
                   (try clear hi)
                   refine hK.out _ _ ⟨(bC BK237.out 0).trans rfl, (bC BK237.out 1).trans rfl, (bC BK237.out 2).trans rfl, (bC BK231.out 0).trans rfl, (bC BK231.out 1).trans rfl, (bC BK231.out 2).trans rfl, (bC BK231.out 3).trans rfl, (bC BK231.out 4).trans rfl, ((HB.out.cell (World.block_lt_of_cell? w _ hw243_0)).trans hw243_0), ((HB.out.cell (World.block_lt_of_cell? w _ hw243_1)).trans hw243_1), ((HB.out.cell (World.block_lt_of_cell? w _ hw243_2)).trans hw243_2)⟩ (fun hHeld => ?_)
                   clear hK K
                   refine norm_ (a' := ?_) ?_ ?_
                   rotate_left
                   ·show Act.put _ (some 92) _ = _
                    simp only [Act.put, ssB, ssZ, ssS, i64_w, i32_w]
                    rfl
                   refine pure_ (i := 8) (N := some 84) (v := ?_) (a' := ?_) #[true, true, true, true, true, true, true, true, true, false, false, true, false, false] rfl rfl (any_of HT_.out (by kernel_rfl)) (fun _ _ _ h => h) (Or.inl ⟨by rfl, ?_⟩) ?_ ?_
                   rotate_left
                   ·intro w'
                    go_simp
                    with_reducible rfl
                   rotate_left
                   ·simp only [Act.put, ssB, ssZ, ssS, i64_w, i32_w]
                    rfl
                   refine pure_ (i := 9) (N := some 93) (v := ?_) (a' := ?_) #[true, true, true, true, true, true, true, true, true, true, false, true, false, false] rfl rfl (any_of HT_.out (by kernel_rfl)) (fun _ _ _ h => h) (Or.inl ⟨by rfl, ?_⟩) ?_ ?_
                   rotate_left
                   ·intro w'
                    go_simp
                    with_reducible rfl
                   rotate_left
                   ·simp only [Act.put, ssB, ssZ, ssS, i64_w, i32_w]
                    rfl
                   refine pure_ (i := 10) (N := some 94) (v := ?_) (a' := ?_) #[true, true, true, true, true, true, true, true, true, true, true, true, false, false] rfl rfl (any_of HT_.out (by kernel_rfl)) (fun _ _ _ h => h) (Or.inl ⟨by rfl, ?_⟩) ?_ ?_
                   rotate_left
                   ·intro w'
                    go_simp
                    with_reducible rfl
                   rotate_left
                   ·simp only [Act.put, ssB, ssZ, ssS, i64_w, i32_w]
                    rfl
                   exact norm_ (by simp only [putAll, Act.put, ssB, ssZ, ssS]) (hCont (gb248, gc) _ ⟨hHeld, (by (with_reducible repeat (first | apply rrA | apply rrN | apply rrD)); exact HO_9.out), (by (with_reducible repeat (first | refine bN ?_ _ | refine bD ?_ | refine bA ?_ _)); exact BK231.out), (by (with_reducible repeat (first | refine bN ?_ _ | refine bD ?_ | refine bA ?_ _)); exact BK232.out), (by (with_reducible repeat (first | refine bN ?_ _ | refine bD ?_ | refine bA ?_ _)); exact BK237.out), (by (with_reducible repeat (first | refine bN ?_ _ | refine bD ?_ | refine bA ?_ _)); exact BK248.out), GW248.out, GE248.out, NB231_248.out, NB248_231.out, NB232_248.out, NB248_232.out, NB237_248.out, NB248_237.out, (by repeat (first | (with_reducible first | exact HB.out | apply lA | apply lN | apply lD | refine lS ?_ GE231.out | refine lS ?_ GE232.out | refine lS ?_ GE237.out | refine lS ?_ GE248.out) | exact HB.out))⟩)
                 rintro ⟨gb248, gc⟩ w72 ⟨hS_, h0_, h1_, h2_, h3_, h4_, h5_, h6_, h7_, h8_, h9_, h10_, h11_, h12_, h13_⟩
                 have n0_ : Aside0 (Kd.R (Kd.int .i64) 2 w72 w.heap.size (fun _ => True) (.slice Ao44 x9_3.length co44) x9_3) := ⟨h0_⟩
                 have n1_ : Aside0 (w72.heap[gb231]? = some (.cells #[.int .i64 a0_0, .int .i64 a0_1, .int .i64 a0_2, .slice A0_3 l0_3.length c0_3, .slice (some ad243) l0_4.length c0_4] 25 (0, 0))) := ⟨h1_⟩
                 have n2_ : Aside0 (w72.heap[gb232]? = some (.cells #[.int .i64 x233000_3, .int .i64 x233001_3, .int .i64 x233002_3] 54 (0, 0))) := ⟨h2_⟩
                 have n3_ : Aside0 (w72.heap[gb237]? = some (.cells #[.int .i64 x238000_2, .int .i64 x238001_2, .int .i64 x238002_2] 54 (0, 0))) := ⟨h3_⟩
                 have n4_ : Aside0 (w72.heap[gb248]? = some (.cells #[.int .i64 0, .int .i64 0, .int .i64 0] 54 (0, 0))) := ⟨h4_⟩
                 have n5_ : Aside0 (w.heap.size ≤ gb248) := ⟨h5_⟩
                 have n6_ : Aside0 (w.heap.size ≤ gb248) := ⟨h6_⟩
                 have n7_ : Aside0 (gb231 ≠ gb248) := ⟨h7_⟩
                 have n8_ : Aside0 (gb248 ≠ gb231) := ⟨h8_⟩
                 have n9_ : Aside0 (gb232 ≠ gb248) := ⟨h9_⟩
                 have n10_ : Aside0 (gb248 ≠ gb232) := ⟨h10_⟩
                 have n11_ : Aside0 (gb237 ≠ gb248) := ⟨h11_⟩
                 have n12_ : Aside0 (gb248 ≠ gb237) := ⟨h12_⟩
                 have n13_ : Aside0 (Below w.heap.size w w72) := ⟨h13_⟩
                 clear HO_9 BK231 BK232 BK237 HB h0_ h1_ h2_ h3_ h4_ h5_ h6_ h7_ h8_ h9_ h10_ h11_ h12_ h13_
                 have HO_9 := n0_
                 have BK231 := n1_
                 have BK232 := n2_
                 have BK237 := n3_
                 have BK248 := n4_
                 have GW248 := n5_
                 have GE248 := n6_
                 have NB231_248 := n7_
                 have NB248_231 := n8_
                 have NB232_248 := n9_
                 have NB248_232 := n10_
                 have NB237_248 := n11_
                 have NB248_237 := n12_
                 have HB := n13_
                 clear n0_ n1_ n2_ n3_ n4_ n5_ n6_ n7_ n8_ n9_ n10_ n11_ n12_ n13_
                 have hHeld : w72.cell? ⟨gb237, 0, none⟩ = some (.int .i64 x238000_2) ∧ w72.cell? ⟨gb237, 1, none⟩ = some (.int .i64 x238001_2) ∧ w72.cell? ⟨gb237, 2, none⟩ = some (.int .i64 x238002_2) ∧ w72.cell? ⟨gb231, 0, none⟩ = some (.int .i64 a0_0) ∧ w72.cell? ⟨gb231, 1, none⟩ = some (.int .i64 a0_1) ∧ w72.cell? ⟨gb231, 2, none⟩ = some (.int .i64 a0_2) ∧ w72.cell? ⟨gb231, 3, none⟩ = some (.slice A0_3 l0_3.length c0_3) ∧ w72.cell? ⟨gb231, 4, none⟩ = some (.slice (some ad243) l0_4.length c0_4) ∧ w72.cell? (ad243.add ((x11_2).toNat * 3)) = some (.int .i64 ((rd_T54 l0_4 x11_2).f0)) ∧ w72.cell? ⟨(ad243.add ((x11_2).toNat * 3)).block, (ad243.add ((x11_2).toNat * 3)).off + 1, none⟩ = some (.int .i64 ((rd_T54 l0_4 x11_2).f1)) ∧ w72.cell? ⟨(ad243.add ((x11_2).toNat * 3)).block, (ad243.add ((x11_2).toNat * 3)).off + 2, none⟩ = some (.int .i64 ((rd_T54 l0_4 x11_2).f2)) := hS_
                 refine norm_ (a' := ?_) ?_ ?_
                 rotate_left
                 ·simp only [putAll, Act.put, ssB, ssZ, ssS]
                  rfl
                 refine one_ (i := 12) (N := none) #[true, true, true, true, true, true, true, true, true, true, true, true, true, false] rfl rfl (one_of HT_.out (by kernel_rfl)) (by decide) (fun K hK => ?_)
                 obtain ⟨hs73, -, -, hfs73, -, -⟩ := bE3 BK248.out
                 have hns73_0 := NB231_248.out
                 have hns73_1 := NB232_248.out
                 have hns73_2 := NB237_248.out
                 have hms73_0 := NB248_231.out
                 have hms73_1 := NB248_232.out
                 have hms73_2 := NB248_237.out
                 obtain ⟨-, hs74, -, -, hfs74, -⟩ := bE3 BK248.out
                 have hns74_0 := NB231_248.out
                 have hns74_1 := NB232_248.out
                 have hns74_2 := NB237_248.out
                 have hms74_0 := NB248_231.out
                 have hms74_1 := NB248_232.out
                 have hms74_2 := NB248_237.out
                 obtain ⟨-, -, hs75, -, -, hfs75⟩ := bE3 BK248.out
                 have hns75_0 := NB231_248.out
                 have hns75_1 := NB232_248.out
                 have hns75_2 := NB237_248.out
                 have hms75_0 := NB248_231.out
                 have hms75_1 := NB248_232.out
                 have hms75_2 := NB248_237.out
                 refine skip_ (w1 := ?_) (by rfl) rfl ?_ ?_
                 rotate_left
                 ·go_simp
                  rfl
                 refine hK.out _ _ ⟨((cell_far (p := ⟨gb248, _, none⟩) NB237_248.out _).trans (((cell_far (p := ⟨gb248, _, none⟩) NB237_248.out _).trans (((cell_far (p := ⟨gb248, _, none⟩) NB237_248.out _).trans (hHeld.1)))))), ((cell_far (p := ⟨gb248, _, none⟩) NB237_248.out _).trans (((cell_far (p := ⟨gb248, _, none⟩) NB237_248.out _).trans (((cell_far (p := ⟨gb248, _, none⟩) NB237_248.out _).trans (hHeld.2.1)))))), ((cell_far (p := ⟨gb248, _, none⟩) NB237_248.out _).trans (((cell_far (p := ⟨gb248, _, none⟩) NB237_248.out _).trans (((cell_far (p := ⟨gb248, _, none⟩) NB237_248.out _).trans (hHeld.2.2.1)))))), ((cell_far (p := ⟨gb248, _, none⟩) NB231_248.out _).trans (((cell_far (p := ⟨gb248, _, none⟩) NB231_248.out _).trans (((cell_far (p := ⟨gb248, _, none⟩) NB231_248.out _).trans (hHeld.2.2.2.1)))))), ((cell_far (p := ⟨gb248, _, none⟩) NB231_248.out _).trans (((cell_far (p := ⟨gb248, _, none⟩) NB231_248.out _).trans (((cell_far (p := ⟨gb248, _, none⟩) NB231_248.out _).trans (hHeld.2.2.2.2.1)))))), ((cell_far (p := ⟨gb248, _, none⟩) NB231_248.out _).trans (((cell_far (p := ⟨gb248, _, none⟩) NB231_248.out _).trans (((cell_far (p := ⟨gb248, _, none⟩) NB231_248.out _).trans (hHeld.2.2.2.2.2.1)))))), ((cell_far (p := ⟨gb248, _, none⟩) NB231_248.out _).trans (((cell_far (p := ⟨gb248, _, none⟩) NB231_248.out _).trans (((cell_far (p := ⟨gb248, _, none⟩) NB231_248.out _).trans (hHeld.2.2.2.2.2.2.1)))))), ((cell_far (p := ⟨gb248, _, none⟩) NB231_248.out _).trans (((cell_far (p := ⟨gb248, _, none⟩) NB231_248.out _).trans (((cell_far (p := ⟨gb248, _, none⟩) NB231_248.out _).trans (hHeld.2.2.2.2.2.2.2.1)))))), ((cell_far (p := ⟨gb248, _, none⟩) (by first | exact Nat.ne_of_lt (Nat.lt_of_lt_of_le (by have := World.block_lt_of_cell? _ _ hw243_0; first | rwa [add_block] at this | exact this) GW248.out) | (rw [add_block]; exact Nat.ne_of_lt (Nat.lt_of_lt_of_le (by have := World.block_lt_of_cell? _ _ hw243_0; first | rwa [add_block] at this | exact this) GW248.out)) | (show (Addr.add _ _).block ≠ _; rw [add_block]; exact Nat.ne_of_lt (Nat.lt_of_lt_of_le (by have := World.block_lt_of_cell? _ _ hw243_0; first | rwa [add_block] at this | exact this) GW248.out)) | (dsimp only; exact Nat.ne_of_lt (Nat.lt_of_lt_of_le (by have := World.block_lt_of_cell? _ _ hw243_0; first | rwa [add_block] at this | exact this) GW248.out))) _).trans (((cell_far (p := ⟨gb248, _, none⟩) (by first | exact Nat.ne_of_lt (Nat.lt_of_lt_of_le (by have := World.block_lt_of_cell? _ _ hw243_0; first | rwa [add_block] at this | exact this) GW248.out) | (rw [add_block]; exact Nat.ne_of_lt (Nat.lt_of_lt_of_le (by have := World.block_lt_of_cell? _ _ hw243_0; first | rwa [add_block] at this | exact this) GW248.out)) | (show (Addr.add _ _).block ≠ _; rw [add_block]; exact Nat.ne_of_lt (Nat.lt_of_lt_of_le (by have := World.block_lt_of_cell? _ _ hw243_0; first | rwa [add_block] at this | exact this) GW248.out)) | (dsimp only; exact Nat.ne_of_lt (Nat.lt_of_lt_of_le (by have := World.block_lt_of_cell? _ _ hw243_0; first | rwa [add_block] at this | exact this) GW248.out))) _).trans (((cell_far (p := ⟨gb248, _, none⟩) (by first | exact Nat.ne_of_lt (Nat.lt_of_lt_of_le (by have := World.block_lt_of_cell? _ _ hw243_0; first | rwa [add_block] at this | exact this) GW248.out) | (rw [add_block]; exact Nat.ne_of_lt (Nat.lt_of_lt_of_le (by have := World.block_lt_of_cell? _ _ hw243_0; first | rwa [add_block] at this | exact this) GW248.out)) | (show (Addr.add _ _).block ≠ _; rw [add_block]; exact Nat.ne_of_lt (Nat.lt_of_lt_of_le (by have := World.block_lt_of_cell? _ _ hw243_0; first | rwa [add_block] at this | exact this) GW248.out)) | (dsimp only; exact Nat.ne_of_lt (Nat.lt_of_lt_of_le (by have := World.block_lt_of_cell? _ _ hw243_0; first | rwa [add_block] at this | exact this) GW248.out))) _).trans (hHeld.2.2.2.2.2.2.2.2.1)))))), ((cell_far (p := ⟨gb248, _, none⟩) (by first | exact Nat.ne_of_lt (Nat.lt_of_lt_of_le (by have := World.block_lt_of_cell? _ _ hw243_1; first | rwa [add_block] at this | exact this) GW248.out) | (rw [add_block]; exact Nat.ne_of_lt (Nat.lt_of_lt_of_le (by have := World.block_lt_of_cell? _ _ hw243_1; first | rwa [add_block] at this | exact this) GW248.out)) | (show (Addr.add _ _).block ≠ _; rw [add_block]; exact Nat.ne_of_lt (Nat.lt_of_lt_of_le (by have := World.block_lt_of_cell? _ _ hw243_1; first | rwa [add_block] at this | exact this) GW248.out)) | (dsimp only; exact Nat.ne_of_lt (Nat.lt_of_lt_of_le (by have := World.block_lt_of_cell? _ _ hw243_1; first | rwa [add_block] at this | exact this) GW248.out))) _).trans (((cell_far (p := ⟨gb248, _, none⟩) (by first | exact Nat.ne_of_lt (Nat.lt_of_lt_of_le (by have := World.block_lt_of_cell? _ _ hw243_1; first | rwa [add_block] at this | exact this) GW248.out) | (rw [add_block]; exact Nat.ne_of_lt (Nat.lt_of_lt_of_le (by have := World.block_lt_of_cell? _ _ hw243_1; first | rwa [add_block] at this | exact this) GW248.out)) | (show (Addr.add _ _).block ≠ _; rw [add_block]; exact Nat.ne_of_lt (Nat.lt_of_lt_of_le (by have := World.block_lt_of_cell? _ _ hw243_1; first | rwa [add_block] at this | exact this) GW248.out)) | (dsimp only; exact Nat.ne_of_lt (Nat.lt_of_lt_of_le (by have := World.block_lt_of_cell? _ _ hw243_1; first | rwa [add_block] at this | exact this) GW248.out))) _).trans (((cell_far (p := ⟨gb248, _, none⟩) (by first | exact Nat.ne_of_lt (Nat.lt_of_lt_of_le (by have := World.block_lt_of_cell? _ _ hw243_1; first | rwa [add_block] at this | exact this) GW248.out) | (rw [add_block]; exact Nat.ne_of_lt (Nat.lt_of_lt_of_le (by have := World.block_lt_of_cell? _ _ hw243_1; first | rwa [add_block] at this | exact this) GW248.out)) | (show (Addr.add _ _).block ≠ _; rw [add_block]; exact Nat.ne_of_lt (Nat.lt_of_lt_of_le (by have := World.block_lt_of_cell? _ _ hw243_1; first | rwa [add_block] at this | exact this) GW248.out)) | (dsimp only; exact Nat.ne_of_lt (Nat.lt_of_lt_of_le (by have := World.block_lt_of_cell? _ _ hw243_1; first | rwa [add_block] at this | exact this) GW248.out))) _).trans (hHeld.2.2.2.2.2.2.2.2.2.1)))))), ((cell_far (p := ⟨gb248, _, none⟩) (by first | exact Nat.ne_of_lt (Nat.lt_of_lt_of_le (by have := World.block_lt_of_cell? _ _ hw243_2; first | rwa [add_block] at this | exact this) GW248.out) | (rw [add_block]; exact Nat.ne_of_lt (Nat.lt_of_lt_of_le (by have := World.block_lt_of_cell? _ _ hw243_2; first | rwa [add_block] at this | exact this) GW248.out)) | (show (Addr.add _ _).block ≠ _; rw [add_block]; exact Nat.ne_of_lt (Nat.lt_of_lt_of_le (by have := World.block_lt_of_cell? _ _ hw243_2; first | rwa [add_block] at this | exact this) GW248.out)) | (dsimp only; exact Nat.ne_of_lt (Nat.lt_of_lt_of_le (by have := World.block_lt_of_cell? _ _ hw243_2; first | rwa [add_block] at this | exact this) GW248.out))) _).trans (((cell_far (p := ⟨gb248, _, none⟩) (by first | exact Nat.ne_of_lt (Nat.lt_of_lt_of_le (by have := World.block_lt_of_cell? _ _ hw243_2; first | rwa [add_block] at this | exact this) GW248.out) | (rw [add_block]; exact Nat.ne_of_lt (Nat.lt_of_lt_of_le (by have := World.block_lt_of_cell? _ _ hw243_2; first | rwa [add_block] at this | exact this) GW248.out)) | (show (Addr.add _ _).block ≠ _; rw [add_block]; exact Nat.ne_of_lt (Nat.lt_of_lt_of_le (by have := World.block_lt_of_cell? _ _ hw243_2; first | rwa [add_block] at this | exact this) GW248.out)) | (dsimp only; exact Nat.ne_of_lt (Nat.lt_of_lt_of_le (by have := World.block_lt_of_cell? _ _ hw243_2; first | rwa [add_block] at this | exact this) GW248.out))) _).trans (((cell_far (p := ⟨gb248, _, none⟩) (by first | exact Nat.ne_of_lt (Nat.lt_of_lt_of_le (by have := World.block_lt_of_cell? _ _ hw243_2; first | rwa [add_block] at this | exact this) GW248.out) | (rw [add_block]; exact Nat.ne_of_lt (Nat.lt_of_lt_of_le (by have := World.block_lt_of_cell? _ _ hw243_2; first | rwa [add_block] at this | exact this) GW248.out)) | (show (Addr.add _ _).block ≠ _; rw [add_block]; exact Nat.ne_of_lt (Nat.lt_of_lt_of_le (by have := World.block_lt_of_cell? _ _ hw243_2; first | rwa [add_block] at this | exact this) GW248.out)) | (dsimp only; exact Nat.ne_of_lt (Nat.lt_of_lt_of_le (by have := World.block_lt_of_cell? _ _ hw243_2; first | rwa [add_block] at this | exact this) GW248.out))) _).trans (hHeld.2.2.2.2.2.2.2.2.2.2))))))⟩ (fun hHeld => ?_)
                 clear hK K
                 refine pure_ (i := 13) (N := some 16) (v := ?_) (a' := ?_) #[true, true, true, true, true, true, true, true, true, true, true, true, true, true] rfl rfl (any_of HT_.out (by kernel_rfl)) (fun _ _ _ h => h) (Or.inl ⟨by rfl, ?_⟩) ?_ ?_
                 rotate_left
                 ·intro w'
                  go_simp
                  with_reducible rfl
                 rotate_left
                 ·simp only [Act.put, ssB, ssZ, ssS, i64_w, i32_w]
                  rfl
                 refine done_ (done_of HT_.out (by kernel_rfl)) ?_
                 have hnb76 := NB248_231.out
                 have hnc76 := NB231_248.out
                 have hnb77 := NB248_232.out
                 have hnc77 := NB232_248.out
                 have hnb78 := NB248_237.out
                 have hnc78 := NB237_248.out
                 obtain ⟨hcz79_0, hcz79_1, hcz79_2, hfz79_0, hfz79_1, hfz79_2⟩ := bE3 BK248.out
                 have hnb80 := NB237_232.out
                 have hnc80 := NB232_237.out
                 obtain ⟨hcz81_0, hcz81_1, hcz81_2, hfz81_0, hfz81_1, hfz81_2⟩ := bE3 BK237.out
                 try go_wp2
                 (try simp only [← hl9_3])
                 go_roundg k3
                 case measure => have := HJ27.out; have := HK2.out; have := HK3.out; omega
                 case rel => exact ⟨(x9_3), (wrap64 (x11_2 + 1)), (x233000_3), (x233001_3), (x233002_3), (t244), (t245), (t246), (by first | rfl | (simp; done) | (simp [*]; done)), H', ⟨by have := HJ27.out; have := HK2.out; have := HK3.out; omega⟩, ⟨by (try simp only [hl9_3]); (with_reducible repeat (first | apply rrA | apply rrN | apply rrD)); exact Kd.R_mono (rrF (p := ⟨gb237, 2, none⟩) (rrF (p := ⟨gb237, 1, none⟩) (rrF (p := ⟨gb237, 0, none⟩) (rrF (p := ⟨gb248, 2, none⟩) (rrF (p := ⟨gb248, 1, none⟩) (rrF (p := ⟨gb248, 0, none⟩) (Kd.R_types (Kd.R_types HO_9.out BK248.out (by decide)) BK237.out (by decide)) (fun _ hk => hk.1.2) (.int .i64 t244)) (fun _ hk => hk.1.2) (.int .i64 t245)) (fun _ hk => hk.1.2) (.int .i64 t246)) (fun _ hk => hk.2) (.int .i64 t244)) (fun _ hk => hk.2) (.int .i64 t245)) (fun _ hk => hk.2) (.int .i64 t246)) (fun _ hk => trivial)⟩, ⟨by (try simp only [hl9_3]); (with_reducible repeat (first | refine bN ?_ _ | refine bD ?_ | refine bA ?_ _)); refine blk_far ?_ NB231_237.out _; (with_reducible repeat (first | refine bN ?_ _ | refine bD ?_ | refine bA ?_ _)); refine blk_far ?_ NB231_237.out _; (with_reducible repeat (first | refine bN ?_ _ | refine bD ?_ | refine bA ?_ _)); refine blk_far ?_ NB231_237.out _; (with_reducible repeat (first | refine bN ?_ _ | refine bD ?_ | refine bA ?_ _)); refine blk_far ?_ NB231_248.out _; (with_reducible repeat (first | refine bN ?_ _ | refine bD ?_ | refine bA ?_ _)); refine blk_far ?_ NB231_248.out _; (with_reducible repeat (first | refine bN ?_ _ | refine bD ?_ | refine bA ?_ _)); refine blk_far ?_ NB231_248.out _; (with_reducible repeat (first | refine bN ?_ _ | refine bD ?_ | refine bA ?_ _)); exact BK231.out⟩, ⟨by (try simp only [hl9_3]); (with_reducible repeat (first | refine bN ?_ _ | refine bD ?_ | refine bA ?_ _)); refine blk_far ?_ NB232_237.out _; (with_reducible repeat (first | refine bN ?_ _ | refine bD ?_ | refine bA ?_ _)); refine blk_far ?_ NB232_237.out _; (with_reducible repeat (first | refine bN ?_ _ | refine bD ?_ | refine bA ?_ _)); refine blk_far ?_ NB232_237.out _; (with_reducible repeat (first | refine bN ?_ _ | refine bD ?_ | refine bA ?_ _)); refine blk_far ?_ NB232_248.out _; (with_reducible repeat (first | refine bN ?_ _ | refine bD ?_ | refine bA ?_ _)); refine blk_far ?_ NB232_248.out _; (with_reducible repeat (first | refine bN ?_ _ | refine bD ?_ | refine bA ?_ _)); refine blk_far ?_ NB232_248.out _; (with_reducible repeat (first | refine bN ?_ _ | refine bD ?_ | refine bA ?_ _)); exact BK232.out⟩, ⟨by (try simp only [hl9_3]); (with_reducible repeat (first | refine bN ?_ _ | refine bD ?_ | refine bA ?_ _)); refine blk_put (cs := #[.int .i64 t244, .int .i64 t245, .int .i64 x238002_2]) ?_ 2 _ rfl; (with_reducible repeat (first | refine bN ?_ _ | refine bD ?_ | refine bA ?_ _)); refine blk_put (cs := #[.int .i64 t244, .int .i64 x238001_2, .int .i64 x238002_2]) ?_ 1 _ rfl; (with_reducible repeat (first | refine bN ?_ _ | refine bD ?_ | refine bA ?_ _)); refine blk_put (cs := #[.int .i64 x238000_2, .int .i64 x238001_2, .int .i64 x238002_2]) ?_ 0 _ rfl; (with_reducible repeat (first | refine bN ?_ _ | refine bD ?_ | refine bA ?_ _)); refine blk_far ?_ NB237_248.out _; (with_reducible repeat (first | refine bN ?_ _ | refine bD ?_ | refine bA ?_ _)); refine blk_far ?_ NB237_248.out _; (with_reducible repeat (first | refine bN ?_ _ | refine bD ?_ | refine bA ?_ _)); refine blk_far ?_ NB237_248.out _; (with_reducible repeat (first | refine bN ?_ _ | refine bD ?_ | refine bA ?_ _)); exact BK237.out⟩, ⟨by repeat (first | (with_reducible first | exact HB.out | apply lA | apply lN | apply lD | refine lS ?_ GE231.out | refine lS ?_ GE232.out | refine lS ?_ GE237.out | refine lS ?_ GE248.out) | exact HB.out)⟩⟩
                ·rw [if_neg c65] at H
                 have c65b0 : (t247 == 0) = false := beq_eq_false_iff_ne.mpr c65
                 have c65b1 : (t247 != 0) = true := bne_iff_ne.mpr c65
                 simp only [Option.some.injEq, Prod.mk.injEq] at H
                 obtain ⟨rfl, rfl, rfl, rfl, rfl⟩ := H
                 have hnb82 := NB231_232.out
                 have hnc82 := NB232_231.out
                 have hnb83 := NB231_237.out
                 have hnc83 := NB237_231.out
                 obtain ⟨hcz84_0, hcz84_1, hcz84_2, hcz84_3, hcz84_4, hfz84_0, hfz84_1, hfz84_2, hfz84_3, hfz84_4⟩ := bE5 BK231.out
                 try go_wp2
                 replace HO_9 := aaM (rrD HO_9.out)
                 replace BK231 := aaM (bD BK231.out)
                 replace BK232 := aaM (bD BK232.out)
                 replace BK237 := aaM (bD BK237.out)
                 replace HB := aaM (lD HB.out)
                 have p243 : 0 ≤ (x11_2 : Int) := of_decide_eq_true (by first | (with_reducible assumption) | assumption)
                 have q243 : x11_2 < (l0_4.length : Int) := of_decide_eq_true (by first | (with_reducible assumption) | assumption)
                 obtain ⟨ad243, e243, hx243_0, hx243_1, hx243_2⟩ := at_T54 HR0_4.out x11_2 p243 q243
                 have hw243_2 := hx243_2
                 have hw243_1 := hx243_1
                 have hw243_0 := hx243_0
                 cases e243
                 replace hx243_0 := (HB.out.cell (World.block_lt_of_cell? w _ hx243_0)).trans hx243_0
                 replace hx243_1 := (HB.out.cell (World.block_lt_of_cell? w _ hx243_1)).trans hx243_1
                 replace hx243_2 := (HB.out.cell (World.block_lt_of_cell? w _ hx243_2)).trans hx243_2
                 replace p243 := eq_true p243
                 replace q243 := eq_true q243
                 refine start_ (n := 14) (S := fun w' => w'.cell? ⟨gb237, 0, none⟩ = some (.int .i64 x238000_2) ∧ w'.cell? ⟨gb237, 1, none⟩ = some (.int .i64 x238001_2) ∧ w'.cell? ⟨gb237, 2, none⟩ = some (.int .i64 x238002_2) ∧ w'.cell? ⟨gb231, 0, none⟩ = some (.int .i64 a0_0) ∧ w'.cell? ⟨gb231, 1, none⟩ = some (.int .i64 a0_1) ∧ w'.cell? ⟨gb231, 2, none⟩ = some (.int .i64 a0_2) ∧ w'.cell? ⟨gb231, 3, none⟩ = some (.slice A0_3 l0_3.length c0_3) ∧ w'.cell? ⟨gb231, 4, none⟩ = some (.slice (some ad243) l0_4.length c0_4) ∧ w'.cell? (ad243.add ((x11_2).toNat * 3)) = some (.int .i64 ((rd_T54 l0_4 x11_2).f0)) ∧ w'.cell? ⟨(ad243.add ((x11_2).toNat * 3)).block, (ad243.add ((x11_2).toNat * 3)).off + 1, none⟩ = some (.int .i64 ((rd_T54 l0_4 x11_2).f1)) ∧ w'.cell? ⟨(ad243.add ((x11_2).toNat * 3)).block, (ad243.add ((x11_2).toNat * 3)).off + 2, none⟩ = some (.int .i64 ((rd_T54 l0_4 x11_2).f2))) (ds := []) #[false, false, false, false, false, false, false, false, false, false, false, false, false, false] (by kernel_rfl) rfl rfl ⟨(bC BK237.out 0).trans rfl, (bC BK237.out 1).trans rfl, (bC BK237.out 2).trans rfl, (bC BK231.out 0).trans rfl, (bC BK231.out 1).trans rfl, (bC BK231.out 2).trans rfl, (bC BK231.out 3).trans rfl, (bC BK231.out 4).trans rfl, ((HB.out.cell (World.block_lt_of_cell? w _ hw243_0)).trans hw243_0), ((HB.out.cell (World.block_lt_of_cell? w _ hw243_1)).trans hw243_1), ((HB.out.cell (World.block_lt_of_cell? w _ hw243_2)).trans hw243_2)⟩ (fun hHeld => ?_); refine with_tabW hist_Sum.tab21 hist_Sum.bits21 (fun HT_ HW_ => ?_)
                 generalize wr.drew = w85 at HO_9 BK231 BK232 BK237 HB hx243_0 hx243_1 hx243_2 hHeld ⊢
                 refine pure_ (i := 2) (N := some 87) (v := ?_) (a' := ?_) #[false, false, true, false, false, false, false, false, false, false, false, false, false, false] rfl rfl (any_of HT_.out (by kernel_rfl)) (fun _ _ _ h => h) (Or.inl ⟨by rfl, ?_⟩) ?_ ?_
                 rotate_left
                 ·intro w'
                  go_simp
                  with_reducible rfl
                 rotate_left
                 ·simp only [Act.put, ssB, ssZ, ssS, i64_w, i32_w]
                  rfl
                 refine pure_ (i := 4) (N := some 89) (v := ?_) (a' := ?_) #[false, false, true, false, true, false, false, false, false, false, false, false, false, false] rfl rfl (any_of HT_.out (by kernel_rfl)) (fun _ _ _ h => h) (Or.inl ⟨by rfl, ?_⟩) ?_ ?_
                 rotate_left
                 ·intro w'
                  go_simp
                  with_reducible rfl
                 rotate_left
                 ·simp only [Act.put, ssB, ssZ, ssS, i64_w, i32_w]
                  rfl
                 refine take_ (i := 1) (N := some 86) (v := ?_) (a' := ?_) #[false, true, true, false, true, false, false, false, false, false, false, false, false, false] rfl rfl (take_ofW HT_.out HW_.out (by kernel_rfl)) (fun _ _ _ h => h) (Or.inl ⟨by rfl, ?_⟩) hHeld ?_ ?_
                 rotate_left
                 ·rintro w' ⟨s0, s1, s2, s3, s4, s5, s6, s7, s8, s9, s10⟩
                  go_simp
                  with_reducible rfl
                 rotate_left
                 ·simp only [Act.put, ssB, ssZ, ssS, i64_w, i32_w]
                  rfl
                 refine take_ (i := 3) (N := some 88) (v := ?_) (a' := ?_) #[false, true, true, true, true, false, false, false, false, false, false, false, false, false] rfl rfl (take_ofW HT_.out HW_.out (by kernel_rfl)) (fun _ _ _ h => h) (Or.inl ⟨by rfl, ?_⟩) hHeld ?_ ?_
                 rotate_left
                 ·rintro w' ⟨s0, s1, s2, s3, s4, s5, s6, s7, s8, s9, s10⟩
                  go_simp
                  with_reducible rfl
                 rotate_left
                 ·simp only [Act.put, ssB, ssZ, ssS, i64_w, i32_w]
                  rfl
                 refine pure_ (i := 5) (N := some 90) (v := ?_) (a' := ?_) #[false, true, true, true, true, true, false, false, false, false, false, false, false, false] rfl rfl (any_of HT_.out (by kernel_rfl)) (fun _ _ _ h => h) (Or.inl ⟨by rfl, ?_⟩) ?_ ?_
                 rotate_left
                 ·intro w'
                  go_simp
                  with_reducible rfl
                 rotate_left
                 ·simp only [Act.put, ssB, ssZ, ssS, i64_w, i32_w]
                  rfl
                 refine take_ (i := 6) (N := some 91) (v := ?_) (a' := ?_) #[false, true, true, true, true, true, true, false, false, false, false, false, false, false] rfl rfl (take_ofW HT_.out HW_.out (by kernel_rfl)) (fun _ _ _ h => h) (Or.inl ⟨by rfl, ?_⟩) hHeld ?_ ?_
                 rotate_left
                 ·rintro w' ⟨s0, s1, s2, s3, s4, s5, s6, s7, s8, s9, s10⟩
                  go_simp
                  with_reducible rfl
                 rotate_left
                 ·simp only [Act.put, ssB, ssZ, ssS, i64_w, i32_w]
                  rfl
                 refine join_ (σ := Nat × Nat) 2 #[true, true, true, true, true, true, true, true, true, true, true, true, false, false] (fun s_ => [(85, .func (.func 61) #[] #[.pointer (some ⟨s_.2, 0, none⟩)]), (92, .tuple #[.agg #[.int .i64 t244, .int .i64 t245, .int .i64 t246], .int .i64 t247]), (15, .pointer (some ⟨s_.1, 0, none⟩)), (84, .tuple #[.agg #[.int .i64 t244, .int .i64 t245, .int .i64 t246], .int .i64 t247]), (93, .agg #[.int .i64 t244, .int .i64 t245, .int .i64 t246]), (94, .int .i64 t247)]) (fun s_ w' => (w'.cell? ⟨gb237, 0, none⟩ = some (.int .i64 x238000_2) ∧ w'.cell? ⟨gb237, 1, none⟩ = some (.int .i64 x238001_2) ∧ w'.cell? ⟨gb237, 2, none⟩ = some (.int .i64 x238002_2) ∧ w'.cell? ⟨gb231, 0, none⟩ = some (.int .i64 a0_0) ∧ w'.cell? ⟨gb231, 1, none⟩ = some (.int .i64 a0_1) ∧ w'.cell? ⟨gb231, 2, none⟩ = some (.int .i64 a0_2) ∧ w'.cell? ⟨gb231, 3, none⟩ = some (.slice A0_3 l0_3.length c0_3) ∧ w'.cell? ⟨gb231, 4, none⟩ = some (.slice (some ad243) l0_4.length c0_4) ∧ w'.cell? (ad243.add ((x11_2).toNat * 3)) = some (.int .i64 ((rd_T54 l0_4 x11_2).f0)) ∧ w'.cell? ⟨(ad243.add ((x11_2).toNat * 3)).block, (ad243.add ((x11_2).toNat * 3)).off + 1, none⟩ = some (.int .i64 ((rd_T54 l0_4 x11_2).f1)) ∧ w'.cell? ⟨(ad243.add ((x11_2).toNat * 3)).block, (ad243.add ((x11_2).toNat * 3)).off + 2, none⟩ = some (.int .i64 ((rd_T54 l0_4 x11_2).f2))) ∧ (Kd.R (Kd.int .i64) 2 w' w.heap.size (fun _ => True) (.slice Ao44 x9_3.length co44) x9_3) ∧ (w'.heap[gb231]? = some (.cells #[.int .i64 a0_0, .int .i64 a0_1, .int .i64 a0_2, .slice A0_3 l0_3.length c0_3, .slice (some ad243) l0_4.length c0_4] 25 (0, 0))) ∧ (w'.heap[gb232]? = some (.cells #[.int .i64 x233000_3, .int .i64 x233001_3, .int .i64 x233002_3] 54 (0, 0))) ∧ (w'.heap[gb237]? = some (.cells #[.int .i64 x238000_2, .int .i64 x238001_2, .int .i64 x238002_2] 54 (0, 0))) ∧ (w'.heap[s_.1]? = some (.cells #[.int .i64 0, .int .i64 0, .int .i64 0] 54 (0, 0))) ∧ (w.heap.size ≤ s_.1) ∧ (w.heap.size ≤ s_.1) ∧ (gb231 ≠ s_.1) ∧ (s_.1 ≠ gb231) ∧ (gb232 ≠ s_.1) ∧ (s_.1 ≠ gb232) ∧ (gb237 ≠ s_.1) ∧ (s_.1 ≠ gb237) ∧ (Below w.heap.size w w')) ?_ ?_
                 rotate_left
                 ·intro hCont
                  refine two_ (i := 0) (j := 11) (Ni := some 85) (Nj := some 15) #[true, true, true, true, true, true, true, false, false, false, false, false, false, false] #[false, true, true, true, true, true, true, false, false, false, false, true, false, false] rfl rfl rfl rfl (two_of HT_.out (by kernel_rfl)) (by decide) (by decide) (fun K hK => ?_) (fun K hK => ?_)
                  ·skip
                   refine goes_ Try.func49 (by kernel_rfl) rfl #[.func (.func 50) #[] #[]] (by rfl) rfl rfl (by first | rfl | simp [Act.eval]) ?_
                   with_reducible refine (hist_moments.calls _).mono ?_
                   rintro e w86c ⟨gc, rfl, hgc_, hb⟩
                   have hgc := aaM hgc_
                   clear hgc_
                   refine ⟨_, rfl, ?_⟩
                   replace HO_9 := aaM (rrB (by (with_reducible repeat (first | apply rrA | apply rrN | apply rrD)); exact HO_9.out) hb)
                   replace BK231 := aaM (bX hb BK231.out)
                   replace BK232 := aaM (bX hb BK232.out)
                   replace BK237 := aaM (bX hb BK237.out)
                   replace HB := aaM (lP (by repeat (first | (with_reducible first | exact HB.out | apply lA | apply lN | apply lD | refine lS ?_ GE231.out | refine lS ?_ GE232.out | refine lS ?_ GE237.out) | exact HB.out)) hb)
                   (try clear hb)
                   (try clear hb2)
                   (try clear hk)
                   (try clear hi)
                   refine hK.out _ _ ⟨(bC BK237.out 0).trans rfl, (bC BK237.out 1).trans rfl, (bC BK237.out 2).trans rfl, (bC BK231.out 0).trans rfl, (bC BK231.out 1).trans rfl, (bC BK231.out 2).trans rfl, (bC BK231.out 3).trans rfl, (bC BK231.out 4).trans rfl, ((HB.out.cell (World.block_lt_of_cell? w _ hw243_0)).trans hw243_0), ((HB.out.cell (World.block_lt_of_cell? w _ hw243_1)).trans hw243_1), ((HB.out.cell (World.block_lt_of_cell? w _ hw243_2)).trans hw243_2)⟩ (fun hHeld => ?_)
                   clear hK K
                   refine norm_ (a' := ?_) ?_ ?_
                   rotate_left
                   ·show Act.put _ (some 85) _ = _
                    simp only [Act.put, ssB, ssZ, ssS, i64_w, i32_w]
                    rfl
                   refine two_ (i := 7) (j := 11) (Ni := some 92) (Nj := some 15) #[true, true, true, true, true, true, true, true, false, false, false, false, false, false] #[true, true, true, true, true, true, true, false, false, false, false, true, false, false] rfl rfl rfl rfl (two_of HT_.out (by kernel_rfl)) (by decide) (by decide) (fun K hK => ?_) (fun K hK => ?_)
                   ·skip
                    refine goesC_ Try.func61 (by kernel_rfl) rfl #[.agg #[.int .i64 x238000_2, .int .i64 x238001_2, .int .i64 x238002_2], .agg #[.int .i64 ((rd_T54 l0_4 x11_2).f0), .int .i64 ((rd_T54 l0_4 x11_2).f1), .int .i64 ((rd_T54 l0_4 x11_2).f2)]] #[.pointer (some ⟨gc, 0, none⟩)] #[.agg #[.int .i64 x238000_2, .int .i64 x238001_2, .int .i64 x238002_2], .agg #[.int .i64 ((rd_T54 l0_4 x11_2).f0), .int .i64 ((rd_T54 l0_4 x11_2).f1), .int .i64 ((rd_T54 l0_4 x11_2).f2)], .pointer (some ⟨gc, 0, none⟩)] rfl (by rfl) rfl rfl rfl (by (try simp only [mmT, mmC, mmN]); first | done | rfl | (simp only [ddD, ddT]; rfl)) ?_
                    with_reducible refine (hist_moments_1.calls x238000_2 x238001_2 x238002_2 ((rd_T54 l0_4 x11_2).f0) ((rd_T54 l0_4 x11_2).f1) ((rd_T54 l0_4 x11_2).f2) t244 t245 t246 t247 gc _ hgc.out A64.out).mono ?_
                    rintro e w86 ⟨rfl, hb⟩
                    refine ⟨_, rfl, ?_⟩
                    replace HO_9 := aaM (rrB (by (with_reducible repeat (first | apply rrA | apply rrN | apply rrD)); exact HO_9.out) hb)
                    replace BK231 := aaM (bX hb BK231.out)
                    replace BK232 := aaM (bX hb BK232.out)
                    replace BK237 := aaM (bX hb BK237.out)
                    replace HB := aaM (lP (by repeat (first | (with_reducible first | exact HB.out | apply lA | apply lN | apply lD | refine lS ?_ GE231.out | refine lS ?_ GE232.out | refine lS ?_ GE237.out) | exact HB.out)) hb)
                    (try clear hb)
                    (try clear hb2)
                    (try clear hk)
                    (try clear hi)
                    refine hK.out _ _ ⟨(bC BK237.out 0).trans rfl, (bC BK237.out 1).trans rfl, (bC BK237.out 2).trans rfl, (bC BK231.out 0).trans rfl, (bC BK231.out 1).trans rfl, (bC BK231.out 2).trans rfl, (bC BK231.out 3).trans rfl, (bC BK231.out 4).trans rfl, ((HB.out.cell (World.block_lt_of_cell? w _ hw243_0)).trans hw243_0), ((HB.out.cell (World.block_lt_of_cell? w _ hw243_1)).trans hw243_1), ((HB.out.cell (World.block_lt_of_cell? w _ hw243_2)).trans hw243_2)⟩ (fun hHeld => ?_)
                    clear hK K
                    refine norm_ (a' := ?_) ?_ ?_
                    rotate_left
                    ·show Act.put _ (some 92) _ = _
                     simp only [Act.put, ssB, ssZ, ssS, i64_w, i32_w]
                     rfl
                    refine pure_ (i := 8) (N := some 84) (v := ?_) (a' := ?_) #[true, true, true, true, true, true, true, true, true, false, false, false, false, false] rfl rfl (any_of HT_.out (by kernel_rfl)) (fun _ _ _ h => h) (Or.inl ⟨by rfl, ?_⟩) ?_ ?_
                    rotate_left
                    ·intro w'
                     go_simp
                     with_reducible rfl
                    rotate_left
                    ·simp only [Act.put, ssB, ssZ, ssS, i64_w, i32_w]
                     rfl
                    refine pure_ (i := 9) (N := some 93) (v := ?_) (a' := ?_) #[true, true, true, true, true, true, true, true, true, true, false, false, false, false] rfl rfl (any_of HT_.out (by kernel_rfl)) (fun _ _ _ h => h) (Or.inl ⟨by rfl, ?_⟩) ?_ ?_
                    rotate_left
                    ·intro w'
                     go_simp
                     with_reducible rfl
                    rotate_left
                    ·simp only [Act.put, ssB, ssZ, ssS, i64_w, i32_w]
                     rfl
                    refine pure_ (i := 10) (N := some 94) (v := ?_) (a' := ?_) #[true, true, true, true, true, true, true, true, true, true, true, false, false, false] rfl rfl (any_of HT_.out (by kernel_rfl)) (fun _ _ _ h => h) (Or.inl ⟨by rfl, ?_⟩) ?_ ?_
                    rotate_left
                    ·intro w'
                     go_simp
                     with_reducible rfl
                    rotate_left
                    ·simp only [Act.put, ssB, ssZ, ssS, i64_w, i32_w]
                     rfl
                    refine one_ (i := 11) (N := some 15) #[true, true, true, true, true, true, true, true, true, true, true, true, false, false] rfl rfl (one_of HT_.out (by kernel_rfl)) (by decide) (fun K hK => ?_)
                    refine box_step ?hg (N := 15) ?hd (cs := #[.int .i64 0, .int .i64 0, .int .i64 0]) (t := 54) ?hr ?_; (case hd => rfl); (case hg => rfl); (case hr => first | (go_simp; done) | (go_simp; rfl))
                    intro gb248 hg w87 hbox hb
                    have hP_ := lQ (by repeat (first | (with_reducible first | exact HB.out | apply lA | apply lN | apply lD | refine lS ?_ GE231.out | refine lS ?_ GE232.out | refine lS ?_ GE237.out) | exact HB.out)) hb
                    replace HO_9 := aaM (rrB (by (with_reducible repeat (first | apply rrA | apply rrN | apply rrD)); exact HO_9.out) hb)
                    replace HB := aaM hP_.1
                    have BK248 := aaM (hbox)
                    have GW248 := aaM (gQ hg hP_.2)
                    have GE248 := aaM (gQ hg hP_.2)
                    have NB231_248 := aaM (nL hg BK231.out)
                    have NB248_231 := aaM (nL hg BK231.out).symm
                    replace BK231 := aaM (bX hb BK231.out)
                    have NB232_248 := aaM (nL hg BK232.out)
                    have NB248_232 := aaM (nL hg BK232.out).symm
                    replace BK232 := aaM (bX hb BK232.out)
                    have NB237_248 := aaM (nL hg BK237.out)
                    have NB248_237 := aaM (nL hg BK237.out).symm
                    replace BK237 := aaM (bX hb BK237.out)
                    clear hb hbox hg hP_
                    refine hK.out _ _ ⟨(bC BK237.out 0).trans rfl, (bC BK237.out 1).trans rfl, (bC BK237.out 2).trans rfl, (bC BK231.out 0).trans rfl, (bC BK231.out 1).trans rfl, (bC BK231.out 2).trans rfl, (bC BK231.out 3).trans rfl, (bC BK231.out 4).trans rfl, ((HB.out.cell (World.block_lt_of_cell? w _ hw243_0)).trans hw243_0), ((HB.out.cell (World.block_lt_of_cell? w _ hw243_1)).trans hw243_1), ((HB.out.cell (World.block_lt_of_cell? w _ hw243_2)).trans hw243_2)⟩ (fun hHeld => ?_)
                    clear hK K
                    refine norm_ (a' := ?_) ?_ ?_
                    rotate_left
                    ·show Act.put _ (some 15) _ = _
                     simp only [Act.put, ssB, ssZ, ssS, i64_w, i32_w]
                     rfl
                    exact norm_ (by simp only [putAll, Act.put, ssB, ssZ, ssS]) (hCont (gb248, gc) _ ⟨hHeld, (by (with_reducible repeat (first | apply rrA | apply rrN | apply rrD)); exact HO_9.out), (by (with_reducible repeat (first | refine bN ?_ _ | refine bD ?_ | refine bA ?_ _)); exact BK231.out), (by (with_reducible repeat (first | refine bN ?_ _ | refine bD ?_ | refine bA ?_ _)); exact BK232.out), (by (with_reducible repeat (first | refine bN ?_ _ | refine bD ?_ | refine bA ?_ _)); exact BK237.out), (by (with_reducible repeat (first | refine bN ?_ _ | refine bD ?_ | refine bA ?_ _)); exact BK248.out), GW248.out, GE248.out, NB231_248.out, NB248_231.out, NB232_248.out, NB248_232.out, NB237_248.out, NB248_237.out, (by repeat (first | (with_reducible first | exact HB.out | apply lA | apply lN | apply lD | refine lS ?_ GE231.out | refine lS ?_ GE232.out | refine lS ?_ GE237.out | refine lS ?_ GE248.out) | exact HB.out))⟩)
                   ·skip
                    refine box_step ?hg (N := 15) ?hd (cs := #[.int .i64 0, .int .i64 0, .int .i64 0]) (t := 54) ?hr ?_; (case hd => rfl); (case hg => rfl); (case hr => first | (go_simp; done) | (go_simp; rfl))
                    intro gb248 hg w86 hbox hb
                    have hgc := aaM ((hb.cell (World.block_lt_of_cell? _ _ hgc.out)).trans hgc.out)
                    have hP_ := lQ (by repeat (first | (with_reducible first | exact HB.out | apply lA | apply lN | apply lD | refine lS ?_ GE231.out | refine lS ?_ GE232.out | refine lS ?_ GE237.out) | exact HB.out)) hb
                    replace HO_9 := aaM (rrB (by (with_reducible repeat (first | apply rrA | apply rrN | apply rrD)); exact HO_9.out) hb)
                    replace HB := aaM hP_.1
                    have BK248 := aaM (hbox)
                    have GW248 := aaM (gQ hg hP_.2)
                    have GE248 := aaM (gQ hg hP_.2)
                    have NB231_248 := aaM (nL hg BK231.out)
                    have NB248_231 := aaM (nL hg BK231.out).symm
                    replace BK231 := aaM (bX hb BK231.out)
                    have NB232_248 := aaM (nL hg BK232.out)
                    have NB248_232 := aaM (nL hg BK232.out).symm
                    replace BK232 := aaM (bX hb BK232.out)
                    have NB237_248 := aaM (nL hg BK237.out)
                    have NB248_237 := aaM (nL hg BK237.out).symm
                    replace BK237 := aaM (bX hb BK237.out)
                    clear hb hbox hg hP_
                    refine hK.out _ _ ⟨(bC BK237.out 0).trans rfl, (bC BK237.out 1).trans rfl, (bC BK237.out 2).trans rfl, (bC BK231.out 0).trans rfl, (bC BK231.out 1).trans rfl, (bC BK231.out 2).trans rfl, (bC BK231.out 3).trans rfl, (bC BK231.out 4).trans rfl, ((HB.out.cell (World.block_lt_of_cell? w _ hw243_0)).trans hw243_0), ((HB.out.cell (World.block_lt_of_cell? w _ hw243_1)).trans hw243_1), ((HB.out.cell (World.block_lt_of_cell? w _ hw243_2)).trans hw243_2)⟩ (fun hHeld => ?_)
                    clear hK K
                    refine norm_ (a' := ?_) ?_ ?_
                    rotate_left
                    ·show Act.put _ (some 15) _ = _
                     simp only [Act.put, ssB, ssZ, ssS, i64_w, i32_w]
                     rfl
                    refine one_ (i := 7) (N := some 92) #[true, true, true, true, true, true, true, true, false, false, false, true, false, false] rfl rfl (one_of HT_.out (by kernel_rfl)) (by decide) (fun K hK => ?_)
                    refine goesC_ Try.func61 (by kernel_rfl) rfl #[.agg #[.int .i64 x238000_2, .int .i64 x238001_2, .int .i64 x238002_2], .agg #[.int .i64 ((rd_T54 l0_4 x11_2).f0), .int .i64 ((rd_T54 l0_4 x11_2).f1), .int .i64 ((rd_T54 l0_4 x11_2).f2)]] #[.pointer (some ⟨gc, 0, none⟩)] #[.agg #[.int .i64 x238000_2, .int .i64 x238001_2, .int .i64 x238002_2], .agg #[.int .i64 ((rd_T54 l0_4 x11_2).f0), .int .i64 ((rd_T54 l0_4 x11_2).f1), .int .i64 ((rd_T54 l0_4 x11_2).f2)], .pointer (some ⟨gc, 0, none⟩)] rfl (by rfl) rfl rfl rfl (by (try simp only [mmT, mmC, mmN]); first | done | rfl | (simp only [ddD, ddT]; rfl)) ?_
                    with_reducible refine (hist_moments_1.calls x238000_2 x238001_2 x238002_2 ((rd_T54 l0_4 x11_2).f0) ((rd_T54 l0_4 x11_2).f1) ((rd_T54 l0_4 x11_2).f2) t244 t245 t246 t247 gc _ hgc.out A64.out).mono ?_
                    rintro e w87 ⟨rfl, hb⟩
                    refine ⟨_, rfl, ?_⟩
                    replace HO_9 := aaM (rrB (by (with_reducible repeat (first | apply rrA | apply rrN | apply rrD)); exact HO_9.out) hb)
                    replace BK231 := aaM (bX hb BK231.out)
                    replace BK232 := aaM (bX hb BK232.out)
                    replace BK237 := aaM (bX hb BK237.out)
                    replace BK248 := aaM (bX hb BK248.out)
                    replace HB := aaM (lP (by repeat (first | (with_reducible first | exact HB.out | apply lA | apply lN | apply lD | refine lS ?_ GE231.out | refine lS ?_ GE232.out | refine lS ?_ GE237.out | refine lS ?_ GE248.out) | exact HB.out)) hb)
                    (try clear hb)
                    (try clear hb2)
                    (try clear hk)
                    (try clear hi)
                    refine hK.out _ _ ⟨(bC BK237.out 0).trans rfl, (bC BK237.out 1).trans rfl, (bC BK237.out 2).trans rfl, (bC BK231.out 0).trans rfl, (bC BK231.out 1).trans rfl, (bC BK231.out 2).trans rfl, (bC BK231.out 3).trans rfl, (bC BK231.out 4).trans rfl, ((HB.out.cell (World.block_lt_of_cell? w _ hw243_0)).trans hw243_0), ((HB.out.cell (World.block_lt_of_cell? w _ hw243_1)).trans hw243_1), ((HB.out.cell (World.block_lt_of_cell? w _ hw243_2)).trans hw243_2)⟩ (fun hHeld => ?_)
                    clear hK K
                    refine norm_ (a' := ?_) ?_ ?_
                    rotate_left
                    ·show Act.put _ (some 92) _ = _
                     simp only [Act.put, ssB, ssZ, ssS, i64_w, i32_w]
                     rfl
                    refine pure_ (i := 8) (N := some 84) (v := ?_) (a' := ?_) #[true, true, true, true, true, true, true, true, true, false, false, true, false, false] rfl rfl (any_of HT_.out (by kernel_rfl)) (fun _ _ _ h => h) (Or.inl ⟨by rfl, ?_⟩) ?_ ?_
                    rotate_left
                    ·intro w'
                     go_simp
                     with_reducible rfl
                    rotate_left
                    ·simp only [Act.put, ssB, ssZ, ssS, i64_w, i32_w]
                     rfl
                    refine pure_ (i := 9) (N := some 93) (v := ?_) (a' := ?_) #[true, true, true, true, true, true, true, true, true, true, false, true, false, false] rfl rfl (any_of HT_.out (by kernel_rfl)) (fun _ _ _ h => h) (Or.inl ⟨by rfl, ?_⟩) ?_ ?_
                    rotate_left
                    ·intro w'
                     go_simp
                     with_reducible rfl
                    rotate_left
                    ·simp only [Act.put, ssB, ssZ, ssS, i64_w, i32_w]
                     rfl
                    refine pure_ (i := 10) (N := some 94) (v := ?_) (a' := ?_) #[true, true, true, true, true, true, true, true, true, true, true, true, false, false] rfl rfl (any_of HT_.out (by kernel_rfl)) (fun _ _ _ h => h) (Or.inl ⟨by rfl, ?_⟩) ?_ ?_
                    rotate_left
                    ·intro w'
                     go_simp
                     with_reducible rfl
                    rotate_left
                    ·simp only [Act.put, ssB, ssZ, ssS, i64_w, i32_w]
                     rfl
                    exact norm_ (by simp only [putAll, Act.put, ssB, ssZ, ssS]) (hCont (gb248, gc) _ ⟨hHeld, (by (with_reducible repeat (first | apply rrA | apply rrN | apply rrD)); exact HO_9.out), (by (with_reducible repeat (first | refine bN ?_ _ | refine bD ?_ | refine bA ?_ _)); exact BK231.out), (by (with_reducible repeat (first | refine bN ?_ _ | refine bD ?_ | refine bA ?_ _)); exact BK232.out), (by (with_reducible repeat (first | refine bN ?_ _ | refine bD ?_ | refine bA ?_ _)); exact BK237.out), (by (with_reducible repeat (first | refine bN ?_ _ | refine bD ?_ | refine bA ?_ _)); exact BK248.out), GW248.out, GE248.out, NB231_248.out, NB248_231.out, NB232_248.out, NB248_232.out, NB237_248.out, NB248_237.out, (by repeat (first | (with_reducible first | exact HB.out | apply lA | apply lN | apply lD | refine lS ?_ GE231.out | refine lS ?_ GE232.out | refine lS ?_ GE237.out | refine lS ?_ GE248.out) | exact HB.out))⟩)
                  ·skip
                   refine box_step ?hg (N := 15) ?hd (cs := #[.int .i64 0, .int .i64 0, .int .i64 0]) (t := 54) ?hr ?_; (case hd => rfl); (case hg => rfl); (case hr => first | (go_simp; done) | (go_simp; rfl))
                   intro gb248 hg w86 hbox hb
                   have hP_ := lQ (by repeat (first | (with_reducible first | exact HB.out | apply lA | apply lN | apply lD | refine lS ?_ GE231.out | refine lS ?_ GE232.out | refine lS ?_ GE237.out) | exact HB.out)) hb
                   replace HO_9 := aaM (rrB (by (with_reducible repeat (first | apply rrA | apply rrN | apply rrD)); exact HO_9.out) hb)
                   replace HB := aaM hP_.1
                   have BK248 := aaM (hbox)
                   have GW248 := aaM (gQ hg hP_.2)
                   have GE248 := aaM (gQ hg hP_.2)
                   have NB231_248 := aaM (nL hg BK231.out)
                   have NB248_231 := aaM (nL hg BK231.out).symm
                   replace BK231 := aaM (bX hb BK231.out)
                   have NB232_248 := aaM (nL hg BK232.out)
                   have NB248_232 := aaM (nL hg BK232.out).symm
                   replace BK232 := aaM (bX hb BK232.out)
                   have NB237_248 := aaM (nL hg BK237.out)
                   have NB248_237 := aaM (nL hg BK237.out).symm
                   replace BK237 := aaM (bX hb BK237.out)
                   clear hb hbox hg hP_
                   refine hK.out _ _ ⟨(bC BK237.out 0).trans rfl, (bC BK237.out 1).trans rfl, (bC BK237.out 2).trans rfl, (bC BK231.out 0).trans rfl, (bC BK231.out 1).trans rfl, (bC BK231.out 2).trans rfl, (bC BK231.out 3).trans rfl, (bC BK231.out 4).trans rfl, ((HB.out.cell (World.block_lt_of_cell? w _ hw243_0)).trans hw243_0), ((HB.out.cell (World.block_lt_of_cell? w _ hw243_1)).trans hw243_1), ((HB.out.cell (World.block_lt_of_cell? w _ hw243_2)).trans hw243_2)⟩ (fun hHeld => ?_)
                   clear hK K
                   refine norm_ (a' := ?_) ?_ ?_
                   rotate_left
                   ·show Act.put _ (some 15) _ = _
                    simp only [Act.put, ssB, ssZ, ssS, i64_w, i32_w]
                    rfl
                   refine one_ (i := 0) (N := some 85) #[true, true, true, true, true, true, true, false, false, false, false, true, false, false] rfl rfl (one_of HT_.out (by kernel_rfl)) (by decide) (fun K hK => ?_)
                   refine goes_ Try.func49 (by kernel_rfl) rfl #[.func (.func 50) #[] #[]] (by rfl) rfl rfl (by first | rfl | simp [Act.eval]) ?_
                   with_reducible refine (hist_moments.calls _).mono ?_
                   rintro e w87c ⟨gc, rfl, hgc_, hb⟩
                   have hgc := aaM hgc_
                   clear hgc_
                   refine ⟨_, rfl, ?_⟩
                   replace HO_9 := aaM (rrB (by (with_reducible repeat (first | apply rrA | apply rrN | apply rrD)); exact HO_9.out) hb)
                   replace BK231 := aaM (bX hb BK231.out)
                   replace BK232 := aaM (bX hb BK232.out)
                   replace BK237 := aaM (bX hb BK237.out)
                   replace BK248 := aaM (bX hb BK248.out)
                   replace HB := aaM (lP (by repeat (first | (with_reducible first | exact HB.out | apply lA | apply lN | apply lD | refine lS ?_ GE231.out | refine lS ?_ GE232.out | refine lS ?_ GE237.out | refine lS ?_ GE248.out) | exact HB.out)) hb)
                   (try clear hb)
                   (try clear hb2)
                   (try clear hk)
                   (try clear hi)
                   refine hK.out _ _ ⟨(bC BK237.out 0).trans rfl, (bC BK237.out 1).trans rfl, (bC BK237.out 2).trans rfl, (bC BK231.out 0).trans rfl, (bC BK231.out 1).trans rfl, (bC BK231.out 2).trans rfl, (bC BK231.out 3).trans rfl, (bC BK231.out 4).trans rfl, ((HB.out.cell (World.block_lt_of_cell? w _ hw243_0)).trans hw243_0), ((HB.out.cell (World.block_lt_of_cell? w _ hw243_1)).trans hw243_1), ((HB.out.cell (World.block_lt_of_cell? w _ hw243_2)).trans hw243_2)⟩ (fun hHeld => ?_)
                   clear hK K
                   refine norm_ (a' := ?_) ?_ ?_
                   rotate_left
                   ·show Act.put _ (some 85) _ = _
                    simp only [Act.put, ssB, ssZ, ssS, i64_w, i32_w]
                    rfl
                   refine one_ (i := 7) (N := some 92) #[true, true, true, true, true, true, true, true, false, false, false, true, false, false] rfl rfl (one_of HT_.out (by kernel_rfl)) (by decide) (fun K hK => ?_)
                   refine goesC_ Try.func61 (by kernel_rfl) rfl #[.agg #[.int .i64 x238000_2, .int .i64 x238001_2, .int .i64 x238002_2], .agg #[.int .i64 ((rd_T54 l0_4 x11_2).f0), .int .i64 ((rd_T54 l0_4 x11_2).f1), .int .i64 ((rd_T54 l0_4 x11_2).f2)]] #[.pointer (some ⟨gc, 0, none⟩)] #[.agg #[.int .i64 x238000_2, .int .i64 x238001_2, .int .i64 x238002_2], .agg #[.int .i64 ((rd_T54 l0_4 x11_2).f0), .int .i64 ((rd_T54 l0_4 x11_2).f1), .int .i64 ((rd_T54 l0_4 x11_2).f2)], .pointer (some ⟨gc, 0, none⟩)] rfl (by rfl) rfl rfl rfl (by (try simp only [mmT, mmC, mmN]); first | done | rfl | (simp only [ddD, ddT]; rfl)) ?_
                   with_reducible refine (hist_moments_1.calls x238000_2 x238001_2 x238002_2 ((rd_T54 l0_4 x11_2).f0) ((rd_T54 l0_4 x11_2).f1) ((rd_T54 l0_4 x11_2).f2) t244 t245 t246 t247 gc _ hgc.out A64.out).mono ?_
                   rintro e w87 ⟨rfl, hb⟩
                   refine ⟨_, rfl, ?_⟩
                   replace HO_9 := aaM (rrB (by (with_reducible repeat (first | apply rrA | apply rrN | apply rrD)); exact HO_9.out) hb)
                   replace BK231 := aaM (bX hb BK231.out)
                   replace BK232 := aaM (bX hb BK232.out)
                   replace BK237 := aaM (bX hb BK237.out)
                   replace BK248 := aaM (bX hb BK248.out)
                   replace HB := aaM (lP (by repeat (first | (with_reducible first | exact HB.out | apply lA | apply lN | apply lD | refine lS ?_ GE231.out | refine lS ?_ GE232.out | refine lS ?_ GE237.out | refine lS ?_ GE248.out) | exact HB.out)) hb)
                   (try clear hb)
                   (try clear hb2)
                   (try clear hk)
                   (try clear hi)
                   refine hK.out _ _ ⟨(bC BK237.out 0).trans rfl, (bC BK237.out 1).trans rfl, (bC BK237.out 2).trans rfl, (bC BK231.out 0).trans rfl, (bC BK231.out 1).trans rfl, (bC BK231.out 2).trans rfl, (bC BK231.out 3).trans rfl, (bC BK231.out 4).trans rfl, ((HB.out.cell (World.block_lt_of_cell? w _ hw243_0)).trans hw243_0), ((HB.out.cell (World.block_lt_of_cell? w _ hw243_1)).trans hw243_1), ((HB.out.cell (World.block_lt_of_cell? w _ hw243_2)).trans hw243_2)⟩ (fun hHeld => ?_)
                   clear hK K
                   refine norm_ (a' := ?_) ?_ ?_
                   rotate_left
                   ·show Act.put _ (some 92) _ = _
                    simp only [Act.put, ssB, ssZ, ssS, i64_w, i32_w]
                    rfl
                   refine pure_ (i := 8) (N := some 84) (v := ?_) (a' := ?_) #[true, true, true, true, true, true, true, true, true, false, false, true, false, false] rfl rfl (any_of HT_.out (by kernel_rfl)) (fun _ _ _ h => h) (Or.inl ⟨by rfl, ?_⟩) ?_ ?_
                   rotate_left
                   ·intro w'
                    go_simp
                    with_reducible rfl
                   rotate_left
                   ·simp only [Act.put, ssB, ssZ, ssS, i64_w, i32_w]
                    rfl
                   refine pure_ (i := 9) (N := some 93) (v := ?_) (a' := ?_) #[true, true, true, true, true, true, true, true, true, true, false, true, false, false] rfl rfl (any_of HT_.out (by kernel_rfl)) (fun _ _ _ h => h) (Or.inl ⟨by rfl, ?_⟩) ?_ ?_
                   rotate_left
                   ·intro w'
                    go_simp
                    with_reducible rfl
                   rotate_left
                   ·simp only [Act.put, ssB, ssZ, ssS, i64_w, i32_w]
                    rfl
                   refine pure_ (i := 10) (N := some 94) (v := ?_) (a' := ?_) #[true, true, true, true, true, true, true, true, true, true, true, true, false, false] rfl rfl (any_of HT_.out (by kernel_rfl)) (fun _ _ _ h => h) (Or.inl ⟨by rfl, ?_⟩) ?_ ?_
                   rotate_left
                   ·intro w'
                    go_simp
                    with_reducible rfl
                   rotate_left
                   ·simp only [Act.put, ssB, ssZ, ssS, i64_w, i32_w]
                    rfl
                   exact norm_ (by simp only [putAll, Act.put, ssB, ssZ, ssS]) (hCont (gb248, gc) _ ⟨hHeld, (by (with_reducible repeat (first | apply rrA | apply rrN | apply rrD)); exact HO_9.out), (by (with_reducible repeat (first | refine bN ?_ _ | refine bD ?_ | refine bA ?_ _)); exact BK231.out), (by (with_reducible repeat (first | refine bN ?_ _ | refine bD ?_ | refine bA ?_ _)); exact BK232.out), (by (with_reducible repeat (first | refine bN ?_ _ | refine bD ?_ | refine bA ?_ _)); exact BK237.out), (by (with_reducible repeat (first | refine bN ?_ _ | refine bD ?_ | refine bA ?_ _)); exact BK248.out), GW248.out, GE248.out, NB231_248.out, NB248_231.out, NB232_248.out, NB248_232.out, NB237_248.out, NB248_237.out, (by repeat (first | (with_reducible first | exact HB.out | apply lA | apply lN | apply lD | refine lS ?_ GE231.out | refine lS ?_ GE232.out | refine lS ?_ GE237.out | refine lS ?_ GE248.out) | exact HB.out))⟩)
                 rintro ⟨gb248, gc⟩ w88 ⟨hS_, h0_, h1_, h2_, h3_, h4_, h5_, h6_, h7_, h8_, h9_, h10_, h11_, h12_, h13_⟩
                 have n0_ : Aside0 (Kd.R (Kd.int .i64) 2 w88 w.heap.size (fun _ => True) (.slice Ao44 x9_3.length co44) x9_3) := ⟨h0_⟩
                 have n1_ : Aside0 (w88.heap[gb231]? = some (.cells #[.int .i64 a0_0, .int .i64 a0_1, .int .i64 a0_2, .slice A0_3 l0_3.length c0_3, .slice (some ad243) l0_4.length c0_4] 25 (0, 0))) := ⟨h1_⟩
                 have n2_ : Aside0 (w88.heap[gb232]? = some (.cells #[.int .i64 x233000_3, .int .i64 x233001_3, .int .i64 x233002_3] 54 (0, 0))) := ⟨h2_⟩
                 have n3_ : Aside0 (w88.heap[gb237]? = some (.cells #[.int .i64 x238000_2, .int .i64 x238001_2, .int .i64 x238002_2] 54 (0, 0))) := ⟨h3_⟩
                 have n4_ : Aside0 (w88.heap[gb248]? = some (.cells #[.int .i64 0, .int .i64 0, .int .i64 0] 54 (0, 0))) := ⟨h4_⟩
                 have n5_ : Aside0 (w.heap.size ≤ gb248) := ⟨h5_⟩
                 have n6_ : Aside0 (w.heap.size ≤ gb248) := ⟨h6_⟩
                 have n7_ : Aside0 (gb231 ≠ gb248) := ⟨h7_⟩
                 have n8_ : Aside0 (gb248 ≠ gb231) := ⟨h8_⟩
                 have n9_ : Aside0 (gb232 ≠ gb248) := ⟨h9_⟩
                 have n10_ : Aside0 (gb248 ≠ gb232) := ⟨h10_⟩
                 have n11_ : Aside0 (gb237 ≠ gb248) := ⟨h11_⟩
                 have n12_ : Aside0 (gb248 ≠ gb237) := ⟨h12_⟩
                 have n13_ : Aside0 (Below w.heap.size w w88) := ⟨h13_⟩
                 clear HO_9 BK231 BK232 BK237 HB h0_ h1_ h2_ h3_ h4_ h5_ h6_ h7_ h8_ h9_ h10_ h11_ h12_ h13_
                 have HO_9 := n0_
                 have BK231 := n1_
                 have BK232 := n2_
                 have BK237 := n3_
                 have BK248 := n4_
                 have GW248 := n5_
                 have GE248 := n6_
                 have NB231_248 := n7_
                 have NB248_231 := n8_
                 have NB232_248 := n9_
                 have NB248_232 := n10_
                 have NB237_248 := n11_
                 have NB248_237 := n12_
                 have HB := n13_
                 clear n0_ n1_ n2_ n3_ n4_ n5_ n6_ n7_ n8_ n9_ n10_ n11_ n12_ n13_
                 have hHeld : w88.cell? ⟨gb237, 0, none⟩ = some (.int .i64 x238000_2) ∧ w88.cell? ⟨gb237, 1, none⟩ = some (.int .i64 x238001_2) ∧ w88.cell? ⟨gb237, 2, none⟩ = some (.int .i64 x238002_2) ∧ w88.cell? ⟨gb231, 0, none⟩ = some (.int .i64 a0_0) ∧ w88.cell? ⟨gb231, 1, none⟩ = some (.int .i64 a0_1) ∧ w88.cell? ⟨gb231, 2, none⟩ = some (.int .i64 a0_2) ∧ w88.cell? ⟨gb231, 3, none⟩ = some (.slice A0_3 l0_3.length c0_3) ∧ w88.cell? ⟨gb231, 4, none⟩ = some (.slice (some ad243) l0_4.length c0_4) ∧ w88.cell? (ad243.add ((x11_2).toNat * 3)) = some (.int .i64 ((rd_T54 l0_4 x11_2).f0)) ∧ w88.cell? ⟨(ad243.add ((x11_2).toNat * 3)).block, (ad243.add ((x11_2).toNat * 3)).off + 1, none⟩ = some (.int .i64 ((rd_T54 l0_4 x11_2).f1)) ∧ w88.cell? ⟨(ad243.add ((x11_2).toNat * 3)).block, (ad243.add ((x11_2).toNat * 3)).off + 2, none⟩ = some (.int .i64 ((rd_T54 l0_4 x11_2).f2)) := hS_
                 refine norm_ (a' := ?_) ?_ ?_
                 rotate_left
                 ·simp only [putAll, Act.put, ssB, ssZ, ssS]
                  rfl
                 refine one_ (i := 12) (N := none) #[true, true, true, true, true, true, true, true, true, true, true, true, true, false] rfl rfl (one_of HT_.out (by kernel_rfl)) (by decide) (fun K hK => ?_)
                 obtain ⟨hs89, -, -, hfs89, -, -⟩ := bE3 BK248.out
                 have hns89_0 := NB231_248.out
                 have hns89_1 := NB232_248.out
                 have hns89_2 := NB237_248.out
                 have hms89_0 := NB248_231.out
                 have hms89_1 := NB248_232.out
                 have hms89_2 := NB248_237.out
                 obtain ⟨-, hs90, -, -, hfs90, -⟩ := bE3 BK248.out
                 have hns90_0 := NB231_248.out
                 have hns90_1 := NB232_248.out
                 have hns90_2 := NB237_248.out
                 have hms90_0 := NB248_231.out
                 have hms90_1 := NB248_232.out
                 have hms90_2 := NB248_237.out
                 obtain ⟨-, -, hs91, -, -, hfs91⟩ := bE3 BK248.out
                 have hns91_0 := NB231_248.out
                 have hns91_1 := NB232_248.out
                 have hns91_2 := NB237_248.out
                 have hms91_0 := NB248_231.out
                 have hms91_1 := NB248_232.out
                 have hms91_2 := NB248_237.out
                 refine skip_ (w1 := ?_) (by rfl) rfl ?_ ?_
                 rotate_left
                 ·go_simp
                  rfl
                 refine hK.out _ _ ⟨((cell_far (p := ⟨gb248, _, none⟩) NB237_248.out _).trans (((cell_far (p := ⟨gb248, _, none⟩) NB237_248.out _).trans (((cell_far (p := ⟨gb248, _, none⟩) NB237_248.out _).trans (hHeld.1)))))), ((cell_far (p := ⟨gb248, _, none⟩) NB237_248.out _).trans (((cell_far (p := ⟨gb248, _, none⟩) NB237_248.out _).trans (((cell_far (p := ⟨gb248, _, none⟩) NB237_248.out _).trans (hHeld.2.1)))))), ((cell_far (p := ⟨gb248, _, none⟩) NB237_248.out _).trans (((cell_far (p := ⟨gb248, _, none⟩) NB237_248.out _).trans (((cell_far (p := ⟨gb248, _, none⟩) NB237_248.out _).trans (hHeld.2.2.1)))))), ((cell_far (p := ⟨gb248, _, none⟩) NB231_248.out _).trans (((cell_far (p := ⟨gb248, _, none⟩) NB231_248.out _).trans (((cell_far (p := ⟨gb248, _, none⟩) NB231_248.out _).trans (hHeld.2.2.2.1)))))), ((cell_far (p := ⟨gb248, _, none⟩) NB231_248.out _).trans (((cell_far (p := ⟨gb248, _, none⟩) NB231_248.out _).trans (((cell_far (p := ⟨gb248, _, none⟩) NB231_248.out _).trans (hHeld.2.2.2.2.1)))))), ((cell_far (p := ⟨gb248, _, none⟩) NB231_248.out _).trans (((cell_far (p := ⟨gb248, _, none⟩) NB231_248.out _).trans (((cell_far (p := ⟨gb248, _, none⟩) NB231_248.out _).trans (hHeld.2.2.2.2.2.1)))))), ((cell_far (p := ⟨gb248, _, none⟩) NB231_248.out _).trans (((cell_far (p := ⟨gb248, _, none⟩) NB231_248.out _).trans (((cell_far (p := ⟨gb248, _, none⟩) NB231_248.out _).trans (hHeld.2.2.2.2.2.2.1)))))), ((cell_far (p := ⟨gb248, _, none⟩) NB231_248.out _).trans (((cell_far (p := ⟨gb248, _, none⟩) NB231_248.out _).trans (((cell_far (p := ⟨gb248, _, none⟩) NB231_248.out _).trans (hHeld.2.2.2.2.2.2.2.1)))))), ((cell_far (p := ⟨gb248, _, none⟩) (by first | exact Nat.ne_of_lt (Nat.lt_of_lt_of_le (by have := World.block_lt_of_cell? _ _ hw243_0; first | rwa [add_block] at this | exact this) GW248.out) | (rw [add_block]; exact Nat.ne_of_lt (Nat.lt_of_lt_of_le (by have := World.block_lt_of_cell? _ _ hw243_0; first | rwa [add_block] at this | exact this) GW248.out)) | (show (Addr.add _ _).block ≠ _; rw [add_block]; exact Nat.ne_of_lt (Nat.lt_of_lt_of_le (by have := World.block_lt_of_cell? _ _ hw243_0; first | rwa [add_block] at this | exact this) GW248.out)) | (dsimp only; exact Nat.ne_of_lt (Nat.lt_of_lt_of_le (by have := World.block_lt_of_cell? _ _ hw243_0; first | rwa [add_block] at this | exact this) GW248.out))) _).trans (((cell_far (p := ⟨gb248, _, none⟩) (by first | exact Nat.ne_of_lt (Nat.lt_of_lt_of_le (by have := World.block_lt_of_cell? _ _ hw243_0; first | rwa [add_block] at this | exact this) GW248.out) | (rw [add_block]; exact Nat.ne_of_lt (Nat.lt_of_lt_of_le (by have := World.block_lt_of_cell? _ _ hw243_0; first | rwa [add_block] at this | exact this) GW248.out)) | (show (Addr.add _ _).block ≠ _; rw [add_block]; exact Nat.ne_of_lt (Nat.lt_of_lt_of_le (by have := World.block_lt_of_cell? _ _ hw243_0; first | rwa [add_block] at this | exact this) GW248.out)) | (dsimp only; exact Nat.ne_of_lt (Nat.lt_of_lt_of_le (by have := World.block_lt_of_cell? _ _ hw243_0; first | rwa [add_block] at this | exact this) GW248.out))) _).trans (((cell_far (p := ⟨gb248, _, none⟩) (by first | exact Nat.ne_of_lt (Nat.lt_of_lt_of_le (by have := World.block_lt_of_cell? _ _ hw243_0; first | rwa [add_block] at this | exact this) GW248.out) | (rw [add_block]; exact Nat.ne_of_lt (Nat.lt_of_lt_of_le (by have := World.block_lt_of_cell? _ _ hw243_0; first | rwa [add_block] at this | exact this) GW248.out)) | (show (Addr.add _ _).block ≠ _; rw [add_block]; exact Nat.ne_of_lt (Nat.lt_of_lt_of_le (by have := World.block_lt_of_cell? _ _ hw243_0; first | rwa [add_block] at this | exact this) GW248.out)) | (dsimp only; exact Nat.ne_of_lt (Nat.lt_of_lt_of_le (by have := World.block_lt_of_cell? _ _ hw243_0; first | rwa [add_block] at this | exact this) GW248.out))) _).trans (hHeld.2.2.2.2.2.2.2.2.1)))))), ((cell_far (p := ⟨gb248, _, none⟩) (by first | exact Nat.ne_of_lt (Nat.lt_of_lt_of_le (by have := World.block_lt_of_cell? _ _ hw243_1; first | rwa [add_block] at this | exact this) GW248.out) | (rw [add_block]; exact Nat.ne_of_lt (Nat.lt_of_lt_of_le (by have := World.block_lt_of_cell? _ _ hw243_1; first | rwa [add_block] at this | exact this) GW248.out)) | (show (Addr.add _ _).block ≠ _; rw [add_block]; exact Nat.ne_of_lt (Nat.lt_of_lt_of_le (by have := World.block_lt_of_cell? _ _ hw243_1; first | rwa [add_block] at this | exact this) GW248.out)) | (dsimp only; exact Nat.ne_of_lt (Nat.lt_of_lt_of_le (by have := World.block_lt_of_cell? _ _ hw243_1; first | rwa [add_block] at this | exact this) GW248.out))) _).trans (((cell_far (p := ⟨gb248, _, none⟩) (by first | exact Nat.ne_of_lt (Nat.lt_of_lt_of_le (by have := World.block_lt_of_cell? _ _ hw243_1; first | rwa [add_block] at this | exact this) GW248.out) | (rw [add_block]; exact Nat.ne_of_lt (Nat.lt_of_lt_of_le (by have := World.block_lt_of_cell? _ _ hw243_1; first | rwa [add_block] at this | exact this) GW248.out)) | (show (Addr.add _ _).block ≠ _; rw [add_block]; exact Nat.ne_of_lt (Nat.lt_of_lt_of_le (by have := World.block_lt_of_cell? _ _ hw243_1; first | rwa [add_block] at this | exact this) GW248.out)) | (dsimp only; exact Nat.ne_of_lt (Nat.lt_of_lt_of_le (by have := World.block_lt_of_cell? _ _ hw243_1; first | rwa [add_block] at this | exact this) GW248.out))) _).trans (((cell_far (p := ⟨gb248, _, none⟩) (by first | exact Nat.ne_of_lt (Nat.lt_of_lt_of_le (by have := World.block_lt_of_cell? _ _ hw243_1; first | rwa [add_block] at this | exact this) GW248.out) | (rw [add_block]; exact Nat.ne_of_lt (Nat.lt_of_lt_of_le (by have := World.block_lt_of_cell? _ _ hw243_1; first | rwa [add_block] at this | exact this) GW248.out)) | (show (Addr.add _ _).block ≠ _; rw [add_block]; exact Nat.ne_of_lt (Nat.lt_of_lt_of_le (by have := World.block_lt_of_cell? _ _ hw243_1; first | rwa [add_block] at this | exact this) GW248.out)) | (dsimp only; exact Nat.ne_of_lt (Nat.lt_of_lt_of_le (by have := World.block_lt_of_cell? _ _ hw243_1; first | rwa [add_block] at this | exact this) GW248.out))) _).trans (hHeld.2.2.2.2.2.2.2.2.2.1)))))), ((cell_far (p := ⟨gb248, _, none⟩) (by first | exact Nat.ne_of_lt (Nat.lt_of_lt_of_le (by have := World.block_lt_of_cell? _ _ hw243_2; first | rwa [add_block] at this | exact this) GW248.out) | (rw [add_block]; exact Nat.ne_of_lt (Nat.lt_of_lt_of_le (by have := World.block_lt_of_cell? _ _ hw243_2; first | rwa [add_block] at this | exact this) GW248.out)) | (show (Addr.add _ _).block ≠ _; rw [add_block]; exact Nat.ne_of_lt (Nat.lt_of_lt_of_le (by have := World.block_lt_of_cell? _ _ hw243_2; first | rwa [add_block] at this | exact this) GW248.out)) | (dsimp only; exact Nat.ne_of_lt (Nat.lt_of_lt_of_le (by have := World.block_lt_of_cell? _ _ hw243_2; first | rwa [add_block] at this | exact this) GW248.out))) _).trans (((cell_far (p := ⟨gb248, _, none⟩) (by first | exact Nat.ne_of_lt (Nat.lt_of_lt_of_le (by have := World.block_lt_of_cell? _ _ hw243_2; first | rwa [add_block] at this | exact this) GW248.out) | (rw [add_block]; exact Nat.ne_of_lt (Nat.lt_of_lt_of_le (by have := World.block_lt_of_cell? _ _ hw243_2; first | rwa [add_block] at this | exact this) GW248.out)) | (show (Addr.add _ _).block ≠ _; rw [add_block]; exact Nat.ne_of_lt (Nat.lt_of_lt_of_le (by have := World.block_lt_of_cell? _ _ hw243_2; first | rwa [add_block] at this | exact this) GW248.out)) | (dsimp only; exact Nat.ne_of_lt (Nat.lt_of_lt_of_le (by have := World.block_lt_of_cell? _ _ hw243_2; first | rwa [add_block] at this | exact this) GW248.out))) _).trans (((cell_far (p := ⟨gb248, _, none⟩) (by first | exact Nat.ne_of_lt (Nat.lt_of_lt_of_le (by have := World.block_lt_of_cell? _ _ hw243_2; first | rwa [add_block] at this | exact this) GW248.out) | (rw [add_block]; exact Nat.ne_of_lt (Nat.lt_of_lt_of_le (by have := World.block_lt_of_cell? _ _ hw243_2; first | rwa [add_block] at this | exact this) GW248.out)) | (show (Addr.add _ _).block ≠ _; rw [add_block]; exact Nat.ne_of_lt (Nat.lt_of_lt_of_le (by have := World.block_lt_of_cell? _ _ hw243_2; first | rwa [add_block] at this | exact this) GW248.out)) | (dsimp only; exact Nat.ne_of_lt (Nat.lt_of_lt_of_le (by have := World.block_lt_of_cell? _ _ hw243_2; first | rwa [add_block] at this | exact this) GW248.out))) _).trans (hHeld.2.2.2.2.2.2.2.2.2.2))))))⟩ (fun hHeld => ?_)
                 clear hK K
                 refine pure_ (i := 13) (N := some 16) (v := ?_) (a' := ?_) #[true, true, true, true, true, true, true, true, true, true, true, true, true, true] rfl rfl (any_of HT_.out (by kernel_rfl)) (fun _ _ _ h => h) (Or.inl ⟨by rfl, ?_⟩) ?_ ?_
                 rotate_left
                 ·intro w'
                  go_simp
                  with_reducible rfl
                 rotate_left
                 ·simp only [Act.put, ssB, ssZ, ssS, i64_w, i32_w]
                  rfl
                 refine done_ (done_of HT_.out (by kernel_rfl)) ?_
                 have hnb92 := NB232_237.out
                 have hnc92 := NB237_232.out
                 have hnb93 := NB232_248.out
                 have hnc93 := NB248_232.out
                 obtain ⟨hcz94_0, hcz94_1, hcz94_2, hfz94_0, hfz94_1, hfz94_2⟩ := bE3 BK232.out
                 try go_wp2
                 refine bodyPost_ret (results_list (rs := [.tmp 6, .cell 7 54, .tmp 8]) rfl (by simp) (.tmp (.cell gb232 54 #[.int .i64 0, .int .i64 0, .int .i64 0] (0, 0) _ rfl (by (with_reducible repeat (first | refine bN ?_ _ | refine bD ?_ | refine bA ?_ _)); refine blk_put (cs := #[.int .i64 0, .int .i64 0, .int .i64 x233002_3]) ?_ 2 _ rfl; (with_reducible repeat (first | refine bN ?_ _ | refine bD ?_ | refine bA ?_ _)); refine blk_put (cs := #[.int .i64 0, .int .i64 x233001_3, .int .i64 x233002_3]) ?_ 1 _ rfl; (with_reducible repeat (first | refine bN ?_ _ | refine bD ?_ | refine bA ?_ _)); refine blk_put (cs := #[.int .i64 x233000_3, .int .i64 x233001_3, .int .i64 x233002_3]) ?_ 0 _ rfl; (with_reducible repeat (first | refine bN ?_ _ | refine bD ?_ | refine bA ?_ _)); refine blk_far ?_ NB232_248.out _; (with_reducible repeat (first | refine bN ?_ _ | refine bD ?_ | refine bA ?_ _)); refine blk_far ?_ NB232_248.out _; (with_reducible repeat (first | refine bN ?_ _ | refine bD ?_ | refine bA ?_ _)); refine blk_far ?_ NB232_248.out _; (with_reducible repeat (first | refine bN ?_ _ | refine bD ?_ | refine bA ?_ _)); exact BK232.out) Try.underlying54 rfl (by kernel_rfl) (.tmp .nil)))) rfl ?_
                 exact ⟨_, by first | rfl | (simp [errW_none, errW_some] <;> rfl) | (simp [*, errW_none, errW_some] <;> rfl), by first | exact Kd.R_nil _ _ _ _ _ | exact Kd.N_nil _ _ _ _ _ | exact Kd.V_nil _ _ _ _ _ | exact Kd.Q_nil _ _ _ _ _ | exact Kd.S_nil _ _ _ _ _, by repeat (first | (with_reducible first | exact HB.out | apply lA | apply lN | apply lD | refine lS ?_ GE231.out | refine lS ?_ GE232.out | refine lS ?_ GE237.out | refine lS ?_ GE248.out) | exact HB.out)⟩
               ·rw [if_neg c63] at H
                exact absurd H (by simp)
              ·rw [if_neg c62] at H
               exact absurd H (by simp)
             ·rw [if_neg c61] at H
              have c61b0 : (a0_0 == 1) = false := beq_eq_false_iff_ne.mpr c61
              have c61b1 : (a0_0 != 1) = true := bne_iff_ne.mpr c61
              have H' := aaM H
              clear H
              have hnb95 := NB231_232.out
              have hnc95 := NB232_231.out
              have hnb96 := NB231_237.out
              have hnc96 := NB237_231.out
              obtain ⟨hcz97_0, hcz97_1, hcz97_2, hcz97_3, hcz97_4, hfz97_0, hfz97_1, hfz97_2, hfz97_3, hfz97_4⟩ := bE5 BK231.out
              go_wp2
              (try simp only [← hl9_3])
              go_roundg k3
              case measure => have := HJ27.out; have := HK2.out; have := HK3.out; omega
              case rel => exact ⟨(x9_3), (wrap64 (x11_2 + 1)), (x233000_3), (x233001_3), (x233002_3), (x238000_2), (x238001_2), (x238002_2), (by first | rfl | (simp; done) | (simp [*]; done)), H', ⟨by have := HJ27.out; have := HK2.out; have := HK3.out; omega⟩, ⟨by (try simp only [hl9_3]); (with_reducible repeat (first | apply rrA | apply rrN | apply rrD)); exact HO_9.out⟩, ⟨by (try simp only [hl9_3]); (with_reducible repeat (first | refine bN ?_ _ | refine bD ?_ | refine bA ?_ _)); exact BK231.out⟩, ⟨by (try simp only [hl9_3]); (with_reducible repeat (first | refine bN ?_ _ | refine bD ?_ | refine bA ?_ _)); exact BK232.out⟩, ⟨by (try simp only [hl9_3]); (with_reducible repeat (first | refine bN ?_ _ | refine bD ?_ | refine bA ?_ _)); exact BK237.out⟩, ⟨by repeat (first | (with_reducible first | exact HB.out | apply lA | apply lN | apply lD | refine lS ?_ GE231.out | refine lS ?_ GE232.out | refine lS ?_ GE237.out) | exact HB.out)⟩⟩
         ·rw [if_neg c43] at H
          have c43b0 : decide (x11_2 < a2) = false := decide_eq_false c43
          clear c43
          simp only [Option.some.injEq, Prod.mk.injEq] at H
          obtain ⟨rfl, rfl, rfl, rfl, rfl⟩ := H
          try go_wp2
          replace HO_9 := aaM (rrD HO_9.out)
          replace BK231 := aaM (bD BK231.out)
          replace BK232 := aaM (bD BK232.out)
          replace BK237 := aaM (bD BK237.out)
          replace HB := aaM (lD HB.out)
          refine start_ (n := 5) (S := fun w' => w'.cell? ⟨gb237, 0, none⟩ = some (.int .i64 x238000_2) ∧ w'.cell? ⟨gb237, 1, none⟩ = some (.int .i64 x238001_2) ∧ w'.cell? ⟨gb237, 2, none⟩ = some (.int .i64 x238002_2)) (ds := []) #[false, false, false, false, false] (by kernel_rfl) rfl rfl ⟨(bC BK237.out 0).trans rfl, (bC BK237.out 1).trans rfl, (bC BK237.out 2).trans rfl⟩ (fun hHeld => ?_)
          generalize wr.drew = w98 at HO_9 BK231 BK232 BK237 HB hHeld ⊢
          refine pure_ (i := 0) (N := some 100) (v := ?_) (a' := ?_) #[true, false, false, false, false] rfl rfl (by kernel_rfl) (fun _ _ _ h => h) (Or.inl ⟨by rfl, ?_⟩) ?_ ?_
          rotate_left
          ·intro w'
           go_simp
           with_reducible rfl
          rotate_left
          ·simp only [Act.put, ssB, ssZ, ssS, i64_w, i32_w]
           rfl
          refine pure_ (i := 2) (N := some 6) (v := ?_) (a' := ?_) #[true, false, true, false, false] rfl rfl (by kernel_rfl) (fun _ _ _ h => h) (Or.inl ⟨by rfl, ?_⟩) ?_ ?_
          rotate_left
          ·intro w'
           go_simp
           with_reducible rfl
          rotate_left
          ·simp only [Act.put, ssB, ssZ, ssS, i64_w, i32_w]
           rfl
          refine take_ (i := 1) (N := some 101) (v := ?_) (a' := ?_) #[true, true, true, false, false] rfl rfl (by kernel_rfl) (fun _ _ _ h => h) (Or.inl ⟨by rfl, ?_⟩) hHeld ?_ ?_
          rotate_left
          ·rintro w' ⟨s0, s1, s2⟩
           go_simp
           with_reducible rfl
          rotate_left
          ·simp only [Act.put, ssB, ssZ, ssS, i64_w, i32_w]
           rfl
          refine one_ (i := 3) (N := none) #[true, true, true, true, false] rfl rfl (by kernel_rfl) (by decide) (fun K hK => ?_)
          obtain ⟨hs99, -, -, hfs99, -, -⟩ := bE3 BK232.out
          have hns99_0 := NB231_232.out
          have hns99_2 := NB237_232.out
          have hms99_0 := NB232_231.out
          have hms99_2 := NB232_237.out
          obtain ⟨-, hs100, -, -, hfs100, -⟩ := bE3 BK232.out
          have hns100_0 := NB231_232.out
          have hns100_2 := NB237_232.out
          have hms100_0 := NB232_231.out
          have hms100_2 := NB232_237.out
          obtain ⟨-, -, hs101, -, -, hfs101⟩ := bE3 BK232.out
          have hns101_0 := NB231_232.out
          have hns101_2 := NB237_232.out
          have hms101_0 := NB232_231.out
          have hms101_2 := NB232_237.out
          refine skip_ (w1 := ?_) (by rfl) rfl ?_ ?_
          rotate_left
          ·go_simp
           rfl
          refine hK.out _ _ ⟨((cell_far (p := ⟨gb232, _, none⟩) NB237_232.out _).trans (((cell_far (p := ⟨gb232, _, none⟩) NB237_232.out _).trans (((cell_far (p := ⟨gb232, _, none⟩) NB237_232.out _).trans (hHeld.1)))))), ((cell_far (p := ⟨gb232, _, none⟩) NB237_232.out _).trans (((cell_far (p := ⟨gb232, _, none⟩) NB237_232.out _).trans (((cell_far (p := ⟨gb232, _, none⟩) NB237_232.out _).trans (hHeld.2.1)))))), ((cell_far (p := ⟨gb232, _, none⟩) NB237_232.out _).trans (((cell_far (p := ⟨gb232, _, none⟩) NB237_232.out _).trans (((cell_far (p := ⟨gb232, _, none⟩) NB237_232.out _).trans (hHeld.2.2))))))⟩ (fun hHeld => ?_)
          clear hK K
          refine pure_ (i := 4) (N := some 8) (v := ?_) (a' := ?_) #[true, true, true, true, true] rfl rfl (by kernel_rfl) (fun _ _ _ h => h) (Or.inl ⟨by rfl, ?_⟩) ?_ ?_
          rotate_left
          ·intro w'
           go_simp
           with_reducible rfl
          rotate_left
          ·simp only [Act.put, ssB, ssZ, ssS, i64_w, i32_w]
           rfl
          refine done_ (by kernel_rfl) ?_
          try go_wp2
          refine bodyPost_ret (results_list (rs := [.tmp 6, .cell 7 54, .tmp 8]) rfl (by simp) (.tmp (.cell gb232 54 #[.int .i64 x238000_2, .int .i64 x238001_2, .int .i64 x238002_2] (0, 0) _ rfl (by (with_reducible repeat (first | refine bN ?_ _ | refine bD ?_ | refine bA ?_ _)); refine blk_put (cs := #[.int .i64 x238000_2, .int .i64 x238001_2, .int .i64 x233002_2]) ?_ 2 _ rfl; (with_reducible repeat (first | refine bN ?_ _ | refine bD ?_ | refine bA ?_ _)); refine blk_put (cs := #[.int .i64 x238000_2, .int .i64 x233001_2, .int .i64 x233002_2]) ?_ 1 _ rfl; (with_reducible repeat (first | refine bN ?_ _ | refine bD ?_ | refine bA ?_ _)); refine blk_put (cs := #[.int .i64 x233000_2, .int .i64 x233001_2, .int .i64 x233002_2]) ?_ 0 _ rfl; (with_reducible repeat (first | refine bN ?_ _ | refine bD ?_ | refine bA ?_ _)); exact BK232.out) Try.underlying54 rfl (by kernel_rfl) (.tmp .nil)))) rfl ?_
          exact ⟨_, by first | rfl | (simp [errW_none, errW_some] <;> rfl) | (simp [*, errW_none, errW_some] <;> rfl), by (with_reducible repeat (first | apply rrA | apply rrN | apply rrD)); exact Kd.R_mono (rrF (p := ⟨gb232, 2, none⟩) (rrF (p := ⟨gb232, 1, none⟩) (rrF (p := ⟨gb232, 0, none⟩) (Kd.R_types HO_9.out BK232.out (by decide)) (fun _ hk => hk.2) (.int .i64 x238000_2)) (fun _ hk => hk.2) (.int .i64 x238001_2)) (fun _ hk => hk.2) (.int .i64 x238002_2)) (fun _ hk => trivial), by repeat (first | (with_reducible first | exact HB.out | apply lA | apply lN | apply lD | refine lS ?_ GE231.out | refine lS ?_ GE232.out | refine lS ?_ GE237.out) | exact HB.out)⟩
 ·replace c5 := Bool.eq_false_iff.mpr c5
  subst c5
  have H1 : (some (([] : List Int), 0, 0, 0, 8)) = some (r1, r2, r3, r4, r5) := by rw [if_neg (show ¬ (false = true) by decide)] at H; exact H
  clear H
  have H := H1
  clear H1
  simp only [Option.some.injEq, Prod.mk.injEq] at H
  obtain ⟨rfl, rfl, rfl, rfl, rfl⟩ := H
  go_enter Try.func34, Try.ntmps34
  go_wp2_with (first | ((with_reducible refine gate_dst (N := 3) rfl ?_); refine box_event ?hg (N := 3) ?hd (cs := #[.int .i64 a0_0, .int .i64 a0_1, .int .i64 a0_2, .slice A0_3 l0_3.length c0_3, .slice A0_4 l0_4.length c0_4]) (t := 25) ?hr ?_; (case hd => rfl); (case hg => rfl); (case hr => first | (go_simp; done) | (go_simp; rfl)); intro gb231 hg w102 hbox hb; have hP_ := lQ (by repeat (first | (with_reducible first | exact HB.out | apply lA | apply lN | apply lD) | exact HB.out)) hb; replace HB := aaM hP_.1; have BK231 := aaM (hbox); have GW231 := aaM (gQ hg hP_.2); have GE231 := aaM (gQ hg hP_.2); clear hP_ hb hbox hg) | ((with_reducible refine gate_dst (N := 7) rfl ?_); refine box_event ?hg (N := 7) ?hd (cs := #[.int .i64 0, .int .i64 0, .int .i64 0]) (t := 54) ?hr ?_; (case hd => rfl); (case hg => rfl); (case hr => first | (go_simp; done) | (go_simp; rfl)); intro gb232 hg w103 hbox hb; have hP_ := lQ (by repeat (first | (with_reducible first | exact HB.out | apply lA | apply lN | apply lD | refine lS ?_ GE231.out) | exact HB.out)) hb; replace HB := aaM hP_.1; have BK232 := aaM (hbox); have GW232 := aaM (gQ hg hP_.2); have GE232 := aaM (gQ hg hP_.2); have NB231_232 := aaM (nL hg BK231.out); have NB232_231 := aaM (nL hg BK231.out).symm; replace BK231 := aaM (bX hb BK231.out); clear hP_ hb hbox hg; have hnb104 := NB231_232.out; have hnc104 := NB232_231.out; obtain ⟨hcz105_0, hcz105_1, hcz105_2, hcz105_3, hcz105_4, hfz105_0, hfz105_1, hfz105_2, hfz105_3, hfz105_4⟩ := bE5 BK231.out) | ((with_reducible refine gate_callee (f := 18) rfl ?_); refine goesL_ (some 19) rfl rfl Try.func18 (by kernel_rfl) rfl #[.agg #[.int .i64 a0_0, .int .i64 a0_1, .int .i64 a0_2, .slice A0_3 l0_3.length c0_3, .slice A0_4 l0_4.length c0_4]] rfl (by (try simp only [mmT, mmC, mmN]); first | done | rfl | (simp only [ddD, ddT]; rfl)) ?_; (with_reducible refine (hist_Right.calls a0_0 a0_1 a0_2 _ _ l0_3 _ _ l0_4 false _ ?side1 ?side2 ?side3 ?side4 A4.out).mono ?_); (case side1 => repeat (first | exact (ccB HR0_3.out HB.out) | (with_reducible refine ccA ?_ _) | (with_reducible refine ccN ?_ _) | (with_reducible refine ccD ?_))); (case side2 => exact HC0_3.out); (case side3 => repeat (first | exact (ccB HR0_4.out HB.out) | (with_reducible refine ccA ?_ _) | (with_reducible refine ccN ?_ _) | (with_reducible refine ccD ?_))); (case side4 => exact HC0_4.out); rintro e w106 ⟨rfl, hb⟩; refine ⟨_, rfl, ?_⟩; replace BK231 := aaM (bX hb BK231.out); replace BK232 := aaM (bX hb BK232.out); replace HB := aaM (lP (by repeat (first | (with_reducible first | exact HB.out | apply lA | apply lN | apply lD | refine lS ?_ GE231.out | refine lS ?_ GE232.out) | exact HB.out)) hb); (try clear hb); (try clear hb2); (try clear hk); (try clear hi); obtain ⟨hcz107_0, hcz107_1, hcz107_2, hfz107_0, hfz107_1, hfz107_2⟩ := bE3 BK232.out))
  refine bodyPost_ret (results_list (rs := [.tmp 6, .cell 7 54, .tmp 8]) rfl (by simp) (.tmp (.cell gb232 54 #[.int .i64 0, .int .i64 0, .int .i64 0] (0, 0) _ rfl (by (with_reducible repeat (first | refine bN ?_ _ | refine bD ?_ | refine bA ?_ _)); refine blk_put (cs := #[.int .i64 0, .int .i64 0, .int .i64 0]) ?_ 2 _ rfl; (with_reducible repeat (first | refine bN ?_ _ | refine bD ?_ | refine bA ?_ _)); refine blk_put (cs := #[.int .i64 0, .int .i64 0, .int .i64 0]) ?_ 1 _ rfl; (with_reducible repeat (first | refine bN ?_ _ | refine bD ?_ | refine bA ?_ _)); refine blk_put (cs := #[.int .i64 0, .int .i64 0, .int .i64 0]) ?_ 0 _ rfl; (with_reducible repeat (first | refine bN ?_ _ | refine bD ?_ | refine bA ?_ _)); exact BK232.out) Try.underlying54 rfl (by kernel_rfl) (.tmp .nil)))) rfl ?_
  exact ⟨_, by first | rfl | (simp [errW_none, errW_some] <;> rfl) | (simp [*, errW_none, errW_some] <;> rfl), by first | exact Kd.R_nil _ _ _ _ _ | exact Kd.N_nil _ _ _ _ _ | exact Kd.V_nil _ _ _ _ _ | exact Kd.Q_nil _ _ _ _ _ | exact Kd.S_nil _ _ _ _ _, by repeat (first | (with_reducible first | exact HB.out | apply lA | apply lN | apply lD | refine lS ?_ GE231.out | refine lS ?_ GE232.out) | exact HB.out)⟩

end Go.Proofs.Ytancajnbjmcamaa.QSplitLeaf
