-- Written by a program of this session (wip/tools/mkprint.py over the kit's print); Lean checks it.
import Derived.Test.YtoonddgldmfleaaQSchedPlaysx0
import Derived.Test.YtoonddgldmfleaaQSchedPlaysx2
namespace Go.Proofs.Ytoonddgldmfleaa.QSchedPlays
open Go.RowKit Go.Proofs.YtoonddgldmfleaaW.PrintWords Go.Proofs.YtoonddgldmfleaaW.PrintLast Go.Proofs.YtoonddgldmfleaaW.PrintMore
attribute [local go_sem] max2_int min2_int max_two min_two max_three min_three max_four min_four   -- for this text's walks alone
set_option linter.unusedVariables false
set_option linter.unusedSimpArgs false

/-! ### sched_ready: function 53 -/
mutual
def sched_ready.j0 : Nat → List Int → Bool → Int → Int → Int → List Int → List Bool → Bool → Option (List Int)
 | 0, _, _, _, _, _, _, _, _ => none
 | k + 1, x3, x12, x120000, x120001, x120002, x120003, x120004, x120005 => if x12 = true then (if x3.length < 17592186044416 then (sched_ready.j1 k (x3 ++ [0]) x120000 x120001 x120002 x120003 x120004 x120005) else (none)) else (sched_ready.j1 k x3 x120000 x120001 x120002 x120003 x120004 x120005)
def sched_ready.j1 : Nat → List Int → Int → Int → Int → List Int → List Bool → Bool → Option (List Int)
 | 0, _, _, _, _, _, _, _ => none
 | k + 1, x3, x120000, x120001, x120002, x120003, x120004, x120005 => sched_ready.l0 k x3 x120003 (x120003.length : Int) 0
def sched_ready.l0 : Nat → List Int → List Int → Int → Int → Option (List Int)
 | 0, _, _, _, _ => none
 | k + 1, x3, x17, x18, x19 => if x19 < x18 then (if 0 ≤ x19 then (if x19 < (x17.length : Int) then (if (rd x17 x19) = (-2) then (sched_ready.l0 k x3 x17 x18 (wrap64 (x19 + 1))) else (if x3.length < 17592186044416 then (sched_ready.l0 k (x3 ++ [wrap64 (x19 + 1)]) x17 x18 (wrap64 (x19 + 1))) else (none))) else (none)) else (none)) else (some x3)
end
def sched_ready.f (k : Nat) (a0_0 : Int) (a0_1 : Int) (a0_2 : Int) (l0_3 : List Int) (l0_4 : List Bool) (a0_5 : Bool) : Option (List Int) := (sched_over.f k a0_0 a0_1 a0_2 l0_3 l0_4 a0_5).bind fun t120 => (if t120 = true then (sched_ready.j0 k ([] : List Int) (!a0_5) a0_0 a0_1 a0_2 l0_3 l0_4 a0_5) else (sched_ready.j0 k ([] : List Int) false a0_0 a0_1 a0_2 l0_3 l0_4 a0_5))
theorem sched_ready.mono_l : ∀ k, (∀ y0 y1 y2 y3 y4 y5 y6 y7, LeO (sched_ready.j0 k y0 y1 y2 y3 y4 y5 y6 y7) (sched_ready.j0 (k + 1) y0 y1 y2 y3 y4 y5 y6 y7)) ∧ (∀ y0 y1 y2 y3 y4 y5 y6, LeO (sched_ready.j1 k y0 y1 y2 y3 y4 y5 y6) (sched_ready.j1 (k + 1) y0 y1 y2 y3 y4 y5 y6)) ∧ (∀ y0 y1 y2 y3, LeO (sched_ready.l0 k y0 y1 y2 y3) (sched_ready.l0 (k + 1) y0 y1 y2 y3))
 | 0 => ⟨fun _ _ _ _ _ _ _ _ r h => by simp [sched_ready.j0] at h, fun _ _ _ _ _ _ _ r h => by simp [sched_ready.j1] at h, fun _ _ _ _ r h => by simp [sched_ready.l0] at h⟩
 | k + 1 => by
  obtain ⟨ih0, ih1, ih2⟩ := sched_ready.mono_l k
  refine ⟨?_, ?_, ?_⟩
  ·intro y0 y1 y2 y3 y4 y5 y6 y7
   unfold sched_ready.j0
   repeat' first
   | (with_reducible exact ih0 _ _ _ _ _ _ _ _)
   | (with_reducible exact ih1 _ _ _ _ _ _ _)
   | (with_reducible exact ih2 _ _ _ _)
   | (with_reducible exact sched_over.mono _ _ _ _ _ _ _)
   | (with_reducible exact LeO.refl _)
   | (with_reducible exact LeO.none _)
   | (with_reducible refine LeO.ite ?_ ?_)
   | (with_reducible refine LeO.bind ?_ (fun _ => ?_))
   | exact ih0 _ _ _ _ _ _ _ _
   | exact ih1 _ _ _ _ _ _ _
   | exact ih2 _ _ _ _
   | exact sched_over.mono _ _ _ _ _ _ _
   | exact LeO.none _
   | refine LeO.ite ?_ ?_
   | refine LeO.bind ?_ (fun _ => ?_)
  ·intro y0 y1 y2 y3 y4 y5 y6
   unfold sched_ready.j1
   repeat' first
   | (with_reducible exact ih0 _ _ _ _ _ _ _ _)
   | (with_reducible exact ih1 _ _ _ _ _ _ _)
   | (with_reducible exact ih2 _ _ _ _)
   | (with_reducible exact sched_over.mono _ _ _ _ _ _ _)
   | (with_reducible exact LeO.refl _)
   | (with_reducible exact LeO.none _)
   | (with_reducible refine LeO.ite ?_ ?_)
   | (with_reducible refine LeO.bind ?_ (fun _ => ?_))
   | exact ih0 _ _ _ _ _ _ _ _
   | exact ih1 _ _ _ _ _ _ _
   | exact ih2 _ _ _ _
   | exact sched_over.mono _ _ _ _ _ _ _
   | exact LeO.none _
   | refine LeO.ite ?_ ?_
   | refine LeO.bind ?_ (fun _ => ?_)
  ·intro y0 y1 y2 y3
   unfold sched_ready.l0
   repeat' first
   | (with_reducible exact ih0 _ _ _ _ _ _ _ _)
   | (with_reducible exact ih1 _ _ _ _ _ _ _)
   | (with_reducible exact ih2 _ _ _ _)
   | (with_reducible exact sched_over.mono _ _ _ _ _ _ _)
   | (with_reducible exact LeO.refl _)
   | (with_reducible exact LeO.none _)
   | (with_reducible refine LeO.ite ?_ ?_)
   | (with_reducible refine LeO.bind ?_ (fun _ => ?_))
   | exact ih0 _ _ _ _ _ _ _ _
   | exact ih1 _ _ _ _ _ _ _
   | exact ih2 _ _ _ _
   | exact sched_over.mono _ _ _ _ _ _ _
   | exact LeO.none _
   | refine LeO.ite ?_ ?_
   | refine LeO.bind ?_ (fun _ => ?_)
theorem sched_ready.mono : ∀ a0 a1 a2 a3 a4 a5 k, LeO (sched_ready.f k a0 a1 a2 a3 a4 a5) (sched_ready.f (k + 1) a0 a1 a2 a3 a4 a5) := by
 intro a0 a1 a2 a3 a4 a5 k
 obtain ⟨ih0, ih1, ih2⟩ := sched_ready.mono_l k
 unfold sched_ready.f
 repeat' first
   | (with_reducible exact ih0 _ _ _ _ _ _ _ _)
   | (with_reducible exact ih1 _ _ _ _ _ _ _)
   | (with_reducible exact ih2 _ _ _ _)
   | (with_reducible exact sched_over.mono _ _ _ _ _ _ _)
   | (with_reducible exact LeO.refl _)
   | (with_reducible exact LeO.none _)
   | (with_reducible refine LeO.ite ?_ ?_)
   | (with_reducible refine LeO.bind ?_ (fun _ => ?_))
   | exact ih0 _ _ _ _ _ _ _ _
   | exact ih1 _ _ _ _ _ _ _
   | exact ih2 _ _ _ _
   | exact sched_over.mono _ _ _ _ _ _ _
   | exact LeO.none _
   | refine LeO.ite ?_ ?_
   | refine LeO.bind ?_ (fun _ => ?_)
set_option maxHeartbeats 8000000 in
set_option maxRecDepth 100000 in
theorem sched_ready.calls (k : Nat) (a0_0 : Int) (a0_1 : Int) (a0_2 : Int) (A0_3 : Option Addr) (c0_3 : Nat) (l0_3 : List Int) (A0_4 : Option Addr) (c0_4 : Nat) (l0_4 : List Bool) (a0_5 : Bool) (r : List Int) (w : World) (hr0_3 : Kd.C (Kd.int .i64) w A0_3 l0_3.length l0_3) (hc0_3 : l0_3.length ≤ c0_3) (hr0_4 : Kd.C Kd.bool w A0_4 l0_4.length l0_4) (hc0_4 : l0_4.length ≤ c0_4) (h : sched_ready.f k a0_0 a0_1 a0_2 l0_3 l0_4 a0_5 = some r) :
  Calls Try.prog 53 #[.agg #[.int .i64 a0_0, .int .i64 a0_1, .int .i64 a0_2, .slice A0_3 l0_3.length c0_3, .slice A0_4 l0_4.length c0_4, .bool a0_5]] w fun e w' => ∃ v0_ : Value, e = .returned (v0_) ∧ Kd.R (Kd.int .i64) 3 w' w.heap.size (fun _ => True) v0_ r ∧ Below w.heap.size w w' := by
 have hu42 := Try.underlying42
 have HR0_3 := aaM hr0_3
 have HC0_3 := aaM hc0_3
 clear hr0_3 hc0_3
 have HR0_4 := aaM hr0_4
 have HC0_4 := aaM hc0_4
 clear hr0_4 hc0_4
 have HB := aaM (Below.refl w.heap.size w)
 have H : ((sched_over.f k a0_0 a0_1 a0_2 l0_3 l0_4 a0_5).bind fun t120 => (if t120 = true then (sched_ready.j0 k ([] : List Int) (!a0_5) a0_0 a0_1 a0_2 l0_3 l0_4 a0_5) else (sched_ready.j0 k ([] : List Int) false a0_0 a0_1 a0_2 l0_3 l0_4 a0_5))) = some r := h
 clear h
 have HC2 := aaM H
 clear H
 go_enter Try.func53, Try.ntmps53
 go_upto_region 2 with (first | ((with_reducible refine gate_dst (N := 1) rfl ?_); refine box_event ?hg (N := 1) ?hd (cs := #[.int .i64 a0_0, .int .i64 a0_1, .int .i64 a0_2, .slice A0_3 l0_3.length c0_3, .slice A0_4 l0_4.length c0_4, .bool a0_5]) (t := 42) ?hr ?_; (case hd => rfl); (case hg => rfl); (case hr => first | (go_simp; done) | (go_simp; rfl)); intro gb119 hg w3 hbox hb; have n0_ := aaM (lP (by repeat (first | (with_reducible first | exact HB.out | apply lA | apply lN | apply lD) | exact HB.out)) hb); have n1_ := aaM (hbox); have n2_ := aaM ((by rw [hg]; exact (lZ (by repeat (first | (with_reducible first | exact HB.out | apply lA | apply lN | apply lD) | exact HB.out))) : w.heap.size ≤ gb119)); have n3_ := aaM ((by rw [hg]; exact (lZ (by repeat (first | (with_reducible first | exact HB.out | apply lA | apply lN | apply lD) | exact HB.out))) : w.heap.size ≤ gb119)); clear HB; have HB := n0_; have BK119 := n1_; have GW119 := n2_; have GE119 := n3_; clear n0_ n1_ n2_ n3_; clear hb hbox hg))
 (try simp only [Act.put, ssB, ssZ, ssS])
 go_cut [12] (fun v12 wc => ∃ (kq : Nat) (x12_1 : Bool), v12 = .bool x12_1 ∧ Aside0 (sched_ready.j0 kq ([] : List Int) x12_1 a0_0 a0_1 a0_2 l0_3 l0_4 a0_5 = some r) ∧ Aside0 (kq ≤ k) ∧ Aside0 (Kd.R (Kd.int .i64) 3 wc w.heap.size (fun _ => True) (.slice none 0 0) ([] : List Int)) ∧ Aside0 (wc.heap[gb119]? = some (.cells #[.int .i64 a0_0, .int .i64 a0_1, .int .i64 a0_2, (.slice A0_3 l0_3.length c0_3), (.slice A0_4 l0_4.length c0_4), .bool a0_5] 42 (0, 0))) ∧ Aside0 (Below w.heap.size w wc))
 case first =>
  have H := HC2.out
  clear HC2
  replace H := ooB.mp H
  obtain ⟨t120, A40, H⟩ := H
  replace H : (if t120 = true then (sched_ready.j0 k ([] : List Int) (!a0_5) a0_0 a0_1 a0_2 l0_3 l0_4 a0_5) else (sched_ready.j0 k ([] : List Int) false a0_0 a0_1 a0_2 l0_3 l0_4 a0_5)) = some r := H
  have A4 := aaM A40
  clear A40
  by_cases c5 : t120 = true
  ·subst c5
   have H1 : (sched_ready.j0 k ([] : List Int) (!a0_5) a0_0 a0_1 a0_2 l0_3 l0_4 a0_5) = some r := by rw [if_pos rfl] at H; exact H
   clear H
   have H := H1
   clear H1
   have H' := aaM H
   clear H
   have hcz6_0 : w3.cell? ⟨gb119, 0, none⟩ = some (.int .i64 a0_0) := (bC BK119.out 0).trans rfl
   have hcz6_1 : w3.cell? ⟨gb119, 1, none⟩ = some (.int .i64 a0_1) := (bC BK119.out 1).trans rfl
   have hcz6_2 : w3.cell? ⟨gb119, 2, none⟩ = some (.int .i64 a0_2) := (bC BK119.out 2).trans rfl
   have hcz6_3 : w3.cell? ⟨gb119, 3, none⟩ = some (.slice A0_3 l0_3.length c0_3) := (bC BK119.out 3).trans rfl
   have hcz6_4 : w3.cell? ⟨gb119, 4, none⟩ = some (.slice A0_4 l0_4.length c0_4) := (bC BK119.out 4).trans rfl
   have hcz6_5 : w3.cell? ⟨gb119, 5, none⟩ = some (.bool a0_5) := (bC BK119.out 5).trans rfl
   have hfz6_0 := bF BK119.out 0
   have hfz6_1 := bF BK119.out 1
   have hfz6_2 := bF BK119.out 2
   have hfz6_3 := bF BK119.out 3
   have hfz6_4 := bF BK119.out 4
   have hfz6_5 := bF BK119.out 5
   go_wp2_with (first | ((with_reducible refine gate_callee (f := 66) rfl ?_); refine goesL_ (some 7) rfl rfl Try.func66 (by kernel_rfl) rfl #[.agg #[.int .i64 a0_0, .int .i64 a0_1, .int .i64 a0_2, .slice A0_3 l0_3.length c0_3, .slice A0_4 l0_4.length c0_4, .bool a0_5]] rfl (by (try simp only [List.map_toArray, List.map_cons, List.map_nil]); first | done | rfl | (simp only [List.length_drop, List.length_take]; rfl)) ?_; (with_reducible refine (sched_over.calls k a0_0 a0_1 a0_2 _ _ l0_3 _ _ l0_4 a0_5 true _ ?side1 ?side2 ?side3 ?side4 A4.out).mono ?_); (case side1 => repeat (first | exact (ccB HR0_3.out HB.out) | (with_reducible refine ccA ?_ _) | (with_reducible refine ccN ?_ _) | (with_reducible refine ccD ?_))); (case side2 => exact HC0_3.out); (case side3 => repeat (first | exact (ccB HR0_4.out HB.out) | (with_reducible refine ccA ?_ _) | (with_reducible refine ccN ?_ _) | (with_reducible refine ccD ?_))); (case side4 => exact HC0_4.out); rintro e w7 ⟨rfl, hb⟩; refine ⟨_, rfl, ?_⟩; have n0_ := aaM (bB (g := gb119) (o := .cells #[.int .i64 a0_0, .int .i64 a0_1, .int .i64 a0_2, .slice A0_3 l0_3.length c0_3, .slice A0_4 l0_4.length c0_4, .bool a0_5] 42 (0, 0)) (by (with_reducible repeat (first | refine bN ?_ _ | refine bD ?_ | refine bA ?_ _)); exact BK119.out) hb); have n1_ := aaM (lP (by repeat (first | (with_reducible first | exact HB.out | apply lA | apply lN | apply lD | refine lS ?_ GE119.out) | exact HB.out)) hb); clear BK119; clear HB; have BK119 := n0_; have HB := n1_; clear n0_ n1_; (try clear hb); (try clear hb2); (try clear hk); (try clear hi); have hcz8_0 : w7.cell? ⟨gb119, 0, none⟩ = some (.int .i64 a0_0) := (bC BK119.out 0).trans rfl; have hcz8_1 : w7.cell? ⟨gb119, 1, none⟩ = some (.int .i64 a0_1) := (bC BK119.out 1).trans rfl; have hcz8_2 : w7.cell? ⟨gb119, 2, none⟩ = some (.int .i64 a0_2) := (bC BK119.out 2).trans rfl; have hcz8_3 : w7.cell? ⟨gb119, 3, none⟩ = some (.slice A0_3 l0_3.length c0_3) := (bC BK119.out 3).trans rfl; have hcz8_4 : w7.cell? ⟨gb119, 4, none⟩ = some (.slice A0_4 l0_4.length c0_4) := (bC BK119.out 4).trans rfl; have hcz8_5 : w7.cell? ⟨gb119, 5, none⟩ = some (.bool a0_5) := (bC BK119.out 5).trans rfl; have hfz8_0 := bF BK119.out 0; have hfz8_1 := bF BK119.out 1; have hfz8_2 := bF BK119.out 2; have hfz8_3 := bF BK119.out 3; have hfz8_4 := bF BK119.out 4; have hfz8_5 := bF BK119.out 5))
   go_meet
   case rel => exact ⟨_, (!a0_5), (by first | rfl | (simp; done) | (simp [*]; done)), H', ⟨by first | omega | exact Nat.le_refl _⟩, ⟨by first | exact Kd.R_nil _ _ _ _ _ | exact Kd.N_nil _ _ _ _ _ | exact Kd.V_nil _ _ _ _ _ | exact Kd.Q_nil _ _ _ _ _ | exact Kd.S_nil _ _ _ _ _⟩, ⟨by (with_reducible repeat (first | refine bN ?_ _ | refine bD ?_ | refine bA ?_ _)); exact BK119.out⟩, ⟨by repeat (first | (with_reducible first | exact HB.out | apply lA | apply lN | apply lD | refine lS ?_ GE119.out) | exact HB.out)⟩⟩
  ·replace c5 := Bool.eq_false_iff.mpr c5
   subst c5
   have H1 : (sched_ready.j0 k ([] : List Int) false a0_0 a0_1 a0_2 l0_3 l0_4 a0_5) = some r := by rw [if_neg (show ¬ (false = true) by decide)] at H; exact H
   clear H
   have H := H1
   clear H1
   have H' := aaM H
   clear H
   have hcz9_0 : w3.cell? ⟨gb119, 0, none⟩ = some (.int .i64 a0_0) := (bC BK119.out 0).trans rfl
   have hcz9_1 : w3.cell? ⟨gb119, 1, none⟩ = some (.int .i64 a0_1) := (bC BK119.out 1).trans rfl
   have hcz9_2 : w3.cell? ⟨gb119, 2, none⟩ = some (.int .i64 a0_2) := (bC BK119.out 2).trans rfl
   have hcz9_3 : w3.cell? ⟨gb119, 3, none⟩ = some (.slice A0_3 l0_3.length c0_3) := (bC BK119.out 3).trans rfl
   have hcz9_4 : w3.cell? ⟨gb119, 4, none⟩ = some (.slice A0_4 l0_4.length c0_4) := (bC BK119.out 4).trans rfl
   have hcz9_5 : w3.cell? ⟨gb119, 5, none⟩ = some (.bool a0_5) := (bC BK119.out 5).trans rfl
   have hfz9_0 := bF BK119.out 0
   have hfz9_1 := bF BK119.out 1
   have hfz9_2 := bF BK119.out 2
   have hfz9_3 := bF BK119.out 3
   have hfz9_4 := bF BK119.out 4
   have hfz9_5 := bF BK119.out 5
   go_wp2_with (first | ((with_reducible refine gate_callee (f := 66) rfl ?_); refine goesL_ (some 7) rfl rfl Try.func66 (by kernel_rfl) rfl #[.agg #[.int .i64 a0_0, .int .i64 a0_1, .int .i64 a0_2, .slice A0_3 l0_3.length c0_3, .slice A0_4 l0_4.length c0_4, .bool a0_5]] rfl (by (try simp only [List.map_toArray, List.map_cons, List.map_nil]); first | done | rfl | (simp only [List.length_drop, List.length_take]; rfl)) ?_; (with_reducible refine (sched_over.calls k a0_0 a0_1 a0_2 _ _ l0_3 _ _ l0_4 a0_5 false _ ?side1 ?side2 ?side3 ?side4 A4.out).mono ?_); (case side1 => repeat (first | exact (ccB HR0_3.out HB.out) | (with_reducible refine ccA ?_ _) | (with_reducible refine ccN ?_ _) | (with_reducible refine ccD ?_))); (case side2 => exact HC0_3.out); (case side3 => repeat (first | exact (ccB HR0_4.out HB.out) | (with_reducible refine ccA ?_ _) | (with_reducible refine ccN ?_ _) | (with_reducible refine ccD ?_))); (case side4 => exact HC0_4.out); rintro e w10 ⟨rfl, hb⟩; refine ⟨_, rfl, ?_⟩; have n0_ := aaM (bB (g := gb119) (o := .cells #[.int .i64 a0_0, .int .i64 a0_1, .int .i64 a0_2, .slice A0_3 l0_3.length c0_3, .slice A0_4 l0_4.length c0_4, .bool a0_5] 42 (0, 0)) (by (with_reducible repeat (first | refine bN ?_ _ | refine bD ?_ | refine bA ?_ _)); exact BK119.out) hb); have n1_ := aaM (lP (by repeat (first | (with_reducible first | exact HB.out | apply lA | apply lN | apply lD | refine lS ?_ GE119.out) | exact HB.out)) hb); clear BK119; clear HB; have BK119 := n0_; have HB := n1_; clear n0_ n1_; (try clear hb); (try clear hb2); (try clear hk); (try clear hi)))
   go_meet
   case rel => exact ⟨_, (false), (by first | rfl | (simp; done) | (simp [*]; done)), H', ⟨by first | omega | exact Nat.le_refl _⟩, ⟨by first | exact Kd.R_nil _ _ _ _ _ | exact Kd.N_nil _ _ _ _ _ | exact Kd.V_nil _ _ _ _ _ | exact Kd.Q_nil _ _ _ _ _ | exact Kd.S_nil _ _ _ _ _⟩, ⟨by (with_reducible repeat (first | refine bN ?_ _ | refine bD ?_ | refine bA ?_ _)); exact BK119.out⟩, ⟨by repeat (first | (with_reducible first | exact HB.out | apply lA | apply lN | apply lD | refine lS ?_ GE119.out) | exact HB.out)⟩⟩
 case rest =>
  clear HC2
  try clear p2
  try clear c5
  try clear c6
  try clear hcz6_0
  try clear hcz6_1
  try clear hcz6_2
  try clear hcz6_3
  try clear hcz6_4
  try clear hcz6_5
  try clear hcz8_0
  try clear hcz8_1
  try clear hcz8_2
  try clear hcz8_3
  try clear hcz8_4
  try clear hcz8_5
  try clear hcz9_0
  try clear hcz9_1
  try clear hcz9_2
  try clear hcz9_3
  try clear hcz9_4
  try clear hcz9_5
  try clear hfz6_0
  try clear hfz6_1
  try clear hfz6_2
  try clear hfz6_3
  try clear hfz6_4
  try clear hfz6_5
  try clear hfz8_0
  try clear hfz8_1
  try clear hfz8_2
  try clear hfz8_3
  try clear hfz8_4
  try clear hfz8_5
  try clear hfz9_0
  try clear hfz9_1
  try clear hfz9_2
  try clear hfz9_3
  try clear hfz9_4
  try clear hfz9_5
  obtain ⟨kq, x12_1, rfl, HA, HJ1, HO_3, BK119, HB⟩ := hcut
  cases kq with
  | zero => exact absurd HA.out (by simp [sched_ready.j0])
  | succ kj1 =>
   have H := HA.out
   clear HA
   simp only [sched_ready.j0] at H
   have HC11 := aaM H
   clear H
   go_upto_if 12 with (fail)
   go_cut [3] (fun v3 wc => ∃ (kq : Nat) (x3_10 : List Int), Aside0 (sched_ready.j1 kq x3_10 a0_0 a0_1 a0_2 l0_3 l0_4 a0_5 = some r) ∧ Aside0 (kq ≤ kj1) ∧ Aside0 (Kd.R (Kd.int .i64) 3 wc w.heap.size (fun _ => True) v3 x3_10) ∧ Aside0 (wc.heap[gb119]? = some (.cells #[.int .i64 a0_0, .int .i64 a0_1, .int .i64 a0_2, (.slice A0_3 l0_3.length c0_3), (.slice A0_4 l0_4.length c0_4), .bool a0_5] 42 (0, 0))) ∧ Aside0 (Below w.heap.size w wc))
   case first =>
    have H := HC11.out
    clear HC11
    by_cases c12 : x12_1 = true
    ·subst c12
     have H1 : (if ([] : List Int).length < 17592186044416 then (sched_ready.j1 kj1 (([] : List Int) ++ [0]) a0_0 a0_1 a0_2 l0_3 l0_4 a0_5) else (none)) = some r := by rw [if_pos rfl] at H; exact H
     clear H
     have H := H1
     clear H1
     by_cases c13 : ([] : List Int).length < 17592186044416
     ·rw [if_pos c13] at H
      have LMc13 := aaM c13
      clear c13
      obtain ⟨y121, hy121⟩ : ∃ y_ : List Int, y_ = (([] : List Int) ++ [0]) := ⟨_, rfl⟩
      replace H : (sched_ready.j1 kj1 y121 a0_0 a0_1 a0_2 l0_3 l0_4 a0_5) = some r := by first | (rw [hy121]; with_reducible exact H) | (have H2_ := (Option.bind_some _ _).symm.trans H; rw [hy121]; with_reducible exact H2_) | (have H2_ := (Option.bind_some _ _).symm.trans H; with_reducible exact H2_) | with_reducible exact H | (rw [hy121]; exact H) | exact H
      have Ny121 := aaM hy121
      clear hy121
      have H' := aaM H
      clear H
      go_wp2_with (first | ((with_reducible refine gate_builtin (b := .append) (xs := #[.tmp 13, .tmp 14]) rfl ?_); at_builtin; refine Kd.R_append (Kd.int .i64) (w0 := w) w.heap.size rfl (.tmp 13) (.tmp 14) 38 3 (.int .i64 0) 8 rfl Try.underlying38 info3 rfl (by decide) (by omega) (.slice none 0 0) ([] : List Int) 0 [.int .i64 0] (fun _ => True) (fun _ => False) rfl rfl ?aP (fun _ hk => hk.elim) ?aF ?aO ?aB ?aS ?aL ?_; (case aP => exact rfl); (case aB => exact (by repeat (first | (with_reducible first | exact HB.out | apply lA | apply lN | apply lD | refine lS ?_ GE119.out) | exact HB.out))); (case aF => exact (fun _ _ => trivial)); (case aO => exact (by (with_reducible repeat (first | apply rrA | apply rrN | apply rrD)); exact HO_3.out)); (case aS => exact (lZ (by repeat (first | (with_reducible first | exact HB.out | apply lA | apply lN | apply lD | refine lS ?_ GE119.out) | exact HB.out)))); (case aL => have := LMc13.out; omega); intro v122 w14 ho hb hg hat; rw [← Ny121.out] at ho; have n0_ := aaM (blk_grown (g := gb119) (by (with_reducible repeat (first | refine bN ?_ _ | refine bD ?_ | refine bA ?_ _)); exact BK119.out) hg (Kd.R_ne HO_3.out BK119.out (by decide))); have n1_ := aaM (hb); have n2_ := aaM (ho); clear BK119; clear HB; clear HO_3; have BK119 := n0_; have HB := n1_; have HO123 := n2_; clear n0_ n1_ n2_; clear ho hb hg hat))
      go_meet
      case rel => exact ⟨_, (y121), H', ⟨by have := HJ1.out; first | omega | exact Nat.le_refl _⟩, ⟨by (with_reducible repeat (first | apply rrA | apply rrN | apply rrD)); exact HO123.out⟩, ⟨by (with_reducible repeat (first | refine bN ?_ _ | refine bD ?_ | refine bA ?_ _)); exact BK119.out⟩, ⟨by repeat (first | (with_reducible first | exact HB.out | apply lA | apply lN | apply lD | refine lS ?_ GE119.out) | exact HB.out)⟩⟩
     ·rw [if_neg c13] at H
      exact absurd H (by simp)
    ·replace c12 := Bool.eq_false_iff.mpr c12
     subst c12
     have H1 : (sched_ready.j1 kj1 ([] : List Int) a0_0 a0_1 a0_2 l0_3 l0_4 a0_5) = some r := by rw [if_neg (show ¬ (false = true) by decide)] at H; exact H
     clear H
     have H := H1
     clear H1
     have H' := aaM H
     clear H
     go_wp2
     go_meet
     case rel => exact ⟨_, (([] : List Int)), H', ⟨by have := HJ1.out; first | omega | exact Nat.le_refl _⟩, ⟨by (with_reducible repeat (first | apply rrA | apply rrN | apply rrD)); exact HO_3.out⟩, ⟨by (with_reducible repeat (first | refine bN ?_ _ | refine bD ?_ | refine bA ?_ _)); exact BK119.out⟩, ⟨by repeat (first | (with_reducible first | exact HB.out | apply lA | apply lN | apply lD | refine lS ?_ GE119.out) | exact HB.out)⟩⟩
   case rest =>
    clear HC11
    try clear c1
    try clear p2
    try clear c5
    try clear c6
    try clear c12
    try clear c13
    try clear hcz6_0
    try clear hcz6_1
    try clear hcz6_2
    try clear hcz6_3
    try clear hcz6_4
    try clear hcz6_5
    try clear hcz8_0
    try clear hcz8_1
    try clear hcz8_2
    try clear hcz8_3
    try clear hcz8_4
    try clear hcz8_5
    try clear hcz9_0
    try clear hcz9_1
    try clear hcz9_2
    try clear hcz9_3
    try clear hcz9_4
    try clear hcz9_5
    try clear hfz6_0
    try clear hfz6_1
    try clear hfz6_2
    try clear hfz6_3
    try clear hfz6_4
    try clear hfz6_5
    try clear hfz8_0
    try clear hfz8_1
    try clear hfz8_2
    try clear hfz8_3
    try clear hfz8_4
    try clear hfz8_5
    try clear hfz9_0
    try clear hfz9_1
    try clear hfz9_2
    try clear hfz9_3
    try clear hfz9_4
    try clear hfz9_5
    try clear p2
    obtain ⟨kq, x3_10, HA, HJ10, HO_3, BK119, HB⟩ := hcut
    cases kq with
    | zero => exact absurd HA.out (by simp [sched_ready.j1])
    | succ kj10 =>
     have H := HA.out
     clear HA
     simp only [sched_ready.j1] at H
     have H' := aaM H
     clear H
     have hcz15_0 : wc.cell? ⟨gb119, 0, none⟩ = some (.int .i64 a0_0) := (bC BK119.out 0).trans rfl
     have hcz15_1 : wc.cell? ⟨gb119, 1, none⟩ = some (.int .i64 a0_1) := (bC BK119.out 1).trans rfl
     have hcz15_2 : wc.cell? ⟨gb119, 2, none⟩ = some (.int .i64 a0_2) := (bC BK119.out 2).trans rfl
     have hcz15_3 : wc.cell? ⟨gb119, 3, none⟩ = some (.slice A0_3 l0_3.length c0_3) := (bC BK119.out 3).trans rfl
     have hcz15_4 : wc.cell? ⟨gb119, 4, none⟩ = some (.slice A0_4 l0_4.length c0_4) := (bC BK119.out 4).trans rfl
     have hcz15_5 : wc.cell? ⟨gb119, 5, none⟩ = some (.bool a0_5) := (bC BK119.out 5).trans rfl
     have hfz15_0 := bF BK119.out 0
     have hfz15_1 := bF BK119.out 1
     have hfz15_2 := bF BK119.out 2
     have hfz15_3 := bF BK119.out 3
     have hfz15_4 := bF BK119.out 4
     have hfz15_5 := bF BK119.out 5
     go_wp2
     go_loopg [3, 19] kj10 (fun kq v3 v19 w' => ∃ (x3_3 : List Int) (x19_3 : Int), v19 = .int .i64 x19_3 ∧ Aside0 (sched_ready.l0 kq x3_3 l0_3 (l0_3.length : Int) x19_3 = some r) ∧ Aside0 (kq ≤ kj10) ∧ Aside0 (Kd.R (Kd.int .i64) 3 w' w.heap.size (fun _ => True) v3 x3_3) ∧ Aside0 (w'.heap[gb119]? = some (.cells #[.int .i64 a0_0, .int .i64 a0_1, .int .i64 a0_2, (.slice A0_3 l0_3.length c0_3), (.slice A0_4 l0_4.length c0_4), .bool a0_5] 42 (0, 0))) ∧ Aside0 (Below w.heap.size w w'))
     case atStart => exact ⟨(x3_10), (0), (by first | rfl | (simp; done) | (simp [*]; done)), H', ⟨Nat.le_refl _⟩, ⟨by (with_reducible repeat (first | apply rrA | apply rrN | apply rrD)); exact HO_3.out⟩, ⟨by (with_reducible repeat (first | refine bN ?_ _ | refine bD ?_ | refine bA ?_ _)); exact BK119.out⟩, ⟨by repeat (first | (with_reducible first | exact HB.out | apply lA | apply lN | apply lD | refine lS ?_ GE119.out) | exact HB.out)⟩⟩
     case round =>
      clear H'
      try clear c1
      try clear p2
      try clear c5
      try clear c6
      try clear c12
      try clear c13
      try clear hcz15_0
      try clear hcz15_1
      try clear hcz15_2
      try clear hcz15_3
      try clear hcz15_4
      try clear hcz15_5
      try clear hcz6_0
      try clear hcz6_1
      try clear hcz6_2
      try clear hcz6_3
      try clear hcz6_4
      try clear hcz6_5
      try clear hcz8_0
      try clear hcz8_1
      try clear hcz8_2
      try clear hcz8_3
      try clear hcz8_4
      try clear hcz8_5
      try clear hcz9_0
      try clear hcz9_1
      try clear hcz9_2
      try clear hcz9_3
      try clear hcz9_4
      try clear hcz9_5
      try clear hfz15_0
      try clear hfz15_1
      try clear hfz15_2
      try clear hfz15_3
      try clear hfz15_4
      try clear hfz15_5
      try clear hfz6_0
      try clear hfz6_1
      try clear hfz6_2
      try clear hfz6_3
      try clear hfz6_4
      try clear hfz6_5
      try clear hfz8_0
      try clear hfz8_1
      try clear hfz8_2
      try clear hfz8_3
      try clear hfz8_4
      try clear hfz8_5
      try clear hfz9_0
      try clear hfz9_1
      try clear hfz9_2
      try clear hfz9_3
      try clear hfz9_4
      try clear hfz9_5
      try clear p2
      obtain ⟨x3_3, x19_3, rfl, HA, HK3, HO_3, BK119, HB⟩ := hrel
      cases gk with
      | zero => exact absurd HA.out (by simp [sched_ready.l0])
      | succ k3 =>
       have H := HA.out
       clear HA
       simp only [sched_ready.l0] at H
       by_cases c16 : x19_3 < (l0_3.length : Int)
       ·rw [if_pos c16] at H
        have c16b0 : decide (x19_3 < (l0_3.length : Int)) = true := decide_eq_true c16
        clear c16
        by_cases c17 : 0 ≤ x19_3
        ·rw [if_pos c17] at H
         have c17b0 : decide (0 ≤ x19_3) = true := decide_eq_true c17
         clear c17
         by_cases c18 : x19_3 < (l0_3.length : Int)
         ·rw [if_pos c18] at H
          have c18b0 : decide (x19_3 < (l0_3.length : Int)) = true := decide_eq_true c18
          clear c18
          by_cases c19 : (rd l0_3 x19_3) = (-2)
          ·rw [if_pos c19] at H
           have c19b0 : ((rd l0_3 x19_3) == (-2)) = true := beq_iff_eq.mpr c19
           have c19b1 : ((rd l0_3 x19_3) != (-2)) = false := bne_eq_false_iff_eq.mpr c19
           clear c19
           have H' := aaM H
           clear H
           have p124 : 0 ≤ (x19_3 : Int) := of_decide_eq_true (by first | (with_reducible assumption) | assumption)
           have q124 : x19_3 < (l0_3.length : Int) := of_decide_eq_true (by first | (with_reducible assumption) | assumption)
           obtain ⟨ad124, e124, hx124_0⟩ := Kd.at_int HR0_3.out x19_3 p124 q124
           cases e124
           replace hx124_0 := (HB.out.cell (World.block_lt_of_cell? w _ hx124_0)).trans hx124_0
           replace p124 := eq_true p124
           replace q124 := eq_true q124
           go_wp2
           go_roundg k3
           case measure => have := HJ1.out; have := HJ10.out; have := HK3.out; omega
           case rel => exact ⟨(x3_3), (wrap64 (x19_3 + 1)), (by first | rfl | (simp; done) | (simp [*]; done)), H', ⟨by have := HJ1.out; have := HJ10.out; have := HK3.out; omega⟩, ⟨by (with_reducible repeat (first | apply rrA | apply rrN | apply rrD)); exact HO_3.out⟩, ⟨by (with_reducible repeat (first | refine bN ?_ _ | refine bD ?_ | refine bA ?_ _)); exact BK119.out⟩, ⟨by repeat (first | (with_reducible first | exact HB.out | apply lA | apply lN | apply lD | refine lS ?_ GE119.out) | exact HB.out)⟩⟩
          ·rw [if_neg c19] at H
           have c19b0 : ((rd l0_3 x19_3) == (-2)) = false := beq_eq_false_iff_ne.mpr c19
           have c19b1 : ((rd l0_3 x19_3) != (-2)) = true := bne_iff_ne.mpr c19
           by_cases c20 : x3_3.length < 17592186044416
           ·rw [if_pos c20] at H
            have LMc20 := aaM c20
            clear c20
            obtain ⟨y125, hy125⟩ : ∃ y_ : List Int, y_ = (x3_3 ++ [wrap64 (x19_3 + 1)]) := ⟨_, rfl⟩
            replace H : (sched_ready.l0 k3 y125 l0_3 (l0_3.length : Int) (wrap64 (x19_3 + 1))) = some r := by first | (rw [hy125]; with_reducible exact H) | (have H2_ := (Option.bind_some _ _).symm.trans H; rw [hy125]; with_reducible exact H2_) | (have H2_ := (Option.bind_some _ _).symm.trans H; with_reducible exact H2_) | with_reducible exact H | (rw [hy125]; exact H) | exact H
            have Ny125 := aaM hy125
            clear hy125
            have H' := aaM H
            clear H
            have p124 : 0 ≤ (x19_3 : Int) := of_decide_eq_true (by first | (with_reducible assumption) | assumption)
            have q124 : x19_3 < (l0_3.length : Int) := of_decide_eq_true (by first | (with_reducible assumption) | assumption)
            obtain ⟨ad124, e124, hx124_0⟩ := Kd.at_int HR0_3.out x19_3 p124 q124
            cases e124
            replace hx124_0 := (HB.out.cell (World.block_lt_of_cell? w _ hx124_0)).trans hx124_0
            replace p124 := eq_true p124
            replace q124 := eq_true q124
            go_wp2_with (first | ((with_reducible refine gate_builtin (b := .append) (xs := #[.tmp 26, .tmp 29]) rfl ?_); at_builtin; refine Kd.R_append (Kd.int .i64) (w0 := w) w.heap.size rfl (.tmp 26) (.tmp 29) 38 3 (.int .i64 0) 8 rfl Try.underlying38 info3 rfl (by decide) (by omega) u3 x3_3 (wrap64 (x19_3 + 1)) [.int .i64 (wrap64 (x19_3 + 1))] (fun _ => True) (fun _ => False) rfl rfl ?aP (fun _ hk => hk.elim) ?aF ?aO ?aB ?aS ?aL ?_; (case aP => exact rfl); (case aB => exact (by repeat (first | (with_reducible first | exact HB.out | apply lA | apply lN | apply lD | refine lS ?_ GE119.out) | exact HB.out))); (case aF => exact (fun _ _ => trivial)); (case aO => exact (by (with_reducible repeat (first | apply rrA | apply rrN | apply rrD)); exact HO_3.out)); (case aS => exact (lZ (by repeat (first | (with_reducible first | exact HB.out | apply lA | apply lN | apply lD | refine lS ?_ GE119.out) | exact HB.out)))); (case aL => have := LMc20.out; omega); intro v126 w21 ho hb hg hat; rw [← Ny125.out] at ho; have n0_ := aaM (blk_grown (g := gb119) (by (with_reducible repeat (first | refine bN ?_ _ | refine bD ?_ | refine bA ?_ _)); exact BK119.out) hg (Kd.R_ne HO_3.out BK119.out (by decide))); have n1_ := aaM (hb); have n2_ := aaM (ho); clear BK119; clear HB; clear HO_3; have BK119 := n0_; have HB := n1_; have HO127 := n2_; clear n0_ n1_ n2_; clear ho hb hg hat))
            go_roundg k3
            case measure => have := HJ1.out; have := HJ10.out; have := HK3.out; omega
            case rel => exact ⟨(y125), (wrap64 (x19_3 + 1)), (by first | rfl | (simp; done) | (simp [*]; done)), H', ⟨by have := HJ1.out; have := HJ10.out; have := HK3.out; omega⟩, ⟨by (with_reducible repeat (first | apply rrA | apply rrN | apply rrD)); exact HO127.out⟩, ⟨by (with_reducible repeat (first | refine bN ?_ _ | refine bD ?_ | refine bA ?_ _)); exact BK119.out⟩, ⟨by repeat (first | (with_reducible first | exact HB.out | apply lA | apply lN | apply lD | refine lS ?_ GE119.out) | exact HB.out)⟩⟩
           ·rw [if_neg c20] at H
            exact absurd H (by simp)
         ·rw [if_neg c18] at H
          exact absurd H (by simp)
        ·rw [if_neg c17] at H
         exact absurd H (by simp)
       ·rw [if_neg c16] at H
        have c16b0 : decide (x19_3 < (l0_3.length : Int)) = false := decide_eq_false c16
        clear c16
        obtain rfl := Option.some.inj H
        go_wp2
        go_ret
        exact ⟨_, by first | rfl | (simp [errW_none, errW_some] <;> rfl) | (simp [*, errW_none, errW_some] <;> rfl), by (with_reducible repeat (first | apply rrA | apply rrN | apply rrD)); exact HO_3.out, by repeat (first | (with_reducible first | exact HB.out | apply lA | apply lN | apply lD | refine lS ?_ GE119.out) | exact HB.out)⟩

/-! ### sched_act: function 54 -/
def sched_act.f (T W N : Int) (ld : List Int) (lb : List Bool) (C : Bool) (who : Int) : Option (Int × List Int × List Bool × Bool × Int × Int × Int) :=
 if who = 0 then some (N, ld, lb, true, 0, 4, -1)
 else if 0 ≤ who - 1 ∧ who - 1 < (ld.length : Int) ∧ who ≤ 9223372036854775807 then
  (if 0 ≤ rd ld (who - 1) then (if rd ld (who - 1) < (lb.length : Int) then some (N, ld.set (who - 1).toNat (-1), lb.set (rd ld (who - 1)).toNat true, C, who, 2, rd ld (who - 1)) else none)
  else if N < T then (if N + 1 ≤ 9223372036854775807 ∧ -9223372036854775808 ≤ N then some (N + 1, ld.set (who - 1).toNat N, lb, C, who, 1, N) else none)
  else some (N, ld.set (who - 1).toNat (-2), lb, C, who, 3, -1))
 else none
/-- What an act leaves as it was. -/
def sched_act.Kept (g : Nat) (vD vB : Value) (w w' : World) : Prop := w.heap.size ≤ w'.heap.size ∧ ∀ k, k < w.heap.size → k ≠ g → some k ≠ vD.ownBlock → some k ≠ vB.ownBlock → w'.heap[k]? = w.heap[k]?
def sched_act.Post (w0 : World) (g : Nat) (T W : Int) (vD vB : Value) (w : World) (N : Int) (ld : List Int) (lb : List Bool) (C : Bool) (aw ak at_ : Int) (e : Ending) (w' : World) : Prop :=
 e = .returned (.agg #[.int .i64 aw, .int .i64 ak, .int .i64 at_]) ∧ w'.heap[g]? = some (.cells #[.int .i64 T, .int .i64 W, .int .i64 N, vD, vB, .bool C] 42 (0, 0)) ∧
  Kd.R (Kd.int .i64) 3 w' w0.heap.size (fun _ => True) vD ld ∧ Kd.R Kd.bool 4 w' w0.heap.size (fun _ => True) vB lb ∧ Below w0.heap.size w0 w' ∧ sched_act.Kept g vD vB w w'
/-- A row of numbers is told by its own block alone. -/
theorem sched_act.row_int {k : IntKind} {e base : Nat} {ok : Nat → Prop} {w w' : World} {v : Value} {xs : List Int} (h : (Kd.int k).R e w base ok v xs) (hm : ∀ q, v.ownBlock = some q → w'.heap[q]? = w.heap[q]?) : (Kd.int k).R e w' base ok v xs := by
 have h2 : (Kd.int k).R e w base (fun q => v.ownBlock = some q) v xs := ⟨fun q hq => hq, h.2⟩
 exact Kd.R_mono (Kd.R_move h2 hm) (fun q hq => h.1 q hq)
theorem sched_act.row_bool {e base : Nat} {ok : Nat → Prop} {w w' : World} {v : Value} {xs : List Bool} (h : Kd.bool.R e w base ok v xs) (hm : ∀ q, v.ownBlock = some q → w'.heap[q]? = w.heap[q]?) : Kd.bool.R e w' base ok v xs := by
 have h2 : Kd.bool.R e w base (fun q => v.ownBlock = some q) v xs := ⟨fun q hq => hq, h.2⟩
 exact Kd.R_mono (Kd.R_move h2 hm) (fun q hq => h.1 q hq)
set_option maxHeartbeats 4000000 in
set_option maxRecDepth 100000 in
theorem sched_act.close (w0 w : World) (g : Nat) (T W N : Int) (vD vB : Value) (ld : List Int) (lb : List Bool) (C : Bool) (HB_ : Below w0.heap.size w0 w) (hg : w0.heap.size ≤ g) (hb : w.heap[g]? = some (.cells #[.int .i64 T, .int .i64 W, .int .i64 N, vD, vB, .bool C] 42 (0, 0)))
  (hD : Kd.R (Kd.int .i64) 3 w w0.heap.size (fun _ => True) vD ld) (hL : Kd.R Kd.bool 4 w w0.heap.size (fun _ => True) vB lb) :
  Calls Try.prog 54 #[.pointer (some ⟨g, 0, none⟩), .int .i64 0] w (sched_act.Post w0 g T W vD vB w N ld lb true 0 4 (-1)) := by
 have huA := Try.underlying52
 have huS := Try.underlying42
 have HB := aaM HB_
 have BK := aaM hb
 have HD := aaM hD
 have HL := aaM hL
 have GE := aaM hg
 clear HB_ hb hD hL hg
 go_enter Try.func54, Try.ntmps54
 go_wp2_with (first | ((with_reducible refine gate_dst (N := 4) rfl ?_); refine box_event ?hg (N := 4) ?hd (cs := #[.int .i64 0, .int .i64 0, .int .i64 0]) (t := 52) ?hr ?_; (case hd => rfl); (case hg => rfl); (case hr => first | (go_simp; done) | (go_simp; rfl)); intro gr hg w1 hbox hb; have n0_ := aaM (lP HB.out hb); have n1_ := aaM hbox; have n2_ := aaM (bB BK.out hb); have n3_ := aaM (rrB HD.out hb); have n4_ := aaM (rrB HL.out hb); have n5_ := aaM (show w0.heap.size ≤ gr by rw [hg]; exact lZ HB.out); have n6_ := aaM (show g ≠ gr by rw [hg]; exact Nat.ne_of_lt (bL BK.out)); have n7_ := aaM (show gr ≠ g by rw [hg]; exact Nat.ne_of_gt (bL BK.out)); have n8_ := aaM (show ∀ k, k < w.heap.size → w1.heap[k]? = w.heap[k]? from fun k hk => hb.block k hk); have n9_ := aaM (show ¬ gr < w.heap.size by rw [hg]; exact Nat.lt_irrefl _); have n10_ := aaM (show w.heap.size ≤ w1.heap.size from hb.size); clear HB BK HD HL; have HB := n0_; have BKR := n1_; have BK := n2_; have HD := n3_; have HL := n4_; have GR := n5_; have NB := n6_; have NC := n7_; have HK := n8_; have NW := n9_; have HS := n10_; clear n0_ n1_ n2_ n3_ n4_ n5_ n6_ n7_ n8_ n9_ n10_; clear hb hbox hg; have nb_ := NB.out; have nc_ := NC.out; have hcz_0 : w1.cell? ⟨g, 0, none⟩ = some (.int .i64 T) := (bC BK.out 0).trans rfl; have hcz_1 : w1.cell? ⟨g, 1, none⟩ = some (.int .i64 W) := (bC BK.out 1).trans rfl; have hcz_2 : w1.cell? ⟨g, 2, none⟩ = some (.int .i64 N) := (bC BK.out 2).trans rfl; have hcz_3 : w1.cell? ⟨g, 3, none⟩ = some vD := (bC BK.out 3).trans rfl; have hcz_4 : w1.cell? ⟨g, 4, none⟩ = some vB := (bC BK.out 4).trans rfl; have hcz_5 : w1.cell? ⟨g, 5, none⟩ = some (.bool C) := (bC BK.out 5).trans rfl; have hfz_0 := bF BK.out 0; have hfz_1 := bF BK.out 1; have hfz_2 := bF BK.out 2; have hfz_3 := bF BK.out 3; have hfz_4 := bF BK.out 4; have hfz_5 := bF BK.out 5; have hrz_0 : w1.cell? ⟨gr, 0, none⟩ = some (.int .i64 0) := (bC BKR.out 0).trans rfl; have hsz_0 := bF BKR.out 0; have hrz_1 : w1.cell? ⟨gr, 1, none⟩ = some (.int .i64 0) := (bC BKR.out 1).trans rfl; have hsz_1 := bF BKR.out 1; have hrz_2 : w1.cell? ⟨gr, 2, none⟩ = some (.int .i64 0) := (bC BKR.out 2).trans rfl; have hsz_2 := bF BKR.out 2))
 refine bodyPost_ret (results_cell_row rfl _ _ gr 52 #[.int .i64 0, .int .i64 4, .int .i64 (-1)] (0, 0) _ rfl ?res_ Try.underlying52 rfl (by kernel_rfl)) rfl ?_
 case res_ => exact blk_set (blk_set (blk_set (blk_far BKR.out nc_ _) 0 _) 1 _) 2 _
 have nD : ∀ q, vD.ownBlock = some q → q ≠ g ∧ q ≠ gr := fun q hq => ⟨fun e_ => Kd.R_ne HD.out BK.out (by decide) (by rw [← e_, hq]), fun e_ => Kd.R_ne HD.out BKR.out (by decide) (by rw [← e_, hq])⟩
 have nL : ∀ q, vB.ownBlock = some q → q ≠ g ∧ q ≠ gr := fun q hq => ⟨fun e_ => Kd.R_ne HL.out BK.out (by decide) (by rw [← e_, hq]), fun e_ => Kd.R_ne HL.out BKR.out (by decide) (by rw [← e_, hq])⟩
 have hm : ∀ k_, k_ ≠ g → k_ ≠ gr → ((((w1.setCell ⟨g, 5, none⟩ (.bool true)).setCell ⟨gr, 0, none⟩ (.int .i64 0)).setCell ⟨gr, 1, none⟩ (.int .i64 4)).setCell ⟨gr, 2, none⟩ (.int .i64 (-1))).heap[k_]? = w1.heap[k_]? := by
  intro k_ h1_ h2_
  repeat (refine (hhS _ _ _ k_ (by first | exact h1_ | exact h2_)).trans ?_)
  exact rfl
 refine ⟨rfl, blk_far (blk_far (blk_far (blk_set BK.out 5 _) nb_ _) nb_ _) nb_ _, sched_act.row_int HD.out (fun q hq => hm q (nD q hq).1 (nD q hq).2), sched_act.row_bool HL.out (fun q hq => hm q (nL q hq).1 (nL q hq).2), lS (lS (lS (lS HB.out GE.out) GR.out) GR.out) GR.out, ?_, ?_⟩
 ·exact Nat.le_trans HS.out (by simp [World.setCell])
 ·intro k_ hk h1 h2 h3
  exact (hm k_ h1 (fun e_ => NW.out (e_ ▸ hk))).trans (HK.out k_ hk)
set_option maxHeartbeats 4000000 in
set_option maxRecDepth 100000 in
theorem sched_act.finish (w0 w : World) (g : Nat) (T W N : Int) (gD cD gB cB : Nat) (ld : List Int) (lb : List Bool) (C : Bool) (j t : Int) (hw0 : 0 ≤ j) (hw1 : j < (ld.length : Int)) (hw2 : j ≤ 9223372036854775806) (ht : rd ld j = t) (HB_ : Below w0.heap.size w0 w) (hg : w0.heap.size ≤ g) (hb : w.heap[g]? = some (.cells #[.int .i64 T, .int .i64 W, .int .i64 N, (.slice (some ⟨gD, 0, none⟩) ld.length cD), (.slice (some ⟨gB, 0, none⟩) lb.length cB), .bool C] 42 (0, 0)))
  (hD : Kd.R (Kd.int .i64) 3 w w0.heap.size (fun _ => True) (.slice (some ⟨gD, 0, none⟩) ld.length cD) ld) (hL : Kd.R Kd.bool 4 w w0.heap.size (fun _ => True) (.slice (some ⟨gB, 0, none⟩) lb.length cB) lb) (ht0 : 0 ≤ t) (ht1 : t < (lb.length : Int)) :
  Calls Try.prog 54 #[.pointer (some ⟨g, 0, none⟩), .int .i64 (j + 1)] w (sched_act.Post w0 g T W (.slice (some ⟨gD, 0, none⟩) ld.length cD) (.slice (some ⟨gB, 0, none⟩) lb.length cB) w N (ld.set j.toNat (-1)) (lb.set t.toNat true) C (j + 1) 2 t) := by
 have huA := Try.underlying52
 have huS := Try.underlying42
 have HB := aaM HB_
 have BK := aaM hb
 have HD := aaM hD
 have HL := aaM hL
 have GE := aaM hg
 clear HB_ hb hD hL hg
 have h0 := aaM hw0
 have h1 := aaM hw1
 have HT := aaM ht
 have hz : (j + 1 == 0) = false := beq_eq_false_iff_ne.2 (by omega)
 have hv1 : wrap64 (j + 1) = j + 1 := by unfold wrap64; omega
 have hv2 : wrap64 (j + 1 - 1) = j := by unfold wrap64; omega
 have hv3 : j + 1 - 1 = j := by omega
 have hv4 : wrap64 j = j := by unfold wrap64; omega
 have p0 := eq_true hw0
 have q0 := eq_true hw1
 have p1 : decide (0 ≤ j) = true := decide_eq_true hw0
 have q1 : decide (j < (ld.length : Int)) = true := decide_eq_true hw1
 clear hw0 hw1 hw2 ht
 have ht0 := aaM ht0
 have ht1 := aaM ht1
 have p3 := eq_true ht0.out
 have q3 := eq_true ht1.out
 have p4 : decide (0 ≤ t) = true := decide_eq_true ht0.out
 have q4 : decide (t < (lb.length : Int)) = true := decide_eq_true ht1.out
 go_enter Try.func54, Try.ntmps54
 try go_wp2_with (first | ((with_reducible refine gate_dst (N := 4) rfl ?_); refine box_event ?hg (N := 4) ?hd (cs := #[.int .i64 0, .int .i64 0, .int .i64 0]) (t := 52) ?hr ?_; (case hd => rfl); (case hg => rfl); (case hr => first | (go_simp; done) | (go_simp; rfl)); intro gr hg w1 hbox hb; have n0_ := aaM (lP HB.out hb); have n1_ := aaM hbox; have n2_ := aaM (bB BK.out hb); have n3_ := aaM (rrB HD.out hb); have n4_ := aaM (rrB HL.out hb); have n5_ := aaM (show w0.heap.size ≤ gr by rw [hg]; exact lZ HB.out); have n6_ := aaM (show g ≠ gr by rw [hg]; exact Nat.ne_of_lt (bL BK.out)); have n7_ := aaM (show gr ≠ g by rw [hg]; exact Nat.ne_of_gt (bL BK.out)); have n8_ := aaM (show ∀ k, k < w.heap.size → w1.heap[k]? = w.heap[k]? from fun k hk => hb.block k hk); have n9_ := aaM (show ¬ gr < w.heap.size by rw [hg]; exact Nat.lt_irrefl _); have n10_ := aaM (show w.heap.size ≤ w1.heap.size from hb.size); clear HB BK HD HL; have HB := n0_; have BKR := n1_; have BK := n2_; have HD := n3_; have HL := n4_; have GR := n5_; have NB := n6_; have NC := n7_; have HK := n8_; have NW := n9_; have HS := n10_; clear n0_ n1_ n2_ n3_ n4_ n5_ n6_ n7_ n8_ n9_ n10_; clear hb hbox hg; have nb_ := NB.out; have nc_ := NC.out; have hcz_0 : w1.cell? ⟨g, 0, none⟩ = some (.int .i64 T) := (bC BK.out 0).trans rfl; have hcz_1 : w1.cell? ⟨g, 1, none⟩ = some (.int .i64 W) := (bC BK.out 1).trans rfl; have hcz_2 : w1.cell? ⟨g, 2, none⟩ = some (.int .i64 N) := (bC BK.out 2).trans rfl; have hcz_3 : w1.cell? ⟨g, 3, none⟩ = some (.slice (some ⟨gD, 0, none⟩) ld.length cD) := (bC BK.out 3).trans rfl; have hcz_4 : w1.cell? ⟨g, 4, none⟩ = some (.slice (some ⟨gB, 0, none⟩) lb.length cB) := (bC BK.out 4).trans rfl; have hcz_5 : w1.cell? ⟨g, 5, none⟩ = some (.bool C) := (bC BK.out 5).trans rfl; have hfz_0 := bF BK.out 0; have hfz_1 := bF BK.out 1; have hfz_2 := bF BK.out 2; have hfz_3 := bF BK.out 3; have hfz_4 := bF BK.out 4; have hfz_5 := bF BK.out 5; have hrz_0 : w1.cell? ⟨gr, 0, none⟩ = some (.int .i64 0) := (bC BKR.out 0).trans rfl; have hsz_0 := bF BKR.out 0; have hrz_1 : w1.cell? ⟨gr, 1, none⟩ = some (.int .i64 0) := (bC BKR.out 1).trans rfl; have hsz_1 := bF BKR.out 1; have hrz_2 : w1.cell? ⟨gr, 2, none⟩ = some (.int .i64 0) := (bC BKR.out 2).trans rfl; have hsz_2 := bF BKR.out 2; have ngd_ : gD ≠ g := fun e_ => Kd.R_ne HD.out BK.out (by decide) (congrArg some e_.symm); have ngd2_ : g ≠ gD := fun e_ => ngd_ e_.symm; have ngr_ : gD ≠ gr := fun e_ => Kd.R_ne HD.out BKR.out (by decide) (congrArg some e_.symm); have ngr2_ : gr ≠ gD := fun e_ => ngr_ e_.symm; obtain ⟨hx0_, hxf⟩ := Kd.R_celln 0 HD.out j h0.out h1.out; have hxd2 : w1.cell? ⟨gD, j.toNat, none⟩ = some (.int .i64 t) := hx0_.trans (congrArg (fun z => some (Value.int .i64 z)) HT.out); clear hx0_; have NGD := aaM ngd_; have NGR := aaM ngr_; have nbd_ : gB ≠ g := fun e_ => Kd.R_ne HL.out BK.out (by decide) (congrArg some e_.symm); have nbd2_ : g ≠ gB := fun e_ => nbd_ e_.symm; have nbr_ : gB ≠ gr := fun e_ => Kd.R_ne HL.out BKR.out (by decide) (congrArg some e_.symm); have nbr2_ : gr ≠ gB := fun e_ => nbr_ e_.symm; have nbb_ : gB ≠ gD := fun e_ => (Kd.R_apartR HL.out HD.out (by decide)).1 gB rfl |>.2 (congrArg some e_); have nbb2_ : gD ≠ gB := fun e_ => nbb_ e_.symm; obtain ⟨hyd, hyf⟩ := Kd.R_celln false HL.out t ht0.out ht1.out; have NBD := aaM nbd_; have NBR := aaM nbr_; have NBB := aaM nbb_))
 have NDG : gD ≠ g ∧ g ≠ gD := ⟨NGD.out, fun e_ => NGD.out e_.symm⟩
 have NDR : gD ≠ gr ∧ gr ≠ gD := ⟨NGR.out, fun e_ => NGR.out e_.symm⟩
 have NBG : gB ≠ g ∧ g ≠ gB := ⟨NBD.out, fun e_ => NBD.out e_.symm⟩
 have NBW : gB ≠ gr ∧ gr ≠ gB := ⟨NBR.out, fun e_ => NBR.out e_.symm⟩
 have NBD2 : gB ≠ gD ∧ gD ≠ gB := ⟨NBB.out, fun e_ => NBB.out e_.symm⟩
 refine bodyPost_ret (results_cell_row rfl _ _ gr 52 #[.int .i64 (j + 1), .int .i64 2, .int .i64 t] (0, 0) _ rfl ?res_ Try.underlying52 rfl (by kernel_rfl)) rfl ?_
 case res_ => exact blk_set (blk_set (blk_set (blk_far (blk_far BKR.out NBW.2 _) NDR.2 _) 0 _) 1 _) 2 _
 refine ⟨rfl, blk_far (blk_far (blk_far (blk_far (blk_far BK.out NBG.2 _) NDG.2 _) NB.out _) NB.out _) NB.out _, ?hd_, ?hl_, lS (lS (lS (lS (lS HB.out (Kd.R_base HL.out gB rfl)) (Kd.R_base HD.out gD rfl)) GR.out) GR.out) GR.out, ?_, ?_⟩
 case hd_ =>
  refine sched_act.row_int (w := (w1.setCell ⟨gB, t.toNat, none⟩ (.bool true)).setCell ⟨gD, j.toNat, none⟩ (.int .i64 (-1))) (Kd.R_putn (sched_act.row_int HD.out (fun q hq => ?_)) j (-1)) (fun q hq => ?_)
  ·have hq_ : gD = q := Option.some.inj hq
   subst hq_
   exact hhS _ _ _ _ NBD2.2
  ·have hq_ : gD = q := Option.some.inj hq
   subst hq_
   repeat (refine (hhS _ _ _ _ NDR.1).trans ?_)
   exact rfl
 case hl_ =>
  refine sched_act.row_bool (w := w1.setCell ⟨gB, t.toNat, none⟩ (.bool true)) (Kd.R_putn HL.out t true) (fun q hq => ?_)
  have hq_ : gB = q := Option.some.inj hq
  subst hq_
  repeat (refine (hhS _ _ _ _ (by first | exact NBW.1 | exact NBD2.1)).trans ?_)
  exact rfl
 ·exact Nat.le_trans HS.out (by simp [World.setCell])
 ·intro k_ hk h1_ h2_ h3_
  have h4_ : k_ ≠ gr := fun e_ => NW.out (e_ ▸ hk)
  have h5_ : k_ ≠ gD := fun e_ => h2_ (by rw [e_]; rfl)
  have h6_ : k_ ≠ gB := fun e_ => h3_ (by rw [e_]; rfl)
  repeat (refine (hhS _ _ _ k_ (by first | exact h1_ | exact h4_ | exact h5_ | exact h6_)).trans ?_)
  exact HK.out k_ hk
set_option maxHeartbeats 4000000 in
set_option maxRecDepth 100000 in
theorem sched_act.take (w0 w : World) (g : Nat) (T W N : Int) (gD cD : Nat) (vB : Value) (ld : List Int) (lb : List Bool) (C : Bool) (j t : Int) (hw0 : 0 ≤ j) (hw1 : j < (ld.length : Int)) (hw2 : j ≤ 9223372036854775806) (ht : rd ld j = t) (HB_ : Below w0.heap.size w0 w) (hg : w0.heap.size ≤ g) (hb : w.heap[g]? = some (.cells #[.int .i64 T, .int .i64 W, .int .i64 N, (.slice (some ⟨gD, 0, none⟩) ld.length cD), vB, .bool C] 42 (0, 0)))
  (hD : Kd.R (Kd.int .i64) 3 w w0.heap.size (fun _ => True) (.slice (some ⟨gD, 0, none⟩) ld.length cD) ld) (hL : Kd.R Kd.bool 4 w w0.heap.size (fun _ => True) vB lb) (ht0 : t < 0) (hn : N < T) (hn1 : N + 1 ≤ 9223372036854775807) (hn2 : -9223372036854775808 ≤ N) :
  Calls Try.prog 54 #[.pointer (some ⟨g, 0, none⟩), .int .i64 (j + 1)] w (sched_act.Post w0 g T W (.slice (some ⟨gD, 0, none⟩) ld.length cD) vB w (N + 1) (ld.set j.toNat N) lb C (j + 1) 1 N) := by
 have huA := Try.underlying52
 have huS := Try.underlying42
 have HB := aaM HB_
 have BK := aaM hb
 have HD := aaM hD
 have HL := aaM hL
 have GE := aaM hg
 clear HB_ hb hD hL hg
 have h0 := aaM hw0
 have h1 := aaM hw1
 have HT := aaM ht
 have hz : (j + 1 == 0) = false := beq_eq_false_iff_ne.2 (by omega)
 have hv1 : wrap64 (j + 1) = j + 1 := by unfold wrap64; omega
 have hv2 : wrap64 (j + 1 - 1) = j := by unfold wrap64; omega
 have hv3 : j + 1 - 1 = j := by omega
 have hv4 : wrap64 j = j := by unfold wrap64; omega
 have p0 := eq_true hw0
 have q0 := eq_true hw1
 have p1 : decide (0 ≤ j) = true := decide_eq_true hw0
 have q1 : decide (j < (ld.length : Int)) = true := decide_eq_true hw1
 clear hw0 hw1 hw2 ht
 have ht0 := aaM ht0
 have p4 : decide (0 ≤ t) = false := decide_eq_false (by have := ht0.out; omega)
 have p5 : decide (N < T) = true := decide_eq_true hn
 have hv : wrap64 (N + 1) = N + 1 := by unfold wrap64; omega
 clear hn hn1 hn2
 go_enter Try.func54, Try.ntmps54
 try go_wp2_with (first | ((with_reducible refine gate_dst (N := 4) rfl ?_); refine box_event ?hg (N := 4) ?hd (cs := #[.int .i64 0, .int .i64 0, .int .i64 0]) (t := 52) ?hr ?_; (case hd => rfl); (case hg => rfl); (case hr => first | (go_simp; done) | (go_simp; rfl)); intro gr hg w1 hbox hb; have n0_ := aaM (lP HB.out hb); have n1_ := aaM hbox; have n2_ := aaM (bB BK.out hb); have n3_ := aaM (rrB HD.out hb); have n4_ := aaM (rrB HL.out hb); have n5_ := aaM (show w0.heap.size ≤ gr by rw [hg]; exact lZ HB.out); have n6_ := aaM (show g ≠ gr by rw [hg]; exact Nat.ne_of_lt (bL BK.out)); have n7_ := aaM (show gr ≠ g by rw [hg]; exact Nat.ne_of_gt (bL BK.out)); have n8_ := aaM (show ∀ k, k < w.heap.size → w1.heap[k]? = w.heap[k]? from fun k hk => hb.block k hk); have n9_ := aaM (show ¬ gr < w.heap.size by rw [hg]; exact Nat.lt_irrefl _); have n10_ := aaM (show w.heap.size ≤ w1.heap.size from hb.size); clear HB BK HD HL; have HB := n0_; have BKR := n1_; have BK := n2_; have HD := n3_; have HL := n4_; have GR := n5_; have NB := n6_; have NC := n7_; have HK := n8_; have NW := n9_; have HS := n10_; clear n0_ n1_ n2_ n3_ n4_ n5_ n6_ n7_ n8_ n9_ n10_; clear hb hbox hg; have nb_ := NB.out; have nc_ := NC.out; have hcz_0 : w1.cell? ⟨g, 0, none⟩ = some (.int .i64 T) := (bC BK.out 0).trans rfl; have hcz_1 : w1.cell? ⟨g, 1, none⟩ = some (.int .i64 W) := (bC BK.out 1).trans rfl; have hcz_2 : w1.cell? ⟨g, 2, none⟩ = some (.int .i64 N) := (bC BK.out 2).trans rfl; have hcz_3 : w1.cell? ⟨g, 3, none⟩ = some (.slice (some ⟨gD, 0, none⟩) ld.length cD) := (bC BK.out 3).trans rfl; have hcz_4 : w1.cell? ⟨g, 4, none⟩ = some vB := (bC BK.out 4).trans rfl; have hcz_5 : w1.cell? ⟨g, 5, none⟩ = some (.bool C) := (bC BK.out 5).trans rfl; have hfz_0 := bF BK.out 0; have hfz_1 := bF BK.out 1; have hfz_2 := bF BK.out 2; have hfz_3 := bF BK.out 3; have hfz_4 := bF BK.out 4; have hfz_5 := bF BK.out 5; have hrz_0 : w1.cell? ⟨gr, 0, none⟩ = some (.int .i64 0) := (bC BKR.out 0).trans rfl; have hsz_0 := bF BKR.out 0; have hrz_1 : w1.cell? ⟨gr, 1, none⟩ = some (.int .i64 0) := (bC BKR.out 1).trans rfl; have hsz_1 := bF BKR.out 1; have hrz_2 : w1.cell? ⟨gr, 2, none⟩ = some (.int .i64 0) := (bC BKR.out 2).trans rfl; have hsz_2 := bF BKR.out 2; have ngd_ : gD ≠ g := fun e_ => Kd.R_ne HD.out BK.out (by decide) (congrArg some e_.symm); have ngd2_ : g ≠ gD := fun e_ => ngd_ e_.symm; have ngr_ : gD ≠ gr := fun e_ => Kd.R_ne HD.out BKR.out (by decide) (congrArg some e_.symm); have ngr2_ : gr ≠ gD := fun e_ => ngr_ e_.symm; obtain ⟨hx0_, hxf⟩ := Kd.R_celln 0 HD.out j h0.out h1.out; have hxd2 : w1.cell? ⟨gD, j.toNat, none⟩ = some (.int .i64 t) := hx0_.trans (congrArg (fun z => some (Value.int .i64 z)) HT.out); clear hx0_; have NGD := aaM ngd_; have NGR := aaM ngr_))
 repeat (go_quiet (fail); try go_wp2)
 have NDG : gD ≠ g ∧ g ≠ gD := ⟨NGD.out, fun e_ => NGD.out e_.symm⟩
 have NDR : gD ≠ gr ∧ gr ≠ gD := ⟨NGR.out, fun e_ => NGR.out e_.symm⟩
 refine bodyPost_ret (results_cell_row rfl _ _ gr 52 #[.int .i64 (j + 1), .int .i64 1, .int .i64 N] (0, 0) _ rfl ?res_ Try.underlying52 rfl (by kernel_rfl)) rfl ?_
 case res_ => exact blk_set (blk_set (blk_set (blk_far (blk_far (bN BKR.out _) NDR.2 _) NC.out _) 0 _) 1 _) 2 _
 refine ⟨rfl, blk_far (blk_far (blk_far (blk_set (blk_far (bN BK.out _) NDG.2 _) 2 _) NB.out _) NB.out _) NB.out _, ?hd_, ?hl_, lS (lS (lS (lS (lS (lN HB.out _) (Kd.R_base HD.out gD rfl)) GE.out) GR.out) GR.out) GR.out, ?_, ?_⟩
 case hd_ =>
  refine sched_act.row_int (w := w1.setCell ⟨gD, j.toNat, none⟩ (.int .i64 N)) (Kd.R_putn HD.out j N) (fun q hq => ?_)
  have hq_ : gD = q := Option.some.inj hq
  subst hq_
  repeat (refine (hhS _ _ _ _ (by first | exact NDR.1 | exact NDG.1)).trans ?_)
  exact rfl
 case hl_ =>
  refine sched_act.row_bool HL.out (fun q hq => ?_)
  have e1_ : q ≠ g := fun e_ => Kd.R_ne HL.out BK.out (by decide) (by rw [← e_, hq])
  have e2_ : q ≠ gr := fun e_ => Kd.R_ne HL.out BKR.out (by decide) (by rw [← e_, hq])
  have e3_ : q ≠ gD := ((Kd.R_apartR HL.out HD.out (by decide)).1 q hq).2 ∘ fun e_ => by rw [e_]; rfl
  repeat (refine (hhS _ _ _ _ (by first | exact e1_ | exact e2_ | exact e3_)).trans ?_)
  exact rfl
 ·exact Nat.le_trans HS.out (by simp [World.setCell])
 ·intro k_ hk h1_ h2_ h3_
  have h4_ : k_ ≠ gr := fun e_ => NW.out (e_ ▸ hk)
  have h5_ : k_ ≠ gD := fun e_ => h2_ (by rw [e_]; rfl)
  
  repeat (refine (hhS _ _ _ k_ (by first | exact h1_ | exact h4_ | exact h5_)).trans ?_)
  exact HK.out k_ hk
set_option maxHeartbeats 4000000 in
set_option maxRecDepth 100000 in
theorem sched_act.end1 (w0 w : World) (g : Nat) (T W N : Int) (gD cD : Nat) (vB : Value) (ld : List Int) (lb : List Bool) (C : Bool) (j t : Int) (hw0 : 0 ≤ j) (hw1 : j < (ld.length : Int)) (hw2 : j ≤ 9223372036854775806) (ht : rd ld j = t) (HB_ : Below w0.heap.size w0 w) (hg : w0.heap.size ≤ g) (hb : w.heap[g]? = some (.cells #[.int .i64 T, .int .i64 W, .int .i64 N, (.slice (some ⟨gD, 0, none⟩) ld.length cD), vB, .bool C] 42 (0, 0)))
  (hD : Kd.R (Kd.int .i64) 3 w w0.heap.size (fun _ => True) (.slice (some ⟨gD, 0, none⟩) ld.length cD) ld) (hL : Kd.R Kd.bool 4 w w0.heap.size (fun _ => True) vB lb) (ht0 : t < 0) (hw_ : t = -1) (hn : ¬ N < T) :
  Calls Try.prog 54 #[.pointer (some ⟨g, 0, none⟩), .int .i64 (j + 1)] w (sched_act.Post w0 g T W (.slice (some ⟨gD, 0, none⟩) ld.length cD) vB w N (ld.set j.toNat (-2)) lb C (j + 1) 3 (-1)) := by
 have huA := Try.underlying52
 have huS := Try.underlying42
 have HB := aaM HB_
 have BK := aaM hb
 have HD := aaM hD
 have HL := aaM hL
 have GE := aaM hg
 clear HB_ hb hD hL hg
 have h0 := aaM hw0
 have h1 := aaM hw1
 have HT := aaM ht
 have hz : (j + 1 == 0) = false := beq_eq_false_iff_ne.2 (by omega)
 have hv1 : wrap64 (j + 1) = j + 1 := by unfold wrap64; omega
 have hv2 : wrap64 (j + 1 - 1) = j := by unfold wrap64; omega
 have hv3 : j + 1 - 1 = j := by omega
 have hv4 : wrap64 j = j := by unfold wrap64; omega
 have p0 := eq_true hw0
 have q0 := eq_true hw1
 have p1 : decide (0 ≤ j) = true := decide_eq_true hw0
 have q1 : decide (j < (ld.length : Int)) = true := decide_eq_true hw1
 clear hw0 hw1 hw2 ht
 have ht0 := aaM ht0
 have p4 : decide (0 ≤ t) = false := decide_eq_false (by have := ht0.out; omega)
 have p5 : decide (N < T) = false := decide_eq_false hn
 have p6 : (t == -1) = true := beq_iff_eq.2 hw_
 clear hn hw_
 go_enter Try.func54, Try.ntmps54
 try go_wp2_with (first | ((with_reducible refine gate_dst (N := 4) rfl ?_); refine box_event ?hg (N := 4) ?hd (cs := #[.int .i64 0, .int .i64 0, .int .i64 0]) (t := 52) ?hr ?_; (case hd => rfl); (case hg => rfl); (case hr => first | (go_simp; done) | (go_simp; rfl)); intro gr hg w1 hbox hb; have n0_ := aaM (lP HB.out hb); have n1_ := aaM hbox; have n2_ := aaM (bB BK.out hb); have n3_ := aaM (rrB HD.out hb); have n4_ := aaM (rrB HL.out hb); have n5_ := aaM (show w0.heap.size ≤ gr by rw [hg]; exact lZ HB.out); have n6_ := aaM (show g ≠ gr by rw [hg]; exact Nat.ne_of_lt (bL BK.out)); have n7_ := aaM (show gr ≠ g by rw [hg]; exact Nat.ne_of_gt (bL BK.out)); have n8_ := aaM (show ∀ k, k < w.heap.size → w1.heap[k]? = w.heap[k]? from fun k hk => hb.block k hk); have n9_ := aaM (show ¬ gr < w.heap.size by rw [hg]; exact Nat.lt_irrefl _); have n10_ := aaM (show w.heap.size ≤ w1.heap.size from hb.size); clear HB BK HD HL; have HB := n0_; have BKR := n1_; have BK := n2_; have HD := n3_; have HL := n4_; have GR := n5_; have NB := n6_; have NC := n7_; have HK := n8_; have NW := n9_; have HS := n10_; clear n0_ n1_ n2_ n3_ n4_ n5_ n6_ n7_ n8_ n9_ n10_; clear hb hbox hg; have nb_ := NB.out; have nc_ := NC.out; have hcz_0 : w1.cell? ⟨g, 0, none⟩ = some (.int .i64 T) := (bC BK.out 0).trans rfl; have hcz_1 : w1.cell? ⟨g, 1, none⟩ = some (.int .i64 W) := (bC BK.out 1).trans rfl; have hcz_2 : w1.cell? ⟨g, 2, none⟩ = some (.int .i64 N) := (bC BK.out 2).trans rfl; have hcz_3 : w1.cell? ⟨g, 3, none⟩ = some (.slice (some ⟨gD, 0, none⟩) ld.length cD) := (bC BK.out 3).trans rfl; have hcz_4 : w1.cell? ⟨g, 4, none⟩ = some vB := (bC BK.out 4).trans rfl; have hcz_5 : w1.cell? ⟨g, 5, none⟩ = some (.bool C) := (bC BK.out 5).trans rfl; have hfz_0 := bF BK.out 0; have hfz_1 := bF BK.out 1; have hfz_2 := bF BK.out 2; have hfz_3 := bF BK.out 3; have hfz_4 := bF BK.out 4; have hfz_5 := bF BK.out 5; have hrz_0 : w1.cell? ⟨gr, 0, none⟩ = some (.int .i64 0) := (bC BKR.out 0).trans rfl; have hsz_0 := bF BKR.out 0; have hrz_1 : w1.cell? ⟨gr, 1, none⟩ = some (.int .i64 0) := (bC BKR.out 1).trans rfl; have hsz_1 := bF BKR.out 1; have hrz_2 : w1.cell? ⟨gr, 2, none⟩ = some (.int .i64 0) := (bC BKR.out 2).trans rfl; have hsz_2 := bF BKR.out 2; have ngd_ : gD ≠ g := fun e_ => Kd.R_ne HD.out BK.out (by decide) (congrArg some e_.symm); have ngd2_ : g ≠ gD := fun e_ => ngd_ e_.symm; have ngr_ : gD ≠ gr := fun e_ => Kd.R_ne HD.out BKR.out (by decide) (congrArg some e_.symm); have ngr2_ : gr ≠ gD := fun e_ => ngr_ e_.symm; obtain ⟨hx0_, hxf⟩ := Kd.R_celln 0 HD.out j h0.out h1.out; have hxd2 : w1.cell? ⟨gD, j.toNat, none⟩ = some (.int .i64 t) := hx0_.trans (congrArg (fun z => some (Value.int .i64 z)) HT.out); clear hx0_; have NGD := aaM ngd_; have NGR := aaM ngr_))
 repeat (go_quiet (fail); try go_wp2)
 have NDG : gD ≠ g ∧ g ≠ gD := ⟨NGD.out, fun e_ => NGD.out e_.symm⟩
 have NDR : gD ≠ gr ∧ gr ≠ gD := ⟨NGR.out, fun e_ => NGR.out e_.symm⟩
 refine bodyPost_ret (results_cell_row rfl _ _ gr 52 #[.int .i64 (j + 1), .int .i64 3, .int .i64 (-1)] (0, 0) _ rfl ?res_ Try.underlying52 rfl (by kernel_rfl)) rfl ?_
 case res_ => exact blk_set (blk_set (blk_set (blk_far (bN BKR.out _) NDR.2 _) 0 _) 1 _) 2 _
 refine ⟨rfl, blk_far (blk_far (blk_far (blk_far (bN BK.out _) NDG.2 _) NB.out _) NB.out _) NB.out _, ?hd_, ?hl_, lS (lS (lS (lS (lN HB.out _) (Kd.R_base HD.out gD rfl)) GR.out) GR.out) GR.out, ?_, ?_⟩
 case hd_ =>
  refine sched_act.row_int (w := w1.setCell ⟨gD, j.toNat, none⟩ (.int .i64 (-2))) (Kd.R_putn HD.out j (-2)) (fun q hq => ?_)
  have hq_ : gD = q := Option.some.inj hq
  subst hq_
  repeat (refine (hhS _ _ _ _ (by first | exact NDR.1 | exact NDG.1)).trans ?_)
  exact rfl
 case hl_ =>
  refine sched_act.row_bool HL.out (fun q hq => ?_)
  have e1_ : q ≠ g := fun e_ => Kd.R_ne HL.out BK.out (by decide) (by rw [← e_, hq])
  have e2_ : q ≠ gr := fun e_ => Kd.R_ne HL.out BKR.out (by decide) (by rw [← e_, hq])
  have e3_ : q ≠ gD := ((Kd.R_apartR HL.out HD.out (by decide)).1 q hq).2 ∘ fun e_ => by rw [e_]; rfl
  repeat (refine (hhS _ _ _ _ (by first | exact e1_ | exact e2_ | exact e3_)).trans ?_)
  exact rfl
 ·exact Nat.le_trans HS.out (by simp [World.setCell])
 ·intro k_ hk h1_ h2_ h3_
  have h4_ : k_ ≠ gr := fun e_ => NW.out (e_ ▸ hk)
  have h5_ : k_ ≠ gD := fun e_ => h2_ (by rw [e_]; rfl)
  
  repeat (refine (hhS _ _ _ k_ (by first | exact h1_ | exact h4_ | exact h5_)).trans ?_)
  exact HK.out k_ hk
set_option maxHeartbeats 4000000 in
set_option maxRecDepth 100000 in
theorem sched_act.end2 (w0 w : World) (g : Nat) (T W N : Int) (gD cD : Nat) (vB : Value) (ld : List Int) (lb : List Bool) (C : Bool) (j t : Int) (hw0 : 0 ≤ j) (hw1 : j < (ld.length : Int)) (hw2 : j ≤ 9223372036854775806) (ht : rd ld j = t) (HB_ : Below w0.heap.size w0 w) (hg : w0.heap.size ≤ g) (hb : w.heap[g]? = some (.cells #[.int .i64 T, .int .i64 W, .int .i64 N, (.slice (some ⟨gD, 0, none⟩) ld.length cD), vB, .bool C] 42 (0, 0)))
  (hD : Kd.R (Kd.int .i64) 3 w w0.heap.size (fun _ => True) (.slice (some ⟨gD, 0, none⟩) ld.length cD) ld) (hL : Kd.R Kd.bool 4 w w0.heap.size (fun _ => True) vB lb) (ht0 : t < 0) (hw_ : t ≠ -1) (hn : ¬ N < T) :
  Calls Try.prog 54 #[.pointer (some ⟨g, 0, none⟩), .int .i64 (j + 1)] w (sched_act.Post w0 g T W (.slice (some ⟨gD, 0, none⟩) ld.length cD) vB w N (ld.set j.toNat (-2)) lb C (j + 1) 3 (-1)) := by
 have huA := Try.underlying52
 have huS := Try.underlying42
 have HB := aaM HB_
 have BK := aaM hb
 have HD := aaM hD
 have HL := aaM hL
 have GE := aaM hg
 clear HB_ hb hD hL hg
 have h0 := aaM hw0
 have h1 := aaM hw1
 have HT := aaM ht
 have hz : (j + 1 == 0) = false := beq_eq_false_iff_ne.2 (by omega)
 have hv1 : wrap64 (j + 1) = j + 1 := by unfold wrap64; omega
 have hv2 : wrap64 (j + 1 - 1) = j := by unfold wrap64; omega
 have hv3 : j + 1 - 1 = j := by omega
 have hv4 : wrap64 j = j := by unfold wrap64; omega
 have p0 := eq_true hw0
 have q0 := eq_true hw1
 have p1 : decide (0 ≤ j) = true := decide_eq_true hw0
 have q1 : decide (j < (ld.length : Int)) = true := decide_eq_true hw1
 clear hw0 hw1 hw2 ht
 have ht0 := aaM ht0
 have p4 : decide (0 ≤ t) = false := decide_eq_false (by have := ht0.out; omega)
 have p5 : decide (N < T) = false := decide_eq_false hn
 have p6 : (t == -1) = false := beq_eq_false_iff_ne.2 hw_
 clear hn hw_
 go_enter Try.func54, Try.ntmps54
 try go_wp2_with (first | ((with_reducible refine gate_dst (N := 4) rfl ?_); refine box_event ?hg (N := 4) ?hd (cs := #[.int .i64 0, .int .i64 0, .int .i64 0]) (t := 52) ?hr ?_; (case hd => rfl); (case hg => rfl); (case hr => first | (go_simp; done) | (go_simp; rfl)); intro gr hg w1 hbox hb; have n0_ := aaM (lP HB.out hb); have n1_ := aaM hbox; have n2_ := aaM (bB BK.out hb); have n3_ := aaM (rrB HD.out hb); have n4_ := aaM (rrB HL.out hb); have n5_ := aaM (show w0.heap.size ≤ gr by rw [hg]; exact lZ HB.out); have n6_ := aaM (show g ≠ gr by rw [hg]; exact Nat.ne_of_lt (bL BK.out)); have n7_ := aaM (show gr ≠ g by rw [hg]; exact Nat.ne_of_gt (bL BK.out)); have n8_ := aaM (show ∀ k, k < w.heap.size → w1.heap[k]? = w.heap[k]? from fun k hk => hb.block k hk); have n9_ := aaM (show ¬ gr < w.heap.size by rw [hg]; exact Nat.lt_irrefl _); have n10_ := aaM (show w.heap.size ≤ w1.heap.size from hb.size); clear HB BK HD HL; have HB := n0_; have BKR := n1_; have BK := n2_; have HD := n3_; have HL := n4_; have GR := n5_; have NB := n6_; have NC := n7_; have HK := n8_; have NW := n9_; have HS := n10_; clear n0_ n1_ n2_ n3_ n4_ n5_ n6_ n7_ n8_ n9_ n10_; clear hb hbox hg; have nb_ := NB.out; have nc_ := NC.out; have hcz_0 : w1.cell? ⟨g, 0, none⟩ = some (.int .i64 T) := (bC BK.out 0).trans rfl; have hcz_1 : w1.cell? ⟨g, 1, none⟩ = some (.int .i64 W) := (bC BK.out 1).trans rfl; have hcz_2 : w1.cell? ⟨g, 2, none⟩ = some (.int .i64 N) := (bC BK.out 2).trans rfl; have hcz_3 : w1.cell? ⟨g, 3, none⟩ = some (.slice (some ⟨gD, 0, none⟩) ld.length cD) := (bC BK.out 3).trans rfl; have hcz_4 : w1.cell? ⟨g, 4, none⟩ = some vB := (bC BK.out 4).trans rfl; have hcz_5 : w1.cell? ⟨g, 5, none⟩ = some (.bool C) := (bC BK.out 5).trans rfl; have hfz_0 := bF BK.out 0; have hfz_1 := bF BK.out 1; have hfz_2 := bF BK.out 2; have hfz_3 := bF BK.out 3; have hfz_4 := bF BK.out 4; have hfz_5 := bF BK.out 5; have hrz_0 : w1.cell? ⟨gr, 0, none⟩ = some (.int .i64 0) := (bC BKR.out 0).trans rfl; have hsz_0 := bF BKR.out 0; have hrz_1 : w1.cell? ⟨gr, 1, none⟩ = some (.int .i64 0) := (bC BKR.out 1).trans rfl; have hsz_1 := bF BKR.out 1; have hrz_2 : w1.cell? ⟨gr, 2, none⟩ = some (.int .i64 0) := (bC BKR.out 2).trans rfl; have hsz_2 := bF BKR.out 2; have ngd_ : gD ≠ g := fun e_ => Kd.R_ne HD.out BK.out (by decide) (congrArg some e_.symm); have ngd2_ : g ≠ gD := fun e_ => ngd_ e_.symm; have ngr_ : gD ≠ gr := fun e_ => Kd.R_ne HD.out BKR.out (by decide) (congrArg some e_.symm); have ngr2_ : gr ≠ gD := fun e_ => ngr_ e_.symm; obtain ⟨hx0_, hxf⟩ := Kd.R_celln 0 HD.out j h0.out h1.out; have hxd2 : w1.cell? ⟨gD, j.toNat, none⟩ = some (.int .i64 t) := hx0_.trans (congrArg (fun z => some (Value.int .i64 z)) HT.out); clear hx0_; have NGD := aaM ngd_; have NGR := aaM ngr_))
 repeat (go_quiet (fail); try go_wp2)
 have NDG : gD ≠ g ∧ g ≠ gD := ⟨NGD.out, fun e_ => NGD.out e_.symm⟩
 have NDR : gD ≠ gr ∧ gr ≠ gD := ⟨NGR.out, fun e_ => NGR.out e_.symm⟩
 refine bodyPost_ret (results_cell_row rfl _ _ gr 52 #[.int .i64 (j + 1), .int .i64 3, .int .i64 (-1)] (0, 0) _ rfl ?res_ Try.underlying52 rfl (by kernel_rfl)) rfl ?_
 case res_ => exact blk_set (blk_set (blk_set (blk_far (bN BKR.out _) NDR.2 _) 0 _) 1 _) 2 _
 refine ⟨rfl, blk_far (blk_far (blk_far (blk_far (bN BK.out _) NDG.2 _) NB.out _) NB.out _) NB.out _, ?hd_, ?hl_, lS (lS (lS (lS (lN HB.out _) (Kd.R_base HD.out gD rfl)) GR.out) GR.out) GR.out, ?_, ?_⟩
 case hd_ =>
  refine sched_act.row_int (w := w1.setCell ⟨gD, j.toNat, none⟩ (.int .i64 (-2))) (Kd.R_putn HD.out j (-2)) (fun q hq => ?_)
  have hq_ : gD = q := Option.some.inj hq
  subst hq_
  repeat (refine (hhS _ _ _ _ (by first | exact NDR.1 | exact NDG.1)).trans ?_)
  exact rfl
 case hl_ =>
  refine sched_act.row_bool HL.out (fun q hq => ?_)
  have e1_ : q ≠ g := fun e_ => Kd.R_ne HL.out BK.out (by decide) (by rw [← e_, hq])
  have e2_ : q ≠ gr := fun e_ => Kd.R_ne HL.out BKR.out (by decide) (by rw [← e_, hq])
  have e3_ : q ≠ gD := ((Kd.R_apartR HL.out HD.out (by decide)).1 q hq).2 ∘ fun e_ => by rw [e_]; rfl
  repeat (refine (hhS _ _ _ _ (by first | exact e1_ | exact e2_ | exact e3_)).trans ?_)
  exact rfl
 ·exact Nat.le_trans HS.out (by simp [World.setCell])
 ·intro k_ hk h1_ h2_ h3_
  have h4_ : k_ ≠ gr := fun e_ => NW.out (e_ ▸ hk)
  have h5_ : k_ ≠ gD := fun e_ => h2_ (by rw [e_]; rfl)
  
  repeat (refine (hhS _ _ _ k_ (by first | exact h1_ | exact h4_ | exact h5_)).trans ?_)
  exact HK.out k_ hk
theorem sched_act.calls (w0 w : World) (g : Nat) (T W N : Int) (vD vB : Value) (ld : List Int) (lb : List Bool) (C : Bool) (who N' : Int) (ld' : List Int) (lb' : List Bool) (C' : Bool) (aw ak at_ : Int) (HB_ : Below w0.heap.size w0 w) (hg : w0.heap.size ≤ g) (hb : w.heap[g]? = some (.cells #[.int .i64 T, .int .i64 W, .int .i64 N, vD, vB, .bool C] 42 (0, 0)))
  (hD : Kd.R (Kd.int .i64) 3 w w0.heap.size (fun _ => True) vD ld) (hL : Kd.R Kd.bool 4 w w0.heap.size (fun _ => True) vB lb) (h : sched_act.f T W N ld lb C who = some (N', ld', lb', C', aw, ak, at_)) :
  Calls Try.prog 54 #[.pointer (some ⟨g, 0, none⟩), .int .i64 who] w (sched_act.Post w0 g T W vD vB w N' ld' lb' C' aw ak at_) := by
 unfold sched_act.f at h
 by_cases h0 : who = 0
 ·rw [if_pos h0] at h
  simp only [Option.some.injEq, Prod.mk.injEq] at h
  obtain ⟨rfl, rfl, rfl, rfl, rfl, rfl, rfl⟩ := h
  subst h0
  exact sched_act.close w0 w g T W N vD vB ld lb C HB_ hg hb hD hL
 ·rw [if_neg h0] at h
  by_cases h1 : 0 ≤ who - 1 ∧ who - 1 < (ld.length : Int) ∧ who ≤ 9223372036854775807
  ·rw [if_pos h1] at h
   obtain ⟨j, rfl⟩ : ∃ j, who = j + 1 := ⟨who - 1, by omega⟩
   rw [show j + 1 - 1 = j by omega] at h h1
   obtain ⟨gD, cD, rfl, _⟩ := Kd.R_form hD (by omega)
   obtain ⟨t, ht⟩ : ∃ t, rd ld j = t := ⟨_, rfl⟩
   rw [ht] at h
   by_cases h2 : 0 ≤ t
   ·rw [if_pos h2] at h
    by_cases h3 : t < (lb.length : Int)
    ·rw [if_pos h3] at h
     simp only [Option.some.injEq, Prod.mk.injEq] at h
     obtain ⟨rfl, rfl, rfl, rfl, rfl, rfl, rfl⟩ := h
     obtain ⟨gB, cB, rfl, _⟩ := Kd.R_form hL (by omega)
     exact sched_act.finish w0 w g T W N gD cD gB cB ld lb C j t h1.1 h1.2.1 (by omega) ht HB_ hg hb hD hL h2 h3
    ·rw [if_neg h3] at h
     cases h
   ·rw [if_neg h2] at h
    by_cases h3 : N < T
    ·rw [if_pos h3] at h
     by_cases h4 : N + 1 ≤ 9223372036854775807 ∧ -9223372036854775808 ≤ N
     ·rw [if_pos h4] at h
      simp only [Option.some.injEq, Prod.mk.injEq] at h
      obtain ⟨rfl, rfl, rfl, rfl, rfl, rfl, rfl⟩ := h
      exact sched_act.take w0 w g T W N gD cD vB ld lb C j t h1.1 h1.2.1 (by omega) ht HB_ hg hb hD hL (by omega) h3 h4.1 h4.2
     ·rw [if_neg h4] at h
      cases h
    ·rw [if_neg h3] at h
     simp only [Option.some.injEq, Prod.mk.injEq] at h
     obtain ⟨rfl, rfl, rfl, rfl, rfl, rfl, rfl⟩ := h
     by_cases h5 : t = -1
     ·exact sched_act.end1 w0 w g T W N gD cD vB ld lb C j t h1.1 h1.2.1 (by omega) ht HB_ hg hb hD hL (by omega) h5 h3
     ·exact sched_act.end2 w0 w g T W N gD cD vB ld lb C j t h1.1 h1.2.1 (by omega) ht HB_ hg hb hD hL (by omega) h5 h3
  ·rw [if_neg h1] at h
   cases h
/-- A row of one's own lies in another block than one of another type. -/
theorem row_far {α : Type} {d : Kd α} {e t g base : Nat} {ok : Nat → Prop} {w : World} {v : Value} {xs : List α} {cells : Array Value} (h : d.R e w base ok v xs) (hb : w.heap[g]? = some (.cells cells t (0, 0))) (ht : ∀ q, q ∈ e :: d.E → q ≠ t) (w' : World) (hm : ∀ k, k ≠ g → w'.heap[k]? = w.heap[k]?) : d.R e w' base ok v xs :=
 Kd.R_mono (Kd.R_move (Kd.R_types h hb ht) (fun k hk => hm k hk.2)) (fun k hk => hk.1)


end Go.Proofs.Ytoonddgldmfleaa.QSchedPlays
