-- Written by a program of this session (wip/tools/mkprint.py over the kit's print); Lean checks it.
import Derived.Test.YtoonddgldmfleaaQSchedStepsx0
import Derived.Test.YtoonddgldmfleaaQSchedStepsx2
namespace Go.Proofs.Ytoonddgldmfleaa.QSchedSteps
open Go.RowKit Go.Proofs.YtoonddgldmfleaaW.PrintWords Go.Proofs.YtoonddgldmfleaaW.PrintLast Go.Proofs.YtoonddgldmfleaaW.PrintMore
attribute [local go_sem] max2_int min2_int max_two min_two max_three min_three max_four min_four   -- for this text's walks alone
set_option linter.unusedVariables false
set_option linter.unusedSimpArgs false

/-! ### sched_May: function 35 -/
mutual
def sched_May.j0 : Nat → Bool → Int → Int → Int → List Int → List Bool → Bool → Option (Bool)
 | 0, _, _, _, _, _, _, _ => none
 | k + 1, x43, x160000, x160001, x160002, x160003, x160004, x160005 => if x43 = true then (some false) else (if 0 ≤ x160000 then (if (x160000 : Int).toNat ≤ 35184372088832 then (sched_May.l0 k (List.replicate (x160000 : Int).toNat 0) x160004 (x160004.length : Int) 0 x160000 x160001 x160002 x160003 x160004 x160005) else (none)) else (none))
def sched_May.l0 : Nat → List Int → List Bool → Int → Int → Int → Int → Int → List Int → List Bool → Bool → Option (Bool)
 | 0, _, _, _, _, _, _, _, _, _, _ => none
 | k + 1, x3, x48, x49, x50, x160000, x160001, x160002, x160003, x160004, x160005 => if x50 < x49 then (if 0 ≤ x50 then (if x50 < (x48.length : Int) then (if rdOf false x48 x50 = true then (if x50 < (x3.length : Int) then (sched_May.l0 k (x3.set (x50 : Int).toNat (wrap64 ((rd x3 x50) + 1))) x48 x49 (wrap64 (x50 + 1)) x160000 x160001 x160002 x160003 x160004 x160005) else (none)) else (sched_May.l0 k x3 x48 x49 (wrap64 (x50 + 1)) x160000 x160001 x160002 x160003 x160004 x160005)) else (none)) else (none)) else (sched_May.l1 k x3 x160003 (x160003.length : Int) 0 x160000 x160001 x160002 x160003 x160004 x160005)
def sched_May.l1 : Nat → List Int → List Int → Int → Int → Int → Int → Int → List Int → List Bool → Bool → Option (Bool)
 | 0, _, _, _, _, _, _, _, _, _, _ => none
 | k + 1, x3, x64, x65, x66, x160000, x160001, x160002, x160003, x160004, x160005 => if x66 < x65 then (if 0 ≤ x66 then (if x66 < (x64.length : Int) then (if (rd x64 x66) = (-1) then (sched_May.l1 k x3 x64 x65 (wrap64 (x66 + 1)) x160000 x160001 x160002 x160003 x160004 x160005) else (if (rd x64 x66) = (-2) then (sched_May.j3 k x3 (rd x64 x66) x64 x65 x66 (x160002 == x160000) x160000 x160001 x160002 x160003 x160004 x160005) else (sched_May.j3 k x3 (rd x64 x66) x64 x65 x66 false x160000 x160001 x160002 x160003 x160004 x160005))) else (none)) else (none)) else (sched_May.l2 k x3 (x3.length : Int) 0 x160000 x160001 x160002 x160003 x160004 x160005)
def sched_May.j3 : Nat → List Int → Int → List Int → Int → Int → Bool → Int → Int → Int → List Int → List Bool → Bool → Option (Bool)
 | 0, _, _, _, _, _, _, _, _, _, _, _, _ => none
 | k + 1, x3, x7, x64, x65, x66, x73, x160000, x160001, x160002, x160003, x160004, x160005 => if x73 = true then (sched_May.l1 k x3 x64 x65 (wrap64 (x66 + 1)) x160000 x160001 x160002 x160003 x160004 x160005) else (if x7 ≥ 0 then (if x7 < x160002 then (if 0 ≤ x7 then (if x7 < (x3.length : Int) then (sched_May.l1 k (x3.set (x7 : Int).toNat (wrap64 ((rd x3 x7) + 1))) x64 x65 (wrap64 (x66 + 1)) x160000 x160001 x160002 x160003 x160004 x160005) else (none)) else (none)) else (some false)) else (some false))
def sched_May.l2 : Nat → List Int → Int → Int → Int → Int → Int → List Int → List Bool → Bool → Option (Bool)
 | 0, _, _, _, _, _, _, _, _, _ => none
 | k + 1, x99, x100, x101, x160000, x160001, x160002, x160003, x160004, x160005 => if x101 < x100 then (if 0 ≤ x101 then (if x101 < (x99.length : Int) then (if ((decide (x101 < x160002)) != ((rd x99 x101) == 1)) = true then (some false) else (if (rd x99 x101) > 1 then (some false) else (sched_May.l2 k x99 x100 (wrap64 (x101 + 1)) x160000 x160001 x160002 x160003 x160004 x160005))) else (none)) else (none)) else (if x160005 = true then ((sched_over.f k x160000 x160001 x160002 x160003 x160004 x160005).bind fun t171 => (some t171)) else (some true))
end
def sched_May.f (k : Nat) (a0_0 : Int) (a0_1 : Int) (a0_2 : Int) (l0_3 : List Int) (l0_4 : List Bool) (a0_5 : Bool) : Option (Bool) := (sched_fits.f a0_0 a0_1).bind fun t160 => (if t160 = true then (if (l0_3.length : Int) = a0_1 then (if (l0_4.length : Int) = a0_0 then (if a0_2 < 0 then (sched_May.j0 k true a0_0 a0_1 a0_2 l0_3 l0_4 a0_5) else (sched_May.j0 k (decide (a0_2 > a0_0)) a0_0 a0_1 a0_2 l0_3 l0_4 a0_5)) else (sched_May.j0 k true a0_0 a0_1 a0_2 l0_3 l0_4 a0_5)) else (sched_May.j0 k true a0_0 a0_1 a0_2 l0_3 l0_4 a0_5)) else (sched_May.j0 k true a0_0 a0_1 a0_2 l0_3 l0_4 a0_5))
theorem sched_May.mono_l : ∀ k, (∀ y0 y1 y2 y3 y4 y5 y6, LeO (sched_May.j0 k y0 y1 y2 y3 y4 y5 y6) (sched_May.j0 (k + 1) y0 y1 y2 y3 y4 y5 y6)) ∧ (∀ y0 y1 y2 y3 y4 y5 y6 y7 y8 y9, LeO (sched_May.l0 k y0 y1 y2 y3 y4 y5 y6 y7 y8 y9) (sched_May.l0 (k + 1) y0 y1 y2 y3 y4 y5 y6 y7 y8 y9)) ∧ (∀ y0 y1 y2 y3 y4 y5 y6 y7 y8 y9, LeO (sched_May.l1 k y0 y1 y2 y3 y4 y5 y6 y7 y8 y9) (sched_May.l1 (k + 1) y0 y1 y2 y3 y4 y5 y6 y7 y8 y9)) ∧ (∀ y0 y1 y2 y3 y4 y5 y6 y7 y8 y9 y10 y11, LeO (sched_May.j3 k y0 y1 y2 y3 y4 y5 y6 y7 y8 y9 y10 y11) (sched_May.j3 (k + 1) y0 y1 y2 y3 y4 y5 y6 y7 y8 y9 y10 y11)) ∧ (∀ y0 y1 y2 y3 y4 y5 y6 y7 y8, LeO (sched_May.l2 k y0 y1 y2 y3 y4 y5 y6 y7 y8) (sched_May.l2 (k + 1) y0 y1 y2 y3 y4 y5 y6 y7 y8))
 | 0 => ⟨fun _ _ _ _ _ _ _ r h => by simp [sched_May.j0] at h, fun _ _ _ _ _ _ _ _ _ _ r h => by simp [sched_May.l0] at h, fun _ _ _ _ _ _ _ _ _ _ r h => by simp [sched_May.l1] at h, fun _ _ _ _ _ _ _ _ _ _ _ _ r h => by simp [sched_May.j3] at h, fun _ _ _ _ _ _ _ _ _ r h => by simp [sched_May.l2] at h⟩
 | k + 1 => by
  obtain ⟨ih0, ih1, ih2, ih3, ih4⟩ := sched_May.mono_l k
  refine ⟨?_, ?_, ?_, ?_, ?_⟩
  ·intro y0 y1 y2 y3 y4 y5 y6
   unfold sched_May.j0
   repeat' first
   | (with_reducible exact ih0 _ _ _ _ _ _ _)
   | (with_reducible exact ih1 _ _ _ _ _ _ _ _ _ _)
   | (with_reducible exact ih2 _ _ _ _ _ _ _ _ _ _)
   | (with_reducible exact ih3 _ _ _ _ _ _ _ _ _ _ _ _)
   | (with_reducible exact ih4 _ _ _ _ _ _ _ _ _)
   | (with_reducible exact sched_over.mono _ _ _ _ _ _ _)
   | (with_reducible exact LeO.refl _)
   | (with_reducible exact LeO.none _)
   | (with_reducible refine LeO.ite ?_ ?_)
   | (with_reducible refine LeO.bind ?_ (fun _ => ?_))
   | exact ih0 _ _ _ _ _ _ _
   | exact ih1 _ _ _ _ _ _ _ _ _ _
   | exact ih2 _ _ _ _ _ _ _ _ _ _
   | exact ih3 _ _ _ _ _ _ _ _ _ _ _ _
   | exact ih4 _ _ _ _ _ _ _ _ _
   | exact sched_over.mono _ _ _ _ _ _ _
   | exact LeO.none _
   | refine LeO.ite ?_ ?_
   | refine LeO.bind ?_ (fun _ => ?_)
  ·intro y0 y1 y2 y3 y4 y5 y6 y7 y8 y9
   unfold sched_May.l0
   repeat' first
   | (with_reducible exact ih0 _ _ _ _ _ _ _)
   | (with_reducible exact ih1 _ _ _ _ _ _ _ _ _ _)
   | (with_reducible exact ih2 _ _ _ _ _ _ _ _ _ _)
   | (with_reducible exact ih3 _ _ _ _ _ _ _ _ _ _ _ _)
   | (with_reducible exact ih4 _ _ _ _ _ _ _ _ _)
   | (with_reducible exact sched_over.mono _ _ _ _ _ _ _)
   | (with_reducible exact LeO.refl _)
   | (with_reducible exact LeO.none _)
   | (with_reducible refine LeO.ite ?_ ?_)
   | (with_reducible refine LeO.bind ?_ (fun _ => ?_))
   | exact ih0 _ _ _ _ _ _ _
   | exact ih1 _ _ _ _ _ _ _ _ _ _
   | exact ih2 _ _ _ _ _ _ _ _ _ _
   | exact ih3 _ _ _ _ _ _ _ _ _ _ _ _
   | exact ih4 _ _ _ _ _ _ _ _ _
   | exact sched_over.mono _ _ _ _ _ _ _
   | exact LeO.none _
   | refine LeO.ite ?_ ?_
   | refine LeO.bind ?_ (fun _ => ?_)
  ·intro y0 y1 y2 y3 y4 y5 y6 y7 y8 y9
   unfold sched_May.l1
   repeat' first
   | (with_reducible exact ih0 _ _ _ _ _ _ _)
   | (with_reducible exact ih1 _ _ _ _ _ _ _ _ _ _)
   | (with_reducible exact ih2 _ _ _ _ _ _ _ _ _ _)
   | (with_reducible exact ih3 _ _ _ _ _ _ _ _ _ _ _ _)
   | (with_reducible exact ih4 _ _ _ _ _ _ _ _ _)
   | (with_reducible exact sched_over.mono _ _ _ _ _ _ _)
   | (with_reducible exact LeO.refl _)
   | (with_reducible exact LeO.none _)
   | (with_reducible refine LeO.ite ?_ ?_)
   | (with_reducible refine LeO.bind ?_ (fun _ => ?_))
   | exact ih0 _ _ _ _ _ _ _
   | exact ih1 _ _ _ _ _ _ _ _ _ _
   | exact ih2 _ _ _ _ _ _ _ _ _ _
   | exact ih3 _ _ _ _ _ _ _ _ _ _ _ _
   | exact ih4 _ _ _ _ _ _ _ _ _
   | exact sched_over.mono _ _ _ _ _ _ _
   | exact LeO.none _
   | refine LeO.ite ?_ ?_
   | refine LeO.bind ?_ (fun _ => ?_)
  ·intro y0 y1 y2 y3 y4 y5 y6 y7 y8 y9 y10 y11
   unfold sched_May.j3
   repeat' first
   | (with_reducible exact ih0 _ _ _ _ _ _ _)
   | (with_reducible exact ih1 _ _ _ _ _ _ _ _ _ _)
   | (with_reducible exact ih2 _ _ _ _ _ _ _ _ _ _)
   | (with_reducible exact ih3 _ _ _ _ _ _ _ _ _ _ _ _)
   | (with_reducible exact ih4 _ _ _ _ _ _ _ _ _)
   | (with_reducible exact sched_over.mono _ _ _ _ _ _ _)
   | (with_reducible exact LeO.refl _)
   | (with_reducible exact LeO.none _)
   | (with_reducible refine LeO.ite ?_ ?_)
   | (with_reducible refine LeO.bind ?_ (fun _ => ?_))
   | exact ih0 _ _ _ _ _ _ _
   | exact ih1 _ _ _ _ _ _ _ _ _ _
   | exact ih2 _ _ _ _ _ _ _ _ _ _
   | exact ih3 _ _ _ _ _ _ _ _ _ _ _ _
   | exact ih4 _ _ _ _ _ _ _ _ _
   | exact sched_over.mono _ _ _ _ _ _ _
   | exact LeO.none _
   | refine LeO.ite ?_ ?_
   | refine LeO.bind ?_ (fun _ => ?_)
  ·intro y0 y1 y2 y3 y4 y5 y6 y7 y8
   unfold sched_May.l2
   repeat' first
   | (with_reducible exact ih0 _ _ _ _ _ _ _)
   | (with_reducible exact ih1 _ _ _ _ _ _ _ _ _ _)
   | (with_reducible exact ih2 _ _ _ _ _ _ _ _ _ _)
   | (with_reducible exact ih3 _ _ _ _ _ _ _ _ _ _ _ _)
   | (with_reducible exact ih4 _ _ _ _ _ _ _ _ _)
   | (with_reducible exact sched_over.mono _ _ _ _ _ _ _)
   | (with_reducible exact LeO.refl _)
   | (with_reducible exact LeO.none _)
   | (with_reducible refine LeO.ite ?_ ?_)
   | (with_reducible refine LeO.bind ?_ (fun _ => ?_))
   | exact ih0 _ _ _ _ _ _ _
   | exact ih1 _ _ _ _ _ _ _ _ _ _
   | exact ih2 _ _ _ _ _ _ _ _ _ _
   | exact ih3 _ _ _ _ _ _ _ _ _ _ _ _
   | exact ih4 _ _ _ _ _ _ _ _ _
   | exact sched_over.mono _ _ _ _ _ _ _
   | exact LeO.none _
   | refine LeO.ite ?_ ?_
   | refine LeO.bind ?_ (fun _ => ?_)
theorem sched_May.mono : ∀ a0 a1 a2 a3 a4 a5 k, LeO (sched_May.f k a0 a1 a2 a3 a4 a5) (sched_May.f (k + 1) a0 a1 a2 a3 a4 a5) := by
 intro a0 a1 a2 a3 a4 a5 k
 obtain ⟨ih0, ih1, ih2, ih3, ih4⟩ := sched_May.mono_l k
 unfold sched_May.f
 repeat' first
   | (with_reducible exact ih0 _ _ _ _ _ _ _)
   | (with_reducible exact ih1 _ _ _ _ _ _ _ _ _ _)
   | (with_reducible exact ih2 _ _ _ _ _ _ _ _ _ _)
   | (with_reducible exact ih3 _ _ _ _ _ _ _ _ _ _ _ _)
   | (with_reducible exact ih4 _ _ _ _ _ _ _ _ _)
   | (with_reducible exact sched_over.mono _ _ _ _ _ _ _)
   | (with_reducible exact LeO.refl _)
   | (with_reducible exact LeO.none _)
   | (with_reducible refine LeO.ite ?_ ?_)
   | (with_reducible refine LeO.bind ?_ (fun _ => ?_))
   | exact ih0 _ _ _ _ _ _ _
   | exact ih1 _ _ _ _ _ _ _ _ _ _
   | exact ih2 _ _ _ _ _ _ _ _ _ _
   | exact ih3 _ _ _ _ _ _ _ _ _ _ _ _
   | exact ih4 _ _ _ _ _ _ _ _ _
   | exact sched_over.mono _ _ _ _ _ _ _
   | exact LeO.none _
   | refine LeO.ite ?_ ?_
   | refine LeO.bind ?_ (fun _ => ?_)
set_option maxHeartbeats 8000000 in
set_option maxRecDepth 100000 in
theorem sched_May.calls (k : Nat) (a0_0 : Int) (a0_1 : Int) (a0_2 : Int) (A0_3 : Option Addr) (c0_3 : Nat) (l0_3 : List Int) (A0_4 : Option Addr) (c0_4 : Nat) (l0_4 : List Bool) (a0_5 : Bool) (r : Bool) (w : World) (hr0_3 : Kd.C (Kd.int .i64) w A0_3 l0_3.length l0_3) (hc0_3 : l0_3.length ≤ c0_3) (hr0_4 : Kd.C Kd.bool w A0_4 l0_4.length l0_4) (hc0_4 : l0_4.length ≤ c0_4) (h : sched_May.f k a0_0 a0_1 a0_2 l0_3 l0_4 a0_5 = some r) :
  Calls Try.prog 35 #[.agg #[.int .i64 a0_0, .int .i64 a0_1, .int .i64 a0_2, .slice A0_3 l0_3.length c0_3, .slice A0_4 l0_4.length c0_4, .bool a0_5]] w fun e w' => e = .returned (.bool r) ∧ Below w.heap.size w w' := by
 have hu42 := Try.underlying42
 have HR0_3 := aaM hr0_3
 have HC0_3 := aaM hc0_3
 clear hr0_3 hc0_3
 have HR0_4 := aaM hr0_4
 have HC0_4 := aaM hc0_4
 clear hr0_4 hc0_4
 have HB := aaM (Below.refl w.heap.size w)
 have H : ((sched_fits.f a0_0 a0_1).bind fun t160 => (if t160 = true then (if (l0_3.length : Int) = a0_1 then (if (l0_4.length : Int) = a0_0 then (if a0_2 < 0 then (sched_May.j0 k true a0_0 a0_1 a0_2 l0_3 l0_4 a0_5) else (sched_May.j0 k (decide (a0_2 > a0_0)) a0_0 a0_1 a0_2 l0_3 l0_4 a0_5)) else (sched_May.j0 k true a0_0 a0_1 a0_2 l0_3 l0_4 a0_5)) else (sched_May.j0 k true a0_0 a0_1 a0_2 l0_3 l0_4 a0_5)) else (sched_May.j0 k true a0_0 a0_1 a0_2 l0_3 l0_4 a0_5))) = some r := h
 clear h
 have HC2 := aaM H
 clear H
 go_enter Try.func35, Try.ntmps35
 go_upto_region 1 with (first | ((with_reducible refine gate_dst (N := 1) rfl ?_); (try (refine gate_guard (by rfl) ?_; dsimp only)); refine box_event ?hg (N := 1) ?hd (cs := #[.int .i64 a0_0, .int .i64 a0_1, .int .i64 a0_2, .slice A0_3 l0_3.length c0_3, .slice A0_4 l0_4.length c0_4, .bool a0_5]) (t := 42) ?hr ?_; (case hd => rfl); (case hg => rfl); (case hr => first | (go_simp; done) | (go_simp; rfl)); intro gb159 hg w3 hbox hb; have n0_ := aaM (lP (by repeat (first | (with_reducible first | exact HB.out | apply lA | apply lN | apply lD) | exact HB.out)) hb); have n1_ := aaM (hbox); have n2_ := aaM ((by rw [hg]; exact (lZ (by repeat (first | (with_reducible first | exact HB.out | apply lA | apply lN | apply lD) | exact HB.out))) : w.heap.size ≤ gb159)); have n3_ := aaM ((by rw [hg]; exact (lZ (by repeat (first | (with_reducible first | exact HB.out | apply lA | apply lN | apply lD) | exact HB.out))) : w.heap.size ≤ gb159)); clear HB; have HB := n0_; have BK159 := n1_; have GW159 := n2_; have GE159 := n3_; clear n0_ n1_ n2_ n3_; clear hb hbox hg))
 (try simp only [Act.put, ssB, ssZ, ssS])
 go_cut [43] (fun v43 wc => ∃ (kq : Nat) (x43_1 : Bool), v43 = .bool x43_1 ∧ Aside0 (sched_May.j0 kq x43_1 a0_0 a0_1 a0_2 l0_3 l0_4 a0_5 = some r) ∧ Aside0 (kq ≤ k) ∧ Aside0 (wc.heap[gb159]? = some (.cells #[.int .i64 a0_0, .int .i64 a0_1, .int .i64 a0_2, (.slice A0_3 l0_3.length c0_3), (.slice A0_4 l0_4.length c0_4), .bool a0_5] 42 (0, 0))) ∧ Aside0 (Below w.heap.size w wc))
 case first =>
  have H := HC2.out
  clear HC2
  replace H := ooB.mp H
  obtain ⟨t160, A40, H⟩ := H
  replace H : (if t160 = true then (if (l0_3.length : Int) = a0_1 then (if (l0_4.length : Int) = a0_0 then (if a0_2 < 0 then (sched_May.j0 k true a0_0 a0_1 a0_2 l0_3 l0_4 a0_5) else (sched_May.j0 k (decide (a0_2 > a0_0)) a0_0 a0_1 a0_2 l0_3 l0_4 a0_5)) else (sched_May.j0 k true a0_0 a0_1 a0_2 l0_3 l0_4 a0_5)) else (sched_May.j0 k true a0_0 a0_1 a0_2 l0_3 l0_4 a0_5)) else (sched_May.j0 k true a0_0 a0_1 a0_2 l0_3 l0_4 a0_5)) = some r := H
  have A4 := aaM A40
  clear A40
  by_cases c5 : t160 = true
  ·subst c5
   have H1 : (if (l0_3.length : Int) = a0_1 then (if (l0_4.length : Int) = a0_0 then (if a0_2 < 0 then (sched_May.j0 k true a0_0 a0_1 a0_2 l0_3 l0_4 a0_5) else (sched_May.j0 k (decide (a0_2 > a0_0)) a0_0 a0_1 a0_2 l0_3 l0_4 a0_5)) else (sched_May.j0 k true a0_0 a0_1 a0_2 l0_3 l0_4 a0_5)) else (sched_May.j0 k true a0_0 a0_1 a0_2 l0_3 l0_4 a0_5)) = some r := by rw [if_pos rfl] at H; exact H
   clear H
   have H := H1
   clear H1
   by_cases c6 : (l0_3.length : Int) = a0_1
   ·rw [if_pos c6] at H
    have c6b0 : ((l0_3.length : Int) == a0_1) = true := beq_iff_eq.mpr c6
    have c6b1 : ((l0_3.length : Int) != a0_1) = false := bne_eq_false_iff_eq.mpr c6
    clear c6
    (first | rw [c6b0] | (simp only [i64_w, i32_w]; rw [c6b0]) | skip)
    by_cases c7 : (l0_4.length : Int) = a0_0
    ·rw [if_pos c7] at H
     have c7b0 : ((l0_4.length : Int) == a0_0) = true := beq_iff_eq.mpr c7
     have c7b1 : ((l0_4.length : Int) != a0_0) = false := bne_eq_false_iff_eq.mpr c7
     clear c7
     by_cases c8 : a0_2 < 0
     ·rw [if_pos c8] at H
      have c8b0 : decide (a0_2 < 0) = true := decide_eq_true c8
      clear c8
      have H' := aaM H
      clear H
      have hcz9_0 : w3.cell? ⟨gb159, 0, none⟩ = some (.int .i64 a0_0) := (bC BK159.out 0).trans rfl
      have hcz9_1 : w3.cell? ⟨gb159, 1, none⟩ = some (.int .i64 a0_1) := (bC BK159.out 1).trans rfl
      have hcz9_2 : w3.cell? ⟨gb159, 2, none⟩ = some (.int .i64 a0_2) := (bC BK159.out 2).trans rfl
      have hcz9_3 : w3.cell? ⟨gb159, 3, none⟩ = some (.slice A0_3 l0_3.length c0_3) := (bC BK159.out 3).trans rfl
      have hcz9_4 : w3.cell? ⟨gb159, 4, none⟩ = some (.slice A0_4 l0_4.length c0_4) := (bC BK159.out 4).trans rfl
      have hcz9_5 : w3.cell? ⟨gb159, 5, none⟩ = some (.bool a0_5) := (bC BK159.out 5).trans rfl
      have hfz9_0 := bF BK159.out 0
      have hfz9_1 := bF BK159.out 1
      have hfz9_2 := bF BK159.out 2
      have hfz9_3 := bF BK159.out 3
      have hfz9_4 := bF BK159.out 4
      have hfz9_5 := bF BK159.out 5
      go_wp2_with (first | ((with_reducible refine gate_callee (f := 65) rfl ?_); refine goesL_ (some 14) rfl rfl Try.func65 (by kernel_rfl) rfl #[.int .i64 a0_0, .int .i64 a0_1] rfl (by (try simp only [List.map_toArray, List.map_cons, List.map_nil]); first | done | rfl | (simp only [List.length_drop, List.length_take]; rfl)) ?_; (with_reducible refine (sched_fits.calls a0_0 a0_1 true _ A4.out).mono ?_); rintro e w' ⟨rfl, ⟨nd, rfl⟩⟩; refine ⟨_, rfl, ?_⟩))
      go_meet
      case rel => exact ⟨_, (true), (by first | rfl | (simp; done) | (simp [*]; done)), H', ⟨by first | omega | exact Nat.le_refl _⟩, ⟨by (with_reducible repeat (first | refine bN ?_ _ | refine bD ?_ | refine bA ?_ _)); exact BK159.out⟩, ⟨by repeat (first | (with_reducible first | exact HB.out | apply lA | apply lN | apply lD | refine lS ?_ GE159.out) | exact HB.out)⟩⟩
     ·rw [if_neg c8] at H
      have c8b0 : decide (a0_2 < 0) = false := decide_eq_false c8
      clear c8
      have H' := aaM H
      clear H
      have hcz10_0 : w3.cell? ⟨gb159, 0, none⟩ = some (.int .i64 a0_0) := (bC BK159.out 0).trans rfl
      have hcz10_1 : w3.cell? ⟨gb159, 1, none⟩ = some (.int .i64 a0_1) := (bC BK159.out 1).trans rfl
      have hcz10_2 : w3.cell? ⟨gb159, 2, none⟩ = some (.int .i64 a0_2) := (bC BK159.out 2).trans rfl
      have hcz10_3 : w3.cell? ⟨gb159, 3, none⟩ = some (.slice A0_3 l0_3.length c0_3) := (bC BK159.out 3).trans rfl
      have hcz10_4 : w3.cell? ⟨gb159, 4, none⟩ = some (.slice A0_4 l0_4.length c0_4) := (bC BK159.out 4).trans rfl
      have hcz10_5 : w3.cell? ⟨gb159, 5, none⟩ = some (.bool a0_5) := (bC BK159.out 5).trans rfl
      have hfz10_0 := bF BK159.out 0
      have hfz10_1 := bF BK159.out 1
      have hfz10_2 := bF BK159.out 2
      have hfz10_3 := bF BK159.out 3
      have hfz10_4 := bF BK159.out 4
      have hfz10_5 := bF BK159.out 5
      go_wp2_with (first | ((with_reducible refine gate_callee (f := 65) rfl ?_); refine goesL_ (some 14) rfl rfl Try.func65 (by kernel_rfl) rfl #[.int .i64 a0_0, .int .i64 a0_1] rfl (by (try simp only [List.map_toArray, List.map_cons, List.map_nil]); first | done | rfl | (simp only [List.length_drop, List.length_take]; rfl)) ?_; (with_reducible refine (sched_fits.calls a0_0 a0_1 true _ A4.out).mono ?_); rintro e w' ⟨rfl, ⟨nd, rfl⟩⟩; refine ⟨_, rfl, ?_⟩))
      go_meet
      case rel => exact ⟨_, (decide (a0_2 > a0_0)), (by first | rfl | (simp; done) | (simp [*]; done)), H', ⟨by first | omega | exact Nat.le_refl _⟩, ⟨by (with_reducible repeat (first | refine bN ?_ _ | refine bD ?_ | refine bA ?_ _)); exact BK159.out⟩, ⟨by repeat (first | (with_reducible first | exact HB.out | apply lA | apply lN | apply lD | refine lS ?_ GE159.out) | exact HB.out)⟩⟩
    ·rw [if_neg c7] at H
     have c7b0 : ((l0_4.length : Int) == a0_0) = false := beq_eq_false_iff_ne.mpr c7
     have c7b1 : ((l0_4.length : Int) != a0_0) = true := bne_iff_ne.mpr c7
     have H' := aaM H
     clear H
     have hcz11_0 : w3.cell? ⟨gb159, 0, none⟩ = some (.int .i64 a0_0) := (bC BK159.out 0).trans rfl
     have hcz11_1 : w3.cell? ⟨gb159, 1, none⟩ = some (.int .i64 a0_1) := (bC BK159.out 1).trans rfl
     have hcz11_2 : w3.cell? ⟨gb159, 2, none⟩ = some (.int .i64 a0_2) := (bC BK159.out 2).trans rfl
     have hcz11_3 : w3.cell? ⟨gb159, 3, none⟩ = some (.slice A0_3 l0_3.length c0_3) := (bC BK159.out 3).trans rfl
     have hcz11_4 : w3.cell? ⟨gb159, 4, none⟩ = some (.slice A0_4 l0_4.length c0_4) := (bC BK159.out 4).trans rfl
     have hcz11_5 : w3.cell? ⟨gb159, 5, none⟩ = some (.bool a0_5) := (bC BK159.out 5).trans rfl
     have hfz11_0 := bF BK159.out 0
     have hfz11_1 := bF BK159.out 1
     have hfz11_2 := bF BK159.out 2
     have hfz11_3 := bF BK159.out 3
     have hfz11_4 := bF BK159.out 4
     have hfz11_5 := bF BK159.out 5
     go_wp2_with (first | ((with_reducible refine gate_callee (f := 65) rfl ?_); refine goesL_ (some 14) rfl rfl Try.func65 (by kernel_rfl) rfl #[.int .i64 a0_0, .int .i64 a0_1] rfl (by (try simp only [List.map_toArray, List.map_cons, List.map_nil]); first | done | rfl | (simp only [List.length_drop, List.length_take]; rfl)) ?_; (with_reducible refine (sched_fits.calls a0_0 a0_1 true _ A4.out).mono ?_); rintro e w' ⟨rfl, ⟨nd, rfl⟩⟩; refine ⟨_, rfl, ?_⟩))
     go_meet
     case rel => exact ⟨_, (true), (by first | rfl | (simp; done) | (simp [*]; done)), H', ⟨by first | omega | exact Nat.le_refl _⟩, ⟨by (with_reducible repeat (first | refine bN ?_ _ | refine bD ?_ | refine bA ?_ _)); exact BK159.out⟩, ⟨by repeat (first | (with_reducible first | exact HB.out | apply lA | apply lN | apply lD | refine lS ?_ GE159.out) | exact HB.out)⟩⟩
   ·rw [if_neg c6] at H
    have c6b0 : ((l0_3.length : Int) == a0_1) = false := beq_eq_false_iff_ne.mpr c6
    have c6b1 : ((l0_3.length : Int) != a0_1) = true := bne_iff_ne.mpr c6
    (first | rw [c6b0] | (simp only [i64_w, i32_w]; rw [c6b0]) | skip)
    have H' := aaM H
    clear H
    have hcz12_0 : w3.cell? ⟨gb159, 0, none⟩ = some (.int .i64 a0_0) := (bC BK159.out 0).trans rfl
    have hcz12_1 : w3.cell? ⟨gb159, 1, none⟩ = some (.int .i64 a0_1) := (bC BK159.out 1).trans rfl
    have hcz12_2 : w3.cell? ⟨gb159, 2, none⟩ = some (.int .i64 a0_2) := (bC BK159.out 2).trans rfl
    have hcz12_3 : w3.cell? ⟨gb159, 3, none⟩ = some (.slice A0_3 l0_3.length c0_3) := (bC BK159.out 3).trans rfl
    have hcz12_4 : w3.cell? ⟨gb159, 4, none⟩ = some (.slice A0_4 l0_4.length c0_4) := (bC BK159.out 4).trans rfl
    have hcz12_5 : w3.cell? ⟨gb159, 5, none⟩ = some (.bool a0_5) := (bC BK159.out 5).trans rfl
    have hfz12_0 := bF BK159.out 0
    have hfz12_1 := bF BK159.out 1
    have hfz12_2 := bF BK159.out 2
    have hfz12_3 := bF BK159.out 3
    have hfz12_4 := bF BK159.out 4
    have hfz12_5 := bF BK159.out 5
    go_wp2_with (first | ((with_reducible refine gate_callee (f := 65) rfl ?_); refine goesL_ (some 14) rfl rfl Try.func65 (by kernel_rfl) rfl #[.int .i64 a0_0, .int .i64 a0_1] rfl (by (try simp only [List.map_toArray, List.map_cons, List.map_nil]); first | done | rfl | (simp only [List.length_drop, List.length_take]; rfl)) ?_; (with_reducible refine (sched_fits.calls a0_0 a0_1 true _ A4.out).mono ?_); rintro e w' ⟨rfl, ⟨nd, rfl⟩⟩; refine ⟨_, rfl, ?_⟩))
    go_meet
    case rel => exact ⟨_, (true), (by first | rfl | (simp; done) | (simp [*]; done)), H', ⟨by first | omega | exact Nat.le_refl _⟩, ⟨by (with_reducible repeat (first | refine bN ?_ _ | refine bD ?_ | refine bA ?_ _)); exact BK159.out⟩, ⟨by repeat (first | (with_reducible first | exact HB.out | apply lA | apply lN | apply lD | refine lS ?_ GE159.out) | exact HB.out)⟩⟩
  ·replace c5 := Bool.eq_false_iff.mpr c5
   subst c5
   have H1 : (sched_May.j0 k true a0_0 a0_1 a0_2 l0_3 l0_4 a0_5) = some r := by rw [if_neg (show ¬ (false = true) by decide)] at H; exact H
   clear H
   have H := H1
   clear H1
   have H' := aaM H
   clear H
   have hcz13_0 : w3.cell? ⟨gb159, 0, none⟩ = some (.int .i64 a0_0) := (bC BK159.out 0).trans rfl
   have hcz13_1 : w3.cell? ⟨gb159, 1, none⟩ = some (.int .i64 a0_1) := (bC BK159.out 1).trans rfl
   have hcz13_2 : w3.cell? ⟨gb159, 2, none⟩ = some (.int .i64 a0_2) := (bC BK159.out 2).trans rfl
   have hcz13_3 : w3.cell? ⟨gb159, 3, none⟩ = some (.slice A0_3 l0_3.length c0_3) := (bC BK159.out 3).trans rfl
   have hcz13_4 : w3.cell? ⟨gb159, 4, none⟩ = some (.slice A0_4 l0_4.length c0_4) := (bC BK159.out 4).trans rfl
   have hcz13_5 : w3.cell? ⟨gb159, 5, none⟩ = some (.bool a0_5) := (bC BK159.out 5).trans rfl
   have hfz13_0 := bF BK159.out 0
   have hfz13_1 := bF BK159.out 1
   have hfz13_2 := bF BK159.out 2
   have hfz13_3 := bF BK159.out 3
   have hfz13_4 := bF BK159.out 4
   have hfz13_5 := bF BK159.out 5
   go_wp2_with (first | ((with_reducible refine gate_callee (f := 65) rfl ?_); refine goesL_ (some 14) rfl rfl Try.func65 (by kernel_rfl) rfl #[.int .i64 a0_0, .int .i64 a0_1] rfl (by (try simp only [List.map_toArray, List.map_cons, List.map_nil]); first | done | rfl | (simp only [List.length_drop, List.length_take]; rfl)) ?_; (with_reducible refine (sched_fits.calls a0_0 a0_1 false _ A4.out).mono ?_); rintro e w' ⟨rfl, ⟨nd, rfl⟩⟩; refine ⟨_, rfl, ?_⟩))
   go_meet
   case rel => exact ⟨_, (true), (by first | rfl | (simp; done) | (simp [*]; done)), H', ⟨by first | omega | exact Nat.le_refl _⟩, ⟨by (with_reducible repeat (first | refine bN ?_ _ | refine bD ?_ | refine bA ?_ _)); exact BK159.out⟩, ⟨by repeat (first | (with_reducible first | exact HB.out | apply lA | apply lN | apply lD | refine lS ?_ GE159.out) | exact HB.out)⟩⟩
 case rest =>
  clear HC2
  try clear p2
  try clear c3
  try clear c5
  try clear c6
  try clear c6b0
  try clear c6b1
  try clear c7
  try clear c7b0
  try clear c7b1
  try clear c8
  try clear c8b0
  try clear hcz10_0
  try clear hcz10_1
  try clear hcz10_2
  try clear hcz10_3
  try clear hcz10_4
  try clear hcz10_5
  try clear hcz11_0
  try clear hcz11_1
  try clear hcz11_2
  try clear hcz11_3
  try clear hcz11_4
  try clear hcz11_5
  try clear hcz12_0
  try clear hcz12_1
  try clear hcz12_2
  try clear hcz12_3
  try clear hcz12_4
  try clear hcz12_5
  try clear hcz13_0
  try clear hcz13_1
  try clear hcz13_2
  try clear hcz13_3
  try clear hcz13_4
  try clear hcz13_5
  try clear hcz9_0
  try clear hcz9_1
  try clear hcz9_2
  try clear hcz9_3
  try clear hcz9_4
  try clear hcz9_5
  try clear hfz10_0
  try clear hfz10_1
  try clear hfz10_2
  try clear hfz10_3
  try clear hfz10_4
  try clear hfz10_5
  try clear hfz11_0
  try clear hfz11_1
  try clear hfz11_2
  try clear hfz11_3
  try clear hfz11_4
  try clear hfz11_5
  try clear hfz12_0
  try clear hfz12_1
  try clear hfz12_2
  try clear hfz12_3
  try clear hfz12_4
  try clear hfz12_5
  try clear hfz13_0
  try clear hfz13_1
  try clear hfz13_2
  try clear hfz13_3
  try clear hfz13_4
  try clear hfz13_5
  try clear hfz9_0
  try clear hfz9_1
  try clear hfz9_2
  try clear hfz9_3
  try clear hfz9_4
  try clear hfz9_5
  obtain ⟨kq, x43_1, rfl, HA, HJ1, BK159, HB⟩ := hcut
  cases kq with
  | zero => exact absurd HA.out (by simp [sched_May.j0])
  | succ kj1 =>
   have H := HA.out
   clear HA
   simp only [sched_May.j0] at H
   by_cases c14 : x43_1 = true
   ·subst c14
    have H1 : (some false) = some r := by rw [if_pos rfl] at H; exact H
    clear H
    have H := H1
    clear H1
    obtain rfl := Option.some.inj H
    go_wp2
    all_goals (go_ret; exact ⟨by first | rfl | (simp [errW_none, errW_some] <;> rfl) | (simp [*, errW_none, errW_some] <;> rfl) | (simp_all; done), by repeat (first | (with_reducible first | exact HB.out | apply lA | apply lN | apply lD | refine lS ?_ GE159.out) | exact HB.out)⟩)
   ·replace c14 := Bool.eq_false_iff.mpr c14
    subst c14
    have H1 : (if 0 ≤ a0_0 then (if (a0_0 : Int).toNat ≤ 35184372088832 then (sched_May.l0 kj1 (List.replicate (a0_0 : Int).toNat 0) l0_4 (l0_4.length : Int) 0 a0_0 a0_1 a0_2 l0_3 l0_4 a0_5) else (none)) else (none)) = some r := by rw [if_neg (show ¬ (false = true) by decide)] at H; exact H
    clear H
    have H := H1
    clear H1
    by_cases c15 : 0 ≤ a0_0
    ·rw [if_pos c15] at H
     have c15b0 := eq_true c15
     have c15b1 : decide (0 ≤ a0_0) = true := decide_eq_true c15
     clear c15
     by_cases c16 : (a0_0 : Int).toNat ≤ 35184372088832
     ·rw [if_pos c16] at H
      have c16b0 := eq_true c16
      have c16b1 : decide ((a0_0 : Int).toNat ≤ 35184372088832) = true := decide_eq_true c16
      clear c16
      obtain ⟨y161, hy161⟩ : ∃ y_ : List Int, y_ = (List.replicate (a0_0 : Int).toNat 0) := ⟨_, rfl⟩
      replace H : (sched_May.l0 kj1 y161 l0_4 (l0_4.length : Int) 0 a0_0 a0_1 a0_2 l0_3 l0_4 a0_5) = some r := by first | (rw [hy161]; with_reducible exact H) | (have H2_ := (Option.bind_some _ _).symm.trans H; rw [hy161]; with_reducible exact H2_) | (have H2_ := (Option.bind_some _ _).symm.trans H; with_reducible exact H2_) | with_reducible exact H | (rw [hy161]; exact H) | exact H
      have Ny161 := aaM hy161
      clear hy161
      have H' := aaM H
      clear H
      have hcz17_0 : wc.cell? ⟨gb159, 0, none⟩ = some (.int .i64 a0_0) := (bC BK159.out 0).trans rfl
      have hcz17_1 : wc.cell? ⟨gb159, 1, none⟩ = some (.int .i64 a0_1) := (bC BK159.out 1).trans rfl
      have hcz17_2 : wc.cell? ⟨gb159, 2, none⟩ = some (.int .i64 a0_2) := (bC BK159.out 2).trans rfl
      have hcz17_3 : wc.cell? ⟨gb159, 3, none⟩ = some (.slice A0_3 l0_3.length c0_3) := (bC BK159.out 3).trans rfl
      have hcz17_4 : wc.cell? ⟨gb159, 4, none⟩ = some (.slice A0_4 l0_4.length c0_4) := (bC BK159.out 4).trans rfl
      have hcz17_5 : wc.cell? ⟨gb159, 5, none⟩ = some (.bool a0_5) := (bC BK159.out 5).trans rfl
      have hfz17_0 := bF BK159.out 0
      have hfz17_1 := bF BK159.out 1
      have hfz17_2 := bF BK159.out 2
      have hfz17_3 := bF BK159.out 3
      have hfz17_4 := bF BK159.out 4
      have hfz17_5 := bF BK159.out 5
      go_wp2_with (first | ((with_reducible refine gate_dst (N := 46) rfl ?_); (try (refine gate_guard (by rfl) ?_; dsimp only)); refine Kd.R_make (Kd.int .i64) _ 3 rfl (N := 46) rfl 38 _ _ rfl a0_0 rfl rfl Try.underlying38 (.int .i64 0) 8 info3 rfl (by decide) (by omega) 0 (ok := fun _ => True) (okp := fun _ => True) rfl (fun _ hk => hk) trivial (of_decide_eq_true (by first | (with_reducible assumption) | assumption)) (Nat.le_trans (Nat.mul_le_mul_right _ (of_decide_eq_true (by first | (with_reducible assumption) | assumption) : a0_0.toNat ≤ 35184372088832)) (by omega)) (Below.refl _ _) (Nat.le_refl _) ?_; intro v162 w18 ho19 hb hg_ hnew_; clear hg_ hnew_; (first | rw [← Ny161.out] at ho19 | (simp only [Int.reduceToNat] at ho19; rw [← Ny161.out] at ho19)); have n0_ := aaM (Kd.R_lower ho19 (lZ (by repeat (first | (with_reducible first | exact HB.out | apply lA | apply lN | apply lD | refine lS ?_ GE159.out) | exact HB.out)))); have n1_ := aaM (bB (g := gb159) (o := .cells #[.int .i64 a0_0, .int .i64 a0_1, .int .i64 a0_2, .slice A0_3 l0_3.length c0_3, .slice A0_4 l0_4.length c0_4, .bool a0_5] 42 (0, 0)) (by (with_reducible repeat (first | refine bN ?_ _ | refine bD ?_ | refine bA ?_ _)); exact BK159.out) hb); have n2_ := aaM (lP (by repeat (first | (with_reducible first | exact HB.out | apply lA | apply lN | apply lD | refine lS ?_ GE159.out) | exact HB.out)) hb); clear BK159; clear HB; have HO163 := n0_; have BK159 := n1_; have HB := n2_; clear n0_ n1_ n2_; clear hb ho19; have hcz20_0 : w18.cell? ⟨gb159, 0, none⟩ = some (.int .i64 a0_0) := (bC BK159.out 0).trans rfl; have hcz20_1 : w18.cell? ⟨gb159, 1, none⟩ = some (.int .i64 a0_1) := (bC BK159.out 1).trans rfl; have hcz20_2 : w18.cell? ⟨gb159, 2, none⟩ = some (.int .i64 a0_2) := (bC BK159.out 2).trans rfl; have hcz20_3 : w18.cell? ⟨gb159, 3, none⟩ = some (.slice A0_3 l0_3.length c0_3) := (bC BK159.out 3).trans rfl; have hcz20_4 : w18.cell? ⟨gb159, 4, none⟩ = some (.slice A0_4 l0_4.length c0_4) := (bC BK159.out 4).trans rfl; have hcz20_5 : w18.cell? ⟨gb159, 5, none⟩ = some (.bool a0_5) := (bC BK159.out 5).trans rfl; have hfz20_0 := bF BK159.out 0; have hfz20_1 := bF BK159.out 1; have hfz20_2 := bF BK159.out 2; have hfz20_3 := bF BK159.out 3; have hfz20_4 := bF BK159.out 4; have hfz20_5 := bF BK159.out 5))
      go_loopg [50] kj1 (fun kq v50 w' => ∃ (x3_2 : List Int) (x50_2 : Int), v50 = .int .i64 x50_2 ∧ Aside0 (sched_May.l0 kq x3_2 l0_4 (l0_4.length : Int) x50_2 a0_0 a0_1 a0_2 l0_3 l0_4 a0_5 = some r) ∧ Aside0 (kq ≤ kj1) ∧ Aside0 (Kd.R (Kd.int .i64) 3 w' w.heap.size (fun _ => True) v162 x3_2) ∧ Aside0 (w'.heap[gb159]? = some (.cells #[.int .i64 a0_0, .int .i64 a0_1, .int .i64 a0_2, (.slice A0_3 l0_3.length c0_3), (.slice A0_4 l0_4.length c0_4), .bool a0_5] 42 (0, 0))) ∧ Aside0 (Below w.heap.size w w'))
      case atStart => exact ⟨(y161), (0), (by first | rfl | (simp; done) | (simp [*]; done)), H', ⟨Nat.le_refl _⟩, ⟨by (with_reducible repeat (first | apply rrA | apply rrN | apply rrD)); exact HO163.out⟩, ⟨by (with_reducible repeat (first | refine bN ?_ _ | refine bD ?_ | refine bA ?_ _)); exact BK159.out⟩, ⟨by repeat (first | (with_reducible first | exact HB.out | apply lA | apply lN | apply lD | refine lS ?_ GE159.out) | exact HB.out)⟩⟩
      case round =>
       clear H'
       try clear c1
       try clear p2
       try clear c3
       try clear c5
       try clear c6
       try clear c6b0
       try clear c6b1
       try clear c7
       try clear c7b0
       try clear c7b1
       try clear c8
       try clear c8b0
       try clear c14
       try clear c15
       try clear c15b0
       try clear c15b1
       try clear c16
       try clear c16b0
       try clear c16b1
       try clear hcz10_0
       try clear hcz10_1
       try clear hcz10_2
       try clear hcz10_3
       try clear hcz10_4
       try clear hcz10_5
       try clear hcz11_0
       try clear hcz11_1
       try clear hcz11_2
       try clear hcz11_3
       try clear hcz11_4
       try clear hcz11_5
       try clear hcz12_0
       try clear hcz12_1
       try clear hcz12_2
       try clear hcz12_3
       try clear hcz12_4
       try clear hcz12_5
       try clear hcz13_0
       try clear hcz13_1
       try clear hcz13_2
       try clear hcz13_3
       try clear hcz13_4
       try clear hcz13_5
       try clear hcz17_0
       try clear hcz17_1
       try clear hcz17_2
       try clear hcz17_3
       try clear hcz17_4
       try clear hcz17_5
       try clear hcz20_0
       try clear hcz20_1
       try clear hcz20_2
       try clear hcz20_3
       try clear hcz20_4
       try clear hcz20_5
       try clear hcz9_0
       try clear hcz9_1
       try clear hcz9_2
       try clear hcz9_3
       try clear hcz9_4
       try clear hcz9_5
       try clear hfz10_0
       try clear hfz10_1
       try clear hfz10_2
       try clear hfz10_3
       try clear hfz10_4
       try clear hfz10_5
       try clear hfz11_0
       try clear hfz11_1
       try clear hfz11_2
       try clear hfz11_3
       try clear hfz11_4
       try clear hfz11_5
       try clear hfz12_0
       try clear hfz12_1
       try clear hfz12_2
       try clear hfz12_3
       try clear hfz12_4
       try clear hfz12_5
       try clear hfz13_0
       try clear hfz13_1
       try clear hfz13_2
       try clear hfz13_3
       try clear hfz13_4
       try clear hfz13_5
       try clear hfz17_0
       try clear hfz17_1
       try clear hfz17_2
       try clear hfz17_3
       try clear hfz17_4
       try clear hfz17_5
       try clear hfz20_0
       try clear hfz20_1
       try clear hfz20_2
       try clear hfz20_3
       try clear hfz20_4
       try clear hfz20_5
       try clear hfz9_0
       try clear hfz9_1
       try clear hfz9_2
       try clear hfz9_3
       try clear hfz9_4
       try clear hfz9_5
       try clear p2
       obtain ⟨x3_2, x50_2, rfl, HA, HK2, HO_3, BK159, HB⟩ := hrel
       cases gk with
       | zero => exact absurd HA.out (by simp [sched_May.l0])
       | succ k2 =>
        have H := HA.out
        clear HA
        simp only [sched_May.l0] at H
        by_cases c21 : x50_2 < (l0_4.length : Int)
        ·rw [if_pos c21] at H
         have c21b0 : decide (x50_2 < (l0_4.length : Int)) = true := decide_eq_true c21
         clear c21
         by_cases c22 : 0 ≤ x50_2
         ·rw [if_pos c22] at H
          have c22b0 : decide (0 ≤ x50_2) = true := decide_eq_true c22
          clear c22
          by_cases c23 : x50_2 < (l0_4.length : Int)
          ·rw [if_pos c23] at H
           have c23b0 : decide (x50_2 < (l0_4.length : Int)) = true := decide_eq_true c23
           clear c23
           obtain ⟨bq24, hbq24⟩ : ∃ b_ : Bool, b_ = (rdOf false l0_4 x50_2) := ⟨_, rfl⟩
           replace H : (if bq24 = true then (if x50_2 < (x3_2.length : Int) then (sched_May.l0 k2 (x3_2.set (x50_2 : Int).toNat (wrap64 ((rd x3_2 x50_2) + 1))) l0_4 (l0_4.length : Int) (wrap64 (x50_2 + 1)) a0_0 a0_1 a0_2 l0_3 l0_4 a0_5) else (none)) else (sched_May.l0 k2 x3_2 l0_4 (l0_4.length : Int) (wrap64 (x50_2 + 1)) a0_0 a0_1 a0_2 l0_3 l0_4 a0_5)) = some r := by rw [← hbq24] at H; exact H
           have Nbq24 := aaM hbq24
           clear hbq24
           by_cases c25 : bq24 = true
           ·subst c25
            have H1 : (if x50_2 < (x3_2.length : Int) then (sched_May.l0 k2 (x3_2.set (x50_2 : Int).toNat (wrap64 ((rd x3_2 x50_2) + 1))) l0_4 (l0_4.length : Int) (wrap64 (x50_2 + 1)) a0_0 a0_1 a0_2 l0_3 l0_4 a0_5) else (none)) = some r := by rw [if_pos rfl] at H; exact H
            clear H
            have H := H1
            clear H1
            by_cases c26 : x50_2 < (x3_2.length : Int)
            ·rw [if_pos c26] at H
             have c26b0 : decide (x50_2 < (x3_2.length : Int)) = true := decide_eq_true c26
             clear c26
             obtain ⟨y166, hy166⟩ : ∃ y_ : List Int, y_ = (x3_2.set (x50_2 : Int).toNat (wrap64 ((rd x3_2 x50_2) + 1))) := ⟨_, rfl⟩
             replace H : (sched_May.l0 k2 y166 l0_4 (l0_4.length : Int) (wrap64 (x50_2 + 1)) a0_0 a0_1 a0_2 l0_3 l0_4 a0_5) = some r := by first | (rw [hy166]; with_reducible exact H) | (have H2_ := (Option.bind_some _ _).symm.trans H; rw [hy166]; with_reducible exact H2_) | (have H2_ := (Option.bind_some _ _).symm.trans H; with_reducible exact H2_) | with_reducible exact H | (rw [hy166]; exact H) | exact H
             have Ny166 := aaM hy166
             clear hy166
             have H' := aaM H
             clear H
             have p164 : 0 ≤ (x50_2 : Int) := of_decide_eq_true (by first | (with_reducible assumption) | assumption)
             have q164 : x50_2 < (l0_4.length : Int) := of_decide_eq_true (by first | (with_reducible assumption) | assumption)
             obtain ⟨ad164, e164, hx164_0⟩ := Kd.at_bool HR0_4.out x50_2 p164 q164
             (try rw [← Nbq24.out] at hx164_0)
             cases e164
             replace hx164_0 := (HB.out.cell (World.block_lt_of_cell? w _ hx164_0)).trans hx164_0
             replace p164 := eq_true p164
             replace q164 := eq_true q164
             obtain ⟨Ao28, co28, eo28⟩ := Kd.R_slice HO_3.out
             subst eo28
             have p165 : 0 ≤ (x50_2 : Int) := of_decide_eq_true (by first | (with_reducible assumption) | assumption)
             have q165 : x50_2 < (x3_2.length : Int) := of_decide_eq_true (by first | (with_reducible assumption) | assumption)
             obtain ⟨ad165, e165, hx165_0⟩ := Kd.at_int (Kd.R_reads' HO_3.out).2.2 x50_2 p165 q165
             cases e165
             replace p165 := eq_true p165
             replace q165 := eq_true q165
             have p27 : 0 ≤ (x50_2 : Int) := of_decide_eq_true (by first | (with_reducible assumption) | assumption)
             have q27 : (x50_2 : Int) < ((x3_2.length : Int) : Int) := of_decide_eq_true (by first | (with_reducible assumption) | assumption)
             obtain ⟨go27, co27, eo27, gb27, gl27, cl27, HG27⟩ := Kd.R_form HO_3.out (by omega)
             (first | cases eo27 | (injection eo27 with ea_ en_ ec_; (first | subst ea_ | (injection ea_ with ea_; subst ea_)); subst ec_; clear en_))
             have GB27 := aaM gb27
             have GG27 := aaM HG27
             clear gb27 gl27 HG27
             (first | simp only [add_plain] at hx165_0 | skip)
             obtain ⟨hx27_0, hf27_0⟩ := Kd.R_celln 0 HO_3.out (x50_2 : Int) p27 q27
             replace p27 := eq_true p27
             replace q27 := eq_true q27
             have HP29 := Kd.R_putg HO_3.out (x50_2 : Int) (wrap64 ((rd x3_2 x50_2) + 1))
             go_wp2_with (first | ((with_reducible refine gate_store (t := 3) (p := 61) rfl ?_); refine store_event (t := 3) (p := 61) (v := ?vo_w30) (w1 := (wr.setCell ⟨go27, (x50_2 : Int).toNat, none⟩ (.int .i64 (wrap64 ((rd x3_2 x50_2) + 1))))) ?hg ?ho ?hn ?hr ?_; (case ho => rfl); (case hg => rfl); (case hn => rfl); (case hr => first | (go_simp; done) | (go_simp; rfl)); intro w30 hw; have hg : wr.grownBy w30 (some go27) := (by rw [hw]; exact HP29.2); have hp_ : Kd.R (Kd.int .i64) 3 w30 w.heap.size (fun _ => True) (.slice (some ⟨go27, 0, none⟩) x3_2.length co28) y166 := (by rw [hw, Ny166.out]; exact HP29.1); clear HP29; have n0_ := aaM (hp_); have n1_ := aaM (blk_grown (g := gb159) (by (with_reducible repeat (first | refine bN ?_ _ | refine bD ?_ | refine bA ?_ _)); exact BK159.out) hg (Kd.R_ne HO_3.out BK159.out (by decide))); have n2_ := aaM ((by rw [hw]; exact lS (HB.out) GB27.out : Below w.heap.size w w30)); clear HO_3; clear BK159; clear HB; have HO_3 := n0_; have BK159 := n1_; have HB := n2_; clear n0_ n1_ n2_; clear hg hw hp_))
             go_roundg k2
             case measure => have := HJ1.out; have := HK2.out; omega
             case rel => exact ⟨(y166), (wrap64 (x50_2 + 1)), (by first | rfl | (simp; done) | (simp [*]; done)), H', ⟨by have := HJ1.out; have := HK2.out; omega⟩, ⟨by (with_reducible repeat (first | apply rrA | apply rrN | apply rrD)); exact HO_3.out⟩, ⟨by (with_reducible repeat (first | refine bN ?_ _ | refine bD ?_ | refine bA ?_ _)); exact BK159.out⟩, ⟨by repeat (first | (with_reducible first | exact HB.out | apply lA | apply lN | apply lD | refine lS ?_ GE159.out) | exact HB.out)⟩⟩
            ·rw [if_neg c26] at H
             exact absurd H (by simp)
           ·replace c25 := Bool.eq_false_iff.mpr c25
            subst c25
            have H1 : (sched_May.l0 k2 x3_2 l0_4 (l0_4.length : Int) (wrap64 (x50_2 + 1)) a0_0 a0_1 a0_2 l0_3 l0_4 a0_5) = some r := by rw [if_neg (show ¬ (false = true) by decide)] at H; exact H
            clear H
            have H := H1
            clear H1
            have H' := aaM H
            clear H
            have p164 : 0 ≤ (x50_2 : Int) := of_decide_eq_true (by first | (with_reducible assumption) | assumption)
            have q164 : x50_2 < (l0_4.length : Int) := of_decide_eq_true (by first | (with_reducible assumption) | assumption)
            obtain ⟨ad164, e164, hx164_0⟩ := Kd.at_bool HR0_4.out x50_2 p164 q164
            (try rw [← Nbq24.out] at hx164_0)
            cases e164
            replace hx164_0 := (HB.out.cell (World.block_lt_of_cell? w _ hx164_0)).trans hx164_0
            replace p164 := eq_true p164
            replace q164 := eq_true q164
            go_wp2
            go_roundg k2
            case measure => have := HJ1.out; have := HK2.out; omega
            case rel => exact ⟨(x3_2), (wrap64 (x50_2 + 1)), (by first | rfl | (simp; done) | (simp [*]; done)), H', ⟨by have := HJ1.out; have := HK2.out; omega⟩, ⟨by (with_reducible repeat (first | apply rrA | apply rrN | apply rrD)); exact HO_3.out⟩, ⟨by (with_reducible repeat (first | refine bN ?_ _ | refine bD ?_ | refine bA ?_ _)); exact BK159.out⟩, ⟨by repeat (first | (with_reducible first | exact HB.out | apply lA | apply lN | apply lD | refine lS ?_ GE159.out) | exact HB.out)⟩⟩
          ·rw [if_neg c23] at H
           exact absurd H (by simp)
         ·rw [if_neg c22] at H
          exact absurd H (by simp)
        ·rw [if_neg c21] at H
         have c21b0 : decide (x50_2 < (l0_4.length : Int)) = false := decide_eq_false c21
         clear c21
         have H' := aaM H
         clear H
         have hcz31_0 : wr.cell? ⟨gb159, 0, none⟩ = some (.int .i64 a0_0) := (bC BK159.out 0).trans rfl
         have hcz31_1 : wr.cell? ⟨gb159, 1, none⟩ = some (.int .i64 a0_1) := (bC BK159.out 1).trans rfl
         have hcz31_2 : wr.cell? ⟨gb159, 2, none⟩ = some (.int .i64 a0_2) := (bC BK159.out 2).trans rfl
         have hcz31_3 : wr.cell? ⟨gb159, 3, none⟩ = some (.slice A0_3 l0_3.length c0_3) := (bC BK159.out 3).trans rfl
         have hcz31_4 : wr.cell? ⟨gb159, 4, none⟩ = some (.slice A0_4 l0_4.length c0_4) := (bC BK159.out 4).trans rfl
         have hcz31_5 : wr.cell? ⟨gb159, 5, none⟩ = some (.bool a0_5) := (bC BK159.out 5).trans rfl
         have hfz31_0 := bF BK159.out 0
         have hfz31_1 := bF BK159.out 1
         have hfz31_2 := bF BK159.out 2
         have hfz31_3 := bF BK159.out 3
         have hfz31_4 := bF BK159.out 4
         have hfz31_5 := bF BK159.out 5
         go_wp2
         go_loopg [66] k2 (fun kq v66 w' => ∃ (x3_3 : List Int) (x66_3 : Int), v66 = .int .i64 x66_3 ∧ Aside0 (sched_May.l1 kq x3_3 l0_3 (l0_3.length : Int) x66_3 a0_0 a0_1 a0_2 l0_3 l0_4 a0_5 = some r) ∧ Aside0 (kq ≤ k2) ∧ Aside0 (Kd.R (Kd.int .i64) 3 w' w.heap.size (fun _ => True) v162 x3_3) ∧ Aside0 (w'.heap[gb159]? = some (.cells #[.int .i64 a0_0, .int .i64 a0_1, .int .i64 a0_2, (.slice A0_3 l0_3.length c0_3), (.slice A0_4 l0_4.length c0_4), .bool a0_5] 42 (0, 0))) ∧ Aside0 (Below w.heap.size w w'))
         case atStart => exact ⟨(x3_2), (0), (by first | rfl | (simp; done) | (simp [*]; done)), H', ⟨Nat.le_refl _⟩, ⟨by (with_reducible repeat (first | apply rrA | apply rrN | apply rrD)); exact HO_3.out⟩, ⟨by (with_reducible repeat (first | refine bN ?_ _ | refine bD ?_ | refine bA ?_ _)); exact BK159.out⟩, ⟨by repeat (first | (with_reducible first | exact HB.out | apply lA | apply lN | apply lD | refine lS ?_ GE159.out) | exact HB.out)⟩⟩
         case round =>
          clear H'
          try clear c1
          try clear p1
          try clear q1
          try clear hx1
          try clear c2
          try clear p2
          try clear q2
          try clear hx2
          try clear hf2
          try clear c3
          try clear c5
          try clear c6
          try clear c6b0
          try clear c6b1
          try clear p6
          try clear c7
          try clear c7b0
          try clear c7b1
          try clear c8
          try clear c8b0
          try clear c14
          try clear c15
          try clear c15b0
          try clear c15b1
          try clear c16
          try clear c16b0
          try clear c16b1
          try clear p16
          try clear q16
          try clear hx16
          try clear c21
          try clear c21b0
          try clear c22
          try clear c22b0
          try clear c23
          try clear c23b0
          try clear q24
          try clear c25
          try clear c26
          try clear c26b0
          try clear p27
          try clear q27
          try clear hx27
          try clear hf27
          try clear hcz10_0
          try clear hcz10_1
          try clear hcz10_2
          try clear hcz10_3
          try clear hcz10_4
          try clear hcz10_5
          try clear hcz11_0
          try clear hcz11_1
          try clear hcz11_2
          try clear hcz11_3
          try clear hcz11_4
          try clear hcz11_5
          try clear hcz12_0
          try clear hcz12_1
          try clear hcz12_2
          try clear hcz12_3
          try clear hcz12_4
          try clear hcz12_5
          try clear hcz13_0
          try clear hcz13_1
          try clear hcz13_2
          try clear hcz13_3
          try clear hcz13_4
          try clear hcz13_5
          try clear hcz17_0
          try clear hcz17_1
          try clear hcz17_2
          try clear hcz17_3
          try clear hcz17_4
          try clear hcz17_5
          try clear hcz20_0
          try clear hcz20_1
          try clear hcz20_2
          try clear hcz20_3
          try clear hcz20_4
          try clear hcz20_5
          try clear hcz31_0
          try clear hcz31_1
          try clear hcz31_2
          try clear hcz31_3
          try clear hcz31_4
          try clear hcz31_5
          try clear hcz9_0
          try clear hcz9_1
          try clear hcz9_2
          try clear hcz9_3
          try clear hcz9_4
          try clear hcz9_5
          try clear hfz10_0
          try clear hfz10_1
          try clear hfz10_2
          try clear hfz10_3
          try clear hfz10_4
          try clear hfz10_5
          try clear hfz11_0
          try clear hfz11_1
          try clear hfz11_2
          try clear hfz11_3
          try clear hfz11_4
          try clear hfz11_5
          try clear hfz12_0
          try clear hfz12_1
          try clear hfz12_2
          try clear hfz12_3
          try clear hfz12_4
          try clear hfz12_5
          try clear hfz13_0
          try clear hfz13_1
          try clear hfz13_2
          try clear hfz13_3
          try clear hfz13_4
          try clear hfz13_5
          try clear hfz17_0
          try clear hfz17_1
          try clear hfz17_2
          try clear hfz17_3
          try clear hfz17_4
          try clear hfz17_5
          try clear hfz20_0
          try clear hfz20_1
          try clear hfz20_2
          try clear hfz20_3
          try clear hfz20_4
          try clear hfz20_5
          try clear hfz31_0
          try clear hfz31_1
          try clear hfz31_2
          try clear hfz31_3
          try clear hfz31_4
          try clear hfz31_5
          try clear hfz9_0
          try clear hfz9_1
          try clear hfz9_2
          try clear hfz9_3
          try clear hfz9_4
          try clear hfz9_5
          try clear hx164_0
          try clear hx165_0
          try clear hx27_0
          try clear p164
          try clear p165
          try clear p2
          try clear p27
          try clear q164
          try clear q165
          try clear q27
          obtain ⟨x3_3, x66_3, rfl, HA, HK3, HO_3, BK159, HB⟩ := hrel
          cases gk with
          | zero => exact absurd HA.out (by simp [sched_May.l1])
          | succ k3 =>
           have H := HA.out
           clear HA
           simp only [sched_May.l1] at H
           by_cases c32 : x66_3 < (l0_3.length : Int)
           ·rw [if_pos c32] at H
            have c32b0 : decide (x66_3 < (l0_3.length : Int)) = true := decide_eq_true c32
            clear c32
            by_cases c33 : 0 ≤ x66_3
            ·rw [if_pos c33] at H
             have c33b0 : decide (0 ≤ x66_3) = true := decide_eq_true c33
             clear c33
             by_cases c34 : x66_3 < (l0_3.length : Int)
             ·rw [if_pos c34] at H
              have c34b0 : decide (x66_3 < (l0_3.length : Int)) = true := decide_eq_true c34
              clear c34
              by_cases c35 : (rd l0_3 x66_3) = (-1)
              ·rw [if_pos c35] at H
               have c35b0 : ((rd l0_3 x66_3) == (-1)) = true := beq_iff_eq.mpr c35
               have c35b1 : ((rd l0_3 x66_3) != (-1)) = false := bne_eq_false_iff_eq.mpr c35
               clear c35
               have H' := aaM H
               clear H
               have p167 : 0 ≤ (x66_3 : Int) := of_decide_eq_true (by first | (with_reducible assumption) | assumption)
               have q167 : x66_3 < (l0_3.length : Int) := of_decide_eq_true (by first | (with_reducible assumption) | assumption)
               obtain ⟨ad167, e167, hx167_0⟩ := Kd.at_int HR0_3.out x66_3 p167 q167
               cases e167
               replace hx167_0 := (HB.out.cell (World.block_lt_of_cell? w _ hx167_0)).trans hx167_0
               replace p167 := eq_true p167
               replace q167 := eq_true q167
               go_wp2
               go_roundg k3
               case measure => have := HJ1.out; have := HK2.out; have := HK3.out; omega
               case rel => exact ⟨(x3_3), (wrap64 (x66_3 + 1)), (by first | rfl | (simp; done) | (simp [*]; done)), H', ⟨by have := HJ1.out; have := HK2.out; have := HK3.out; omega⟩, ⟨by (with_reducible repeat (first | apply rrA | apply rrN | apply rrD)); exact HO_3.out⟩, ⟨by (with_reducible repeat (first | refine bN ?_ _ | refine bD ?_ | refine bA ?_ _)); exact BK159.out⟩, ⟨by repeat (first | (with_reducible first | exact HB.out | apply lA | apply lN | apply lD | refine lS ?_ GE159.out) | exact HB.out)⟩⟩
              ·rw [if_neg c35] at H
               have c35b0 : ((rd l0_3 x66_3) == (-1)) = false := beq_eq_false_iff_ne.mpr c35
               have c35b1 : ((rd l0_3 x66_3) != (-1)) = true := bne_iff_ne.mpr c35
               have HC36 := aaM H
               clear H
               have p167 : 0 ≤ (x66_3 : Int) := of_decide_eq_true (by first | (with_reducible assumption) | assumption)
               have q167 : x66_3 < (l0_3.length : Int) := of_decide_eq_true (by first | (with_reducible assumption) | assumption)
               obtain ⟨ad167, e167, hx167_0⟩ := Kd.at_int HR0_3.out x66_3 p167 q167
               cases e167
               replace hx167_0 := (HB.out.cell (World.block_lt_of_cell? w _ hx167_0)).trans hx167_0
               replace p167 := eq_true p167
               replace q167 := eq_true q167
               go_upto_region 15 with (fail)
               go_cut [73] (fun v73 wc => ∃ (kq : Nat) (x73_35 : Bool), v73 = .bool x73_35 ∧ Aside0 (sched_May.j3 kq x3_3 (rd l0_3 x66_3) l0_3 (l0_3.length : Int) x66_3 x73_35 a0_0 a0_1 a0_2 l0_3 l0_4 a0_5 = some r) ∧ Aside0 (kq ≤ k3) ∧ Aside0 (Kd.R (Kd.int .i64) 3 wc w.heap.size (fun _ => True) v162 x3_3) ∧ Aside0 (wc.heap[gb159]? = some (.cells #[.int .i64 a0_0, .int .i64 a0_1, .int .i64 a0_2, (.slice (some ad167) l0_3.length c0_3), (.slice A0_4 l0_4.length c0_4), .bool a0_5] 42 (0, 0))) ∧ Aside0 (Below w.heap.size w wc))
               case first =>
                have H := HC36.out
                clear HC36
                by_cases c37 : (rd l0_3 x66_3) = (-2)
                ·rw [if_pos c37] at H
                 have c37b0 : ((rd l0_3 x66_3) == (-2)) = true := beq_iff_eq.mpr c37
                 have c37b1 : ((rd l0_3 x66_3) != (-2)) = false := bne_eq_false_iff_eq.mpr c37
                 clear c37
                 (first | rw [c37b0] | (simp only [i64_w, i32_w]; rw [c37b0]) | skip)
                 have H' := aaM H
                 clear H
                 have hcz38_0 : wr.cell? ⟨gb159, 0, none⟩ = some (.int .i64 a0_0) := (bC BK159.out 0).trans rfl
                 have hcz38_1 : wr.cell? ⟨gb159, 1, none⟩ = some (.int .i64 a0_1) := (bC BK159.out 1).trans rfl
                 have hcz38_2 : wr.cell? ⟨gb159, 2, none⟩ = some (.int .i64 a0_2) := (bC BK159.out 2).trans rfl
                 have hcz38_3 : wr.cell? ⟨gb159, 3, none⟩ = some (.slice (some ad167) l0_3.length c0_3) := (bC BK159.out 3).trans rfl
                 have hcz38_4 : wr.cell? ⟨gb159, 4, none⟩ = some (.slice A0_4 l0_4.length c0_4) := (bC BK159.out 4).trans rfl
                 have hcz38_5 : wr.cell? ⟨gb159, 5, none⟩ = some (.bool a0_5) := (bC BK159.out 5).trans rfl
                 have hfz38_0 := bF BK159.out 0
                 have hfz38_1 := bF BK159.out 1
                 have hfz38_2 := bF BK159.out 2
                 have hfz38_3 := bF BK159.out 3
                 have hfz38_4 := bF BK159.out 4
                 have hfz38_5 := bF BK159.out 5
                 go_wp2
                 go_meet
                 case rel => exact ⟨_, ((a0_2 == a0_0)), (by first | rfl | (simp; done) | (simp [*]; done)), H', ⟨by have := HJ1.out; have := HK2.out; have := HK3.out; first | omega | exact Nat.le_refl _⟩, ⟨by (with_reducible repeat (first | apply rrA | apply rrN | apply rrD)); exact HO_3.out⟩, ⟨by (with_reducible repeat (first | refine bN ?_ _ | refine bD ?_ | refine bA ?_ _)); exact BK159.out⟩, ⟨by repeat (first | (with_reducible first | exact HB.out | apply lA | apply lN | apply lD | refine lS ?_ GE159.out) | exact HB.out)⟩⟩
                ·rw [if_neg c37] at H
                 have c37b0 : ((rd l0_3 x66_3) == (-2)) = false := beq_eq_false_iff_ne.mpr c37
                 have c37b1 : ((rd l0_3 x66_3) != (-2)) = true := bne_iff_ne.mpr c37
                 (first | rw [c37b0] | (simp only [i64_w, i32_w]; rw [c37b0]) | skip)
                 have H' := aaM H
                 clear H
                 go_wp2
                 go_meet
                 case rel => exact ⟨_, (false), (by first | rfl | (simp; done) | (simp [*]; done)), H', ⟨by have := HJ1.out; have := HK2.out; have := HK3.out; first | omega | exact Nat.le_refl _⟩, ⟨by (with_reducible repeat (first | apply rrA | apply rrN | apply rrD)); exact HO_3.out⟩, ⟨by (with_reducible repeat (first | refine bN ?_ _ | refine bD ?_ | refine bA ?_ _)); exact BK159.out⟩, ⟨by repeat (first | (with_reducible first | exact HB.out | apply lA | apply lN | apply lD | refine lS ?_ GE159.out) | exact HB.out)⟩⟩
               case rest =>
                clear HC36
                try clear c1
                try clear p1
                try clear q1
                try clear hx1
                try clear c2
                try clear p2
                try clear q2
                try clear hx2
                try clear hf2
                try clear c3
                try clear c5
                try clear c6
                try clear c6b0
                try clear c6b1
                try clear p6
                try clear c7
                try clear c7b0
                try clear c7b1
                try clear c8
                try clear c8b0
                try clear c14
                try clear c15
                try clear c15b0
                try clear c15b1
                try clear c16
                try clear c16b0
                try clear c16b1
                try clear p16
                try clear q16
                try clear hx16
                try clear c21
                try clear c21b0
                try clear c22
                try clear c22b0
                try clear c23
                try clear c23b0
                try clear q24
                try clear c25
                try clear c26
                try clear c26b0
                try clear p27
                try clear q27
                try clear hx27
                try clear hf27
                try clear c32
                try clear c32b0
                try clear c33
                try clear c33b0
                try clear c34
                try clear c34b0
                try clear c35
                try clear c35b0
                try clear c35b1
                try clear c37
                try clear c37b0
                try clear c37b1
                try clear hcz10_0
                try clear hcz10_1
                try clear hcz10_2
                try clear hcz10_3
                try clear hcz10_4
                try clear hcz10_5
                try clear hcz11_0
                try clear hcz11_1
                try clear hcz11_2
                try clear hcz11_3
                try clear hcz11_4
                try clear hcz11_5
                try clear hcz12_0
                try clear hcz12_1
                try clear hcz12_2
                try clear hcz12_3
                try clear hcz12_4
                try clear hcz12_5
                try clear hcz13_0
                try clear hcz13_1
                try clear hcz13_2
                try clear hcz13_3
                try clear hcz13_4
                try clear hcz13_5
                try clear hcz17_0
                try clear hcz17_1
                try clear hcz17_2
                try clear hcz17_3
                try clear hcz17_4
                try clear hcz17_5
                try clear hcz20_0
                try clear hcz20_1
                try clear hcz20_2
                try clear hcz20_3
                try clear hcz20_4
                try clear hcz20_5
                try clear hcz31_0
                try clear hcz31_1
                try clear hcz31_2
                try clear hcz31_3
                try clear hcz31_4
                try clear hcz31_5
                try clear hcz38_0
                try clear hcz38_1
                try clear hcz38_2
                try clear hcz38_3
                try clear hcz38_4
                try clear hcz38_5
                try clear hcz9_0
                try clear hcz9_1
                try clear hcz9_2
                try clear hcz9_3
                try clear hcz9_4
                try clear hcz9_5
                try clear hfz10_0
                try clear hfz10_1
                try clear hfz10_2
                try clear hfz10_3
                try clear hfz10_4
                try clear hfz10_5
                try clear hfz11_0
                try clear hfz11_1
                try clear hfz11_2
                try clear hfz11_3
                try clear hfz11_4
                try clear hfz11_5
                try clear hfz12_0
                try clear hfz12_1
                try clear hfz12_2
                try clear hfz12_3
                try clear hfz12_4
                try clear hfz12_5
                try clear hfz13_0
                try clear hfz13_1
                try clear hfz13_2
                try clear hfz13_3
                try clear hfz13_4
                try clear hfz13_5
                try clear hfz17_0
                try clear hfz17_1
                try clear hfz17_2
                try clear hfz17_3
                try clear hfz17_4
                try clear hfz17_5
                try clear hfz20_0
                try clear hfz20_1
                try clear hfz20_2
                try clear hfz20_3
                try clear hfz20_4
                try clear hfz20_5
                try clear hfz31_0
                try clear hfz31_1
                try clear hfz31_2
                try clear hfz31_3
                try clear hfz31_4
                try clear hfz31_5
                try clear hfz38_0
                try clear hfz38_1
                try clear hfz38_2
                try clear hfz38_3
                try clear hfz38_4
                try clear hfz38_5
                try clear hfz9_0
                try clear hfz9_1
                try clear hfz9_2
                try clear hfz9_3
                try clear hfz9_4
                try clear hfz9_5
                try clear hx164_0
                try clear hx165_0
                try clear hx167_0
                try clear hx27_0
                try clear p1
                try clear p16
                try clear p164
                try clear p165
                try clear p167
                try clear p2
                try clear p27
                try clear p6
                try clear q1
                try clear q16
                try clear q164
                try clear q165
                try clear q167
                try clear q2
                try clear q24
                try clear q27
                obtain ⟨kq, x73_35, rfl, HA, HJ35, HO_3, BK159, HB⟩ := hcut
                cases kq with
                | zero => exact absurd HA.out (by simp [sched_May.j3])
                | succ kj35 =>
                 have H := HA.out
                 clear HA
                 simp only [sched_May.j3] at H
                 by_cases c39 : x73_35 = true
                 ·subst c39
                  have H1 : (sched_May.l1 kj35 x3_3 l0_3 (l0_3.length : Int) (wrap64 (x66_3 + 1)) a0_0 a0_1 a0_2 l0_3 l0_4 a0_5) = some r := by rw [if_pos rfl] at H; exact H
                  clear H
                  have H := H1
                  clear H1
                  have H' := aaM H
                  clear H
                  go_wp2
                  go_roundg kj35
                  case measure => have := HJ1.out; have := HK2.out; have := HK3.out; have := HJ35.out; omega
                  case rel => exact ⟨(x3_3), (wrap64 (x66_3 + 1)), (by first | rfl | (simp; done) | (simp [*]; done)), H', ⟨by have := HJ1.out; have := HK2.out; have := HK3.out; have := HJ35.out; omega⟩, ⟨by (with_reducible repeat (first | apply rrA | apply rrN | apply rrD)); exact HO_3.out⟩, ⟨by (with_reducible repeat (first | refine bN ?_ _ | refine bD ?_ | refine bA ?_ _)); exact BK159.out⟩, ⟨by repeat (first | (with_reducible first | exact HB.out | apply lA | apply lN | apply lD | refine lS ?_ GE159.out) | exact HB.out)⟩⟩
                 ·replace c39 := Bool.eq_false_iff.mpr c39
                  subst c39
                  have H1 : (if (rd l0_3 x66_3) ≥ 0 then (if (rd l0_3 x66_3) < a0_2 then (if 0 ≤ (rd l0_3 x66_3) then (if (rd l0_3 x66_3) < (x3_3.length : Int) then (sched_May.l1 kj35 (x3_3.set ((rd l0_3 x66_3) : Int).toNat (wrap64 ((rd x3_3 (rd l0_3 x66_3)) + 1))) l0_3 (l0_3.length : Int) (wrap64 (x66_3 + 1)) a0_0 a0_1 a0_2 l0_3 l0_4 a0_5) else (none)) else (none)) else (some false)) else (some false)) = some r := by rw [if_neg (show ¬ (false = true) by decide)] at H; exact H
                  clear H
                  have H := H1
                  clear H1
                  by_cases c40 : (rd l0_3 x66_3) ≥ 0
                  ·rw [if_pos c40] at H
                   have c40b0 : decide (0 ≤ (rd l0_3 x66_3)) = true := decide_eq_true c40
                   clear c40
                   by_cases c41 : (rd l0_3 x66_3) < a0_2
                   ·rw [if_pos c41] at H
                    have c41b0 : decide ((rd l0_3 x66_3) < a0_2) = true := decide_eq_true c41
                    clear c41
                    by_cases c42 : 0 ≤ (rd l0_3 x66_3)
                    ·rw [if_pos c42] at H
                     have c42b0 : decide (0 ≤ (rd l0_3 x66_3)) = true := decide_eq_true c42
                     clear c42
                     by_cases c43 : (rd l0_3 x66_3) < (x3_3.length : Int)
                     ·rw [if_pos c43] at H
                      have c43b0 : decide ((rd l0_3 x66_3) < (x3_3.length : Int)) = true := decide_eq_true c43
                      clear c43
                      obtain ⟨y169, hy169⟩ : ∃ y_ : List Int, y_ = (x3_3.set ((rd l0_3 x66_3) : Int).toNat (wrap64 ((rd x3_3 (rd l0_3 x66_3)) + 1))) := ⟨_, rfl⟩
                      replace H : (sched_May.l1 kj35 y169 l0_3 (l0_3.length : Int) (wrap64 (x66_3 + 1)) a0_0 a0_1 a0_2 l0_3 l0_4 a0_5) = some r := by first | (rw [hy169]; with_reducible exact H) | (have H2_ := (Option.bind_some _ _).symm.trans H; rw [hy169]; with_reducible exact H2_) | (have H2_ := (Option.bind_some _ _).symm.trans H; with_reducible exact H2_) | with_reducible exact H | (rw [hy169]; exact H) | exact H
                      have Ny169 := aaM hy169
                      clear hy169
                      have H' := aaM H
                      clear H
                      have hcz45_0 : wc.cell? ⟨gb159, 0, none⟩ = some (.int .i64 a0_0) := (bC BK159.out 0).trans rfl
                      have hcz45_1 : wc.cell? ⟨gb159, 1, none⟩ = some (.int .i64 a0_1) := (bC BK159.out 1).trans rfl
                      have hcz45_2 : wc.cell? ⟨gb159, 2, none⟩ = some (.int .i64 a0_2) := (bC BK159.out 2).trans rfl
                      have hcz45_3 : wc.cell? ⟨gb159, 3, none⟩ = some (.slice (some ad167) l0_3.length c0_3) := (bC BK159.out 3).trans rfl
                      have hcz45_4 : wc.cell? ⟨gb159, 4, none⟩ = some (.slice A0_4 l0_4.length c0_4) := (bC BK159.out 4).trans rfl
                      have hcz45_5 : wc.cell? ⟨gb159, 5, none⟩ = some (.bool a0_5) := (bC BK159.out 5).trans rfl
                      have hfz45_0 := bF BK159.out 0
                      have hfz45_1 := bF BK159.out 1
                      have hfz45_2 := bF BK159.out 2
                      have hfz45_3 := bF BK159.out 3
                      have hfz45_4 := bF BK159.out 4
                      have hfz45_5 := bF BK159.out 5
                      obtain ⟨Ao46, co46, eo46⟩ := Kd.R_slice HO_3.out
                      subst eo46
                      have p168 : 0 ≤ ((rd l0_3 x66_3) : Int) := of_decide_eq_true (by first | (with_reducible assumption) | assumption)
                      have q168 : (rd l0_3 x66_3) < (x3_3.length : Int) := of_decide_eq_true (by first | (with_reducible assumption) | assumption)
                      obtain ⟨ad168, e168, hx168_0⟩ := Kd.at_int (Kd.R_reads' HO_3.out).2.2 (rd l0_3 x66_3) p168 q168
                      cases e168
                      replace p168 := eq_true p168
                      replace q168 := eq_true q168
                      have p44 : 0 ≤ ((rd l0_3 x66_3) : Int) := of_decide_eq_true (by first | (with_reducible assumption) | assumption)
                      have q44 : ((rd l0_3 x66_3) : Int) < ((x3_3.length : Int) : Int) := of_decide_eq_true (by first | (with_reducible assumption) | assumption)
                      obtain ⟨go44, co44, eo44, gb44, gl44, cl44, HG44⟩ := Kd.R_form HO_3.out (by omega)
                      (first | cases eo44 | (injection eo44 with ea_ en_ ec_; (first | subst ea_ | (injection ea_ with ea_; subst ea_)); subst ec_; clear en_))
                      have GB44 := aaM gb44
                      have GG44 := aaM HG44
                      clear gb44 gl44 HG44
                      (first | simp only [add_plain] at hx168_0 | skip)
                      obtain ⟨hx44_0, hf44_0⟩ := Kd.R_celln 0 HO_3.out ((rd l0_3 x66_3) : Int) p44 q44
                      replace p44 := eq_true p44
                      replace q44 := eq_true q44
                      have HP47 := Kd.R_putg HO_3.out ((rd l0_3 x66_3) : Int) (wrap64 ((rd x3_3 (rd l0_3 x66_3)) + 1))
                      go_wp2_with (first | ((with_reducible refine gate_store (t := 3) (p := 97) rfl ?_); refine store_event (t := 3) (p := 97) (v := ?vo_w48) (w1 := (wc.setCell ⟨go44, ((rd l0_3 x66_3) : Int).toNat, none⟩ (.int .i64 (wrap64 ((rd x3_3 (rd l0_3 x66_3)) + 1))))) ?hg ?ho ?hn ?hr ?_; (case ho => rfl); (case hg => rfl); (case hn => rfl); (case hr => first | (go_simp; done) | (go_simp; rfl)); intro w48 hw; have hg : wc.grownBy w48 (some go44) := (by rw [hw]; exact HP47.2); have hp_ : Kd.R (Kd.int .i64) 3 w48 w.heap.size (fun _ => True) (.slice (some ⟨go44, 0, none⟩) x3_3.length co46) y169 := (by rw [hw, Ny169.out]; exact HP47.1); clear HP47; have n0_ := aaM (hp_); have n1_ := aaM (blk_grown (g := gb159) (by (with_reducible repeat (first | refine bN ?_ _ | refine bD ?_ | refine bA ?_ _)); exact BK159.out) hg (Kd.R_ne HO_3.out BK159.out (by decide))); have n2_ := aaM ((by rw [hw]; exact lS (HB.out) GB44.out : Below w.heap.size w w48)); clear HO_3; clear BK159; clear HB; have HO_3 := n0_; have BK159 := n1_; have HB := n2_; clear n0_ n1_ n2_; clear hg hw hp_))
                      go_roundg kj35
                      case measure => have := HJ1.out; have := HK2.out; have := HK3.out; have := HJ35.out; omega
                      case rel => exact ⟨(y169), (wrap64 (x66_3 + 1)), (by first | rfl | (simp; done) | (simp [*]; done)), H', ⟨by have := HJ1.out; have := HK2.out; have := HK3.out; have := HJ35.out; omega⟩, ⟨by (with_reducible repeat (first | apply rrA | apply rrN | apply rrD)); exact HO_3.out⟩, ⟨by (with_reducible repeat (first | refine bN ?_ _ | refine bD ?_ | refine bA ?_ _)); exact BK159.out⟩, ⟨by repeat (first | (with_reducible first | exact HB.out | apply lA | apply lN | apply lD | refine lS ?_ GE159.out) | exact HB.out)⟩⟩
                     ·rw [if_neg c43] at H
                      exact absurd H (by simp)
                    ·rw [if_neg c42] at H
                     exact absurd H (by simp)
                   ·rw [if_neg c41] at H
                    have c41b0 : decide ((rd l0_3 x66_3) < a0_2) = false := decide_eq_false c41
                    clear c41
                    obtain rfl := Option.some.inj H
                    have hcz49_0 : wc.cell? ⟨gb159, 0, none⟩ = some (.int .i64 a0_0) := (bC BK159.out 0).trans rfl
                    have hcz49_1 : wc.cell? ⟨gb159, 1, none⟩ = some (.int .i64 a0_1) := (bC BK159.out 1).trans rfl
                    have hcz49_2 : wc.cell? ⟨gb159, 2, none⟩ = some (.int .i64 a0_2) := (bC BK159.out 2).trans rfl
                    have hcz49_3 : wc.cell? ⟨gb159, 3, none⟩ = some (.slice (some ad167) l0_3.length c0_3) := (bC BK159.out 3).trans rfl
                    have hcz49_4 : wc.cell? ⟨gb159, 4, none⟩ = some (.slice A0_4 l0_4.length c0_4) := (bC BK159.out 4).trans rfl
                    have hcz49_5 : wc.cell? ⟨gb159, 5, none⟩ = some (.bool a0_5) := (bC BK159.out 5).trans rfl
                    have hfz49_0 := bF BK159.out 0
                    have hfz49_1 := bF BK159.out 1
                    have hfz49_2 := bF BK159.out 2
                    have hfz49_3 := bF BK159.out 3
                    have hfz49_4 := bF BK159.out 4
                    have hfz49_5 := bF BK159.out 5
                    go_wp2
                    all_goals (go_ret; exact ⟨by first | rfl | (simp [errW_none, errW_some] <;> rfl) | (simp [*, errW_none, errW_some] <;> rfl) | (simp_all; done), by repeat (first | (with_reducible first | exact HB.out | apply lA | apply lN | apply lD | refine lS ?_ GE159.out) | exact HB.out)⟩)
                  ·rw [if_neg c40] at H
                   have c40b0 : decide (0 ≤ (rd l0_3 x66_3)) = false := decide_eq_false c40
                   clear c40
                   obtain rfl := Option.some.inj H
                   go_wp2
                   all_goals (go_ret; exact ⟨by first | rfl | (simp [errW_none, errW_some] <;> rfl) | (simp [*, errW_none, errW_some] <;> rfl) | (simp_all; done), by repeat (first | (with_reducible first | exact HB.out | apply lA | apply lN | apply lD | refine lS ?_ GE159.out) | exact HB.out)⟩)
             ·rw [if_neg c34] at H
              exact absurd H (by simp)
            ·rw [if_neg c33] at H
             exact absurd H (by simp)
           ·rw [if_neg c32] at H
            have c32b0 : decide (x66_3 < (l0_3.length : Int)) = false := decide_eq_false c32
            clear c32
            have H' := aaM H
            clear H
            obtain ⟨Ao50, co50, eo50⟩ := Kd.R_slice HO_3.out
            subst eo50
            go_wp2
            go_loopg [101] k3 (fun kq v101 w' => ∃ (x101_4 : Int), v101 = .int .i64 x101_4 ∧ Aside0 (sched_May.l2 kq x3_3 (x3_3.length : Int) x101_4 a0_0 a0_1 a0_2 l0_3 l0_4 a0_5 = some r) ∧ Aside0 (kq ≤ k3) ∧ Aside0 (Kd.R (Kd.int .i64) 3 w' w.heap.size (fun _ => True) (.slice Ao50 x3_3.length co50) x3_3) ∧ Aside0 (w'.heap[gb159]? = some (.cells #[.int .i64 a0_0, .int .i64 a0_1, .int .i64 a0_2, (.slice A0_3 l0_3.length c0_3), (.slice A0_4 l0_4.length c0_4), .bool a0_5] 42 (0, 0))) ∧ Aside0 (Below w.heap.size w w'))
            case atStart => exact ⟨(0), (by first | rfl | (simp; done) | (simp [*]; done)), H', ⟨Nat.le_refl _⟩, ⟨by (with_reducible repeat (first | apply rrA | apply rrN | apply rrD)); exact HO_3.out⟩, ⟨by (with_reducible repeat (first | refine bN ?_ _ | refine bD ?_ | refine bA ?_ _)); exact BK159.out⟩, ⟨by repeat (first | (with_reducible first | exact HB.out | apply lA | apply lN | apply lD | refine lS ?_ GE159.out) | exact HB.out)⟩⟩
            case round =>
             clear H'
             try clear c1
             try clear p1
             try clear q1
             try clear hx1
             try clear c2
             try clear p2
             try clear q2
             try clear hx2
             try clear hf2
             try clear c3
             try clear c4
             try clear p4
             try clear q4
             try clear hx4
             try clear hf4
             try clear c5
             try clear c6
             try clear c6b0
             try clear c6b1
             try clear p6
             try clear c7
             try clear c7b0
             try clear c7b1
             try clear c8
             try clear c8b0
             try clear c14
             try clear c15
             try clear c15b0
             try clear c15b1
             try clear c16
             try clear c16b0
             try clear c16b1
             try clear p16
             try clear q16
             try clear hx16
             try clear c21
             try clear c21b0
             try clear c22
             try clear c22b0
             try clear c23
             try clear c23b0
             try clear q24
             try clear c25
             try clear c26
             try clear c26b0
             try clear p27
             try clear q27
             try clear hx27
             try clear hf27
             try clear c32
             try clear c32b0
             try clear c33
             try clear c33b0
             try clear c34
             try clear c34b0
             try clear c35
             try clear c35b0
             try clear c35b1
             try clear c37
             try clear c37b0
             try clear c37b1
             try clear c39
             try clear c40
             try clear c40b0
             try clear c41
             try clear c41b0
             try clear c42
             try clear c42b0
             try clear c43
             try clear c43b0
             try clear p44
             try clear q44
             try clear hx44
             try clear hf44
             try clear hcz10_0
             try clear hcz10_1
             try clear hcz10_2
             try clear hcz10_3
             try clear hcz10_4
             try clear hcz10_5
             try clear hcz11_0
             try clear hcz11_1
             try clear hcz11_2
             try clear hcz11_3
             try clear hcz11_4
             try clear hcz11_5
             try clear hcz12_0
             try clear hcz12_1
             try clear hcz12_2
             try clear hcz12_3
             try clear hcz12_4
             try clear hcz12_5
             try clear hcz13_0
             try clear hcz13_1
             try clear hcz13_2
             try clear hcz13_3
             try clear hcz13_4
             try clear hcz13_5
             try clear hcz17_0
             try clear hcz17_1
             try clear hcz17_2
             try clear hcz17_3
             try clear hcz17_4
             try clear hcz17_5
             try clear hcz20_0
             try clear hcz20_1
             try clear hcz20_2
             try clear hcz20_3
             try clear hcz20_4
             try clear hcz20_5
             try clear hcz31_0
             try clear hcz31_1
             try clear hcz31_2
             try clear hcz31_3
             try clear hcz31_4
             try clear hcz31_5
             try clear hcz38_0
             try clear hcz38_1
             try clear hcz38_2
             try clear hcz38_3
             try clear hcz38_4
             try clear hcz38_5
             try clear hcz45_0
             try clear hcz45_1
             try clear hcz45_2
             try clear hcz45_3
             try clear hcz45_4
             try clear hcz45_5
             try clear hcz49_0
             try clear hcz49_1
             try clear hcz49_2
             try clear hcz49_3
             try clear hcz49_4
             try clear hcz49_5
             try clear hcz9_0
             try clear hcz9_1
             try clear hcz9_2
             try clear hcz9_3
             try clear hcz9_4
             try clear hcz9_5
             try clear hfz10_0
             try clear hfz10_1
             try clear hfz10_2
             try clear hfz10_3
             try clear hfz10_4
             try clear hfz10_5
             try clear hfz11_0
             try clear hfz11_1
             try clear hfz11_2
             try clear hfz11_3
             try clear hfz11_4
             try clear hfz11_5
             try clear hfz12_0
             try clear hfz12_1
             try clear hfz12_2
             try clear hfz12_3
             try clear hfz12_4
             try clear hfz12_5
             try clear hfz13_0
             try clear hfz13_1
             try clear hfz13_2
             try clear hfz13_3
             try clear hfz13_4
             try clear hfz13_5
             try clear hfz17_0
             try clear hfz17_1
             try clear hfz17_2
             try clear hfz17_3
             try clear hfz17_4
             try clear hfz17_5
             try clear hfz20_0
             try clear hfz20_1
             try clear hfz20_2
             try clear hfz20_3
             try clear hfz20_4
             try clear hfz20_5
             try clear hfz31_0
             try clear hfz31_1
             try clear hfz31_2
             try clear hfz31_3
             try clear hfz31_4
             try clear hfz31_5
             try clear hfz38_0
             try clear hfz38_1
             try clear hfz38_2
             try clear hfz38_3
             try clear hfz38_4
             try clear hfz38_5
             try clear hfz45_0
             try clear hfz45_1
             try clear hfz45_2
             try clear hfz45_3
             try clear hfz45_4
             try clear hfz45_5
             try clear hfz49_0
             try clear hfz49_1
             try clear hfz49_2
             try clear hfz49_3
             try clear hfz49_4
             try clear hfz49_5
             try clear hfz9_0
             try clear hfz9_1
             try clear hfz9_2
             try clear hfz9_3
             try clear hfz9_4
             try clear hfz9_5
             try clear hx164_0
             try clear hx165_0
             try clear hx167_0
             try clear hx168_0
             try clear hx27_0
             try clear hx44_0
             try clear p1
             try clear p16
             try clear p164
             try clear p165
             try clear p167
             try clear p168
             try clear p2
             try clear p27
             try clear p44
             try clear p6
             try clear q1
             try clear q16
             try clear q164
             try clear q165
             try clear q167
             try clear q168
             try clear q2
             try clear q24
             try clear q27
             try clear q44
             obtain ⟨x101_4, rfl, HA, HK4, HO_99, BK159, HB⟩ := hrel
             cases gk with
             | zero => exact absurd HA.out (by simp [sched_May.l2])
             | succ k4 =>
              have H := HA.out
              clear HA
              simp only [sched_May.l2] at H
              by_cases c51 : x101_4 < (x3_3.length : Int)
              ·rw [if_pos c51] at H
               have c51b0 : decide (x101_4 < (x3_3.length : Int)) = true := decide_eq_true c51
               clear c51
               by_cases c52 : 0 ≤ x101_4
               ·rw [if_pos c52] at H
                have c52b0 : decide (0 ≤ x101_4) = true := decide_eq_true c52
                clear c52
                by_cases c53 : x101_4 < (x3_3.length : Int)
                ·rw [if_pos c53] at H
                 have c53b0 : decide (x101_4 < (x3_3.length : Int)) = true := decide_eq_true c53
                 clear c53
                 by_cases c54 : ((decide (x101_4 < a0_2)) != ((rd x3_3 x101_4) == 1)) = true
                 ·rw [if_pos c54] at H
                  have c54b0 : ((decide (x101_4 < a0_2)) != ((rd x3_3 x101_4) == 1)) = true := c54
                  (try (have c54b1 : decide ((decide (x101_4 < a0_2)) = ((rd x3_3 x101_4) == 1)) = false := by simpa using c54))
                  (try (have c54b2 : ((decide (x101_4 < a0_2)) == ((rd x3_3 x101_4) == 1)) = false := by simpa using c54))
                  (try (have c54b3 : ¬ ((decide (x101_4 < a0_2)) = ((rd x3_3 x101_4) == 1)) := by simpa using c54))
                  clear c54
                  obtain rfl := Option.some.inj H
                  have p170 : 0 ≤ (x101_4 : Int) := of_decide_eq_true (by first | (with_reducible assumption) | assumption)
                  have q170 : x101_4 < (x3_3.length : Int) := of_decide_eq_true (by first | (with_reducible assumption) | assumption)
                  obtain ⟨ad170, e170, hx170_0⟩ := Kd.at_int (Kd.R_reads' HO_99.out).2.2 x101_4 p170 q170
                  cases e170
                  replace p170 := eq_true p170
                  replace q170 := eq_true q170
                  have hcz55_0 : wr.cell? ⟨gb159, 0, none⟩ = some (.int .i64 a0_0) := (bC BK159.out 0).trans rfl
                  have hcz55_1 : wr.cell? ⟨gb159, 1, none⟩ = some (.int .i64 a0_1) := (bC BK159.out 1).trans rfl
                  have hcz55_2 : wr.cell? ⟨gb159, 2, none⟩ = some (.int .i64 a0_2) := (bC BK159.out 2).trans rfl
                  have hcz55_3 : wr.cell? ⟨gb159, 3, none⟩ = some (.slice A0_3 l0_3.length c0_3) := (bC BK159.out 3).trans rfl
                  have hcz55_4 : wr.cell? ⟨gb159, 4, none⟩ = some (.slice A0_4 l0_4.length c0_4) := (bC BK159.out 4).trans rfl
                  have hcz55_5 : wr.cell? ⟨gb159, 5, none⟩ = some (.bool a0_5) := (bC BK159.out 5).trans rfl
                  have hfz55_0 := bF BK159.out 0
                  have hfz55_1 := bF BK159.out 1
                  have hfz55_2 := bF BK159.out 2
                  have hfz55_3 := bF BK159.out 3
                  have hfz55_4 := bF BK159.out 4
                  have hfz55_5 := bF BK159.out 5
                  go_wp2
                  all_goals (go_ret; exact ⟨by first | rfl | (simp [errW_none, errW_some] <;> rfl) | (simp [*, errW_none, errW_some] <;> rfl) | (simp_all; done), by repeat (first | (with_reducible first | exact HB.out | apply lA | apply lN | apply lD | refine lS ?_ GE159.out) | exact HB.out)⟩)
                 ·rw [if_neg c54] at H
                  have c54b0 : ((decide (x101_4 < a0_2)) != ((rd x3_3 x101_4) == 1)) = false := by simpa using c54
                  (try (have c54b1 : decide ((decide (x101_4 < a0_2)) = ((rd x3_3 x101_4) == 1)) = true := by simpa using c54))
                  (try (have c54b2 : ((decide (x101_4 < a0_2)) == ((rd x3_3 x101_4) == 1)) = true := by simpa using c54))
                  clear c54
                  by_cases c56 : (rd x3_3 x101_4) > 1
                  ·rw [if_pos c56] at H
                   have c56b0 : decide (1 < (rd x3_3 x101_4)) = true := decide_eq_true c56
                   clear c56
                   obtain rfl := Option.some.inj H
                   have p170 : 0 ≤ (x101_4 : Int) := of_decide_eq_true (by first | (with_reducible assumption) | assumption)
                   have q170 : x101_4 < (x3_3.length : Int) := of_decide_eq_true (by first | (with_reducible assumption) | assumption)
                   obtain ⟨ad170, e170, hx170_0⟩ := Kd.at_int (Kd.R_reads' HO_99.out).2.2 x101_4 p170 q170
                   cases e170
                   replace p170 := eq_true p170
                   replace q170 := eq_true q170
                   have hcz57_0 : wr.cell? ⟨gb159, 0, none⟩ = some (.int .i64 a0_0) := (bC BK159.out 0).trans rfl
                   have hcz57_1 : wr.cell? ⟨gb159, 1, none⟩ = some (.int .i64 a0_1) := (bC BK159.out 1).trans rfl
                   have hcz57_2 : wr.cell? ⟨gb159, 2, none⟩ = some (.int .i64 a0_2) := (bC BK159.out 2).trans rfl
                   have hcz57_3 : wr.cell? ⟨gb159, 3, none⟩ = some (.slice A0_3 l0_3.length c0_3) := (bC BK159.out 3).trans rfl
                   have hcz57_4 : wr.cell? ⟨gb159, 4, none⟩ = some (.slice A0_4 l0_4.length c0_4) := (bC BK159.out 4).trans rfl
                   have hcz57_5 : wr.cell? ⟨gb159, 5, none⟩ = some (.bool a0_5) := (bC BK159.out 5).trans rfl
                   have hfz57_0 := bF BK159.out 0
                   have hfz57_1 := bF BK159.out 1
                   have hfz57_2 := bF BK159.out 2
                   have hfz57_3 := bF BK159.out 3
                   have hfz57_4 := bF BK159.out 4
                   have hfz57_5 := bF BK159.out 5
                   go_wp2
                   all_goals (go_ret; exact ⟨by first | rfl | (simp [errW_none, errW_some] <;> rfl) | (simp [*, errW_none, errW_some] <;> rfl) | (simp_all; done), by repeat (first | (with_reducible first | exact HB.out | apply lA | apply lN | apply lD | refine lS ?_ GE159.out) | exact HB.out)⟩)
                  ·rw [if_neg c56] at H
                   have c56b0 : decide (1 < (rd x3_3 x101_4)) = false := decide_eq_false c56
                   clear c56
                   have H' := aaM H
                   clear H
                   have p170 : 0 ≤ (x101_4 : Int) := of_decide_eq_true (by first | (with_reducible assumption) | assumption)
                   have q170 : x101_4 < (x3_3.length : Int) := of_decide_eq_true (by first | (with_reducible assumption) | assumption)
                   obtain ⟨ad170, e170, hx170_0⟩ := Kd.at_int (Kd.R_reads' HO_99.out).2.2 x101_4 p170 q170
                   cases e170
                   replace p170 := eq_true p170
                   replace q170 := eq_true q170
                   have hcz58_0 : wr.cell? ⟨gb159, 0, none⟩ = some (.int .i64 a0_0) := (bC BK159.out 0).trans rfl
                   have hcz58_1 : wr.cell? ⟨gb159, 1, none⟩ = some (.int .i64 a0_1) := (bC BK159.out 1).trans rfl
                   have hcz58_2 : wr.cell? ⟨gb159, 2, none⟩ = some (.int .i64 a0_2) := (bC BK159.out 2).trans rfl
                   have hcz58_3 : wr.cell? ⟨gb159, 3, none⟩ = some (.slice A0_3 l0_3.length c0_3) := (bC BK159.out 3).trans rfl
                   have hcz58_4 : wr.cell? ⟨gb159, 4, none⟩ = some (.slice A0_4 l0_4.length c0_4) := (bC BK159.out 4).trans rfl
                   have hcz58_5 : wr.cell? ⟨gb159, 5, none⟩ = some (.bool a0_5) := (bC BK159.out 5).trans rfl
                   have hfz58_0 := bF BK159.out 0
                   have hfz58_1 := bF BK159.out 1
                   have hfz58_2 := bF BK159.out 2
                   have hfz58_3 := bF BK159.out 3
                   have hfz58_4 := bF BK159.out 4
                   have hfz58_5 := bF BK159.out 5
                   go_wp2
                   go_roundg k4
                   case measure => have := HJ1.out; have := HK2.out; have := HK3.out; have := HK4.out; omega
                   case rel => exact ⟨(wrap64 (x101_4 + 1)), (by first | rfl | (simp; done) | (simp [*]; done)), H', ⟨by have := HJ1.out; have := HK2.out; have := HK3.out; have := HK4.out; omega⟩, ⟨by (with_reducible repeat (first | apply rrA | apply rrN | apply rrD)); exact HO_99.out⟩, ⟨by (with_reducible repeat (first | refine bN ?_ _ | refine bD ?_ | refine bA ?_ _)); exact BK159.out⟩, ⟨by repeat (first | (with_reducible first | exact HB.out | apply lA | apply lN | apply lD | refine lS ?_ GE159.out) | exact HB.out)⟩⟩
                ·rw [if_neg c53] at H
                 exact absurd H (by simp)
               ·rw [if_neg c52] at H
                exact absurd H (by simp)
              ·rw [if_neg c51] at H
               have c51b0 : decide (x101_4 < (x3_3.length : Int)) = false := decide_eq_false c51
               clear c51
               by_cases c59 : a0_5 = true
               ·subst c59
                have H1 : ((sched_over.f k4 a0_0 a0_1 a0_2 l0_3 l0_4 true).bind fun t171 => (some t171)) = some r := by rw [if_pos rfl] at H; exact H
                clear H
                have H := H1
                clear H1
                replace H := ooB.mp H
                obtain ⟨t171, A600, H⟩ := H
                replace H : (some t171) = some r := H
                have A60 := aaM A600
                clear A600
                obtain rfl := Option.some.inj H
                have hcz61_0 : wr.cell? ⟨gb159, 0, none⟩ = some (.int .i64 a0_0) := (bC BK159.out 0).trans rfl
                have hcz61_1 : wr.cell? ⟨gb159, 1, none⟩ = some (.int .i64 a0_1) := (bC BK159.out 1).trans rfl
                have hcz61_2 : wr.cell? ⟨gb159, 2, none⟩ = some (.int .i64 a0_2) := (bC BK159.out 2).trans rfl
                have hcz61_3 : wr.cell? ⟨gb159, 3, none⟩ = some (.slice A0_3 l0_3.length c0_3) := (bC BK159.out 3).trans rfl
                have hcz61_4 : wr.cell? ⟨gb159, 4, none⟩ = some (.slice A0_4 l0_4.length c0_4) := (bC BK159.out 4).trans rfl
                have hcz61_5 : wr.cell? ⟨gb159, 5, none⟩ = some (.bool true) := (bC BK159.out 5).trans rfl
                have hfz61_0 := bF BK159.out 0
                have hfz61_1 := bF BK159.out 1
                have hfz61_2 := bF BK159.out 2
                have hfz61_3 := bF BK159.out 3
                have hfz61_4 := bF BK159.out 4
                have hfz61_5 := bF BK159.out 5
                go_wp2_with (first | (go_at_call 66; (with_reducible refine (sched_over.calls k4 a0_0 a0_1 a0_2 _ _ l0_3 _ _ l0_4 true t171 _ ?side1 ?side2 ?side3 ?side4 A60.out).mono ?_); (case side1 => repeat (first | exact (ccB HR0_3.out HB.out) | (with_reducible refine ccA ?_ _) | (with_reducible refine ccN ?_ _) | (with_reducible refine ccD ?_))); (case side2 => exact HC0_3.out); (case side3 => repeat (first | exact (ccB HR0_4.out HB.out) | (with_reducible refine ccA ?_ _) | (with_reducible refine ccN ?_ _) | (with_reducible refine ccD ?_))); (case side4 => exact HC0_4.out); rintro e w62 ⟨rfl, hb⟩; have n0_ := aaM (rrB (by (with_reducible repeat (first | apply rrA | apply rrN | apply rrD)); exact HO_99.out) hb); have n1_ := aaM (bB (g := gb159) (o := .cells #[.int .i64 a0_0, .int .i64 a0_1, .int .i64 a0_2, .slice A0_3 l0_3.length c0_3, .slice A0_4 l0_4.length c0_4, .bool true] 42 (0, 0)) (by (with_reducible repeat (first | refine bN ?_ _ | refine bD ?_ | refine bA ?_ _)); exact BK159.out) hb); have n2_ := aaM (lP (by repeat (first | (with_reducible first | exact HB.out | apply lA | apply lN | apply lD | refine lS ?_ GE159.out) | exact HB.out)) hb); clear HO_99; clear BK159; clear HB; have HO_99 := n0_; have BK159 := n1_; have HB := n2_; clear n0_ n1_ n2_; (try clear hb); (try clear hb2); (try clear hk); (try clear hi)))
                all_goals (go_ret; exact ⟨by first | rfl | (simp [errW_none, errW_some] <;> rfl) | (simp [*, errW_none, errW_some] <;> rfl) | (simp_all; done), by repeat (first | (with_reducible first | exact HB.out | apply lA | apply lN | apply lD | refine lS ?_ GE159.out) | exact HB.out)⟩)
               ·replace c59 := Bool.eq_false_iff.mpr c59
                subst c59
                have H1 : (some true) = some r := by rw [if_neg (show ¬ (false = true) by decide)] at H; exact H
                clear H
                have H := H1
                clear H1
                obtain rfl := Option.some.inj H
                have hcz63_0 : wr.cell? ⟨gb159, 0, none⟩ = some (.int .i64 a0_0) := (bC BK159.out 0).trans rfl
                have hcz63_1 : wr.cell? ⟨gb159, 1, none⟩ = some (.int .i64 a0_1) := (bC BK159.out 1).trans rfl
                have hcz63_2 : wr.cell? ⟨gb159, 2, none⟩ = some (.int .i64 a0_2) := (bC BK159.out 2).trans rfl
                have hcz63_3 : wr.cell? ⟨gb159, 3, none⟩ = some (.slice A0_3 l0_3.length c0_3) := (bC BK159.out 3).trans rfl
                have hcz63_4 : wr.cell? ⟨gb159, 4, none⟩ = some (.slice A0_4 l0_4.length c0_4) := (bC BK159.out 4).trans rfl
                have hcz63_5 : wr.cell? ⟨gb159, 5, none⟩ = some (.bool false) := (bC BK159.out 5).trans rfl
                have hfz63_0 := bF BK159.out 0
                have hfz63_1 := bF BK159.out 1
                have hfz63_2 := bF BK159.out 2
                have hfz63_3 := bF BK159.out 3
                have hfz63_4 := bF BK159.out 4
                have hfz63_5 := bF BK159.out 5
                go_wp2
                all_goals (go_ret; exact ⟨by first | rfl | (simp [errW_none, errW_some] <;> rfl) | (simp [*, errW_none, errW_some] <;> rfl) | (simp_all; done), by repeat (first | (with_reducible first | exact HB.out | apply lA | apply lN | apply lD | refine lS ?_ GE159.out) | exact HB.out)⟩)
     ·rw [if_neg c16] at H
      exact absurd H (by simp)
    ·rw [if_neg c15] at H
     exact absurd H (by simp)

end Go.Proofs.Ytoonddgldmfleaa.QSchedSteps
