-- Written by a program of this session (wip/tools/mkprint.py over the kit's print); Lean checks it.
import Derived.Test.YtoonddgldmfleaaQSchedEndsx0
import Derived.Test.YtoonddgldmfleaaQSchedEndsx4
import Derived.Test.YtoonddgldmfleaaQSchedEndsx5
import Derived.Test.YtoonddgldmfleaaQSchedEndsx6
namespace Go.Proofs.Ytoonddgldmfleaa.QSchedEnds
open Go.RowKit Go.Proofs.YtoonddgldmfleaaW.PrintWords Go.Proofs.YtoonddgldmfleaaW.PrintLast Go.Proofs.YtoonddgldmfleaaW.PrintMore
attribute [local go_sem] max2_int min2_int max_two min_two max_three min_three max_four min_four   -- for this text's walks alone
set_option linter.unusedVariables false
set_option linter.unusedSimpArgs false

/-! ### hornbeamlaw21_SchedEnds: function 10 -/
mutual
def hornbeamlaw21_SchedEnds.j0 : Nat → Bool → Int → Int → Int → List Int → List Bool → Bool → Option (Bool)
  | 0, _, _, _, _, _, _, _ => none
  | k + 1, x89, x186000, x186001, x186002, x186003, x186004, x186005 => if x89 = true then (some false) else (hornbeamlaw21_SchedEnds.l0 k x186004 (x186004.length : Int) 0 x186000 x186001 x186002 x186003 x186004 x186005)
def hornbeamlaw21_SchedEnds.l0 : Nat → List Bool → Int → Int → Int → Int → Int → List Int → List Bool → Bool → Option (Bool)
  | 0, _, _, _, _, _, _, _, _, _ => none
  | k + 1, x91, x92, x93, x186000, x186001, x186002, x186003, x186004, x186005 => if x93 < x92 then (if 0 ≤ x93 then (if x93 < (x91.length : Int) then (if rdOf false x91 x93 = true then (hornbeamlaw21_SchedEnds.l0 k x91 x92 (wrap64 (x93 + 1)) x186000 x186001 x186002 x186003 x186004 x186005) else (some false)) else (none)) else (none)) else (hornbeamlaw21_SchedEnds.l1 k x186003 (x186003.length : Int) 0)
def hornbeamlaw21_SchedEnds.l1 : Nat → List Int → Int → Int → Option (Bool)
  | 0, _, _, _ => none
  | k + 1, x101, x102, x103 => if x103 < x102 then (if 0 ≤ x103 then (if x103 < (x101.length : Int) then (if (rd x101 x103) = (-2) then (hornbeamlaw21_SchedEnds.l1 k x101 x102 (wrap64 (x103 + 1))) else (some false)) else (none)) else (none)) else ((hornbeamlaw21_fixed.f k).bind fun t194 => (some t194))
end
def hornbeamlaw21_SchedEnds.f (k : Nat) (a0 : Int) (a1 : Int) (l2 : List Int) : Option (Bool) := (sched_Play.f k (wrap64 (a0)) (wrap64 (1 + (wrap64 (Int.tmod a1 64)))) l2).bind fun bt171 => (if (l2.length : Int) > 2000 then ((hornbeamlaw21_fixed.f k).bind fun t186 => (some t186)) else (if bt171.2.2.2.2.2.2.2 = 0 then ((sched_Bound.f (wrap64 (a0)) (wrap64 (1 + (wrap64 (Int.tmod a1 64))))).bind fun t187 => (if (bt171.1.length : Int) = t187 then (if (bt171.1.length : Int) = (wrap64 ((wrap64 ((wrap64 (2 * (wrap64 (a0)))) + (wrap64 (1 + (wrap64 (Int.tmod a1 64)))))) + 1)) then ((sched_Ready.f k bt171.2.1 bt171.2.2.1 bt171.2.2.2.1 bt171.2.2.2.2.1 bt171.2.2.2.2.2.1 bt171.2.2.2.2.2.2.1).bind fun t188 => (if (t188.length : Int) = 0 then ((sched_May.f k bt171.2.1 bt171.2.2.1 bt171.2.2.2.1 bt171.2.2.2.2.1 bt171.2.2.2.2.2.1 bt171.2.2.2.2.2.2.1).bind fun t191 => (if t191 = true then (if bt171.2.2.2.2.2.2.1 = true then (if bt171.2.2.2.1 = (wrap64 (a0)) then (if (bt171.2.2.2.2.2.1.length : Int) = (wrap64 (a0)) then (hornbeamlaw21_SchedEnds.j0 k ((bt171.2.2.2.2.1.length : Int) != (wrap64 (1 + (wrap64 (Int.tmod a1 64))))) bt171.2.1 bt171.2.2.1 bt171.2.2.2.1 bt171.2.2.2.2.1 bt171.2.2.2.2.2.1 bt171.2.2.2.2.2.2.1) else (hornbeamlaw21_SchedEnds.j0 k true bt171.2.1 bt171.2.2.1 bt171.2.2.2.1 bt171.2.2.2.2.1 bt171.2.2.2.2.2.1 bt171.2.2.2.2.2.2.1)) else (hornbeamlaw21_SchedEnds.j0 k true bt171.2.1 bt171.2.2.1 bt171.2.2.2.1 bt171.2.2.2.2.1 bt171.2.2.2.2.2.1 bt171.2.2.2.2.2.2.1)) else (hornbeamlaw21_SchedEnds.j0 k true bt171.2.1 bt171.2.2.1 bt171.2.2.2.1 bt171.2.2.2.2.1 bt171.2.2.2.2.2.1 bt171.2.2.2.2.2.2.1)) else (hornbeamlaw21_SchedEnds.j0 k true bt171.2.1 bt171.2.2.1 bt171.2.2.2.1 bt171.2.2.2.2.1 bt171.2.2.2.2.2.1 bt171.2.2.2.2.2.2.1))) else (hornbeamlaw21_SchedEnds.j0 k true bt171.2.1 bt171.2.2.1 bt171.2.2.2.1 bt171.2.2.2.2.1 bt171.2.2.2.2.2.1 bt171.2.2.2.2.2.2.1))) else (hornbeamlaw21_SchedEnds.j0 k true bt171.2.1 bt171.2.2.1 bt171.2.2.2.1 bt171.2.2.2.2.1 bt171.2.2.2.2.2.1 bt171.2.2.2.2.2.2.1)) else (hornbeamlaw21_SchedEnds.j0 k true bt171.2.1 bt171.2.2.1 bt171.2.2.2.1 bt171.2.2.2.2.1 bt171.2.2.2.2.2.1 bt171.2.2.2.2.2.2.1))) else (hornbeamlaw21_SchedEnds.j0 k true bt171.2.1 bt171.2.2.1 bt171.2.2.2.1 bt171.2.2.2.2.1 bt171.2.2.2.2.2.1 bt171.2.2.2.2.2.2.1)))
theorem hornbeamlaw21_SchedEnds.mono_l : ∀ k, (∀ y0 y1 y2 y3 y4 y5 y6, LeO (hornbeamlaw21_SchedEnds.j0 k y0 y1 y2 y3 y4 y5 y6) (hornbeamlaw21_SchedEnds.j0 (k + 1) y0 y1 y2 y3 y4 y5 y6)) ∧ (∀ y0 y1 y2 y3 y4 y5 y6 y7 y8, LeO (hornbeamlaw21_SchedEnds.l0 k y0 y1 y2 y3 y4 y5 y6 y7 y8) (hornbeamlaw21_SchedEnds.l0 (k + 1) y0 y1 y2 y3 y4 y5 y6 y7 y8)) ∧ (∀ y0 y1 y2, LeO (hornbeamlaw21_SchedEnds.l1 k y0 y1 y2) (hornbeamlaw21_SchedEnds.l1 (k + 1) y0 y1 y2))
  | 0 => ⟨fun _ _ _ _ _ _ _ r h => by simp [hornbeamlaw21_SchedEnds.j0] at h, fun _ _ _ _ _ _ _ _ _ r h => by simp [hornbeamlaw21_SchedEnds.l0] at h, fun _ _ _ r h => by simp [hornbeamlaw21_SchedEnds.l1] at h⟩
  | k + 1 => by
    obtain ⟨ih0, ih1, ih2⟩ := hornbeamlaw21_SchedEnds.mono_l k
    refine ⟨?_, ?_, ?_⟩
    · intro y0 y1 y2 y3 y4 y5 y6
      unfold hornbeamlaw21_SchedEnds.j0
      repeat' first
      | (with_reducible exact ih0 _ _ _ _ _ _ _)
      | (with_reducible exact ih1 _ _ _ _ _ _ _ _ _)
      | (with_reducible exact ih2 _ _ _)
      | (with_reducible exact hornbeamlaw21_fixed.mono _)
      | (with_reducible exact sched_May.mono _ _ _ _ _ _ _)
      | (with_reducible exact sched_Play.mono _ _ _ _)
      | (with_reducible exact sched_Ready.mono _ _ _ _ _ _ _)
      | (with_reducible exact LeO.refl _)
      | (with_reducible exact LeO.none _)
      | (with_reducible refine LeO.ite ?_ ?_)
      | (with_reducible refine LeO.bind ?_ (fun _ => ?_))
      | exact ih0 _ _ _ _ _ _ _
      | exact ih1 _ _ _ _ _ _ _ _ _
      | exact ih2 _ _ _
      | exact hornbeamlaw21_fixed.mono _
      | exact sched_May.mono _ _ _ _ _ _ _
      | exact sched_Play.mono _ _ _ _
      | exact sched_Ready.mono _ _ _ _ _ _ _
      | exact LeO.none _
      | refine LeO.ite ?_ ?_
      | refine LeO.bind ?_ (fun _ => ?_)
    · intro y0 y1 y2 y3 y4 y5 y6 y7 y8
      unfold hornbeamlaw21_SchedEnds.l0
      repeat' first
      | (with_reducible exact ih0 _ _ _ _ _ _ _)
      | (with_reducible exact ih1 _ _ _ _ _ _ _ _ _)
      | (with_reducible exact ih2 _ _ _)
      | (with_reducible exact hornbeamlaw21_fixed.mono _)
      | (with_reducible exact sched_May.mono _ _ _ _ _ _ _)
      | (with_reducible exact sched_Play.mono _ _ _ _)
      | (with_reducible exact sched_Ready.mono _ _ _ _ _ _ _)
      | (with_reducible exact LeO.refl _)
      | (with_reducible exact LeO.none _)
      | (with_reducible refine LeO.ite ?_ ?_)
      | (with_reducible refine LeO.bind ?_ (fun _ => ?_))
      | exact ih0 _ _ _ _ _ _ _
      | exact ih1 _ _ _ _ _ _ _ _ _
      | exact ih2 _ _ _
      | exact hornbeamlaw21_fixed.mono _
      | exact sched_May.mono _ _ _ _ _ _ _
      | exact sched_Play.mono _ _ _ _
      | exact sched_Ready.mono _ _ _ _ _ _ _
      | exact LeO.none _
      | refine LeO.ite ?_ ?_
      | refine LeO.bind ?_ (fun _ => ?_)
    · intro y0 y1 y2
      unfold hornbeamlaw21_SchedEnds.l1
      repeat' first
      | (with_reducible exact ih0 _ _ _ _ _ _ _)
      | (with_reducible exact ih1 _ _ _ _ _ _ _ _ _)
      | (with_reducible exact ih2 _ _ _)
      | (with_reducible exact hornbeamlaw21_fixed.mono _)
      | (with_reducible exact sched_May.mono _ _ _ _ _ _ _)
      | (with_reducible exact sched_Play.mono _ _ _ _)
      | (with_reducible exact sched_Ready.mono _ _ _ _ _ _ _)
      | (with_reducible exact LeO.refl _)
      | (with_reducible exact LeO.none _)
      | (with_reducible refine LeO.ite ?_ ?_)
      | (with_reducible refine LeO.bind ?_ (fun _ => ?_))
      | exact ih0 _ _ _ _ _ _ _
      | exact ih1 _ _ _ _ _ _ _ _ _
      | exact ih2 _ _ _
      | exact hornbeamlaw21_fixed.mono _
      | exact sched_May.mono _ _ _ _ _ _ _
      | exact sched_Play.mono _ _ _ _
      | exact sched_Ready.mono _ _ _ _ _ _ _
      | exact LeO.none _
      | refine LeO.ite ?_ ?_
      | refine LeO.bind ?_ (fun _ => ?_)
theorem hornbeamlaw21_SchedEnds.mono : ∀ a0 a1 a2 k, LeO (hornbeamlaw21_SchedEnds.f k a0 a1 a2) (hornbeamlaw21_SchedEnds.f (k + 1) a0 a1 a2) := by
  intro a0 a1 a2 k
  obtain ⟨ih0, ih1, ih2⟩ := hornbeamlaw21_SchedEnds.mono_l k
  unfold hornbeamlaw21_SchedEnds.f
  repeat' first
      | (with_reducible exact ih0 _ _ _ _ _ _ _)
      | (with_reducible exact ih1 _ _ _ _ _ _ _ _ _)
      | (with_reducible exact ih2 _ _ _)
      | (with_reducible exact hornbeamlaw21_fixed.mono _)
      | (with_reducible exact sched_May.mono _ _ _ _ _ _ _)
      | (with_reducible exact sched_Play.mono _ _ _ _)
      | (with_reducible exact sched_Ready.mono _ _ _ _ _ _ _)
      | (with_reducible exact LeO.refl _)
      | (with_reducible exact LeO.none _)
      | (with_reducible refine LeO.ite ?_ ?_)
      | (with_reducible refine LeO.bind ?_ (fun _ => ?_))
      | exact ih0 _ _ _ _ _ _ _
      | exact ih1 _ _ _ _ _ _ _ _ _
      | exact ih2 _ _ _
      | exact hornbeamlaw21_fixed.mono _
      | exact sched_May.mono _ _ _ _ _ _ _
      | exact sched_Play.mono _ _ _ _
      | exact sched_Ready.mono _ _ _ _ _ _ _
      | exact LeO.none _
      | refine LeO.ite ?_ ?_
      | refine LeO.bind ?_ (fun _ => ?_)
set_option maxHeartbeats 8000000 in
set_option maxRecDepth 100000 in
theorem hornbeamlaw21_SchedEnds.calls (k : Nat) (a0 : Int) (a1 : Int) (A2 : Option Addr) (c2 : Nat) (l2 : List Int) (r : Bool) (w : World) (hr2 : Kd.C (Kd.int .i64) w A2 l2.length l2) (hc2 : l2.length ≤ c2) (h : hornbeamlaw21_SchedEnds.f k a0 a1 l2 = some r) (hr_ : r = true) :
    Calls Try.prog 10 #[.int .u8 a0, .int .u8 a1, .slice A2 l2.length c2] w fun e w' => e = .returned (.bool r) ∧ Below w.heap.size w w' := by
  have hu42 := Try.underlying42
  have HR_ := Aside0.mk hr_
  clear hr_
  have HR2 := Aside0.mk hr2
  have HC2 := Aside0.mk hc2
  clear hr2 hc2
  have HB := Aside0.mk (Below.refl w.heap.size w)
  have H : ((sched_Play.f k (wrap64 (a0)) (wrap64 (1 + (wrap64 (Int.tmod a1 64)))) l2).bind fun bt171 => (if (l2.length : Int) > 2000 then ((hornbeamlaw21_fixed.f k).bind fun t186 => (some t186)) else (if bt171.2.2.2.2.2.2.2 = 0 then ((sched_Bound.f (wrap64 (a0)) (wrap64 (1 + (wrap64 (Int.tmod a1 64))))).bind fun t187 => (if (bt171.1.length : Int) = t187 then (if (bt171.1.length : Int) = (wrap64 ((wrap64 ((wrap64 (2 * (wrap64 (a0)))) + (wrap64 (1 + (wrap64 (Int.tmod a1 64)))))) + 1)) then ((sched_Ready.f k bt171.2.1 bt171.2.2.1 bt171.2.2.2.1 bt171.2.2.2.2.1 bt171.2.2.2.2.2.1 bt171.2.2.2.2.2.2.1).bind fun t188 => (if (t188.length : Int) = 0 then ((sched_May.f k bt171.2.1 bt171.2.2.1 bt171.2.2.2.1 bt171.2.2.2.2.1 bt171.2.2.2.2.2.1 bt171.2.2.2.2.2.2.1).bind fun t191 => (if t191 = true then (if bt171.2.2.2.2.2.2.1 = true then (if bt171.2.2.2.1 = (wrap64 (a0)) then (if (bt171.2.2.2.2.2.1.length : Int) = (wrap64 (a0)) then (hornbeamlaw21_SchedEnds.j0 k ((bt171.2.2.2.2.1.length : Int) != (wrap64 (1 + (wrap64 (Int.tmod a1 64))))) bt171.2.1 bt171.2.2.1 bt171.2.2.2.1 bt171.2.2.2.2.1 bt171.2.2.2.2.2.1 bt171.2.2.2.2.2.2.1) else (hornbeamlaw21_SchedEnds.j0 k true bt171.2.1 bt171.2.2.1 bt171.2.2.2.1 bt171.2.2.2.2.1 bt171.2.2.2.2.2.1 bt171.2.2.2.2.2.2.1)) else (hornbeamlaw21_SchedEnds.j0 k true bt171.2.1 bt171.2.2.1 bt171.2.2.2.1 bt171.2.2.2.2.1 bt171.2.2.2.2.2.1 bt171.2.2.2.2.2.2.1)) else (hornbeamlaw21_SchedEnds.j0 k true bt171.2.1 bt171.2.2.1 bt171.2.2.2.1 bt171.2.2.2.2.1 bt171.2.2.2.2.2.1 bt171.2.2.2.2.2.2.1)) else (hornbeamlaw21_SchedEnds.j0 k true bt171.2.1 bt171.2.2.1 bt171.2.2.2.1 bt171.2.2.2.2.1 bt171.2.2.2.2.2.1 bt171.2.2.2.2.2.2.1))) else (hornbeamlaw21_SchedEnds.j0 k true bt171.2.1 bt171.2.2.1 bt171.2.2.2.1 bt171.2.2.2.2.1 bt171.2.2.2.2.2.1 bt171.2.2.2.2.2.2.1))) else (hornbeamlaw21_SchedEnds.j0 k true bt171.2.1 bt171.2.2.1 bt171.2.2.2.1 bt171.2.2.2.2.1 bt171.2.2.2.2.2.1 bt171.2.2.2.2.2.2.1)) else (hornbeamlaw21_SchedEnds.j0 k true bt171.2.1 bt171.2.2.1 bt171.2.2.2.1 bt171.2.2.2.2.1 bt171.2.2.2.2.2.1 bt171.2.2.2.2.2.2.1))) else (hornbeamlaw21_SchedEnds.j0 k true bt171.2.1 bt171.2.2.1 bt171.2.2.2.1 bt171.2.2.2.2.1 bt171.2.2.2.2.2.1 bt171.2.2.2.2.2.2.1)))) = some r := h
  clear h
  replace H := Option.bind_eq_some_iff.mp H
  obtain ⟨⟨t171, t174, t175, t176, t177, t180, t183, t184⟩, A40, H⟩ := H
  replace H : (if (l2.length : Int) > 2000 then ((hornbeamlaw21_fixed.f k).bind fun t186 => (some t186)) else (if t184 = 0 then ((sched_Bound.f (wrap64 (a0)) (wrap64 (1 + (wrap64 (Int.tmod a1 64))))).bind fun t187 => (if (t171.length : Int) = t187 then (if (t171.length : Int) = (wrap64 ((wrap64 ((wrap64 (2 * (wrap64 (a0)))) + (wrap64 (1 + (wrap64 (Int.tmod a1 64)))))) + 1)) then ((sched_Ready.f k t174 t175 t176 t177 t180 t183).bind fun t188 => (if (t188.length : Int) = 0 then ((sched_May.f k t174 t175 t176 t177 t180 t183).bind fun t191 => (if t191 = true then (if t183 = true then (if t176 = (wrap64 (a0)) then (if (t180.length : Int) = (wrap64 (a0)) then (hornbeamlaw21_SchedEnds.j0 k ((t177.length : Int) != (wrap64 (1 + (wrap64 (Int.tmod a1 64))))) t174 t175 t176 t177 t180 t183) else (hornbeamlaw21_SchedEnds.j0 k true t174 t175 t176 t177 t180 t183)) else (hornbeamlaw21_SchedEnds.j0 k true t174 t175 t176 t177 t180 t183)) else (hornbeamlaw21_SchedEnds.j0 k true t174 t175 t176 t177 t180 t183)) else (hornbeamlaw21_SchedEnds.j0 k true t174 t175 t176 t177 t180 t183))) else (hornbeamlaw21_SchedEnds.j0 k true t174 t175 t176 t177 t180 t183))) else (hornbeamlaw21_SchedEnds.j0 k true t174 t175 t176 t177 t180 t183)) else (hornbeamlaw21_SchedEnds.j0 k true t174 t175 t176 t177 t180 t183))) else (hornbeamlaw21_SchedEnds.j0 k true t174 t175 t176 t177 t180 t183))) = some r := H
  have A4 := Aside0.mk A40
  clear A40
  by_cases c5 : (l2.length : Int) > 2000
  · rw [if_pos c5] at H
    have c5b0 : decide (2000 < (l2.length : Int)) = true := decide_eq_true c5
    have c5b1 : decide (2000 < l2.length) = true := decide_eq_true (by omega)
    clear c5
    replace H := Option.bind_eq_some_iff.mp H
    obtain ⟨t186, A60, H⟩ := H
    replace H : (some t186) = some r := H
    have A6 := Aside0.mk A60
    clear A60
    obtain rfl := Option.some.inj H
    go_enter Try.func10, Try.ntmps10
    go_wp2_with (first | ((with_reducible refine gate_callee (f := 22) rfl ?_); refine goesL_ (some 26) rfl rfl Try.func22 (by kernel_rfl) rfl #[.int .i64 (wrap64 (a0)), .int .i64 (wrap64 (1 + (wrap64 (Int.tmod a1 64)))), .slice A2 l2.length c2] rfl (by (try simp only [List.map_toArray, List.map_cons, List.map_nil]); first | done | rfl | (simp only [List.length_drop, List.length_take]; rfl)) ?_; (with_reducible refine (sched_Play.calls k (wrap64 (a0)) (wrap64 (1 + (wrap64 (Int.tmod a1 64)))) _ _ l2 t171 t174 t175 t176 t177 t180 t183 t184 _ ?side1 ?side2 A4.out).mono ?_); (case side1 => repeat (first | exact HR2.out | (with_reducible refine Kd.C_alloc ?_ _) | (with_reducible refine Kd.C_drewN ?_ _) | (with_reducible refine Kd.C_drew ?_))); (case side2 => exact HC2.out); rintro e w7 ⟨v172, v178, v181, rfl, ho0, ho1, ho2, hb⟩; refine ⟨_, rfl, ?_⟩; have n0_ := Aside0.mk (Kd.R_lower ho0 (below_size (by repeat (first | (with_reducible first | exact HB.out | apply below_alloc | apply pw_below_drewN | apply below_drew1) | exact HB.out)))); have n1_ := Aside0.mk (Kd.R_lower ho1 (below_size (by repeat (first | (with_reducible first | exact HB.out | apply below_alloc | apply pw_below_drewN | apply below_drew1) | exact HB.out)))); have n2_ := Aside0.mk (Kd.R_lower ho2 (below_size (by repeat (first | (with_reducible first | exact HB.out | apply below_alloc | apply pw_below_drewN | apply below_drew1) | exact HB.out)))); have n3_ := Aside0.mk (below_step (by repeat (first | (with_reducible first | exact HB.out | apply below_alloc | apply pw_below_drewN | apply below_drew1) | exact HB.out)) hb); clear HB; have HO173 := n0_; have HO179 := n1_; have HO182 := n2_; have HB := n3_; clear n0_ n1_ n2_ n3_; (try clear hb); (try clear hb2); (try clear hk); (try clear hi); (try clear ho0); (try clear ho1); (try clear ho2)) | ((with_reducible refine gate_dst (N := 10) rfl ?_); (try (refine gate_guard (by rfl) ?_; dsimp only)); refine box_event ?hg (N := 10) ?hd (cs := #[.int .i64 0, .int .i64 0, .int .i64 0, .slice none 0 0, .slice none 0 0, .bool false]) (t := 42) ?hr ?_; (case hd => rfl); (case hg => rfl); (case hr => first | (go_simp; done) | (go_simp; rfl)); intro gb185 hg w8 hbox hb; have n0_ := Aside0.mk (Kd.R_below (by (with_reducible repeat (first | apply Kd.R_alloc | apply Kd.R_drewN | apply Kd.R_drew)); exact HO173.out) hb); have n1_ := Aside0.mk (Kd.R_below (by (with_reducible repeat (first | apply Kd.R_alloc | apply Kd.R_drewN | apply Kd.R_drew)); exact HO179.out) hb); have n2_ := Aside0.mk (Kd.R_below (by (with_reducible repeat (first | apply Kd.R_alloc | apply Kd.R_drewN | apply Kd.R_drew)); exact HO182.out) hb); have n3_ := Aside0.mk (below_step (by repeat (first | (with_reducible first | exact HB.out | apply below_alloc | apply pw_below_drewN | apply below_drew1) | exact HB.out)) hb); have n4_ := Aside0.mk (hbox); have n5_ := Aside0.mk ((by rw [hg]; exact (below_size (by repeat (first | (with_reducible first | exact HB.out | apply below_alloc | apply pw_below_drewN | apply below_drew1) | exact HB.out))) : w.heap.size ≤ gb185)); have n6_ := Aside0.mk ((by rw [hg]; exact (below_size (by repeat (first | (with_reducible first | exact HB.out | apply below_alloc | apply pw_below_drewN | apply below_drew1) | exact HB.out))) : w.heap.size ≤ gb185)); clear HO173; clear HO179; clear HO182; clear HB; have HO173 := n0_; have HO179 := n1_; have HO182 := n2_; have HB := n3_; have BK185 := n4_; have GW185 := n5_; have GE185 := n6_; clear n0_ n1_ n2_ n3_ n4_ n5_ n6_; clear hb hbox hg; have hcz9_0 : w8.cell? ⟨gb185, 0, none⟩ = some (.int .i64 0) := (blk_cell BK185.out 0).trans rfl; have hcz9_1 : w8.cell? ⟨gb185, 1, none⟩ = some (.int .i64 0) := (blk_cell BK185.out 1).trans rfl; have hcz9_2 : w8.cell? ⟨gb185, 2, none⟩ = some (.int .i64 0) := (blk_cell BK185.out 2).trans rfl; have hcz9_3 : w8.cell? ⟨gb185, 3, none⟩ = some (.slice none 0 0) := (blk_cell BK185.out 3).trans rfl; have hcz9_4 : w8.cell? ⟨gb185, 4, none⟩ = some (.slice none 0 0) := (blk_cell BK185.out 4).trans rfl; have hcz9_5 : w8.cell? ⟨gb185, 5, none⟩ = some (.bool false) := (blk_cell BK185.out 5).trans rfl; have hfz9_0 := blk_frozen BK185.out 0; have hfz9_1 := blk_frozen BK185.out 1; have hfz9_2 := blk_frozen BK185.out 2; have hfz9_3 := blk_frozen BK185.out 3; have hfz9_4 := blk_frozen BK185.out 4; have hfz9_5 := blk_frozen BK185.out 5; obtain ⟨Ao10, co10, eo10⟩ := Kd.R_slice HO179.out; subst eo10; obtain ⟨Ao11, co11, eo11⟩ := Kd.R_slice HO182.out; subst eo11) | ((with_reducible refine gate_callee (f := 21) rfl ?_); refine goesL_ (some 33) rfl rfl Try.func21 (by kernel_rfl) rfl #[] rfl (by (try simp only [List.map_toArray, List.map_cons, List.map_nil]); first | done | rfl | (simp only [List.length_drop, List.length_take]; rfl)) ?_; (with_reducible refine (hornbeamlaw21_fixed.calls k  t186 _ A6.out).mono ?_); rintro e w12 ⟨rfl, hb⟩; refine ⟨_, rfl, ?_⟩; have n0_ := Aside0.mk (Kd.R_below (by (with_reducible repeat (first | apply Kd.R_alloc | apply Kd.R_drewN | apply Kd.R_drew)); exact (Kd.R_mono (Kd.R_far (p := ⟨gb185, 5, none⟩) (Kd.R_far (p := ⟨gb185, 4, none⟩) (Kd.R_far (p := ⟨gb185, 3, none⟩) (Kd.R_far (p := ⟨gb185, 2, none⟩) (Kd.R_far (p := ⟨gb185, 1, none⟩) (Kd.R_far (p := ⟨gb185, 0, none⟩) (Kd.R_types HO173.out BK185.out (by decide)) (fun _ hk => hk.2) (.int .i64 t174)) (fun _ hk => hk.2) (.int .i64 t175)) (fun _ hk => hk.2) (.int .i64 t176)) (fun _ hk => hk.2) (.slice Ao10 t177.length co10)) (fun _ hk => hk.2) (.slice Ao11 t180.length co11)) (fun _ hk => hk.2) (.bool t183)) (fun _ h_ => h_.1))) hb); have n1_ := Aside0.mk (Kd.R_below (by (with_reducible repeat (first | apply Kd.R_alloc | apply Kd.R_drewN | apply Kd.R_drew)); exact (Kd.R_mono (Kd.R_far (p := ⟨gb185, 5, none⟩) (Kd.R_far (p := ⟨gb185, 4, none⟩) (Kd.R_far (p := ⟨gb185, 3, none⟩) (Kd.R_far (p := ⟨gb185, 2, none⟩) (Kd.R_far (p := ⟨gb185, 1, none⟩) (Kd.R_far (p := ⟨gb185, 0, none⟩) (Kd.R_types HO179.out BK185.out (by decide)) (fun _ hk => hk.2) (.int .i64 t174)) (fun _ hk => hk.2) (.int .i64 t175)) (fun _ hk => hk.2) (.int .i64 t176)) (fun _ hk => hk.2) (.slice Ao10 t177.length co10)) (fun _ hk => hk.2) (.slice Ao11 t180.length co11)) (fun _ hk => hk.2) (.bool t183)) (fun _ h_ => h_.1))) hb); have n2_ := Aside0.mk (Kd.R_below (by (with_reducible repeat (first | apply Kd.R_alloc | apply Kd.R_drewN | apply Kd.R_drew)); exact (Kd.R_mono (Kd.R_far (p := ⟨gb185, 5, none⟩) (Kd.R_far (p := ⟨gb185, 4, none⟩) (Kd.R_far (p := ⟨gb185, 3, none⟩) (Kd.R_far (p := ⟨gb185, 2, none⟩) (Kd.R_far (p := ⟨gb185, 1, none⟩) (Kd.R_far (p := ⟨gb185, 0, none⟩) (Kd.R_types HO182.out BK185.out (by decide)) (fun _ hk => hk.2) (.int .i64 t174)) (fun _ hk => hk.2) (.int .i64 t175)) (fun _ hk => hk.2) (.int .i64 t176)) (fun _ hk => hk.2) (.slice Ao10 t177.length co10)) (fun _ hk => hk.2) (.slice Ao11 t180.length co11)) (fun _ hk => hk.2) (.bool t183)) (fun _ h_ => h_.1))) hb); have n3_ := Aside0.mk (blk_below (g := gb185) (o := .cells #[.int .i64 t174, .int .i64 t175, .int .i64 t176, .slice Ao10 t177.length co10, .slice Ao11 t180.length co11, .bool t183] 42 (0, 0)) (by (with_reducible repeat (first | refine blk_drewN ?_ _ | refine blk_drew ?_ | refine blk_alloc ?_ _)); refine blk_put (cs := #[.int .i64 t174, .int .i64 t175, .int .i64 t176, .slice Ao10 t177.length co10, .slice Ao11 t180.length co11, .bool false]) ?_ 5 _ rfl; (with_reducible repeat (first | refine blk_drewN ?_ _ | refine blk_drew ?_ | refine blk_alloc ?_ _)); refine blk_put (cs := #[.int .i64 t174, .int .i64 t175, .int .i64 t176, .slice Ao10 t177.length co10, .slice none 0 0, .bool false]) ?_ 4 _ rfl; (with_reducible repeat (first | refine blk_drewN ?_ _ | refine blk_drew ?_ | refine blk_alloc ?_ _)); refine blk_put (cs := #[.int .i64 t174, .int .i64 t175, .int .i64 t176, .slice none 0 0, .slice none 0 0, .bool false]) ?_ 3 _ rfl; (with_reducible repeat (first | refine blk_drewN ?_ _ | refine blk_drew ?_ | refine blk_alloc ?_ _)); refine blk_put (cs := #[.int .i64 t174, .int .i64 t175, .int .i64 0, .slice none 0 0, .slice none 0 0, .bool false]) ?_ 2 _ rfl; (with_reducible repeat (first | refine blk_drewN ?_ _ | refine blk_drew ?_ | refine blk_alloc ?_ _)); refine blk_put (cs := #[.int .i64 t174, .int .i64 0, .int .i64 0, .slice none 0 0, .slice none 0 0, .bool false]) ?_ 1 _ rfl; (with_reducible repeat (first | refine blk_drewN ?_ _ | refine blk_drew ?_ | refine blk_alloc ?_ _)); refine blk_put (cs := #[.int .i64 0, .int .i64 0, .int .i64 0, .slice none 0 0, .slice none 0 0, .bool false]) ?_ 0 _ rfl; (with_reducible repeat (first | refine blk_drewN ?_ _ | refine blk_drew ?_ | refine blk_alloc ?_ _)); exact BK185.out) hb); have n4_ := Aside0.mk (below_step (by repeat (first | (with_reducible first | exact HB.out | apply below_alloc | apply pw_below_drewN | apply below_drew1 | refine below_set ?_ GE185.out) | exact HB.out)) hb); clear HO173; clear HO179; clear HO182; clear BK185; clear HB; have HO173 := n0_; have HO179 := n1_; have HO182 := n2_; have BK185 := n3_; have HB := n4_; clear n0_ n1_ n2_ n3_ n4_; (try clear hb); (try clear hb2); (try clear hk); (try clear hi)))
    all_goals (go_ret; exact ⟨by first | rfl | (simp [errW_none, errW_some] <;> rfl) | (simp [*, errW_none, errW_some] <;> rfl) | (simp_all; done), by repeat (first | (with_reducible first | exact HB.out | apply below_alloc | apply pw_below_drewN | apply below_drew1 | refine below_set ?_ GE185.out) | exact HB.out)⟩)
  · rw [if_neg c5] at H
    have c5b0 : decide (2000 < (l2.length : Int)) = false := decide_eq_false c5
    have c5b1 : decide (2000 < l2.length) = false := decide_eq_false (by omega)
    clear c5
    have HC13 := Aside0.mk H
    clear H
    go_enter Try.func10, Try.ntmps10
    go_upto_region 5 with (first | ((with_reducible refine gate_callee (f := 22) rfl ?_); refine goesL_ (some 26) rfl rfl Try.func22 (by kernel_rfl) rfl #[.int .i64 (wrap64 (a0)), .int .i64 (wrap64 (1 + (wrap64 (Int.tmod a1 64)))), .slice A2 l2.length c2] rfl (by (try simp only [List.map_toArray, List.map_cons, List.map_nil]); first | done | rfl | (simp only [List.length_drop, List.length_take]; rfl)) ?_; (with_reducible refine (sched_Play.calls k (wrap64 (a0)) (wrap64 (1 + (wrap64 (Int.tmod a1 64)))) _ _ l2 t171 t174 t175 t176 t177 t180 t183 t184 _ ?side1 ?side2 A4.out).mono ?_); (case side1 => repeat (first | exact HR2.out | (with_reducible refine Kd.C_alloc ?_ _) | (with_reducible refine Kd.C_drewN ?_ _) | (with_reducible refine Kd.C_drew ?_))); (case side2 => exact HC2.out); rintro e w14 ⟨v172, v178, v181, rfl, ho0, ho1, ho2, hb⟩; refine ⟨_, rfl, ?_⟩; have n0_ := Aside0.mk (Kd.R_lower ho0 (below_size (by repeat (first | (with_reducible first | exact HB.out | apply below_alloc | apply pw_below_drewN | apply below_drew1) | exact HB.out)))); have n1_ := Aside0.mk (Kd.R_lower ho1 (below_size (by repeat (first | (with_reducible first | exact HB.out | apply below_alloc | apply pw_below_drewN | apply below_drew1) | exact HB.out)))); have n2_ := Aside0.mk (Kd.R_lower ho2 (below_size (by repeat (first | (with_reducible first | exact HB.out | apply below_alloc | apply pw_below_drewN | apply below_drew1) | exact HB.out)))); have n3_ := Aside0.mk (below_step (by repeat (first | (with_reducible first | exact HB.out | apply below_alloc | apply pw_below_drewN | apply below_drew1) | exact HB.out)) hb); clear HB; have HO173 := n0_; have HO179 := n1_; have HO182 := n2_; have HB := n3_; clear n0_ n1_ n2_ n3_; (try clear hb); (try clear hb2); (try clear hk); (try clear hi); (try clear ho0); (try clear ho1); (try clear ho2)) | ((with_reducible refine gate_dst (N := 10) rfl ?_); (try (refine gate_guard (by rfl) ?_; dsimp only)); refine box_event ?hg (N := 10) ?hd (cs := #[.int .i64 0, .int .i64 0, .int .i64 0, .slice none 0 0, .slice none 0 0, .bool false]) (t := 42) ?hr ?_; (case hd => rfl); (case hg => rfl); (case hr => first | (go_simp; done) | (go_simp; rfl)); intro gb185 hg w15 hbox hb; have n0_ := Aside0.mk (Kd.R_below (by (with_reducible repeat (first | apply Kd.R_alloc | apply Kd.R_drewN | apply Kd.R_drew)); exact HO173.out) hb); have n1_ := Aside0.mk (Kd.R_below (by (with_reducible repeat (first | apply Kd.R_alloc | apply Kd.R_drewN | apply Kd.R_drew)); exact HO179.out) hb); have n2_ := Aside0.mk (Kd.R_below (by (with_reducible repeat (first | apply Kd.R_alloc | apply Kd.R_drewN | apply Kd.R_drew)); exact HO182.out) hb); have n3_ := Aside0.mk (below_step (by repeat (first | (with_reducible first | exact HB.out | apply below_alloc | apply pw_below_drewN | apply below_drew1) | exact HB.out)) hb); have n4_ := Aside0.mk (hbox); have n5_ := Aside0.mk ((by rw [hg]; exact (below_size (by repeat (first | (with_reducible first | exact HB.out | apply below_alloc | apply pw_below_drewN | apply below_drew1) | exact HB.out))) : w.heap.size ≤ gb185)); have n6_ := Aside0.mk ((by rw [hg]; exact (below_size (by repeat (first | (with_reducible first | exact HB.out | apply below_alloc | apply pw_below_drewN | apply below_drew1) | exact HB.out))) : w.heap.size ≤ gb185)); clear HO173; clear HO179; clear HO182; clear HB; have HO173 := n0_; have HO179 := n1_; have HO182 := n2_; have HB := n3_; have BK185 := n4_; have GW185 := n5_; have GE185 := n6_; clear n0_ n1_ n2_ n3_ n4_ n5_ n6_; clear hb hbox hg; have hcz16_0 : w15.cell? ⟨gb185, 0, none⟩ = some (.int .i64 0) := (blk_cell BK185.out 0).trans rfl; have hcz16_1 : w15.cell? ⟨gb185, 1, none⟩ = some (.int .i64 0) := (blk_cell BK185.out 1).trans rfl; have hcz16_2 : w15.cell? ⟨gb185, 2, none⟩ = some (.int .i64 0) := (blk_cell BK185.out 2).trans rfl; have hcz16_3 : w15.cell? ⟨gb185, 3, none⟩ = some (.slice none 0 0) := (blk_cell BK185.out 3).trans rfl; have hcz16_4 : w15.cell? ⟨gb185, 4, none⟩ = some (.slice none 0 0) := (blk_cell BK185.out 4).trans rfl; have hcz16_5 : w15.cell? ⟨gb185, 5, none⟩ = some (.bool false) := (blk_cell BK185.out 5).trans rfl; have hfz16_0 := blk_frozen BK185.out 0; have hfz16_1 := blk_frozen BK185.out 1; have hfz16_2 := blk_frozen BK185.out 2; have hfz16_3 := blk_frozen BK185.out 3; have hfz16_4 := blk_frozen BK185.out 4; have hfz16_5 := blk_frozen BK185.out 5; obtain ⟨Ao17, co17, eo17⟩ := Kd.R_slice HO179.out; subst eo17; obtain ⟨Ao18, co18, eo18⟩ := Kd.R_slice HO182.out; subst eo18))
    (try simp only [Act.put, List.setIfInBounds_toArray, List.set_cons_zero, List.set_cons_succ])
    go_cut [89] (fun v89 wc => ∃ (kq : Nat) (x89_12 : Bool), v89 = .bool x89_12 ∧ Aside0 (hornbeamlaw21_SchedEnds.j0 kq x89_12 t174 t175 t176 t177 t180 t183 = some r) ∧ Aside0 (kq ≤ k) ∧ Aside0 (Kd.R (Kd.int .i64) 3 wc w.heap.size (fun _ => True) (.slice Ao17 t177.length co17) t177) ∧ Aside0 (Kd.R Kd.bool 4 wc w.heap.size (fun _ => True) (.slice Ao18 t180.length co18) t180) ∧ Aside0 (wc.heap[gb185]? = some (.cells #[.int .i64 t174, .int .i64 t175, .int .i64 t176, (.slice Ao17 t177.length co17), (.slice Ao18 t180.length co18), .bool t183] 42 (0, 0))) ∧ Aside0 (Below w.heap.size w wc))
    case first =>
      have H := HC13.out
      clear HC13
      by_cases c19 : t184 = 0
      · rw [if_pos c19] at H
        have c19b0 : (t184 == 0) = true := beq_iff_eq.mpr c19
        have c19b1 : (t184 != 0) = false := bne_eq_false_iff_eq.mpr c19
        clear c19
        (first | rw [c19b0] | (simp only [i64_w, i32_w]; rw [c19b0]) | skip)
        replace H := Option.bind_eq_some_iff.mp H
        obtain ⟨t187, A200, H⟩ := H
        replace H : (if (t171.length : Int) = t187 then (if (t171.length : Int) = (wrap64 ((wrap64 ((wrap64 (2 * (wrap64 (a0)))) + (wrap64 (1 + (wrap64 (Int.tmod a1 64)))))) + 1)) then ((sched_Ready.f k t174 t175 t176 t177 t180 t183).bind fun t188 => (if (t188.length : Int) = 0 then ((sched_May.f k t174 t175 t176 t177 t180 t183).bind fun t191 => (if t191 = true then (if t183 = true then (if t176 = (wrap64 (a0)) then (if (t180.length : Int) = (wrap64 (a0)) then (hornbeamlaw21_SchedEnds.j0 k ((t177.length : Int) != (wrap64 (1 + (wrap64 (Int.tmod a1 64))))) t174 t175 t176 t177 t180 t183) else (hornbeamlaw21_SchedEnds.j0 k true t174 t175 t176 t177 t180 t183)) else (hornbeamlaw21_SchedEnds.j0 k true t174 t175 t176 t177 t180 t183)) else (hornbeamlaw21_SchedEnds.j0 k true t174 t175 t176 t177 t180 t183)) else (hornbeamlaw21_SchedEnds.j0 k true t174 t175 t176 t177 t180 t183))) else (hornbeamlaw21_SchedEnds.j0 k true t174 t175 t176 t177 t180 t183))) else (hornbeamlaw21_SchedEnds.j0 k true t174 t175 t176 t177 t180 t183)) else (hornbeamlaw21_SchedEnds.j0 k true t174 t175 t176 t177 t180 t183)) = some r := H
        have A20 := Aside0.mk A200
        clear A200
        by_cases c21 : (t171.length : Int) = t187
        · rw [if_pos c21] at H
          have c21b0 : ((t171.length : Int) == t187) = true := beq_iff_eq.mpr c21
          have c21b1 : ((t171.length : Int) != t187) = false := bne_eq_false_iff_eq.mpr c21
          clear c21
          by_cases c22 : (t171.length : Int) = (wrap64 ((wrap64 ((wrap64 (2 * (wrap64 (a0)))) + (wrap64 (1 + (wrap64 (Int.tmod a1 64)))))) + 1))
          · rw [if_pos c22] at H
            have c22b0 : ((t171.length : Int) == (wrap64 ((wrap64 ((wrap64 (2 * (wrap64 (a0)))) + (wrap64 (1 + (wrap64 (Int.tmod a1 64)))))) + 1))) = true := beq_iff_eq.mpr c22
            have c22b1 : ((t171.length : Int) != (wrap64 ((wrap64 ((wrap64 (2 * (wrap64 (a0)))) + (wrap64 (1 + (wrap64 (Int.tmod a1 64)))))) + 1))) = false := bne_eq_false_iff_eq.mpr c22
            clear c22
            replace H := Option.bind_eq_some_iff.mp H
            obtain ⟨t188, A230, H⟩ := H
            replace H : (if (t188.length : Int) = 0 then ((sched_May.f k t174 t175 t176 t177 t180 t183).bind fun t191 => (if t191 = true then (if t183 = true then (if t176 = (wrap64 (a0)) then (if (t180.length : Int) = (wrap64 (a0)) then (hornbeamlaw21_SchedEnds.j0 k ((t177.length : Int) != (wrap64 (1 + (wrap64 (Int.tmod a1 64))))) t174 t175 t176 t177 t180 t183) else (hornbeamlaw21_SchedEnds.j0 k true t174 t175 t176 t177 t180 t183)) else (hornbeamlaw21_SchedEnds.j0 k true t174 t175 t176 t177 t180 t183)) else (hornbeamlaw21_SchedEnds.j0 k true t174 t175 t176 t177 t180 t183)) else (hornbeamlaw21_SchedEnds.j0 k true t174 t175 t176 t177 t180 t183))) else (hornbeamlaw21_SchedEnds.j0 k true t174 t175 t176 t177 t180 t183)) = some r := H
            have A23 := Aside0.mk A230
            clear A230
            by_cases c24 : (t188.length : Int) = 0
            · rw [if_pos c24] at H
              have c24b0 : ((t188.length : Int) == 0) = true := beq_iff_eq.mpr c24
              have c24b1 : ((t188.length : Int) != 0) = false := bne_eq_false_iff_eq.mpr c24
              clear c24
              replace H := Option.bind_eq_some_iff.mp H
              obtain ⟨t191, A250, H⟩ := H
              replace H : (if t191 = true then (if t183 = true then (if t176 = (wrap64 (a0)) then (if (t180.length : Int) = (wrap64 (a0)) then (hornbeamlaw21_SchedEnds.j0 k ((t177.length : Int) != (wrap64 (1 + (wrap64 (Int.tmod a1 64))))) t174 t175 t176 t177 t180 t183) else (hornbeamlaw21_SchedEnds.j0 k true t174 t175 t176 t177 t180 t183)) else (hornbeamlaw21_SchedEnds.j0 k true t174 t175 t176 t177 t180 t183)) else (hornbeamlaw21_SchedEnds.j0 k true t174 t175 t176 t177 t180 t183)) else (hornbeamlaw21_SchedEnds.j0 k true t174 t175 t176 t177 t180 t183)) = some r := H
              have A25 := Aside0.mk A250
              clear A250
              by_cases c26 : t191 = true
              · subst c26
                have H1 : (if t183 = true then (if t176 = (wrap64 (a0)) then (if (t180.length : Int) = (wrap64 (a0)) then (hornbeamlaw21_SchedEnds.j0 k ((t177.length : Int) != (wrap64 (1 + (wrap64 (Int.tmod a1 64))))) t174 t175 t176 t177 t180 t183) else (hornbeamlaw21_SchedEnds.j0 k true t174 t175 t176 t177 t180 t183)) else (hornbeamlaw21_SchedEnds.j0 k true t174 t175 t176 t177 t180 t183)) else (hornbeamlaw21_SchedEnds.j0 k true t174 t175 t176 t177 t180 t183)) = some r := by rw [if_pos rfl] at H; exact H
                clear H
                have H := H1
                clear H1
                by_cases c27 : t183 = true
                · subst c27
                  have H1 : (if t176 = (wrap64 (a0)) then (if (t180.length : Int) = (wrap64 (a0)) then (hornbeamlaw21_SchedEnds.j0 k ((t177.length : Int) != (wrap64 (1 + (wrap64 (Int.tmod a1 64))))) t174 t175 t176 t177 t180 true) else (hornbeamlaw21_SchedEnds.j0 k true t174 t175 t176 t177 t180 true)) else (hornbeamlaw21_SchedEnds.j0 k true t174 t175 t176 t177 t180 true)) = some r := by rw [if_pos rfl] at H; exact H
                  clear H
                  have H := H1
                  clear H1
                  by_cases c28 : t176 = (wrap64 (a0))
                  · rw [if_pos c28] at H
                    have c28b0 : (t176 == (wrap64 (a0))) = true := beq_iff_eq.mpr c28
                    have c28b1 : (t176 != (wrap64 (a0))) = false := bne_eq_false_iff_eq.mpr c28
                    clear c28
                    by_cases c29 : (t180.length : Int) = (wrap64 (a0))
                    · rw [if_pos c29] at H
                      have c29b0 : ((t180.length : Int) == (wrap64 (a0))) = true := beq_iff_eq.mpr c29
                      have c29b1 : ((t180.length : Int) != (wrap64 (a0))) = false := bne_eq_false_iff_eq.mpr c29
                      clear c29
                      have H' := Aside0.mk H
                      clear H
                      obtain ⟨Ao30, co30, eo30⟩ := Kd.R_slice HO173.out
                      subst eo30
                      go_wp2_with (first | (go_at_call 33; (with_reducible refine (sched_Bound.calls (wrap64 (a0)) (wrap64 (1 + (wrap64 (Int.tmod a1 64)))) t187 _ A20.out).mono ?_); rintro e w' ⟨rfl, ⟨nd, rfl⟩⟩; have hcz31_0 : w15.cell? ⟨gb185, 0, none⟩ = some (.int .i64 0) := (blk_cell BK185.out 0).trans rfl; have hcz31_1 : w15.cell? ⟨gb185, 1, none⟩ = some (.int .i64 0) := (blk_cell BK185.out 1).trans rfl; have hcz31_2 : w15.cell? ⟨gb185, 2, none⟩ = some (.int .i64 0) := (blk_cell BK185.out 2).trans rfl; have hcz31_3 : w15.cell? ⟨gb185, 3, none⟩ = some (.slice none 0 0) := (blk_cell BK185.out 3).trans rfl; have hcz31_4 : w15.cell? ⟨gb185, 4, none⟩ = some (.slice none 0 0) := (blk_cell BK185.out 4).trans rfl; have hcz31_5 : w15.cell? ⟨gb185, 5, none⟩ = some (.bool false) := (blk_cell BK185.out 5).trans rfl; have hfz31_0 := blk_frozen BK185.out 0; have hfz31_1 := blk_frozen BK185.out 1; have hfz31_2 := blk_frozen BK185.out 2; have hfz31_3 := blk_frozen BK185.out 3; have hfz31_4 := blk_frozen BK185.out 4; have hfz31_5 := blk_frozen BK185.out 5) | (go_at_call 34; (with_reducible refine (sched_Ready.calls k t174 t175 t176 _ _ t177 _ _ t180 true t188 _ ?side1 ?side2 ?side3 ?side4 A23.out).mono ?_); (case side1 => refine (Kd.R_reads' (e := 3) (base := w.heap.size) (ok := fun k_ => True) (n := t177.length) (c := co17) ?_).2.2; exact (by (with_reducible repeat (first | apply Kd.R_alloc | apply Kd.R_drewN | apply Kd.R_drew)); exact (Kd.R_mono (Kd.R_far (p := ⟨gb185, 5, none⟩) (Kd.R_far (p := ⟨gb185, 4, none⟩) (Kd.R_far (p := ⟨gb185, 3, none⟩) (Kd.R_far (p := ⟨gb185, 2, none⟩) (Kd.R_far (p := ⟨gb185, 1, none⟩) (Kd.R_far (p := ⟨gb185, 0, none⟩) (Kd.R_types HO179.out BK185.out (by decide)) (fun _ hk => hk.2) (.int .i64 t174)) (fun _ hk => hk.2) (.int .i64 t175)) (fun _ hk => hk.2) (.int .i64 t176)) (fun _ hk => hk.2) (.slice Ao17 t177.length co17)) (fun _ hk => hk.2) (.slice Ao18 t180.length co18)) (fun _ hk => hk.2) (.bool true)) (fun _ h_ => h_.1)))); (case side2 => exact (Kd.R_reads' HO179.out).2.1); (case side3 => refine (Kd.R_reads' (e := 4) (base := w.heap.size) (ok := fun k_ => True) (n := t180.length) (c := co18) ?_).2.2; exact (by (with_reducible repeat (first | apply Kd.R_alloc | apply Kd.R_drewN | apply Kd.R_drew)); exact (Kd.R_mono (Kd.R_far (p := ⟨gb185, 5, none⟩) (Kd.R_far (p := ⟨gb185, 4, none⟩) (Kd.R_far (p := ⟨gb185, 3, none⟩) (Kd.R_far (p := ⟨gb185, 2, none⟩) (Kd.R_far (p := ⟨gb185, 1, none⟩) (Kd.R_far (p := ⟨gb185, 0, none⟩) (Kd.R_types HO182.out BK185.out (by decide)) (fun _ hk => hk.2) (.int .i64 t174)) (fun _ hk => hk.2) (.int .i64 t175)) (fun _ hk => hk.2) (.int .i64 t176)) (fun _ hk => hk.2) (.slice Ao17 t177.length co17)) (fun _ hk => hk.2) (.slice Ao18 t180.length co18)) (fun _ hk => hk.2) (.bool true)) (fun _ h_ => h_.1)))); (case side4 => exact (Kd.R_reads' HO182.out).2.1); rintro e w32 ⟨v189, rfl, ho0, hb⟩; have n0_ := Aside0.mk (Kd.R_below (by (with_reducible repeat (first | apply Kd.R_alloc | apply Kd.R_drewN | apply Kd.R_drew)); exact (Kd.R_mono (Kd.R_far (p := ⟨gb185, 5, none⟩) (Kd.R_far (p := ⟨gb185, 4, none⟩) (Kd.R_far (p := ⟨gb185, 3, none⟩) (Kd.R_far (p := ⟨gb185, 2, none⟩) (Kd.R_far (p := ⟨gb185, 1, none⟩) (Kd.R_far (p := ⟨gb185, 0, none⟩) (Kd.R_types HO173.out BK185.out (by decide)) (fun _ hk => hk.2) (.int .i64 t174)) (fun _ hk => hk.2) (.int .i64 t175)) (fun _ hk => hk.2) (.int .i64 t176)) (fun _ hk => hk.2) (.slice Ao17 t177.length co17)) (fun _ hk => hk.2) (.slice Ao18 t180.length co18)) (fun _ hk => hk.2) (.bool true)) (fun _ h_ => h_.1))) hb); have n1_ := Aside0.mk (Kd.R_elder' (by (with_reducible repeat (first | apply Kd.R_alloc | apply Kd.R_drewN | apply Kd.R_drew)); exact (Kd.R_mono (Kd.R_far (p := ⟨gb185, 5, none⟩) (Kd.R_far (p := ⟨gb185, 4, none⟩) (Kd.R_far (p := ⟨gb185, 3, none⟩) (Kd.R_far (p := ⟨gb185, 2, none⟩) (Kd.R_far (p := ⟨gb185, 1, none⟩) (Kd.R_far (p := ⟨gb185, 0, none⟩) (Kd.R_types HO179.out BK185.out (by decide)) (fun _ hk => hk.2) (.int .i64 t174)) (fun _ hk => hk.2) (.int .i64 t175)) (fun _ hk => hk.2) (.int .i64 t176)) (fun _ hk => hk.2) (.slice Ao17 t177.length co17)) (fun _ hk => hk.2) (.slice Ao18 t180.length co18)) (fun _ hk => hk.2) (.bool true)) (fun _ h_ => h_.1))) (Kd.R_base ho0) hb); have n2_ := Aside0.mk (Kd.R_below (by (with_reducible repeat (first | apply Kd.R_alloc | apply Kd.R_drewN | apply Kd.R_drew)); exact (Kd.R_mono (Kd.R_far (p := ⟨gb185, 5, none⟩) (Kd.R_far (p := ⟨gb185, 4, none⟩) (Kd.R_far (p := ⟨gb185, 3, none⟩) (Kd.R_far (p := ⟨gb185, 2, none⟩) (Kd.R_far (p := ⟨gb185, 1, none⟩) (Kd.R_far (p := ⟨gb185, 0, none⟩) (Kd.R_types HO182.out BK185.out (by decide)) (fun _ hk => hk.2) (.int .i64 t174)) (fun _ hk => hk.2) (.int .i64 t175)) (fun _ hk => hk.2) (.int .i64 t176)) (fun _ hk => hk.2) (.slice Ao17 t177.length co17)) (fun _ hk => hk.2) (.slice Ao18 t180.length co18)) (fun _ hk => hk.2) (.bool true)) (fun _ h_ => h_.1))) hb); have n3_ := Aside0.mk (Kd.R_lower (Kd.R_new' ho0 (Kd.R_lt (by (with_reducible repeat (first | apply Kd.R_alloc | apply Kd.R_drewN | apply Kd.R_drew)); exact (Kd.R_mono (Kd.R_far (p := ⟨gb185, 5, none⟩) (Kd.R_far (p := ⟨gb185, 4, none⟩) (Kd.R_far (p := ⟨gb185, 3, none⟩) (Kd.R_far (p := ⟨gb185, 2, none⟩) (Kd.R_far (p := ⟨gb185, 1, none⟩) (Kd.R_far (p := ⟨gb185, 0, none⟩) (Kd.R_types HO179.out BK185.out (by decide)) (fun _ hk => hk.2) (.int .i64 t174)) (fun _ hk => hk.2) (.int .i64 t175)) (fun _ hk => hk.2) (.int .i64 t176)) (fun _ hk => hk.2) (.slice Ao17 t177.length co17)) (fun _ hk => hk.2) (.slice Ao18 t180.length co18)) (fun _ hk => hk.2) (.bool true)) (fun _ h_ => h_.1))))) (below_size (by repeat (first | (with_reducible first | exact HB.out | apply below_alloc | apply pw_below_drewN | apply below_drew1 | refine below_set ?_ GE185.out) | exact HB.out)))); have n4_ := Aside0.mk (blk_below (g := gb185) (o := .cells #[.int .i64 t174, .int .i64 t175, .int .i64 t176, .slice Ao17 t177.length co17, .slice Ao18 t180.length co18, .bool true] 42 (0, 0)) (by (with_reducible repeat (first | refine blk_drewN ?_ _ | refine blk_drew ?_ | refine blk_alloc ?_ _)); refine blk_put (cs := #[.int .i64 t174, .int .i64 t175, .int .i64 t176, .slice Ao17 t177.length co17, .slice Ao18 t180.length co18, .bool false]) ?_ 5 _ rfl; (with_reducible repeat (first | refine blk_drewN ?_ _ | refine blk_drew ?_ | refine blk_alloc ?_ _)); refine blk_put (cs := #[.int .i64 t174, .int .i64 t175, .int .i64 t176, .slice Ao17 t177.length co17, .slice none 0 0, .bool false]) ?_ 4 _ rfl; (with_reducible repeat (first | refine blk_drewN ?_ _ | refine blk_drew ?_ | refine blk_alloc ?_ _)); refine blk_put (cs := #[.int .i64 t174, .int .i64 t175, .int .i64 t176, .slice none 0 0, .slice none 0 0, .bool false]) ?_ 3 _ rfl; (with_reducible repeat (first | refine blk_drewN ?_ _ | refine blk_drew ?_ | refine blk_alloc ?_ _)); refine blk_put (cs := #[.int .i64 t174, .int .i64 t175, .int .i64 0, .slice none 0 0, .slice none 0 0, .bool false]) ?_ 2 _ rfl; (with_reducible repeat (first | refine blk_drewN ?_ _ | refine blk_drew ?_ | refine blk_alloc ?_ _)); refine blk_put (cs := #[.int .i64 t174, .int .i64 0, .int .i64 0, .slice none 0 0, .slice none 0 0, .bool false]) ?_ 1 _ rfl; (with_reducible repeat (first | refine blk_drewN ?_ _ | refine blk_drew ?_ | refine blk_alloc ?_ _)); refine blk_put (cs := #[.int .i64 0, .int .i64 0, .int .i64 0, .slice none 0 0, .slice none 0 0, .bool false]) ?_ 0 _ rfl; (with_reducible repeat (first | refine blk_drewN ?_ _ | refine blk_drew ?_ | refine blk_alloc ?_ _)); exact BK185.out) hb); have n5_ := Aside0.mk (below_step (by repeat (first | (with_reducible first | exact HB.out | apply below_alloc | apply pw_below_drewN | apply below_drew1 | refine below_set ?_ GE185.out) | exact HB.out)) hb); clear HO173; clear HO179; clear HO182; clear BK185; clear HB; have HO173 := n0_; have HO179 := n1_; have HO182 := n2_; have HO190 := n3_; have BK185 := n4_; have HB := n5_; clear n0_ n1_ n2_ n3_ n4_ n5_; (try clear hb); (try clear hb2); (try clear hk); (try clear hi); (try clear ho0); obtain ⟨Ao33, co33, eo33⟩ := Kd.R_slice HO190.out; subst eo33; have hcz34_0 : w32.cell? ⟨gb185, 0, none⟩ = some (.int .i64 t174) := (blk_cell BK185.out 0).trans rfl; have hcz34_1 : w32.cell? ⟨gb185, 1, none⟩ = some (.int .i64 t175) := (blk_cell BK185.out 1).trans rfl; have hcz34_2 : w32.cell? ⟨gb185, 2, none⟩ = some (.int .i64 t176) := (blk_cell BK185.out 2).trans rfl; have hcz34_3 : w32.cell? ⟨gb185, 3, none⟩ = some (.slice Ao17 t177.length co17) := (blk_cell BK185.out 3).trans rfl; have hcz34_4 : w32.cell? ⟨gb185, 4, none⟩ = some (.slice Ao18 t180.length co18) := (blk_cell BK185.out 4).trans rfl; have hcz34_5 : w32.cell? ⟨gb185, 5, none⟩ = some (.bool true) := (blk_cell BK185.out 5).trans rfl; have hfz34_0 := blk_frozen BK185.out 0; have hfz34_1 := blk_frozen BK185.out 1; have hfz34_2 := blk_frozen BK185.out 2; have hfz34_3 := blk_frozen BK185.out 3; have hfz34_4 := blk_frozen BK185.out 4; have hfz34_5 := blk_frozen BK185.out 5) | (go_at_call 35; (with_reducible refine (sched_May.calls k t174 t175 t176 _ _ t177 _ _ t180 true true _ ?side1 ?side2 ?side3 ?side4 A25.out).mono ?_); (case side1 => repeat (first | exact (Kd.R_reads' HO179.out).2.2 | (with_reducible refine Kd.C_alloc ?_ _) | (with_reducible refine Kd.C_drewN ?_ _) | (with_reducible refine Kd.C_drew ?_))); (case side2 => exact (Kd.R_reads' HO179.out).2.1); (case side3 => repeat (first | exact (Kd.R_reads' HO182.out).2.2 | (with_reducible refine Kd.C_alloc ?_ _) | (with_reducible refine Kd.C_drewN ?_ _) | (with_reducible refine Kd.C_drew ?_))); (case side4 => exact (Kd.R_reads' HO182.out).2.1); rintro e w35 ⟨rfl, hb⟩; have n0_ := Aside0.mk (Kd.R_below (by (with_reducible repeat (first | apply Kd.R_alloc | apply Kd.R_drewN | apply Kd.R_drew)); exact HO173.out) hb); have n1_ := Aside0.mk (Kd.R_below (by (with_reducible repeat (first | apply Kd.R_alloc | apply Kd.R_drewN | apply Kd.R_drew)); exact HO179.out) hb); have n2_ := Aside0.mk (Kd.R_below (by (with_reducible repeat (first | apply Kd.R_alloc | apply Kd.R_drewN | apply Kd.R_drew)); exact HO182.out) hb); have n3_ := Aside0.mk (Kd.R_below (by (with_reducible repeat (first | apply Kd.R_alloc | apply Kd.R_drewN | apply Kd.R_drew)); exact HO190.out) hb); have n4_ := Aside0.mk (blk_below (g := gb185) (o := .cells #[.int .i64 t174, .int .i64 t175, .int .i64 t176, .slice Ao17 t177.length co17, .slice Ao18 t180.length co18, .bool true] 42 (0, 0)) (by (with_reducible repeat (first | refine blk_drewN ?_ _ | refine blk_drew ?_ | refine blk_alloc ?_ _)); exact BK185.out) hb); have n5_ := Aside0.mk (below_step (by repeat (first | (with_reducible first | exact HB.out | apply below_alloc | apply pw_below_drewN | apply below_drew1 | refine below_set ?_ GE185.out) | exact HB.out)) hb); clear HO173; clear HO179; clear HO182; clear HO190; clear BK185; clear HB; have HO173 := n0_; have HO179 := n1_; have HO182 := n2_; have HO190 := n3_; have BK185 := n4_; have HB := n5_; clear n0_ n1_ n2_ n3_ n4_ n5_; (try clear hb); (try clear hb2); (try clear hk); (try clear hi); have hcz36_0 : w35.cell? ⟨gb185, 0, none⟩ = some (.int .i64 t174) := (blk_cell BK185.out 0).trans rfl; have hcz36_1 : w35.cell? ⟨gb185, 1, none⟩ = some (.int .i64 t175) := (blk_cell BK185.out 1).trans rfl; have hcz36_2 : w35.cell? ⟨gb185, 2, none⟩ = some (.int .i64 t176) := (blk_cell BK185.out 2).trans rfl; have hcz36_3 : w35.cell? ⟨gb185, 3, none⟩ = some (.slice Ao17 t177.length co17) := (blk_cell BK185.out 3).trans rfl; have hcz36_4 : w35.cell? ⟨gb185, 4, none⟩ = some (.slice Ao18 t180.length co18) := (blk_cell BK185.out 4).trans rfl; have hcz36_5 : w35.cell? ⟨gb185, 5, none⟩ = some (.bool true) := (blk_cell BK185.out 5).trans rfl; have hfz36_0 := blk_frozen BK185.out 0; have hfz36_1 := blk_frozen BK185.out 1; have hfz36_2 := blk_frozen BK185.out 2; have hfz36_3 := blk_frozen BK185.out 3; have hfz36_4 := blk_frozen BK185.out 4; have hfz36_5 := blk_frozen BK185.out 5))
                      go_meet
                      case rel => exact ⟨_, (((t177.length : Int) != (wrap64 (1 + (wrap64 (Int.tmod a1 64)))))), (by first | rfl | (simp; done) | (simp [*]; done)), H', ⟨by first | omega | exact Nat.le_refl _⟩, ⟨by (with_reducible repeat (first | apply Kd.R_alloc | apply Kd.R_drewN | apply Kd.R_drew)); exact Kd.R_mono HO179.out (fun _ hk => trivial)⟩, ⟨by (with_reducible repeat (first | apply Kd.R_alloc | apply Kd.R_drewN | apply Kd.R_drew)); exact HO182.out⟩, ⟨by (with_reducible repeat (first | refine blk_drewN ?_ _ | refine blk_drew ?_ | refine blk_alloc ?_ _)); exact BK185.out⟩, ⟨by repeat (first | (with_reducible first | exact HB.out | apply below_alloc | apply pw_below_drewN | apply below_drew1 | refine below_set ?_ GE185.out) | exact HB.out)⟩⟩
                    · rw [if_neg c29] at H
                      have c29b0 : ((t180.length : Int) == (wrap64 (a0))) = false := beq_eq_false_iff_ne.mpr c29
                      have c29b1 : ((t180.length : Int) != (wrap64 (a0))) = true := bne_iff_ne.mpr c29
                      have H' := Aside0.mk H
                      clear H
                      obtain ⟨Ao37, co37, eo37⟩ := Kd.R_slice HO173.out
                      subst eo37
                      go_wp2_with (first | (go_at_call 33; (with_reducible refine (sched_Bound.calls (wrap64 (a0)) (wrap64 (1 + (wrap64 (Int.tmod a1 64)))) t187 _ A20.out).mono ?_); rintro e w' ⟨rfl, ⟨nd, rfl⟩⟩; have hcz38_0 : w15.cell? ⟨gb185, 0, none⟩ = some (.int .i64 0) := (blk_cell BK185.out 0).trans rfl; have hcz38_1 : w15.cell? ⟨gb185, 1, none⟩ = some (.int .i64 0) := (blk_cell BK185.out 1).trans rfl; have hcz38_2 : w15.cell? ⟨gb185, 2, none⟩ = some (.int .i64 0) := (blk_cell BK185.out 2).trans rfl; have hcz38_3 : w15.cell? ⟨gb185, 3, none⟩ = some (.slice none 0 0) := (blk_cell BK185.out 3).trans rfl; have hcz38_4 : w15.cell? ⟨gb185, 4, none⟩ = some (.slice none 0 0) := (blk_cell BK185.out 4).trans rfl; have hcz38_5 : w15.cell? ⟨gb185, 5, none⟩ = some (.bool false) := (blk_cell BK185.out 5).trans rfl; have hfz38_0 := blk_frozen BK185.out 0; have hfz38_1 := blk_frozen BK185.out 1; have hfz38_2 := blk_frozen BK185.out 2; have hfz38_3 := blk_frozen BK185.out 3; have hfz38_4 := blk_frozen BK185.out 4; have hfz38_5 := blk_frozen BK185.out 5) | (go_at_call 34; (with_reducible refine (sched_Ready.calls k t174 t175 t176 _ _ t177 _ _ t180 true t188 _ ?side1 ?side2 ?side3 ?side4 A23.out).mono ?_); (case side1 => refine (Kd.R_reads' (e := 3) (base := w.heap.size) (ok := fun k_ => True) (n := t177.length) (c := co17) ?_).2.2; exact (by (with_reducible repeat (first | apply Kd.R_alloc | apply Kd.R_drewN | apply Kd.R_drew)); exact (Kd.R_mono (Kd.R_far (p := ⟨gb185, 5, none⟩) (Kd.R_far (p := ⟨gb185, 4, none⟩) (Kd.R_far (p := ⟨gb185, 3, none⟩) (Kd.R_far (p := ⟨gb185, 2, none⟩) (Kd.R_far (p := ⟨gb185, 1, none⟩) (Kd.R_far (p := ⟨gb185, 0, none⟩) (Kd.R_types HO179.out BK185.out (by decide)) (fun _ hk => hk.2) (.int .i64 t174)) (fun _ hk => hk.2) (.int .i64 t175)) (fun _ hk => hk.2) (.int .i64 t176)) (fun _ hk => hk.2) (.slice Ao17 t177.length co17)) (fun _ hk => hk.2) (.slice Ao18 t180.length co18)) (fun _ hk => hk.2) (.bool true)) (fun _ h_ => h_.1)))); (case side2 => exact (Kd.R_reads' HO179.out).2.1); (case side3 => refine (Kd.R_reads' (e := 4) (base := w.heap.size) (ok := fun k_ => True) (n := t180.length) (c := co18) ?_).2.2; exact (by (with_reducible repeat (first | apply Kd.R_alloc | apply Kd.R_drewN | apply Kd.R_drew)); exact (Kd.R_mono (Kd.R_far (p := ⟨gb185, 5, none⟩) (Kd.R_far (p := ⟨gb185, 4, none⟩) (Kd.R_far (p := ⟨gb185, 3, none⟩) (Kd.R_far (p := ⟨gb185, 2, none⟩) (Kd.R_far (p := ⟨gb185, 1, none⟩) (Kd.R_far (p := ⟨gb185, 0, none⟩) (Kd.R_types HO182.out BK185.out (by decide)) (fun _ hk => hk.2) (.int .i64 t174)) (fun _ hk => hk.2) (.int .i64 t175)) (fun _ hk => hk.2) (.int .i64 t176)) (fun _ hk => hk.2) (.slice Ao17 t177.length co17)) (fun _ hk => hk.2) (.slice Ao18 t180.length co18)) (fun _ hk => hk.2) (.bool true)) (fun _ h_ => h_.1)))); (case side4 => exact (Kd.R_reads' HO182.out).2.1); rintro e w39 ⟨v189, rfl, ho0, hb⟩; have n0_ := Aside0.mk (Kd.R_below (by (with_reducible repeat (first | apply Kd.R_alloc | apply Kd.R_drewN | apply Kd.R_drew)); exact (Kd.R_mono (Kd.R_far (p := ⟨gb185, 5, none⟩) (Kd.R_far (p := ⟨gb185, 4, none⟩) (Kd.R_far (p := ⟨gb185, 3, none⟩) (Kd.R_far (p := ⟨gb185, 2, none⟩) (Kd.R_far (p := ⟨gb185, 1, none⟩) (Kd.R_far (p := ⟨gb185, 0, none⟩) (Kd.R_types HO173.out BK185.out (by decide)) (fun _ hk => hk.2) (.int .i64 t174)) (fun _ hk => hk.2) (.int .i64 t175)) (fun _ hk => hk.2) (.int .i64 t176)) (fun _ hk => hk.2) (.slice Ao17 t177.length co17)) (fun _ hk => hk.2) (.slice Ao18 t180.length co18)) (fun _ hk => hk.2) (.bool true)) (fun _ h_ => h_.1))) hb); have n1_ := Aside0.mk (Kd.R_elder' (by (with_reducible repeat (first | apply Kd.R_alloc | apply Kd.R_drewN | apply Kd.R_drew)); exact (Kd.R_mono (Kd.R_far (p := ⟨gb185, 5, none⟩) (Kd.R_far (p := ⟨gb185, 4, none⟩) (Kd.R_far (p := ⟨gb185, 3, none⟩) (Kd.R_far (p := ⟨gb185, 2, none⟩) (Kd.R_far (p := ⟨gb185, 1, none⟩) (Kd.R_far (p := ⟨gb185, 0, none⟩) (Kd.R_types HO179.out BK185.out (by decide)) (fun _ hk => hk.2) (.int .i64 t174)) (fun _ hk => hk.2) (.int .i64 t175)) (fun _ hk => hk.2) (.int .i64 t176)) (fun _ hk => hk.2) (.slice Ao17 t177.length co17)) (fun _ hk => hk.2) (.slice Ao18 t180.length co18)) (fun _ hk => hk.2) (.bool true)) (fun _ h_ => h_.1))) (Kd.R_base ho0) hb); have n2_ := Aside0.mk (Kd.R_below (by (with_reducible repeat (first | apply Kd.R_alloc | apply Kd.R_drewN | apply Kd.R_drew)); exact (Kd.R_mono (Kd.R_far (p := ⟨gb185, 5, none⟩) (Kd.R_far (p := ⟨gb185, 4, none⟩) (Kd.R_far (p := ⟨gb185, 3, none⟩) (Kd.R_far (p := ⟨gb185, 2, none⟩) (Kd.R_far (p := ⟨gb185, 1, none⟩) (Kd.R_far (p := ⟨gb185, 0, none⟩) (Kd.R_types HO182.out BK185.out (by decide)) (fun _ hk => hk.2) (.int .i64 t174)) (fun _ hk => hk.2) (.int .i64 t175)) (fun _ hk => hk.2) (.int .i64 t176)) (fun _ hk => hk.2) (.slice Ao17 t177.length co17)) (fun _ hk => hk.2) (.slice Ao18 t180.length co18)) (fun _ hk => hk.2) (.bool true)) (fun _ h_ => h_.1))) hb); have n3_ := Aside0.mk (Kd.R_lower (Kd.R_new' ho0 (Kd.R_lt (by (with_reducible repeat (first | apply Kd.R_alloc | apply Kd.R_drewN | apply Kd.R_drew)); exact (Kd.R_mono (Kd.R_far (p := ⟨gb185, 5, none⟩) (Kd.R_far (p := ⟨gb185, 4, none⟩) (Kd.R_far (p := ⟨gb185, 3, none⟩) (Kd.R_far (p := ⟨gb185, 2, none⟩) (Kd.R_far (p := ⟨gb185, 1, none⟩) (Kd.R_far (p := ⟨gb185, 0, none⟩) (Kd.R_types HO179.out BK185.out (by decide)) (fun _ hk => hk.2) (.int .i64 t174)) (fun _ hk => hk.2) (.int .i64 t175)) (fun _ hk => hk.2) (.int .i64 t176)) (fun _ hk => hk.2) (.slice Ao17 t177.length co17)) (fun _ hk => hk.2) (.slice Ao18 t180.length co18)) (fun _ hk => hk.2) (.bool true)) (fun _ h_ => h_.1))))) (below_size (by repeat (first | (with_reducible first | exact HB.out | apply below_alloc | apply pw_below_drewN | apply below_drew1 | refine below_set ?_ GE185.out) | exact HB.out)))); have n4_ := Aside0.mk (blk_below (g := gb185) (o := .cells #[.int .i64 t174, .int .i64 t175, .int .i64 t176, .slice Ao17 t177.length co17, .slice Ao18 t180.length co18, .bool true] 42 (0, 0)) (by (with_reducible repeat (first | refine blk_drewN ?_ _ | refine blk_drew ?_ | refine blk_alloc ?_ _)); refine blk_put (cs := #[.int .i64 t174, .int .i64 t175, .int .i64 t176, .slice Ao17 t177.length co17, .slice Ao18 t180.length co18, .bool false]) ?_ 5 _ rfl; (with_reducible repeat (first | refine blk_drewN ?_ _ | refine blk_drew ?_ | refine blk_alloc ?_ _)); refine blk_put (cs := #[.int .i64 t174, .int .i64 t175, .int .i64 t176, .slice Ao17 t177.length co17, .slice none 0 0, .bool false]) ?_ 4 _ rfl; (with_reducible repeat (first | refine blk_drewN ?_ _ | refine blk_drew ?_ | refine blk_alloc ?_ _)); refine blk_put (cs := #[.int .i64 t174, .int .i64 t175, .int .i64 t176, .slice none 0 0, .slice none 0 0, .bool false]) ?_ 3 _ rfl; (with_reducible repeat (first | refine blk_drewN ?_ _ | refine blk_drew ?_ | refine blk_alloc ?_ _)); refine blk_put (cs := #[.int .i64 t174, .int .i64 t175, .int .i64 0, .slice none 0 0, .slice none 0 0, .bool false]) ?_ 2 _ rfl; (with_reducible repeat (first | refine blk_drewN ?_ _ | refine blk_drew ?_ | refine blk_alloc ?_ _)); refine blk_put (cs := #[.int .i64 t174, .int .i64 0, .int .i64 0, .slice none 0 0, .slice none 0 0, .bool false]) ?_ 1 _ rfl; (with_reducible repeat (first | refine blk_drewN ?_ _ | refine blk_drew ?_ | refine blk_alloc ?_ _)); refine blk_put (cs := #[.int .i64 0, .int .i64 0, .int .i64 0, .slice none 0 0, .slice none 0 0, .bool false]) ?_ 0 _ rfl; (with_reducible repeat (first | refine blk_drewN ?_ _ | refine blk_drew ?_ | refine blk_alloc ?_ _)); exact BK185.out) hb); have n5_ := Aside0.mk (below_step (by repeat (first | (with_reducible first | exact HB.out | apply below_alloc | apply pw_below_drewN | apply below_drew1 | refine below_set ?_ GE185.out) | exact HB.out)) hb); clear HO173; clear HO179; clear HO182; clear BK185; clear HB; have HO173 := n0_; have HO179 := n1_; have HO182 := n2_; have HO190 := n3_; have BK185 := n4_; have HB := n5_; clear n0_ n1_ n2_ n3_ n4_ n5_; (try clear hb); (try clear hb2); (try clear hk); (try clear hi); (try clear ho0); obtain ⟨Ao40, co40, eo40⟩ := Kd.R_slice HO190.out; subst eo40; have hcz41_0 : w39.cell? ⟨gb185, 0, none⟩ = some (.int .i64 t174) := (blk_cell BK185.out 0).trans rfl; have hcz41_1 : w39.cell? ⟨gb185, 1, none⟩ = some (.int .i64 t175) := (blk_cell BK185.out 1).trans rfl; have hcz41_2 : w39.cell? ⟨gb185, 2, none⟩ = some (.int .i64 t176) := (blk_cell BK185.out 2).trans rfl; have hcz41_3 : w39.cell? ⟨gb185, 3, none⟩ = some (.slice Ao17 t177.length co17) := (blk_cell BK185.out 3).trans rfl; have hcz41_4 : w39.cell? ⟨gb185, 4, none⟩ = some (.slice Ao18 t180.length co18) := (blk_cell BK185.out 4).trans rfl; have hcz41_5 : w39.cell? ⟨gb185, 5, none⟩ = some (.bool true) := (blk_cell BK185.out 5).trans rfl; have hfz41_0 := blk_frozen BK185.out 0; have hfz41_1 := blk_frozen BK185.out 1; have hfz41_2 := blk_frozen BK185.out 2; have hfz41_3 := blk_frozen BK185.out 3; have hfz41_4 := blk_frozen BK185.out 4; have hfz41_5 := blk_frozen BK185.out 5) | (go_at_call 35; (with_reducible refine (sched_May.calls k t174 t175 t176 _ _ t177 _ _ t180 true true _ ?side1 ?side2 ?side3 ?side4 A25.out).mono ?_); (case side1 => repeat (first | exact (Kd.R_reads' HO179.out).2.2 | (with_reducible refine Kd.C_alloc ?_ _) | (with_reducible refine Kd.C_drewN ?_ _) | (with_reducible refine Kd.C_drew ?_))); (case side2 => exact (Kd.R_reads' HO179.out).2.1); (case side3 => repeat (first | exact (Kd.R_reads' HO182.out).2.2 | (with_reducible refine Kd.C_alloc ?_ _) | (with_reducible refine Kd.C_drewN ?_ _) | (with_reducible refine Kd.C_drew ?_))); (case side4 => exact (Kd.R_reads' HO182.out).2.1); rintro e w42 ⟨rfl, hb⟩; have n0_ := Aside0.mk (Kd.R_below (by (with_reducible repeat (first | apply Kd.R_alloc | apply Kd.R_drewN | apply Kd.R_drew)); exact HO173.out) hb); have n1_ := Aside0.mk (Kd.R_below (by (with_reducible repeat (first | apply Kd.R_alloc | apply Kd.R_drewN | apply Kd.R_drew)); exact HO179.out) hb); have n2_ := Aside0.mk (Kd.R_below (by (with_reducible repeat (first | apply Kd.R_alloc | apply Kd.R_drewN | apply Kd.R_drew)); exact HO182.out) hb); have n3_ := Aside0.mk (Kd.R_below (by (with_reducible repeat (first | apply Kd.R_alloc | apply Kd.R_drewN | apply Kd.R_drew)); exact HO190.out) hb); have n4_ := Aside0.mk (blk_below (g := gb185) (o := .cells #[.int .i64 t174, .int .i64 t175, .int .i64 t176, .slice Ao17 t177.length co17, .slice Ao18 t180.length co18, .bool true] 42 (0, 0)) (by (with_reducible repeat (first | refine blk_drewN ?_ _ | refine blk_drew ?_ | refine blk_alloc ?_ _)); exact BK185.out) hb); have n5_ := Aside0.mk (below_step (by repeat (first | (with_reducible first | exact HB.out | apply below_alloc | apply pw_below_drewN | apply below_drew1 | refine below_set ?_ GE185.out) | exact HB.out)) hb); clear HO173; clear HO179; clear HO182; clear HO190; clear BK185; clear HB; have HO173 := n0_; have HO179 := n1_; have HO182 := n2_; have HO190 := n3_; have BK185 := n4_; have HB := n5_; clear n0_ n1_ n2_ n3_ n4_ n5_; (try clear hb); (try clear hb2); (try clear hk); (try clear hi); have hcz43_0 : w42.cell? ⟨gb185, 0, none⟩ = some (.int .i64 t174) := (blk_cell BK185.out 0).trans rfl; have hcz43_1 : w42.cell? ⟨gb185, 1, none⟩ = some (.int .i64 t175) := (blk_cell BK185.out 1).trans rfl; have hcz43_2 : w42.cell? ⟨gb185, 2, none⟩ = some (.int .i64 t176) := (blk_cell BK185.out 2).trans rfl; have hcz43_3 : w42.cell? ⟨gb185, 3, none⟩ = some (.slice Ao17 t177.length co17) := (blk_cell BK185.out 3).trans rfl; have hcz43_4 : w42.cell? ⟨gb185, 4, none⟩ = some (.slice Ao18 t180.length co18) := (blk_cell BK185.out 4).trans rfl; have hcz43_5 : w42.cell? ⟨gb185, 5, none⟩ = some (.bool true) := (blk_cell BK185.out 5).trans rfl; have hfz43_0 := blk_frozen BK185.out 0; have hfz43_1 := blk_frozen BK185.out 1; have hfz43_2 := blk_frozen BK185.out 2; have hfz43_3 := blk_frozen BK185.out 3; have hfz43_4 := blk_frozen BK185.out 4; have hfz43_5 := blk_frozen BK185.out 5))
                      go_meet
                      case rel => exact ⟨_, (true), (by first | rfl | (simp; done) | (simp [*]; done)), H', ⟨by first | omega | exact Nat.le_refl _⟩, ⟨by (with_reducible repeat (first | apply Kd.R_alloc | apply Kd.R_drewN | apply Kd.R_drew)); exact Kd.R_mono HO179.out (fun _ hk => trivial)⟩, ⟨by (with_reducible repeat (first | apply Kd.R_alloc | apply Kd.R_drewN | apply Kd.R_drew)); exact HO182.out⟩, ⟨by (with_reducible repeat (first | refine blk_drewN ?_ _ | refine blk_drew ?_ | refine blk_alloc ?_ _)); exact BK185.out⟩, ⟨by repeat (first | (with_reducible first | exact HB.out | apply below_alloc | apply pw_below_drewN | apply below_drew1 | refine below_set ?_ GE185.out) | exact HB.out)⟩⟩
                  · rw [if_neg c28] at H
                    have c28b0 : (t176 == (wrap64 (a0))) = false := beq_eq_false_iff_ne.mpr c28
                    have c28b1 : (t176 != (wrap64 (a0))) = true := bne_iff_ne.mpr c28
                    have H' := Aside0.mk H
                    clear H
                    obtain ⟨Ao44, co44, eo44⟩ := Kd.R_slice HO173.out
                    subst eo44
                    go_wp2_with (first | (go_at_call 33; (with_reducible refine (sched_Bound.calls (wrap64 (a0)) (wrap64 (1 + (wrap64 (Int.tmod a1 64)))) t187 _ A20.out).mono ?_); rintro e w' ⟨rfl, ⟨nd, rfl⟩⟩; have hcz45_0 : w15.cell? ⟨gb185, 0, none⟩ = some (.int .i64 0) := (blk_cell BK185.out 0).trans rfl; have hcz45_1 : w15.cell? ⟨gb185, 1, none⟩ = some (.int .i64 0) := (blk_cell BK185.out 1).trans rfl; have hcz45_2 : w15.cell? ⟨gb185, 2, none⟩ = some (.int .i64 0) := (blk_cell BK185.out 2).trans rfl; have hcz45_3 : w15.cell? ⟨gb185, 3, none⟩ = some (.slice none 0 0) := (blk_cell BK185.out 3).trans rfl; have hcz45_4 : w15.cell? ⟨gb185, 4, none⟩ = some (.slice none 0 0) := (blk_cell BK185.out 4).trans rfl; have hcz45_5 : w15.cell? ⟨gb185, 5, none⟩ = some (.bool false) := (blk_cell BK185.out 5).trans rfl; have hfz45_0 := blk_frozen BK185.out 0; have hfz45_1 := blk_frozen BK185.out 1; have hfz45_2 := blk_frozen BK185.out 2; have hfz45_3 := blk_frozen BK185.out 3; have hfz45_4 := blk_frozen BK185.out 4; have hfz45_5 := blk_frozen BK185.out 5) | (go_at_call 34; (with_reducible refine (sched_Ready.calls k t174 t175 t176 _ _ t177 _ _ t180 true t188 _ ?side1 ?side2 ?side3 ?side4 A23.out).mono ?_); (case side1 => refine (Kd.R_reads' (e := 3) (base := w.heap.size) (ok := fun k_ => True) (n := t177.length) (c := co17) ?_).2.2; exact (by (with_reducible repeat (first | apply Kd.R_alloc | apply Kd.R_drewN | apply Kd.R_drew)); exact (Kd.R_mono (Kd.R_far (p := ⟨gb185, 5, none⟩) (Kd.R_far (p := ⟨gb185, 4, none⟩) (Kd.R_far (p := ⟨gb185, 3, none⟩) (Kd.R_far (p := ⟨gb185, 2, none⟩) (Kd.R_far (p := ⟨gb185, 1, none⟩) (Kd.R_far (p := ⟨gb185, 0, none⟩) (Kd.R_types HO179.out BK185.out (by decide)) (fun _ hk => hk.2) (.int .i64 t174)) (fun _ hk => hk.2) (.int .i64 t175)) (fun _ hk => hk.2) (.int .i64 t176)) (fun _ hk => hk.2) (.slice Ao17 t177.length co17)) (fun _ hk => hk.2) (.slice Ao18 t180.length co18)) (fun _ hk => hk.2) (.bool true)) (fun _ h_ => h_.1)))); (case side2 => exact (Kd.R_reads' HO179.out).2.1); (case side3 => refine (Kd.R_reads' (e := 4) (base := w.heap.size) (ok := fun k_ => True) (n := t180.length) (c := co18) ?_).2.2; exact (by (with_reducible repeat (first | apply Kd.R_alloc | apply Kd.R_drewN | apply Kd.R_drew)); exact (Kd.R_mono (Kd.R_far (p := ⟨gb185, 5, none⟩) (Kd.R_far (p := ⟨gb185, 4, none⟩) (Kd.R_far (p := ⟨gb185, 3, none⟩) (Kd.R_far (p := ⟨gb185, 2, none⟩) (Kd.R_far (p := ⟨gb185, 1, none⟩) (Kd.R_far (p := ⟨gb185, 0, none⟩) (Kd.R_types HO182.out BK185.out (by decide)) (fun _ hk => hk.2) (.int .i64 t174)) (fun _ hk => hk.2) (.int .i64 t175)) (fun _ hk => hk.2) (.int .i64 t176)) (fun _ hk => hk.2) (.slice Ao17 t177.length co17)) (fun _ hk => hk.2) (.slice Ao18 t180.length co18)) (fun _ hk => hk.2) (.bool true)) (fun _ h_ => h_.1)))); (case side4 => exact (Kd.R_reads' HO182.out).2.1); rintro e w46 ⟨v189, rfl, ho0, hb⟩; have n0_ := Aside0.mk (Kd.R_below (by (with_reducible repeat (first | apply Kd.R_alloc | apply Kd.R_drewN | apply Kd.R_drew)); exact (Kd.R_mono (Kd.R_far (p := ⟨gb185, 5, none⟩) (Kd.R_far (p := ⟨gb185, 4, none⟩) (Kd.R_far (p := ⟨gb185, 3, none⟩) (Kd.R_far (p := ⟨gb185, 2, none⟩) (Kd.R_far (p := ⟨gb185, 1, none⟩) (Kd.R_far (p := ⟨gb185, 0, none⟩) (Kd.R_types HO173.out BK185.out (by decide)) (fun _ hk => hk.2) (.int .i64 t174)) (fun _ hk => hk.2) (.int .i64 t175)) (fun _ hk => hk.2) (.int .i64 t176)) (fun _ hk => hk.2) (.slice Ao17 t177.length co17)) (fun _ hk => hk.2) (.slice Ao18 t180.length co18)) (fun _ hk => hk.2) (.bool true)) (fun _ h_ => h_.1))) hb); have n1_ := Aside0.mk (Kd.R_elder' (by (with_reducible repeat (first | apply Kd.R_alloc | apply Kd.R_drewN | apply Kd.R_drew)); exact (Kd.R_mono (Kd.R_far (p := ⟨gb185, 5, none⟩) (Kd.R_far (p := ⟨gb185, 4, none⟩) (Kd.R_far (p := ⟨gb185, 3, none⟩) (Kd.R_far (p := ⟨gb185, 2, none⟩) (Kd.R_far (p := ⟨gb185, 1, none⟩) (Kd.R_far (p := ⟨gb185, 0, none⟩) (Kd.R_types HO179.out BK185.out (by decide)) (fun _ hk => hk.2) (.int .i64 t174)) (fun _ hk => hk.2) (.int .i64 t175)) (fun _ hk => hk.2) (.int .i64 t176)) (fun _ hk => hk.2) (.slice Ao17 t177.length co17)) (fun _ hk => hk.2) (.slice Ao18 t180.length co18)) (fun _ hk => hk.2) (.bool true)) (fun _ h_ => h_.1))) (Kd.R_base ho0) hb); have n2_ := Aside0.mk (Kd.R_below (by (with_reducible repeat (first | apply Kd.R_alloc | apply Kd.R_drewN | apply Kd.R_drew)); exact (Kd.R_mono (Kd.R_far (p := ⟨gb185, 5, none⟩) (Kd.R_far (p := ⟨gb185, 4, none⟩) (Kd.R_far (p := ⟨gb185, 3, none⟩) (Kd.R_far (p := ⟨gb185, 2, none⟩) (Kd.R_far (p := ⟨gb185, 1, none⟩) (Kd.R_far (p := ⟨gb185, 0, none⟩) (Kd.R_types HO182.out BK185.out (by decide)) (fun _ hk => hk.2) (.int .i64 t174)) (fun _ hk => hk.2) (.int .i64 t175)) (fun _ hk => hk.2) (.int .i64 t176)) (fun _ hk => hk.2) (.slice Ao17 t177.length co17)) (fun _ hk => hk.2) (.slice Ao18 t180.length co18)) (fun _ hk => hk.2) (.bool true)) (fun _ h_ => h_.1))) hb); have n3_ := Aside0.mk (Kd.R_lower (Kd.R_new' ho0 (Kd.R_lt (by (with_reducible repeat (first | apply Kd.R_alloc | apply Kd.R_drewN | apply Kd.R_drew)); exact (Kd.R_mono (Kd.R_far (p := ⟨gb185, 5, none⟩) (Kd.R_far (p := ⟨gb185, 4, none⟩) (Kd.R_far (p := ⟨gb185, 3, none⟩) (Kd.R_far (p := ⟨gb185, 2, none⟩) (Kd.R_far (p := ⟨gb185, 1, none⟩) (Kd.R_far (p := ⟨gb185, 0, none⟩) (Kd.R_types HO179.out BK185.out (by decide)) (fun _ hk => hk.2) (.int .i64 t174)) (fun _ hk => hk.2) (.int .i64 t175)) (fun _ hk => hk.2) (.int .i64 t176)) (fun _ hk => hk.2) (.slice Ao17 t177.length co17)) (fun _ hk => hk.2) (.slice Ao18 t180.length co18)) (fun _ hk => hk.2) (.bool true)) (fun _ h_ => h_.1))))) (below_size (by repeat (first | (with_reducible first | exact HB.out | apply below_alloc | apply pw_below_drewN | apply below_drew1 | refine below_set ?_ GE185.out) | exact HB.out)))); have n4_ := Aside0.mk (blk_below (g := gb185) (o := .cells #[.int .i64 t174, .int .i64 t175, .int .i64 t176, .slice Ao17 t177.length co17, .slice Ao18 t180.length co18, .bool true] 42 (0, 0)) (by (with_reducible repeat (first | refine blk_drewN ?_ _ | refine blk_drew ?_ | refine blk_alloc ?_ _)); refine blk_put (cs := #[.int .i64 t174, .int .i64 t175, .int .i64 t176, .slice Ao17 t177.length co17, .slice Ao18 t180.length co18, .bool false]) ?_ 5 _ rfl; (with_reducible repeat (first | refine blk_drewN ?_ _ | refine blk_drew ?_ | refine blk_alloc ?_ _)); refine blk_put (cs := #[.int .i64 t174, .int .i64 t175, .int .i64 t176, .slice Ao17 t177.length co17, .slice none 0 0, .bool false]) ?_ 4 _ rfl; (with_reducible repeat (first | refine blk_drewN ?_ _ | refine blk_drew ?_ | refine blk_alloc ?_ _)); refine blk_put (cs := #[.int .i64 t174, .int .i64 t175, .int .i64 t176, .slice none 0 0, .slice none 0 0, .bool false]) ?_ 3 _ rfl; (with_reducible repeat (first | refine blk_drewN ?_ _ | refine blk_drew ?_ | refine blk_alloc ?_ _)); refine blk_put (cs := #[.int .i64 t174, .int .i64 t175, .int .i64 0, .slice none 0 0, .slice none 0 0, .bool false]) ?_ 2 _ rfl; (with_reducible repeat (first | refine blk_drewN ?_ _ | refine blk_drew ?_ | refine blk_alloc ?_ _)); refine blk_put (cs := #[.int .i64 t174, .int .i64 0, .int .i64 0, .slice none 0 0, .slice none 0 0, .bool false]) ?_ 1 _ rfl; (with_reducible repeat (first | refine blk_drewN ?_ _ | refine blk_drew ?_ | refine blk_alloc ?_ _)); refine blk_put (cs := #[.int .i64 0, .int .i64 0, .int .i64 0, .slice none 0 0, .slice none 0 0, .bool false]) ?_ 0 _ rfl; (with_reducible repeat (first | refine blk_drewN ?_ _ | refine blk_drew ?_ | refine blk_alloc ?_ _)); exact BK185.out) hb); have n5_ := Aside0.mk (below_step (by repeat (first | (with_reducible first | exact HB.out | apply below_alloc | apply pw_below_drewN | apply below_drew1 | refine below_set ?_ GE185.out) | exact HB.out)) hb); clear HO173; clear HO179; clear HO182; clear BK185; clear HB; have HO173 := n0_; have HO179 := n1_; have HO182 := n2_; have HO190 := n3_; have BK185 := n4_; have HB := n5_; clear n0_ n1_ n2_ n3_ n4_ n5_; (try clear hb); (try clear hb2); (try clear hk); (try clear hi); (try clear ho0); obtain ⟨Ao47, co47, eo47⟩ := Kd.R_slice HO190.out; subst eo47; have hcz48_0 : w46.cell? ⟨gb185, 0, none⟩ = some (.int .i64 t174) := (blk_cell BK185.out 0).trans rfl; have hcz48_1 : w46.cell? ⟨gb185, 1, none⟩ = some (.int .i64 t175) := (blk_cell BK185.out 1).trans rfl; have hcz48_2 : w46.cell? ⟨gb185, 2, none⟩ = some (.int .i64 t176) := (blk_cell BK185.out 2).trans rfl; have hcz48_3 : w46.cell? ⟨gb185, 3, none⟩ = some (.slice Ao17 t177.length co17) := (blk_cell BK185.out 3).trans rfl; have hcz48_4 : w46.cell? ⟨gb185, 4, none⟩ = some (.slice Ao18 t180.length co18) := (blk_cell BK185.out 4).trans rfl; have hcz48_5 : w46.cell? ⟨gb185, 5, none⟩ = some (.bool true) := (blk_cell BK185.out 5).trans rfl; have hfz48_0 := blk_frozen BK185.out 0; have hfz48_1 := blk_frozen BK185.out 1; have hfz48_2 := blk_frozen BK185.out 2; have hfz48_3 := blk_frozen BK185.out 3; have hfz48_4 := blk_frozen BK185.out 4; have hfz48_5 := blk_frozen BK185.out 5) | (go_at_call 35; (with_reducible refine (sched_May.calls k t174 t175 t176 _ _ t177 _ _ t180 true true _ ?side1 ?side2 ?side3 ?side4 A25.out).mono ?_); (case side1 => repeat (first | exact (Kd.R_reads' HO179.out).2.2 | (with_reducible refine Kd.C_alloc ?_ _) | (with_reducible refine Kd.C_drewN ?_ _) | (with_reducible refine Kd.C_drew ?_))); (case side2 => exact (Kd.R_reads' HO179.out).2.1); (case side3 => repeat (first | exact (Kd.R_reads' HO182.out).2.2 | (with_reducible refine Kd.C_alloc ?_ _) | (with_reducible refine Kd.C_drewN ?_ _) | (with_reducible refine Kd.C_drew ?_))); (case side4 => exact (Kd.R_reads' HO182.out).2.1); rintro e w49 ⟨rfl, hb⟩; have n0_ := Aside0.mk (Kd.R_below (by (with_reducible repeat (first | apply Kd.R_alloc | apply Kd.R_drewN | apply Kd.R_drew)); exact HO173.out) hb); have n1_ := Aside0.mk (Kd.R_below (by (with_reducible repeat (first | apply Kd.R_alloc | apply Kd.R_drewN | apply Kd.R_drew)); exact HO179.out) hb); have n2_ := Aside0.mk (Kd.R_below (by (with_reducible repeat (first | apply Kd.R_alloc | apply Kd.R_drewN | apply Kd.R_drew)); exact HO182.out) hb); have n3_ := Aside0.mk (Kd.R_below (by (with_reducible repeat (first | apply Kd.R_alloc | apply Kd.R_drewN | apply Kd.R_drew)); exact HO190.out) hb); have n4_ := Aside0.mk (blk_below (g := gb185) (o := .cells #[.int .i64 t174, .int .i64 t175, .int .i64 t176, .slice Ao17 t177.length co17, .slice Ao18 t180.length co18, .bool true] 42 (0, 0)) (by (with_reducible repeat (first | refine blk_drewN ?_ _ | refine blk_drew ?_ | refine blk_alloc ?_ _)); exact BK185.out) hb); have n5_ := Aside0.mk (below_step (by repeat (first | (with_reducible first | exact HB.out | apply below_alloc | apply pw_below_drewN | apply below_drew1 | refine below_set ?_ GE185.out) | exact HB.out)) hb); clear HO173; clear HO179; clear HO182; clear HO190; clear BK185; clear HB; have HO173 := n0_; have HO179 := n1_; have HO182 := n2_; have HO190 := n3_; have BK185 := n4_; have HB := n5_; clear n0_ n1_ n2_ n3_ n4_ n5_; (try clear hb); (try clear hb2); (try clear hk); (try clear hi); have hcz50_0 : w49.cell? ⟨gb185, 0, none⟩ = some (.int .i64 t174) := (blk_cell BK185.out 0).trans rfl; have hcz50_1 : w49.cell? ⟨gb185, 1, none⟩ = some (.int .i64 t175) := (blk_cell BK185.out 1).trans rfl; have hcz50_2 : w49.cell? ⟨gb185, 2, none⟩ = some (.int .i64 t176) := (blk_cell BK185.out 2).trans rfl; have hcz50_3 : w49.cell? ⟨gb185, 3, none⟩ = some (.slice Ao17 t177.length co17) := (blk_cell BK185.out 3).trans rfl; have hcz50_4 : w49.cell? ⟨gb185, 4, none⟩ = some (.slice Ao18 t180.length co18) := (blk_cell BK185.out 4).trans rfl; have hcz50_5 : w49.cell? ⟨gb185, 5, none⟩ = some (.bool true) := (blk_cell BK185.out 5).trans rfl; have hfz50_0 := blk_frozen BK185.out 0; have hfz50_1 := blk_frozen BK185.out 1; have hfz50_2 := blk_frozen BK185.out 2; have hfz50_3 := blk_frozen BK185.out 3; have hfz50_4 := blk_frozen BK185.out 4; have hfz50_5 := blk_frozen BK185.out 5))
                    go_meet
                    case rel => exact ⟨_, (true), (by first | rfl | (simp; done) | (simp [*]; done)), H', ⟨by first | omega | exact Nat.le_refl _⟩, ⟨by (with_reducible repeat (first | apply Kd.R_alloc | apply Kd.R_drewN | apply Kd.R_drew)); exact Kd.R_mono HO179.out (fun _ hk => trivial)⟩, ⟨by (with_reducible repeat (first | apply Kd.R_alloc | apply Kd.R_drewN | apply Kd.R_drew)); exact HO182.out⟩, ⟨by (with_reducible repeat (first | refine blk_drewN ?_ _ | refine blk_drew ?_ | refine blk_alloc ?_ _)); exact BK185.out⟩, ⟨by repeat (first | (with_reducible first | exact HB.out | apply below_alloc | apply pw_below_drewN | apply below_drew1 | refine below_set ?_ GE185.out) | exact HB.out)⟩⟩
                · replace c27 := Bool.eq_false_iff.mpr c27
                  subst c27
                  have H1 : (hornbeamlaw21_SchedEnds.j0 k true t174 t175 t176 t177 t180 false) = some r := by rw [if_neg (show ¬ (false = true) by decide)] at H; exact H
                  clear H
                  have H := H1
                  clear H1
                  have H' := Aside0.mk H
                  clear H
                  obtain ⟨Ao51, co51, eo51⟩ := Kd.R_slice HO173.out
                  subst eo51
                  go_wp2_with (first | (go_at_call 33; (with_reducible refine (sched_Bound.calls (wrap64 (a0)) (wrap64 (1 + (wrap64 (Int.tmod a1 64)))) t187 _ A20.out).mono ?_); rintro e w' ⟨rfl, ⟨nd, rfl⟩⟩; have hcz52_0 : w15.cell? ⟨gb185, 0, none⟩ = some (.int .i64 0) := (blk_cell BK185.out 0).trans rfl; have hcz52_1 : w15.cell? ⟨gb185, 1, none⟩ = some (.int .i64 0) := (blk_cell BK185.out 1).trans rfl; have hcz52_2 : w15.cell? ⟨gb185, 2, none⟩ = some (.int .i64 0) := (blk_cell BK185.out 2).trans rfl; have hcz52_3 : w15.cell? ⟨gb185, 3, none⟩ = some (.slice none 0 0) := (blk_cell BK185.out 3).trans rfl; have hcz52_4 : w15.cell? ⟨gb185, 4, none⟩ = some (.slice none 0 0) := (blk_cell BK185.out 4).trans rfl; have hcz52_5 : w15.cell? ⟨gb185, 5, none⟩ = some (.bool false) := (blk_cell BK185.out 5).trans rfl; have hfz52_0 := blk_frozen BK185.out 0; have hfz52_1 := blk_frozen BK185.out 1; have hfz52_2 := blk_frozen BK185.out 2; have hfz52_3 := blk_frozen BK185.out 3; have hfz52_4 := blk_frozen BK185.out 4; have hfz52_5 := blk_frozen BK185.out 5) | (go_at_call 34; (with_reducible refine (sched_Ready.calls k t174 t175 t176 _ _ t177 _ _ t180 false t188 _ ?side1 ?side2 ?side3 ?side4 A23.out).mono ?_); (case side1 => refine (Kd.R_reads' (e := 3) (base := w.heap.size) (ok := fun k_ => True) (n := t177.length) (c := co17) ?_).2.2; exact (by (with_reducible repeat (first | apply Kd.R_alloc | apply Kd.R_drewN | apply Kd.R_drew)); exact (Kd.R_mono (Kd.R_far (p := ⟨gb185, 5, none⟩) (Kd.R_far (p := ⟨gb185, 4, none⟩) (Kd.R_far (p := ⟨gb185, 3, none⟩) (Kd.R_far (p := ⟨gb185, 2, none⟩) (Kd.R_far (p := ⟨gb185, 1, none⟩) (Kd.R_far (p := ⟨gb185, 0, none⟩) (Kd.R_types HO179.out BK185.out (by decide)) (fun _ hk => hk.2) (.int .i64 t174)) (fun _ hk => hk.2) (.int .i64 t175)) (fun _ hk => hk.2) (.int .i64 t176)) (fun _ hk => hk.2) (.slice Ao17 t177.length co17)) (fun _ hk => hk.2) (.slice Ao18 t180.length co18)) (fun _ hk => hk.2) (.bool false)) (fun _ h_ => h_.1)))); (case side2 => exact (Kd.R_reads' HO179.out).2.1); (case side3 => refine (Kd.R_reads' (e := 4) (base := w.heap.size) (ok := fun k_ => True) (n := t180.length) (c := co18) ?_).2.2; exact (by (with_reducible repeat (first | apply Kd.R_alloc | apply Kd.R_drewN | apply Kd.R_drew)); exact (Kd.R_mono (Kd.R_far (p := ⟨gb185, 5, none⟩) (Kd.R_far (p := ⟨gb185, 4, none⟩) (Kd.R_far (p := ⟨gb185, 3, none⟩) (Kd.R_far (p := ⟨gb185, 2, none⟩) (Kd.R_far (p := ⟨gb185, 1, none⟩) (Kd.R_far (p := ⟨gb185, 0, none⟩) (Kd.R_types HO182.out BK185.out (by decide)) (fun _ hk => hk.2) (.int .i64 t174)) (fun _ hk => hk.2) (.int .i64 t175)) (fun _ hk => hk.2) (.int .i64 t176)) (fun _ hk => hk.2) (.slice Ao17 t177.length co17)) (fun _ hk => hk.2) (.slice Ao18 t180.length co18)) (fun _ hk => hk.2) (.bool false)) (fun _ h_ => h_.1)))); (case side4 => exact (Kd.R_reads' HO182.out).2.1); rintro e w53 ⟨v189, rfl, ho0, hb⟩; have n0_ := Aside0.mk (Kd.R_below (by (with_reducible repeat (first | apply Kd.R_alloc | apply Kd.R_drewN | apply Kd.R_drew)); exact (Kd.R_mono (Kd.R_far (p := ⟨gb185, 5, none⟩) (Kd.R_far (p := ⟨gb185, 4, none⟩) (Kd.R_far (p := ⟨gb185, 3, none⟩) (Kd.R_far (p := ⟨gb185, 2, none⟩) (Kd.R_far (p := ⟨gb185, 1, none⟩) (Kd.R_far (p := ⟨gb185, 0, none⟩) (Kd.R_types HO173.out BK185.out (by decide)) (fun _ hk => hk.2) (.int .i64 t174)) (fun _ hk => hk.2) (.int .i64 t175)) (fun _ hk => hk.2) (.int .i64 t176)) (fun _ hk => hk.2) (.slice Ao17 t177.length co17)) (fun _ hk => hk.2) (.slice Ao18 t180.length co18)) (fun _ hk => hk.2) (.bool false)) (fun _ h_ => h_.1))) hb); have n1_ := Aside0.mk (Kd.R_elder' (by (with_reducible repeat (first | apply Kd.R_alloc | apply Kd.R_drewN | apply Kd.R_drew)); exact (Kd.R_mono (Kd.R_far (p := ⟨gb185, 5, none⟩) (Kd.R_far (p := ⟨gb185, 4, none⟩) (Kd.R_far (p := ⟨gb185, 3, none⟩) (Kd.R_far (p := ⟨gb185, 2, none⟩) (Kd.R_far (p := ⟨gb185, 1, none⟩) (Kd.R_far (p := ⟨gb185, 0, none⟩) (Kd.R_types HO179.out BK185.out (by decide)) (fun _ hk => hk.2) (.int .i64 t174)) (fun _ hk => hk.2) (.int .i64 t175)) (fun _ hk => hk.2) (.int .i64 t176)) (fun _ hk => hk.2) (.slice Ao17 t177.length co17)) (fun _ hk => hk.2) (.slice Ao18 t180.length co18)) (fun _ hk => hk.2) (.bool false)) (fun _ h_ => h_.1))) (Kd.R_base ho0) hb); have n2_ := Aside0.mk (Kd.R_below (by (with_reducible repeat (first | apply Kd.R_alloc | apply Kd.R_drewN | apply Kd.R_drew)); exact (Kd.R_mono (Kd.R_far (p := ⟨gb185, 5, none⟩) (Kd.R_far (p := ⟨gb185, 4, none⟩) (Kd.R_far (p := ⟨gb185, 3, none⟩) (Kd.R_far (p := ⟨gb185, 2, none⟩) (Kd.R_far (p := ⟨gb185, 1, none⟩) (Kd.R_far (p := ⟨gb185, 0, none⟩) (Kd.R_types HO182.out BK185.out (by decide)) (fun _ hk => hk.2) (.int .i64 t174)) (fun _ hk => hk.2) (.int .i64 t175)) (fun _ hk => hk.2) (.int .i64 t176)) (fun _ hk => hk.2) (.slice Ao17 t177.length co17)) (fun _ hk => hk.2) (.slice Ao18 t180.length co18)) (fun _ hk => hk.2) (.bool false)) (fun _ h_ => h_.1))) hb); have n3_ := Aside0.mk (Kd.R_lower (Kd.R_new' ho0 (Kd.R_lt (by (with_reducible repeat (first | apply Kd.R_alloc | apply Kd.R_drewN | apply Kd.R_drew)); exact (Kd.R_mono (Kd.R_far (p := ⟨gb185, 5, none⟩) (Kd.R_far (p := ⟨gb185, 4, none⟩) (Kd.R_far (p := ⟨gb185, 3, none⟩) (Kd.R_far (p := ⟨gb185, 2, none⟩) (Kd.R_far (p := ⟨gb185, 1, none⟩) (Kd.R_far (p := ⟨gb185, 0, none⟩) (Kd.R_types HO179.out BK185.out (by decide)) (fun _ hk => hk.2) (.int .i64 t174)) (fun _ hk => hk.2) (.int .i64 t175)) (fun _ hk => hk.2) (.int .i64 t176)) (fun _ hk => hk.2) (.slice Ao17 t177.length co17)) (fun _ hk => hk.2) (.slice Ao18 t180.length co18)) (fun _ hk => hk.2) (.bool false)) (fun _ h_ => h_.1))))) (below_size (by repeat (first | (with_reducible first | exact HB.out | apply below_alloc | apply pw_below_drewN | apply below_drew1 | refine below_set ?_ GE185.out) | exact HB.out)))); have n4_ := Aside0.mk (blk_below (g := gb185) (o := .cells #[.int .i64 t174, .int .i64 t175, .int .i64 t176, .slice Ao17 t177.length co17, .slice Ao18 t180.length co18, .bool false] 42 (0, 0)) (by (with_reducible repeat (first | refine blk_drewN ?_ _ | refine blk_drew ?_ | refine blk_alloc ?_ _)); refine blk_put (cs := #[.int .i64 t174, .int .i64 t175, .int .i64 t176, .slice Ao17 t177.length co17, .slice Ao18 t180.length co18, .bool false]) ?_ 5 _ rfl; (with_reducible repeat (first | refine blk_drewN ?_ _ | refine blk_drew ?_ | refine blk_alloc ?_ _)); refine blk_put (cs := #[.int .i64 t174, .int .i64 t175, .int .i64 t176, .slice Ao17 t177.length co17, .slice none 0 0, .bool false]) ?_ 4 _ rfl; (with_reducible repeat (first | refine blk_drewN ?_ _ | refine blk_drew ?_ | refine blk_alloc ?_ _)); refine blk_put (cs := #[.int .i64 t174, .int .i64 t175, .int .i64 t176, .slice none 0 0, .slice none 0 0, .bool false]) ?_ 3 _ rfl; (with_reducible repeat (first | refine blk_drewN ?_ _ | refine blk_drew ?_ | refine blk_alloc ?_ _)); refine blk_put (cs := #[.int .i64 t174, .int .i64 t175, .int .i64 0, .slice none 0 0, .slice none 0 0, .bool false]) ?_ 2 _ rfl; (with_reducible repeat (first | refine blk_drewN ?_ _ | refine blk_drew ?_ | refine blk_alloc ?_ _)); refine blk_put (cs := #[.int .i64 t174, .int .i64 0, .int .i64 0, .slice none 0 0, .slice none 0 0, .bool false]) ?_ 1 _ rfl; (with_reducible repeat (first | refine blk_drewN ?_ _ | refine blk_drew ?_ | refine blk_alloc ?_ _)); refine blk_put (cs := #[.int .i64 0, .int .i64 0, .int .i64 0, .slice none 0 0, .slice none 0 0, .bool false]) ?_ 0 _ rfl; (with_reducible repeat (first | refine blk_drewN ?_ _ | refine blk_drew ?_ | refine blk_alloc ?_ _)); exact BK185.out) hb); have n5_ := Aside0.mk (below_step (by repeat (first | (with_reducible first | exact HB.out | apply below_alloc | apply pw_below_drewN | apply below_drew1 | refine below_set ?_ GE185.out) | exact HB.out)) hb); clear HO173; clear HO179; clear HO182; clear BK185; clear HB; have HO173 := n0_; have HO179 := n1_; have HO182 := n2_; have HO190 := n3_; have BK185 := n4_; have HB := n5_; clear n0_ n1_ n2_ n3_ n4_ n5_; (try clear hb); (try clear hb2); (try clear hk); (try clear hi); (try clear ho0); obtain ⟨Ao54, co54, eo54⟩ := Kd.R_slice HO190.out; subst eo54; have hcz55_0 : w53.cell? ⟨gb185, 0, none⟩ = some (.int .i64 t174) := (blk_cell BK185.out 0).trans rfl; have hcz55_1 : w53.cell? ⟨gb185, 1, none⟩ = some (.int .i64 t175) := (blk_cell BK185.out 1).trans rfl; have hcz55_2 : w53.cell? ⟨gb185, 2, none⟩ = some (.int .i64 t176) := (blk_cell BK185.out 2).trans rfl; have hcz55_3 : w53.cell? ⟨gb185, 3, none⟩ = some (.slice Ao17 t177.length co17) := (blk_cell BK185.out 3).trans rfl; have hcz55_4 : w53.cell? ⟨gb185, 4, none⟩ = some (.slice Ao18 t180.length co18) := (blk_cell BK185.out 4).trans rfl; have hcz55_5 : w53.cell? ⟨gb185, 5, none⟩ = some (.bool false) := (blk_cell BK185.out 5).trans rfl; have hfz55_0 := blk_frozen BK185.out 0; have hfz55_1 := blk_frozen BK185.out 1; have hfz55_2 := blk_frozen BK185.out 2; have hfz55_3 := blk_frozen BK185.out 3; have hfz55_4 := blk_frozen BK185.out 4; have hfz55_5 := blk_frozen BK185.out 5) | (go_at_call 35; (with_reducible refine (sched_May.calls k t174 t175 t176 _ _ t177 _ _ t180 false true _ ?side1 ?side2 ?side3 ?side4 A25.out).mono ?_); (case side1 => repeat (first | exact (Kd.R_reads' HO179.out).2.2 | (with_reducible refine Kd.C_alloc ?_ _) | (with_reducible refine Kd.C_drewN ?_ _) | (with_reducible refine Kd.C_drew ?_))); (case side2 => exact (Kd.R_reads' HO179.out).2.1); (case side3 => repeat (first | exact (Kd.R_reads' HO182.out).2.2 | (with_reducible refine Kd.C_alloc ?_ _) | (with_reducible refine Kd.C_drewN ?_ _) | (with_reducible refine Kd.C_drew ?_))); (case side4 => exact (Kd.R_reads' HO182.out).2.1); rintro e w56 ⟨rfl, hb⟩; have n0_ := Aside0.mk (Kd.R_below (by (with_reducible repeat (first | apply Kd.R_alloc | apply Kd.R_drewN | apply Kd.R_drew)); exact HO173.out) hb); have n1_ := Aside0.mk (Kd.R_below (by (with_reducible repeat (first | apply Kd.R_alloc | apply Kd.R_drewN | apply Kd.R_drew)); exact HO179.out) hb); have n2_ := Aside0.mk (Kd.R_below (by (with_reducible repeat (first | apply Kd.R_alloc | apply Kd.R_drewN | apply Kd.R_drew)); exact HO182.out) hb); have n3_ := Aside0.mk (Kd.R_below (by (with_reducible repeat (first | apply Kd.R_alloc | apply Kd.R_drewN | apply Kd.R_drew)); exact HO190.out) hb); have n4_ := Aside0.mk (blk_below (g := gb185) (o := .cells #[.int .i64 t174, .int .i64 t175, .int .i64 t176, .slice Ao17 t177.length co17, .slice Ao18 t180.length co18, .bool false] 42 (0, 0)) (by (with_reducible repeat (first | refine blk_drewN ?_ _ | refine blk_drew ?_ | refine blk_alloc ?_ _)); exact BK185.out) hb); have n5_ := Aside0.mk (below_step (by repeat (first | (with_reducible first | exact HB.out | apply below_alloc | apply pw_below_drewN | apply below_drew1 | refine below_set ?_ GE185.out) | exact HB.out)) hb); clear HO173; clear HO179; clear HO182; clear HO190; clear BK185; clear HB; have HO173 := n0_; have HO179 := n1_; have HO182 := n2_; have HO190 := n3_; have BK185 := n4_; have HB := n5_; clear n0_ n1_ n2_ n3_ n4_ n5_; (try clear hb); (try clear hb2); (try clear hk); (try clear hi); have hcz57_0 : w56.cell? ⟨gb185, 0, none⟩ = some (.int .i64 t174) := (blk_cell BK185.out 0).trans rfl; have hcz57_1 : w56.cell? ⟨gb185, 1, none⟩ = some (.int .i64 t175) := (blk_cell BK185.out 1).trans rfl; have hcz57_2 : w56.cell? ⟨gb185, 2, none⟩ = some (.int .i64 t176) := (blk_cell BK185.out 2).trans rfl; have hcz57_3 : w56.cell? ⟨gb185, 3, none⟩ = some (.slice Ao17 t177.length co17) := (blk_cell BK185.out 3).trans rfl; have hcz57_4 : w56.cell? ⟨gb185, 4, none⟩ = some (.slice Ao18 t180.length co18) := (blk_cell BK185.out 4).trans rfl; have hcz57_5 : w56.cell? ⟨gb185, 5, none⟩ = some (.bool false) := (blk_cell BK185.out 5).trans rfl; have hfz57_0 := blk_frozen BK185.out 0; have hfz57_1 := blk_frozen BK185.out 1; have hfz57_2 := blk_frozen BK185.out 2; have hfz57_3 := blk_frozen BK185.out 3; have hfz57_4 := blk_frozen BK185.out 4; have hfz57_5 := blk_frozen BK185.out 5))
                  go_meet
                  case rel => exact ⟨_, (true), (by first | rfl | (simp; done) | (simp [*]; done)), H', ⟨by first | omega | exact Nat.le_refl _⟩, ⟨by (with_reducible repeat (first | apply Kd.R_alloc | apply Kd.R_drewN | apply Kd.R_drew)); exact Kd.R_mono HO179.out (fun _ hk => trivial)⟩, ⟨by (with_reducible repeat (first | apply Kd.R_alloc | apply Kd.R_drewN | apply Kd.R_drew)); exact HO182.out⟩, ⟨by (with_reducible repeat (first | refine blk_drewN ?_ _ | refine blk_drew ?_ | refine blk_alloc ?_ _)); exact BK185.out⟩, ⟨by repeat (first | (with_reducible first | exact HB.out | apply below_alloc | apply pw_below_drewN | apply below_drew1 | refine below_set ?_ GE185.out) | exact HB.out)⟩⟩
              · replace c26 := Bool.eq_false_iff.mpr c26
                subst c26
                have H1 : (hornbeamlaw21_SchedEnds.j0 k true t174 t175 t176 t177 t180 t183) = some r := by rw [if_neg (show ¬ (false = true) by decide)] at H; exact H
                clear H
                have H := H1
                clear H1
                have H' := Aside0.mk H
                clear H
                obtain ⟨Ao58, co58, eo58⟩ := Kd.R_slice HO173.out
                subst eo58
                go_wp2_with (first | (go_at_call 33; (with_reducible refine (sched_Bound.calls (wrap64 (a0)) (wrap64 (1 + (wrap64 (Int.tmod a1 64)))) t187 _ A20.out).mono ?_); rintro e w' ⟨rfl, ⟨nd, rfl⟩⟩; have hcz59_0 : w15.cell? ⟨gb185, 0, none⟩ = some (.int .i64 0) := (blk_cell BK185.out 0).trans rfl; have hcz59_1 : w15.cell? ⟨gb185, 1, none⟩ = some (.int .i64 0) := (blk_cell BK185.out 1).trans rfl; have hcz59_2 : w15.cell? ⟨gb185, 2, none⟩ = some (.int .i64 0) := (blk_cell BK185.out 2).trans rfl; have hcz59_3 : w15.cell? ⟨gb185, 3, none⟩ = some (.slice none 0 0) := (blk_cell BK185.out 3).trans rfl; have hcz59_4 : w15.cell? ⟨gb185, 4, none⟩ = some (.slice none 0 0) := (blk_cell BK185.out 4).trans rfl; have hcz59_5 : w15.cell? ⟨gb185, 5, none⟩ = some (.bool false) := (blk_cell BK185.out 5).trans rfl; have hfz59_0 := blk_frozen BK185.out 0; have hfz59_1 := blk_frozen BK185.out 1; have hfz59_2 := blk_frozen BK185.out 2; have hfz59_3 := blk_frozen BK185.out 3; have hfz59_4 := blk_frozen BK185.out 4; have hfz59_5 := blk_frozen BK185.out 5) | (go_at_call 34; (with_reducible refine (sched_Ready.calls k t174 t175 t176 _ _ t177 _ _ t180 t183 t188 _ ?side1 ?side2 ?side3 ?side4 A23.out).mono ?_); (case side1 => refine (Kd.R_reads' (e := 3) (base := w.heap.size) (ok := fun k_ => True) (n := t177.length) (c := co17) ?_).2.2; exact (by (with_reducible repeat (first | apply Kd.R_alloc | apply Kd.R_drewN | apply Kd.R_drew)); exact (Kd.R_mono (Kd.R_far (p := ⟨gb185, 5, none⟩) (Kd.R_far (p := ⟨gb185, 4, none⟩) (Kd.R_far (p := ⟨gb185, 3, none⟩) (Kd.R_far (p := ⟨gb185, 2, none⟩) (Kd.R_far (p := ⟨gb185, 1, none⟩) (Kd.R_far (p := ⟨gb185, 0, none⟩) (Kd.R_types HO179.out BK185.out (by decide)) (fun _ hk => hk.2) (.int .i64 t174)) (fun _ hk => hk.2) (.int .i64 t175)) (fun _ hk => hk.2) (.int .i64 t176)) (fun _ hk => hk.2) (.slice Ao17 t177.length co17)) (fun _ hk => hk.2) (.slice Ao18 t180.length co18)) (fun _ hk => hk.2) (.bool t183)) (fun _ h_ => h_.1)))); (case side2 => exact (Kd.R_reads' HO179.out).2.1); (case side3 => refine (Kd.R_reads' (e := 4) (base := w.heap.size) (ok := fun k_ => True) (n := t180.length) (c := co18) ?_).2.2; exact (by (with_reducible repeat (first | apply Kd.R_alloc | apply Kd.R_drewN | apply Kd.R_drew)); exact (Kd.R_mono (Kd.R_far (p := ⟨gb185, 5, none⟩) (Kd.R_far (p := ⟨gb185, 4, none⟩) (Kd.R_far (p := ⟨gb185, 3, none⟩) (Kd.R_far (p := ⟨gb185, 2, none⟩) (Kd.R_far (p := ⟨gb185, 1, none⟩) (Kd.R_far (p := ⟨gb185, 0, none⟩) (Kd.R_types HO182.out BK185.out (by decide)) (fun _ hk => hk.2) (.int .i64 t174)) (fun _ hk => hk.2) (.int .i64 t175)) (fun _ hk => hk.2) (.int .i64 t176)) (fun _ hk => hk.2) (.slice Ao17 t177.length co17)) (fun _ hk => hk.2) (.slice Ao18 t180.length co18)) (fun _ hk => hk.2) (.bool t183)) (fun _ h_ => h_.1)))); (case side4 => exact (Kd.R_reads' HO182.out).2.1); rintro e w60 ⟨v189, rfl, ho0, hb⟩; have n0_ := Aside0.mk (Kd.R_below (by (with_reducible repeat (first | apply Kd.R_alloc | apply Kd.R_drewN | apply Kd.R_drew)); exact (Kd.R_mono (Kd.R_far (p := ⟨gb185, 5, none⟩) (Kd.R_far (p := ⟨gb185, 4, none⟩) (Kd.R_far (p := ⟨gb185, 3, none⟩) (Kd.R_far (p := ⟨gb185, 2, none⟩) (Kd.R_far (p := ⟨gb185, 1, none⟩) (Kd.R_far (p := ⟨gb185, 0, none⟩) (Kd.R_types HO173.out BK185.out (by decide)) (fun _ hk => hk.2) (.int .i64 t174)) (fun _ hk => hk.2) (.int .i64 t175)) (fun _ hk => hk.2) (.int .i64 t176)) (fun _ hk => hk.2) (.slice Ao17 t177.length co17)) (fun _ hk => hk.2) (.slice Ao18 t180.length co18)) (fun _ hk => hk.2) (.bool t183)) (fun _ h_ => h_.1))) hb); have n1_ := Aside0.mk (Kd.R_elder' (by (with_reducible repeat (first | apply Kd.R_alloc | apply Kd.R_drewN | apply Kd.R_drew)); exact (Kd.R_mono (Kd.R_far (p := ⟨gb185, 5, none⟩) (Kd.R_far (p := ⟨gb185, 4, none⟩) (Kd.R_far (p := ⟨gb185, 3, none⟩) (Kd.R_far (p := ⟨gb185, 2, none⟩) (Kd.R_far (p := ⟨gb185, 1, none⟩) (Kd.R_far (p := ⟨gb185, 0, none⟩) (Kd.R_types HO179.out BK185.out (by decide)) (fun _ hk => hk.2) (.int .i64 t174)) (fun _ hk => hk.2) (.int .i64 t175)) (fun _ hk => hk.2) (.int .i64 t176)) (fun _ hk => hk.2) (.slice Ao17 t177.length co17)) (fun _ hk => hk.2) (.slice Ao18 t180.length co18)) (fun _ hk => hk.2) (.bool t183)) (fun _ h_ => h_.1))) (Kd.R_base ho0) hb); have n2_ := Aside0.mk (Kd.R_below (by (with_reducible repeat (first | apply Kd.R_alloc | apply Kd.R_drewN | apply Kd.R_drew)); exact (Kd.R_mono (Kd.R_far (p := ⟨gb185, 5, none⟩) (Kd.R_far (p := ⟨gb185, 4, none⟩) (Kd.R_far (p := ⟨gb185, 3, none⟩) (Kd.R_far (p := ⟨gb185, 2, none⟩) (Kd.R_far (p := ⟨gb185, 1, none⟩) (Kd.R_far (p := ⟨gb185, 0, none⟩) (Kd.R_types HO182.out BK185.out (by decide)) (fun _ hk => hk.2) (.int .i64 t174)) (fun _ hk => hk.2) (.int .i64 t175)) (fun _ hk => hk.2) (.int .i64 t176)) (fun _ hk => hk.2) (.slice Ao17 t177.length co17)) (fun _ hk => hk.2) (.slice Ao18 t180.length co18)) (fun _ hk => hk.2) (.bool t183)) (fun _ h_ => h_.1))) hb); have n3_ := Aside0.mk (Kd.R_lower (Kd.R_new' ho0 (Kd.R_lt (by (with_reducible repeat (first | apply Kd.R_alloc | apply Kd.R_drewN | apply Kd.R_drew)); exact (Kd.R_mono (Kd.R_far (p := ⟨gb185, 5, none⟩) (Kd.R_far (p := ⟨gb185, 4, none⟩) (Kd.R_far (p := ⟨gb185, 3, none⟩) (Kd.R_far (p := ⟨gb185, 2, none⟩) (Kd.R_far (p := ⟨gb185, 1, none⟩) (Kd.R_far (p := ⟨gb185, 0, none⟩) (Kd.R_types HO179.out BK185.out (by decide)) (fun _ hk => hk.2) (.int .i64 t174)) (fun _ hk => hk.2) (.int .i64 t175)) (fun _ hk => hk.2) (.int .i64 t176)) (fun _ hk => hk.2) (.slice Ao17 t177.length co17)) (fun _ hk => hk.2) (.slice Ao18 t180.length co18)) (fun _ hk => hk.2) (.bool t183)) (fun _ h_ => h_.1))))) (below_size (by repeat (first | (with_reducible first | exact HB.out | apply below_alloc | apply pw_below_drewN | apply below_drew1 | refine below_set ?_ GE185.out) | exact HB.out)))); have n4_ := Aside0.mk (blk_below (g := gb185) (o := .cells #[.int .i64 t174, .int .i64 t175, .int .i64 t176, .slice Ao17 t177.length co17, .slice Ao18 t180.length co18, .bool t183] 42 (0, 0)) (by (with_reducible repeat (first | refine blk_drewN ?_ _ | refine blk_drew ?_ | refine blk_alloc ?_ _)); refine blk_put (cs := #[.int .i64 t174, .int .i64 t175, .int .i64 t176, .slice Ao17 t177.length co17, .slice Ao18 t180.length co18, .bool false]) ?_ 5 _ rfl; (with_reducible repeat (first | refine blk_drewN ?_ _ | refine blk_drew ?_ | refine blk_alloc ?_ _)); refine blk_put (cs := #[.int .i64 t174, .int .i64 t175, .int .i64 t176, .slice Ao17 t177.length co17, .slice none 0 0, .bool false]) ?_ 4 _ rfl; (with_reducible repeat (first | refine blk_drewN ?_ _ | refine blk_drew ?_ | refine blk_alloc ?_ _)); refine blk_put (cs := #[.int .i64 t174, .int .i64 t175, .int .i64 t176, .slice none 0 0, .slice none 0 0, .bool false]) ?_ 3 _ rfl; (with_reducible repeat (first | refine blk_drewN ?_ _ | refine blk_drew ?_ | refine blk_alloc ?_ _)); refine blk_put (cs := #[.int .i64 t174, .int .i64 t175, .int .i64 0, .slice none 0 0, .slice none 0 0, .bool false]) ?_ 2 _ rfl; (with_reducible repeat (first | refine blk_drewN ?_ _ | refine blk_drew ?_ | refine blk_alloc ?_ _)); refine blk_put (cs := #[.int .i64 t174, .int .i64 0, .int .i64 0, .slice none 0 0, .slice none 0 0, .bool false]) ?_ 1 _ rfl; (with_reducible repeat (first | refine blk_drewN ?_ _ | refine blk_drew ?_ | refine blk_alloc ?_ _)); refine blk_put (cs := #[.int .i64 0, .int .i64 0, .int .i64 0, .slice none 0 0, .slice none 0 0, .bool false]) ?_ 0 _ rfl; (with_reducible repeat (first | refine blk_drewN ?_ _ | refine blk_drew ?_ | refine blk_alloc ?_ _)); exact BK185.out) hb); have n5_ := Aside0.mk (below_step (by repeat (first | (with_reducible first | exact HB.out | apply below_alloc | apply pw_below_drewN | apply below_drew1 | refine below_set ?_ GE185.out) | exact HB.out)) hb); clear HO173; clear HO179; clear HO182; clear BK185; clear HB; have HO173 := n0_; have HO179 := n1_; have HO182 := n2_; have HO190 := n3_; have BK185 := n4_; have HB := n5_; clear n0_ n1_ n2_ n3_ n4_ n5_; (try clear hb); (try clear hb2); (try clear hk); (try clear hi); (try clear ho0); obtain ⟨Ao61, co61, eo61⟩ := Kd.R_slice HO190.out; subst eo61; have hcz62_0 : w60.cell? ⟨gb185, 0, none⟩ = some (.int .i64 t174) := (blk_cell BK185.out 0).trans rfl; have hcz62_1 : w60.cell? ⟨gb185, 1, none⟩ = some (.int .i64 t175) := (blk_cell BK185.out 1).trans rfl; have hcz62_2 : w60.cell? ⟨gb185, 2, none⟩ = some (.int .i64 t176) := (blk_cell BK185.out 2).trans rfl; have hcz62_3 : w60.cell? ⟨gb185, 3, none⟩ = some (.slice Ao17 t177.length co17) := (blk_cell BK185.out 3).trans rfl; have hcz62_4 : w60.cell? ⟨gb185, 4, none⟩ = some (.slice Ao18 t180.length co18) := (blk_cell BK185.out 4).trans rfl; have hcz62_5 : w60.cell? ⟨gb185, 5, none⟩ = some (.bool t183) := (blk_cell BK185.out 5).trans rfl; have hfz62_0 := blk_frozen BK185.out 0; have hfz62_1 := blk_frozen BK185.out 1; have hfz62_2 := blk_frozen BK185.out 2; have hfz62_3 := blk_frozen BK185.out 3; have hfz62_4 := blk_frozen BK185.out 4; have hfz62_5 := blk_frozen BK185.out 5) | (go_at_call 35; (with_reducible refine (sched_May.calls k t174 t175 t176 _ _ t177 _ _ t180 t183 false _ ?side1 ?side2 ?side3 ?side4 A25.out).mono ?_); (case side1 => repeat (first | exact (Kd.R_reads' HO179.out).2.2 | (with_reducible refine Kd.C_alloc ?_ _) | (with_reducible refine Kd.C_drewN ?_ _) | (with_reducible refine Kd.C_drew ?_))); (case side2 => exact (Kd.R_reads' HO179.out).2.1); (case side3 => repeat (first | exact (Kd.R_reads' HO182.out).2.2 | (with_reducible refine Kd.C_alloc ?_ _) | (with_reducible refine Kd.C_drewN ?_ _) | (with_reducible refine Kd.C_drew ?_))); (case side4 => exact (Kd.R_reads' HO182.out).2.1); rintro e w63 ⟨rfl, hb⟩; have n0_ := Aside0.mk (Kd.R_below (by (with_reducible repeat (first | apply Kd.R_alloc | apply Kd.R_drewN | apply Kd.R_drew)); exact HO173.out) hb); have n1_ := Aside0.mk (Kd.R_below (by (with_reducible repeat (first | apply Kd.R_alloc | apply Kd.R_drewN | apply Kd.R_drew)); exact HO179.out) hb); have n2_ := Aside0.mk (Kd.R_below (by (with_reducible repeat (first | apply Kd.R_alloc | apply Kd.R_drewN | apply Kd.R_drew)); exact HO182.out) hb); have n3_ := Aside0.mk (Kd.R_below (by (with_reducible repeat (first | apply Kd.R_alloc | apply Kd.R_drewN | apply Kd.R_drew)); exact HO190.out) hb); have n4_ := Aside0.mk (blk_below (g := gb185) (o := .cells #[.int .i64 t174, .int .i64 t175, .int .i64 t176, .slice Ao17 t177.length co17, .slice Ao18 t180.length co18, .bool t183] 42 (0, 0)) (by (with_reducible repeat (first | refine blk_drewN ?_ _ | refine blk_drew ?_ | refine blk_alloc ?_ _)); exact BK185.out) hb); have n5_ := Aside0.mk (below_step (by repeat (first | (with_reducible first | exact HB.out | apply below_alloc | apply pw_below_drewN | apply below_drew1 | refine below_set ?_ GE185.out) | exact HB.out)) hb); clear HO173; clear HO179; clear HO182; clear HO190; clear BK185; clear HB; have HO173 := n0_; have HO179 := n1_; have HO182 := n2_; have HO190 := n3_; have BK185 := n4_; have HB := n5_; clear n0_ n1_ n2_ n3_ n4_ n5_; (try clear hb); (try clear hb2); (try clear hk); (try clear hi)))
                go_meet
                case rel => exact ⟨_, (true), (by first | rfl | (simp; done) | (simp [*]; done)), H', ⟨by first | omega | exact Nat.le_refl _⟩, ⟨by (with_reducible repeat (first | apply Kd.R_alloc | apply Kd.R_drewN | apply Kd.R_drew)); exact Kd.R_mono HO179.out (fun _ hk => trivial)⟩, ⟨by (with_reducible repeat (first | apply Kd.R_alloc | apply Kd.R_drewN | apply Kd.R_drew)); exact HO182.out⟩, ⟨by (with_reducible repeat (first | refine blk_drewN ?_ _ | refine blk_drew ?_ | refine blk_alloc ?_ _)); exact BK185.out⟩, ⟨by repeat (first | (with_reducible first | exact HB.out | apply below_alloc | apply pw_below_drewN | apply below_drew1 | refine below_set ?_ GE185.out) | exact HB.out)⟩⟩
            · rw [if_neg c24] at H
              have c24b0 : ((t188.length : Int) == 0) = false := beq_eq_false_iff_ne.mpr c24
              have c24b1 : ((t188.length : Int) != 0) = true := bne_iff_ne.mpr c24
              have c24b2 : ¬ (t188 = []) := fun h_ => c24 (by rw [h_]; rfl)
              have H' := Aside0.mk H
              clear H
              obtain ⟨Ao64, co64, eo64⟩ := Kd.R_slice HO173.out
              subst eo64
              go_wp2_with (first | (go_at_call 33; (with_reducible refine (sched_Bound.calls (wrap64 (a0)) (wrap64 (1 + (wrap64 (Int.tmod a1 64)))) t187 _ A20.out).mono ?_); rintro e w' ⟨rfl, ⟨nd, rfl⟩⟩; have hcz65_0 : w15.cell? ⟨gb185, 0, none⟩ = some (.int .i64 0) := (blk_cell BK185.out 0).trans rfl; have hcz65_1 : w15.cell? ⟨gb185, 1, none⟩ = some (.int .i64 0) := (blk_cell BK185.out 1).trans rfl; have hcz65_2 : w15.cell? ⟨gb185, 2, none⟩ = some (.int .i64 0) := (blk_cell BK185.out 2).trans rfl; have hcz65_3 : w15.cell? ⟨gb185, 3, none⟩ = some (.slice none 0 0) := (blk_cell BK185.out 3).trans rfl; have hcz65_4 : w15.cell? ⟨gb185, 4, none⟩ = some (.slice none 0 0) := (blk_cell BK185.out 4).trans rfl; have hcz65_5 : w15.cell? ⟨gb185, 5, none⟩ = some (.bool false) := (blk_cell BK185.out 5).trans rfl; have hfz65_0 := blk_frozen BK185.out 0; have hfz65_1 := blk_frozen BK185.out 1; have hfz65_2 := blk_frozen BK185.out 2; have hfz65_3 := blk_frozen BK185.out 3; have hfz65_4 := blk_frozen BK185.out 4; have hfz65_5 := blk_frozen BK185.out 5) | (go_at_call 34; (with_reducible refine (sched_Ready.calls k t174 t175 t176 _ _ t177 _ _ t180 t183 t188 _ ?side1 ?side2 ?side3 ?side4 A23.out).mono ?_); (case side1 => refine (Kd.R_reads' (e := 3) (base := w.heap.size) (ok := fun k_ => True) (n := t177.length) (c := co17) ?_).2.2; exact (by (with_reducible repeat (first | apply Kd.R_alloc | apply Kd.R_drewN | apply Kd.R_drew)); exact (Kd.R_mono (Kd.R_far (p := ⟨gb185, 5, none⟩) (Kd.R_far (p := ⟨gb185, 4, none⟩) (Kd.R_far (p := ⟨gb185, 3, none⟩) (Kd.R_far (p := ⟨gb185, 2, none⟩) (Kd.R_far (p := ⟨gb185, 1, none⟩) (Kd.R_far (p := ⟨gb185, 0, none⟩) (Kd.R_types HO179.out BK185.out (by decide)) (fun _ hk => hk.2) (.int .i64 t174)) (fun _ hk => hk.2) (.int .i64 t175)) (fun _ hk => hk.2) (.int .i64 t176)) (fun _ hk => hk.2) (.slice Ao17 t177.length co17)) (fun _ hk => hk.2) (.slice Ao18 t180.length co18)) (fun _ hk => hk.2) (.bool t183)) (fun _ h_ => h_.1)))); (case side2 => exact (Kd.R_reads' HO179.out).2.1); (case side3 => refine (Kd.R_reads' (e := 4) (base := w.heap.size) (ok := fun k_ => True) (n := t180.length) (c := co18) ?_).2.2; exact (by (with_reducible repeat (first | apply Kd.R_alloc | apply Kd.R_drewN | apply Kd.R_drew)); exact (Kd.R_mono (Kd.R_far (p := ⟨gb185, 5, none⟩) (Kd.R_far (p := ⟨gb185, 4, none⟩) (Kd.R_far (p := ⟨gb185, 3, none⟩) (Kd.R_far (p := ⟨gb185, 2, none⟩) (Kd.R_far (p := ⟨gb185, 1, none⟩) (Kd.R_far (p := ⟨gb185, 0, none⟩) (Kd.R_types HO182.out BK185.out (by decide)) (fun _ hk => hk.2) (.int .i64 t174)) (fun _ hk => hk.2) (.int .i64 t175)) (fun _ hk => hk.2) (.int .i64 t176)) (fun _ hk => hk.2) (.slice Ao17 t177.length co17)) (fun _ hk => hk.2) (.slice Ao18 t180.length co18)) (fun _ hk => hk.2) (.bool t183)) (fun _ h_ => h_.1)))); (case side4 => exact (Kd.R_reads' HO182.out).2.1); rintro e w66 ⟨v189, rfl, ho0, hb⟩; have n0_ := Aside0.mk (Kd.R_below (by (with_reducible repeat (first | apply Kd.R_alloc | apply Kd.R_drewN | apply Kd.R_drew)); exact (Kd.R_mono (Kd.R_far (p := ⟨gb185, 5, none⟩) (Kd.R_far (p := ⟨gb185, 4, none⟩) (Kd.R_far (p := ⟨gb185, 3, none⟩) (Kd.R_far (p := ⟨gb185, 2, none⟩) (Kd.R_far (p := ⟨gb185, 1, none⟩) (Kd.R_far (p := ⟨gb185, 0, none⟩) (Kd.R_types HO173.out BK185.out (by decide)) (fun _ hk => hk.2) (.int .i64 t174)) (fun _ hk => hk.2) (.int .i64 t175)) (fun _ hk => hk.2) (.int .i64 t176)) (fun _ hk => hk.2) (.slice Ao17 t177.length co17)) (fun _ hk => hk.2) (.slice Ao18 t180.length co18)) (fun _ hk => hk.2) (.bool t183)) (fun _ h_ => h_.1))) hb); have n1_ := Aside0.mk (Kd.R_elder' (by (with_reducible repeat (first | apply Kd.R_alloc | apply Kd.R_drewN | apply Kd.R_drew)); exact (Kd.R_mono (Kd.R_far (p := ⟨gb185, 5, none⟩) (Kd.R_far (p := ⟨gb185, 4, none⟩) (Kd.R_far (p := ⟨gb185, 3, none⟩) (Kd.R_far (p := ⟨gb185, 2, none⟩) (Kd.R_far (p := ⟨gb185, 1, none⟩) (Kd.R_far (p := ⟨gb185, 0, none⟩) (Kd.R_types HO179.out BK185.out (by decide)) (fun _ hk => hk.2) (.int .i64 t174)) (fun _ hk => hk.2) (.int .i64 t175)) (fun _ hk => hk.2) (.int .i64 t176)) (fun _ hk => hk.2) (.slice Ao17 t177.length co17)) (fun _ hk => hk.2) (.slice Ao18 t180.length co18)) (fun _ hk => hk.2) (.bool t183)) (fun _ h_ => h_.1))) (Kd.R_base ho0) hb); have n2_ := Aside0.mk (Kd.R_below (by (with_reducible repeat (first | apply Kd.R_alloc | apply Kd.R_drewN | apply Kd.R_drew)); exact (Kd.R_mono (Kd.R_far (p := ⟨gb185, 5, none⟩) (Kd.R_far (p := ⟨gb185, 4, none⟩) (Kd.R_far (p := ⟨gb185, 3, none⟩) (Kd.R_far (p := ⟨gb185, 2, none⟩) (Kd.R_far (p := ⟨gb185, 1, none⟩) (Kd.R_far (p := ⟨gb185, 0, none⟩) (Kd.R_types HO182.out BK185.out (by decide)) (fun _ hk => hk.2) (.int .i64 t174)) (fun _ hk => hk.2) (.int .i64 t175)) (fun _ hk => hk.2) (.int .i64 t176)) (fun _ hk => hk.2) (.slice Ao17 t177.length co17)) (fun _ hk => hk.2) (.slice Ao18 t180.length co18)) (fun _ hk => hk.2) (.bool t183)) (fun _ h_ => h_.1))) hb); have n3_ := Aside0.mk (Kd.R_lower (Kd.R_new' ho0 (Kd.R_lt (by (with_reducible repeat (first | apply Kd.R_alloc | apply Kd.R_drewN | apply Kd.R_drew)); exact (Kd.R_mono (Kd.R_far (p := ⟨gb185, 5, none⟩) (Kd.R_far (p := ⟨gb185, 4, none⟩) (Kd.R_far (p := ⟨gb185, 3, none⟩) (Kd.R_far (p := ⟨gb185, 2, none⟩) (Kd.R_far (p := ⟨gb185, 1, none⟩) (Kd.R_far (p := ⟨gb185, 0, none⟩) (Kd.R_types HO179.out BK185.out (by decide)) (fun _ hk => hk.2) (.int .i64 t174)) (fun _ hk => hk.2) (.int .i64 t175)) (fun _ hk => hk.2) (.int .i64 t176)) (fun _ hk => hk.2) (.slice Ao17 t177.length co17)) (fun _ hk => hk.2) (.slice Ao18 t180.length co18)) (fun _ hk => hk.2) (.bool t183)) (fun _ h_ => h_.1))))) (below_size (by repeat (first | (with_reducible first | exact HB.out | apply below_alloc | apply pw_below_drewN | apply below_drew1 | refine below_set ?_ GE185.out) | exact HB.out)))); have n4_ := Aside0.mk (blk_below (g := gb185) (o := .cells #[.int .i64 t174, .int .i64 t175, .int .i64 t176, .slice Ao17 t177.length co17, .slice Ao18 t180.length co18, .bool t183] 42 (0, 0)) (by (with_reducible repeat (first | refine blk_drewN ?_ _ | refine blk_drew ?_ | refine blk_alloc ?_ _)); refine blk_put (cs := #[.int .i64 t174, .int .i64 t175, .int .i64 t176, .slice Ao17 t177.length co17, .slice Ao18 t180.length co18, .bool false]) ?_ 5 _ rfl; (with_reducible repeat (first | refine blk_drewN ?_ _ | refine blk_drew ?_ | refine blk_alloc ?_ _)); refine blk_put (cs := #[.int .i64 t174, .int .i64 t175, .int .i64 t176, .slice Ao17 t177.length co17, .slice none 0 0, .bool false]) ?_ 4 _ rfl; (with_reducible repeat (first | refine blk_drewN ?_ _ | refine blk_drew ?_ | refine blk_alloc ?_ _)); refine blk_put (cs := #[.int .i64 t174, .int .i64 t175, .int .i64 t176, .slice none 0 0, .slice none 0 0, .bool false]) ?_ 3 _ rfl; (with_reducible repeat (first | refine blk_drewN ?_ _ | refine blk_drew ?_ | refine blk_alloc ?_ _)); refine blk_put (cs := #[.int .i64 t174, .int .i64 t175, .int .i64 0, .slice none 0 0, .slice none 0 0, .bool false]) ?_ 2 _ rfl; (with_reducible repeat (first | refine blk_drewN ?_ _ | refine blk_drew ?_ | refine blk_alloc ?_ _)); refine blk_put (cs := #[.int .i64 t174, .int .i64 0, .int .i64 0, .slice none 0 0, .slice none 0 0, .bool false]) ?_ 1 _ rfl; (with_reducible repeat (first | refine blk_drewN ?_ _ | refine blk_drew ?_ | refine blk_alloc ?_ _)); refine blk_put (cs := #[.int .i64 0, .int .i64 0, .int .i64 0, .slice none 0 0, .slice none 0 0, .bool false]) ?_ 0 _ rfl; (with_reducible repeat (first | refine blk_drewN ?_ _ | refine blk_drew ?_ | refine blk_alloc ?_ _)); exact BK185.out) hb); have n5_ := Aside0.mk (below_step (by repeat (first | (with_reducible first | exact HB.out | apply below_alloc | apply pw_below_drewN | apply below_drew1 | refine below_set ?_ GE185.out) | exact HB.out)) hb); clear HO173; clear HO179; clear HO182; clear BK185; clear HB; have HO173 := n0_; have HO179 := n1_; have HO182 := n2_; have HO190 := n3_; have BK185 := n4_; have HB := n5_; clear n0_ n1_ n2_ n3_ n4_ n5_; (try clear hb); (try clear hb2); (try clear hk); (try clear hi); (try clear ho0); obtain ⟨Ao67, co67, eo67⟩ := Kd.R_slice HO190.out; subst eo67))
              go_meet
              case rel => exact ⟨_, (true), (by first | rfl | (simp; done) | (simp [*]; done)), H', ⟨by first | omega | exact Nat.le_refl _⟩, ⟨by (with_reducible repeat (first | apply Kd.R_alloc | apply Kd.R_drewN | apply Kd.R_drew)); exact Kd.R_mono HO179.out (fun _ hk => trivial)⟩, ⟨by (with_reducible repeat (first | apply Kd.R_alloc | apply Kd.R_drewN | apply Kd.R_drew)); exact HO182.out⟩, ⟨by (with_reducible repeat (first | refine blk_drewN ?_ _ | refine blk_drew ?_ | refine blk_alloc ?_ _)); exact BK185.out⟩, ⟨by repeat (first | (with_reducible first | exact HB.out | apply below_alloc | apply pw_below_drewN | apply below_drew1 | refine below_set ?_ GE185.out) | exact HB.out)⟩⟩
          · rw [if_neg c22] at H
            have c22b0 : ((t171.length : Int) == (wrap64 ((wrap64 ((wrap64 (2 * (wrap64 (a0)))) + (wrap64 (1 + (wrap64 (Int.tmod a1 64)))))) + 1))) = false := beq_eq_false_iff_ne.mpr c22
            have c22b1 : ((t171.length : Int) != (wrap64 ((wrap64 ((wrap64 (2 * (wrap64 (a0)))) + (wrap64 (1 + (wrap64 (Int.tmod a1 64)))))) + 1))) = true := bne_iff_ne.mpr c22
            have H' := Aside0.mk H
            clear H
            obtain ⟨Ao68, co68, eo68⟩ := Kd.R_slice HO173.out
            subst eo68
            go_wp2_with (first | (go_at_call 33; (with_reducible refine (sched_Bound.calls (wrap64 (a0)) (wrap64 (1 + (wrap64 (Int.tmod a1 64)))) t187 _ A20.out).mono ?_); rintro e w' ⟨rfl, ⟨nd, rfl⟩⟩))
            go_meet
            case rel => exact ⟨_, (true), (by first | rfl | (simp; done) | (simp [*]; done)), H', ⟨by first | omega | exact Nat.le_refl _⟩, ⟨by (with_reducible repeat (first | apply Kd.R_alloc | apply Kd.R_drewN | apply Kd.R_drew)); exact Kd.R_mono (Kd.R_far (p := ⟨gb185, 5, none⟩) (Kd.R_far (p := ⟨gb185, 4, none⟩) (Kd.R_far (p := ⟨gb185, 3, none⟩) (Kd.R_far (p := ⟨gb185, 2, none⟩) (Kd.R_far (p := ⟨gb185, 1, none⟩) (Kd.R_far (p := ⟨gb185, 0, none⟩) (Kd.R_types HO179.out BK185.out (by decide)) (fun _ hk => hk.2) (.int .i64 t174)) (fun _ hk => hk.2) (.int .i64 t175)) (fun _ hk => hk.2) (.int .i64 t176)) (fun _ hk => hk.2) (.slice Ao17 t177.length co17)) (fun _ hk => hk.2) (.slice Ao18 t180.length co18)) (fun _ hk => hk.2) (.bool t183)) (fun _ hk => trivial)⟩, ⟨by (with_reducible repeat (first | apply Kd.R_alloc | apply Kd.R_drewN | apply Kd.R_drew)); exact Kd.R_mono (Kd.R_far (p := ⟨gb185, 5, none⟩) (Kd.R_far (p := ⟨gb185, 4, none⟩) (Kd.R_far (p := ⟨gb185, 3, none⟩) (Kd.R_far (p := ⟨gb185, 2, none⟩) (Kd.R_far (p := ⟨gb185, 1, none⟩) (Kd.R_far (p := ⟨gb185, 0, none⟩) (Kd.R_types HO182.out BK185.out (by decide)) (fun _ hk => hk.2) (.int .i64 t174)) (fun _ hk => hk.2) (.int .i64 t175)) (fun _ hk => hk.2) (.int .i64 t176)) (fun _ hk => hk.2) (.slice Ao17 t177.length co17)) (fun _ hk => hk.2) (.slice Ao18 t180.length co18)) (fun _ hk => hk.2) (.bool t183)) (fun _ hk => trivial)⟩, ⟨by (with_reducible repeat (first | refine blk_drewN ?_ _ | refine blk_drew ?_ | refine blk_alloc ?_ _)); refine blk_put (cs := #[.int .i64 t174, .int .i64 t175, .int .i64 t176, .slice Ao17 t177.length co17, .slice Ao18 t180.length co18, .bool false]) ?_ 5 _ rfl; (with_reducible repeat (first | refine blk_drewN ?_ _ | refine blk_drew ?_ | refine blk_alloc ?_ _)); refine blk_put (cs := #[.int .i64 t174, .int .i64 t175, .int .i64 t176, .slice Ao17 t177.length co17, .slice none 0 0, .bool false]) ?_ 4 _ rfl; (with_reducible repeat (first | refine blk_drewN ?_ _ | refine blk_drew ?_ | refine blk_alloc ?_ _)); refine blk_put (cs := #[.int .i64 t174, .int .i64 t175, .int .i64 t176, .slice none 0 0, .slice none 0 0, .bool false]) ?_ 3 _ rfl; (with_reducible repeat (first | refine blk_drewN ?_ _ | refine blk_drew ?_ | refine blk_alloc ?_ _)); refine blk_put (cs := #[.int .i64 t174, .int .i64 t175, .int .i64 0, .slice none 0 0, .slice none 0 0, .bool false]) ?_ 2 _ rfl; (with_reducible repeat (first | refine blk_drewN ?_ _ | refine blk_drew ?_ | refine blk_alloc ?_ _)); refine blk_put (cs := #[.int .i64 t174, .int .i64 0, .int .i64 0, .slice none 0 0, .slice none 0 0, .bool false]) ?_ 1 _ rfl; (with_reducible repeat (first | refine blk_drewN ?_ _ | refine blk_drew ?_ | refine blk_alloc ?_ _)); refine blk_put (cs := #[.int .i64 0, .int .i64 0, .int .i64 0, .slice none 0 0, .slice none 0 0, .bool false]) ?_ 0 _ rfl; (with_reducible repeat (first | refine blk_drewN ?_ _ | refine blk_drew ?_ | refine blk_alloc ?_ _)); exact BK185.out⟩, ⟨by repeat (first | (with_reducible first | exact HB.out | apply below_alloc | apply pw_below_drewN | apply below_drew1 | refine below_set ?_ GE185.out) | exact HB.out)⟩⟩
        · rw [if_neg c21] at H
          have c21b0 : ((t171.length : Int) == t187) = false := beq_eq_false_iff_ne.mpr c21
          have c21b1 : ((t171.length : Int) != t187) = true := bne_iff_ne.mpr c21
          have H' := Aside0.mk H
          clear H
          obtain ⟨Ao69, co69, eo69⟩ := Kd.R_slice HO173.out
          subst eo69
          go_wp2_with (first | (go_at_call 33; (with_reducible refine (sched_Bound.calls (wrap64 (a0)) (wrap64 (1 + (wrap64 (Int.tmod a1 64)))) t187 _ A20.out).mono ?_); rintro e w' ⟨rfl, ⟨nd, rfl⟩⟩))
          go_meet
          case rel => exact ⟨_, (true), (by first | rfl | (simp; done) | (simp [*]; done)), H', ⟨by first | omega | exact Nat.le_refl _⟩, ⟨by (with_reducible repeat (first | apply Kd.R_alloc | apply Kd.R_drewN | apply Kd.R_drew)); exact Kd.R_mono (Kd.R_far (p := ⟨gb185, 5, none⟩) (Kd.R_far (p := ⟨gb185, 4, none⟩) (Kd.R_far (p := ⟨gb185, 3, none⟩) (Kd.R_far (p := ⟨gb185, 2, none⟩) (Kd.R_far (p := ⟨gb185, 1, none⟩) (Kd.R_far (p := ⟨gb185, 0, none⟩) (Kd.R_types HO179.out BK185.out (by decide)) (fun _ hk => hk.2) (.int .i64 t174)) (fun _ hk => hk.2) (.int .i64 t175)) (fun _ hk => hk.2) (.int .i64 t176)) (fun _ hk => hk.2) (.slice Ao17 t177.length co17)) (fun _ hk => hk.2) (.slice Ao18 t180.length co18)) (fun _ hk => hk.2) (.bool t183)) (fun _ hk => trivial)⟩, ⟨by (with_reducible repeat (first | apply Kd.R_alloc | apply Kd.R_drewN | apply Kd.R_drew)); exact Kd.R_mono (Kd.R_far (p := ⟨gb185, 5, none⟩) (Kd.R_far (p := ⟨gb185, 4, none⟩) (Kd.R_far (p := ⟨gb185, 3, none⟩) (Kd.R_far (p := ⟨gb185, 2, none⟩) (Kd.R_far (p := ⟨gb185, 1, none⟩) (Kd.R_far (p := ⟨gb185, 0, none⟩) (Kd.R_types HO182.out BK185.out (by decide)) (fun _ hk => hk.2) (.int .i64 t174)) (fun _ hk => hk.2) (.int .i64 t175)) (fun _ hk => hk.2) (.int .i64 t176)) (fun _ hk => hk.2) (.slice Ao17 t177.length co17)) (fun _ hk => hk.2) (.slice Ao18 t180.length co18)) (fun _ hk => hk.2) (.bool t183)) (fun _ hk => trivial)⟩, ⟨by (with_reducible repeat (first | refine blk_drewN ?_ _ | refine blk_drew ?_ | refine blk_alloc ?_ _)); refine blk_put (cs := #[.int .i64 t174, .int .i64 t175, .int .i64 t176, .slice Ao17 t177.length co17, .slice Ao18 t180.length co18, .bool false]) ?_ 5 _ rfl; (with_reducible repeat (first | refine blk_drewN ?_ _ | refine blk_drew ?_ | refine blk_alloc ?_ _)); refine blk_put (cs := #[.int .i64 t174, .int .i64 t175, .int .i64 t176, .slice Ao17 t177.length co17, .slice none 0 0, .bool false]) ?_ 4 _ rfl; (with_reducible repeat (first | refine blk_drewN ?_ _ | refine blk_drew ?_ | refine blk_alloc ?_ _)); refine blk_put (cs := #[.int .i64 t174, .int .i64 t175, .int .i64 t176, .slice none 0 0, .slice none 0 0, .bool false]) ?_ 3 _ rfl; (with_reducible repeat (first | refine blk_drewN ?_ _ | refine blk_drew ?_ | refine blk_alloc ?_ _)); refine blk_put (cs := #[.int .i64 t174, .int .i64 t175, .int .i64 0, .slice none 0 0, .slice none 0 0, .bool false]) ?_ 2 _ rfl; (with_reducible repeat (first | refine blk_drewN ?_ _ | refine blk_drew ?_ | refine blk_alloc ?_ _)); refine blk_put (cs := #[.int .i64 t174, .int .i64 0, .int .i64 0, .slice none 0 0, .slice none 0 0, .bool false]) ?_ 1 _ rfl; (with_reducible repeat (first | refine blk_drewN ?_ _ | refine blk_drew ?_ | refine blk_alloc ?_ _)); refine blk_put (cs := #[.int .i64 0, .int .i64 0, .int .i64 0, .slice none 0 0, .slice none 0 0, .bool false]) ?_ 0 _ rfl; (with_reducible repeat (first | refine blk_drewN ?_ _ | refine blk_drew ?_ | refine blk_alloc ?_ _)); exact BK185.out⟩, ⟨by repeat (first | (with_reducible first | exact HB.out | apply below_alloc | apply pw_below_drewN | apply below_drew1 | refine below_set ?_ GE185.out) | exact HB.out)⟩⟩
      · rw [if_neg c19] at H
        have c19b0 : (t184 == 0) = false := beq_eq_false_iff_ne.mpr c19
        have c19b1 : (t184 != 0) = true := bne_iff_ne.mpr c19
        (first | rw [c19b0] | (simp only [i64_w, i32_w]; rw [c19b0]) | skip)
        have H' := Aside0.mk H
        clear H
        go_wp2
        go_meet
        case rel => exact ⟨_, (true), (by first | rfl | (simp; done) | (simp [*]; done)), H', ⟨by first | omega | exact Nat.le_refl _⟩, ⟨by (with_reducible repeat (first | apply Kd.R_alloc | apply Kd.R_drewN | apply Kd.R_drew)); exact Kd.R_mono (Kd.R_far (p := ⟨gb185, 5, none⟩) (Kd.R_far (p := ⟨gb185, 4, none⟩) (Kd.R_far (p := ⟨gb185, 3, none⟩) (Kd.R_far (p := ⟨gb185, 2, none⟩) (Kd.R_far (p := ⟨gb185, 1, none⟩) (Kd.R_far (p := ⟨gb185, 0, none⟩) (Kd.R_types HO179.out BK185.out (by decide)) (fun _ hk => hk.2) (.int .i64 t174)) (fun _ hk => hk.2) (.int .i64 t175)) (fun _ hk => hk.2) (.int .i64 t176)) (fun _ hk => hk.2) (.slice Ao17 t177.length co17)) (fun _ hk => hk.2) (.slice Ao18 t180.length co18)) (fun _ hk => hk.2) (.bool t183)) (fun _ hk => trivial)⟩, ⟨by (with_reducible repeat (first | apply Kd.R_alloc | apply Kd.R_drewN | apply Kd.R_drew)); exact Kd.R_mono (Kd.R_far (p := ⟨gb185, 5, none⟩) (Kd.R_far (p := ⟨gb185, 4, none⟩) (Kd.R_far (p := ⟨gb185, 3, none⟩) (Kd.R_far (p := ⟨gb185, 2, none⟩) (Kd.R_far (p := ⟨gb185, 1, none⟩) (Kd.R_far (p := ⟨gb185, 0, none⟩) (Kd.R_types HO182.out BK185.out (by decide)) (fun _ hk => hk.2) (.int .i64 t174)) (fun _ hk => hk.2) (.int .i64 t175)) (fun _ hk => hk.2) (.int .i64 t176)) (fun _ hk => hk.2) (.slice Ao17 t177.length co17)) (fun _ hk => hk.2) (.slice Ao18 t180.length co18)) (fun _ hk => hk.2) (.bool t183)) (fun _ hk => trivial)⟩, ⟨by (with_reducible repeat (first | refine blk_drewN ?_ _ | refine blk_drew ?_ | refine blk_alloc ?_ _)); refine blk_put (cs := #[.int .i64 t174, .int .i64 t175, .int .i64 t176, .slice Ao17 t177.length co17, .slice Ao18 t180.length co18, .bool false]) ?_ 5 _ rfl; (with_reducible repeat (first | refine blk_drewN ?_ _ | refine blk_drew ?_ | refine blk_alloc ?_ _)); refine blk_put (cs := #[.int .i64 t174, .int .i64 t175, .int .i64 t176, .slice Ao17 t177.length co17, .slice none 0 0, .bool false]) ?_ 4 _ rfl; (with_reducible repeat (first | refine blk_drewN ?_ _ | refine blk_drew ?_ | refine blk_alloc ?_ _)); refine blk_put (cs := #[.int .i64 t174, .int .i64 t175, .int .i64 t176, .slice none 0 0, .slice none 0 0, .bool false]) ?_ 3 _ rfl; (with_reducible repeat (first | refine blk_drewN ?_ _ | refine blk_drew ?_ | refine blk_alloc ?_ _)); refine blk_put (cs := #[.int .i64 t174, .int .i64 t175, .int .i64 0, .slice none 0 0, .slice none 0 0, .bool false]) ?_ 2 _ rfl; (with_reducible repeat (first | refine blk_drewN ?_ _ | refine blk_drew ?_ | refine blk_alloc ?_ _)); refine blk_put (cs := #[.int .i64 t174, .int .i64 0, .int .i64 0, .slice none 0 0, .slice none 0 0, .bool false]) ?_ 1 _ rfl; (with_reducible repeat (first | refine blk_drewN ?_ _ | refine blk_drew ?_ | refine blk_alloc ?_ _)); refine blk_put (cs := #[.int .i64 0, .int .i64 0, .int .i64 0, .slice none 0 0, .slice none 0 0, .bool false]) ?_ 0 _ rfl; (with_reducible repeat (first | refine blk_drewN ?_ _ | refine blk_drew ?_ | refine blk_alloc ?_ _)); exact BK185.out⟩, ⟨by repeat (first | (with_reducible first | exact HB.out | apply below_alloc | apply pw_below_drewN | apply below_drew1 | refine below_set ?_ GE185.out) | exact HB.out)⟩⟩
    case rest =>
      clear HC13
      try clear c1
      try clear c2
      try clear p2
      try clear c5
      try clear c5b0
      try clear c5b1
      try clear p6
      try clear c10
      try clear c19
      try clear c19b0
      try clear c19b1
      try clear c21
      try clear c21b0
      try clear c21b1
      try clear c22
      try clear c22b0
      try clear c22b1
      try clear c24
      try clear c24b0
      try clear c24b1
      try clear c24b2
      try clear c26
      try clear c27
      try clear c28
      try clear c28b0
      try clear c28b1
      try clear c29
      try clear c29b0
      try clear c29b1
      try clear p64
      try clear hcz16_0
      try clear hcz16_1
      try clear hcz16_2
      try clear hcz16_3
      try clear hcz16_4
      try clear hcz16_5
      try clear hcz31_0
      try clear hcz31_1
      try clear hcz31_2
      try clear hcz31_3
      try clear hcz31_4
      try clear hcz31_5
      try clear hcz34_0
      try clear hcz34_1
      try clear hcz34_2
      try clear hcz34_3
      try clear hcz34_4
      try clear hcz34_5
      try clear hcz36_0
      try clear hcz36_1
      try clear hcz36_2
      try clear hcz36_3
      try clear hcz36_4
      try clear hcz36_5
      try clear hcz38_0
      try clear hcz38_1
      try clear hcz38_2
      try clear hcz38_3
      try clear hcz38_4
      try clear hcz38_5
      try clear hcz41_0
      try clear hcz41_1
      try clear hcz41_2
      try clear hcz41_3
      try clear hcz41_4
      try clear hcz41_5
      try clear hcz43_0
      try clear hcz43_1
      try clear hcz43_2
      try clear hcz43_3
      try clear hcz43_4
      try clear hcz43_5
      try clear hcz45_0
      try clear hcz45_1
      try clear hcz45_2
      try clear hcz45_3
      try clear hcz45_4
      try clear hcz45_5
      try clear hcz48_0
      try clear hcz48_1
      try clear hcz48_2
      try clear hcz48_3
      try clear hcz48_4
      try clear hcz48_5
      try clear hcz50_0
      try clear hcz50_1
      try clear hcz50_2
      try clear hcz50_3
      try clear hcz50_4
      try clear hcz50_5
      try clear hcz52_0
      try clear hcz52_1
      try clear hcz52_2
      try clear hcz52_3
      try clear hcz52_4
      try clear hcz52_5
      try clear hcz55_0
      try clear hcz55_1
      try clear hcz55_2
      try clear hcz55_3
      try clear hcz55_4
      try clear hcz55_5
      try clear hcz57_0
      try clear hcz57_1
      try clear hcz57_2
      try clear hcz57_3
      try clear hcz57_4
      try clear hcz57_5
      try clear hcz59_0
      try clear hcz59_1
      try clear hcz59_2
      try clear hcz59_3
      try clear hcz59_4
      try clear hcz59_5
      try clear hcz62_0
      try clear hcz62_1
      try clear hcz62_2
      try clear hcz62_3
      try clear hcz62_4
      try clear hcz62_5
      try clear hcz65_0
      try clear hcz65_1
      try clear hcz65_2
      try clear hcz65_3
      try clear hcz65_4
      try clear hcz65_5
      try clear hcz9_0
      try clear hcz9_1
      try clear hcz9_2
      try clear hcz9_3
      try clear hcz9_4
      try clear hcz9_5
      try clear hfz16_0
      try clear hfz16_1
      try clear hfz16_2
      try clear hfz16_3
      try clear hfz16_4
      try clear hfz16_5
      try clear hfz31_0
      try clear hfz31_1
      try clear hfz31_2
      try clear hfz31_3
      try clear hfz31_4
      try clear hfz31_5
      try clear hfz34_0
      try clear hfz34_1
      try clear hfz34_2
      try clear hfz34_3
      try clear hfz34_4
      try clear hfz34_5
      try clear hfz36_0
      try clear hfz36_1
      try clear hfz36_2
      try clear hfz36_3
      try clear hfz36_4
      try clear hfz36_5
      try clear hfz38_0
      try clear hfz38_1
      try clear hfz38_2
      try clear hfz38_3
      try clear hfz38_4
      try clear hfz38_5
      try clear hfz41_0
      try clear hfz41_1
      try clear hfz41_2
      try clear hfz41_3
      try clear hfz41_4
      try clear hfz41_5
      try clear hfz43_0
      try clear hfz43_1
      try clear hfz43_2
      try clear hfz43_3
      try clear hfz43_4
      try clear hfz43_5
      try clear hfz45_0
      try clear hfz45_1
      try clear hfz45_2
      try clear hfz45_3
      try clear hfz45_4
      try clear hfz45_5
      try clear hfz48_0
      try clear hfz48_1
      try clear hfz48_2
      try clear hfz48_3
      try clear hfz48_4
      try clear hfz48_5
      try clear hfz50_0
      try clear hfz50_1
      try clear hfz50_2
      try clear hfz50_3
      try clear hfz50_4
      try clear hfz50_5
      try clear hfz52_0
      try clear hfz52_1
      try clear hfz52_2
      try clear hfz52_3
      try clear hfz52_4
      try clear hfz52_5
      try clear hfz55_0
      try clear hfz55_1
      try clear hfz55_2
      try clear hfz55_3
      try clear hfz55_4
      try clear hfz55_5
      try clear hfz57_0
      try clear hfz57_1
      try clear hfz57_2
      try clear hfz57_3
      try clear hfz57_4
      try clear hfz57_5
      try clear hfz59_0
      try clear hfz59_1
      try clear hfz59_2
      try clear hfz59_3
      try clear hfz59_4
      try clear hfz59_5
      try clear hfz62_0
      try clear hfz62_1
      try clear hfz62_2
      try clear hfz62_3
      try clear hfz62_4
      try clear hfz62_5
      try clear hfz65_0
      try clear hfz65_1
      try clear hfz65_2
      try clear hfz65_3
      try clear hfz65_4
      try clear hfz65_5
      try clear hfz9_0
      try clear hfz9_1
      try clear hfz9_2
      try clear hfz9_3
      try clear hfz9_4
      try clear hfz9_5
      obtain ⟨kq, x89_12, rfl, HA, HJ12, HO_186003, HO_186004, BK185, HB⟩ := hcut
      cases kq with
      | zero => exact absurd HA.out (by simp [hornbeamlaw21_SchedEnds.j0])
      | succ kj12 =>
        have H := HA.out
        clear HA
        simp only [hornbeamlaw21_SchedEnds.j0] at H
        by_cases c70 : x89_12 = true
        · subst c70
          have H1 : (some false) = some r := by rw [if_pos rfl] at H; exact H
          clear H
          have H := H1
          clear H1
          exact absurd (Option.some.inj H) (by rw [HR_.out]; decide)
        · replace c70 := Bool.eq_false_iff.mpr c70
          subst c70
          have H1 : (hornbeamlaw21_SchedEnds.l0 kj12 t180 (t180.length : Int) 0 t174 t175 t176 t177 t180 t183) = some r := by rw [if_neg (show ¬ (false = true) by decide)] at H; exact H
          clear H
          have H := H1
          clear H1
          have H' := Aside0.mk H
          clear H
          have hcz71_0 : wc.cell? ⟨gb185, 0, none⟩ = some (.int .i64 t174) := (blk_cell BK185.out 0).trans rfl
          have hcz71_1 : wc.cell? ⟨gb185, 1, none⟩ = some (.int .i64 t175) := (blk_cell BK185.out 1).trans rfl
          have hcz71_2 : wc.cell? ⟨gb185, 2, none⟩ = some (.int .i64 t176) := (blk_cell BK185.out 2).trans rfl
          have hcz71_3 : wc.cell? ⟨gb185, 3, none⟩ = some (.slice Ao17 t177.length co17) := (blk_cell BK185.out 3).trans rfl
          have hcz71_4 : wc.cell? ⟨gb185, 4, none⟩ = some (.slice Ao18 t180.length co18) := (blk_cell BK185.out 4).trans rfl
          have hcz71_5 : wc.cell? ⟨gb185, 5, none⟩ = some (.bool t183) := (blk_cell BK185.out 5).trans rfl
          have hfz71_0 := blk_frozen BK185.out 0
          have hfz71_1 := blk_frozen BK185.out 1
          have hfz71_2 := blk_frozen BK185.out 2
          have hfz71_3 := blk_frozen BK185.out 3
          have hfz71_4 := blk_frozen BK185.out 4
          have hfz71_5 := blk_frozen BK185.out 5
          go_wp2
          go_loopg [93] kj12 (fun kq v93 w' => ∃ (x93_2 : Int), v93 = .int .i64 x93_2 ∧ Aside0 (hornbeamlaw21_SchedEnds.l0 kq t180 (t180.length : Int) x93_2 t174 t175 t176 t177 t180 t183 = some r) ∧ Aside0 (kq ≤ kj12) ∧ Aside0 (Kd.R Kd.bool 4 w' w.heap.size (fun _ => True) (.slice Ao18 t180.length co18) t180) ∧ Aside0 (Kd.R (Kd.int .i64) 3 w' w.heap.size (fun _ => True) (.slice Ao17 t177.length co17) t177) ∧ Aside0 (Kd.R Kd.bool 4 w' w.heap.size (fun _ => True) (.slice Ao18 t180.length co18) t180) ∧ Aside0 (w'.heap[gb185]? = some (.cells #[.int .i64 t174, .int .i64 t175, .int .i64 t176, (.slice Ao17 t177.length co17), (.slice Ao18 t180.length co18), .bool t183] 42 (0, 0))) ∧ Aside0 (Below w.heap.size w w'))
          case atStart => exact ⟨(0), (by first | rfl | (simp; done) | (simp [*]; done)), H', ⟨Nat.le_refl _⟩, ⟨by (with_reducible repeat (first | apply Kd.R_alloc | apply Kd.R_drewN | apply Kd.R_drew)); exact HO_186004.out⟩, ⟨by (with_reducible repeat (first | apply Kd.R_alloc | apply Kd.R_drewN | apply Kd.R_drew)); exact HO_186003.out⟩, ⟨by (with_reducible repeat (first | apply Kd.R_alloc | apply Kd.R_drewN | apply Kd.R_drew)); exact HO_186004.out⟩, ⟨by (with_reducible repeat (first | refine blk_drewN ?_ _ | refine blk_drew ?_ | refine blk_alloc ?_ _)); exact BK185.out⟩, ⟨by repeat (first | (with_reducible first | exact HB.out | apply below_alloc | apply pw_below_drewN | apply below_drew1 | refine below_set ?_ GE185.out) | exact HB.out)⟩⟩
          case round =>
            clear H'
            try clear c1
            try clear c2
            try clear p2
            try clear c5
            try clear c5b0
            try clear c5b1
            try clear p6
            try clear c7
            try clear c10
            try clear c19
            try clear c19b0
            try clear c19b1
            try clear c21
            try clear c21b0
            try clear c21b1
            try clear c22
            try clear c22b0
            try clear c22b1
            try clear c24
            try clear c24b0
            try clear c24b1
            try clear c24b2
            try clear c26
            try clear c27
            try clear c28
            try clear c28b0
            try clear c28b1
            try clear c29
            try clear c29b0
            try clear c29b1
            try clear p64
            try clear c70
            try clear hcz16_0
            try clear hcz16_1
            try clear hcz16_2
            try clear hcz16_3
            try clear hcz16_4
            try clear hcz16_5
            try clear hcz31_0
            try clear hcz31_1
            try clear hcz31_2
            try clear hcz31_3
            try clear hcz31_4
            try clear hcz31_5
            try clear hcz34_0
            try clear hcz34_1
            try clear hcz34_2
            try clear hcz34_3
            try clear hcz34_4
            try clear hcz34_5
            try clear hcz36_0
            try clear hcz36_1
            try clear hcz36_2
            try clear hcz36_3
            try clear hcz36_4
            try clear hcz36_5
            try clear hcz38_0
            try clear hcz38_1
            try clear hcz38_2
            try clear hcz38_3
            try clear hcz38_4
            try clear hcz38_5
            try clear hcz41_0
            try clear hcz41_1
            try clear hcz41_2
            try clear hcz41_3
            try clear hcz41_4
            try clear hcz41_5
            try clear hcz43_0
            try clear hcz43_1
            try clear hcz43_2
            try clear hcz43_3
            try clear hcz43_4
            try clear hcz43_5
            try clear hcz45_0
            try clear hcz45_1
            try clear hcz45_2
            try clear hcz45_3
            try clear hcz45_4
            try clear hcz45_5
            try clear hcz48_0
            try clear hcz48_1
            try clear hcz48_2
            try clear hcz48_3
            try clear hcz48_4
            try clear hcz48_5
            try clear hcz50_0
            try clear hcz50_1
            try clear hcz50_2
            try clear hcz50_3
            try clear hcz50_4
            try clear hcz50_5
            try clear hcz52_0
            try clear hcz52_1
            try clear hcz52_2
            try clear hcz52_3
            try clear hcz52_4
            try clear hcz52_5
            try clear hcz55_0
            try clear hcz55_1
            try clear hcz55_2
            try clear hcz55_3
            try clear hcz55_4
            try clear hcz55_5
            try clear hcz57_0
            try clear hcz57_1
            try clear hcz57_2
            try clear hcz57_3
            try clear hcz57_4
            try clear hcz57_5
            try clear hcz59_0
            try clear hcz59_1
            try clear hcz59_2
            try clear hcz59_3
            try clear hcz59_4
            try clear hcz59_5
            try clear hcz62_0
            try clear hcz62_1
            try clear hcz62_2
            try clear hcz62_3
            try clear hcz62_4
            try clear hcz62_5
            try clear hcz65_0
            try clear hcz65_1
            try clear hcz65_2
            try clear hcz65_3
            try clear hcz65_4
            try clear hcz65_5
            try clear hcz71_0
            try clear hcz71_1
            try clear hcz71_2
            try clear hcz71_3
            try clear hcz71_4
            try clear hcz71_5
            try clear hcz9_0
            try clear hcz9_1
            try clear hcz9_2
            try clear hcz9_3
            try clear hcz9_4
            try clear hcz9_5
            try clear hfz16_0
            try clear hfz16_1
            try clear hfz16_2
            try clear hfz16_3
            try clear hfz16_4
            try clear hfz16_5
            try clear hfz31_0
            try clear hfz31_1
            try clear hfz31_2
            try clear hfz31_3
            try clear hfz31_4
            try clear hfz31_5
            try clear hfz34_0
            try clear hfz34_1
            try clear hfz34_2
            try clear hfz34_3
            try clear hfz34_4
            try clear hfz34_5
            try clear hfz36_0
            try clear hfz36_1
            try clear hfz36_2
            try clear hfz36_3
            try clear hfz36_4
            try clear hfz36_5
            try clear hfz38_0
            try clear hfz38_1
            try clear hfz38_2
            try clear hfz38_3
            try clear hfz38_4
            try clear hfz38_5
            try clear hfz41_0
            try clear hfz41_1
            try clear hfz41_2
            try clear hfz41_3
            try clear hfz41_4
            try clear hfz41_5
            try clear hfz43_0
            try clear hfz43_1
            try clear hfz43_2
            try clear hfz43_3
            try clear hfz43_4
            try clear hfz43_5
            try clear hfz45_0
            try clear hfz45_1
            try clear hfz45_2
            try clear hfz45_3
            try clear hfz45_4
            try clear hfz45_5
            try clear hfz48_0
            try clear hfz48_1
            try clear hfz48_2
            try clear hfz48_3
            try clear hfz48_4
            try clear hfz48_5
            try clear hfz50_0
            try clear hfz50_1
            try clear hfz50_2
            try clear hfz50_3
            try clear hfz50_4
            try clear hfz50_5
            try clear hfz52_0
            try clear hfz52_1
            try clear hfz52_2
            try clear hfz52_3
            try clear hfz52_4
            try clear hfz52_5
            try clear hfz55_0
            try clear hfz55_1
            try clear hfz55_2
            try clear hfz55_3
            try clear hfz55_4
            try clear hfz55_5
            try clear hfz57_0
            try clear hfz57_1
            try clear hfz57_2
            try clear hfz57_3
            try clear hfz57_4
            try clear hfz57_5
            try clear hfz59_0
            try clear hfz59_1
            try clear hfz59_2
            try clear hfz59_3
            try clear hfz59_4
            try clear hfz59_5
            try clear hfz62_0
            try clear hfz62_1
            try clear hfz62_2
            try clear hfz62_3
            try clear hfz62_4
            try clear hfz62_5
            try clear hfz65_0
            try clear hfz65_1
            try clear hfz65_2
            try clear hfz65_3
            try clear hfz65_4
            try clear hfz65_5
            try clear hfz71_0
            try clear hfz71_1
            try clear hfz71_2
            try clear hfz71_3
            try clear hfz71_4
            try clear hfz71_5
            try clear hfz9_0
            try clear hfz9_1
            try clear hfz9_2
            try clear hfz9_3
            try clear hfz9_4
            try clear hfz9_5
            try clear p2
            try clear p6
            try clear p64
            obtain ⟨x93_2, rfl, HA, HK2, HO_91, HO_186003, HO_186004, BK185, HB⟩ := hrel
            cases gk with
            | zero => exact absurd HA.out (by simp [hornbeamlaw21_SchedEnds.l0])
            | succ k2 =>
              have H := HA.out
              clear HA
              simp only [hornbeamlaw21_SchedEnds.l0] at H
              by_cases c72 : x93_2 < (t180.length : Int)
              · rw [if_pos c72] at H
                have c72b0 : decide (x93_2 < (t180.length : Int)) = true := decide_eq_true c72
                clear c72
                by_cases c73 : 0 ≤ x93_2
                · rw [if_pos c73] at H
                  have c73b0 : decide (0 ≤ x93_2) = true := decide_eq_true c73
                  clear c73
                  by_cases c74 : x93_2 < (t180.length : Int)
                  · rw [if_pos c74] at H
                    have c74b0 : decide (x93_2 < (t180.length : Int)) = true := decide_eq_true c74
                    clear c74
                    obtain ⟨bq75, hbq75⟩ : ∃ b_ : Bool, b_ = (rdOf false t180 x93_2) := ⟨_, rfl⟩
                    replace H : (if bq75 = true then (hornbeamlaw21_SchedEnds.l0 k2 t180 (t180.length : Int) (wrap64 (x93_2 + 1)) t174 t175 t176 t177 t180 t183) else (some false)) = some r := by rw [← hbq75] at H; exact H
                    have Nbq75 := Aside0.mk hbq75
                    clear hbq75
                    by_cases c76 : bq75 = true
                    · subst c76
                      have H1 : (hornbeamlaw21_SchedEnds.l0 k2 t180 (t180.length : Int) (wrap64 (x93_2 + 1)) t174 t175 t176 t177 t180 t183) = some r := by rw [if_pos rfl] at H; exact H
                      clear H
                      have H := H1
                      clear H1
                      have H' := Aside0.mk H
                      clear H
                      have p192 : 0 ≤ (x93_2 : Int) := of_decide_eq_true (by first | (with_reducible assumption) | assumption)
                      have q192 : x93_2 < (t180.length : Int) := of_decide_eq_true (by first | (with_reducible assumption) | assumption)
                      obtain ⟨ad192, e192, hx192_0⟩ := Kd.at_bool (Kd.R_reads' HO_91.out).2.2 x93_2 p192 q192
                      (try rw [← Nbq75.out] at hx192_0)
                      cases e192
                      replace p192 := eq_true p192
                      replace q192 := eq_true q192
                      go_wp2
                      go_roundg k2
                      case measure => have := HJ12.out; have := HK2.out; omega
                      case rel => exact ⟨(wrap64 (x93_2 + 1)), (by first | rfl | (simp; done) | (simp [*]; done)), H', ⟨by have := HJ12.out; have := HK2.out; omega⟩, ⟨by (with_reducible repeat (first | apply Kd.R_alloc | apply Kd.R_drewN | apply Kd.R_drew)); exact HO_91.out⟩, ⟨by (with_reducible repeat (first | apply Kd.R_alloc | apply Kd.R_drewN | apply Kd.R_drew)); exact HO_186003.out⟩, ⟨by (with_reducible repeat (first | apply Kd.R_alloc | apply Kd.R_drewN | apply Kd.R_drew)); exact HO_186004.out⟩, ⟨by (with_reducible repeat (first | refine blk_drewN ?_ _ | refine blk_drew ?_ | refine blk_alloc ?_ _)); exact BK185.out⟩, ⟨by repeat (first | (with_reducible first | exact HB.out | apply below_alloc | apply pw_below_drewN | apply below_drew1 | refine below_set ?_ GE185.out) | exact HB.out)⟩⟩
                    · replace c76 := Bool.eq_false_iff.mpr c76
                      subst c76
                      have H1 : (some false) = some r := by rw [if_neg (show ¬ (false = true) by decide)] at H; exact H
                      clear H
                      have H := H1
                      clear H1
                      exact absurd (Option.some.inj H) (by rw [HR_.out]; decide)
                  · rw [if_neg c74] at H
                    exact absurd H (by simp)
                · rw [if_neg c73] at H
                  exact absurd H (by simp)
              · rw [if_neg c72] at H
                have c72b0 : decide (x93_2 < (t180.length : Int)) = false := decide_eq_false c72
                clear c72
                have H' := Aside0.mk H
                clear H
                have hcz77_0 : wr.cell? ⟨gb185, 0, none⟩ = some (.int .i64 t174) := (blk_cell BK185.out 0).trans rfl
                have hcz77_1 : wr.cell? ⟨gb185, 1, none⟩ = some (.int .i64 t175) := (blk_cell BK185.out 1).trans rfl
                have hcz77_2 : wr.cell? ⟨gb185, 2, none⟩ = some (.int .i64 t176) := (blk_cell BK185.out 2).trans rfl
                have hcz77_3 : wr.cell? ⟨gb185, 3, none⟩ = some (.slice Ao17 t177.length co17) := (blk_cell BK185.out 3).trans rfl
                have hcz77_4 : wr.cell? ⟨gb185, 4, none⟩ = some (.slice Ao18 t180.length co18) := (blk_cell BK185.out 4).trans rfl
                have hcz77_5 : wr.cell? ⟨gb185, 5, none⟩ = some (.bool t183) := (blk_cell BK185.out 5).trans rfl
                have hfz77_0 := blk_frozen BK185.out 0
                have hfz77_1 := blk_frozen BK185.out 1
                have hfz77_2 := blk_frozen BK185.out 2
                have hfz77_3 := blk_frozen BK185.out 3
                have hfz77_4 := blk_frozen BK185.out 4
                have hfz77_5 := blk_frozen BK185.out 5
                go_wp2
                go_loopg [103] k2 (fun kq v103 w' => ∃ (x103_3 : Int), v103 = .int .i64 x103_3 ∧ Aside0 (hornbeamlaw21_SchedEnds.l1 kq t177 (t177.length : Int) x103_3 = some r) ∧ Aside0 (kq ≤ k2) ∧ Aside0 (Kd.R (Kd.int .i64) 3 w' w.heap.size (fun _ => True) (.slice Ao17 t177.length co17) t177) ∧ Aside0 (Kd.R (Kd.int .i64) 3 w' w.heap.size (fun _ => True) (.slice Ao17 t177.length co17) t177) ∧ Aside0 (Kd.R Kd.bool 4 w' w.heap.size (fun _ => True) (.slice Ao18 t180.length co18) t180) ∧ Aside0 (w'.heap[gb185]? = some (.cells #[.int .i64 t174, .int .i64 t175, .int .i64 t176, (.slice Ao17 t177.length co17), (.slice Ao18 t180.length co18), .bool t183] 42 (0, 0))) ∧ Aside0 (Below w.heap.size w w'))
                case atStart => exact ⟨(0), (by first | rfl | (simp; done) | (simp [*]; done)), H', ⟨Nat.le_refl _⟩, ⟨by (with_reducible repeat (first | apply Kd.R_alloc | apply Kd.R_drewN | apply Kd.R_drew)); exact HO_186003.out⟩, ⟨by (with_reducible repeat (first | apply Kd.R_alloc | apply Kd.R_drewN | apply Kd.R_drew)); exact HO_186003.out⟩, ⟨by (with_reducible repeat (first | apply Kd.R_alloc | apply Kd.R_drewN | apply Kd.R_drew)); exact HO_186004.out⟩, ⟨by (with_reducible repeat (first | refine blk_drewN ?_ _ | refine blk_drew ?_ | refine blk_alloc ?_ _)); exact BK185.out⟩, ⟨by repeat (first | (with_reducible first | exact HB.out | apply below_alloc | apply pw_below_drewN | apply below_drew1 | refine below_set ?_ GE185.out) | exact HB.out)⟩⟩
                case round =>
                  clear H'
                  try clear c1
                  try clear p1
                  try clear q1
                  try clear hx1
                  try clear c2
                  try clear p2
                  try clear c5
                  try clear c5b0
                  try clear c5b1
                  try clear p6
                  try clear c7
                  try clear q7
                  try clear c10
                  try clear c19
                  try clear c19b0
                  try clear c19b1
                  try clear p19
                  try clear q19
                  try clear hx19
                  try clear c21
                  try clear c21b0
                  try clear c21b1
                  try clear c22
                  try clear c22b0
                  try clear c22b1
                  try clear c24
                  try clear c24b0
                  try clear c24b1
                  try clear c24b2
                  try clear c26
                  try clear c27
                  try clear c28
                  try clear c28b0
                  try clear c28b1
                  try clear c29
                  try clear c29b0
                  try clear c29b1
                  try clear p64
                  try clear c70
                  try clear c72
                  try clear c72b0
                  try clear c73
                  try clear c73b0
                  try clear c74
                  try clear c74b0
                  try clear q75
                  try clear c76
                  try clear hcz16_0
                  try clear hcz16_1
                  try clear hcz16_2
                  try clear hcz16_3
                  try clear hcz16_4
                  try clear hcz16_5
                  try clear hcz31_0
                  try clear hcz31_1
                  try clear hcz31_2
                  try clear hcz31_3
                  try clear hcz31_4
                  try clear hcz31_5
                  try clear hcz34_0
                  try clear hcz34_1
                  try clear hcz34_2
                  try clear hcz34_3
                  try clear hcz34_4
                  try clear hcz34_5
                  try clear hcz36_0
                  try clear hcz36_1
                  try clear hcz36_2
                  try clear hcz36_3
                  try clear hcz36_4
                  try clear hcz36_5
                  try clear hcz38_0
                  try clear hcz38_1
                  try clear hcz38_2
                  try clear hcz38_3
                  try clear hcz38_4
                  try clear hcz38_5
                  try clear hcz41_0
                  try clear hcz41_1
                  try clear hcz41_2
                  try clear hcz41_3
                  try clear hcz41_4
                  try clear hcz41_5
                  try clear hcz43_0
                  try clear hcz43_1
                  try clear hcz43_2
                  try clear hcz43_3
                  try clear hcz43_4
                  try clear hcz43_5
                  try clear hcz45_0
                  try clear hcz45_1
                  try clear hcz45_2
                  try clear hcz45_3
                  try clear hcz45_4
                  try clear hcz45_5
                  try clear hcz48_0
                  try clear hcz48_1
                  try clear hcz48_2
                  try clear hcz48_3
                  try clear hcz48_4
                  try clear hcz48_5
                  try clear hcz50_0
                  try clear hcz50_1
                  try clear hcz50_2
                  try clear hcz50_3
                  try clear hcz50_4
                  try clear hcz50_5
                  try clear hcz52_0
                  try clear hcz52_1
                  try clear hcz52_2
                  try clear hcz52_3
                  try clear hcz52_4
                  try clear hcz52_5
                  try clear hcz55_0
                  try clear hcz55_1
                  try clear hcz55_2
                  try clear hcz55_3
                  try clear hcz55_4
                  try clear hcz55_5
                  try clear hcz57_0
                  try clear hcz57_1
                  try clear hcz57_2
                  try clear hcz57_3
                  try clear hcz57_4
                  try clear hcz57_5
                  try clear hcz59_0
                  try clear hcz59_1
                  try clear hcz59_2
                  try clear hcz59_3
                  try clear hcz59_4
                  try clear hcz59_5
                  try clear hcz62_0
                  try clear hcz62_1
                  try clear hcz62_2
                  try clear hcz62_3
                  try clear hcz62_4
                  try clear hcz62_5
                  try clear hcz65_0
                  try clear hcz65_1
                  try clear hcz65_2
                  try clear hcz65_3
                  try clear hcz65_4
                  try clear hcz65_5
                  try clear hcz71_0
                  try clear hcz71_1
                  try clear hcz71_2
                  try clear hcz71_3
                  try clear hcz71_4
                  try clear hcz71_5
                  try clear hcz77_0
                  try clear hcz77_1
                  try clear hcz77_2
                  try clear hcz77_3
                  try clear hcz77_4
                  try clear hcz77_5
                  try clear hcz9_0
                  try clear hcz9_1
                  try clear hcz9_2
                  try clear hcz9_3
                  try clear hcz9_4
                  try clear hcz9_5
                  try clear hfz16_0
                  try clear hfz16_1
                  try clear hfz16_2
                  try clear hfz16_3
                  try clear hfz16_4
                  try clear hfz16_5
                  try clear hfz31_0
                  try clear hfz31_1
                  try clear hfz31_2
                  try clear hfz31_3
                  try clear hfz31_4
                  try clear hfz31_5
                  try clear hfz34_0
                  try clear hfz34_1
                  try clear hfz34_2
                  try clear hfz34_3
                  try clear hfz34_4
                  try clear hfz34_5
                  try clear hfz36_0
                  try clear hfz36_1
                  try clear hfz36_2
                  try clear hfz36_3
                  try clear hfz36_4
                  try clear hfz36_5
                  try clear hfz38_0
                  try clear hfz38_1
                  try clear hfz38_2
                  try clear hfz38_3
                  try clear hfz38_4
                  try clear hfz38_5
                  try clear hfz41_0
                  try clear hfz41_1
                  try clear hfz41_2
                  try clear hfz41_3
                  try clear hfz41_4
                  try clear hfz41_5
                  try clear hfz43_0
                  try clear hfz43_1
                  try clear hfz43_2
                  try clear hfz43_3
                  try clear hfz43_4
                  try clear hfz43_5
                  try clear hfz45_0
                  try clear hfz45_1
                  try clear hfz45_2
                  try clear hfz45_3
                  try clear hfz45_4
                  try clear hfz45_5
                  try clear hfz48_0
                  try clear hfz48_1
                  try clear hfz48_2
                  try clear hfz48_3
                  try clear hfz48_4
                  try clear hfz48_5
                  try clear hfz50_0
                  try clear hfz50_1
                  try clear hfz50_2
                  try clear hfz50_3
                  try clear hfz50_4
                  try clear hfz50_5
                  try clear hfz52_0
                  try clear hfz52_1
                  try clear hfz52_2
                  try clear hfz52_3
                  try clear hfz52_4
                  try clear hfz52_5
                  try clear hfz55_0
                  try clear hfz55_1
                  try clear hfz55_2
                  try clear hfz55_3
                  try clear hfz55_4
                  try clear hfz55_5
                  try clear hfz57_0
                  try clear hfz57_1
                  try clear hfz57_2
                  try clear hfz57_3
                  try clear hfz57_4
                  try clear hfz57_5
                  try clear hfz59_0
                  try clear hfz59_1
                  try clear hfz59_2
                  try clear hfz59_3
                  try clear hfz59_4
                  try clear hfz59_5
                  try clear hfz62_0
                  try clear hfz62_1
                  try clear hfz62_2
                  try clear hfz62_3
                  try clear hfz62_4
                  try clear hfz62_5
                  try clear hfz65_0
                  try clear hfz65_1
                  try clear hfz65_2
                  try clear hfz65_3
                  try clear hfz65_4
                  try clear hfz65_5
                  try clear hfz71_0
                  try clear hfz71_1
                  try clear hfz71_2
                  try clear hfz71_3
                  try clear hfz71_4
                  try clear hfz71_5
                  try clear hfz77_0
                  try clear hfz77_1
                  try clear hfz77_2
                  try clear hfz77_3
                  try clear hfz77_4
                  try clear hfz77_5
                  try clear hfz9_0
                  try clear hfz9_1
                  try clear hfz9_2
                  try clear hfz9_3
                  try clear hfz9_4
                  try clear hfz9_5
                  try clear hx192_0
                  try clear p192
                  try clear p2
                  try clear p6
                  try clear p64
                  try clear q192
                  obtain ⟨x103_3, rfl, HA, HK3, HO_101, HO_186003, HO_186004, BK185, HB⟩ := hrel
                  cases gk with
                  | zero => exact absurd HA.out (by simp [hornbeamlaw21_SchedEnds.l1])
                  | succ k3 =>
                    have H := HA.out
                    clear HA
                    simp only [hornbeamlaw21_SchedEnds.l1] at H
                    by_cases c78 : x103_3 < (t177.length : Int)
                    · rw [if_pos c78] at H
                      have c78b0 : decide (x103_3 < (t177.length : Int)) = true := decide_eq_true c78
                      clear c78
                      by_cases c79 : 0 ≤ x103_3
                      · rw [if_pos c79] at H
                        have c79b0 : decide (0 ≤ x103_3) = true := decide_eq_true c79
                        clear c79
                        by_cases c80 : x103_3 < (t177.length : Int)
                        · rw [if_pos c80] at H
                          have c80b0 : decide (x103_3 < (t177.length : Int)) = true := decide_eq_true c80
                          clear c80
                          by_cases c81 : (rd t177 x103_3) = (-2)
                          · rw [if_pos c81] at H
                            have c81b0 : ((rd t177 x103_3) == (-2)) = true := beq_iff_eq.mpr c81
                            have c81b1 : ((rd t177 x103_3) != (-2)) = false := bne_eq_false_iff_eq.mpr c81
                            clear c81
                            have H' := Aside0.mk H
                            clear H
                            have p193 : 0 ≤ (x103_3 : Int) := of_decide_eq_true (by first | (with_reducible assumption) | assumption)
                            have q193 : x103_3 < (t177.length : Int) := of_decide_eq_true (by first | (with_reducible assumption) | assumption)
                            obtain ⟨ad193, e193, hx193_0⟩ := Kd.at_int (Kd.R_reads' HO_101.out).2.2 x103_3 p193 q193
                            cases e193
                            replace p193 := eq_true p193
                            replace q193 := eq_true q193
                            go_wp2
                            go_roundg k3
                            case measure => have := HJ12.out; have := HK2.out; have := HK3.out; omega
                            case rel => exact ⟨(wrap64 (x103_3 + 1)), (by first | rfl | (simp; done) | (simp [*]; done)), H', ⟨by have := HJ12.out; have := HK2.out; have := HK3.out; omega⟩, ⟨by (with_reducible repeat (first | apply Kd.R_alloc | apply Kd.R_drewN | apply Kd.R_drew)); exact HO_101.out⟩, ⟨by (with_reducible repeat (first | apply Kd.R_alloc | apply Kd.R_drewN | apply Kd.R_drew)); exact HO_186003.out⟩, ⟨by (with_reducible repeat (first | apply Kd.R_alloc | apply Kd.R_drewN | apply Kd.R_drew)); exact HO_186004.out⟩, ⟨by (with_reducible repeat (first | refine blk_drewN ?_ _ | refine blk_drew ?_ | refine blk_alloc ?_ _)); exact BK185.out⟩, ⟨by repeat (first | (with_reducible first | exact HB.out | apply below_alloc | apply pw_below_drewN | apply below_drew1 | refine below_set ?_ GE185.out) | exact HB.out)⟩⟩
                          · rw [if_neg c81] at H
                            have c81b0 : ((rd t177 x103_3) == (-2)) = false := beq_eq_false_iff_ne.mpr c81
                            have c81b1 : ((rd t177 x103_3) != (-2)) = true := bne_iff_ne.mpr c81
                            exact absurd (Option.some.inj H) (by rw [HR_.out]; decide)
                        · rw [if_neg c80] at H
                          exact absurd H (by simp)
                      · rw [if_neg c79] at H
                        exact absurd H (by simp)
                    · rw [if_neg c78] at H
                      have c78b0 : decide (x103_3 < (t177.length : Int)) = false := decide_eq_false c78
                      clear c78
                      replace H := Option.bind_eq_some_iff.mp H
                      obtain ⟨t194, A820, H⟩ := H
                      replace H : (some t194) = some r := H
                      have A82 := Aside0.mk A820
                      clear A820
                      obtain rfl := Option.some.inj H
                      go_wp2_with (first | ((with_reducible refine gate_callee (f := 21) rfl ?_); refine goesL_ (some 110) rfl rfl Try.func21 (by kernel_rfl) rfl #[] rfl (by (try simp only [List.map_toArray, List.map_cons, List.map_nil]); first | done | rfl | (simp only [List.length_drop, List.length_take]; rfl)) ?_; (with_reducible refine (hornbeamlaw21_fixed.calls k3  t194 _ A82.out).mono ?_); rintro e w83 ⟨rfl, hb⟩; refine ⟨_, rfl, ?_⟩; have n0_ := Aside0.mk (Kd.R_below (by (with_reducible repeat (first | apply Kd.R_alloc | apply Kd.R_drewN | apply Kd.R_drew)); exact HO_101.out) hb); have n1_ := Aside0.mk (Kd.R_below (by (with_reducible repeat (first | apply Kd.R_alloc | apply Kd.R_drewN | apply Kd.R_drew)); exact HO_186003.out) hb); have n2_ := Aside0.mk (Kd.R_below (by (with_reducible repeat (first | apply Kd.R_alloc | apply Kd.R_drewN | apply Kd.R_drew)); exact HO_186004.out) hb); have n3_ := Aside0.mk (blk_below (g := gb185) (o := .cells #[.int .i64 t174, .int .i64 t175, .int .i64 t176, .slice Ao17 t177.length co17, .slice Ao18 t180.length co18, .bool t183] 42 (0, 0)) (by (with_reducible repeat (first | refine blk_drewN ?_ _ | refine blk_drew ?_ | refine blk_alloc ?_ _)); exact BK185.out) hb); have n4_ := Aside0.mk (below_step (by repeat (first | (with_reducible first | exact HB.out | apply below_alloc | apply pw_below_drewN | apply below_drew1 | refine below_set ?_ GE185.out) | exact HB.out)) hb); clear HO_101; clear HO_186003; clear HO_186004; clear BK185; clear HB; have HO_101 := n0_; have HO_186003 := n1_; have HO_186004 := n2_; have BK185 := n3_; have HB := n4_; clear n0_ n1_ n2_ n3_ n4_; (try clear hb); (try clear hb2); (try clear hk); (try clear hi)))
                      all_goals (go_ret; exact ⟨by first | rfl | (simp [errW_none, errW_some] <;> rfl) | (simp [*, errW_none, errW_some] <;> rfl) | (simp_all; done), by repeat (first | (with_reducible first | exact HB.out | apply below_alloc | apply pw_below_drewN | apply below_drew1 | refine below_set ?_ GE185.out) | exact HB.out)⟩)

/-- THE ONE PURE STATEMENT of hornbeamlaw21_SchedEnds: yours. -/
def hornbeamlaw21_SchedEnds.Pure : Prop := ∀ (a0 : Int) (a1 : Int) (l2 : List Int), (Lit.int .u8 a0).wf = true → (Lit.int .u8 a1).wf = true → l2.length ≤ maxLen → l2.length * 8 ≤ 140737488351232 → (∀ x ∈ l2, (Lit.int .i64 x).wf = true) → ∃ k, hornbeamlaw21_SchedEnds.f k a0 a1 l2 = some true
theorem hornbeamlaw21_SchedEnds.walk (P : hornbeamlaw21_SchedEnds.Pure) (a0 : Int) (a1 : Int) (a2 : Option Addr) (len2 cap2 : Nat) (z2 : List Int) (w : World) (w0 : (Lit.int .u8 a0).wf = true) (w1 : (Lit.int .u8 a1).wf = true) (w2 : (a2 = none ∧ len2 = 0 ∧ cap2 = 0 ∧ z2 = []) ∨ ∃ x, a2 = some x ∧ len2 ≤ cap2 ∧ cap2 ≤ maxLen ∧ z2.length = cap2 ∧ (∀ i, i < z2.length → w.cell? (x.add i) = some (.int .i64 (z2.getD i 0))) ∧ ∀ n ∈ z2, (Lit.int .i64 n).wf = true) (y2 : len2 * 8 ≤ 140737488351232) :
    Calls Try.prog 10 #[.int .u8 a0, .int .u8 a1, .slice a2 len2 cap2] w fun e w' => e = .returned (.bool true) ∧ Below w.heap.size w w' := by
  obtain ⟨l2, rfl, hr2, hm2, hw2, hc2⟩ := ReadsInt.ofRowC w2
  obtain ⟨k, h⟩ := P a0 a1 l2 w0 w1 hm2 y2 hw2
  refine (hornbeamlaw21_SchedEnds.calls k a0 a1 _ _ l2 true w (Kd.C_of_reads (d := (0 : Int)) (h1 := fun _ => rfl) hr2) hc2 h rfl).mono ?_
  rintro e w' ⟨rfl, hd⟩
  exact ⟨rfl, hd⟩

end Go.Proofs.Ytoonddgldmfleaa.QSchedEnds
