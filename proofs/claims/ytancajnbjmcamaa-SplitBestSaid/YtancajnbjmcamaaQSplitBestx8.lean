-- Written by a program of this session (wip/tools/mkprint.py over the kit's print); Lean checks it.
import Derived.Test.YtancajnbjmcamaaQSplitBestx0
import Derived.Test.YtancajnbjmcamaaQSplitBestx7
namespace Go.Proofs.Ytancajnbjmcamaa.QSplitBest
open Go.RowKit Go.Proofs.YtancajnbjmcamaaW.PrintWords Go.Proofs.YtancajnbjmcamaaW.PrintLast Go.Proofs.YtancajnbjmcamaaW.PrintMore
attribute [local go_sem] max2_int min2_int max_two min_two max_three min_three max_four min_four   -- for this text's walks alone
set_option linter.unusedVariables false
set_option linter.unusedSimpArgs false

/-! ### hornbeamref04_whole: function 56 -/
mutual
def hornbeamref04_whole.l0 : Nat → Bool → List Int → Int → Option (Int × Int)
 | 0, _, _, _ => none
 | k + 1, x0, x1, x6 => if x6 < (x1.length : Int) then (if 0 ≤ x6 then (if (rd x1 x6) > 0 then (some (0, 6)) else (hornbeamref04_whole.l0 k x0 x1 (wrap64 (x6 + 1)))) else (none)) else (if 4 ≤ (x1.length : Int) then ((hornbeamref04_number.f (x1.take 4)).bind fun t355 => (if t355 = 0 then (some (0, 0)) else (if x0 = true then (hornbeamref04_whole.j1 k x0 t355 false) else (hornbeamref04_whole.j1 k x0 t355 (decide (t355 ≤ 9223372036854775807)))))) else (none))
def hornbeamref04_whole.j1 : Nat → Bool → Int → Bool → Option (Int × Int)
 | 0, _, _, _ => none
 | k + 1, x0, x7, x29 => if x29 = true then (some (wrap64 (x7), 0)) else (if x0 = true then (if x7 ≤ 9223372036854775808 then (some (wrap64 ((wrap64 (-(wrap64 (IntKind.u64.wrap (x7 - 1))))) - 1), 0)) else (some (0, 6))) else (some (0, 6)))
end
def hornbeamref04_whole.f (k : Nat) (a0 : Bool) (l1 : List Int) : Option (Int × Int) := hornbeamref04_whole.l0 k a0 l1 4
theorem hornbeamref04_whole.mono_l : ∀ k, (∀ y0 y1 y2, LeO (hornbeamref04_whole.l0 k y0 y1 y2) (hornbeamref04_whole.l0 (k + 1) y0 y1 y2)) ∧ (∀ y0 y1 y2, LeO (hornbeamref04_whole.j1 k y0 y1 y2) (hornbeamref04_whole.j1 (k + 1) y0 y1 y2))
 | 0 => ⟨fun _ _ _ r h => by simp [hornbeamref04_whole.l0] at h, fun _ _ _ r h => by simp [hornbeamref04_whole.j1] at h⟩
 | k + 1 => by
  obtain ⟨ih0, ih1⟩ := hornbeamref04_whole.mono_l k
  refine ⟨?_, ?_⟩
  all_goals (intros; first | unfold hornbeamref04_whole.l0 | unfold hornbeamref04_whole.j1)
  all_goals with_reducible repeat' first | apply ih0 | apply ih1 | apply LeO.refl | apply LeO.none | refine LeO.ite ?_ ?_ | refine LeO.bind ?_ (fun _ => ?_)
theorem hornbeamref04_whole.mono : ∀ a0 a1 k, LeO (hornbeamref04_whole.f k a0 a1) (hornbeamref04_whole.f (k + 1) a0 a1) := by
 intro a0 a1 k
 obtain ⟨ih0, ih1⟩ := hornbeamref04_whole.mono_l k
 unfold hornbeamref04_whole.f
 with_reducible repeat' first | apply ih0 | apply ih1 | apply LeO.refl | apply LeO.none | refine LeO.ite ?_ ?_ | refine LeO.bind ?_ (fun _ => ?_)
set_option maxHeartbeats 8000000 in
set_option maxRecDepth 100000 in
theorem hornbeamref04_whole.calls (k : Nat) (a0 : Bool) (A1 : Option Addr) (c1 : Nat) (l1 : List Int) (r1 : Int) (r2 : Int) (w : World) (aq : Kd.C (Kd.int .u64) w A1 l1.length l1) (ar : l1.length ≤ c1) (h : hornbeamref04_whole.f k a0 l1 = some (r1, r2)) :
  Calls Try.prog 56 #[.bool a0, .slice A1 l1.length c1] w fun e w' => e = .returned (.tuple #[.int .i64 r1, .int .i64 r2]) ∧ Drawn0 w w' := by
 have ah := aaM aq
 have au := aaM ar
 clear aq ar
 have H : (hornbeamref04_whole.l0 k a0 l1 4) = some (r1, r2) := h
 clear h
 have H' := aaM H
 clear H
 go_enter Try.func56, Try.ntmps56
 go_wp2
 go_loopg [6] k (fun kq v6 w' => ∃ (ab : Int), v6 = .int .i64 ab ∧ Aside0 (hornbeamref04_whole.l0 kq a0 l1 ab = some (r1, r2)) ∧ Aside0 (kq ≤ k) ∧ Drawn0 w w')
 case atStart => exact ⟨(4), (eF), H', ⟨Nat.le_refl _⟩, by repeat (first | exact Drawn0.refl _ | apply Drawn0.step)⟩
 case round =>
  clear H'; (try clear c1); obtain ⟨ab, rfl, HA, ai, ⟨m1, rfl⟩⟩ := hrel
  cases gk with
  | zero => exact absurd HA.out (by simp [hornbeamref04_whole.l0])
  | succ k1 =>
   have H := HA.out; clear HA; simp only [hornbeamref04_whole.l0] at H
   by_cases c3 : ab < (l1.length : Int)
   ·rw [if_pos c3] at H
    have c3b0 : decide (ab < (l1.length : Int)) = true := decide_eq_true c3; clear c3
    by_cases c4 : 0 ≤ ab
    ·rw [if_pos c4] at H
     have c4b0 : decide (0 ≤ ab) = true := decide_eq_true c4; clear c4
     by_cases c5 : (rd l1 ab) > 0
     ·rw [if_pos c5] at H
      have c5b0 : decide (0 < (rd l1 ab)) = true := decide_eq_true c5; clear c5; simp only [Option.some.injEq, Prod.mk.injEq] at H; obtain ⟨rfl, rfl⟩ := H; have ac : 0 ≤ (ab : Int) := of_decide_eq_true (by first | (with_reducible assumption) | assumption); have ae : ab < (l1.length : Int) := of_decide_eq_true (by first | (with_reducible assumption) | assumption); obtain ⟨a6, am, av⟩ := Kd.at_int ah.out ab ac ae
      cases am
      replace ac := eq_true ac; replace ae := eq_true ae; go_wp2
      all_goals (go_ret2; exact ⟨eF, by repeat (first | exact Drawn0.refl _ | apply Drawn0.step)⟩)
     ·rw [if_neg c5] at H
      have c5b0 : decide (0 < (rd l1 ab)) = false := decide_eq_false c5; clear c5; have H' := aaM H; clear H; have ac : 0 ≤ (ab : Int) := of_decide_eq_true (by first | (with_reducible assumption) | assumption); have ae : ab < (l1.length : Int) := of_decide_eq_true (by first | (with_reducible assumption) | assumption); obtain ⟨a6, am, av⟩ := Kd.at_int ah.out ab ac ae
      cases am
      replace ac := eq_true ac; replace ae := eq_true ae; go_wp2
      go_roundg k1
      case measure => have := ai.out; omega
      case rel => exact ⟨(wrap64 (ab + 1)), (eF), H', ⟨by have := ai.out; omega⟩, by repeat (first | exact Drawn0.refl _ | apply Drawn0.step)⟩
    ·rw [if_neg c4] at H
     exact absurd H (by simp)
   ·rw [if_neg c3] at H
    have c3b0 : decide (ab < (l1.length : Int)) = false := decide_eq_false c3; clear c3
    by_cases c6 : 4 ≤ (l1.length : Int)
    ·rw [if_pos c6] at H
     have c6b0 := eq_true c6; have c6b1 : decide (4 ≤ (l1.length : Int)) = true := decide_eq_true c6; clear c6; replace H := ooB.mp H; obtain ⟨aa, aw, H⟩ := H; (try dsimp only at H); have A7 := aaM aw; clear aw
     by_cases c8 : aa = 0
     ·rw [if_pos c8] at H
      have c8b0 : (aa == 0) = true := beq_iff_eq.mpr c8; have c8b1 : (aa != 0) = false := bne_eq_false_iff_eq.mpr c8; clear c8; simp only [Option.some.injEq, Prod.mk.injEq] at H; obtain ⟨rfl, rfl⟩ := H; obtain ⟨i09, ax, _, ay, _⟩ := info_parts info28; obtain ⟨a8, az, a1⟩ := print_take_of (P := Try.prog) (Value.int .u64) 0 74 28 .i64 Try.underlying74 ax ay A1 c1 l1 4 (by omega) (of_decide_eq_true (by first | (with_reducible assumption) | assumption)) au.out; have an := aaM (Kd.C_of_reads (h1 := fun _ => rfl) (az _ (Kd.reads_of_C ah.out))); have ao := aaM a1; clear az a1 ax ay
      go_wp2_with (first | ((with_reducible refine gate_callee (f := 58) rfl ?_); refine goesL_ (some 21) rfl rfl Try.func58 (by kernel_rfl) rfl #[.slice A1 (l1.take 4).length c1] rfl (by (try simp only [mmT, mmC, mmN]); first | done | (rw [show (l1.take 4).length = 4 from (by rw [ddT]; have h_ : (4 : Int) ≤ (l1.length : Int) := of_decide_eq_true (by first | (with_reducible assumption) | assumption); omega)] <;> rfl) | rfl | (simp only [ddD, ddT]; rfl)) ?_; (with_reducible refine (hornbeamref04_number.calls _ _ (l1.take 4) aa _ ?side1 ?side2 A7.out).mono ?_); (case side1 => exact cZ (an.out)); (case side2 => exact ao.out); rintro e w' ⟨rfl, ⟨nd, rfl⟩⟩; refine ⟨_, rfl, ?_⟩))
      all_goals (go_ret2; exact ⟨eF, by repeat (first | exact Drawn0.refl _ | apply Drawn0.step)⟩)
     ·rw [if_neg c8] at H
      have c8b0 : (aa == 0) = false := beq_eq_false_iff_ne.mpr c8; have c8b1 : (aa != 0) = true := bne_iff_ne.mpr c8; have ap := aaM H; clear H; obtain ⟨i011, a2, _, a3, _⟩ := info_parts info28; obtain ⟨a9, a4, a5⟩ := print_take_of (P := Try.prog) (Value.int .u64) 0 74 28 .i64 Try.underlying74 a2 a3 A1 c1 l1 4 (by omega) (of_decide_eq_true (by first | (with_reducible assumption) | assumption)) au.out; have an := aaM (Kd.C_of_reads (h1 := fun _ => rfl) (a4 _ (Kd.reads_of_C ah.out))); have ao := aaM a5; clear a4 a5 a2 a3
      go_upto_region 9 with (first | ((with_reducible refine gate_callee (f := 58) rfl ?_); refine goesL_ (some 21) rfl rfl Try.func58 (by kernel_rfl) rfl #[.slice A1 (l1.take 4).length c1] rfl (by (try simp only [mmT, mmC, mmN]); first | done | (rw [show (l1.take 4).length = 4 from (by rw [ddT]; have h_ : (4 : Int) ≤ (l1.length : Int) := of_decide_eq_true (by first | (with_reducible assumption) | assumption); omega)] <;> rfl) | rfl | (simp only [ddD, ddT]; rfl)) ?_; (with_reducible refine (hornbeamref04_number.calls _ _ (l1.take 4) aa _ ?side1 ?side2 A7.out).mono ?_); (case side1 => exact cZ (an.out)); (case side2 => exact ao.out); rintro e w' ⟨rfl, ⟨nd, rfl⟩⟩; refine ⟨_, rfl, ?_⟩))
      (try simp only [Act.put, ssB, ssZ, ssS])
      go_cut [29] (fun a7 wc => ∃ (kq : Nat) (aj : Bool), a7 = .bool aj ∧ Aside0 (hornbeamref04_whole.j1 kq a0 aa aj = some (r1, r2)) ∧ Aside0 (kq ≤ k1) ∧ Drawn0 w wc)
      case first =>
       have H := ap.out; clear ap
       by_cases ag : a0 = true
       ·subst ag
        have H1 : (hornbeamref04_whole.j1 k1 true aa false) = some (r1, r2) := by rw [if_pos rfl] at H; exact H
        clear H; have H := H1; clear H1; have H' := aaM H; clear H; go_wp2
        go_meet
        case rel => exact ⟨_, (false), (eF), H', ⟨by have := ai.out; first | omega | exact Nat.le_refl _⟩, by repeat (first | exact Drawn0.refl _ | apply Drawn0.step)⟩
       ·replace ag := Bool.eq_false_iff.mpr ag
        subst ag
        have H1 : (hornbeamref04_whole.j1 k1 false aa (decide (aa ≤ 9223372036854775807))) = some (r1, r2) := by rw [if_neg (show ¬ (false = true) by decide)] at H; exact H
        clear H; have H := H1; clear H1; have H' := aaM H; clear H; go_wp2
        go_meet
        case rel => exact ⟨_, (decide (aa ≤ 9223372036854775807)), (eF), H', ⟨by have := ai.out; first | omega | exact Nat.le_refl _⟩, by repeat (first | exact Drawn0.refl _ | apply Drawn0.step)⟩
      case rest =>
       clear ap; (try clear c1); (try clear c3); (try clear c3b0); (try clear c6); (try clear c6b0); (try clear c6b1); (try clear c8); (try clear c8b0); (try clear c8b1); obtain ⟨kq, aj, rfl, HA, bb, ⟨bc, rfl⟩⟩ := hcut
       cases kq with
       | zero => exact absurd HA.out (by simp [hornbeamref04_whole.j1])
       | succ bd =>
        have H := HA.out; clear HA; simp only [hornbeamref04_whole.j1] at H
        by_cases ak : aj = true
        ·subst ak
         have H1 : (some (wrap64 (aa), 0)) = some (r1, r2) := by rw [if_pos rfl] at H; exact H
         clear H; have H := H1; clear H1; simp only [Option.some.injEq, Prod.mk.injEq] at H; obtain ⟨rfl, rfl⟩ := H; go_wp2
         all_goals (go_ret2; exact ⟨eF, by repeat (first | exact Drawn0.refl _ | apply Drawn0.step)⟩)
        ·replace ak := Bool.eq_false_iff.mpr ak
         subst ak
         have H1 : (if a0 = true then (if aa ≤ 9223372036854775808 then (some (wrap64 ((wrap64 (-(wrap64 (IntKind.u64.wrap (aa - 1))))) - 1), 0)) else (some (0, 6))) else (some (0, 6))) = some (r1, r2) := by rw [if_neg (show ¬ (false = true) by decide)] at H; exact H
         clear H; have H := H1; clear H1
         by_cases al : a0 = true
         ·subst al
          have H1 : (if aa ≤ 9223372036854775808 then (some (wrap64 ((wrap64 (-(wrap64 (IntKind.u64.wrap (aa - 1))))) - 1), 0)) else (some (0, 6))) = some (r1, r2) := by rw [if_pos rfl] at H; exact H
          clear H; have H := H1; clear H1
          by_cases af : aa ≤ 9223372036854775808
          ·rw [if_pos af] at H
           have c15b0 : decide (aa ≤ 9223372036854775808) = true := decide_eq_true af; clear af; simp only [Option.some.injEq, Prod.mk.injEq] at H; obtain ⟨rfl, rfl⟩ := H; go_wp2
           all_goals (go_ret2; exact ⟨eF, by repeat (first | exact Drawn0.refl _ | apply Drawn0.step)⟩)
          ·rw [if_neg af] at H
           have c15b0 : decide (aa ≤ 9223372036854775808) = false := decide_eq_false af; clear af; simp only [Option.some.injEq, Prod.mk.injEq] at H; obtain ⟨rfl, rfl⟩ := H; go_wp2
           all_goals (go_ret2; exact ⟨eF, by repeat (first | exact Drawn0.refl _ | apply Drawn0.step)⟩)
         ·replace al := Bool.eq_false_iff.mpr al
          subst al
          have H1 : (some (0, 6)) = some (r1, r2) := by rw [if_neg (show ¬ (false = true) by decide)] at H; exact H
          clear H; have H := H1; clear H1; simp only [Option.some.injEq, Prod.mk.injEq] at H; obtain ⟨rfl, rfl⟩ := H; go_wp2
          all_goals (go_ret2; exact ⟨eF, by repeat (first | exact Drawn0.refl _ | apply Drawn0.step)⟩)
    ·rw [if_neg c6] at H
     exact absurd H (by simp)

/-! ### hornbeamref04_Sum: function 57 -/
def hornbeamref04_Sum.l0 : Nat → List Int → List Int → List Int → Int → Int → Option (List Int)
 | 0, _, _, _, _, _ => none
 | k + 1, x0, x1, x5, x6, x7 => if x7 < (x0.length : Int) then (if 0 ≤ x7 then (if x7 < (x1.length : Int) then (if x5.length < 17592186044416 then (hornbeamref04_Sum.l0 k x0 x1 (x5 ++ [Int.tmod (IntKind.u64.wrap ((IntKind.u64.wrap ((rd x0 x7) + (rd x1 x7))) + x6)) 65536]) (IntKind.u64.wrap (Int.tdiv (IntKind.u64.wrap ((IntKind.u64.wrap ((rd x0 x7) + (rd x1 x7))) + x6)) 65536)) (wrap64 (x7 + 1))) else (none)) else (none)) else (none)) else (if x5.length < 17592186044416 then (some (x5 ++ [x6])) else (none))
def hornbeamref04_Sum.f (k : Nat) (l0 : List Int) (l1 : List Int) : Option (List Int) := hornbeamref04_Sum.l0 k l0 l1 (([] : List Int)) 0 0
theorem hornbeamref04_Sum.mono_l : ∀ k, (∀ y0 y1 y2 y3 y4, LeO (hornbeamref04_Sum.l0 k y0 y1 y2 y3 y4) (hornbeamref04_Sum.l0 (k + 1) y0 y1 y2 y3 y4))
 | 0 => fun _ _ _ _ _ r h => by simp [hornbeamref04_Sum.l0] at h
 | k + 1 => by
  have ih0 := hornbeamref04_Sum.mono_l k
  ·intro y0 y1 y2 y3 y4
   unfold hornbeamref04_Sum.l0
   with_reducible repeat' first | apply ih0 | apply LeO.refl | apply LeO.none | refine LeO.ite ?_ ?_ | refine LeO.bind ?_ (fun _ => ?_)
theorem hornbeamref04_Sum.mono : ∀ a0 a1 k, LeO (hornbeamref04_Sum.f k a0 a1) (hornbeamref04_Sum.f (k + 1) a0 a1) := by
 intro a0 a1 k
 have ih0 := hornbeamref04_Sum.mono_l k
 unfold hornbeamref04_Sum.f
 with_reducible repeat' first | apply ih0 | apply LeO.refl | apply LeO.none | refine LeO.ite ?_ ?_ | refine LeO.bind ?_ (fun _ => ?_)
set_option maxHeartbeats 8000000 in
set_option maxRecDepth 100000 in
theorem hornbeamref04_Sum.calls (k : Nat) (A0 : Option Addr) (c0 : Nat) (l0 : List Int) (A1 : Option Addr) (c1 : Nat) (l1 : List Int) (r : List Int) (w : World) (a3 : Kd.C (Kd.int .u64) w A0 l0.length l0) (a4 : l0.length ≤ c0) (a5 : Kd.C (Kd.int .u64) w A1 l1.length l1) (a6 : l1.length ≤ c1) (h : hornbeamref04_Sum.f k l0 l1 = some r) :
  Calls Try.prog 57 #[.slice A0 l0.length c0, .slice A1 l1.length c1] w fun e w' => ∃ a7 : Value, e = .returned (a7) ∧ Kd.R (Kd.int .u64) 28 w' w.heap.size (fun _ => True) a7 r ∧ Below w.heap.size w w' := by
 have bf := aaM a3
 have bk := aaM a4
 clear a3 a4
 have bg := aaM a5
 have bl := aaM a6
 clear a5 a6
 have HB := aaM (Below.refl w.heap.size w)
 have H : (hornbeamref04_Sum.l0 k l0 l1 (([] : List Int)) 0 0) = some r := h
 clear h
 obtain ⟨a8, ak⟩ : ∃ y_ : List Int, y_ = (([] : List Int)) := ⟨_, rfl⟩
 replace H : (hornbeamref04_Sum.l0 k l0 l1 a8 0 0) = some r := by first | (rw [ak]; with_reducible exact H) | (have ai := (Option.bind_some _ _).symm.trans H; rw [ak]; with_reducible exact ai) | (have ai := (Option.bind_some _ _).symm.trans H; with_reducible exact ai) | with_reducible exact H | (rw [ak]; exact H) | exact H
 have aj := aaM ak
 clear ak
 have H' := aaM H
 clear H
 go_enter Try.func57, Try.ntmps57
 go_wp2_with (first | ((with_reducible refine gate_dst (N := 9) rfl ?_); refine Kd.R_lit (Kd.int .u64) _ 28 ?hg (N := 9) ?hd (xs := ([] : List Int)) (inner := []) (ok := fun _ => True) (okp := fun _ => True) ?hr ?hp (fun _ hk => hk) trivial (Below.refl _ _) (Nat.le_refl _) (by simp) ?_; (case hd => rfl); (case hg => rfl); (case hr => first | (go_simp; done) | (go_simp; rfl)); (case hp => exact (Reps.none _ _)); intro a9 w3 af hb hg_ hnew_; clear hg_ hnew_; (first | rw [← aj.out] at af | (simp only [Int.reduceToNat] at af; rw [← aj.out] at af)); have ao := aaM (Kd.R_lower af (lZ (lB HB))); replace HB := aaM (lP (lB HB) hb); clear hb af))
 repeat (go_quiet (first | ((with_reducible refine gate_dst (N := 9) rfl ?_); refine Kd.R_lit (Kd.int .u64) _ 28 ?hg (N := 9) ?hd (xs := ([] : List Int)) (inner := []) (ok := fun _ => True) (okp := fun _ => True) ?hr ?hp (fun _ hk => hk) trivial (Below.refl _ _) (Nat.le_refl _) (by simp) ?_; (case hd => rfl); (case hg => rfl); (case hr => first | (go_simp; done) | (go_simp; rfl)); (case hp => exact (Reps.none _ _)); intro a9 w3 af hb hg_ hnew_; clear hg_ hnew_; (first | rw [← aj.out] at af | (simp only [Int.reduceToNat] at af; rw [← aj.out] at af)); have ab := aaM (Kd.R_lower af (lZ (lB HB))); have ac := aaM (lP (lB HB) hb); clear HB; have ao := ab; have HB := ac; clear ab ac; clear hb af)); try go_wp2_with (first | ((with_reducible refine gate_dst (N := 9) rfl ?_); refine Kd.R_lit (Kd.int .u64) _ 28 ?hg (N := 9) ?hd (xs := ([] : List Int)) (inner := []) (ok := fun _ => True) (okp := fun _ => True) ?hr ?hp (fun _ hk => hk) trivial (Below.refl _ _) (Nat.le_refl _) (by simp) ?_; (case hd => rfl); (case hg => rfl); (case hr => first | (go_simp; done) | (go_simp; rfl)); (case hp => exact (Reps.none _ _)); intro a9 w3 af hb hg_ hnew_; clear hg_ hnew_; (first | rw [← aj.out] at af | (simp only [Int.reduceToNat] at af; rw [← aj.out] at af)); have ab := aaM (Kd.R_lower af (lZ (lB HB))); have ac := aaM (lP (lB HB) hb); clear HB; have ao := ab; have HB := ac; clear ab ac; clear hb af)))
 go_loopg [5, 6, 7] k (fun kq v5 v6 v7 w' => ∃ (ag : List Int) (ae : Int) (aa : Int), v6 = .int .u64 ae ∧ v7 = .int .i64 aa ∧ Aside0 (hornbeamref04_Sum.l0 kq l0 l1 ag ae aa = some r) ∧ Aside0 (kq ≤ k) ∧ Aside0 (Kd.R (Kd.int .u64) 28 w' w.heap.size (fun _ => True) v5 ag) ∧ Aside0 (Below w.heap.size w w'))
 case atStart => exact ⟨(a8), (0), (0), (eF), (eF), H', ⟨Nat.le_refl _⟩, ⟨rZ ao⟩, ⟨lB HB⟩⟩
 case round =>
  clear H'; (try clear c1); obtain ⟨ag, ae, aa, rfl, rfl, HA, ba, ah, HB⟩ := hrel
  cases gk with
  | zero => exact absurd HA.out (by simp [hornbeamref04_Sum.l0])
  | succ k1 =>
   have H := HA.out; clear HA; simp only [hornbeamref04_Sum.l0] at H
   by_cases c5 : aa < (l0.length : Int)
   ·rw [if_pos c5] at H
    have c5b0 : decide (aa < (l0.length : Int)) = true := decide_eq_true c5; clear c5
    by_cases c6 : 0 ≤ aa
    ·rw [if_pos c6] at H
     have c6b0 : decide (0 ≤ aa) = true := decide_eq_true c6; clear c6
     by_cases c7 : aa < (l1.length : Int)
     ·rw [if_pos c7] at H
      have c7b0 : decide (aa < (l1.length : Int)) = true := decide_eq_true c7; clear c7
      by_cases c8 : ag.length < 17592186044416
      ·rw [if_pos c8] at H
       have ap := aaM c8; clear c8; obtain ⟨bb, al⟩ : ∃ y_ : List Int, y_ = (ag ++ [Int.tmod (IntKind.u64.wrap ((IntKind.u64.wrap ((rd l0 aa) + (rd l1 aa))) + ae)) 65536]) := ⟨_, rfl⟩
       replace H : (hornbeamref04_Sum.l0 k1 l0 l1 bb (IntKind.u64.wrap (Int.tdiv (IntKind.u64.wrap ((IntKind.u64.wrap ((rd l0 aa) + (rd l1 aa))) + ae)) 65536)) (wrap64 (aa + 1))) = some r := by first | (rw [al]; with_reducible exact H) | (have ai := (Option.bind_some _ _).symm.trans H; rw [al]; with_reducible exact ai) | (have ai := (Option.bind_some _ _).symm.trans H; with_reducible exact ai) | with_reducible exact H | (rw [al]; exact H) | exact H
       have aq := aaM al; clear al; have H' := aaM H; clear H; have ar : 0 ≤ (aa : Int) := of_decide_eq_true (by first | (with_reducible assumption) | assumption); have au : aa < (l0.length : Int) := of_decide_eq_true (by first | (with_reducible assumption) | assumption); obtain ⟨bm, bh, av⟩ := Kd.at_int bf.out aa ar au
       cases bh
       replace av := (HB.out.cell (World.block_lt_of_cell? w _ av)).trans av; replace ar := eq_true ar; replace au := eq_true au; have aw : 0 ≤ (aa : Int) := of_decide_eq_true (by first | (with_reducible assumption) | assumption); have ax : aa < (l1.length : Int) := of_decide_eq_true (by first | (with_reducible assumption) | assumption); obtain ⟨bn, bi, ay⟩ := Kd.at_int bg.out aa aw ax
       cases bi
       replace ay := (HB.out.cell (World.block_lt_of_cell? w _ ay)).trans ay; replace aw := eq_true aw; replace ax := eq_true ax
       go_wp2_with (first | ((with_reducible refine gate_builtin (b := .append) (xs := #[.tmp 27, .tmp 30]) rfl ?_); at_builtin; refine Kd.R_append (Kd.int .u64) (w0 := w) w.heap.size rfl (.tmp 27) (.tmp 30) 74 28 (.int .u64 0) 8 rfl Try.underlying74 info28 rfl (by decide) (by omega) u5 ag (Int.tmod (IntKind.u64.wrap ((IntKind.u64.wrap ((rd l0 aa) + (rd l1 aa))) + ae)) 65536) [.int .u64 (Int.tmod (IntKind.u64.wrap ((IntKind.u64.wrap ((rd l0 aa) + (rd l1 aa))) + ae)) 65536)] (fun _ => True) (fun _ => False) rfl rfl ?aP (fun _ hk => hk.elim) ?aF ?aO ?aB ?aS ?aL ?_; (case aP => exact rfl); (case aB => exact (lB HB)); (case aF => exact (fun _ _ => trivial)); (case aO => exact (rZ ah)); (case aS => exact (lZ (lB HB))); (case aL => have := ap.out; omega); intro bc w9 ho hb hg hat; rw [← aq.out] at ho; have ab := aaM (hb); have ac := aaM (ho); clear HB ah; have HB := ab; have az := ac; clear ab ac ho hb hg hat))
       repeat (go_quiet (first | ((with_reducible refine gate_builtin (b := .append) (xs := #[.tmp 27, .tmp 30]) rfl ?_); at_builtin; refine Kd.R_append (Kd.int .u64) (w0 := w) w.heap.size rfl (.tmp 27) (.tmp 30) 74 28 (.int .u64 0) 8 rfl Try.underlying74 info28 rfl (by decide) (by omega) u5 ag (Int.tmod (IntKind.u64.wrap ((IntKind.u64.wrap ((rd l0 aa) + (rd l1 aa))) + ae)) 65536) [.int .u64 (Int.tmod (IntKind.u64.wrap ((IntKind.u64.wrap ((rd l0 aa) + (rd l1 aa))) + ae)) 65536)] (fun _ => True) (fun _ => False) rfl rfl ?aP (fun _ hk => hk.elim) ?aF ?aO ?aB ?aS ?aL ?_; (case aP => exact rfl); (case aB => exact (lB HB)); (case aF => exact (fun _ _ => trivial)); (case aO => exact (rZ ah)); (case aS => exact (lZ (lB HB))); (case aL => have := ap.out; omega); intro bc w9 ho hb hg hat; rw [← aq.out] at ho; have ab := aaM (hb); have ac := aaM (ho); clear HB; clear ah; have HB := ab; have az := ac; clear ab ac; clear ho hb hg hat)); try go_wp2_with (first | ((with_reducible refine gate_builtin (b := .append) (xs := #[.tmp 27, .tmp 30]) rfl ?_); at_builtin; refine Kd.R_append (Kd.int .u64) (w0 := w) w.heap.size rfl (.tmp 27) (.tmp 30) 74 28 (.int .u64 0) 8 rfl Try.underlying74 info28 rfl (by decide) (by omega) u5 ag (Int.tmod (IntKind.u64.wrap ((IntKind.u64.wrap ((rd l0 aa) + (rd l1 aa))) + ae)) 65536) [.int .u64 (Int.tmod (IntKind.u64.wrap ((IntKind.u64.wrap ((rd l0 aa) + (rd l1 aa))) + ae)) 65536)] (fun _ => True) (fun _ => False) rfl rfl ?aP (fun _ hk => hk.elim) ?aF ?aO ?aB ?aS ?aL ?_; (case aP => exact rfl); (case aB => exact (lB HB)); (case aF => exact (fun _ _ => trivial)); (case aO => exact (rZ ah)); (case aS => exact (lZ (lB HB))); (case aL => have := ap.out; omega); intro bc w9 ho hb hg hat; rw [← aq.out] at ho; have ab := aaM (hb); have ac := aaM (ho); clear HB; clear ah; have HB := ab; have az := ac; clear ab ac; clear ho hb hg hat)))
       go_roundg k1
       case measure => have := ba.out; omega
       case rel => exact ⟨(bb), (IntKind.u64.wrap (Int.tdiv (IntKind.u64.wrap ((IntKind.u64.wrap ((rd l0 aa) + (rd l1 aa))) + ae)) 65536)), (wrap64 (aa + 1)), (eF), (eF), H', ⟨by have := ba.out; omega⟩, ⟨rZ az⟩, ⟨lB HB⟩⟩
      ·rw [if_neg c8] at H
       exact absurd H (by simp)
     ·rw [if_neg c7] at H
      exact absurd H (by simp)
    ·rw [if_neg c6] at H
     exact absurd H (by simp)
   ·rw [if_neg c5] at H
    have c5b0 : decide (aa < (l0.length : Int)) = false := decide_eq_false c5; clear c5
    by_cases an : ag.length < 17592186044416
    ·rw [if_pos an] at H
     have a0 := aaM an; clear an; obtain ⟨bj, am⟩ : ∃ y_ : List Int, y_ = (ag ++ [ae]) := ⟨_, rfl⟩
     replace H : (some bj) = some r := by first | (rw [am]; with_reducible exact H) | (have ai := (Option.bind_some _ _).symm.trans H; rw [am]; with_reducible exact ai) | (have ai := (Option.bind_some _ _).symm.trans H; with_reducible exact ai) | with_reducible exact H | (rw [am]; exact H) | exact H
     have a1 := aaM am; clear am; obtain rfl := Option.some.inj H
     go_wp2_with (first | ((with_reducible refine gate_builtin (b := .append) (xs := #[.tmp 34, .tmp 36]) rfl ?_); at_builtin; refine Kd.R_append (Kd.int .u64) (w0 := w) w.heap.size rfl (.tmp 34) (.tmp 36) 74 28 (.int .u64 0) 8 rfl Try.underlying74 info28 rfl (by decide) (by omega) u5 ag ae [.int .u64 ae] (fun _ => True) (fun _ => False) rfl rfl ?aP (fun _ hk => hk.elim) ?aF ?aO ?aB ?aS ?aL ?_; (case aP => exact rfl); (case aB => exact (lB HB)); (case aF => exact (fun _ _ => trivial)); (case aO => exact (rZ ah)); (case aS => exact (lZ (lB HB))); (case aL => have := a0.out; omega); intro bd be ho hb hg hat; rw [← a1.out] at ho; have ab := aaM (hb); have ac := aaM (ho); clear HB ah; have HB := ab; have a2 := ac; clear ab ac ho hb hg hat))
     repeat (go_quiet (first | ((with_reducible refine gate_builtin (b := .append) (xs := #[.tmp 34, .tmp 36]) rfl ?_); at_builtin; refine Kd.R_append (Kd.int .u64) (w0 := w) w.heap.size rfl (.tmp 34) (.tmp 36) 74 28 (.int .u64 0) 8 rfl Try.underlying74 info28 rfl (by decide) (by omega) u5 ag ae [.int .u64 ae] (fun _ => True) (fun _ => False) rfl rfl ?aP (fun _ hk => hk.elim) ?aF ?aO ?aB ?aS ?aL ?_; (case aP => exact rfl); (case aB => exact (lB HB)); (case aF => exact (fun _ _ => trivial)); (case aO => exact (rZ ah)); (case aS => exact (lZ (lB HB))); (case aL => have := a0.out; omega); intro bd be ho hb hg hat; rw [← a1.out] at ho; have ab := aaM (hb); have ac := aaM (ho); clear HB; clear ah; have HB := ab; have a2 := ac; clear ab ac; clear ho hb hg hat)); try go_wp2_with (first | ((with_reducible refine gate_builtin (b := .append) (xs := #[.tmp 34, .tmp 36]) rfl ?_); at_builtin; refine Kd.R_append (Kd.int .u64) (w0 := w) w.heap.size rfl (.tmp 34) (.tmp 36) 74 28 (.int .u64 0) 8 rfl Try.underlying74 info28 rfl (by decide) (by omega) u5 ag ae [.int .u64 ae] (fun _ => True) (fun _ => False) rfl rfl ?aP (fun _ hk => hk.elim) ?aF ?aO ?aB ?aS ?aL ?_; (case aP => exact rfl); (case aB => exact (lB HB)); (case aF => exact (fun _ _ => trivial)); (case aO => exact (rZ ah)); (case aS => exact (lZ (lB HB))); (case aL => have := a0.out; omega); intro bd be ho hb hg hat; rw [← a1.out] at ho; have ab := aaM (hb); have ac := aaM (ho); clear HB; clear ah; have HB := ab; have a2 := ac; clear ab ac; clear ho hb hg hat)))
     go_ret
     exact ⟨_, eE, rZ a2, lB HB⟩
    ·rw [if_neg an] at H
     exact absurd H (by simp)

/-! ### hornbeamref04_Plus: function 39 -/
def hornbeamref04_Plus.f (k : Nat) (a0 : Int) (a1 : Int) : Option (Int × Int) := (hornbeamref04_Size.f a0).bind fun t367 => ((hornbeamref04_Size.f a1).bind fun t368 => (if ((decide (a0 < 0)) == (decide (a1 < 0))) = true then ((hornbeamref04_Digits.f t367).bind fun t369 => ((hornbeamref04_Digits.f t368).bind fun t372 => ((hornbeamref04_Sum.f k t369 t372).bind fun t375 => ((hornbeamref04_whole.f k (decide (a0 < 0)) t375).bind fun bt378 => (some (bt378.1, bt378.2)))))) else (if t367 ≥ t368 then ((hornbeamref04_Digits.f (IntKind.u64.wrap (t367 - t368))).bind fun t380 => ((hornbeamref04_whole.f k (decide (a0 < 0)) t380).bind fun bt383 => (some (bt383.1, bt383.2)))) else ((hornbeamref04_Digits.f (IntKind.u64.wrap (t368 - t367))).bind fun t385 => ((hornbeamref04_whole.f k (decide (a1 < 0)) t385).bind fun bt388 => (some (bt388.1, bt388.2)))))))
theorem hornbeamref04_Plus.mono : ∀ a0 a1 k, LeO (hornbeamref04_Plus.f k a0 a1) (hornbeamref04_Plus.f (k + 1) a0 a1) := by
 intro a0 a1 k
 unfold hornbeamref04_Plus.f
 with_reducible repeat' first | apply hornbeamref04_Sum.mono | apply hornbeamref04_whole.mono | apply LeO.refl | apply LeO.none | refine LeO.ite ?_ ?_ | refine LeO.bind ?_ (fun _ => ?_)
set_option maxHeartbeats 8000000 in
set_option maxRecDepth 100000 in
theorem hornbeamref04_Plus.calls (k : Nat) (a0 : Int) (a1 : Int) (r1 : Int) (r2 : Int) (w : World) (h : hornbeamref04_Plus.f k a0 a1 = some (r1, r2)) :
  Calls Try.prog 39 #[.int .i64 a0, .int .i64 a1] w fun e w' => e = .returned (.tuple #[.int .i64 r1, .int .i64 r2]) ∧ Below w.heap.size w w' := by
 have HB := aaM (Below.refl w.heap.size w)
 have H : ((hornbeamref04_Size.f a0).bind fun ab => ((hornbeamref04_Size.f a1).bind fun aa => (if ((decide (a0 < 0)) == (decide (a1 < 0))) = true then ((hornbeamref04_Digits.f ab).bind fun ah => ((hornbeamref04_Digits.f aa).bind fun ag => ((hornbeamref04_Sum.f k ah ag).bind fun af => ((hornbeamref04_whole.f k (decide (a0 < 0)) af).bind fun ac => (some (ac.1, ac.2)))))) else (if ab ≥ aa then ((hornbeamref04_Digits.f (IntKind.u64.wrap (ab - aa))).bind fun ak => ((hornbeamref04_whole.f k (decide (a0 < 0)) ak).bind fun ai => (some (ai.1, ai.2)))) else ((hornbeamref04_Digits.f (IntKind.u64.wrap (aa - ab))).bind fun al => ((hornbeamref04_whole.f k (decide (a1 < 0)) al).bind fun aj => (some (aj.1, aj.2)))))))) = some (r1, r2) := h
 clear h
 replace H := ooB.mp H
 obtain ⟨ab, av, H⟩ := H
 (try dsimp only at H)
 have A3 := aaM av
 clear av
 replace H := ooB.mp H
 obtain ⟨aa, aw, H⟩ := H
 (try dsimp only at H)
 have A4 := aaM aw
 clear aw
 by_cases c5 : ((decide (a0 < 0)) == (decide (a1 < 0))) = true
 ·rw [if_pos c5] at H
  have c5b0 : ((decide (a0 < 0)) == (decide (a1 < 0))) = true := c5; (try (have c5b1 : decide ((decide (a0 < 0)) = (decide (a1 < 0))) = true := by simpa using c5)); (try (have c5b2 : ((decide (a0 < 0)) == (decide (a1 < 0))) = true := by simpa using c5)); clear c5; replace H := ooB.mp H; obtain ⟨ah, ax, H⟩ := H; replace H : ((hornbeamref04_Digits.f aa).bind fun ag => ((hornbeamref04_Sum.f k ah ag).bind fun af => ((hornbeamref04_whole.f k (decide (a0 < 0)) af).bind fun ac => (some (ac.1, ac.2))))) = some (r1, r2) := H; have A6 := aaM ax; clear ax; replace H := ooB.mp H; obtain ⟨ag, ay, H⟩ := H; replace H : ((hornbeamref04_Sum.f k ah ag).bind fun af => ((hornbeamref04_whole.f k (decide (a0 < 0)) af).bind fun ac => (some (ac.1, ac.2)))) = some (r1, r2) := H; have A7 := aaM ay; clear ay; replace H := ooB.mp H; obtain ⟨af, az, H⟩ := H; replace H : ((hornbeamref04_whole.f k (decide (a0 < 0)) af).bind fun ac => (some (ac.1, ac.2))) = some (r1, r2) := H; have A8 := aaM az; clear az; replace H := ooB.mp H; obtain ⟨⟨a2, a3⟩, a4, H⟩ := H; (try dsimp only at H); have A9 := aaM a4; clear a4; simp only [Option.some.injEq, Prod.mk.injEq] at H; obtain ⟨rfl, rfl⟩ := H; go_enter Try.func39, Try.ntmps39
  go_wp2_with (first | ((with_reducible refine gate_callee (f := 55) rfl ?_); refine gL (some 9) Try.func55 #[.int .i64 a0] ?_; (with_reducible refine (hornbeamref04_Size.calls a0 ab _ A3.out).mono ?_); rintro e w' ⟨rfl, ⟨nd, rfl⟩⟩; refine ⟨_, rfl, ?_⟩) | ((with_reducible refine gate_callee (f := 55) rfl ?_); refine gL (some 11) Try.func55 #[.int .i64 a1] ?_; (with_reducible refine (hornbeamref04_Size.calls a1 aa _ A4.out).mono ?_); rintro e w' ⟨rfl, ⟨nd, rfl⟩⟩; refine ⟨_, rfl, ?_⟩) | ((with_reducible refine gate_callee (f := 32) rfl ?_); refine gL (some 20) Try.func32 #[.int .u64 ab] ?_; (with_reducible refine (hornbeamref04_Digits.calls ab ah _ A6.out).mono ?_); rintro e bw ⟨bz, rfl, ae, hb⟩; refine ⟨_, rfl, ?_⟩; have am := aaM (Kd.R_lower ae (lZ (lB HB))); replace HB := aaM (lP (lB HB) hb); (try clear hb); (try clear ae)) | ((with_reducible refine gate_callee (f := 32) rfl ?_); refine gL (some 22) Try.func32 #[.int .u64 aa] ?_; (with_reducible refine (hornbeamref04_Digits.calls aa ag _ A7.out).mono ?_); rintro e b0 ⟨b1, rfl, ae, hb⟩; refine ⟨_, rfl, ?_⟩; have an := aaM (Kd.R_lower (Kd.R_new' ae (Kd.R_lt (rZ am))) (lZ (lB HB))); replace am := aaM (Kd.R_elder' (rZ am) (Kd.R_base ae) hb); replace HB := aaM (lP (lB HB) hb); (try clear hb); (try clear ae); obtain ⟨bd, be, bf⟩ := Kd.R_slice am.out; subst bf; obtain ⟨bg, bh, bi⟩ := Kd.R_slice an.out; subst bi) | ((with_reducible refine gate_callee (f := 57) rfl ?_); refine gL (some 23) Try.func57 #[.slice bd ah.length be, .slice bg ag.length bh] ?_; (with_reducible refine (hornbeamref04_Sum.calls k _ _ ah _ _ ag af _ ?side1 ?side2 ?side3 ?side4 A8.out).mono ?_); (case side1 => repeat (first | exact (Kd.R_reads' am.out).2.2 | (with_reducible refine ccA ?_ _) | (with_reducible refine ccN ?_ _) | (with_reducible refine ccD ?_))); (case side2 => exact (Kd.R_reads' am.out).2.1); (case side3 => repeat (first | exact (Kd.R_reads' an.out).2.2 | (with_reducible refine ccA ?_ _) | (with_reducible refine ccN ?_ _) | (with_reducible refine ccD ?_))); (case side4 => exact (Kd.R_reads' an.out).2.1); rintro e b2 ⟨b3, rfl, ae, hb⟩; refine ⟨_, rfl, ?_⟩; have aq := aaM (Kd.R_lower (Kd.R_new' (Kd.R_new' ae (Kd.R_lt (rZ am))) (Kd.R_lt (rZ an))) (lZ (lB HB))); replace am := aaM (Kd.R_elder' (rZ am) (Kd.R_base ae) hb); replace an := aaM (Kd.R_elder' (rZ an) (Kd.R_base ae) hb); replace HB := aaM (lP (lB HB) hb); (try clear hb); (try clear ae); obtain ⟨bj, bk, bl⟩ := Kd.R_slice aq.out; subst bl) | ((with_reducible refine gate_callee (f := 56) rfl ?_); refine gL (some 24) Try.func56 #[.bool (decide (a0 < 0)), .slice bj af.length bk] ?_; (with_reducible refine (hornbeamref04_whole.calls k (decide (a0 < 0)) _ _ af a2 a3 _ ?side1 ?side2 A9.out).mono ?_); (case side1 => repeat (first | exact (Kd.R_reads' aq.out).2.2 | (with_reducible refine ccA ?_ _) | (with_reducible refine ccN ?_ _) | (with_reducible refine ccD ?_))); (case side2 => exact (Kd.R_reads' aq.out).2.1); rintro e w' ⟨rfl, ⟨nd, rfl⟩⟩; refine ⟨_, rfl, ?_⟩))
  all_goals (go_ret2; exact ⟨by first | rfl | (simp [errW_none, errW_some] <;> rfl) | (simp [*, errW_none, errW_some] <;> rfl) | (simp_all; done), lB HB⟩)
 ·rw [if_neg c5] at H
  have c5b0 : ((decide (a0 < 0)) == (decide (a1 < 0))) = false := by simpa using c5
  (try (have c5b1 : decide ((decide (a0 < 0)) = (decide (a1 < 0))) = false := by simpa using c5)); (try (have c5b2 : ((decide (a0 < 0)) == (decide (a1 < 0))) = false := by simpa using c5)); (try (have c5b3 : ¬ ((decide (a0 < 0)) = (decide (a1 < 0))) := by simpa using c5)); clear c5
  by_cases ao : ab ≥ aa
  ·rw [if_pos ao] at H
   have c16b0 : decide (aa ≤ ab) = true := decide_eq_true ao; clear ao; replace H := ooB.mp H; obtain ⟨ak, a5, H⟩ := H; replace H : ((hornbeamref04_whole.f k (decide (a0 < 0)) ak).bind fun ai => (some (ai.1, ai.2))) = some (r1, r2) := H; have bm := aaM a5; clear a5; replace H := ooB.mp H; obtain ⟨⟨a6, a7⟩, a8, H⟩ := H; (try dsimp only at H); have bn := aaM a8; clear a8; simp only [Option.some.injEq, Prod.mk.injEq] at H; obtain ⟨rfl, rfl⟩ := H; go_enter Try.func39, Try.ntmps39
   go_wp2_with (first | ((with_reducible refine gate_callee (f := 55) rfl ?_); refine gL (some 9) Try.func55 #[.int .i64 a0] ?_; (with_reducible refine (hornbeamref04_Size.calls a0 ab _ A3.out).mono ?_); rintro e w' ⟨rfl, ⟨nd, rfl⟩⟩; refine ⟨_, rfl, ?_⟩) | ((with_reducible refine gate_callee (f := 55) rfl ?_); refine gL (some 11) Try.func55 #[.int .i64 a1] ?_; (with_reducible refine (hornbeamref04_Size.calls a1 aa _ A4.out).mono ?_); rintro e w' ⟨rfl, ⟨nd, rfl⟩⟩; refine ⟨_, rfl, ?_⟩) | ((with_reducible refine gate_callee (f := 32) rfl ?_); refine gL (some 35) Try.func32 #[.int .u64 (IntKind.u64.wrap (ab - aa))] ?_; (with_reducible refine (hornbeamref04_Digits.calls (IntKind.u64.wrap (ab - aa)) ak _ bm.out).mono ?_); rintro e b4 ⟨b5, rfl, ae, hb⟩; refine ⟨_, rfl, ?_⟩; have ar := aaM (Kd.R_lower ae (lZ (lB HB))); replace HB := aaM (lP (lB HB) hb); (try clear hb); (try clear ae); obtain ⟨bo, bp, bq⟩ := Kd.R_slice ar.out; subst bq) | ((with_reducible refine gate_callee (f := 56) rfl ?_); refine gL (some 36) Try.func56 #[.bool (decide (a0 < 0)), .slice bo ak.length bp] ?_; (with_reducible refine (hornbeamref04_whole.calls k (decide (a0 < 0)) _ _ ak a6 a7 _ ?side1 ?side2 bn.out).mono ?_); (case side1 => repeat (first | exact (Kd.R_reads' ar.out).2.2 | (with_reducible refine ccA ?_ _) | (with_reducible refine ccN ?_ _) | (with_reducible refine ccD ?_))); (case side2 => exact (Kd.R_reads' ar.out).2.1); rintro e w' ⟨rfl, ⟨nd, rfl⟩⟩; refine ⟨_, rfl, ?_⟩))
   all_goals (go_ret2; exact ⟨by first | rfl | (simp [errW_none, errW_some] <;> rfl) | (simp [*, errW_none, errW_some] <;> rfl) | (simp_all; done), lB HB⟩)
  ·rw [if_neg ao] at H
   have c16b0 : decide (aa ≤ ab) = false := decide_eq_false ao; clear ao; replace H := ooB.mp H; obtain ⟨al, a9, H⟩ := H; replace H : ((hornbeamref04_whole.f k (decide (a1 < 0)) al).bind fun aj => (some (aj.1, aj.2))) = some (r1, r2) := H; have br := aaM a9; clear a9; replace H := ooB.mp H; obtain ⟨⟨ba, bb⟩, bc, H⟩ := H; (try dsimp only at H); have bs := aaM bc; clear bc; simp only [Option.some.injEq, Prod.mk.injEq] at H; obtain ⟨rfl, rfl⟩ := H; go_enter Try.func39, Try.ntmps39
   go_wp2_with (first | ((with_reducible refine gate_callee (f := 55) rfl ?_); refine gL (some 9) Try.func55 #[.int .i64 a0] ?_; (with_reducible refine (hornbeamref04_Size.calls a0 ab _ A3.out).mono ?_); rintro e w' ⟨rfl, ⟨nd, rfl⟩⟩; refine ⟨_, rfl, ?_⟩) | ((with_reducible refine gate_callee (f := 55) rfl ?_); refine gL (some 11) Try.func55 #[.int .i64 a1] ?_; (with_reducible refine (hornbeamref04_Size.calls a1 aa _ A4.out).mono ?_); rintro e w' ⟨rfl, ⟨nd, rfl⟩⟩; refine ⟨_, rfl, ?_⟩) | ((with_reducible refine gate_callee (f := 32) rfl ?_); refine gL (some 44) Try.func32 #[.int .u64 (IntKind.u64.wrap (aa - ab))] ?_; (with_reducible refine (hornbeamref04_Digits.calls (IntKind.u64.wrap (aa - ab)) al _ br.out).mono ?_); rintro e b6 ⟨b7, rfl, ae, hb⟩; refine ⟨_, rfl, ?_⟩; have au := aaM (Kd.R_lower ae (lZ (lB HB))); replace HB := aaM (lP (lB HB) hb); (try clear hb); (try clear ae); obtain ⟨bt, bu, bv⟩ := Kd.R_slice au.out; subst bv) | ((with_reducible refine gate_callee (f := 56) rfl ?_); refine gL (some 45) Try.func56 #[.bool (decide (a1 < 0)), .slice bt al.length bu] ?_; (with_reducible refine (hornbeamref04_whole.calls k (decide (a1 < 0)) _ _ al ba bb _ ?side1 ?side2 bs.out).mono ?_); (case side1 => repeat (first | exact (Kd.R_reads' au.out).2.2 | (with_reducible refine ccA ?_ _) | (with_reducible refine ccN ?_ _) | (with_reducible refine ccD ?_))); (case side2 => exact (Kd.R_reads' au.out).2.1); rintro e w' ⟨rfl, ⟨nd, rfl⟩⟩; refine ⟨_, rfl, ?_⟩))
   all_goals (go_ret2; exact ⟨by first | rfl | (simp [errW_none, errW_some] <;> rfl) | (simp [*, errW_none, errW_some] <;> rfl) | (simp_all; done), lB HB⟩)

/-! ### hornbeamref12_plus: function 40 -/
def hornbeamref12_plus.f (k : Nat) (a0_0 : Int) (a0_1 : Int) (a0_2 : Int) (a1_0 : Int) (a1_1 : Int) (a1_2 : Int) : Option (Int × Int × Int × Int) := (hornbeamref04_Plus.f k a0_0 a1_0).bind fun bt393 => (if bt393.2 = 0 then ((hornbeamref04_Plus.f k a0_1 a1_1).bind fun bt395 => (if bt395.2 = 0 then ((hornbeamref04_Plus.f k a0_2 a1_2).bind fun bt397 => (if bt397.2 = 0 then (some (bt393.1, bt395.1, bt397.1, 0)) else (some (0, 0, 0, bt397.2)))) else (some (0, 0, 0, bt395.2)))) else (some (0, 0, 0, bt393.2)))
theorem hornbeamref12_plus.mono : ∀ a0 a1 a2 a3 a4 a5 k, LeO (hornbeamref12_plus.f k a0 a1 a2 a3 a4 a5) (hornbeamref12_plus.f (k + 1) a0 a1 a2 a3 a4 a5) := by
 intro a0 a1 a2 a3 a4 a5 k
 unfold hornbeamref12_plus.f
 with_reducible repeat' first | apply hornbeamref04_Plus.mono | apply LeO.refl | apply LeO.none | refine LeO.ite ?_ ?_ | refine LeO.bind ?_ (fun _ => ?_)
set_option maxHeartbeats 8000000 in
set_option maxRecDepth 100000 in
theorem hornbeamref12_plus.calls (k : Nat) (ae : Int) (ag : Int) (ai : Int) (af : Int) (ah : Int) (aj : Int) (r1 : Int) (r2 : Int) (r3 : Int) (r4 : Int) (w : World) (h : hornbeamref12_plus.f k ae ag ai af ah aj = some (r1, r2, r3, r4)) :
  Calls Try.prog 40 #[.agg #[.int .i64 ae, .int .i64 ag, .int .i64 ai], .agg #[.int .i64 af, .int .i64 ah, .int .i64 aj]] w fun e w' => e = .returned (.tuple #[.agg #[.int .i64 r1, .int .i64 r2, .int .i64 r3], .int .i64 r4]) ∧ Below w.heap.size w w' := by
 have be := Try.underlying54
 have HB := aaM (Below.refl w.heap.size w)
 have H : ((hornbeamref04_Plus.f k ae af).bind fun a5 => (if a5.2 = 0 then ((hornbeamref04_Plus.f k ag ah).bind fun aq => (if aq.2 = 0 then ((hornbeamref04_Plus.f k ai aj).bind fun ak => (if ak.2 = 0 then (some (a5.1, aq.1, ak.1, 0)) else (some (0, 0, 0, ak.2)))) else (some (0, 0, 0, aq.2)))) else (some (0, 0, 0, a5.2)))) = some (r1, r2, r3, r4) := h
 clear h
 replace H := ooB.mp H
 obtain ⟨⟨ao, al⟩, bb, H⟩ := H
 (try dsimp only at H)
 have A3 := aaM bb
 clear bb
 by_cases c4 : al = 0
 ·rw [if_pos c4] at H
  have c4b0 : (al == 0) = true := beq_iff_eq.mpr c4; have c4b1 : (al != 0) = false := bne_eq_false_iff_eq.mpr c4; clear c4; replace H := ooB.mp H; obtain ⟨⟨a3, am⟩, bc, H⟩ := H; (try dsimp only at H); have A5 := aaM bc; clear bc
  by_cases c6 : am = 0
  ·rw [if_pos c6] at H
   have c6b0 : (am == 0) = true := beq_iff_eq.mpr c6; have c6b1 : (am != 0) = false := bne_eq_false_iff_eq.mpr c6; clear c6; replace H := ooB.mp H; obtain ⟨⟨a4, an⟩, bd, H⟩ := H; (try dsimp only at H); have A7 := aaM bd; clear bd
   by_cases c8 : an = 0
   ·rw [if_pos c8] at H
    have c8b0 : (an == 0) = true := beq_iff_eq.mpr c8; have c8b1 : (an != 0) = false := bne_eq_false_iff_eq.mpr c8; clear c8; simp only [Option.some.injEq, Prod.mk.injEq] at H; obtain ⟨rfl, rfl, rfl, rfl⟩ := H; go_enter Try.func40, Try.ntmps40
    go_wp2_with (first | ((with_reducible refine gate_dst (N := 2) rfl ?_); refine bxF w HB 2 #[.int .i64 ae, .int .i64 ag, .int .i64 ai] 54 ?_; intro a6 hg w9 hb aa HB ar; have a7 := ar; clear hb hg) | ((with_reducible refine gate_dst (N := 3) rfl ?_); refine bxF w HB 3 #[.int .i64 af, .int .i64 ah, .int .i64 aj] 54 ?_; intro a8 hg bf hb ab HB au; have a9 := au; obtain ⟨av, aw⟩ := nS hg aa; replace aa := bY hb aa; clear hb hg) | ((with_reducible refine gate_dst (N := 4) rfl ?_); refine bxF w HB 4 #[.int .i64 0, .int .i64 0, .int .i64 0] 54 ?_; intro ax hg bg hb ac HB ay; have ba := ay; obtain ⟨az, a0⟩ := nS hg aa; replace aa := bY hb aa; obtain ⟨a1, a2⟩ := nS hg ab; replace ab := bY hb ab; clear hb hg; have := av.out; have := aw.out; have := az.out; have := a0.out; obtain ⟨_, _, _, _, _, _⟩ := bE3 aa.out; have := a1.out; have := a2.out; obtain ⟨_, _, _, _, _, _⟩ := bE3 ab.out) | ((with_reducible refine gate_callee (f := 39) rfl ?_); refine gL (some 15) Try.func39 #[.int .i64 ae, .int .i64 af] ?_; (with_reducible refine (hornbeamref04_Plus.calls k ae af ao al _ A3.out).mono ?_); rintro e bh ⟨rfl, hb⟩; refine ⟨_, rfl, ?_⟩; replace aa := bY hb aa; replace ab := bY hb ab; replace ac := bY hb ac; replace HB := aaM (lP (lB HB) hb); (try clear hb); obtain ⟨_, _, _, _, _, _⟩ := bE3 aa.out; obtain ⟨_, _, _, _, _, _⟩ := bE3 ab.out) | ((with_reducible refine gate_callee (f := 39) rfl ?_); refine gL (some 27) Try.func39 #[.int .i64 ag, .int .i64 ah] ?_; (with_reducible refine (hornbeamref04_Plus.calls k ag ah a3 am _ A5.out).mono ?_); rintro e bi ⟨rfl, hb⟩; refine ⟨_, rfl, ?_⟩; replace aa := bY hb aa; replace ab := bY hb ab; replace ac := bY hb ac; replace HB := aaM (lP (lB HB) hb); (try clear hb); obtain ⟨_, _, _, _, _, _⟩ := bE3 aa.out; obtain ⟨_, _, _, _, _, _⟩ := bE3 ab.out) | ((with_reducible refine gate_callee (f := 39) rfl ?_); refine gL (some 39) Try.func39 #[.int .i64 ai, .int .i64 aj] ?_; (with_reducible refine (hornbeamref04_Plus.calls k ai aj a4 an _ A7.out).mono ?_); rintro e bj ⟨rfl, hb⟩; refine ⟨_, rfl, ?_⟩; replace aa := bY hb aa; replace ab := bY hb ab; replace ac := bY hb ac; replace HB := aaM (lP (lB HB) hb); (try clear hb); obtain ⟨_, _, _, _, _, _⟩ := bE3 ac.out))
    refine bodyPost_ret (results_ct rfl _ _ ax 54 #[.int .i64 ao, .int .i64 a3, .int .i64 a4] (0, 0) _ rfl (bZ ac) Try.underlying54 rfl (by kernel_rfl)) rfl ?_
    exact ⟨eE, lB HB⟩
   ·rw [if_neg c8] at H
    have c8b0 : (an == 0) = false := beq_eq_false_iff_ne.mpr c8; have c8b1 : (an != 0) = true := bne_iff_ne.mpr c8; simp only [Option.some.injEq, Prod.mk.injEq] at H; obtain ⟨rfl, rfl, rfl, rfl⟩ := H; go_enter Try.func40, Try.ntmps40
    go_wp2_with (first | ((with_reducible refine gate_dst (N := 2) rfl ?_); refine bxF w HB 2 #[.int .i64 ae, .int .i64 ag, .int .i64 ai] 54 ?_; intro a6 hg bk hb aa HB ar; have a7 := ar; clear hb hg) | ((with_reducible refine gate_dst (N := 3) rfl ?_); refine bxF w HB 3 #[.int .i64 af, .int .i64 ah, .int .i64 aj] 54 ?_; intro a8 hg bl hb ab HB au; have a9 := au; obtain ⟨av, aw⟩ := nS hg aa; replace aa := bY hb aa; clear hb hg) | ((with_reducible refine gate_dst (N := 4) rfl ?_); refine bxF w HB 4 #[.int .i64 0, .int .i64 0, .int .i64 0] 54 ?_; intro ax hg bm hb ac HB ay; have ba := ay; obtain ⟨az, a0⟩ := nS hg aa; replace aa := bY hb aa; obtain ⟨a1, a2⟩ := nS hg ab; replace ab := bY hb ab; clear hb hg; have := av.out; have := aw.out; have := az.out; have := a0.out; obtain ⟨_, _, _, _, _, _⟩ := bE3 aa.out; have := a1.out; have := a2.out; obtain ⟨_, _, _, _, _, _⟩ := bE3 ab.out) | ((with_reducible refine gate_callee (f := 39) rfl ?_); refine gL (some 15) Try.func39 #[.int .i64 ae, .int .i64 af] ?_; (with_reducible refine (hornbeamref04_Plus.calls k ae af ao al _ A3.out).mono ?_); rintro e bn ⟨rfl, hb⟩; refine ⟨_, rfl, ?_⟩; replace aa := bY hb aa; replace ab := bY hb ab; replace ac := bY hb ac; replace HB := aaM (lP (lB HB) hb); (try clear hb); obtain ⟨_, _, _, _, _, _⟩ := bE3 aa.out; obtain ⟨_, _, _, _, _, _⟩ := bE3 ab.out) | ((with_reducible refine gate_callee (f := 39) rfl ?_); refine gL (some 27) Try.func39 #[.int .i64 ag, .int .i64 ah] ?_; (with_reducible refine (hornbeamref04_Plus.calls k ag ah a3 am _ A5.out).mono ?_); rintro e bo ⟨rfl, hb⟩; refine ⟨_, rfl, ?_⟩; replace aa := bY hb aa; replace ab := bY hb ab; replace ac := bY hb ac; replace HB := aaM (lP (lB HB) hb); (try clear hb); obtain ⟨_, _, _, _, _, _⟩ := bE3 aa.out; obtain ⟨_, _, _, _, _, _⟩ := bE3 ab.out) | ((with_reducible refine gate_callee (f := 39) rfl ?_); refine gL (some 39) Try.func39 #[.int .i64 ai, .int .i64 aj] ?_; (with_reducible refine (hornbeamref04_Plus.calls k ai aj a4 an _ A7.out).mono ?_); rintro e bp ⟨rfl, hb⟩; refine ⟨_, rfl, ?_⟩; replace aa := bY hb aa; replace ab := bY hb ab; replace ac := bY hb ac; replace HB := aaM (lP (lB HB) hb); (try clear hb); obtain ⟨_, _, _, _, _, _⟩ := bE3 ac.out))
    refine bodyPost_ret (results_ct rfl _ _ ax 54 #[.int .i64 0, .int .i64 0, .int .i64 0] (0, 0) _ rfl (bZ ac) Try.underlying54 rfl (by kernel_rfl)) rfl ?_
    exact ⟨eE, lB HB⟩
  ·rw [if_neg c6] at H
   have c6b0 : (am == 0) = false := beq_eq_false_iff_ne.mpr c6; have c6b1 : (am != 0) = true := bne_iff_ne.mpr c6; simp only [Option.some.injEq, Prod.mk.injEq] at H; obtain ⟨rfl, rfl, rfl, rfl⟩ := H; go_enter Try.func40, Try.ntmps40
   go_wp2_with (first | ((with_reducible refine gate_dst (N := 2) rfl ?_); refine bxF w HB 2 #[.int .i64 ae, .int .i64 ag, .int .i64 ai] 54 ?_; intro a6 hg bq hb aa HB ar; have a7 := ar; clear hb hg) | ((with_reducible refine gate_dst (N := 3) rfl ?_); refine bxF w HB 3 #[.int .i64 af, .int .i64 ah, .int .i64 aj] 54 ?_; intro a8 hg br hb ab HB au; have a9 := au; obtain ⟨av, aw⟩ := nS hg aa; replace aa := bY hb aa; clear hb hg) | ((with_reducible refine gate_dst (N := 4) rfl ?_); refine bxF w HB 4 #[.int .i64 0, .int .i64 0, .int .i64 0] 54 ?_; intro ax hg bs hb ac HB ay; have ba := ay; obtain ⟨az, a0⟩ := nS hg aa; replace aa := bY hb aa; obtain ⟨a1, a2⟩ := nS hg ab; replace ab := bY hb ab; clear hb hg; have := av.out; have := aw.out; have := az.out; have := a0.out; obtain ⟨_, _, _, _, _, _⟩ := bE3 aa.out; have := a1.out; have := a2.out; obtain ⟨_, _, _, _, _, _⟩ := bE3 ab.out) | ((with_reducible refine gate_callee (f := 39) rfl ?_); refine gL (some 15) Try.func39 #[.int .i64 ae, .int .i64 af] ?_; (with_reducible refine (hornbeamref04_Plus.calls k ae af ao al _ A3.out).mono ?_); rintro e bt ⟨rfl, hb⟩; refine ⟨_, rfl, ?_⟩; replace aa := bY hb aa; replace ab := bY hb ab; replace ac := bY hb ac; replace HB := aaM (lP (lB HB) hb); (try clear hb); obtain ⟨_, _, _, _, _, _⟩ := bE3 aa.out; obtain ⟨_, _, _, _, _, _⟩ := bE3 ab.out) | ((with_reducible refine gate_callee (f := 39) rfl ?_); refine gL (some 27) Try.func39 #[.int .i64 ag, .int .i64 ah] ?_; (with_reducible refine (hornbeamref04_Plus.calls k ag ah a3 am _ A5.out).mono ?_); rintro e bu ⟨rfl, hb⟩; refine ⟨_, rfl, ?_⟩; replace aa := bY hb aa; replace ab := bY hb ab; replace ac := bY hb ac; replace HB := aaM (lP (lB HB) hb); (try clear hb); obtain ⟨_, _, _, _, _, _⟩ := bE3 ac.out))
   refine bodyPost_ret (results_ct rfl _ _ ax 54 #[.int .i64 0, .int .i64 0, .int .i64 0] (0, 0) _ rfl (bZ ac) Try.underlying54 rfl (by kernel_rfl)) rfl ?_
   exact ⟨eE, lB HB⟩
 ·rw [if_neg c4] at H
  have c4b0 : (al == 0) = false := beq_eq_false_iff_ne.mpr c4; have c4b1 : (al != 0) = true := bne_iff_ne.mpr c4; simp only [Option.some.injEq, Prod.mk.injEq] at H; obtain ⟨rfl, rfl, rfl, rfl⟩ := H; go_enter Try.func40, Try.ntmps40
  go_wp2_with (first | ((with_reducible refine gate_dst (N := 2) rfl ?_); refine bxF w HB 2 #[.int .i64 ae, .int .i64 ag, .int .i64 ai] 54 ?_; intro a6 hg bv hb aa HB ar; have a7 := ar; clear hb hg) | ((with_reducible refine gate_dst (N := 3) rfl ?_); refine bxF w HB 3 #[.int .i64 af, .int .i64 ah, .int .i64 aj] 54 ?_; intro a8 hg bw hb ab HB au; have a9 := au; obtain ⟨av, aw⟩ := nS hg aa; replace aa := bY hb aa; clear hb hg) | ((with_reducible refine gate_dst (N := 4) rfl ?_); refine bxF w HB 4 #[.int .i64 0, .int .i64 0, .int .i64 0] 54 ?_; intro ax hg bz hb ac HB ay; have ba := ay; obtain ⟨az, a0⟩ := nS hg aa; replace aa := bY hb aa; obtain ⟨a1, a2⟩ := nS hg ab; replace ab := bY hb ab; clear hb hg; have := av.out; have := aw.out; have := az.out; have := a0.out; obtain ⟨_, _, _, _, _, _⟩ := bE3 aa.out; have := a1.out; have := a2.out; obtain ⟨_, _, _, _, _, _⟩ := bE3 ab.out) | ((with_reducible refine gate_callee (f := 39) rfl ?_); refine gL (some 15) Try.func39 #[.int .i64 ae, .int .i64 af] ?_; (with_reducible refine (hornbeamref04_Plus.calls k ae af ao al _ A3.out).mono ?_); rintro e b0 ⟨rfl, hb⟩; refine ⟨_, rfl, ?_⟩; replace aa := bY hb aa; replace ab := bY hb ab; replace ac := bY hb ac; replace HB := aaM (lP (lB HB) hb); (try clear hb); obtain ⟨_, _, _, _, _, _⟩ := bE3 ac.out))
  refine bodyPost_ret (results_ct rfl _ _ ax 54 #[.int .i64 0, .int .i64 0, .int .i64 0] (0, 0) _ rfl (bZ ac) Try.underlying54 rfl (by kernel_rfl)) rfl ?_
  exact ⟨eE, lB HB⟩

/-! ### hornbeamref12_Sum: function 22 -/
mutual
def hornbeamref12_Sum.j0 : Nat → Int → Int → Bool → Int → Int → Int → List Int → List (S54) → Option (List Int × Int × Int × Int × Int)
 | 0, _, _, _, _, _, _, _, _ => none
 | k + 1, x1, x2, x33, x400000, x400001, x400002, x400003, x400004 => if x33 = true then (some (([] : List Int), 0, 0, 0, 1)) else (if 0 ≤ x400002 then (if (x400002 : Int).toNat ≤ 35184372088832 then (hornbeamref12_Sum.l0 k x2 (List.replicate (x400002 : Int).toNat 0) x1 x400000 x400001 x400002 x400003 x400004 0 0 0) else (none)) else (none))
def hornbeamref12_Sum.l0 : Nat → Int → List Int → Int → Int → Int → Int → List Int → List (S54) → Int → Int → Int → Option (List Int × Int × Int × Int × Int)
 | 0, _, _, _, _, _, _, _, _, _, _, _ => none
 | k + 1, x2, x9, x11, x400000, x400001, x400002, x400003, x400004, x406000, x406001, x406002 => if x11 < x2 then (hornbeamref12_Sum.l1 k x2 x9 x11 0 x400000 x400001 x400002 x400003 x400004 x406000 x406001 x406002) else (some (x9, x406000, x406001, x406002, 0))
def hornbeamref12_Sum.l1 : Nat → Int → List Int → Int → Int → Int → Int → Int → List Int → List (S54) → Int → Int → Int → Option (List Int × Int × Int × Int × Int)
 | 0, _, _, _, _, _, _, _, _, _, _, _, _ => none
 | k + 1, x2, x9, x11, x12, x400000, x400001, x400002, x400003, x400004, x406000, x406001, x406002 => if x12 < x400002 then (if 0 ≤ x12 then (if x12 < (x9.length : Int) then (if 0 ≤ (wrap64 ((wrap64 (x11 * x400002)) + x12)) then (if (wrap64 ((wrap64 (x11 * x400002)) + x12)) < (x400003.length : Int) then ((hornbeamref04_Plus.f k (rd x9 x12) (rd x400003 (wrap64 ((wrap64 (x11 * x400002)) + x12)))).bind fun bt408 => (if bt408.2 = 0 then (hornbeamref12_Sum.l1 k x2 (x9.set (x12 : Int).toNat bt408.1) x11 (wrap64 (x12 + 1)) x400000 x400001 x400002 x400003 x400004 x406000 x406001 x406002) else (some (([] : List Int), 0, 0, 0, bt408.2)))) else (none)) else (none)) else (none)) else (none)) else (if x400000 = 1 then (if 0 ≤ x11 then (if x11 < (x400004.length : Int) then ((hornbeamref12_plus.f k x406000 x406001 x406002 ((rd_T54 x400004 x11).f0) ((rd_T54 x400004 x11).f1) ((rd_T54 x400004 x11).f2)).bind fun bt412 => (if bt412.2.2.2 = 0 then (hornbeamref12_Sum.l0 k x2 x9 (wrap64 (x11 + 1)) x400000 x400001 x400002 x400003 x400004 bt412.1 bt412.2.1 bt412.2.2.1) else (some (([] : List Int), 0, 0, 0, bt412.2.2.2)))) else (none)) else (none)) else (hornbeamref12_Sum.l0 k x2 x9 (wrap64 (x11 + 1)) x400000 x400001 x400002 x400003 x400004 x406000 x406001 x406002))
end
def hornbeamref12_Sum.f (k : Nat) (a0_0 : Int) (a0_1 : Int) (a0_2 : Int) (l0_3 : List Int) (l0_4 : List (S54)) (a1 : Int) (a2 : Int) : Option (List Int × Int × Int × Int × Int) := (hornbeamref12_Right.f k a0_0 a0_1 a0_2 l0_3 l0_4).bind fun t401 => (if t401 = true then (if a1 < 0 then (hornbeamref12_Sum.j0 k a1 a2 true a0_0 a0_1 a0_2 l0_3 l0_4) else (if a1 > a2 then (hornbeamref12_Sum.j0 k a1 a2 true a0_0 a0_1 a0_2 l0_3 l0_4) else (hornbeamref12_Sum.j0 k a1 a2 (decide (a2 > a0_1)) a0_0 a0_1 a0_2 l0_3 l0_4))) else (some (([] : List Int), 0, 0, 0, 8)))
theorem hornbeamref12_Sum.mono_l : ∀ k, (∀ y0 y1 y2 y3 y4 y5 y6 y7, LeO (hornbeamref12_Sum.j0 k y0 y1 y2 y3 y4 y5 y6 y7) (hornbeamref12_Sum.j0 (k + 1) y0 y1 y2 y3 y4 y5 y6 y7)) ∧ (∀ y0 y1 y2 y3 y4 y5 y6 y7 y8 y9 y10, LeO (hornbeamref12_Sum.l0 k y0 y1 y2 y3 y4 y5 y6 y7 y8 y9 y10) (hornbeamref12_Sum.l0 (k + 1) y0 y1 y2 y3 y4 y5 y6 y7 y8 y9 y10)) ∧ (∀ y0 y1 y2 y3 y4 y5 y6 y7 y8 y9 y10 y11, LeO (hornbeamref12_Sum.l1 k y0 y1 y2 y3 y4 y5 y6 y7 y8 y9 y10 y11) (hornbeamref12_Sum.l1 (k + 1) y0 y1 y2 y3 y4 y5 y6 y7 y8 y9 y10 y11))
 | 0 => ⟨fun _ _ _ _ _ _ _ _ r h => by simp [hornbeamref12_Sum.j0] at h, fun _ _ _ _ _ _ _ _ _ _ _ r h => by simp [hornbeamref12_Sum.l0] at h, fun _ _ _ _ _ _ _ _ _ _ _ _ r h => by simp [hornbeamref12_Sum.l1] at h⟩
 | k + 1 => by
  obtain ⟨ih0, ih1, ih2⟩ := hornbeamref12_Sum.mono_l k
  refine ⟨?_, ?_, ?_⟩
  all_goals (intros; first | unfold hornbeamref12_Sum.j0 | unfold hornbeamref12_Sum.l0 | unfold hornbeamref12_Sum.l1)
  all_goals with_reducible repeat' first | apply ih0 | apply ih1 | apply ih2 | apply hornbeamref04_Plus.mono | apply hornbeamref12_Right.mono | apply hornbeamref12_plus.mono | apply LeO.refl | apply LeO.none | refine LeO.ite ?_ ?_ | refine LeO.bind ?_ (fun _ => ?_)
theorem hornbeamref12_Sum.mono : ∀ a0 a1 a2 a3 a4 a5 a6 k, LeO (hornbeamref12_Sum.f k a0 a1 a2 a3 a4 a5 a6) (hornbeamref12_Sum.f (k + 1) a0 a1 a2 a3 a4 a5 a6) := by
 intro a0 a1 a2 a3 a4 a5 a6 k
 obtain ⟨ih0, ih1, ih2⟩ := hornbeamref12_Sum.mono_l k
 unfold hornbeamref12_Sum.f
 with_reducible repeat' first | apply ih0 | apply ih1 | apply ih2 | apply hornbeamref04_Plus.mono | apply hornbeamref12_Right.mono | apply hornbeamref12_plus.mono | apply LeO.refl | apply LeO.none | refine LeO.ite ?_ ?_ | refine LeO.bind ?_ (fun _ => ?_)
def hornbeamref12_Sum.T13 : Bool × List (List Nat × List Nat) := (true, [([], []), ([], []), ([0, 1], [0, 1]), ([2], [2]), ([], []), ([4], [4]), ([], []), ([], []), ([7], [7]), ([6, 8], [6, 8]), ([], []), ([9, 10], [9, 10]), ([5, 11], [5, 11]), ([12], [12]), ([3, 13], [3, 13]), ([14], [14]), ([15], [15]), ([15], [15]), ([16, 14, 0, 1, 2, 3, 4, 5, 6, 7, 8, 9, 10, 11, 12, 13, 14, 15, 16], [16]), ([17, 18, 0, 1, 2, 3, 4, 5, 6, 7, 8, 9, 10, 11, 12, 13, 14, 15, 16, 17, 18], [17])])
def hornbeamref12_Sum.B13 : List Nat := [0, 0, 3, 7, 0, 16, 0, 0, 128, 448, 0, 1984, 4080, 8176, 16383, 32767, 65535, 65535, 131071, 524287]
theorem hornbeamref12_Sum.tab13 : rtab .any (opsOf Try.f22 13) = hornbeamref12_Sum.T13 := by kernel_rfl
theorem hornbeamref12_Sum.bits13 : waitsOk hornbeamref12_Sum.T13.2 hornbeamref12_Sum.B13 = true := by kernel_rfl
def hornbeamref12_Sum.T18 : Bool × List (List Nat × List Nat) := (true, [([], []), ([], []), ([1], [1]), ([], []), ([2, 3], [2, 3]), ([4], [4]), ([0, 5], [0, 5]), ([6], [6]), ([7], [7]), ([7], [7]), ([], []), ([10, 8, 6, 0, 1, 2, 3, 4, 5, 6, 7, 8, 10], [8, 10]), ([9, 11, 0, 1, 2, 3, 4, 5, 6, 7, 8, 9, 10, 11], [9])])
def hornbeamref12_Sum.B18 : List Nat := [0, 0, 2, 0, 14, 30, 63, 127, 255, 255, 0, 1535, 4095]
theorem hornbeamref12_Sum.tab18 : rtab .any (opsOf Try.f22 18) = hornbeamref12_Sum.T18 := by kernel_rfl
theorem hornbeamref12_Sum.bits18 : waitsOk hornbeamref12_Sum.T18.2 hornbeamref12_Sum.B18 = true := by kernel_rfl
set_option maxHeartbeats 8000000 in
set_option maxRecDepth 100000 in
theorem hornbeamref12_Sum.calls (k : Nat) (aj : Int) (ak : Int) (ag : Int) (a9 : Option Addr) (a6 : Nat) (ai : List Int) (be : Option Addr) (a7 : Nat) (ab : List (S54)) (a1 : Int) (a2 : Int) (r1 : List Int) (r2 : Int) (r3 : Int) (r4 : Int) (r5 : Int) (w : World) (ec : Kd.C (Kd.int .i64) w a9 ai.length ai) (ed : ai.length ≤ a6) (ee : Kd.C k54 w be ab.length ab) (ef : ab.length ≤ a7) (h : hornbeamref12_Sum.f k aj ak ag ai ab a1 a2 = some (r1, r2, r3, r4, r5)) :
  Calls Try.prog 22 #[.agg #[.int .i64 aj, .int .i64 ak, .int .i64 ag, .slice a9 ai.length a6, .slice be ab.length a7], .int .i64 a1, .int .i64 a2] w fun e w' => ∃ eg : Value, e = .returned (.tuple #[eg, .agg #[.int .i64 r2, .int .i64 r3, .int .i64 r4], .int .i64 r5]) ∧ Kd.R (Kd.int .i64) 2 w' w.heap.size (fun _ => True) eg r1 ∧ Below w.heap.size w w' := by
 have g5 := Try.underlying25
 have g6 := Try.underlying54
 have cz := aaM ec
 have eh := aaM ed
 clear ec ed
 have c0 := aaM ee
 have ei := aaM ef
 clear ee ef
 have HB := aaM (Below.refl w.heap.size w)
 have H : ((hornbeamref12_Right.f k aj ak ag ai ab).bind fun ch => (if ch = true then (if a1 < 0 then (hornbeamref12_Sum.j0 k a1 a2 true aj ak ag ai ab) else (if a1 > a2 then (hornbeamref12_Sum.j0 k a1 a2 true aj ak ag ai ab) else (hornbeamref12_Sum.j0 k a1 a2 (decide (a2 > ak)) aj ak ag ai ab))) else (some (([] : List Int), 0, 0, 0, 8)))) = some (r1, r2, r3, r4, r5) := h
 clear h
 replace H := ooB.mp H
 obtain ⟨ch, ej, H⟩ := H
 (try dsimp only at H)
 have A4 := aaM ej
 clear ej
 by_cases c5 : ch = true
 ·subst c5
  have H1 : (if a1 < 0 then (hornbeamref12_Sum.j0 k a1 a2 true aj ak ag ai ab) else (if a1 > a2 then (hornbeamref12_Sum.j0 k a1 a2 true aj ak ag ai ab) else (hornbeamref12_Sum.j0 k a1 a2 (decide (a2 > ak)) aj ak ag ai ab))) = some (r1, r2, r3, r4, r5) := by rw [if_pos rfl] at H; exact H
  clear H; have H := H1; clear H1; have c3 := aaM H; clear H; go_enter Try.func22, Try.ntmps22
  go_upto_region 3 with (first | ((with_reducible refine gate_dst (N := 3) rfl ?_); refine bxF w HB 3 #[.int .i64 aj, .int .i64 ak, .int .i64 ag, .slice a9 ai.length a6, .slice be ab.length a7] 25 ?_; intro ao hg w7 hb aa HB c4; have f9 := c4; clear hb hg) | ((with_reducible refine gate_dst (N := 7) rfl ?_); refine bxF w HB 7 #[.int .i64 0, .int .i64 0, .int .i64 0] 54 ?_; intro a3 hg w8 hb ac HB c6; have ga := c6; obtain ⟨ba, bb⟩ := nS hg aa; replace aa := bY hb aa; clear hb hg; have := ba.out; have := bb.out; obtain ⟨c7, c8, da, db, dc, dd, de, df, dg, dh⟩ := bE5 aa.out) | ((with_reducible refine gate_callee (f := 15) rfl ?_); refine gL (some 18) Try.func15 #[.agg #[.int .i64 aj, .int .i64 ak, .int .i64 ag, .slice a9 ai.length a6, .slice be ab.length a7]] ?_; (with_reducible refine (hornbeamref12_Right.calls k aj ak ag _ _ ai _ _ ab true _ ?side1 ?side2 ?side3 ?side4 A4.out).mono ?_); (case side1 => exact cZ (ccB cz.out HB.out)); (case side2 => exact eh.out); (case side3 => exact cZ (ccB c0.out HB.out)); (case side4 => exact ei.out); rintro e g7 ⟨rfl, hb⟩; refine ⟨_, rfl, ?_⟩; replace aa := bY hb aa; replace ac := bY hb ac; replace HB := aaM (lP (lB HB) hb); (try clear hb)))
  (try simp only [Act.put, ssB, ssZ, ssS])
  go_cut [33] (fun gd wc => ∃ (kq : Nat) (cj : Bool), gd = .bool cj ∧ Aside0 (hornbeamref12_Sum.j0 kq a1 a2 cj aj ak ag ai ab = some (r1, r2, r3, r4, r5)) ∧ Aside0 (kq ≤ k) ∧ Aside0 (wc.heap[ao]? = some (.cells #[.int .i64 aj, .int .i64 ak, .int .i64 ag, (.slice a9 ai.length a6), (.slice be ab.length a7)] 25 (0, 0))) ∧ Aside0 (wc.heap[a3]? = some (.cells #[.int .i64 0, .int .i64 0, .int .i64 0] 54 (0, 0))) ∧ Aside0 (Below w.heap.size w wc))
  case first =>
   have H := c3.out; clear c3
   by_cases bf : a1 < 0
   ·rw [if_pos bf] at H
    have c12b0 : decide (a1 < 0) = true := decide_eq_true bf; clear bf; (first | rw [c12b0] | (simp only [i64_w, i32_w]; rw [c12b0]) | skip); have H' := aaM H; clear H; go_wp2
    go_meet
    case rel => exact ⟨_, (true), (eF), H', ⟨by first | omega | exact Nat.le_refl _⟩, ⟨bZ aa⟩, ⟨bZ ac⟩, ⟨lB HB⟩⟩
   ·rw [if_neg bf] at H
    have c12b0 : decide (a1 < 0) = false := decide_eq_false bf; clear bf; (first | rw [c12b0] | (simp only [i64_w, i32_w]; rw [c12b0]) | skip)
    by_cases bg : a1 > a2
    ·rw [if_pos bg] at H
     have c13b0 : decide (a2 < a1) = true := decide_eq_true bg; clear bg; have H' := aaM H; clear H; go_wp2
     go_meet
     case rel => exact ⟨_, (true), (eF), H', ⟨by first | omega | exact Nat.le_refl _⟩, ⟨bZ aa⟩, ⟨bZ ac⟩, ⟨lB HB⟩⟩
    ·rw [if_neg bg] at H
     have c13b0 : decide (a2 < a1) = false := decide_eq_false bg; clear bg; have H' := aaM H; clear H; have := ba.out; have := bb.out; obtain ⟨di, dj, dk, dl, dm, dn, dp, dq, dr, dt⟩ := bE5 aa.out; go_wp2
     go_meet
     case rel => exact ⟨_, (decide (a2 > ak)), (eF), H', ⟨by first | omega | exact Nat.le_refl _⟩, ⟨bZ aa⟩, ⟨bZ ac⟩, ⟨lB HB⟩⟩
  case rest =>
   clear c3; (try clear c5); (try clear c7); (try clear c8); (try clear da); (try clear db); (try clear dc); (try clear dd); (try clear de); (try clear df); (try clear dg); (try clear dh); obtain ⟨kq, cj, rfl, HA, b3, aa, ac, HB⟩ := hcut
   cases kq with
   | zero => exact absurd HA.out (by simp [hornbeamref12_Sum.j0])
   | succ ck =>
    have H := HA.out; clear HA; simp only [hornbeamref12_Sum.j0] at H
    by_cases b4 : cj = true
    ·subst b4
     have H1 : (some (([] : List Int), 0, 0, 0, 1)) = some (r1, r2, r3, r4, r5) := by rw [if_pos rfl] at H; exact H
     clear H; have H := H1; clear H1; simp only [Option.some.injEq, Prod.mk.injEq] at H; obtain ⟨rfl, rfl, rfl, rfl, rfl⟩ := H; have := bb.out; have := ba.out; obtain ⟨em, en, ep, er, es, et⟩ := bE3 ac.out; go_wp2; refine bodyPost_ret (results_list (rs := [.tmp 6, .cell 7 54, .tmp 8]) rfl (by simp) (.tmp (.cell a3 54 #[.int .i64 0, .int .i64 0, .int .i64 0] (0, 0) _ rfl (bZ ac) Try.underlying54 rfl (by kernel_rfl) (.tmp .nil)))) rfl ?_
     exact ⟨_, eE, by first | exact Kd.R_nil _ _ _ _ _ | exact Kd.N_nil _ _ _ _ _ | exact Kd.V_nil _ _ _ _ _ | exact Kd.Q_nil _ _ _ _ _ | exact Kd.S_nil _ _ _ _ _, lB HB⟩
    ·replace b4 := Bool.eq_false_iff.mpr b4
     subst b4
     have H1 : (if 0 ≤ ag then (if (ag : Int).toNat ≤ 35184372088832 then (hornbeamref12_Sum.l0 ck a2 (List.replicate (ag : Int).toNat 0) a1 aj ak ag ai ab 0 0 0) else (none)) else (none)) = some (r1, r2, r3, r4, r5) := by rw [if_neg (show ¬ (false = true) by decide)] at H; exact H
     clear H; have H := H1; clear H1
     by_cases bp : 0 ≤ ag
     ·rw [if_pos bp] at H
      have c19b0 := eq_true bp; have c19b1 : decide (0 ≤ ag) = true := decide_eq_true bp; clear bp
      by_cases bq : (ag : Int).toNat ≤ 35184372088832
      ·rw [if_pos bq] at H
       have c20b0 := eq_true bq; have c20b1 : decide ((ag : Int).toNat ≤ 35184372088832) = true := decide_eq_true bq; clear bq; obtain ⟨eu, b8⟩ : ∃ y_ : List Int, y_ = (List.replicate (ag : Int).toNat 0) := ⟨_, rfl⟩
       replace H : (hornbeamref12_Sum.l0 ck a2 eu a1 aj ak ag ai ab 0 0 0) = some (r1, r2, r3, r4, r5) := by first | (rw [b8]; with_reducible exact H) | (have br := (Option.bind_some _ _).symm.trans H; rw [b8]; with_reducible exact br) | (have br := (Option.bind_some _ _).symm.trans H; with_reducible exact br) | with_reducible exact H | (rw [b8]; exact H) | exact H
       have ev := aaM b8; clear b8; have H' := aaM H; clear H; have := ba.out; have := bb.out; obtain ⟨ew, ex, ey, ez, e0, e1, e2, e3, e4, e5⟩ := bE5 aa.out
       go_wp2_with (first | ((with_reducible refine gate_dst (N := 37) rfl ?_); refine Kd.R_make (Kd.int .i64) _ 2 rfl (N := 37) rfl 22 _ _ rfl ag rfl rfl Try.underlying22 (.int .i64 0) 8 info2 rfl (by decide) (by omega) 0 (ok := fun _ => True) (okp := fun _ => True) rfl (fun _ hk => hk) trivial (of_decide_eq_true (by first | (with_reducible assumption) | assumption)) (Nat.le_trans (Nat.mul_le_mul_right _ (of_decide_eq_true (by first | (with_reducible assumption) | assumption) : ag.toNat ≤ 35184372088832)) (by omega)) (Below.refl _ _) (Nat.le_refl _) ?_; intro cl g8 b9 hb hg_ hnew_; clear hg_ hnew_; (first | rw [← ev.out] at b9 | (simp only [Int.reduceToNat] at b9; rw [← ev.out] at b9)); have du := aaM (Kd.R_lower b9 (lZ (lB HB))); replace aa := bY hb aa; replace ac := bY hb ac; replace HB := aaM (lP (lB HB) hb); clear hb b9) | ((with_reducible refine gate_dst (N := 10) rfl ?_); refine bxF w HB 10 #[.int .i64 0, .int .i64 0, .int .i64 0] 54 ?_; intro ap hg g9 hb af HB gf; have ha := gf; replace du := aaM (rrB (rZ du) hb); obtain ⟨cm, cn⟩ := nS hg aa; replace aa := bY hb aa; obtain ⟨bs, bt⟩ := nS hg ac; replace ac := bY hb ac; clear hb hg; have := cn.out; have := cm.out; have := bt.out; have := bs.out; obtain ⟨e6, e7, e8, e9, fa, fb⟩ := bE3 af.out))
       go_loopg [11] ck (fun kq gg w' => ∃ (cp : List Int) (ae : Int) (dv : Int) (dw : Int) (dx : Int) (aw : Int) (ax : Int) (ay : Int), gg = .int .i64 ae ∧ Aside0 (hornbeamref12_Sum.l0 kq a2 cp ae aj ak ag ai ab aw ax ay = some (r1, r2, r3, r4, r5)) ∧ Aside0 (kq ≤ ck) ∧ Aside0 (Kd.R (Kd.int .i64) 2 w' w.heap.size (fun _ => True) cl cp) ∧ Aside0 (w'.heap[ao]? = some (.cells #[.int .i64 aj, .int .i64 ak, .int .i64 ag, (.slice a9 ai.length a6), (.slice be ab.length a7)] 25 (0, 0))) ∧ Aside0 (w'.heap[a3]? = some (.cells #[.int .i64 dv, .int .i64 dw, .int .i64 dx] 54 (0, 0))) ∧ Aside0 (w'.heap[ap]? = some (.cells #[.int .i64 aw, .int .i64 ax, .int .i64 ay] 54 (0, 0))) ∧ Aside0 (Below w.heap.size w w'))
       case atStart => exact ⟨(eu), (a1), (0), (0), (0), (0), (0), (0), (eF), H', ⟨Nat.le_refl _⟩, ⟨by (with_reducible repeat (first | apply rrA | apply rrN | apply rrD)); exact Kd.R_mono (rrF (p := ⟨ap, 2, none⟩) (rrF (p := ⟨ap, 1, none⟩) (rrF (p := ⟨ap, 0, none⟩) (Kd.R_types du.out af.out (by decide)) (fun _ hk => hk.2) (.int .i64 0)) (fun _ hk => hk.2) (.int .i64 0)) (fun _ hk => hk.2) (.int .i64 0)) (fun _ hk => trivial)⟩, ⟨bZ aa⟩, ⟨bZ ac⟩, ⟨bZ af⟩, ⟨lB HB⟩⟩
       case round =>
        clear H'; (try clear c5); (try clear b4); (try clear bp); (try clear c19b0); (try clear c19b1); (try clear bq); (try clear c20b0); (try clear c20b1); (try clear c7); (try clear c8); (try clear da); (try clear db); (try clear dc); (try clear ew); (try clear ex); (try clear ey); (try clear ez); (try clear e0); (try clear e6); (try clear e7); (try clear e8); (try clear dd); (try clear de); (try clear df); (try clear dg); (try clear dh); (try clear e1); (try clear e2); (try clear e3); (try clear e4); (try clear e5); (try clear e9); (try clear fa); (try clear fb); obtain ⟨cp, ae, dv, dw, dx, aw, ax, ay, rfl, HA, b5, am, aa, ac, af, HB⟩ := hrel
        cases gk with
        | zero => exact absurd HA.out (by simp [hornbeamref12_Sum.l0])
        | succ k2 =>
         have H := HA.out; clear HA; simp only [hornbeamref12_Sum.l0] at H
         by_cases bu : ae < a2
         ·rw [if_pos bu] at H
          have c29b0 : decide (ae < a2) = true := decide_eq_true bu; clear bu; have H' := aaM H; clear H; go_wp2
          go_loopg [12] k2 (fun kq gn w' => ∃ (az : List Int) (an : Int) (bv : Int) (bw : Int) (bz : Int), gn = .int .i64 an ∧ Aside0 (hornbeamref12_Sum.l1 kq a2 az ae an aj ak ag ai ab aw ax ay = some (r1, r2, r3, r4, r5)) ∧ Aside0 (kq ≤ k2) ∧ Aside0 (Kd.R (Kd.int .i64) 2 w' w.heap.size (fun _ => True) cl az) ∧ Aside0 (w'.heap[ao]? = some (.cells #[.int .i64 aj, .int .i64 ak, .int .i64 ag, (.slice a9 ai.length a6), (.slice be ab.length a7)] 25 (0, 0))) ∧ Aside0 (w'.heap[a3]? = some (.cells #[.int .i64 bv, .int .i64 bw, .int .i64 bz] 54 (0, 0))) ∧ Aside0 (w'.heap[ap]? = some (.cells #[.int .i64 aw, .int .i64 ax, .int .i64 ay] 54 (0, 0))) ∧ Aside0 (Below w.heap.size w w'))
          case atStart => exact ⟨(cp), (0), (dv), (dw), (dx), (eF), H', ⟨Nat.le_refl _⟩, ⟨rZ am⟩, ⟨bZ aa⟩, ⟨bZ ac⟩, ⟨bZ af⟩, ⟨lB HB⟩⟩
          case round =>
           clear H'; (try clear c5); (try clear b4); (try clear bp); (try clear c19b0); (try clear c19b1); (try clear bq); (try clear c20b0); (try clear c20b1); (try clear bu); (try clear c29b0); (try clear c7); (try clear c8); (try clear da); (try clear db); (try clear dc); (try clear ew); (try clear ex); (try clear ey); (try clear ez); (try clear e0); (try clear e6); (try clear e7); (try clear e8); (try clear dd); (try clear de); (try clear df); (try clear dg); (try clear dh); (try clear e1); (try clear e2); (try clear e3); (try clear e4); (try clear e5); (try clear e9); (try clear fa); (try clear fb); obtain ⟨az, an, bv, bw, bz, rfl, HA, b6, am, aa, ac, af, HB⟩ := hrel
           cases gk with
           | zero => exact absurd HA.out (by simp [hornbeamref12_Sum.l1])
           | succ k3 =>
            have H := HA.out; clear HA; simp only [hornbeamref12_Sum.l1] at H
            by_cases b7 : an < ag
            ·rw [if_pos b7] at H
             have c30b0 : decide (an < ag) = true := decide_eq_true b7; clear b7
             by_cases cq : 0 ≤ an
             ·rw [if_pos cq] at H
              have c31b0 : decide (0 ≤ an) = true := decide_eq_true cq; clear cq
              by_cases cr : an < (az.length : Int)
              ·rw [if_pos cr] at H
               have c32b0 : decide (an < (az.length : Int)) = true := decide_eq_true cr; clear cr; obtain ⟨a8, ca⟩ : ∃ j_ : Int, (wrap64 ((wrap64 (ae * ag)) + an)) = j_ := ⟨_, rfl⟩
               replace H : (if 0 ≤ (a8) then (if (a8) < (ai.length : Int) then ((hornbeamref04_Plus.f k3 (rd az an) (rd ai (a8))).bind fun dy => (if dy.2 = 0 then (hornbeamref12_Sum.l1 k3 a2 (az.set (an : Int).toNat dy.1) ae (wrap64 (an + 1)) aj ak ag ai ab aw ax ay) else (some (([] : List Int), 0, 0, 0, dy.2)))) else (none)) else (none)) = some (r1, r2, r3, r4, r5) := by first | (rw [ca] at H; exact H) | (simp only [ca] at H ⊢; exact H)
               have hc : (IntKind.i64.wrap ((wrap64 (ae * ag)) + an)) = a8 := (i64_w _).trans ca
               by_cases ct : 0 ≤ (a8)
               ·rw [if_pos ct] at H
                have c34b0 : decide (0 ≤ (a8)) = true := decide_eq_true ct; clear ct
                by_cases cu : (a8) < (ai.length : Int)
                ·rw [if_pos cu] at H
                 have c35b0 : decide ((a8) < (ai.length : Int)) = true := decide_eq_true cu; clear cu; replace H := ooB.mp H; obtain ⟨⟨cb, bm⟩, fc, H⟩ := H; (try dsimp only at H); have gp := aaM fc; clear fc; have := ba.out; have := bb.out; have := cm.out; have := cn.out; obtain ⟨_, _, _, _, _, _, _, _, _, _⟩ := bE5 aa.out; (try go_wp2); replace am := aaM (rrD am.out); replace aa := aaM (bD aa.out); replace ac := aaM (bD ac.out); replace af := aaM (bD af.out); replace HB := aaM (lD HB.out); obtain ⟨he, gq, fd⟩ := Kd.R_slice am.out; (first | subst fd | (injection fd with fe gr ff; have gt := fe.symm; have gu := ff.symm; clear fe gr ff; subst gt; subst gu)); have dz : 0 ≤ (an : Int) := of_decide_eq_true (by first | (with_reducible assumption) | assumption); have d0 : an < (az.length : Int) := of_decide_eq_true (by first | (with_reducible assumption) | assumption); obtain ⟨gv, gw, d1⟩ := Kd.at_int (Kd.R_reads' am.out).2.2 an dz d0
                 cases gw
                 replace dz := eq_true dz; replace d0 := eq_true d0; have d2 : 0 ≤ ((a8) : Int) := of_decide_eq_true (by first | (with_reducible assumption) | assumption); have d3 : (a8) < (ai.length : Int) := of_decide_eq_true (by first | (with_reducible assumption) | assumption); obtain ⟨fg, gx, cc⟩ := Kd.at_int cz.out (a8) d2 d3; have cv := cc
                 cases gx
                 replace cc := (HB.out.cell (World.block_lt_of_cell? w _ cc)).trans cc; replace d2 := eq_true d2; replace d3 := eq_true d3; refine start_ (n := 20) (S := fun w' => w'.cell? ⟨ao, 0, none⟩ = some (.int .i64 aj) ∧ w'.cell? ⟨ao, 1, none⟩ = some (.int .i64 ak) ∧ w'.cell? ⟨ao, 2, none⟩ = some (.int .i64 ag) ∧ w'.cell? ⟨ao, 3, none⟩ = some (.slice (some fg) ai.length a6) ∧ w'.cell? ⟨ao, 4, none⟩ = some (.slice be ab.length a7) ∧ w'.cell? (gv.add (an).toNat) = some (.int .i64 (rd az an)) ∧ w'.cell? (fg.add ((a8)).toNat) = some (.int .i64 (rd ai (a8)))) (ds := []) #[false, false, false, false, false, false, false, false, false, false, false, false, false, false, false, false, false, false, false, false] (by kernel_rfl) rfl rfl ⟨(bC aa.out 0).trans rfl, (bC aa.out 1).trans rfl, (bC aa.out 2).trans rfl, (bC aa.out 3).trans rfl, (bC aa.out 4).trans rfl, d1, ((HB.out.cell (World.block_lt_of_cell? w _ cv)).trans cv)⟩ (fun hHeld => ?_); refine with_tabW hornbeamref12_Sum.tab13 hornbeamref12_Sum.bits13 (fun HT_ HW_ => ?_); generalize wr.drew = hf at am aa ac af HB d1 cc hHeld ⊢; refine pU 0 52 (qB 20 1) HT_ ?_
                 refine pU 1 53 (qB 20 3) HT_ ?_
                 refine pU 2 54 (qB 20 7) HT_ ?_
                 refine pU 4 56 (qB 20 23) HT_ ?_
                 refine pU 6 58 (qB 20 87) HT_ ?_
                 refine pU 7 59 (qB 20 215) HT_ ?_
                 refine pU 10 62 (qB 20 1239) HT_ ?_
                 refine tU 3 55 (qB 20 1247) HT_ HW_ hHeld ?_
                 refine tU 5 57 (qB 20 1279) HT_ HW_ hHeld ?_
                 refine tU 8 60 (qB 20 1535) HT_ HW_ hHeld ?_
                 refine pU 9 61 (qB 20 2047) HT_ ?_
                 refine pU 11 63 (qB 20 4095) HT_ ?_
                 refine pU 12 64 (qB 20 8191) HT_ ?_
                 refine tU 13 65 (qB 20 16383) HT_ HW_ hHeld ?_
                 refine oU 14 (some 66) (qB 20 32767) HT_ (fun K hK => ?_); refine goes_ Try.func39 (by kernel_rfl) rfl #[.int .i64 (rd az an), .int .i64 (rd ai (a8))] (by rfl) rfl rfl (by (try simp only [mmT, mmC, mmN]); first | done | (simp only [ca]; rfl) | rfl | (simp only [ddD, ddT]; rfl)) ?_; (with_reducible refine (hornbeamref04_Plus.calls k3 (rd az an) (rd ai (a8)) cb bm _ gp.out).mono ?_); rintro e fh ⟨rfl, hb⟩; have gy := (hb.cell (World.block_lt_of_cell? _ _ (hHeld.2.2.2.2.2.1))).trans (hHeld.2.2.2.2.2.1); refine ⟨_, rfl, ?_⟩; replace am := aaM (rrB (rZ am) hb); replace aa := bY hb aa; replace ac := bY hb ac; replace af := bY hb af; replace HB := aaM (lP (lB HB) hb); (try clear hb); (try clear hk); refine hK.out _ _ ⟨(bC aa.out 0).trans rfl, (bC aa.out 1).trans rfl, (bC aa.out 2).trans rfl, (bC aa.out 3).trans rfl, (bC aa.out 4).trans rfl, gy, ((HB.out.cell (World.block_lt_of_cell? w _ cv)).trans cv)⟩ (fun hHeld => ?_); clear hK K; refine nU 66 ?_
                 refine pU 15 51 (qB 20 65535) HT_ ?_
                 refine pU 16 67 (qB 20 131071) HT_ ?_
                 refine pU 17 68 (qB 20 262143) HT_ ?_
                 refine pU 18 13 (qB 20 524287) HT_ ?_
                 refine pU 19 14 (qB 20 1048575) HT_ ?_
                 refine done_ (done_of HT_.out (by kernel_rfl)) ?_
                 by_cases b0 : bm = 0
                 ·rw [if_pos b0] at H
                  have c37b0 : (bm == 0) = true := beq_iff_eq.mpr b0; have c37b1 : (bm != 0) = false := bne_eq_false_iff_eq.mpr b0; clear b0; obtain ⟨d4, cd⟩ : ∃ y_ : List Int, y_ = (az.set (an : Int).toNat cb) := ⟨_, rfl⟩
                  replace H : (hornbeamref12_Sum.l1 k3 a2 d4 ae (wrap64 (an + 1)) aj ak ag ai ab aw ax ay) = some (r1, r2, r3, r4, r5) := by first | (rw [cd]; with_reducible exact H) | (have br := (Option.bind_some _ _).symm.trans H; rw [cd]; with_reducible exact br) | (have br := (Option.bind_some _ _).symm.trans H; with_reducible exact br) | with_reducible exact H | (rw [cd]; exact H) | exact H
                  have gz := aaM cd; clear cd; have H' := aaM H; clear H; have d5 : 0 ≤ (an : Int) := of_decide_eq_true (by first | (with_reducible assumption) | assumption); have d6 : (an : Int) < ((az.length : Int) : Int) := of_decide_eq_true (by first | (with_reducible assumption) | assumption); obtain ⟨d7, hh, fi, fj, g0, hj, fk⟩ := Kd.R_form am.out (by omega); (first | cases fi | (injection fi with ea_ en_ ec_; (first | subst ea_ | (injection ea_ with ea_; subst ea_)); subst ec_; clear en_)); have g1 := aaM fj; have hl := aaM fk; clear fj g0 fk; (first | simp only [add_plain] at d1 | skip); obtain ⟨hm, hq⟩ := Kd.R_celln 0 am.out (an : Int) d5 d6; replace d5 := eq_true d5; replace d6 := eq_true d6; obtain ⟨hs, ht⟩ := Kd.R_celln 0 am.out (an : Int) (of_decide_eq_true (by first | (with_reducible assumption) | assumption)) (of_decide_eq_true (by first | (with_reducible assumption) | assumption)); have d8 := Kd.R_putg am.out (an : Int) cb; (try go_wp2_with (first | ((with_reducible refine gate_store (t := 2) (p := 76) rfl ?_); refine store_event (t := 2) (p := 76) (v := ?vo_w46) (w1 := (fh.setCell ⟨d7, (an : Int).toNat, none⟩ (.int .i64 cb))) ?hg ?ho ?hn ?hr ?_; (case ho => rfl); (case hg => rfl); (case hn => rfl); (case hr => first | (go_simp; done) | (go_simp; rfl)); intro d9 hw; have hg : fh.grownBy d9 (some d7) := (by rw [hw]; exact d8.2); have hp_ : Kd.R (Kd.int .i64) 2 d9 w.heap.size (fun _ => True) (.slice (some ⟨d7, 0, none⟩) az.length gq) d4 := (by rw [hw, gz.out]; exact d8.1); clear d8; replace aa := aaM (blk_grown (g := ao) (bZ aa) hg (Kd.R_ne am.out aa.out (by decide))); replace ac := aaM (blk_grown (g := a3) (bZ ac) hg (Kd.R_ne am.out ac.out (by decide))); replace af := aaM (blk_grown (g := ap) (bZ af) hg (Kd.R_ne am.out af.out (by decide))); replace am := aaM (hp_); replace HB := aaM ((by rw [hw]; exact lS (HB.out) g1.out : Below w.heap.size w d9)); clear hg hw hp_)))
                  go_roundg k3
                  case measure => have := b3.out; have := b5.out; have := b6.out; omega
                  case rel => exact ⟨(d4), (wrap64 (an + 1)), (bv), (bw), (bz), (eF), H', ⟨by have := b3.out; have := b5.out; have := b6.out; omega⟩, ⟨rZ am⟩, ⟨bZ aa⟩, ⟨bZ ac⟩, ⟨bZ af⟩, ⟨lB HB⟩⟩
                 ·rw [if_neg b0] at H
                  have c37b0 : (bm == 0) = false := beq_eq_false_iff_ne.mpr b0; have c37b1 : (bm != 0) = true := bne_iff_ne.mpr b0; simp only [Option.some.injEq, Prod.mk.injEq] at H; obtain ⟨rfl, rfl, rfl, rfl, rfl⟩ := H; have := bs.out; have := bt.out; obtain ⟨_, _, _, _, _, _⟩ := bE3 ac.out; (try go_wp2); refine bodyPost_ret (results_list (rs := [.tmp 6, .cell 7 54, .tmp 8]) rfl (by simp) (.tmp (.cell a3 54 #[.int .i64 0, .int .i64 0, .int .i64 0] (0, 0) _ rfl (bZ ac) Try.underlying54 rfl (by kernel_rfl) (.tmp .nil)))) rfl ?_
                  exact ⟨_, by first | rfl | (simp [errW_none, errW_some] <;> rfl) | (simp only [← ca]; first | rfl | (simp [errW_none, errW_some] <;> rfl)) | (simp [*, errW_none, errW_some] <;> rfl), by first | exact Kd.R_nil _ _ _ _ _ | exact Kd.N_nil _ _ _ _ _ | exact Kd.V_nil _ _ _ _ _ | exact Kd.Q_nil _ _ _ _ _ | exact Kd.S_nil _ _ _ _ _, lB HB⟩
                ·rw [if_neg cu] at H
                 exact absurd H (by simp)
               ·rw [if_neg ct] at H
                exact absurd H (by simp)
              ·rw [if_neg cr] at H
               exact absurd H (by simp)
             ·rw [if_neg cq] at H
              exact absurd H (by simp)
            ·rw [if_neg b7] at H
             have c30b0 : decide (an < ag) = false := decide_eq_false b7; clear b7
             by_cases b1 : aj = 1
             ·rw [if_pos b1] at H
              have c55b0 : (aj == 1) = true := beq_iff_eq.mpr b1; have c55b1 : (aj != 1) = false := bne_eq_false_iff_eq.mpr b1; clear b1
              by_cases cw : 0 ≤ ae
              ·rw [if_pos cw] at H
               have c56b0 : decide (0 ≤ ae) = true := decide_eq_true cw; clear cw
               by_cases cx : ae < (ab.length : Int)
               ·rw [if_pos cx] at H
                have c57b0 : decide (ae < (ab.length : Int)) = true := decide_eq_true cx; clear cx; replace H := ooB.mp H; obtain ⟨⟨bh, bi, bj, bc⟩, fl, H⟩ := H; (try dsimp only at H); have fm := aaM fl; clear fl; have := ba.out; have := bb.out; have := cm.out; have := cn.out; obtain ⟨_, _, _, _, _, _, _, _, _, _⟩ := bE5 aa.out; (try go_wp2); replace am := aaM (rrD am.out); replace aa := aaM (bD aa.out); replace ac := aaM (bD ac.out); replace af := aaM (bD af.out); replace HB := aaM (lD HB.out); have ea : 0 ≤ (ae : Int) := of_decide_eq_true (by first | (with_reducible assumption) | assumption); have eb : ae < (ab.length : Int) := of_decide_eq_true (by first | (with_reducible assumption) | assumption); obtain ⟨a0, g2, ce, cf, cg⟩ := at_T54 c0.out ae ea eb; have ar := cg; have au := cf; have av := ce
                cases g2
                replace ce := (HB.out.cell (World.block_lt_of_cell? w _ ce)).trans ce; replace cf := (HB.out.cell (World.block_lt_of_cell? w _ cf)).trans cf; replace cg := (HB.out.cell (World.block_lt_of_cell? w _ cg)).trans cg; replace ea := eq_true ea; replace eb := eq_true eb; refine start_ (n := 13) (S := fun w' => w'.cell? ⟨ap, 0, none⟩ = some (.int .i64 aw) ∧ w'.cell? ⟨ap, 1, none⟩ = some (.int .i64 ax) ∧ w'.cell? ⟨ap, 2, none⟩ = some (.int .i64 ay) ∧ w'.cell? ⟨ao, 0, none⟩ = some (.int .i64 aj) ∧ w'.cell? ⟨ao, 1, none⟩ = some (.int .i64 ak) ∧ w'.cell? ⟨ao, 2, none⟩ = some (.int .i64 ag) ∧ w'.cell? ⟨ao, 3, none⟩ = some (.slice a9 ai.length a6) ∧ w'.cell? ⟨ao, 4, none⟩ = some (.slice (some a0) ab.length a7) ∧ w'.cell? (a0.add ((ae).toNat * 3)) = some (.int .i64 ((rd_T54 ab ae).f0)) ∧ w'.cell? ⟨(a0.add ((ae).toNat * 3)).block, (a0.add ((ae).toNat * 3)).off + 1, none⟩ = some (.int .i64 ((rd_T54 ab ae).f1)) ∧ w'.cell? ⟨(a0.add ((ae).toNat * 3)).block, (a0.add ((ae).toNat * 3)).off + 2, none⟩ = some (.int .i64 ((rd_T54 ab ae).f2))) (ds := []) #[false, false, false, false, false, false, false, false, false, false, false, false, false] (by kernel_rfl) rfl rfl ⟨(bC af.out 0).trans rfl, (bC af.out 1).trans rfl, (bC af.out 2).trans rfl, (bC aa.out 0).trans rfl, (bC aa.out 1).trans rfl, (bC aa.out 2).trans rfl, (bC aa.out 3).trans rfl, (bC aa.out 4).trans rfl, ((HB.out.cell (World.block_lt_of_cell? w _ av)).trans av), ((HB.out.cell (World.block_lt_of_cell? w _ au)).trans au), ((HB.out.cell (World.block_lt_of_cell? w _ ar)).trans ar)⟩ (fun hHeld => ?_); refine with_tabW hornbeamref12_Sum.tab18 hornbeamref12_Sum.bits18 (fun HT_ HW_ => ?_); generalize wr.drew = hu at am aa ac af HB ce cf cg hHeld ⊢; refine pU 1 82 (qB 13 2) HT_ ?_
                refine pU 3 84 (qB 13 10) HT_ ?_
                refine tU 0 81 (qB 13 11) HT_ HW_ hHeld ?_
                refine tU 2 83 (qB 13 15) HT_ HW_ hHeld ?_
                refine pU 4 85 (qB 13 31) HT_ ?_
                refine tU 5 86 (qB 13 63) HT_ HW_ hHeld ?_
                refine join_ (σ := Nat) 2 (qB 13 2047) (fun s_ => [(87, .tuple #[.agg #[.int .i64 bh, .int .i64 bi, .int .i64 bj], .int .i64 bc]), (15, .pointer (some ⟨s_, 0, none⟩)), (80, .tuple #[.agg #[.int .i64 bh, .int .i64 bi, .int .i64 bj], .int .i64 bc]), (88, .agg #[.int .i64 bh, .int .i64 bi, .int .i64 bj]), (89, .int .i64 bc)]) (fun s_ w' => (w'.cell? ⟨ap, 0, none⟩ = some (.int .i64 aw) ∧ w'.cell? ⟨ap, 1, none⟩ = some (.int .i64 ax) ∧ w'.cell? ⟨ap, 2, none⟩ = some (.int .i64 ay) ∧ w'.cell? ⟨ao, 0, none⟩ = some (.int .i64 aj) ∧ w'.cell? ⟨ao, 1, none⟩ = some (.int .i64 ak) ∧ w'.cell? ⟨ao, 2, none⟩ = some (.int .i64 ag) ∧ w'.cell? ⟨ao, 3, none⟩ = some (.slice a9 ai.length a6) ∧ w'.cell? ⟨ao, 4, none⟩ = some (.slice (some a0) ab.length a7) ∧ w'.cell? (a0.add ((ae).toNat * 3)) = some (.int .i64 ((rd_T54 ab ae).f0)) ∧ w'.cell? ⟨(a0.add ((ae).toNat * 3)).block, (a0.add ((ae).toNat * 3)).off + 1, none⟩ = some (.int .i64 ((rd_T54 ab ae).f1)) ∧ w'.cell? ⟨(a0.add ((ae).toNat * 3)).block, (a0.add ((ae).toNat * 3)).off + 2, none⟩ = some (.int .i64 ((rd_T54 ab ae).f2))) ∧ (Kd.R (Kd.int .i64) 2 w' w.heap.size (fun _ => True) cl az) ∧ (w'.heap[ao]? = some (.cells #[.int .i64 aj, .int .i64 ak, .int .i64 ag, .slice a9 ai.length a6, .slice (some a0) ab.length a7] 25 (0, 0))) ∧ (w'.heap[a3]? = some (.cells #[.int .i64 bv, .int .i64 bw, .int .i64 bz] 54 (0, 0))) ∧ (w'.heap[ap]? = some (.cells #[.int .i64 aw, .int .i64 ax, .int .i64 ay] 54 (0, 0))) ∧ (w'.heap[s_]? = some (.cells #[.int .i64 0, .int .i64 0, .int .i64 0] 54 (0, 0))) ∧ (w.heap.size ≤ s_) ∧ (w.heap.size ≤ s_) ∧ (ao ≠ s_) ∧ (s_ ≠ ao) ∧ (a3 ≠ s_) ∧ (s_ ≠ a3) ∧ (ap ≠ s_) ∧ (s_ ≠ ap) ∧ (Below w.heap.size w w')) ?_ ?_; rotate_left
                ·intro hCont
                 refine two_ (i := 6) (j := 10) (Ni := some 87) (Nj := some 15) (qB 13 127) (qB 13 1087) rfl rfl rfl rfl (two_of HT_.out (by kernel_rfl)) (by decide) (by decide) (fun K hK => ?_) (fun K hK => ?_)
                 ·skip
                  refine gU Try.func40 #[.agg #[.int .i64 aw, .int .i64 ax, .int .i64 ay], .agg #[.int .i64 ((rd_T54 ab ae).f0), .int .i64 ((rd_T54 ab ae).f1), .int .i64 ((rd_T54 ab ae).f2)]] ?_; (with_reducible refine (hornbeamref12_plus.calls k3 aw ax ay ((rd_T54 ab ae).f0) ((rd_T54 ab ae).f1) ((rd_T54 ab ae).f2) bh bi bj bc _ fm.out).mono ?_); rintro e g3 ⟨rfl, hb⟩; refine ⟨_, rfl, ?_⟩; replace am := aaM (rrB (rZ am) hb); replace aa := bY hb aa; replace ac := bY hb ac; replace af := bY hb af; replace HB := aaM (lP (lB HB) hb); (try clear hb); (try clear hk); refine hK.out _ _ ⟨(bC af.out 0).trans rfl, (bC af.out 1).trans rfl, (bC af.out 2).trans rfl, (bC aa.out 0).trans rfl, (bC aa.out 1).trans rfl, (bC aa.out 2).trans rfl, (bC aa.out 3).trans rfl, (bC aa.out 4).trans rfl, ((HB.out.cell (World.block_lt_of_cell? w _ av)).trans av), ((HB.out.cell (World.block_lt_of_cell? w _ au)).trans au), ((HB.out.cell (World.block_lt_of_cell? w _ ar)).trans ar)⟩ (fun hHeld => ?_); clear hK K; refine nU 87 ?_
                  refine pU 7 80 (qB 13 255) HT_ ?_
                  refine pU 8 88 (qB 13 511) HT_ ?_
                  refine pU 9 89 (qB 13 1023) HT_ ?_
                  refine oU 10 (some 15) (qB 13 2047) HT_ (fun K hK => ?_); refine box_step ?hg (N := 15) ?hd (cs := #[.int .i64 0, .int .i64 0, .int .i64 0]) (t := 54) ?hr ?_; (case hd => rfl); (case hg => rfl); (case hr => first | (go_simp; done) | (go_simp; rfl)); intro ah hg g4 hbox hb; have hP_ := lQ (lB HB) hb; replace am := aaM (rrB (rZ am) hb); replace HB := aaM hP_.1; have bd := aaM (hbox); have al := aaM (gQ hg hP_.2); have cy := aaM (gQ hg hP_.2); obtain ⟨aq, bn⟩ := nS hg aa; replace aa := bY hb aa; obtain ⟨bk, bl⟩ := nS hg ac; replace ac := bY hb ac; obtain ⟨a4, bo⟩ := nS hg af; replace af := bY hb af; clear hb hbox hg hP_; refine hK.out _ _ ⟨(bC af.out 0).trans rfl, (bC af.out 1).trans rfl, (bC af.out 2).trans rfl, (bC aa.out 0).trans rfl, (bC aa.out 1).trans rfl, (bC aa.out 2).trans rfl, (bC aa.out 3).trans rfl, (bC aa.out 4).trans rfl, ((HB.out.cell (World.block_lt_of_cell? w _ av)).trans av), ((HB.out.cell (World.block_lt_of_cell? w _ au)).trans au), ((HB.out.cell (World.block_lt_of_cell? w _ ar)).trans ar)⟩ (fun hHeld => ?_); clear hK K; refine nU 15 ?_
                  exact norm_ (by simp only [putAll, Act.put, ssB, ssZ, ssS]) (hCont (ah) _ ⟨hHeld, (rZ am), (bZ aa), (bZ ac), (bZ af), (bZ bd), al.out, cy.out, aq.out, bn.out, bk.out, bl.out, a4.out, bo.out, (lB HB)⟩)
                 ·skip
                  refine box_step ?hg (N := 15) ?hd (cs := #[.int .i64 0, .int .i64 0, .int .i64 0]) (t := 54) ?hr ?_; (case hd => rfl); (case hg => rfl); (case hr => first | (go_simp; done) | (go_simp; rfl)); intro ah hg g3 hbox hb; have hP_ := lQ (lB HB) hb; replace am := aaM (rrB (rZ am) hb); replace HB := aaM hP_.1; have bd := aaM (hbox); have al := aaM (gQ hg hP_.2); have cy := aaM (gQ hg hP_.2); obtain ⟨aq, bn⟩ := nS hg aa; replace aa := bY hb aa; obtain ⟨bk, bl⟩ := nS hg ac; replace ac := bY hb ac; obtain ⟨a4, bo⟩ := nS hg af; replace af := bY hb af; clear hb hbox hg hP_; refine hK.out _ _ ⟨(bC af.out 0).trans rfl, (bC af.out 1).trans rfl, (bC af.out 2).trans rfl, (bC aa.out 0).trans rfl, (bC aa.out 1).trans rfl, (bC aa.out 2).trans rfl, (bC aa.out 3).trans rfl, (bC aa.out 4).trans rfl, ((HB.out.cell (World.block_lt_of_cell? w _ av)).trans av), ((HB.out.cell (World.block_lt_of_cell? w _ au)).trans au), ((HB.out.cell (World.block_lt_of_cell? w _ ar)).trans ar)⟩ (fun hHeld => ?_); clear hK K; refine nU 15 ?_
                  refine oU 6 (some 87) (qB 13 1151) HT_ (fun K hK => ?_); refine gU Try.func40 #[.agg #[.int .i64 aw, .int .i64 ax, .int .i64 ay], .agg #[.int .i64 ((rd_T54 ab ae).f0), .int .i64 ((rd_T54 ab ae).f1), .int .i64 ((rd_T54 ab ae).f2)]] ?_; (with_reducible refine (hornbeamref12_plus.calls k3 aw ax ay ((rd_T54 ab ae).f0) ((rd_T54 ab ae).f1) ((rd_T54 ab ae).f2) bh bi bj bc _ fm.out).mono ?_); rintro e g4 ⟨rfl, hb⟩; refine ⟨_, rfl, ?_⟩; replace am := aaM (rrB (rZ am) hb); replace aa := bY hb aa; replace ac := bY hb ac; replace af := bY hb af; replace bd := bY hb bd; replace HB := aaM (lP (lB HB) hb); (try clear hb); (try clear hk); refine hK.out _ _ ⟨(bC af.out 0).trans rfl, (bC af.out 1).trans rfl, (bC af.out 2).trans rfl, (bC aa.out 0).trans rfl, (bC aa.out 1).trans rfl, (bC aa.out 2).trans rfl, (bC aa.out 3).trans rfl, (bC aa.out 4).trans rfl, ((HB.out.cell (World.block_lt_of_cell? w _ av)).trans av), ((HB.out.cell (World.block_lt_of_cell? w _ au)).trans au), ((HB.out.cell (World.block_lt_of_cell? w _ ar)).trans ar)⟩ (fun hHeld => ?_); clear hK K; refine nU 87 ?_
                  refine pU 7 80 (qB 13 1279) HT_ ?_
                  refine pU 8 88 (qB 13 1535) HT_ ?_
                  refine pU 9 89 (qB 13 2047) HT_ ?_
                  exact norm_ (by simp only [putAll, Act.put, ssB, ssZ, ssS]) (hCont (ah) _ ⟨hHeld, (rZ am), (bZ aa), (bZ ac), (bZ af), (bZ bd), al.out, cy.out, aq.out, bn.out, bk.out, bl.out, a4.out, bo.out, (lB HB)⟩)
                rintro ah a5 ⟨hS_, h0_, h1_, h2_, h3_, h4_, h5_, h6_, h7_, h8_, h9_, fo, fp, fq, fr⟩; have fs : Aside0 (Kd.R (Kd.int .i64) 2 a5 w.heap.size (fun _ => True) cl az) := ⟨h0_⟩; have ft : Aside0 (a5.heap[ao]? = some (.cells #[.int .i64 aj, .int .i64 ak, .int .i64 ag, .slice a9 ai.length a6, .slice (some a0) ab.length a7] 25 (0, 0))) := ⟨h1_⟩; have fu : Aside0 (a5.heap[a3]? = some (.cells #[.int .i64 bv, .int .i64 bw, .int .i64 bz] 54 (0, 0))) := ⟨h2_⟩; have fv : Aside0 (a5.heap[ap]? = some (.cells #[.int .i64 aw, .int .i64 ax, .int .i64 ay] 54 (0, 0))) := ⟨h3_⟩; have fw : Aside0 (a5.heap[ah]? = some (.cells #[.int .i64 0, .int .i64 0, .int .i64 0] 54 (0, 0))) := ⟨h4_⟩; have fx : Aside0 (w.heap.size ≤ ah) := ⟨h5_⟩; have fy : Aside0 (w.heap.size ≤ ah) := ⟨h6_⟩; have fz : Aside0 (ao ≠ ah) := ⟨h7_⟩; have f3 : Aside0 (ah ≠ ao) := ⟨h8_⟩; have f4 : Aside0 (a3 ≠ ah) := ⟨h9_⟩; have f5 : Aside0 (ah ≠ a3) := ⟨fo⟩; have f6 : Aside0 (ap ≠ ah) := ⟨fp⟩; have f7 : Aside0 (ah ≠ ap) := ⟨fq⟩; have f8 : Aside0 (Below w.heap.size w a5) := ⟨fr⟩; clear am aa ac af HB h0_ h1_ h2_ h3_ h4_ h5_ h6_ h7_ h8_ h9_ fo fp fq fr; have am := fs; have aa := ft; have ac := fu; have af := fv; have bd := fw; have al := fx; have cy := fy; have aq := fz; have bn := f3; have bk := f4; have bl := f5; have a4 := f6; have bo := f7; have HB := f8; clear fs ft fu fv fw fx fy fz f3 f4 f5 f6 f7 f8; have hHeld : a5.cell? ⟨ap, 0, none⟩ = some (.int .i64 aw) ∧ a5.cell? ⟨ap, 1, none⟩ = some (.int .i64 ax) ∧ a5.cell? ⟨ap, 2, none⟩ = some (.int .i64 ay) ∧ a5.cell? ⟨ao, 0, none⟩ = some (.int .i64 aj) ∧ a5.cell? ⟨ao, 1, none⟩ = some (.int .i64 ak) ∧ a5.cell? ⟨ao, 2, none⟩ = some (.int .i64 ag) ∧ a5.cell? ⟨ao, 3, none⟩ = some (.slice a9 ai.length a6) ∧ a5.cell? ⟨ao, 4, none⟩ = some (.slice (some a0) ab.length a7) ∧ a5.cell? (a0.add ((ae).toNat * 3)) = some (.int .i64 ((rd_T54 ab ae).f0)) ∧ a5.cell? ⟨(a0.add ((ae).toNat * 3)).block, (a0.add ((ae).toNat * 3)).off + 1, none⟩ = some (.int .i64 ((rd_T54 ab ae).f1)) ∧ a5.cell? ⟨(a0.add ((ae).toNat * 3)).block, (a0.add ((ae).toNat * 3)).off + 2, none⟩ = some (.int .i64 ((rd_T54 ab ae).f2)) := hS_; refine norm_ (a' := ?_) ?_ ?_; rotate_left
                ·simp only [putAll, Act.put, ssB, ssZ, ssS]
                 rfl
                refine oU 11 none (qB 13 4095) HT_ (fun K hK => ?_); obtain ⟨hv, -, -, h0, -, -⟩ := bE3 bd.out; have := aq.out; have := bk.out; have := a4.out; have := bn.out; have := bl.out; have := bo.out; obtain ⟨-, h1, -, -, h2, -⟩ := bE3 bd.out; have := aq.out; have := bk.out; have := a4.out; have := bn.out; have := bl.out; have := bo.out; obtain ⟨-, -, h3, -, -, h4⟩ := bE3 bd.out; have := aq.out; have := bk.out; have := a4.out; have := bn.out; have := bl.out; have := bo.out; refine skip_ (w1 := ?_) (by rfl) rfl ?_ ?_; rotate_left
                ·go_simp
                 rfl
                refine hK.out _ _ ⟨((cell_far (p := ⟨ah, _, none⟩) a4.out _).trans (((cell_far (p := ⟨ah, _, none⟩) a4.out _).trans (((cell_far (p := ⟨ah, _, none⟩) a4.out _).trans (hHeld.1)))))), ((cell_far (p := ⟨ah, _, none⟩) a4.out _).trans (((cell_far (p := ⟨ah, _, none⟩) a4.out _).trans (((cell_far (p := ⟨ah, _, none⟩) a4.out _).trans (hHeld.2.1)))))), ((cell_far (p := ⟨ah, _, none⟩) a4.out _).trans (((cell_far (p := ⟨ah, _, none⟩) a4.out _).trans (((cell_far (p := ⟨ah, _, none⟩) a4.out _).trans (hHeld.2.2.1)))))), ((cell_far (p := ⟨ah, _, none⟩) aq.out _).trans (((cell_far (p := ⟨ah, _, none⟩) aq.out _).trans (((cell_far (p := ⟨ah, _, none⟩) aq.out _).trans (hHeld.2.2.2.1)))))), ((cell_far (p := ⟨ah, _, none⟩) aq.out _).trans (((cell_far (p := ⟨ah, _, none⟩) aq.out _).trans (((cell_far (p := ⟨ah, _, none⟩) aq.out _).trans (hHeld.2.2.2.2.1)))))), ((cell_far (p := ⟨ah, _, none⟩) aq.out _).trans (((cell_far (p := ⟨ah, _, none⟩) aq.out _).trans (((cell_far (p := ⟨ah, _, none⟩) aq.out _).trans (hHeld.2.2.2.2.2.1)))))), ((cell_far (p := ⟨ah, _, none⟩) aq.out _).trans (((cell_far (p := ⟨ah, _, none⟩) aq.out _).trans (((cell_far (p := ⟨ah, _, none⟩) aq.out _).trans (hHeld.2.2.2.2.2.2.1)))))), ((cell_far (p := ⟨ah, _, none⟩) aq.out _).trans (((cell_far (p := ⟨ah, _, none⟩) aq.out _).trans (((cell_far (p := ⟨ah, _, none⟩) aq.out _).trans (hHeld.2.2.2.2.2.2.2.1)))))), ((cell_far (p := ⟨ah, _, none⟩) (by first | exact Nat.ne_of_lt (Nat.lt_of_lt_of_le (by have := World.block_lt_of_cell? _ _ av; first | rwa [add_block] at this | exact this) al.out) | (rw [add_block]; exact Nat.ne_of_lt (Nat.lt_of_lt_of_le (by have := World.block_lt_of_cell? _ _ av; first | rwa [add_block] at this | exact this) al.out)) | (show (Addr.add _ _).block ≠ _; rw [add_block]; exact Nat.ne_of_lt (Nat.lt_of_lt_of_le (by have := World.block_lt_of_cell? _ _ av; first | rwa [add_block] at this | exact this) al.out)) | (dsimp only; exact Nat.ne_of_lt (Nat.lt_of_lt_of_le (by have := World.block_lt_of_cell? _ _ av; first | rwa [add_block] at this | exact this) al.out))) _).trans (((cell_far (p := ⟨ah, _, none⟩) (by first | exact Nat.ne_of_lt (Nat.lt_of_lt_of_le (by have := World.block_lt_of_cell? _ _ av; first | rwa [add_block] at this | exact this) al.out) | (rw [add_block]; exact Nat.ne_of_lt (Nat.lt_of_lt_of_le (by have := World.block_lt_of_cell? _ _ av; first | rwa [add_block] at this | exact this) al.out)) | (show (Addr.add _ _).block ≠ _; rw [add_block]; exact Nat.ne_of_lt (Nat.lt_of_lt_of_le (by have := World.block_lt_of_cell? _ _ av; first | rwa [add_block] at this | exact this) al.out)) | (dsimp only; exact Nat.ne_of_lt (Nat.lt_of_lt_of_le (by have := World.block_lt_of_cell? _ _ av; first | rwa [add_block] at this | exact this) al.out))) _).trans (((cell_far (p := ⟨ah, _, none⟩) (by first | exact Nat.ne_of_lt (Nat.lt_of_lt_of_le (by have := World.block_lt_of_cell? _ _ av; first | rwa [add_block] at this | exact this) al.out) | (rw [add_block]; exact Nat.ne_of_lt (Nat.lt_of_lt_of_le (by have := World.block_lt_of_cell? _ _ av; first | rwa [add_block] at this | exact this) al.out)) | (show (Addr.add _ _).block ≠ _; rw [add_block]; exact Nat.ne_of_lt (Nat.lt_of_lt_of_le (by have := World.block_lt_of_cell? _ _ av; first | rwa [add_block] at this | exact this) al.out)) | (dsimp only; exact Nat.ne_of_lt (Nat.lt_of_lt_of_le (by have := World.block_lt_of_cell? _ _ av; first | rwa [add_block] at this | exact this) al.out))) _).trans (hHeld.2.2.2.2.2.2.2.2.1)))))), ((cell_far (p := ⟨ah, _, none⟩) (by first | exact Nat.ne_of_lt (Nat.lt_of_lt_of_le (by have := World.block_lt_of_cell? _ _ au; first | rwa [add_block] at this | exact this) al.out) | (rw [add_block]; exact Nat.ne_of_lt (Nat.lt_of_lt_of_le (by have := World.block_lt_of_cell? _ _ au; first | rwa [add_block] at this | exact this) al.out)) | (show (Addr.add _ _).block ≠ _; rw [add_block]; exact Nat.ne_of_lt (Nat.lt_of_lt_of_le (by have := World.block_lt_of_cell? _ _ au; first | rwa [add_block] at this | exact this) al.out)) | (dsimp only; exact Nat.ne_of_lt (Nat.lt_of_lt_of_le (by have := World.block_lt_of_cell? _ _ au; first | rwa [add_block] at this | exact this) al.out))) _).trans (((cell_far (p := ⟨ah, _, none⟩) (by first | exact Nat.ne_of_lt (Nat.lt_of_lt_of_le (by have := World.block_lt_of_cell? _ _ au; first | rwa [add_block] at this | exact this) al.out) | (rw [add_block]; exact Nat.ne_of_lt (Nat.lt_of_lt_of_le (by have := World.block_lt_of_cell? _ _ au; first | rwa [add_block] at this | exact this) al.out)) | (show (Addr.add _ _).block ≠ _; rw [add_block]; exact Nat.ne_of_lt (Nat.lt_of_lt_of_le (by have := World.block_lt_of_cell? _ _ au; first | rwa [add_block] at this | exact this) al.out)) | (dsimp only; exact Nat.ne_of_lt (Nat.lt_of_lt_of_le (by have := World.block_lt_of_cell? _ _ au; first | rwa [add_block] at this | exact this) al.out))) _).trans (((cell_far (p := ⟨ah, _, none⟩) (by first | exact Nat.ne_of_lt (Nat.lt_of_lt_of_le (by have := World.block_lt_of_cell? _ _ au; first | rwa [add_block] at this | exact this) al.out) | (rw [add_block]; exact Nat.ne_of_lt (Nat.lt_of_lt_of_le (by have := World.block_lt_of_cell? _ _ au; first | rwa [add_block] at this | exact this) al.out)) | (show (Addr.add _ _).block ≠ _; rw [add_block]; exact Nat.ne_of_lt (Nat.lt_of_lt_of_le (by have := World.block_lt_of_cell? _ _ au; first | rwa [add_block] at this | exact this) al.out)) | (dsimp only; exact Nat.ne_of_lt (Nat.lt_of_lt_of_le (by have := World.block_lt_of_cell? _ _ au; first | rwa [add_block] at this | exact this) al.out))) _).trans (hHeld.2.2.2.2.2.2.2.2.2.1)))))), ((cell_far (p := ⟨ah, _, none⟩) (by first | exact Nat.ne_of_lt (Nat.lt_of_lt_of_le (by have := World.block_lt_of_cell? _ _ ar; first | rwa [add_block] at this | exact this) al.out) | (rw [add_block]; exact Nat.ne_of_lt (Nat.lt_of_lt_of_le (by have := World.block_lt_of_cell? _ _ ar; first | rwa [add_block] at this | exact this) al.out)) | (show (Addr.add _ _).block ≠ _; rw [add_block]; exact Nat.ne_of_lt (Nat.lt_of_lt_of_le (by have := World.block_lt_of_cell? _ _ ar; first | rwa [add_block] at this | exact this) al.out)) | (dsimp only; exact Nat.ne_of_lt (Nat.lt_of_lt_of_le (by have := World.block_lt_of_cell? _ _ ar; first | rwa [add_block] at this | exact this) al.out))) _).trans (((cell_far (p := ⟨ah, _, none⟩) (by first | exact Nat.ne_of_lt (Nat.lt_of_lt_of_le (by have := World.block_lt_of_cell? _ _ ar; first | rwa [add_block] at this | exact this) al.out) | (rw [add_block]; exact Nat.ne_of_lt (Nat.lt_of_lt_of_le (by have := World.block_lt_of_cell? _ _ ar; first | rwa [add_block] at this | exact this) al.out)) | (show (Addr.add _ _).block ≠ _; rw [add_block]; exact Nat.ne_of_lt (Nat.lt_of_lt_of_le (by have := World.block_lt_of_cell? _ _ ar; first | rwa [add_block] at this | exact this) al.out)) | (dsimp only; exact Nat.ne_of_lt (Nat.lt_of_lt_of_le (by have := World.block_lt_of_cell? _ _ ar; first | rwa [add_block] at this | exact this) al.out))) _).trans (((cell_far (p := ⟨ah, _, none⟩) (by first | exact Nat.ne_of_lt (Nat.lt_of_lt_of_le (by have := World.block_lt_of_cell? _ _ ar; first | rwa [add_block] at this | exact this) al.out) | (rw [add_block]; exact Nat.ne_of_lt (Nat.lt_of_lt_of_le (by have := World.block_lt_of_cell? _ _ ar; first | rwa [add_block] at this | exact this) al.out)) | (show (Addr.add _ _).block ≠ _; rw [add_block]; exact Nat.ne_of_lt (Nat.lt_of_lt_of_le (by have := World.block_lt_of_cell? _ _ ar; first | rwa [add_block] at this | exact this) al.out)) | (dsimp only; exact Nat.ne_of_lt (Nat.lt_of_lt_of_le (by have := World.block_lt_of_cell? _ _ ar; first | rwa [add_block] at this | exact this) al.out))) _).trans (hHeld.2.2.2.2.2.2.2.2.2.2))))))⟩ (fun hHeld => ?_)
                clear hK K; refine pU 12 16 (qB 13 8191) HT_ ?_
                refine done_ (done_of HT_.out (by kernel_rfl)) ?_
                by_cases b2 : bc = 0
                ·rw [if_pos b2] at H
                 have c59b0 : (bc == 0) = true := beq_iff_eq.mpr b2; have c59b1 : (bc != 0) = false := bne_eq_false_iff_eq.mpr b2; clear b2; have H' := aaM H; clear H; have := bn.out; have := aq.out; have := bl.out; have := bk.out; have := bo.out; have := a4.out; obtain ⟨_, _, _, _, _, _⟩ := bE3 bd.out; have := bt.out; have := bs.out; obtain ⟨_, _, _, _, _, _⟩ := bE3 af.out; (try go_wp2)
                 go_roundg k3
                 case measure => have := b3.out; have := b5.out; have := b6.out; omega
                 case rel => exact ⟨(az), (wrap64 (ae + 1)), (bv), (bw), (bz), (bh), (bi), (bj), (eF), H', ⟨by have := b3.out; have := b5.out; have := b6.out; omega⟩, ⟨by (with_reducible repeat (first | apply rrA | apply rrN | apply rrD)); exact Kd.R_mono (rrF (p := ⟨ap, 2, none⟩) (rrF (p := ⟨ap, 1, none⟩) (rrF (p := ⟨ap, 0, none⟩) (rrF (p := ⟨ah, 2, none⟩) (rrF (p := ⟨ah, 1, none⟩) (rrF (p := ⟨ah, 0, none⟩) (Kd.R_types (Kd.R_types am.out bd.out (by decide)) af.out (by decide)) (fun _ hk => hk.1.2) (.int .i64 bh)) (fun _ hk => hk.1.2) (.int .i64 bi)) (fun _ hk => hk.1.2) (.int .i64 bj)) (fun _ hk => hk.2) (.int .i64 bh)) (fun _ hk => hk.2) (.int .i64 bi)) (fun _ hk => hk.2) (.int .i64 bj)) (fun _ hk => trivial)⟩, ⟨bZ aa⟩, ⟨bZ ac⟩, ⟨bZ af⟩, ⟨lB HB⟩⟩
                ·rw [if_neg b2] at H
                 have c59b0 : (bc == 0) = false := beq_eq_false_iff_ne.mpr b2; have c59b1 : (bc != 0) = true := bne_iff_ne.mpr b2; simp only [Option.some.injEq, Prod.mk.injEq] at H; obtain ⟨rfl, rfl, rfl, rfl, rfl⟩ := H; have := bs.out; have := bt.out; have := bk.out; have := bl.out; obtain ⟨_, _, _, _, _, _⟩ := bE3 ac.out; (try go_wp2); refine bodyPost_ret (results_list (rs := [.tmp 6, .cell 7 54, .tmp 8]) rfl (by simp) (.tmp (.cell a3 54 #[.int .i64 0, .int .i64 0, .int .i64 0] (0, 0) _ rfl (bZ ac) Try.underlying54 rfl (by kernel_rfl) (.tmp .nil)))) rfl ?_
                 exact ⟨_, eE, by first | exact Kd.R_nil _ _ _ _ _ | exact Kd.N_nil _ _ _ _ _ | exact Kd.V_nil _ _ _ _ _ | exact Kd.Q_nil _ _ _ _ _ | exact Kd.S_nil _ _ _ _ _, lB HB⟩
               ·rw [if_neg cx] at H
                exact absurd H (by simp)
              ·rw [if_neg cw] at H
               exact absurd H (by simp)
             ·rw [if_neg b1] at H
              have c55b0 : (aj == 1) = false := beq_eq_false_iff_ne.mpr b1; have c55b1 : (aj != 1) = true := bne_iff_ne.mpr b1; have H' := aaM H; clear H; have := ba.out; have := bb.out; have := cm.out; have := cn.out; obtain ⟨_, _, _, _, _, _, _, _, _, _⟩ := bE5 aa.out; go_wp2
              go_roundg k3
              case measure => have := b3.out; have := b5.out; have := b6.out; omega
              case rel => exact ⟨(az), (wrap64 (ae + 1)), (bv), (bw), (bz), (aw), (ax), (ay), (eF), H', ⟨by have := b3.out; have := b5.out; have := b6.out; omega⟩, ⟨rZ am⟩, ⟨bZ aa⟩, ⟨bZ ac⟩, ⟨bZ af⟩, ⟨lB HB⟩⟩
         ·rw [if_neg bu] at H
          have c29b0 : decide (ae < a2) = false := decide_eq_false bu; clear bu; simp only [Option.some.injEq, Prod.mk.injEq] at H; obtain ⟨rfl, rfl, rfl, rfl, rfl⟩ := H; (try go_wp2); replace am := aaM (rrD am.out); replace aa := aaM (bD aa.out); replace ac := aaM (bD ac.out); replace af := aaM (bD af.out); replace HB := aaM (lD HB.out); refine start_ (n := 5) (S := fun w' => w'.cell? ⟨ap, 0, none⟩ = some (.int .i64 aw) ∧ w'.cell? ⟨ap, 1, none⟩ = some (.int .i64 ax) ∧ w'.cell? ⟨ap, 2, none⟩ = some (.int .i64 ay)) (ds := []) _ (by kernel_rfl) rfl rfl hD (fun hHeld => ?_); generalize wr.drew = h5 at am aa ac af HB hHeld ⊢; refine pure_ (i := 0) (N := some 95) (v := ?_) (a' := ?_) (qB 5 1) rfl rfl (by kernel_rfl) (fun _ _ _ h => h) (Or.inl ⟨by rfl, ?_⟩) ?_ ?_; rotate_left
          ·intro w'
           go_simp; (with_reducible rfl)
          rotate_left
          ·simp only [Act.put, ssB, ssZ, ssS, i64_w, i32_w]
           rfl
          refine pure_ (i := 2) (N := some 6) (v := ?_) (a' := ?_) (qB 5 5) rfl rfl (by kernel_rfl) (fun _ _ _ h => h) (Or.inl ⟨by rfl, ?_⟩) ?_ ?_; rotate_left
          ·intro w'
           go_simp; (with_reducible rfl)
          rotate_left
          ·simp only [Act.put, ssB, ssZ, ssS, i64_w, i32_w]
           rfl
          refine take_ (i := 1) (N := some 96) (v := ?_) (a' := ?_) (qB 5 7) rfl rfl (by kernel_rfl) (fun _ _ _ h => h) (Or.inl ⟨by rfl, ?_⟩) hHeld ?_ ?_; rotate_left
          ·rintro w' ⟨s0, s1, s2⟩
           go_simp; (with_reducible rfl)
          rotate_left
          ·simp only [Act.put, ssB, ssZ, ssS, i64_w, i32_w]
           rfl
          refine one_ (i := 3) (N := none) (qB 5 15) rfl rfl (by kernel_rfl) (by decide) (fun K hK => ?_); obtain ⟨h6, -, -, h7, -, -⟩ := bE3 ac.out; have := ba.out; have := bt.out; have := bb.out; have := bs.out; obtain ⟨-, h8, -, -, h9, -⟩ := bE3 ac.out; have := ba.out; have := bt.out; have := bb.out; have := bs.out; obtain ⟨-, -, ia, -, -, ib⟩ := bE3 ac.out; have := ba.out; have := bt.out; have := bb.out; have := bs.out; refine skip_ (w1 := ?_) (by rfl) rfl ?_ ?_; rotate_left
          ·go_simp
           rfl
          refine hK.out _ _ (cH hHeld) (fun hHeld => ?_); clear hK K; refine pure_ (i := 4) (N := some 8) (v := ?_) (a' := ?_) (qB 5 31) rfl rfl (by kernel_rfl) (fun _ _ _ h => h) (Or.inl ⟨by rfl, ?_⟩) ?_ ?_; rotate_left
          ·intro w'
           go_simp; (with_reducible rfl)
          rotate_left
          ·simp only [Act.put, ssB, ssZ, ssS, i64_w, i32_w]
           rfl
          refine done_ (by kernel_rfl) ?_; (try go_wp2); refine bodyPost_ret (results_list (rs := [.tmp 6, .cell 7 54, .tmp 8]) rfl (by simp) (.tmp (.cell a3 54 #[.int .i64 aw, .int .i64 ax, .int .i64 ay] (0, 0) _ rfl (bZ ac) Try.underlying54 rfl (by kernel_rfl) (.tmp .nil)))) rfl ?_
          exact ⟨_, eE, by (with_reducible repeat (first | apply rrA | apply rrN | apply rrD)); exact Kd.R_mono (rrF (p := ⟨a3, 2, none⟩) (rrF (p := ⟨a3, 1, none⟩) (rrF (p := ⟨a3, 0, none⟩) (Kd.R_types am.out ac.out (by decide)) (fun _ hk => hk.2) (.int .i64 aw)) (fun _ hk => hk.2) (.int .i64 ax)) (fun _ hk => hk.2) (.int .i64 ay)) (fun _ hk => trivial), lB HB⟩
      ·rw [if_neg bq] at H
       exact absurd H (by simp)
     ·rw [if_neg bp] at H
      exact absurd H (by simp)
 ·replace c5 := Bool.eq_false_iff.mpr c5
  subst c5
  have H1 : (some (([] : List Int), 0, 0, 0, 8)) = some (r1, r2, r3, r4, r5) := by rw [if_neg (show ¬ (false = true) by decide)] at H; exact H
  clear H; have H := H1; clear H1; simp only [Option.some.injEq, Prod.mk.injEq] at H; obtain ⟨rfl, rfl, rfl, rfl, rfl⟩ := H; go_enter Try.func22, Try.ntmps22
  go_wp2_with (first | ((with_reducible refine gate_dst (N := 3) rfl ?_); refine bxF w HB 3 #[.int .i64 aj, .int .i64 ak, .int .i64 ag, .slice a9 ai.length a6, .slice be ab.length a7] 25 ?_; intro ao hg ic hb aa HB c4; have f9 := c4; clear hb hg) | ((with_reducible refine gate_dst (N := 7) rfl ?_); refine bxF w HB 7 #[.int .i64 0, .int .i64 0, .int .i64 0] 54 ?_; intro a3 hg ie hb ac HB c6; have ga := c6; obtain ⟨ba, bb⟩ := nS hg aa; replace aa := bY hb aa; clear hb hg; have := ba.out; have := bb.out; obtain ⟨_, _, _, _, _, _, _, _, _, _⟩ := bE5 aa.out) | ((with_reducible refine gate_callee (f := 15) rfl ?_); refine gL (some 18) Try.func15 #[.agg #[.int .i64 aj, .int .i64 ak, .int .i64 ag, .slice a9 ai.length a6, .slice be ab.length a7]] ?_; (with_reducible refine (hornbeamref12_Right.calls k aj ak ag _ _ ai _ _ ab false _ ?side1 ?side2 ?side3 ?side4 A4.out).mono ?_); (case side1 => exact cZ (ccB cz.out HB.out)); (case side2 => exact eh.out); (case side3 => exact cZ (ccB c0.out HB.out)); (case side4 => exact ei.out); rintro e ig ⟨rfl, hb⟩; refine ⟨_, rfl, ?_⟩; replace aa := bY hb aa; replace ac := bY hb ac; replace HB := aaM (lP (lB HB) hb); (try clear hb); obtain ⟨_, _, _, _, _, _⟩ := bE3 ac.out))
  refine bodyPost_ret (results_list (rs := [.tmp 6, .cell 7 54, .tmp 8]) rfl (by simp) (.tmp (.cell a3 54 #[.int .i64 0, .int .i64 0, .int .i64 0] (0, 0) _ rfl (bZ ac) Try.underlying54 rfl (by kernel_rfl) (.tmp .nil)))) rfl ?_
  exact ⟨_, eE, by first | exact Kd.R_nil _ _ _ _ _ | exact Kd.N_nil _ _ _ _ _ | exact Kd.V_nil _ _ _ _ _ | exact Kd.Q_nil _ _ _ _ _ | exact Kd.S_nil _ _ _ _ _, lB HB⟩

/-! ### hornbeamref14_Total: function 25 -/
def hornbeamref14_Total.l0 : Nat → List Int → Int → Int → Option (Int)
 | 0, _, _, _ => none
 | k + 1, x0, x3, x4 => if x4 < (x0.length : Int) then (if 0 ≤ x4 then (hornbeamref14_Total.l0 k x0 (IntKind.u64.wrap (x3 + (IntKind.u64.wrap (rd x0 x4)))) (wrap64 (x4 + 1))) else (none)) else (some x3)
def hornbeamref14_Total.f (k : Nat) (l0 : List Int) : Option (Int) := hornbeamref14_Total.l0 k l0 0 0
theorem hornbeamref14_Total.mono_l : ∀ k, (∀ y0 y1 y2, LeO (hornbeamref14_Total.l0 k y0 y1 y2) (hornbeamref14_Total.l0 (k + 1) y0 y1 y2))
 | 0 => fun _ _ _ r h => by simp [hornbeamref14_Total.l0] at h
 | k + 1 => by
  have ih0 := hornbeamref14_Total.mono_l k
  ·intro y0 y1 y2
   unfold hornbeamref14_Total.l0
   with_reducible repeat' first | apply ih0 | apply LeO.refl | apply LeO.none | refine LeO.ite ?_ ?_ | refine LeO.bind ?_ (fun _ => ?_)
theorem hornbeamref14_Total.mono : ∀ a0 k, LeO (hornbeamref14_Total.f k a0) (hornbeamref14_Total.f (k + 1) a0) := by
 intro a0 k
 have ih0 := hornbeamref14_Total.mono_l k
 unfold hornbeamref14_Total.f
 with_reducible repeat' first | apply ih0 | apply LeO.refl | apply LeO.none | refine LeO.ite ?_ ?_ | refine LeO.bind ?_ (fun _ => ?_)
set_option maxHeartbeats 8000000 in
set_option maxRecDepth 100000 in
theorem hornbeamref14_Total.calls (k : Nat) (A0 : Option Addr) (c0 : Nat) (l0 : List Int) (r : Int) (w : World) (af : Kd.C (Kd.int .i64) w A0 l0.length l0) (ag : l0.length ≤ c0) (h : hornbeamref14_Total.f k l0 = some r) :
  Calls Try.prog 25 #[.slice A0 l0.length c0] w fun e w' => e = .returned (.int .u64 r) ∧ Drawn0 w w' := by
 have ai := aaM af
 have ak := aaM ag
 clear af ag
 have H : (hornbeamref14_Total.l0 k l0 0 0) = some r := h
 clear h
 have H' := aaM H
 clear H
 go_enter Try.func25, Try.ntmps25
 go_wp2
 go_loopg [3, 4] k (fun kq v3 v4 w' => ∃ (ab : Int) (aa : Int), v3 = .int .u64 ab ∧ v4 = .int .i64 aa ∧ Aside0 (hornbeamref14_Total.l0 kq l0 ab aa = some r) ∧ Aside0 (kq ≤ k) ∧ Drawn0 w w')
 case atStart => exact ⟨(0), (0), (eF), (eF), H', ⟨Nat.le_refl _⟩, by repeat (first | exact Drawn0.refl _ | apply Drawn0.step)⟩
 case round =>
  clear H'; obtain ⟨ab, aa, rfl, rfl, HA, ah, ⟨m1, rfl⟩⟩ := hrel
  cases gk with
  | zero => exact absurd HA.out (by simp [hornbeamref14_Total.l0])
  | succ k1 =>
   have H := HA.out; clear HA; simp only [hornbeamref14_Total.l0] at H
   by_cases c2 : aa < (l0.length : Int)
   ·rw [if_pos c2] at H
    have c2b0 : decide (aa < (l0.length : Int)) = true := decide_eq_true c2; clear c2
    by_cases c3 : 0 ≤ aa
    ·rw [if_pos c3] at H
     have c3b0 : decide (0 ≤ aa) = true := decide_eq_true c3; clear c3; have H' := aaM H; clear H; have ac : 0 ≤ (aa : Int) := of_decide_eq_true (by first | (with_reducible assumption) | assumption); have ae : aa < (l0.length : Int) := of_decide_eq_true (by first | (with_reducible assumption) | assumption); obtain ⟨al, aj, am⟩ := Kd.at_int ai.out aa ac ae
     cases aj
     replace ac := eq_true ac; replace ae := eq_true ae; go_wp2
     go_roundg k1
     case measure => have := ah.out; omega
     case rel => exact ⟨(IntKind.u64.wrap (ab + (IntKind.u64.wrap (rd l0 aa)))), (wrap64 (aa + 1)), (eF), (eF), H', ⟨by have := ah.out; omega⟩, by repeat (first | exact Drawn0.refl _ | apply Drawn0.step)⟩
    ·rw [if_neg c3] at H
     exact absurd H (by simp)
   ·rw [if_neg c2] at H
    have c2b0 : decide (aa < (l0.length : Int)) = false := decide_eq_false c2; clear c2; obtain rfl := Option.some.inj H; go_wp2
    all_goals (go_ret; exact ⟨eF, by repeat (first | exact Drawn0.refl _ | apply Drawn0.step)⟩)

/-! ### hornbeamref14_May: function 41 -/
mutual
def hornbeamref14_May.j0 : Nat → List Int → Bool → Option (Bool)
 | 0, _, _ => none
 | k + 1, x0, x12 => if x12 = true then (some false) else (hornbeamref14_May.l0 k x0 1048576 0)
def hornbeamref14_May.l0 : Nat → List Int → Int → Int → Option (Bool)
 | 0, _, _, _ => none
 | k + 1, x0, x3, x4 => if x4 < (x0.length : Int) then (if 0 ≤ x4 then (if (rd x0 x4) < 0 then (some false) else (if (rd x0 x4) > x3 then (some false) else (hornbeamref14_May.l0 k x0 (wrap64 (x3 - (rd x0 x4))) (wrap64 (x4 + 1))))) else (none)) else (some true)
end
def hornbeamref14_May.f (k : Nat) (l0 : List Int) : Option (Bool) := if (l0.length : Int) < 2 then (hornbeamref14_May.j0 k l0 true) else (hornbeamref14_May.j0 k l0 (decide ((l0.length : Int) > 256)))
theorem hornbeamref14_May.mono_l : ∀ k, (∀ y0 y1, LeO (hornbeamref14_May.j0 k y0 y1) (hornbeamref14_May.j0 (k + 1) y0 y1)) ∧ (∀ y0 y1 y2, LeO (hornbeamref14_May.l0 k y0 y1 y2) (hornbeamref14_May.l0 (k + 1) y0 y1 y2))
 | 0 => ⟨fun _ _ r h => by simp [hornbeamref14_May.j0] at h, fun _ _ _ r h => by simp [hornbeamref14_May.l0] at h⟩
 | k + 1 => by
  obtain ⟨ih0, ih1⟩ := hornbeamref14_May.mono_l k
  refine ⟨?_, ?_⟩
  all_goals (intros; first | unfold hornbeamref14_May.j0 | unfold hornbeamref14_May.l0)
  all_goals with_reducible repeat' first | apply ih0 | apply ih1 | apply LeO.refl | apply LeO.none | refine LeO.ite ?_ ?_ | refine LeO.bind ?_ (fun _ => ?_)
theorem hornbeamref14_May.mono : ∀ a0 k, LeO (hornbeamref14_May.f k a0) (hornbeamref14_May.f (k + 1) a0) := by
 intro a0 k
 obtain ⟨ih0, ih1⟩ := hornbeamref14_May.mono_l k
 unfold hornbeamref14_May.f
 with_reducible repeat' first | apply ih0 | apply ih1 | apply LeO.refl | apply LeO.none | refine LeO.ite ?_ ?_ | refine LeO.bind ?_ (fun _ => ?_)
set_option maxHeartbeats 8000000 in
set_option maxRecDepth 100000 in
theorem hornbeamref14_May.calls (k : Nat) (A0 : Option Addr) (c0 : Nat) (l0 : List Int) (r : Bool) (w : World) (ar : Kd.C (Kd.int .i64) w A0 l0.length l0) (au : l0.length ≤ c0) (h : hornbeamref14_May.f k l0 = some r) :
  Calls Try.prog 41 #[.slice A0 l0.length c0] w fun e w' => e = .returned (.bool r) ∧ Drawn0 w w' := by
 have ah := aaM ar
 have a2 := aaM au
 clear ar au
 have H : (if (l0.length : Int) < 2 then (hornbeamref14_May.j0 k l0 true) else (hornbeamref14_May.j0 k l0 (decide ((l0.length : Int) > 256)))) = some r := h
 clear h
 have al := aaM H
 clear H
 go_enter Try.func41, Try.ntmps41
 go_upto_region 1 with (fail)
 go_cut [12] (fun ay wc => ∃ (kq : Nat) (ak : Bool), ay = .bool ak ∧ Aside0 (hornbeamref14_May.j0 kq l0 ak = some r) ∧ Aside0 (kq ≤ k) ∧ Drawn0 w wc)
 case first =>
  have H := al.out; clear al
  by_cases c3 : (l0.length : Int) < 2
  ·rw [if_pos c3] at H
   have c3b0 : decide ((l0.length : Int) < 2) = true := decide_eq_true c3; have c3b1 : decide (l0.length < 2) = true := decide_eq_true (by omega); clear c3; (first | rw [c3b0] | (simp only [i64_w, i32_w]; rw [c3b0]) | skip); have H' := aaM H; clear H; go_wp2
   go_meet
   case rel => exact ⟨_, (true), (eF), H', ⟨by first | omega | exact Nat.le_refl _⟩, by repeat (first | exact Drawn0.refl _ | apply Drawn0.step)⟩
  ·rw [if_neg c3] at H
   have c3b0 : decide ((l0.length : Int) < 2) = false := decide_eq_false c3; have c3b1 : decide (l0.length < 2) = false := decide_eq_false (by omega); clear c3; (first | rw [c3b0] | (simp only [i64_w, i32_w]; rw [c3b0]) | skip); have H' := aaM H; clear H; go_wp2
   go_meet
   case rel => exact ⟨_, (decide ((l0.length : Int) > 256)), (eF), H', ⟨by first | omega | exact Nat.le_refl _⟩, by repeat (first | exact Drawn0.refl _ | apply Drawn0.step)⟩
 case rest =>
  clear al; obtain ⟨kq, ak, rfl, HA, av, ⟨a3, rfl⟩⟩ := hcut
  cases kq with
  | zero => exact absurd HA.out (by simp [hornbeamref14_May.j0])
  | succ am =>
   have H := HA.out; clear HA; simp only [hornbeamref14_May.j0] at H
   by_cases c4 : ak = true
   ·subst c4
    have H1 : (some false) = some r := by rw [if_pos rfl] at H; exact H
    clear H; have H := H1; clear H1; obtain rfl := Option.some.inj H; go_wp2
    all_goals (go_ret; exact ⟨eF, by repeat (first | exact Drawn0.refl _ | apply Drawn0.step)⟩)
   ·replace c4 := Bool.eq_false_iff.mpr c4
    subst c4
    have H1 : (hornbeamref14_May.l0 am l0 1048576 0) = some r := by rw [if_neg (show ¬ (false = true) by decide)] at H; exact H
    clear H; have H := H1; clear H1; have H' := aaM H; clear H; go_wp2
    go_loopg [3, 4] am (fun kq v3 v4 w' => ∃ (ae : Int) (aa : Int), v3 = .int .i64 ae ∧ v4 = .int .i64 aa ∧ Aside0 (hornbeamref14_May.l0 kq l0 ae aa = some r) ∧ Aside0 (kq ≤ am) ∧ Drawn0 w w')
    case atStart => exact ⟨(1048576), (0), (eF), (eF), H', ⟨Nat.le_refl _⟩, by repeat (first | exact Drawn0.refl _ | apply Drawn0.step)⟩
    case round =>
     clear H'; (try clear c4); obtain ⟨ae, aa, rfl, rfl, HA, aw, ⟨m2, rfl⟩⟩ := hrel
     cases gk with
     | zero => exact absurd HA.out (by simp [hornbeamref14_May.l0])
     | succ k2 =>
      have H := HA.out; clear HA; simp only [hornbeamref14_May.l0] at H
      by_cases c5 : aa < (l0.length : Int)
      ·rw [if_pos c5] at H
       have c5b0 : decide (aa < (l0.length : Int)) = true := decide_eq_true c5; clear c5
       by_cases c6 : 0 ≤ aa
       ·rw [if_pos c6] at H
        have c6b0 : decide (0 ≤ aa) = true := decide_eq_true c6; clear c6
        by_cases c7 : (rd l0 aa) < 0
        ·rw [if_pos c7] at H
         have c7b0 : decide ((rd l0 aa) < 0) = true := decide_eq_true c7; clear c7; obtain rfl := Option.some.inj H; have ab : 0 ≤ (aa : Int) := of_decide_eq_true (by first | (with_reducible assumption) | assumption); have ac : aa < (l0.length : Int) := of_decide_eq_true (by first | (with_reducible assumption) | assumption); obtain ⟨ai, aj, ax⟩ := Kd.at_int ah.out aa ab ac
         cases aj
         replace ab := eq_true ab; replace ac := eq_true ac; go_wp2
         all_goals (go_ret; exact ⟨eF, by repeat (first | exact Drawn0.refl _ | apply Drawn0.step)⟩)
        ·rw [if_neg c7] at H
         have c7b0 : decide ((rd l0 aa) < 0) = false := decide_eq_false c7; clear c7
         by_cases c8 : (rd l0 aa) > ae
         ·rw [if_pos c8] at H
          have c8b0 : decide (ae < (rd l0 aa)) = true := decide_eq_true c8; clear c8; obtain rfl := Option.some.inj H; have ab : 0 ≤ (aa : Int) := of_decide_eq_true (by first | (with_reducible assumption) | assumption); have ac : aa < (l0.length : Int) := of_decide_eq_true (by first | (with_reducible assumption) | assumption); obtain ⟨ai, aj, ax⟩ := Kd.at_int ah.out aa ab ac
          cases aj
          replace ab := eq_true ab; replace ac := eq_true ac; have af : 0 ≤ (aa : Int) := of_decide_eq_true (by first | (with_reducible assumption) | assumption); have ag : aa < (l0.length : Int) := of_decide_eq_true (by first | (with_reducible assumption) | assumption); obtain ⟨an, ao, az⟩ := Kd.at_int ah.out aa af ag; obtain rfl : ai = an := (by injection ao); replace af := eq_true af; replace ag := eq_true ag; go_wp2
          all_goals (go_ret; exact ⟨eF, by repeat (first | exact Drawn0.refl _ | apply Drawn0.step)⟩)
         ·rw [if_neg c8] at H
          have c8b0 : decide (ae < (rd l0 aa)) = false := decide_eq_false c8; clear c8; have H' := aaM H; clear H; have ab : 0 ≤ (aa : Int) := of_decide_eq_true (by first | (with_reducible assumption) | assumption); have ac : aa < (l0.length : Int) := of_decide_eq_true (by first | (with_reducible assumption) | assumption); obtain ⟨ai, aj, ax⟩ := Kd.at_int ah.out aa ab ac
          cases aj
          replace ab := eq_true ab; replace ac := eq_true ac; have af : 0 ≤ (aa : Int) := of_decide_eq_true (by first | (with_reducible assumption) | assumption); have ag : aa < (l0.length : Int) := of_decide_eq_true (by first | (with_reducible assumption) | assumption); obtain ⟨an, ao, az⟩ := Kd.at_int ah.out aa af ag; obtain rfl : ai = an := (by injection ao); replace af := eq_true af; replace ag := eq_true ag; have ap : 0 ≤ (aa : Int) := of_decide_eq_true (by first | (with_reducible assumption) | assumption); have aq : aa < (l0.length : Int) := of_decide_eq_true (by first | (with_reducible assumption) | assumption); obtain ⟨a0, a1, a4⟩ := Kd.at_int ah.out aa ap aq; obtain rfl : ai = a0 := (by injection a1); replace ap := eq_true ap; replace aq := eq_true aq; go_wp2
          go_roundg k2
          case measure => have := av.out; have := aw.out; omega
          case rel => exact ⟨(wrap64 (ae - (rd l0 aa))), (wrap64 (aa + 1)), (eF), (eF), H', ⟨by have := av.out; have := aw.out; omega⟩, by repeat (first | exact Drawn0.refl _ | apply Drawn0.step)⟩
       ·rw [if_neg c6] at H
        exact absurd H (by simp)
      ·rw [if_neg c5] at H
       have c5b0 : decide (aa < (l0.length : Int)) = false := decide_eq_false c5; clear c5; obtain rfl := Option.some.inj H; go_wp2
       all_goals (go_ret; exact ⟨eF, by repeat (first | exact Drawn0.refl _ | apply Drawn0.step)⟩)

end Go.Proofs.Ytancajnbjmcamaa.QSplitBest
