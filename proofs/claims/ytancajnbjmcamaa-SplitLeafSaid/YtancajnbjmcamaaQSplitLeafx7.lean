-- Written by a program of this session (wip/tools/mkprint.py over the kit's print); Lean checks it.
import Derived.Test.YtancajnbjmcamaaQSplitLeafx0
import Derived.Test.YtancajnbjmcamaaQSplitLeafx5
import Derived.Test.YtancajnbjmcamaaQSplitLeafx6
namespace Go.Proofs.Ytancajnbjmcamaa.QSplitLeaf
open Go.RowKit Go.Proofs.YtancajnbjmcamaaW.PrintWords Go.Proofs.YtancajnbjmcamaaW.PrintLast Go.Proofs.YtancajnbjmcamaaW.PrintMore
attribute [local go_sem] max2_int min2_int max_two min_two max_three min_three max_four min_four   -- for this text's walks alone
set_option linter.unusedVariables false
set_option linter.unusedSimpArgs false

/-! ### spread_side: function 99 -/
def spread_side.f (a0_0 : Int) (a0_1 : Int) (a0_2 : Int) (a1_0 : Int) (a1_1 : Int) (a1_2 : Int) : Option (Int × Int) := (prod_Square.f a0_1).bind fun bt207 => ((prod_Times.f bt207.1 bt207.2 (IntKind.u64.wrap (a1_0))).bind fun bt209 => (some (bt209.2.1, bt209.2.2)))
def spread_side.T1 : Bool × List (List Nat × List Nat) := (true, [([], []), ([0], [0]), ([1], [1]), ([], []), ([3], [3]), ([4], [4]), ([2, 5, 2], [2, 5]), ([], []), ([7, 6, 6, 0, 1, 2, 3, 4, 5, 6, 7], [6, 7])])
def spread_side.B1 : List Nat := [0, 1, 3, 0, 8, 24, 63, 0, 255]
theorem spread_side.tab1 : rtab .any (opsOf Try.f99 1) = spread_side.T1 := by kernel_rfl
theorem spread_side.bits1 : waitsOk spread_side.T1.2 spread_side.B1 = true := by kernel_rfl
set_option maxHeartbeats 8000000 in
set_option maxRecDepth 100000 in
theorem spread_side.calls (a0_0 : Int) (a0_1 : Int) (a0_2 : Int) (a1_0 : Int) (a1_1 : Int) (a1_2 : Int) (r1 : Int) (r2 : Int) (w : World) (h : spread_side.f a0_0 a0_1 a0_2 a1_0 a1_1 a1_2 = some (r1, r2)) :
  Calls Try.prog 99 #[.agg #[.int .i64 a0_0, .int .i64 a0_1, .int .i64 a0_2], .agg #[.int .i64 a1_0, .int .i64 a1_1, .int .i64 a1_2]] w fun e w' => e = .returned (.agg #[.int .u64 r1, .int .u64 r2]) ∧ Below w.heap.size w w' := by
 have hu54 := Try.underlying54
 have hu30 := Try.underlying30
 have hu87 := Try.underlying87
 have HB := aaM (Below.refl w.heap.size w)
 have H : ((prod_Square.f a0_1).bind fun bt207 => ((prod_Times.f bt207.1 bt207.2 (IntKind.u64.wrap (a1_0))).bind fun bt209 => (some (bt209.2.1, bt209.2.2)))) = some (r1, r2) := h
 clear h
 replace H := ooB.mp H
 obtain ⟨⟨t207, t208⟩, A30, H⟩ := H
 replace H : ((prod_Times.f t207 t208 (IntKind.u64.wrap (a1_0))).bind fun bt209 => (some (bt209.2.1, bt209.2.2))) = some (r1, r2) := H
 have A3 := aaM A30
 clear A30
 replace H := ooB.mp H
 obtain ⟨⟨t209, t210, t211⟩, A40, H⟩ := H
 replace H : (some (t210, t211)) = some (r1, r2) := H
 have A4 := aaM A40
 clear A40
 simp only [Option.some.injEq, Prod.mk.injEq] at H
 obtain ⟨rfl, rfl⟩ := H
 go_enter Try.func99, Try.ntmps99
 try go_wp2_with (first | ((with_reducible refine gate_dst (N := 2) rfl ?_); refine box_event ?hg (N := 2) ?hd (cs := #[.int .i64 a0_0, .int .i64 a0_1, .int .i64 a0_2]) (t := 54) ?hr ?_; (case hd => rfl); (case hg => rfl); (case hr => first | (go_simp; done) | (go_simp; rfl)); intro gb204 hg w5 hbox hb; have hP_ := lQ (by repeat (first | (with_reducible first | exact HB.out | apply lA | apply lN | apply lD) | exact HB.out)) hb; replace HB := aaM hP_.1; have BK204 := aaM (hbox); have GW204 := aaM (gQ hg hP_.2); have GE204 := aaM (gQ hg hP_.2); clear hP_ hb hbox hg) | ((with_reducible refine gate_dst (N := 3) rfl ?_); refine box_event ?hg (N := 3) ?hd (cs := #[.int .i64 a1_0, .int .i64 a1_1, .int .i64 a1_2]) (t := 54) ?hr ?_; (case hd => rfl); (case hg => rfl); (case hr => first | (go_simp; done) | (go_simp; rfl)); intro gb205 hg w6 hbox hb; have hP_ := lQ (by repeat (first | (with_reducible first | exact HB.out | apply lA | apply lN | apply lD | refine lS ?_ GE204.out) | exact HB.out)) hb; replace HB := aaM hP_.1; have BK205 := aaM (hbox); have GW205 := aaM (gQ hg hP_.2); have GE205 := aaM (gQ hg hP_.2); have NB204_205 := aaM (nL hg BK204.out); have NB205_204 := aaM (nL hg BK204.out).symm; replace BK204 := aaM (bX hb BK204.out); clear hP_ hb hbox hg) | ((with_reducible refine gate_dst (N := 4) rfl ?_); refine box_event ?hg (N := 4) ?hd (cs := #[.int .u64 0, .int .u64 0]) (t := 30) ?hr ?_; (case hd => rfl); (case hg => rfl); (case hr => first | (go_simp; done) | (go_simp; rfl)); intro gb206 hg w7 hbox hb; have hP_ := lQ (by repeat (first | (with_reducible first | exact HB.out | apply lA | apply lN | apply lD | refine lS ?_ GE204.out | refine lS ?_ GE205.out) | exact HB.out)) hb; replace HB := aaM hP_.1; have BK206 := aaM (hbox); have GW206 := aaM (gQ hg hP_.2); have GE206 := aaM (gQ hg hP_.2); have NB204_206 := aaM (nL hg BK204.out); have NB206_204 := aaM (nL hg BK204.out).symm; replace BK204 := aaM (bX hb BK204.out); have NB205_206 := aaM (nL hg BK205.out); have NB206_205 := aaM (nL hg BK205.out).symm; replace BK205 := aaM (bX hb BK205.out); clear hP_ hb hbox hg))
 replace BK204 := aaM (bD BK204.out)
 replace BK205 := aaM (bD BK205.out)
 replace BK206 := aaM (bD BK206.out)
 replace HB := aaM (lD HB.out)
 refine start_ (n := 9) (S := fun w' => w'.cell? ⟨gb204, 0, none⟩ = some (.int .i64 a0_0) ∧ w'.cell? ⟨gb204, 1, none⟩ = some (.int .i64 a0_1) ∧ w'.cell? ⟨gb204, 2, none⟩ = some (.int .i64 a0_2) ∧ w'.cell? ⟨gb205, 0, none⟩ = some (.int .i64 a1_0) ∧ w'.cell? ⟨gb205, 1, none⟩ = some (.int .i64 a1_1) ∧ w'.cell? ⟨gb205, 2, none⟩ = some (.int .i64 a1_2)) (ds := []) #[false, false, false, false, false, false, false, false, false] (by kernel_rfl) rfl rfl ⟨(bC BK204.out 0).trans rfl, (bC BK204.out 1).trans rfl, (bC BK204.out 2).trans rfl, (bC BK205.out 0).trans rfl, (bC BK205.out 1).trans rfl, (bC BK205.out 2).trans rfl⟩ (fun hHeld => ?_); refine with_tabW spread_side.tab1 spread_side.bits1 (fun HT_ HW_ => ?_)
 generalize w7.drew = w8 at BK204 BK205 BK206 HB hHeld ⊢
 refine pure_ (i := 0) (N := some 6) (v := ?_) (a' := ?_) #[true, false, false, false, false, false, false, false, false] rfl rfl (any_of HT_.out (by kernel_rfl)) (fun _ _ _ h => h) (Or.inl ⟨by rfl, ?_⟩) ?_ ?_
 rotate_left
 ·intro w'
  go_simp
  with_reducible rfl
 rotate_left
 ·simp only [Act.put, ssB, ssZ, ssS, i64_w, i32_w]
  rfl
 refine pure_ (i := 3) (N := some 9) (v := ?_) (a' := ?_) #[true, false, false, true, false, false, false, false, false] rfl rfl (any_of HT_.out (by kernel_rfl)) (fun _ _ _ h => h) (Or.inl ⟨by rfl, ?_⟩) ?_ ?_
 rotate_left
 ·intro w'
  go_simp
  with_reducible rfl
 rotate_left
 ·simp only [Act.put, ssB, ssZ, ssS, i64_w, i32_w]
  rfl
 refine take_ (i := 1) (N := some 7) (v := ?_) (a' := ?_) #[true, true, false, true, false, false, false, false, false] rfl rfl (take_ofW HT_.out HW_.out (by kernel_rfl)) (fun _ _ _ h => h) (Or.inl ⟨by rfl, ?_⟩) hHeld ?_ ?_
 rotate_left
 ·rintro w' ⟨s0, s1, s2, s3, s4, s5⟩
  go_simp
  with_reducible rfl
 rotate_left
 ·simp only [Act.put, ssB, ssZ, ssS, i64_w, i32_w]
  rfl
 refine take_ (i := 4) (N := some 10) (v := ?_) (a' := ?_) #[true, true, false, true, true, false, false, false, false] rfl rfl (take_ofW HT_.out HW_.out (by kernel_rfl)) (fun _ _ _ h => h) (Or.inl ⟨by rfl, ?_⟩) hHeld ?_ ?_
 rotate_left
 ·rintro w' ⟨s0, s1, s2, s3, s4, s5⟩
  go_simp
  with_reducible rfl
 rotate_left
 ·simp only [Act.put, ssB, ssZ, ssS, i64_w, i32_w]
  rfl
 refine pure_ (i := 5) (N := some 11) (v := ?_) (a' := ?_) #[true, true, false, true, true, true, false, false, false] rfl rfl (any_of HT_.out (by kernel_rfl)) (fun _ _ _ h => h) (Or.inl ⟨by rfl, ?_⟩) ?_ ?_
 rotate_left
 ·intro w'
  go_simp
  with_reducible rfl
 rotate_left
 ·simp only [Act.put, ssB, ssZ, ssS, i64_w, i32_w]
  rfl
 refine join_ (σ := Nat) 1 #[true, true, true, true, true, true, true, true, false] (fun s_ => [(8, .agg #[.int .u64 t207, .int .u64 t208]), (12, .agg #[.int .u64 t209, .int .u64 t210, .int .u64 t211]), (5, .pointer (some ⟨s_, 0, none⟩))]) (fun s_ w' => (w'.cell? ⟨gb204, 0, none⟩ = some (.int .i64 a0_0) ∧ w'.cell? ⟨gb204, 1, none⟩ = some (.int .i64 a0_1) ∧ w'.cell? ⟨gb204, 2, none⟩ = some (.int .i64 a0_2) ∧ w'.cell? ⟨gb205, 0, none⟩ = some (.int .i64 a1_0) ∧ w'.cell? ⟨gb205, 1, none⟩ = some (.int .i64 a1_1) ∧ w'.cell? ⟨gb205, 2, none⟩ = some (.int .i64 a1_2)) ∧ (w'.heap[gb204]? = some (.cells #[.int .i64 a0_0, .int .i64 a0_1, .int .i64 a0_2] 54 (0, 0))) ∧ (w'.heap[gb205]? = some (.cells #[.int .i64 a1_0, .int .i64 a1_1, .int .i64 a1_2] 54 (0, 0))) ∧ (w'.heap[gb206]? = some (.cells #[.int .u64 0, .int .u64 0] 30 (0, 0))) ∧ (w'.heap[s_]? = some (.cells #[.int .u64 0, .int .u64 0, .int .u64 0] 87 (0, 0))) ∧ (w.heap.size ≤ s_) ∧ (w.heap.size ≤ s_) ∧ (gb204 ≠ s_) ∧ (s_ ≠ gb204) ∧ (gb205 ≠ s_) ∧ (s_ ≠ gb205) ∧ (gb206 ≠ s_) ∧ (s_ ≠ gb206) ∧ (Below w.heap.size w w')) ?_ ?_
 rotate_left
 ·intro hCont
  refine two_ (i := 2) (j := 7) (Ni := some 8) (Nj := some 5) #[true, true, true, true, true, true, false, false, false] #[true, true, false, true, true, true, false, true, false] rfl rfl rfl rfl (two_of HT_.out (by kernel_rfl)) (by decide) (by decide) (fun K hK => ?_) (fun K hK => ?_)
  ·skip
   refine goes_ Try.func98 (by kernel_rfl) rfl #[.int .i64 a0_1] (by rfl) rfl rfl (by (try simp only [mmT, mmC, mmN]); first | done | rfl | (simp only [ddD, ddT]; rfl)) ?_
   with_reducible refine (prod_Square.calls a0_1 t207 t208 _ A3.out).mono ?_
   rintro e w9 ⟨rfl, hb⟩
   refine ⟨_, rfl, ?_⟩
   replace BK204 := aaM (bX hb BK204.out)
   replace BK205 := aaM (bX hb BK205.out)
   replace BK206 := aaM (bX hb BK206.out)
   replace HB := aaM (lP (by repeat (first | (with_reducible first | exact HB.out | apply lA | apply lN | apply lD | refine lS ?_ GE204.out | refine lS ?_ GE205.out | refine lS ?_ GE206.out) | exact HB.out)) hb)
   (try clear hb)
   (try clear hb2)
   (try clear hk)
   (try clear hi)
   refine hK.out _ _ ⟨(bC BK204.out 0).trans rfl, (bC BK204.out 1).trans rfl, (bC BK204.out 2).trans rfl, (bC BK205.out 0).trans rfl, (bC BK205.out 1).trans rfl, (bC BK205.out 2).trans rfl⟩ (fun hHeld => ?_)
   clear hK K
   refine norm_ (a' := ?_) ?_ ?_
   rotate_left
   ·show Act.put _ (some 8) _ = _
    simp only [Act.put, ssB, ssZ, ssS, i64_w, i32_w]
    rfl
   refine two_ (i := 6) (j := 7) (Ni := some 12) (Nj := some 5) #[true, true, true, true, true, true, true, false, false] #[true, true, true, true, true, true, false, true, false] rfl rfl rfl rfl (two_of HT_.out (by kernel_rfl)) (by decide) (by decide) (fun K hK => ?_) (fun K hK => ?_)
   ·skip
    refine goes_ Try.func38 (by kernel_rfl) rfl #[.agg #[.int .u64 t207, .int .u64 t208], .int .u64 (IntKind.u64.wrap (a1_0))] (by rfl) rfl rfl (by (try simp only [mmT, mmC, mmN]); first | done | rfl | (simp only [ddD, ddT]; rfl)) ?_
    with_reducible refine (prod_Times.calls t207 t208 (IntKind.u64.wrap (a1_0)) t209 t210 t211 _ A4.out).mono ?_
    rintro e w10 ⟨rfl, hb⟩
    refine ⟨_, rfl, ?_⟩
    replace BK204 := aaM (bX hb BK204.out)
    replace BK205 := aaM (bX hb BK205.out)
    replace BK206 := aaM (bX hb BK206.out)
    replace HB := aaM (lP (by repeat (first | (with_reducible first | exact HB.out | apply lA | apply lN | apply lD | refine lS ?_ GE204.out | refine lS ?_ GE205.out | refine lS ?_ GE206.out) | exact HB.out)) hb)
    (try clear hb)
    (try clear hb2)
    (try clear hk)
    (try clear hi)
    refine hK.out _ _ ⟨(bC BK204.out 0).trans rfl, (bC BK204.out 1).trans rfl, (bC BK204.out 2).trans rfl, (bC BK205.out 0).trans rfl, (bC BK205.out 1).trans rfl, (bC BK205.out 2).trans rfl⟩ (fun hHeld => ?_)
    clear hK K
    refine norm_ (a' := ?_) ?_ ?_
    rotate_left
    ·show Act.put _ (some 12) _ = _
     simp only [Act.put, ssB, ssZ, ssS, i64_w, i32_w]
     rfl
    refine one_ (i := 7) (N := some 5) #[true, true, true, true, true, true, true, true, false] rfl rfl (one_of HT_.out (by kernel_rfl)) (by decide) (fun K hK => ?_)
    refine box_step ?hg (N := 5) ?hd (cs := #[.int .u64 0, .int .u64 0, .int .u64 0]) (t := 87) ?hr ?_; (case hd => rfl); (case hg => rfl); (case hr => first | (go_simp; done) | (go_simp; rfl))
    intro gb212 hg w11 hbox hb
    have hP_ := lQ (by repeat (first | (with_reducible first | exact HB.out | apply lA | apply lN | apply lD | refine lS ?_ GE204.out | refine lS ?_ GE205.out | refine lS ?_ GE206.out) | exact HB.out)) hb
    replace HB := aaM hP_.1
    have BK212 := aaM (hbox)
    have GW212 := aaM (gQ hg hP_.2)
    have GE212 := aaM (gQ hg hP_.2)
    have NB204_212 := aaM (nL hg BK204.out)
    have NB212_204 := aaM (nL hg BK204.out).symm
    replace BK204 := aaM (bX hb BK204.out)
    have NB205_212 := aaM (nL hg BK205.out)
    have NB212_205 := aaM (nL hg BK205.out).symm
    replace BK205 := aaM (bX hb BK205.out)
    have NB206_212 := aaM (nL hg BK206.out)
    have NB212_206 := aaM (nL hg BK206.out).symm
    replace BK206 := aaM (bX hb BK206.out)
    clear hb hbox hg hP_
    refine hK.out _ _ ⟨(bC BK204.out 0).trans rfl, (bC BK204.out 1).trans rfl, (bC BK204.out 2).trans rfl, (bC BK205.out 0).trans rfl, (bC BK205.out 1).trans rfl, (bC BK205.out 2).trans rfl⟩ (fun hHeld => ?_)
    clear hK K
    refine norm_ (a' := ?_) ?_ ?_
    rotate_left
    ·show Act.put _ (some 5) _ = _
     simp only [Act.put, ssB, ssZ, ssS, i64_w, i32_w]
     rfl
    exact norm_ (by simp only [putAll, Act.put, ssB, ssZ, ssS]) (hCont (gb212) _ ⟨hHeld, (by (with_reducible repeat (first | refine bN ?_ _ | refine bD ?_ | refine bA ?_ _)); exact BK204.out), (by (with_reducible repeat (first | refine bN ?_ _ | refine bD ?_ | refine bA ?_ _)); exact BK205.out), (by (with_reducible repeat (first | refine bN ?_ _ | refine bD ?_ | refine bA ?_ _)); exact BK206.out), (by (with_reducible repeat (first | refine bN ?_ _ | refine bD ?_ | refine bA ?_ _)); exact BK212.out), GW212.out, GE212.out, NB204_212.out, NB212_204.out, NB205_212.out, NB212_205.out, NB206_212.out, NB212_206.out, (by repeat (first | (with_reducible first | exact HB.out | apply lA | apply lN | apply lD | refine lS ?_ GE204.out | refine lS ?_ GE205.out | refine lS ?_ GE206.out | refine lS ?_ GE212.out) | exact HB.out))⟩)
   ·skip
    refine box_step ?hg (N := 5) ?hd (cs := #[.int .u64 0, .int .u64 0, .int .u64 0]) (t := 87) ?hr ?_; (case hd => rfl); (case hg => rfl); (case hr => first | (go_simp; done) | (go_simp; rfl))
    intro gb212 hg w10 hbox hb
    have hP_ := lQ (by repeat (first | (with_reducible first | exact HB.out | apply lA | apply lN | apply lD | refine lS ?_ GE204.out | refine lS ?_ GE205.out | refine lS ?_ GE206.out) | exact HB.out)) hb
    replace HB := aaM hP_.1
    have BK212 := aaM (hbox)
    have GW212 := aaM (gQ hg hP_.2)
    have GE212 := aaM (gQ hg hP_.2)
    have NB204_212 := aaM (nL hg BK204.out)
    have NB212_204 := aaM (nL hg BK204.out).symm
    replace BK204 := aaM (bX hb BK204.out)
    have NB205_212 := aaM (nL hg BK205.out)
    have NB212_205 := aaM (nL hg BK205.out).symm
    replace BK205 := aaM (bX hb BK205.out)
    have NB206_212 := aaM (nL hg BK206.out)
    have NB212_206 := aaM (nL hg BK206.out).symm
    replace BK206 := aaM (bX hb BK206.out)
    clear hb hbox hg hP_
    refine hK.out _ _ ⟨(bC BK204.out 0).trans rfl, (bC BK204.out 1).trans rfl, (bC BK204.out 2).trans rfl, (bC BK205.out 0).trans rfl, (bC BK205.out 1).trans rfl, (bC BK205.out 2).trans rfl⟩ (fun hHeld => ?_)
    clear hK K
    refine norm_ (a' := ?_) ?_ ?_
    rotate_left
    ·show Act.put _ (some 5) _ = _
     simp only [Act.put, ssB, ssZ, ssS, i64_w, i32_w]
     rfl
    refine one_ (i := 6) (N := some 12) #[true, true, true, true, true, true, true, true, false] rfl rfl (one_of HT_.out (by kernel_rfl)) (by decide) (fun K hK => ?_)
    refine goes_ Try.func38 (by kernel_rfl) rfl #[.agg #[.int .u64 t207, .int .u64 t208], .int .u64 (IntKind.u64.wrap (a1_0))] (by rfl) rfl rfl (by (try simp only [mmT, mmC, mmN]); first | done | rfl | (simp only [ddD, ddT]; rfl)) ?_
    with_reducible refine (prod_Times.calls t207 t208 (IntKind.u64.wrap (a1_0)) t209 t210 t211 _ A4.out).mono ?_
    rintro e w11 ⟨rfl, hb⟩
    refine ⟨_, rfl, ?_⟩
    replace BK204 := aaM (bX hb BK204.out)
    replace BK205 := aaM (bX hb BK205.out)
    replace BK206 := aaM (bX hb BK206.out)
    replace BK212 := aaM (bX hb BK212.out)
    replace HB := aaM (lP (by repeat (first | (with_reducible first | exact HB.out | apply lA | apply lN | apply lD | refine lS ?_ GE204.out | refine lS ?_ GE205.out | refine lS ?_ GE206.out | refine lS ?_ GE212.out) | exact HB.out)) hb)
    (try clear hb)
    (try clear hb2)
    (try clear hk)
    (try clear hi)
    refine hK.out _ _ ⟨(bC BK204.out 0).trans rfl, (bC BK204.out 1).trans rfl, (bC BK204.out 2).trans rfl, (bC BK205.out 0).trans rfl, (bC BK205.out 1).trans rfl, (bC BK205.out 2).trans rfl⟩ (fun hHeld => ?_)
    clear hK K
    refine norm_ (a' := ?_) ?_ ?_
    rotate_left
    ·show Act.put _ (some 12) _ = _
     simp only [Act.put, ssB, ssZ, ssS, i64_w, i32_w]
     rfl
    exact norm_ (by simp only [putAll, Act.put, ssB, ssZ, ssS]) (hCont (gb212) _ ⟨hHeld, (by (with_reducible repeat (first | refine bN ?_ _ | refine bD ?_ | refine bA ?_ _)); exact BK204.out), (by (with_reducible repeat (first | refine bN ?_ _ | refine bD ?_ | refine bA ?_ _)); exact BK205.out), (by (with_reducible repeat (first | refine bN ?_ _ | refine bD ?_ | refine bA ?_ _)); exact BK206.out), (by (with_reducible repeat (first | refine bN ?_ _ | refine bD ?_ | refine bA ?_ _)); exact BK212.out), GW212.out, GE212.out, NB204_212.out, NB212_204.out, NB205_212.out, NB212_205.out, NB206_212.out, NB212_206.out, (by repeat (first | (with_reducible first | exact HB.out | apply lA | apply lN | apply lD | refine lS ?_ GE204.out | refine lS ?_ GE205.out | refine lS ?_ GE206.out | refine lS ?_ GE212.out) | exact HB.out))⟩)
  ·skip
   refine box_step ?hg (N := 5) ?hd (cs := #[.int .u64 0, .int .u64 0, .int .u64 0]) (t := 87) ?hr ?_; (case hd => rfl); (case hg => rfl); (case hr => first | (go_simp; done) | (go_simp; rfl))
   intro gb212 hg w9 hbox hb
   have hP_ := lQ (by repeat (first | (with_reducible first | exact HB.out | apply lA | apply lN | apply lD | refine lS ?_ GE204.out | refine lS ?_ GE205.out | refine lS ?_ GE206.out) | exact HB.out)) hb
   replace HB := aaM hP_.1
   have BK212 := aaM (hbox)
   have GW212 := aaM (gQ hg hP_.2)
   have GE212 := aaM (gQ hg hP_.2)
   have NB204_212 := aaM (nL hg BK204.out)
   have NB212_204 := aaM (nL hg BK204.out).symm
   replace BK204 := aaM (bX hb BK204.out)
   have NB205_212 := aaM (nL hg BK205.out)
   have NB212_205 := aaM (nL hg BK205.out).symm
   replace BK205 := aaM (bX hb BK205.out)
   have NB206_212 := aaM (nL hg BK206.out)
   have NB212_206 := aaM (nL hg BK206.out).symm
   replace BK206 := aaM (bX hb BK206.out)
   clear hb hbox hg hP_
   refine hK.out _ _ ⟨(bC BK204.out 0).trans rfl, (bC BK204.out 1).trans rfl, (bC BK204.out 2).trans rfl, (bC BK205.out 0).trans rfl, (bC BK205.out 1).trans rfl, (bC BK205.out 2).trans rfl⟩ (fun hHeld => ?_)
   clear hK K
   refine norm_ (a' := ?_) ?_ ?_
   rotate_left
   ·show Act.put _ (some 5) _ = _
    simp only [Act.put, ssB, ssZ, ssS, i64_w, i32_w]
    rfl
   refine one_ (i := 2) (N := some 8) #[true, true, true, true, true, true, false, true, false] rfl rfl (one_of HT_.out (by kernel_rfl)) (by decide) (fun K hK => ?_)
   refine goes_ Try.func98 (by kernel_rfl) rfl #[.int .i64 a0_1] (by rfl) rfl rfl (by (try simp only [mmT, mmC, mmN]); first | done | rfl | (simp only [ddD, ddT]; rfl)) ?_
   with_reducible refine (prod_Square.calls a0_1 t207 t208 _ A3.out).mono ?_
   rintro e w10 ⟨rfl, hb⟩
   refine ⟨_, rfl, ?_⟩
   replace BK204 := aaM (bX hb BK204.out)
   replace BK205 := aaM (bX hb BK205.out)
   replace BK206 := aaM (bX hb BK206.out)
   replace BK212 := aaM (bX hb BK212.out)
   replace HB := aaM (lP (by repeat (first | (with_reducible first | exact HB.out | apply lA | apply lN | apply lD | refine lS ?_ GE204.out | refine lS ?_ GE205.out | refine lS ?_ GE206.out | refine lS ?_ GE212.out) | exact HB.out)) hb)
   (try clear hb)
   (try clear hb2)
   (try clear hk)
   (try clear hi)
   refine hK.out _ _ ⟨(bC BK204.out 0).trans rfl, (bC BK204.out 1).trans rfl, (bC BK204.out 2).trans rfl, (bC BK205.out 0).trans rfl, (bC BK205.out 1).trans rfl, (bC BK205.out 2).trans rfl⟩ (fun hHeld => ?_)
   clear hK K
   refine norm_ (a' := ?_) ?_ ?_
   rotate_left
   ·show Act.put _ (some 8) _ = _
    simp only [Act.put, ssB, ssZ, ssS, i64_w, i32_w]
    rfl
   refine one_ (i := 6) (N := some 12) #[true, true, true, true, true, true, true, true, false] rfl rfl (one_of HT_.out (by kernel_rfl)) (by decide) (fun K hK => ?_)
   refine goes_ Try.func38 (by kernel_rfl) rfl #[.agg #[.int .u64 t207, .int .u64 t208], .int .u64 (IntKind.u64.wrap (a1_0))] (by rfl) rfl rfl (by (try simp only [mmT, mmC, mmN]); first | done | rfl | (simp only [ddD, ddT]; rfl)) ?_
   with_reducible refine (prod_Times.calls t207 t208 (IntKind.u64.wrap (a1_0)) t209 t210 t211 _ A4.out).mono ?_
   rintro e w11 ⟨rfl, hb⟩
   refine ⟨_, rfl, ?_⟩
   replace BK204 := aaM (bX hb BK204.out)
   replace BK205 := aaM (bX hb BK205.out)
   replace BK206 := aaM (bX hb BK206.out)
   replace BK212 := aaM (bX hb BK212.out)
   replace HB := aaM (lP (by repeat (first | (with_reducible first | exact HB.out | apply lA | apply lN | apply lD | refine lS ?_ GE204.out | refine lS ?_ GE205.out | refine lS ?_ GE206.out | refine lS ?_ GE212.out) | exact HB.out)) hb)
   (try clear hb)
   (try clear hb2)
   (try clear hk)
   (try clear hi)
   refine hK.out _ _ ⟨(bC BK204.out 0).trans rfl, (bC BK204.out 1).trans rfl, (bC BK204.out 2).trans rfl, (bC BK205.out 0).trans rfl, (bC BK205.out 1).trans rfl, (bC BK205.out 2).trans rfl⟩ (fun hHeld => ?_)
   clear hK K
   refine norm_ (a' := ?_) ?_ ?_
   rotate_left
   ·show Act.put _ (some 12) _ = _
    simp only [Act.put, ssB, ssZ, ssS, i64_w, i32_w]
    rfl
   exact norm_ (by simp only [putAll, Act.put, ssB, ssZ, ssS]) (hCont (gb212) _ ⟨hHeld, (by (with_reducible repeat (first | refine bN ?_ _ | refine bD ?_ | refine bA ?_ _)); exact BK204.out), (by (with_reducible repeat (first | refine bN ?_ _ | refine bD ?_ | refine bA ?_ _)); exact BK205.out), (by (with_reducible repeat (first | refine bN ?_ _ | refine bD ?_ | refine bA ?_ _)); exact BK206.out), (by (with_reducible repeat (first | refine bN ?_ _ | refine bD ?_ | refine bA ?_ _)); exact BK212.out), GW212.out, GE212.out, NB204_212.out, NB212_204.out, NB205_212.out, NB212_205.out, NB206_212.out, NB212_206.out, (by repeat (first | (with_reducible first | exact HB.out | apply lA | apply lN | apply lD | refine lS ?_ GE204.out | refine lS ?_ GE205.out | refine lS ?_ GE206.out | refine lS ?_ GE212.out) | exact HB.out))⟩)
 rintro gb212 w12 ⟨hS_, h0_, h1_, h2_, h3_, h4_, h5_, h6_, h7_, h8_, h9_, h10_, h11_, h12_⟩
 have n0_ : Aside0 (w12.heap[gb204]? = some (.cells #[.int .i64 a0_0, .int .i64 a0_1, .int .i64 a0_2] 54 (0, 0))) := ⟨h0_⟩
 have n1_ : Aside0 (w12.heap[gb205]? = some (.cells #[.int .i64 a1_0, .int .i64 a1_1, .int .i64 a1_2] 54 (0, 0))) := ⟨h1_⟩
 have n2_ : Aside0 (w12.heap[gb206]? = some (.cells #[.int .u64 0, .int .u64 0] 30 (0, 0))) := ⟨h2_⟩
 have n3_ : Aside0 (w12.heap[gb212]? = some (.cells #[.int .u64 0, .int .u64 0, .int .u64 0] 87 (0, 0))) := ⟨h3_⟩
 have n4_ : Aside0 (w.heap.size ≤ gb212) := ⟨h4_⟩
 have n5_ : Aside0 (w.heap.size ≤ gb212) := ⟨h5_⟩
 have n6_ : Aside0 (gb204 ≠ gb212) := ⟨h6_⟩
 have n7_ : Aside0 (gb212 ≠ gb204) := ⟨h7_⟩
 have n8_ : Aside0 (gb205 ≠ gb212) := ⟨h8_⟩
 have n9_ : Aside0 (gb212 ≠ gb205) := ⟨h9_⟩
 have n10_ : Aside0 (gb206 ≠ gb212) := ⟨h10_⟩
 have n11_ : Aside0 (gb212 ≠ gb206) := ⟨h11_⟩
 have n12_ : Aside0 (Below w.heap.size w w12) := ⟨h12_⟩
 clear BK204 BK205 BK206 HB h0_ h1_ h2_ h3_ h4_ h5_ h6_ h7_ h8_ h9_ h10_ h11_ h12_
 have BK204 := n0_
 have BK205 := n1_
 have BK206 := n2_
 have BK212 := n3_
 have GW212 := n4_
 have GE212 := n5_
 have NB204_212 := n6_
 have NB212_204 := n7_
 have NB205_212 := n8_
 have NB212_205 := n9_
 have NB206_212 := n10_
 have NB212_206 := n11_
 have HB := n12_
 clear n0_ n1_ n2_ n3_ n4_ n5_ n6_ n7_ n8_ n9_ n10_ n11_ n12_
 have hHeld : w12.cell? ⟨gb204, 0, none⟩ = some (.int .i64 a0_0) ∧ w12.cell? ⟨gb204, 1, none⟩ = some (.int .i64 a0_1) ∧ w12.cell? ⟨gb204, 2, none⟩ = some (.int .i64 a0_2) ∧ w12.cell? ⟨gb205, 0, none⟩ = some (.int .i64 a1_0) ∧ w12.cell? ⟨gb205, 1, none⟩ = some (.int .i64 a1_1) ∧ w12.cell? ⟨gb205, 2, none⟩ = some (.int .i64 a1_2) := hS_
 refine norm_ (a' := ?_) ?_ ?_
 rotate_left
 ·simp only [putAll, Act.put, ssB, ssZ, ssS]
  rfl
 refine one_ (i := 8) (N := none) #[true, true, true, true, true, true, true, true, true] rfl rfl (one_of HT_.out (by kernel_rfl)) (by decide) (fun K hK => ?_)
 obtain ⟨hs13, -, -, hfs13, -, -⟩ := bE3 BK212.out
 have hns13_0 := NB204_212.out
 have hns13_1 := NB205_212.out
 have hns13_2 := NB206_212.out
 have hms13_0 := NB212_204.out
 have hms13_1 := NB212_205.out
 have hms13_2 := NB212_206.out
 obtain ⟨-, hs14, -, -, hfs14, -⟩ := bE3 BK212.out
 have hns14_0 := NB204_212.out
 have hns14_1 := NB205_212.out
 have hns14_2 := NB206_212.out
 have hms14_0 := NB212_204.out
 have hms14_1 := NB212_205.out
 have hms14_2 := NB212_206.out
 obtain ⟨-, -, hs15, -, -, hfs15⟩ := bE3 BK212.out
 have hns15_0 := NB204_212.out
 have hns15_1 := NB205_212.out
 have hns15_2 := NB206_212.out
 have hms15_0 := NB212_204.out
 have hms15_1 := NB212_205.out
 have hms15_2 := NB212_206.out
 refine skip_ (w1 := ?_) (by rfl) rfl ?_ ?_
 rotate_left
 ·go_simp
  rfl
 refine hK.out _ _ ⟨((cell_far (p := ⟨gb212, _, none⟩) NB204_212.out _).trans (((cell_far (p := ⟨gb212, _, none⟩) NB204_212.out _).trans (((cell_far (p := ⟨gb212, _, none⟩) NB204_212.out _).trans (hHeld.1)))))), ((cell_far (p := ⟨gb212, _, none⟩) NB204_212.out _).trans (((cell_far (p := ⟨gb212, _, none⟩) NB204_212.out _).trans (((cell_far (p := ⟨gb212, _, none⟩) NB204_212.out _).trans (hHeld.2.1)))))), ((cell_far (p := ⟨gb212, _, none⟩) NB204_212.out _).trans (((cell_far (p := ⟨gb212, _, none⟩) NB204_212.out _).trans (((cell_far (p := ⟨gb212, _, none⟩) NB204_212.out _).trans (hHeld.2.2.1)))))), ((cell_far (p := ⟨gb212, _, none⟩) NB205_212.out _).trans (((cell_far (p := ⟨gb212, _, none⟩) NB205_212.out _).trans (((cell_far (p := ⟨gb212, _, none⟩) NB205_212.out _).trans (hHeld.2.2.2.1)))))), ((cell_far (p := ⟨gb212, _, none⟩) NB205_212.out _).trans (((cell_far (p := ⟨gb212, _, none⟩) NB205_212.out _).trans (((cell_far (p := ⟨gb212, _, none⟩) NB205_212.out _).trans (hHeld.2.2.2.2.1)))))), ((cell_far (p := ⟨gb212, _, none⟩) NB205_212.out _).trans (((cell_far (p := ⟨gb212, _, none⟩) NB205_212.out _).trans (((cell_far (p := ⟨gb212, _, none⟩) NB205_212.out _).trans (hHeld.2.2.2.2.2))))))⟩ (fun hHeld => ?_)
 clear hK K
 refine done_ (done_of HT_.out (by kernel_rfl)) ?_
 have hnb16 := NB212_204.out
 have hnc16 := NB204_212.out
 have hnb17 := NB212_205.out
 have hnc17 := NB205_212.out
 have hnb18 := NB212_206.out
 have hnc18 := NB206_212.out
 obtain ⟨hcz19_0, hcz19_1, hcz19_2, hfz19_0, hfz19_1, hfz19_2⟩ := bE3 BK212.out
 have hnb20 := NB206_204.out
 have hnc20 := NB204_206.out
 have hnb21 := NB206_205.out
 have hnc21 := NB205_206.out
 obtain ⟨hcz22_0, hcz22_1, hfz22_0, hfz22_1⟩ := bE2 BK206.out
 try go_wp2
 refine bodyPost_ret (results_cell_row rfl _ _ gb206 30 #[.int .u64 t210, .int .u64 t211] (0, 0) _ rfl (by (with_reducible repeat (first | refine bN ?_ _ | refine bD ?_ | refine bA ?_ _)); refine blk_put (cs := #[.int .u64 t210, .int .u64 0]) ?_ 1 _ rfl; (with_reducible repeat (first | refine bN ?_ _ | refine bD ?_ | refine bA ?_ _)); refine blk_put (cs := #[.int .u64 0, .int .u64 0]) ?_ 0 _ rfl; (with_reducible repeat (first | refine bN ?_ _ | refine bD ?_ | refine bA ?_ _)); refine blk_far ?_ NB206_212.out _; (with_reducible repeat (first | refine bN ?_ _ | refine bD ?_ | refine bA ?_ _)); refine blk_far ?_ NB206_212.out _; (with_reducible repeat (first | refine bN ?_ _ | refine bD ?_ | refine bA ?_ _)); refine blk_far ?_ NB206_212.out _; (with_reducible repeat (first | refine bN ?_ _ | refine bD ?_ | refine bA ?_ _)); exact BK206.out) Try.underlying30 rfl (by kernel_rfl)) rfl ?_
 exact ⟨by first | rfl | (simp [errW_none, errW_some] <;> rfl) | (simp [*, errW_none, errW_some] <;> rfl), by repeat (first | (with_reducible first | exact HB.out | apply lA | apply lN | apply lD | refine lS ?_ GE204.out | refine lS ?_ GE205.out | refine lS ?_ GE206.out | refine lS ?_ GE212.out) | exact HB.out)⟩

end Go.Proofs.Ytancajnbjmcamaa.QSplitLeaf
