-- Written by a program of this session (wip/tools/mkprint.py over the kit's print); Lean checks it.
import Derived.Test.YtglicbpnmehloaaQVoteVotesx0
namespace Go.Proofs.Ytglicbpnmehloaa.QVoteVotes
open Go.RowKit Go.Proofs.YtglicbpnmehloaaW.PrintWords Go.Proofs.YtglicbpnmehloaaW.PrintLast Go.Proofs.YtglicbpnmehloaaW.PrintMore
attribute [local go_sem] max2_int min2_int max_two min_two max_three min_three max_four min_four   -- for this text's walks alone
set_option linter.unusedVariables false
set_option linter.unusedSimpArgs false

/-! ### vote_Class: function 14 -/
def vote_Class.cn : List S31 → Int → Int
  | [], _ => 0
  | x :: l, c => (if x.f3 = c then 1 else 0) + vote_Class.cn l c
theorem vote_Class.cn_bound (l : List S31) (c : Int) : 0 ≤ vote_Class.cn l c ∧ vote_Class.cn l c ≤ l.length := by
  induction l with
  | nil => simp [vote_Class.cn]
  | cons x l ih => rw [vote_Class.cn, List.length_cons]; split <;> omega
theorem vote_Class.cn_snoc (l : List S31) (x : S31) (c : Int) : vote_Class.cn (l ++ [x]) c = vote_Class.cn l c + (if x.f3 = c then 1 else 0) := by
  induction l with
  | nil => simp [vote_Class.cn]
  | cons y l ih => rw [List.cons_append, vote_Class.cn, ih, vote_Class.cn]; omega
def vote_Class.cs (l : List S31) : Array Value := ((List.range 256).map fun j : Nat => Value.int .i64 (vote_Class.cn l (j : Int))).toArray
theorem vote_Class.cs_size (l : List S31) : (vote_Class.cs l).size = 256 := by simp [vote_Class.cs]
theorem vote_Class.cs_get (l : List S31) (i : Nat) (h : i < 256) : (vote_Class.cs l)[i]? = some (.int .i64 (vote_Class.cn l (i : Int))) := by
  simp [vote_Class.cs, List.getElem?_map, List.getElem?_range, h]
theorem vote_Class.cs_set (l : List S31) (x : S31) (i : Nat) (_hi : i < 256) (hx : x.f3 = (i : Int)) : (vote_Class.cs l).setIfInBounds i (.int .i64 (vote_Class.cn l (i : Int) + 1)) = vote_Class.cs (l ++ [x]) := by
  apply Array.ext_getElem?
  intro j
  rw [Array.getElem?_setIfInBounds, vote_Class.cs_size]
  by_cases hj : j < 256
  · rw [vote_Class.cs_get _ _ hj, vote_Class.cs_get _ _ hj, vote_Class.cn_snoc, hx]
    by_cases hij : i = j
    · subst hij
      rw [if_pos rfl, if_pos hj, if_pos rfl]
    · rw [if_neg hij, if_neg (by omega), Int.add_zero]
  · have h1 : (vote_Class.cs (l ++ [x]))[j]? = none := Array.getElem?_eq_none (by rw [vote_Class.cs_size]; omega)
    have h2 : (vote_Class.cs l)[j]? = none := Array.getElem?_eq_none (by rw [vote_Class.cs_size]; omega)
    rw [h1, h2]
    split
    · rename_i e; exact absurd _hi (by omega)
    · rfl
def vote_Class.bst (l : List S31) : Nat → Int
  | 0 => 0
  | n + 1 => if vote_Class.cn l (n : Int) > vote_Class.cn l (vote_Class.bst l n) then (n : Int) else vote_Class.bst l n
theorem vote_Class.bst_bound (l : List S31) (n : Nat) : 0 ≤ vote_Class.bst l n ∧ (vote_Class.bst l n < n ∨ vote_Class.bst l n = 0) := by
  induction n with
  | zero => simp [vote_Class.bst]
  | succ n ih => rw [vote_Class.bst]; split <;> omega
def vote_Class.ok (l : List S31) (a1 : Int) : Bool := l.all fun x => decide (0 ≤ x.f3) && decide (x.f3 < a1)
def vote_Class.f (l : List S31) (a1 : Int) : Option (Int × Int) :=
  if l.length ≤ 9223372036854775807 then (if (l.length : Int) = 0 ∨ a1 < 1 ∨ a1 > 256 then some (0, 1) else if vote_Class.ok l a1 = true then some (vote_Class.bst l 256, 0) else some (0, 5)) else none
theorem vote_Class.run_zero (w : World) : (zeroValue 59).run Try.prog w = .ok (.agg (vote_Class.cs [])) w := by kernel_rfl
theorem vote_Class.run_index (cs : Array Value) (i : Int) (v : Value) (h0 : 0 ≤ i) (h1 : i < 256) (hv : cs[i.toNat]? = some v) (w : World) : (Instr.index 59 (.agg cs) (.int .i64 i)).run Try.prog w = .ok v w := by
  have hs : ∀ w, (sizeOf 3).run Try.prog w = .ok 1 w := fun _ => by kernel_rfl
  simp [Instr.index, run_underlying Try.underlying59, asIntOf, h0, h1, hs, part, hv, go_sem]
theorem vote_Class.tab : ∃ C : List S31 → Array Value, (∀ l, (C l).size = 256) ∧ (∀ l (i : Nat), i < 256 → (C l)[i]? = some (.int .i64 (vote_Class.cn l (i : Int)))) ∧
    (∀ l (x : S31) (i : Nat), i < 256 → x.f3 = (i : Int) → (C l).setIfInBounds i (.int .i64 (vote_Class.cn l (i : Int) + 1)) = C (l ++ [x])) ∧ (∀ w, (zeroValue 59).run Try.prog w = .ok (.agg (C [])) w) :=
  ⟨vote_Class.cs, vote_Class.cs_size, vote_Class.cs_get, vote_Class.cs_set, vote_Class.run_zero⟩
theorem vote_Class.btab (l : List S31) : ∃ B : Nat → Int, B 0 = 0 ∧ (∀ n : Nat, B (n + 1) = if vote_Class.cn l (n : Int) > vote_Class.cn l (B n) then (n : Int) else B n) ∧ (∀ n, 0 ≤ B n ∧ (B n < n ∨ B n = 0)) ∧ B 256 = vote_Class.bst l 256 :=
  ⟨vote_Class.bst l, rfl, fun _ => rfl, vote_Class.bst_bound l, rfl⟩
set_option maxHeartbeats 8000000 in
set_option maxRecDepth 100000 in
theorem vote_Class.calls (A0 : Option Addr) (c0 : Nat) (l0 : List (S31)) (a1 : Int) (r1 : Int) (r2 : Int) (w : World) (hr0 : Kd.C k31 w A0 l0.length l0) (hc0 : l0.length ≤ c0) (h : vote_Class.f l0 a1 = some (r1, r2)) :
    Calls Try.prog 14 #[.slice A0 l0.length c0, .int .i64 a1] w fun e w' => e = .returned (.tuple #[.int .i64 r1, .int .i64 r2]) ∧ Below w.heap.size w w' := by
  have hu31 := Try.underlying31
  have hu59 := Try.underlying59
  obtain ⟨C_, cz_, cg_, cs_, cn_⟩ := vote_Class.tab
  have CZ_ := Aside0.mk cz_
  have CG_ := Aside0.mk cg_
  have CS_ := Aside0.mk cs_
  have CN_ := Aside0.mk cn_
  clear cz_ cg_ cs_ cn_
  obtain ⟨B_, b0_, bs_, bb_, be_⟩ := vote_Class.btab l0
  have B0_ := Aside0.mk b0_
  have BS_ := Aside0.mk bs_
  have BB_ := Aside0.mk bb_
  unfold vote_Class.f at h
  rw [← be_] at h
  clear b0_ bs_ bb_ be_
  have HR0 := Aside0.mk hr0
  have HC0 := Aside0.mk hc0
  clear hr0 hc0
  have HB := Aside0.mk (Below.refl w.heap.size w)
  have hlen : l0.length ≤ 9223372036854775807 := by
    by_cases hl : l0.length ≤ 9223372036854775807
    · exact hl
    · rw [if_neg hl] at h; cases h
  rw [if_pos hlen] at h
  by_cases c1 : (l0.length : Int) = 0
  · rw [if_pos (.inl c1)] at h
    have c1b0 : ((l0.length : Int) == 0) = true := beq_iff_eq.mpr c1
    simp only [Option.some.injEq, Prod.mk.injEq] at h
    obtain ⟨rfl, rfl⟩ := h
    clear c1 hlen
    go_enter Try.func14, Try.ntmps14
    go_wp2
    go_ret2
    exact ⟨rfl, by repeat (first | (with_reducible first | exact HB.out | apply below_alloc | apply pw_below_drewN | apply below_drew1) | exact HB.out)⟩
  have c1b0 : ((l0.length : Int) == 0) = false := beq_eq_false_iff_ne.mpr c1
  have c1b2 : ¬ (l0 = []) := fun h_ => c1 (by rw [h_]; rfl)
  by_cases c2 : a1 < 1
  · rw [if_pos (.inr (.inl c2))] at h
    have c2b0 : decide (a1 < 1) = true := decide_eq_true c2
    simp only [Option.some.injEq, Prod.mk.injEq] at h
    obtain ⟨rfl, rfl⟩ := h
    clear c1 c2 hlen
    go_enter Try.func14, Try.ntmps14
    go_wp2
    go_ret2
    exact ⟨rfl, by repeat (first | (with_reducible first | exact HB.out | apply below_alloc | apply pw_below_drewN | apply below_drew1) | exact HB.out)⟩
  have c2b0 : decide (a1 < 1) = false := decide_eq_false c2
  by_cases c3 : a1 > 256
  · rw [if_pos (.inr (.inr c3))] at h
    have c3b0 : decide (256 < a1) = true := decide_eq_true c3
    simp only [Option.some.injEq, Prod.mk.injEq] at h
    obtain ⟨rfl, rfl⟩ := h
    clear c1 c2 c3 hlen
    go_enter Try.func14, Try.ntmps14
    go_wp2
    go_ret2
    exact ⟨rfl, by repeat (first | (with_reducible first | exact HB.out | apply below_alloc | apply pw_below_drewN | apply below_drew1) | exact HB.out)⟩
  have c3b0 : decide (256 < a1) = false := decide_eq_false c3
  rw [if_neg (by omega)] at h
  have HA1 : Aside0 (1 ≤ a1 ∧ a1 ≤ 256) := ⟨by omega⟩
  have HL := Aside0.mk hlen
  have H := Aside0.mk h
  clear h hlen c1 c2 c3
  have hzero := CN_.out
  go_enter Try.func14, Try.ntmps14
  go_wp2_with (first | ((with_reducible refine gate_dst (N := 6) rfl ?_); refine box_event ?hg (N := 6) ?hd (cs := C_ []) (t := 59) ?hr ?_; (case hd => rfl); (case hg => rfl); (case hr => first | (go_simp; done) | (go_simp; rfl)); intro g6 hg w3 hbox hb; have n0_ := Aside0.mk (below_step HB.out hb); have n1_ := Aside0.mk hbox; have n2_ := Aside0.mk (show w.heap.size ≤ g6 by rw [hg]; exact below_size HB.out); clear HB; have HB := n0_; have BK := n1_; have GE6 := n2_; clear n0_ n1_ n2_; clear hb hbox hg))
  clear c1b0 c1b2 c2b0 c3b0 hzero
  go_loopw [25] (fun v25 w' => ∃ x25 : Int, v25 = .int .i64 x25 ∧ Aside0 (0 ≤ x25 ∧ x25 ≤ (l0.length : Int) ∧ vote_Class.ok (l0.take x25.toNat) a1 = true) ∧ Aside0 (w'.heap[g6]? = some (.cells (C_ (l0.take x25.toNat)) 59 (0, 0))) ∧ Aside0 (Below w.heap.size w w')) (fun v25 _ => l0.length - (intOf v25).toNat)
  case atStart => exact ⟨0, rfl, ⟨by omega, by omega, rfl⟩, ⟨BK.out⟩, ⟨by repeat (first | (with_reducible first | exact HB.out | apply below_alloc | apply pw_below_drewN | apply below_drew1) | exact HB.out)⟩⟩
  case round =>
    clear BK HB
    obtain ⟨x25, rfl, HK, BK, HB⟩ := hrel
    by_cases hlt : x25 < (l0.length : Int)
    · have HLT := Aside0.mk hlt
      have hltb : decide (x25 < (l0.length : Int)) = true := decide_eq_true hlt
      have h0b : decide (0 ≤ x25) = true := decide_eq_true HK.out.1
      have HT : Aside0 (l0.take (x25 + 1).toNat = l0.take x25.toNat ++ [rd_T31 l0 x25]) := ⟨by
        obtain ⟨k, rfl⟩ := Int.eq_ofNat_of_zero_le HK.out.1
        rw [show ((k : Int) + 1).toNat = k + 1 by omega, List.take_succ_eq_append_getElem (show k < l0.length by omega)]
        simp [rd_T31, List.getD, show k < l0.length by omega]⟩
      have HM : Aside0 (wrap64 (x25 + 1) = x25 + 1) := ⟨by have := HL.out; have := HK.out; unfold wrap64; omega⟩
      have HOK : Aside0 (vote_Class.ok (l0.take (x25 + 1).toNat) a1 = (decide (0 ≤ (rd_T31 l0 x25).f3) && decide ((rd_T31 l0 x25).f3 < a1))) := ⟨by
        rw [HT.out]
        have := HK.out.2.2
        unfold vote_Class.ok at this ⊢
        rw [List.all_append, this, List.all_cons, List.all_nil, Bool.true_and, Bool.and_true]⟩
      have HBAD : Aside0 (vote_Class.ok (l0.take (x25 + 1).toNat) a1 = false → vote_Class.ok l0 a1 = false) := ⟨fun hb => by
        unfold vote_Class.ok at hb ⊢
        rw [List.all_eq_false] at hb ⊢
        obtain ⟨x, hx, hn⟩ := hb
        exact ⟨x, List.mem_of_mem_take hx, hn⟩⟩
      have HCC : Aside0 ((0 ≤ (rd_T31 l0 x25).f3 ∧ (rd_T31 l0 x25).f3 < a1) → ∀ W : World, W.heap[g6]? = some (.cells (C_ (l0.take x25.toNat)) 59 (0, 0)) → W.cell? ⟨g6, (rd_T31 l0 x25).f3.toNat, none⟩ = some (.int .i64 (vote_Class.cn (l0.take x25.toNat) (rd_T31 l0 x25).f3))) := ⟨fun hv W hW => by
        have ha := HA1.out
        rw [blk_cell hW, CG_.out _ _ (by omega), Int.toNat_of_nonneg hv.1]⟩
      have HST : Aside0 ((0 ≤ (rd_T31 l0 x25).f3 ∧ (rd_T31 l0 x25).f3 < a1) → ∀ W : World, W.heap[g6]? = some (.cells (C_ (l0.take x25.toNat)) 59 (0, 0)) → (W.setCell ⟨g6, (rd_T31 l0 x25).f3.toNat, none⟩ (.int .i64 (wrap64 (vote_Class.cn (l0.take x25.toNat) (rd_T31 l0 x25).f3 + 1)))).heap[g6]? = some (.cells (C_ (l0.take (x25 + 1).toNat)) 59 (0, 0))) := ⟨fun hv W hW => by
        have ha := HA1.out
        have hb := vote_Class.cn_bound (l0.take x25.toNat) (rd_T31 l0 x25).f3
        have hl := HL.out
        have ht : (l0.take x25.toNat).length ≤ l0.length := by rw [List.length_take]; omega
        have hk := HK.out; have hlt2 := HLT.out
        have htl : (l0.take x25.toNat).length = x25.toNat := by rw [List.length_take]; omega
        have hw : wrap64 (vote_Class.cn (l0.take x25.toNat) (rd_T31 l0 x25).f3 + 1) = vote_Class.cn (l0.take x25.toNat) (rd_T31 l0 x25).f3 + 1 := by unfold wrap64; omega
        have e3 : (((rd_T31 l0 x25).f3.toNat : Nat) : Int) = (rd_T31 l0 x25).f3 := Int.toNat_of_nonneg hv.1
        rw [blk_set hW, hw, HT.out, ← CS_.out _ _ (rd_T31 l0 x25).f3.toNat (by omega) e3.symm, e3]⟩
      obtain ⟨ad, e, hx_0, hx_1, hx_2, hx_3, hx_4, hx_5⟩ := at_T31 HR0.out x25 HK.out.1 hlt
      cases e
      replace hx_0 := (HB.out.cell (World.block_lt_of_cell? w _ hx_0)).trans hx_0
      replace hx_1 := (HB.out.cell (World.block_lt_of_cell? w _ hx_1)).trans hx_1
      replace hx_2 := (HB.out.cell (World.block_lt_of_cell? w _ hx_2)).trans hx_2
      replace hx_3 := (HB.out.cell (World.block_lt_of_cell? w _ hx_3)).trans hx_3
      replace hx_4 := (HB.out.cell (World.block_lt_of_cell? w _ hx_4)).trans hx_4
      replace hx_5 := (HB.out.cell (World.block_lt_of_cell? w _ hx_5)).trans hx_5
      by_cases c4 : (rd_T31 l0 x25).f3 < 0
      · have c4b : decide ((rd_T31 l0 x25).f3 < 0) = true := decide_eq_true c4
        have HR : Aside0 ((0 : Int) = r1 ∧ (5 : Int) = r2) := ⟨by
          have := H.out
          rw [HBAD.out (by rw [HOK.out, decide_eq_false (by omega)]; rfl), if_neg (by decide)] at this
          simpa using this⟩
        obtain ⟨e1, e2⟩ := HR.out
        subst e1; subst e2
        have p1 := eq_true HK.out.1
        have q1 := eq_true hlt
        clear c4 hlt HR
        go_wp2_with (first | ((with_reducible refine gate_dst (N := 8) rfl ?_); refine box_event ?hg (N := 8) ?hd (cs := #[.int .i64 0, .int .i64 0, .int .i64 0, .int .i64 0, .int .i64 0, .int .i64 0]) (t := 31) ?hr ?_; (case hd => rfl); (case hg => rfl); (case hr => first | (go_simp; done) | (go_simp; rfl)); intro g8 hg w7 hbox hb; have n0_ := Aside0.mk (below_step HB.out hb); have n1_ := Aside0.mk hbox; have n2_ := Aside0.mk (show w.heap.size ≤ g8 by rw [hg]; exact below_size HB.out); have n3_ := Aside0.mk (blk_below BK.out hb); have n4_ := Aside0.mk (show g6 ≠ g8 by rw [hg]; exact Nat.ne_of_lt (blk_lt BK.out)); have n5_ := Aside0.mk (show g8 ≠ g6 by rw [hg]; exact Nat.ne_of_gt (blk_lt BK.out)); clear HB BK; have HB := n0_; have BK8 := n1_; have GE8 := n2_; have BK := n3_; have NB := n4_; have NC := n5_; have nb_ := n4_.out; have nc_ := n5_.out; clear n0_ n1_ n2_ n3_ n4_ n5_; clear hb hbox hg; have hcz8_0 : w7.cell? ⟨g8, 0, none⟩ = some (.int .i64 0) := (blk_cell BK8.out 0).trans rfl; have hcz8_1 : w7.cell? ⟨g8, 1, none⟩ = some (.int .i64 0) := (blk_cell BK8.out 1).trans rfl; have hcz8_2 : w7.cell? ⟨g8, 2, none⟩ = some (.int .i64 0) := (blk_cell BK8.out 2).trans rfl; have hcz8_3 : w7.cell? ⟨g8, 3, none⟩ = some (.int .i64 0) := (blk_cell BK8.out 3).trans rfl; have hcz8_4 : w7.cell? ⟨g8, 4, none⟩ = some (.int .i64 0) := (blk_cell BK8.out 4).trans rfl; have hcz8_5 : w7.cell? ⟨g8, 5, none⟩ = some (.int .i64 0) := (blk_cell BK8.out 5).trans rfl; have hfz8_0 := blk_frozen BK8.out 0; have hfz8_1 := blk_frozen BK8.out 1; have hfz8_2 := blk_frozen BK8.out 2; have hfz8_3 := blk_frozen BK8.out 3; have hfz8_4 := blk_frozen BK8.out 4; have hfz8_5 := blk_frozen BK8.out 5))
        go_ret2
        exact ⟨rfl, by repeat (first | (with_reducible first | exact HB.out | apply below_alloc | apply pw_below_drewN | apply below_drew1 | refine below_set ?_ GE8.out | refine below_set ?_ GE6.out) | exact HB.out)⟩
      · have c4b : decide ((rd_T31 l0 x25).f3 < 0) = false := decide_eq_false c4
        have c4c : (0 ≤ (rd_T31 l0 x25).f3) = True := eq_true (by omega)
        by_cases c5 : a1 ≤ (rd_T31 l0 x25).f3
        · have c5b : decide (a1 ≤ (rd_T31 l0 x25).f3) = true := decide_eq_true c5
          have HR : Aside0 ((0 : Int) = r1 ∧ (5 : Int) = r2) := ⟨by
            have := H.out
            rw [HBAD.out (by rw [HOK.out, decide_eq_false (show ¬ (rd_T31 l0 x25).f3 < a1 by omega), Bool.and_false]), if_neg (by decide)] at this
            simpa using this⟩
          obtain ⟨e1, e2⟩ := HR.out
          subst e1; subst e2
          have p1 := eq_true HK.out.1
          have q1 := eq_true hlt
          clear c4 c5 hlt HR
          go_wp2_with (first | ((with_reducible refine gate_dst (N := 8) rfl ?_); refine box_event ?hg (N := 8) ?hd (cs := #[.int .i64 0, .int .i64 0, .int .i64 0, .int .i64 0, .int .i64 0, .int .i64 0]) (t := 31) ?hr ?_; (case hd => rfl); (case hg => rfl); (case hr => first | (go_simp; done) | (go_simp; rfl)); intro g8 hg w7 hbox hb; have n0_ := Aside0.mk (below_step HB.out hb); have n1_ := Aside0.mk hbox; have n2_ := Aside0.mk (show w.heap.size ≤ g8 by rw [hg]; exact below_size HB.out); have n3_ := Aside0.mk (blk_below BK.out hb); have n4_ := Aside0.mk (show g6 ≠ g8 by rw [hg]; exact Nat.ne_of_lt (blk_lt BK.out)); have n5_ := Aside0.mk (show g8 ≠ g6 by rw [hg]; exact Nat.ne_of_gt (blk_lt BK.out)); clear HB BK; have HB := n0_; have BK8 := n1_; have GE8 := n2_; have BK := n3_; have NB := n4_; have NC := n5_; have nb_ := n4_.out; have nc_ := n5_.out; clear n0_ n1_ n2_ n3_ n4_ n5_; clear hb hbox hg; have hcz8_0 : w7.cell? ⟨g8, 0, none⟩ = some (.int .i64 0) := (blk_cell BK8.out 0).trans rfl; have hcz8_1 : w7.cell? ⟨g8, 1, none⟩ = some (.int .i64 0) := (blk_cell BK8.out 1).trans rfl; have hcz8_2 : w7.cell? ⟨g8, 2, none⟩ = some (.int .i64 0) := (blk_cell BK8.out 2).trans rfl; have hcz8_3 : w7.cell? ⟨g8, 3, none⟩ = some (.int .i64 0) := (blk_cell BK8.out 3).trans rfl; have hcz8_4 : w7.cell? ⟨g8, 4, none⟩ = some (.int .i64 0) := (blk_cell BK8.out 4).trans rfl; have hcz8_5 : w7.cell? ⟨g8, 5, none⟩ = some (.int .i64 0) := (blk_cell BK8.out 5).trans rfl; have hfz8_0 := blk_frozen BK8.out 0; have hfz8_1 := blk_frozen BK8.out 1; have hfz8_2 := blk_frozen BK8.out 2; have hfz8_3 := blk_frozen BK8.out 3; have hfz8_4 := blk_frozen BK8.out 4; have hfz8_5 := blk_frozen BK8.out 5))
          go_ret2
          exact ⟨rfl, by repeat (first | (with_reducible first | exact HB.out | apply below_alloc | apply pw_below_drewN | apply below_drew1 | refine below_set ?_ GE8.out | refine below_set ?_ GE6.out) | exact HB.out)⟩
        · have c5b : decide (a1 ≤ (rd_T31 l0 x25).f3) = false := decide_eq_false c5
          have HV : Aside0 (0 ≤ (rd_T31 l0 x25).f3 ∧ (rd_T31 l0 x25).f3 < a1) := ⟨by omega⟩
          have c6c : ((rd_T31 l0 x25).f3 < 256) = True := eq_true (by have := HA1.out; omega)
          have HOK2 : Aside0 (vote_Class.ok (l0.take (x25 + 1).toNat) a1 = true) := ⟨by rw [HOK.out, decide_eq_true HV.out.1, decide_eq_true HV.out.2]; rfl⟩
          have hcc0 := HCC.out HV.out
          have hst0 := HST.out HV.out
          clear HCC
          have HCC := Aside0.mk hcc0
          clear HST
          have HST := Aside0.mk hst0
          have p1 := eq_true HK.out.1
          have q1 := eq_true hlt
          clear c4 c5 hlt hcc0 hst0
          go_wp2_with (first | ((with_reducible refine gate_dst (N := 8) rfl ?_); refine box_event ?hg (N := 8) ?hd (cs := #[.int .i64 0, .int .i64 0, .int .i64 0, .int .i64 0, .int .i64 0, .int .i64 0]) (t := 31) ?hr ?_; (case hd => rfl); (case hg => rfl); (case hr => first | (go_simp; done) | (go_simp; rfl)); intro g8 hg w7 hbox hb; have n0_ := Aside0.mk (below_step HB.out hb); have n1_ := Aside0.mk hbox; have n2_ := Aside0.mk (show w.heap.size ≤ g8 by rw [hg]; exact below_size HB.out); have n3_ := Aside0.mk (blk_below BK.out hb); have n4_ := Aside0.mk (show g6 ≠ g8 by rw [hg]; exact Nat.ne_of_lt (blk_lt BK.out)); have n5_ := Aside0.mk (show g8 ≠ g6 by rw [hg]; exact Nat.ne_of_gt (blk_lt BK.out)); clear HB BK; have HB := n0_; have BK8 := n1_; have GE8 := n2_; have BK := n3_; have NB := n4_; have NC := n5_; have nb_ := n4_.out; have nc_ := n5_.out; clear n0_ n1_ n2_ n3_ n4_ n5_; clear hb hbox hg; have hcz8_0 : w7.cell? ⟨g8, 0, none⟩ = some (.int .i64 0) := (blk_cell BK8.out 0).trans rfl; have hcz8_1 : w7.cell? ⟨g8, 1, none⟩ = some (.int .i64 0) := (blk_cell BK8.out 1).trans rfl; have hcz8_2 : w7.cell? ⟨g8, 2, none⟩ = some (.int .i64 0) := (blk_cell BK8.out 2).trans rfl; have hcz8_3 : w7.cell? ⟨g8, 3, none⟩ = some (.int .i64 0) := (blk_cell BK8.out 3).trans rfl; have hcz8_4 : w7.cell? ⟨g8, 4, none⟩ = some (.int .i64 0) := (blk_cell BK8.out 4).trans rfl; have hcz8_5 : w7.cell? ⟨g8, 5, none⟩ = some (.int .i64 0) := (blk_cell BK8.out 5).trans rfl; have hfz8_0 := blk_frozen BK8.out 0; have hfz8_1 := blk_frozen BK8.out 1; have hfz8_2 := blk_frozen BK8.out 2; have hfz8_3 := blk_frozen BK8.out 3; have hfz8_4 := blk_frozen BK8.out 4; have hfz8_5 := blk_frozen BK8.out 5; have hcc : w7.cell? ⟨g6, (rd_T31 l0 x25).f3.toNat, none⟩ = some (.int .i64 (vote_Class.cn (l0.take x25.toNat) (rd_T31 l0 x25).f3)) := HCC.out w7 BK.out; have hff := blk_frozen BK.out (rd_T31 l0 x25).f3.toNat))
          go_roundw
          case rel => exact ⟨_, rfl, ⟨by rw [HM.out]; have := HK.out; omega, by rw [HM.out]; have := HLT.out; omega, by rw [HM.out]; exact HOK2.out⟩, ⟨by rw [HM.out]; with_reducible refine HST.out _ ?_; (with_reducible repeat (first | exact BK.out | refine blk_far ?_ NB.out _))⟩, ⟨by repeat (first | (with_reducible first | exact HB.out | apply below_alloc | apply pw_below_drewN | apply below_drew1 | refine below_set ?_ GE8.out | refine below_set ?_ GE6.out) | exact HB.out)⟩⟩
          case measure => have := HK.out; have := HLT.out; have := HM.out; simp only [intOf]; first | omega | (simp [intOf]; omega)
    · have HE := Aside0.mk (show x25 = (l0.length : Int) by have := HK.out; omega)
      have hltb : decide (x25 < (l0.length : Int)) = false := decide_eq_false hlt
      have HT : Aside0 (l0.take x25.toNat = l0) := ⟨by rw [HE.out, Int.toNat_natCast, List.take_length]⟩
      have HR : Aside0 (B_ 256 = r1 ∧ (0 : Int) = r2) := ⟨by
        have h1 := HK.out.2.2
        rw [HT.out] at h1
        have := H.out
        rw [if_pos h1] at this
        simpa using this⟩
      have BK2 : Aside0 (wr.heap[g6]? = some (.cells (C_ l0) 59 (0, 0))) := ⟨by have := BK.out; rw [HT.out] at this; exact this⟩
      have hsz : (Try.prog.info? 59).map (·.size) = some (C_ l0).size := by rw [CZ_.out]; kernel_rfl
      have HSZ := Aside0.mk hsz
      clear hlt hsz BK
      go_wp2_with (first | (refine wpList_load_row rfl 59 (.tmp 6) rfl g6 rfl 59 (C_ l0) (0, 0) _ BK2.out Try.underlying59 rfl HSZ.out ?_))
      go_loopw [9, 46] (fun v9 v46 w' => ∃ n : Nat, v46 = .int .i64 n ∧ v9 = .int .i64 (B_ n) ∧ Aside0 (n ≤ 256) ∧ Aside0 (w'.heap[g6]? = some (.cells (C_ l0) 59 (0, 0))) ∧ Aside0 (Below w.heap.size w w')) (fun _ v46 _ => 256 - (intOf v46).toNat)
      case atStart => exact ⟨0, rfl, by rw [B0_.out], ⟨by omega⟩, ⟨BK2.out⟩, ⟨by repeat (first | (with_reducible first | exact HB.out | apply below_alloc | apply pw_below_drewN | apply below_drew1) | exact HB.out)⟩⟩
      case round =>
        clear BK2 HB
        obtain ⟨n, rfl, rfl, HN, BK, HB⟩ := hrel
        have hb := BB_.out n
        have HBB := Aside0.mk hb
        clear hb
        by_cases hn : n < 256
        · have HN2 := Aside0.mk hn
          have hnb : decide ((n : Int) < 256) = true := decide_eq_true (by omega)
          have hnb2 : decide (n < 256) = true := decide_eq_true hn
          have hidx : ∀ W, (Instr.index 59 (.agg (C_ l0)) (.int .i64 (n : Int))).run Try.prog W = .ok (.int .i64 (vote_Class.cn l0 (n : Int))) W := fun W => vote_Class.run_index _ _ _ (by omega) (by omega) (by rw [Int.toNat_natCast]; exact CG_.out l0 n hn) W
          obtain ⟨b, hbe⟩ : ∃ b, b = B_ n := ⟨_, rfl⟩
          rw [← hbe]
          have HBE := Aside0.mk hbe
          clear hbe
          have HBD : Aside0 (0 ≤ b ∧ b < 256) := ⟨by have := HBB.out; have := HBE.out; have := HN2.out; omega⟩
          have b0 := eq_true HBD.out.1
          have b1 := eq_true HBD.out.2
          have hcell : wr.cell? ⟨g6, b.toNat, none⟩ = some (.int .i64 (vote_Class.cn l0 b)) := by
            have := HBD.out
            rw [blk_cell BK.out, CG_.out _ _ (by omega), Int.toNat_of_nonneg HBD.out.1]
          have hfro := blk_frozen BK.out b.toNat
          have HM : Aside0 (wrap64 ((n : Int) + 1) = ((n + 1 : Nat) : Int)) := ⟨by have := HN2.out; unfold wrap64; omega⟩
          by_cases c7 : vote_Class.cn l0 b < vote_Class.cn l0 (n : Int)
          · have c7b : decide (vote_Class.cn l0 b < vote_Class.cn l0 (n : Int)) = true := decide_eq_true c7
            have HS : Aside0 (B_ (n + 1) = (n : Int)) := ⟨by rw [BS_.out, ← HBE.out, if_pos c7]⟩
            clear c7 hn
            go_wp2
            go_roundw
            case rel => exact ⟨n + 1, by rw [HM.out], by rw [HS.out], ⟨by have := HN2.out; omega⟩, ⟨by (with_reducible repeat (first | refine blk_drewN ?_ _ | refine blk_drew ?_ | refine blk_alloc ?_ _)); exact BK.out⟩, ⟨by repeat (first | (with_reducible first | exact HB.out | apply below_alloc | apply pw_below_drewN | apply below_drew1) | exact HB.out)⟩⟩
            case measure => have := HN2.out; rw [HM.out]; show 256 - ((n + 1 : Nat) : Int).toNat < 256 - ((n : Nat) : Int).toNat; rw [Int.toNat_natCast, Int.toNat_natCast]; omega
          · have c7b : decide (vote_Class.cn l0 b < vote_Class.cn l0 (n : Int)) = false := decide_eq_false c7
            have HS : Aside0 (B_ (n + 1) = b) := ⟨by rw [BS_.out, ← HBE.out, if_neg c7]⟩
            clear c7 hn
            go_wp2
            go_roundw
            case rel => exact ⟨n + 1, by rw [HM.out], by rw [HS.out], ⟨by have := HN2.out; omega⟩, ⟨by (with_reducible repeat (first | refine blk_drewN ?_ _ | refine blk_drew ?_ | refine blk_alloc ?_ _)); exact BK.out⟩, ⟨by repeat (first | (with_reducible first | exact HB.out | apply below_alloc | apply pw_below_drewN | apply below_drew1) | exact HB.out)⟩⟩
            case measure => have := HN2.out; rw [HM.out]; show 256 - ((n + 1 : Nat) : Int).toNat < 256 - ((n : Nat) : Int).toNat; rw [Int.toNat_natCast, Int.toNat_natCast]; omega
        · have HN3 : Aside0 (n = 256) := ⟨by have := HN.out; omega⟩
          have hnb : decide ((n : Int) < 256) = false := decide_eq_false (by omega)
          have hnb2 : decide (n < 256) = false := decide_eq_false hn
          clear hn
          go_wp2
          go_ret2
          exact ⟨by obtain ⟨e1, e2⟩ := HR.out; rw [← e1, ← e2, ← HN3.out]; first | done | rfl, by repeat (first | (with_reducible first | exact HB.out | apply below_alloc | apply pw_below_drewN | apply below_drew1) | exact HB.out)⟩


/-! ### prod_Floor: function 11 -/
def prod_Floor.f (a0 : Int) (a1 : Int) : Option (Int × Int) := if a1 < 1 then (some (0, 1)) else (if a1 = 0 then (none) else (if (Int.tmod a0 a1) < 0 then (some (wrap64 ((wrap64 (Int.tdiv a0 a1)) - 1), 0)) else (some (wrap64 (Int.tdiv a0 a1), 0))))
set_option maxHeartbeats 8000000 in
set_option maxRecDepth 100000 in
theorem prod_Floor.calls (a0 : Int) (a1 : Int) (r1 : Int) (r2 : Int) (w : World) (h : prod_Floor.f a0 a1 = some (r1, r2)) :
    Calls Try.prog 11 #[.int .i64 a0, .int .i64 a1] w fun e w' => e = .returned (.tuple #[.int .i64 r1, .int .i64 r2]) ∧ Drawn0 w w' := by
  have H : (if a1 < 1 then (some (0, 1)) else (if a1 = 0 then (none) else (if (Int.tmod a0 a1) < 0 then (some (wrap64 ((wrap64 (Int.tdiv a0 a1)) - 1), 0)) else (some (wrap64 (Int.tdiv a0 a1), 0))))) = some (r1, r2) := h
  clear h
  by_cases c3 : a1 < 1
  · rw [if_pos c3] at H
    have c3b0 : decide (a1 < 1) = true := decide_eq_true c3
    clear c3
    simp only [Option.some.injEq, Prod.mk.injEq] at H
    obtain ⟨rfl, rfl⟩ := H
    go_enter Try.func11, Try.ntmps11
    go_wp2
    all_goals (go_ret2; exact ⟨by first | rfl | (simp; done) | (simp [*]; done), by repeat (first | exact Drawn0.refl _ | apply Drawn0.step)⟩)
  · rw [if_neg c3] at H
    have c3b0 : decide (a1 < 1) = false := decide_eq_false c3
    clear c3
    by_cases c4 : a1 = 0
    · rw [if_pos c4] at H
      exact absurd H (by simp)
    · rw [if_neg c4] at H
      have c4b0 : (a1 == 0) = false := beq_eq_false_iff_ne.mpr c4
      have c4b1 : (a1 != 0) = true := bne_iff_ne.mpr c4
      by_cases c5 : (Int.tmod a0 a1) < 0
      · rw [if_pos c5] at H
        have c5b0 : decide ((Int.tmod a0 a1) < 0) = true := decide_eq_true c5
        clear c5
        simp only [Option.some.injEq, Prod.mk.injEq] at H
        obtain ⟨rfl, rfl⟩ := H
        go_enter Try.func11, Try.ntmps11
        go_wp2
        all_goals (go_ret2; exact ⟨by first | rfl | (simp; done) | (simp [*]; done), by repeat (first | exact Drawn0.refl _ | apply Drawn0.step)⟩)
      · rw [if_neg c5] at H
        have c5b0 : decide ((Int.tmod a0 a1) < 0) = false := decide_eq_false c5
        clear c5
        simp only [Option.some.injEq, Prod.mk.injEq] at H
        obtain ⟨rfl, rfl⟩ := H
        go_enter Try.func11, Try.ntmps11
        go_wp2
        all_goals (go_ret2; exact ⟨by first | rfl | (simp; done) | (simp [*]; done), by repeat (first | exact Drawn0.refl _ | apply Drawn0.step)⟩)

/-! ### prod_Plus: function 16 -/
def prod_Plus.f (a0 : Int) (a1 : Int) : Option (Int × Int) := if ((decide (a0 < 0)) == (decide (a1 < 0))) = true then (if ((decide ((wrap64 (a0 + a1)) < 0)) != (decide (a0 < 0))) = true then (some (0, 6)) else (some (wrap64 (a0 + a1), 0))) else (some (wrap64 (a0 + a1), 0))
set_option maxHeartbeats 8000000 in
set_option maxRecDepth 100000 in
theorem prod_Plus.calls (a0 : Int) (a1 : Int) (r1 : Int) (r2 : Int) (w : World) (h : prod_Plus.f a0 a1 = some (r1, r2)) :
    Calls Try.prog 16 #[.int .i64 a0, .int .i64 a1] w fun e w' => e = .returned (.tuple #[.int .i64 r1, .int .i64 r2]) ∧ Drawn0 w w' := by
  have H : (if ((decide (a0 < 0)) == (decide (a1 < 0))) = true then (if ((decide ((wrap64 (a0 + a1)) < 0)) != (decide (a0 < 0))) = true then (some (0, 6)) else (some (wrap64 (a0 + a1), 0))) else (some (wrap64 (a0 + a1), 0))) = some (r1, r2) := h
  clear h
  by_cases c3 : ((decide (a0 < 0)) == (decide (a1 < 0))) = true
  · rw [if_pos c3] at H
    have c3b0 : ((decide (a0 < 0)) == (decide (a1 < 0))) = true := c3
    (try (have c3b1 : decide ((decide (a0 < 0)) = (decide (a1 < 0))) = true := by simpa using c3))
    (try (have c3b2 : ((decide (a0 < 0)) == (decide (a1 < 0))) = true := by simpa using c3))
    clear c3
    by_cases c4 : ((decide ((wrap64 (a0 + a1)) < 0)) != (decide (a0 < 0))) = true
    · rw [if_pos c4] at H
      have c4b0 : ((decide ((wrap64 (a0 + a1)) < 0)) != (decide (a0 < 0))) = true := c4
      (try (have c4b1 : decide ((decide ((wrap64 (a0 + a1)) < 0)) = (decide (a0 < 0))) = false := by simpa using c4))
      (try (have c4b2 : ((decide ((wrap64 (a0 + a1)) < 0)) == (decide (a0 < 0))) = false := by simpa using c4))
      (try (have c4b3 : ¬ ((decide ((wrap64 (a0 + a1)) < 0)) = (decide (a0 < 0))) := by simpa using c4))
      clear c4
      simp only [Option.some.injEq, Prod.mk.injEq] at H
      obtain ⟨rfl, rfl⟩ := H
      go_enter Try.func16, Try.ntmps16
      go_wp2
      all_goals (go_ret2; exact ⟨by first | rfl | (simp; done) | (simp [*]; done), by repeat (first | exact Drawn0.refl _ | apply Drawn0.step)⟩)
    · rw [if_neg c4] at H
      have c4b0 : ((decide ((wrap64 (a0 + a1)) < 0)) != (decide (a0 < 0))) = false := by simpa using c4
      (try (have c4b1 : decide ((decide ((wrap64 (a0 + a1)) < 0)) = (decide (a0 < 0))) = true := by simpa using c4))
      (try (have c4b2 : ((decide ((wrap64 (a0 + a1)) < 0)) == (decide (a0 < 0))) = true := by simpa using c4))
      clear c4
      simp only [Option.some.injEq, Prod.mk.injEq] at H
      obtain ⟨rfl, rfl⟩ := H
      go_enter Try.func16, Try.ntmps16
      go_wp2
      all_goals (go_ret2; exact ⟨by first | rfl | (simp; done) | (simp [*]; done), by repeat (first | exact Drawn0.refl _ | apply Drawn0.step)⟩)
  · rw [if_neg c3] at H
    have c3b0 : ((decide (a0 < 0)) == (decide (a1 < 0))) = false := by simpa using c3
    (try (have c3b1 : decide ((decide (a0 < 0)) = (decide (a1 < 0))) = false := by simpa using c3))
    (try (have c3b2 : ((decide (a0 < 0)) == (decide (a1 < 0))) = false := by simpa using c3))
    (try (have c3b3 : ¬ ((decide (a0 < 0)) = (decide (a1 < 0))) := by simpa using c3))
    clear c3
    simp only [Option.some.injEq, Prod.mk.injEq] at H
    obtain ⟨rfl, rfl⟩ := H
    go_enter Try.func16, Try.ntmps16
    go_wp2
    all_goals (go_ret2; exact ⟨by first | rfl | (simp; done) | (simp [*]; done), by repeat (first | exact Drawn0.refl _ | apply Drawn0.step)⟩)

/-! ### vote_Mean: function 15 -/
def vote_Mean.l0 : Nat → Int → Int → List (S31) → Int → Int → Option (Int × Int)
  | 0, _, _, _, _, _ => none
  | k + 1, x4, x5, x12, x13, x14 => if x14 < x13 then (if 0 ≤ x14 then (if x14 < (x12.length : Int) then (if ((rd_T31 x12 x14).f5) < 1 then (some (0, 5)) else ((prod_Plus.f x5 ((rd_T31 x12 x14).f5)).bind fun bt105 => (if bt105.2 = 0 then ((prod_Plus.f x4 ((rd_T31 x12 x14).f4)).bind fun bt107 => (if bt107.2 = 0 then (vote_Mean.l0 k bt107.1 bt105.1 x12 x13 (wrap64 (x14 + 1))) else (some (0, bt107.2)))) else (some (0, bt105.2))))) else (none)) else (none)) else ((prod_Floor.f x4 x5).bind fun bt101 => (some (bt101.1, bt101.2)))
def vote_Mean.f (k : Nat) (l0 : List (S31)) : Option (Int × Int) := if (l0.length : Int) = 0 then (some (0, 1)) else (vote_Mean.l0 k 0 0 l0 (l0.length : Int) 0)
theorem vote_Mean.mono_l : ∀ k, (∀ y0 y1 y2 y3 y4, LeO (vote_Mean.l0 k y0 y1 y2 y3 y4) (vote_Mean.l0 (k + 1) y0 y1 y2 y3 y4))
  | 0 => fun _ _ _ _ _ r h => by simp [vote_Mean.l0] at h
  | k + 1 => by
    have ih0 := vote_Mean.mono_l k
    · intro y0 y1 y2 y3 y4
      unfold vote_Mean.l0
      repeat' first
      | (with_reducible exact ih0 _ _ _ _ _)
      | (with_reducible exact LeO.refl _)
      | (with_reducible exact LeO.none _)
      | (with_reducible refine LeO.ite ?_ ?_)
      | (with_reducible refine LeO.bind ?_ (fun _ => ?_))
      | exact ih0 _ _ _ _ _
      | exact LeO.none _
      | refine LeO.ite ?_ ?_
      | refine LeO.bind ?_ (fun _ => ?_)
theorem vote_Mean.mono : ∀ a0 k, LeO (vote_Mean.f k a0) (vote_Mean.f (k + 1) a0) := by
  intro a0 k
  have ih0 := vote_Mean.mono_l k
  unfold vote_Mean.f
  repeat' first
      | (with_reducible exact ih0 _ _ _ _ _)
      | (with_reducible exact LeO.refl _)
      | (with_reducible exact LeO.none _)
      | (with_reducible refine LeO.ite ?_ ?_)
      | (with_reducible refine LeO.bind ?_ (fun _ => ?_))
      | exact ih0 _ _ _ _ _
      | exact LeO.none _
      | refine LeO.ite ?_ ?_
      | refine LeO.bind ?_ (fun _ => ?_)
set_option maxHeartbeats 8000000 in
set_option maxRecDepth 100000 in
theorem vote_Mean.calls (k : Nat) (A0 : Option Addr) (c0 : Nat) (l0 : List (S31)) (r1 : Int) (r2 : Int) (w : World) (hr0 : Kd.C k31 w A0 l0.length l0) (hc0 : l0.length ≤ c0) (h : vote_Mean.f k l0 = some (r1, r2)) :
    Calls Try.prog 15 #[.slice A0 l0.length c0] w fun e w' => e = .returned (.tuple #[.int .i64 r1, .int .i64 r2]) ∧ Below w.heap.size w w' := by
  have hu31 := Try.underlying31
  have HR0 := Aside0.mk hr0
  have HC0 := Aside0.mk hc0
  clear hr0 hc0
  have HB := Aside0.mk (Below.refl w.heap.size w)
  have H : (if (l0.length : Int) = 0 then (some (0, 1)) else (vote_Mean.l0 k 0 0 l0 (l0.length : Int) 0)) = some (r1, r2) := h
  clear h
  by_cases c2 : (l0.length : Int) = 0
  · rw [if_pos c2] at H
    have c2b0 : ((l0.length : Int) == 0) = true := beq_iff_eq.mpr c2
    have c2b1 : ((l0.length : Int) != 0) = false := bne_eq_false_iff_eq.mpr c2
    clear c2
    simp only [Option.some.injEq, Prod.mk.injEq] at H
    obtain ⟨rfl, rfl⟩ := H
    go_enter Try.func15, Try.ntmps15
    go_wp2
    all_goals (go_ret2; exact ⟨by first | rfl | (simp [errW_none, errW_some] <;> rfl) | (simp [*, errW_none, errW_some] <;> rfl) | (simp_all; done), by repeat (first | (with_reducible first | exact HB.out | apply below_alloc | apply pw_below_drewN | apply below_drew1) | exact HB.out)⟩)
  · rw [if_neg c2] at H
    have c2b0 : ((l0.length : Int) == 0) = false := beq_eq_false_iff_ne.mpr c2
    have c2b1 : ((l0.length : Int) != 0) = true := bne_iff_ne.mpr c2
    have c2b2 : ¬ (l0 = []) := fun h_ => c2 (by rw [h_]; rfl)
    have H' := Aside0.mk H
    clear H
    go_enter Try.func15, Try.ntmps15
    go_wp2
    go_loopg [4, 5, 14] k (fun kq v4 v5 v14 w' => ∃ (x4_1 : Int) (x5_1 : Int) (x14_1 : Int), v4 = .int .i64 x4_1 ∧ v5 = .int .i64 x5_1 ∧ v14 = .int .i64 x14_1 ∧ Aside0 (vote_Mean.l0 kq x4_1 x5_1 l0 (l0.length : Int) x14_1 = some (r1, r2)) ∧ Aside0 (kq ≤ k) ∧ Aside0 (Below w.heap.size w w'))
    case atStart => exact ⟨(0), (0), (0), (by first | rfl | (simp; done) | (simp [*]; done)), (by first | rfl | (simp; done) | (simp [*]; done)), (by first | rfl | (simp; done) | (simp [*]; done)), H', ⟨Nat.le_refl _⟩, ⟨by repeat (first | (with_reducible first | exact HB.out | apply below_alloc | apply pw_below_drewN | apply below_drew1) | exact HB.out)⟩⟩
    case round =>
      clear H'
      try clear c1
      try clear c2
      try clear c2b0
      try clear c2b1
      try clear c2b2
      try clear p2
      obtain ⟨x4_1, x5_1, x14_1, rfl, rfl, rfl, HA, HK1, HB⟩ := hrel
      cases gk with
      | zero => exact absurd HA.out (by simp [vote_Mean.l0])
      | succ k1 =>
        have H := HA.out
        clear HA
        simp only [vote_Mean.l0] at H
        by_cases c3 : x14_1 < (l0.length : Int)
        · rw [if_pos c3] at H
          have c3b0 : decide (x14_1 < (l0.length : Int)) = true := decide_eq_true c3
          clear c3
          by_cases c4 : 0 ≤ x14_1
          · rw [if_pos c4] at H
            have c4b0 : decide (0 ≤ x14_1) = true := decide_eq_true c4
            clear c4
            by_cases c5 : x14_1 < (l0.length : Int)
            · rw [if_pos c5] at H
              have c5b0 : decide (x14_1 < (l0.length : Int)) = true := decide_eq_true c5
              clear c5
              by_cases c6 : ((rd_T31 l0 x14_1).f5) < 1
              · rw [if_pos c6] at H
                have c6b0 : decide (((rd_T31 l0 x14_1).f5) < 1) = true := decide_eq_true c6
                clear c6
                simp only [Option.some.injEq, Prod.mk.injEq] at H
                obtain ⟨rfl, rfl⟩ := H
                have p103 : 0 ≤ (x14_1 : Int) := of_decide_eq_true (by first | (with_reducible assumption) | assumption)
                have q103 : x14_1 < (l0.length : Int) := of_decide_eq_true (by first | (with_reducible assumption) | assumption)
                obtain ⟨ad103, e103, hx103_0, hx103_1, hx103_2, hx103_3, hx103_4, hx103_5⟩ := at_T31 HR0.out x14_1 p103 q103
                cases e103
                replace hx103_0 := (HB.out.cell (World.block_lt_of_cell? w _ hx103_0)).trans hx103_0
                replace hx103_1 := (HB.out.cell (World.block_lt_of_cell? w _ hx103_1)).trans hx103_1
                replace hx103_2 := (HB.out.cell (World.block_lt_of_cell? w _ hx103_2)).trans hx103_2
                replace hx103_3 := (HB.out.cell (World.block_lt_of_cell? w _ hx103_3)).trans hx103_3
                replace hx103_4 := (HB.out.cell (World.block_lt_of_cell? w _ hx103_4)).trans hx103_4
                replace hx103_5 := (HB.out.cell (World.block_lt_of_cell? w _ hx103_5)).trans hx103_5
                replace p103 := eq_true p103
                replace q103 := eq_true q103
                go_wp2_with (first | ((with_reducible refine gate_dst (N := 7) rfl ?_); refine box_event ?hg (N := 7) ?hd (cs := #[.int .i64 0, .int .i64 0, .int .i64 0, .int .i64 0, .int .i64 0, .int .i64 0]) (t := 31) ?hr ?_; (case hd => rfl); (case hg => rfl); (case hr => first | (go_simp; done) | (go_simp; rfl)); intro gb104 hg w7 hbox hb; have n0_ := Aside0.mk (below_step (by repeat (first | (with_reducible first | exact HB.out | apply below_alloc | apply pw_below_drewN | apply below_drew1) | exact HB.out)) hb); have n1_ := Aside0.mk (hbox); have n2_ := Aside0.mk ((by rw [hg]; exact (below_size (by repeat (first | (with_reducible first | exact HB.out | apply below_alloc | apply pw_below_drewN | apply below_drew1) | exact HB.out))) : w.heap.size ≤ gb104)); have n3_ := Aside0.mk ((by rw [hg]; exact (below_size (by repeat (first | (with_reducible first | exact HB.out | apply below_alloc | apply pw_below_drewN | apply below_drew1) | exact HB.out))) : w.heap.size ≤ gb104)); clear HB; have HB := n0_; have BK104 := n1_; have GW104 := n2_; have GE104 := n3_; clear n0_ n1_ n2_ n3_; clear hb hbox hg; have hcz8_0 : w7.cell? ⟨gb104, 0, none⟩ = some (.int .i64 0) := (blk_cell BK104.out 0).trans rfl; have hcz8_1 : w7.cell? ⟨gb104, 1, none⟩ = some (.int .i64 0) := (blk_cell BK104.out 1).trans rfl; have hcz8_2 : w7.cell? ⟨gb104, 2, none⟩ = some (.int .i64 0) := (blk_cell BK104.out 2).trans rfl; have hcz8_3 : w7.cell? ⟨gb104, 3, none⟩ = some (.int .i64 0) := (blk_cell BK104.out 3).trans rfl; have hcz8_4 : w7.cell? ⟨gb104, 4, none⟩ = some (.int .i64 0) := (blk_cell BK104.out 4).trans rfl; have hcz8_5 : w7.cell? ⟨gb104, 5, none⟩ = some (.int .i64 0) := (blk_cell BK104.out 5).trans rfl; have hfz8_0 := blk_frozen BK104.out 0; have hfz8_1 := blk_frozen BK104.out 1; have hfz8_2 := blk_frozen BK104.out 2; have hfz8_3 := blk_frozen BK104.out 3; have hfz8_4 := blk_frozen BK104.out 4; have hfz8_5 := blk_frozen BK104.out 5))
                all_goals (go_ret2; exact ⟨by first | rfl | (simp [errW_none, errW_some] <;> rfl) | (simp [*, errW_none, errW_some] <;> rfl) | (simp_all; done), by repeat (first | (with_reducible first | exact HB.out | apply below_alloc | apply pw_below_drewN | apply below_drew1 | refine below_set ?_ GE104.out) | exact HB.out)⟩)
              · rw [if_neg c6] at H
                have c6b0 : decide (((rd_T31 l0 x14_1).f5) < 1) = false := decide_eq_false c6
                clear c6
                replace H := Option.bind_eq_some_iff.mp H
                obtain ⟨⟨t105, t106⟩, A90, H⟩ := H
                replace H : (if t106 = 0 then ((prod_Plus.f x4_1 ((rd_T31 l0 x14_1).f4)).bind fun bt107 => (if bt107.2 = 0 then (vote_Mean.l0 k1 bt107.1 t105 l0 (l0.length : Int) (wrap64 (x14_1 + 1))) else (some (0, bt107.2)))) else (some (0, t106))) = some (r1, r2) := H
                have A9 := Aside0.mk A90
                clear A90
                by_cases c10 : t106 = 0
                · rw [if_pos c10] at H
                  have c10b0 : (t106 == 0) = true := beq_iff_eq.mpr c10
                  have c10b1 : (t106 != 0) = false := bne_eq_false_iff_eq.mpr c10
                  clear c10
                  replace H := Option.bind_eq_some_iff.mp H
                  obtain ⟨⟨t107, t108⟩, A110, H⟩ := H
                  replace H : (if t108 = 0 then (vote_Mean.l0 k1 t107 t105 l0 (l0.length : Int) (wrap64 (x14_1 + 1))) else (some (0, t108))) = some (r1, r2) := H
                  have A11 := Aside0.mk A110
                  clear A110
                  by_cases c12 : t108 = 0
                  · rw [if_pos c12] at H
                    have c12b0 : (t108 == 0) = true := beq_iff_eq.mpr c12
                    have c12b1 : (t108 != 0) = false := bne_eq_false_iff_eq.mpr c12
                    clear c12
                    have H' := Aside0.mk H
                    clear H
                    have p103 : 0 ≤ (x14_1 : Int) := of_decide_eq_true (by first | (with_reducible assumption) | assumption)
                    have q103 : x14_1 < (l0.length : Int) := of_decide_eq_true (by first | (with_reducible assumption) | assumption)
                    obtain ⟨ad103, e103, hx103_0, hx103_1, hx103_2, hx103_3, hx103_4, hx103_5⟩ := at_T31 HR0.out x14_1 p103 q103
                    cases e103
                    replace hx103_0 := (HB.out.cell (World.block_lt_of_cell? w _ hx103_0)).trans hx103_0
                    replace hx103_1 := (HB.out.cell (World.block_lt_of_cell? w _ hx103_1)).trans hx103_1
                    replace hx103_2 := (HB.out.cell (World.block_lt_of_cell? w _ hx103_2)).trans hx103_2
                    replace hx103_3 := (HB.out.cell (World.block_lt_of_cell? w _ hx103_3)).trans hx103_3
                    replace hx103_4 := (HB.out.cell (World.block_lt_of_cell? w _ hx103_4)).trans hx103_4
                    replace hx103_5 := (HB.out.cell (World.block_lt_of_cell? w _ hx103_5)).trans hx103_5
                    replace p103 := eq_true p103
                    replace q103 := eq_true q103
                    go_wp2_with (first | ((with_reducible refine gate_dst (N := 7) rfl ?_); refine box_event ?hg (N := 7) ?hd (cs := #[.int .i64 0, .int .i64 0, .int .i64 0, .int .i64 0, .int .i64 0, .int .i64 0]) (t := 31) ?hr ?_; (case hd => rfl); (case hg => rfl); (case hr => first | (go_simp; done) | (go_simp; rfl)); intro gb104 hg w13 hbox hb; have n0_ := Aside0.mk (below_step (by repeat (first | (with_reducible first | exact HB.out | apply below_alloc | apply pw_below_drewN | apply below_drew1) | exact HB.out)) hb); have n1_ := Aside0.mk (hbox); have n2_ := Aside0.mk ((by rw [hg]; exact (below_size (by repeat (first | (with_reducible first | exact HB.out | apply below_alloc | apply pw_below_drewN | apply below_drew1) | exact HB.out))) : w.heap.size ≤ gb104)); have n3_ := Aside0.mk ((by rw [hg]; exact (below_size (by repeat (first | (with_reducible first | exact HB.out | apply below_alloc | apply pw_below_drewN | apply below_drew1) | exact HB.out))) : w.heap.size ≤ gb104)); clear HB; have HB := n0_; have BK104 := n1_; have GW104 := n2_; have GE104 := n3_; clear n0_ n1_ n2_ n3_; clear hb hbox hg; have hcz14_0 : w13.cell? ⟨gb104, 0, none⟩ = some (.int .i64 0) := (blk_cell BK104.out 0).trans rfl; have hcz14_1 : w13.cell? ⟨gb104, 1, none⟩ = some (.int .i64 0) := (blk_cell BK104.out 1).trans rfl; have hcz14_2 : w13.cell? ⟨gb104, 2, none⟩ = some (.int .i64 0) := (blk_cell BK104.out 2).trans rfl; have hcz14_3 : w13.cell? ⟨gb104, 3, none⟩ = some (.int .i64 0) := (blk_cell BK104.out 3).trans rfl; have hcz14_4 : w13.cell? ⟨gb104, 4, none⟩ = some (.int .i64 0) := (blk_cell BK104.out 4).trans rfl; have hcz14_5 : w13.cell? ⟨gb104, 5, none⟩ = some (.int .i64 0) := (blk_cell BK104.out 5).trans rfl; have hfz14_0 := blk_frozen BK104.out 0; have hfz14_1 := blk_frozen BK104.out 1; have hfz14_2 := blk_frozen BK104.out 2; have hfz14_3 := blk_frozen BK104.out 3; have hfz14_4 := blk_frozen BK104.out 4; have hfz14_5 := blk_frozen BK104.out 5) | ((with_reducible refine gate_callee (f := 16) rfl ?_); refine goesL_ (some 25) rfl rfl Try.func16 (by kernel_rfl) rfl #[.int .i64 x5_1, .int .i64 ((rd_T31 l0 x14_1).f5)] rfl (by (try simp only [List.map_toArray, List.map_cons, List.map_nil]); first | done | rfl | (simp only [List.length_drop, List.length_take]; rfl)) ?_; (with_reducible refine (prod_Plus.calls x5_1 ((rd_T31 l0 x14_1).f5) t105 t106 _ A9.out).mono ?_); rintro e w' ⟨rfl, ⟨nd, rfl⟩⟩; refine ⟨_, rfl, ?_⟩) | ((with_reducible refine gate_callee (f := 16) rfl ?_); refine goesL_ (some 35) rfl rfl Try.func16 (by kernel_rfl) rfl #[.int .i64 x4_1, .int .i64 ((rd_T31 l0 x14_1).f4)] rfl (by (try simp only [List.map_toArray, List.map_cons, List.map_nil]); first | done | rfl | (simp only [List.length_drop, List.length_take]; rfl)) ?_; (with_reducible refine (prod_Plus.calls x4_1 ((rd_T31 l0 x14_1).f4) t107 t108 _ A11.out).mono ?_); rintro e w' ⟨rfl, ⟨nd, rfl⟩⟩; refine ⟨_, rfl, ?_⟩))
                    go_roundg k1
                    case measure => have := HK1.out; omega
                    case rel => exact ⟨(t107), (t105), (wrap64 (x14_1 + 1)), (by first | rfl | (simp; done) | (simp [*]; done)), (by first | rfl | (simp; done) | (simp [*]; done)), (by first | rfl | (simp; done) | (simp [*]; done)), H', ⟨by have := HK1.out; omega⟩, ⟨by repeat (first | (with_reducible first | exact HB.out | apply below_alloc | apply pw_below_drewN | apply below_drew1 | refine below_set ?_ GE104.out) | exact HB.out)⟩⟩
                  · rw [if_neg c12] at H
                    have c12b0 : (t108 == 0) = false := beq_eq_false_iff_ne.mpr c12
                    have c12b1 : (t108 != 0) = true := bne_iff_ne.mpr c12
                    simp only [Option.some.injEq, Prod.mk.injEq] at H
                    obtain ⟨rfl, rfl⟩ := H
                    have p103 : 0 ≤ (x14_1 : Int) := of_decide_eq_true (by first | (with_reducible assumption) | assumption)
                    have q103 : x14_1 < (l0.length : Int) := of_decide_eq_true (by first | (with_reducible assumption) | assumption)
                    obtain ⟨ad103, e103, hx103_0, hx103_1, hx103_2, hx103_3, hx103_4, hx103_5⟩ := at_T31 HR0.out x14_1 p103 q103
                    cases e103
                    replace hx103_0 := (HB.out.cell (World.block_lt_of_cell? w _ hx103_0)).trans hx103_0
                    replace hx103_1 := (HB.out.cell (World.block_lt_of_cell? w _ hx103_1)).trans hx103_1
                    replace hx103_2 := (HB.out.cell (World.block_lt_of_cell? w _ hx103_2)).trans hx103_2
                    replace hx103_3 := (HB.out.cell (World.block_lt_of_cell? w _ hx103_3)).trans hx103_3
                    replace hx103_4 := (HB.out.cell (World.block_lt_of_cell? w _ hx103_4)).trans hx103_4
                    replace hx103_5 := (HB.out.cell (World.block_lt_of_cell? w _ hx103_5)).trans hx103_5
                    replace p103 := eq_true p103
                    replace q103 := eq_true q103
                    go_wp2_with (first | ((with_reducible refine gate_dst (N := 7) rfl ?_); refine box_event ?hg (N := 7) ?hd (cs := #[.int .i64 0, .int .i64 0, .int .i64 0, .int .i64 0, .int .i64 0, .int .i64 0]) (t := 31) ?hr ?_; (case hd => rfl); (case hg => rfl); (case hr => first | (go_simp; done) | (go_simp; rfl)); intro gb104 hg w15 hbox hb; have n0_ := Aside0.mk (below_step (by repeat (first | (with_reducible first | exact HB.out | apply below_alloc | apply pw_below_drewN | apply below_drew1) | exact HB.out)) hb); have n1_ := Aside0.mk (hbox); have n2_ := Aside0.mk ((by rw [hg]; exact (below_size (by repeat (first | (with_reducible first | exact HB.out | apply below_alloc | apply pw_below_drewN | apply below_drew1) | exact HB.out))) : w.heap.size ≤ gb104)); have n3_ := Aside0.mk ((by rw [hg]; exact (below_size (by repeat (first | (with_reducible first | exact HB.out | apply below_alloc | apply pw_below_drewN | apply below_drew1) | exact HB.out))) : w.heap.size ≤ gb104)); clear HB; have HB := n0_; have BK104 := n1_; have GW104 := n2_; have GE104 := n3_; clear n0_ n1_ n2_ n3_; clear hb hbox hg; have hcz16_0 : w15.cell? ⟨gb104, 0, none⟩ = some (.int .i64 0) := (blk_cell BK104.out 0).trans rfl; have hcz16_1 : w15.cell? ⟨gb104, 1, none⟩ = some (.int .i64 0) := (blk_cell BK104.out 1).trans rfl; have hcz16_2 : w15.cell? ⟨gb104, 2, none⟩ = some (.int .i64 0) := (blk_cell BK104.out 2).trans rfl; have hcz16_3 : w15.cell? ⟨gb104, 3, none⟩ = some (.int .i64 0) := (blk_cell BK104.out 3).trans rfl; have hcz16_4 : w15.cell? ⟨gb104, 4, none⟩ = some (.int .i64 0) := (blk_cell BK104.out 4).trans rfl; have hcz16_5 : w15.cell? ⟨gb104, 5, none⟩ = some (.int .i64 0) := (blk_cell BK104.out 5).trans rfl; have hfz16_0 := blk_frozen BK104.out 0; have hfz16_1 := blk_frozen BK104.out 1; have hfz16_2 := blk_frozen BK104.out 2; have hfz16_3 := blk_frozen BK104.out 3; have hfz16_4 := blk_frozen BK104.out 4; have hfz16_5 := blk_frozen BK104.out 5) | ((with_reducible refine gate_callee (f := 16) rfl ?_); refine goesL_ (some 25) rfl rfl Try.func16 (by kernel_rfl) rfl #[.int .i64 x5_1, .int .i64 ((rd_T31 l0 x14_1).f5)] rfl (by (try simp only [List.map_toArray, List.map_cons, List.map_nil]); first | done | rfl | (simp only [List.length_drop, List.length_take]; rfl)) ?_; (with_reducible refine (prod_Plus.calls x5_1 ((rd_T31 l0 x14_1).f5) t105 t106 _ A9.out).mono ?_); rintro e w' ⟨rfl, ⟨nd, rfl⟩⟩; refine ⟨_, rfl, ?_⟩) | ((with_reducible refine gate_callee (f := 16) rfl ?_); refine goesL_ (some 35) rfl rfl Try.func16 (by kernel_rfl) rfl #[.int .i64 x4_1, .int .i64 ((rd_T31 l0 x14_1).f4)] rfl (by (try simp only [List.map_toArray, List.map_cons, List.map_nil]); first | done | rfl | (simp only [List.length_drop, List.length_take]; rfl)) ?_; (with_reducible refine (prod_Plus.calls x4_1 ((rd_T31 l0 x14_1).f4) t107 t108 _ A11.out).mono ?_); rintro e w' ⟨rfl, ⟨nd, rfl⟩⟩; refine ⟨_, rfl, ?_⟩))
                    all_goals (go_ret2; exact ⟨by first | rfl | (simp [errW_none, errW_some] <;> rfl) | (simp [*, errW_none, errW_some] <;> rfl) | (simp_all; done), by repeat (first | (with_reducible first | exact HB.out | apply below_alloc | apply pw_below_drewN | apply below_drew1 | refine below_set ?_ GE104.out) | exact HB.out)⟩)
                · rw [if_neg c10] at H
                  have c10b0 : (t106 == 0) = false := beq_eq_false_iff_ne.mpr c10
                  have c10b1 : (t106 != 0) = true := bne_iff_ne.mpr c10
                  simp only [Option.some.injEq, Prod.mk.injEq] at H
                  obtain ⟨rfl, rfl⟩ := H
                  have p103 : 0 ≤ (x14_1 : Int) := of_decide_eq_true (by first | (with_reducible assumption) | assumption)
                  have q103 : x14_1 < (l0.length : Int) := of_decide_eq_true (by first | (with_reducible assumption) | assumption)
                  obtain ⟨ad103, e103, hx103_0, hx103_1, hx103_2, hx103_3, hx103_4, hx103_5⟩ := at_T31 HR0.out x14_1 p103 q103
                  cases e103
                  replace hx103_0 := (HB.out.cell (World.block_lt_of_cell? w _ hx103_0)).trans hx103_0
                  replace hx103_1 := (HB.out.cell (World.block_lt_of_cell? w _ hx103_1)).trans hx103_1
                  replace hx103_2 := (HB.out.cell (World.block_lt_of_cell? w _ hx103_2)).trans hx103_2
                  replace hx103_3 := (HB.out.cell (World.block_lt_of_cell? w _ hx103_3)).trans hx103_3
                  replace hx103_4 := (HB.out.cell (World.block_lt_of_cell? w _ hx103_4)).trans hx103_4
                  replace hx103_5 := (HB.out.cell (World.block_lt_of_cell? w _ hx103_5)).trans hx103_5
                  replace p103 := eq_true p103
                  replace q103 := eq_true q103
                  go_wp2_with (first | ((with_reducible refine gate_dst (N := 7) rfl ?_); refine box_event ?hg (N := 7) ?hd (cs := #[.int .i64 0, .int .i64 0, .int .i64 0, .int .i64 0, .int .i64 0, .int .i64 0]) (t := 31) ?hr ?_; (case hd => rfl); (case hg => rfl); (case hr => first | (go_simp; done) | (go_simp; rfl)); intro gb104 hg w17 hbox hb; have n0_ := Aside0.mk (below_step (by repeat (first | (with_reducible first | exact HB.out | apply below_alloc | apply pw_below_drewN | apply below_drew1) | exact HB.out)) hb); have n1_ := Aside0.mk (hbox); have n2_ := Aside0.mk ((by rw [hg]; exact (below_size (by repeat (first | (with_reducible first | exact HB.out | apply below_alloc | apply pw_below_drewN | apply below_drew1) | exact HB.out))) : w.heap.size ≤ gb104)); have n3_ := Aside0.mk ((by rw [hg]; exact (below_size (by repeat (first | (with_reducible first | exact HB.out | apply below_alloc | apply pw_below_drewN | apply below_drew1) | exact HB.out))) : w.heap.size ≤ gb104)); clear HB; have HB := n0_; have BK104 := n1_; have GW104 := n2_; have GE104 := n3_; clear n0_ n1_ n2_ n3_; clear hb hbox hg; have hcz18_0 : w17.cell? ⟨gb104, 0, none⟩ = some (.int .i64 0) := (blk_cell BK104.out 0).trans rfl; have hcz18_1 : w17.cell? ⟨gb104, 1, none⟩ = some (.int .i64 0) := (blk_cell BK104.out 1).trans rfl; have hcz18_2 : w17.cell? ⟨gb104, 2, none⟩ = some (.int .i64 0) := (blk_cell BK104.out 2).trans rfl; have hcz18_3 : w17.cell? ⟨gb104, 3, none⟩ = some (.int .i64 0) := (blk_cell BK104.out 3).trans rfl; have hcz18_4 : w17.cell? ⟨gb104, 4, none⟩ = some (.int .i64 0) := (blk_cell BK104.out 4).trans rfl; have hcz18_5 : w17.cell? ⟨gb104, 5, none⟩ = some (.int .i64 0) := (blk_cell BK104.out 5).trans rfl; have hfz18_0 := blk_frozen BK104.out 0; have hfz18_1 := blk_frozen BK104.out 1; have hfz18_2 := blk_frozen BK104.out 2; have hfz18_3 := blk_frozen BK104.out 3; have hfz18_4 := blk_frozen BK104.out 4; have hfz18_5 := blk_frozen BK104.out 5) | ((with_reducible refine gate_callee (f := 16) rfl ?_); refine goesL_ (some 25) rfl rfl Try.func16 (by kernel_rfl) rfl #[.int .i64 x5_1, .int .i64 ((rd_T31 l0 x14_1).f5)] rfl (by (try simp only [List.map_toArray, List.map_cons, List.map_nil]); first | done | rfl | (simp only [List.length_drop, List.length_take]; rfl)) ?_; (with_reducible refine (prod_Plus.calls x5_1 ((rd_T31 l0 x14_1).f5) t105 t106 _ A9.out).mono ?_); rintro e w' ⟨rfl, ⟨nd, rfl⟩⟩; refine ⟨_, rfl, ?_⟩))
                  all_goals (go_ret2; exact ⟨by first | rfl | (simp [errW_none, errW_some] <;> rfl) | (simp [*, errW_none, errW_some] <;> rfl) | (simp_all; done), by repeat (first | (with_reducible first | exact HB.out | apply below_alloc | apply pw_below_drewN | apply below_drew1 | refine below_set ?_ GE104.out) | exact HB.out)⟩)
            · rw [if_neg c5] at H
              exact absurd H (by simp)
          · rw [if_neg c4] at H
            exact absurd H (by simp)
        · rw [if_neg c3] at H
          have c3b0 : decide (x14_1 < (l0.length : Int)) = false := decide_eq_false c3
          clear c3
          replace H := Option.bind_eq_some_iff.mp H
          obtain ⟨⟨t101, t102⟩, A190, H⟩ := H
          replace H : (some (t101, t102)) = some (r1, r2) := H
          have A19 := Aside0.mk A190
          clear A190
          simp only [Option.some.injEq, Prod.mk.injEq] at H
          obtain ⟨rfl, rfl⟩ := H
          go_wp2_with (first | ((with_reducible refine gate_callee (f := 11) rfl ?_); refine goesL_ (some 44) rfl rfl Try.func11 (by kernel_rfl) rfl #[.int .i64 x4_1, .int .i64 x5_1] rfl (by (try simp only [List.map_toArray, List.map_cons, List.map_nil]); first | done | rfl | (simp only [List.length_drop, List.length_take]; rfl)) ?_; (with_reducible refine (prod_Floor.calls x4_1 x5_1 t101 t102 _ A19.out).mono ?_); rintro e w' ⟨rfl, ⟨nd, rfl⟩⟩; refine ⟨_, rfl, ?_⟩))
          all_goals (go_ret2; exact ⟨by first | rfl | (simp [errW_none, errW_some] <;> rfl) | (simp [*, errW_none, errW_some] <;> rfl) | (simp_all; done), by repeat (first | (with_reducible first | exact HB.out | apply below_alloc | apply pw_below_drewN | apply below_drew1) | exact HB.out)⟩)

/-! ### hornbeamlaw24_fixed: function 13 -/
def hornbeamlaw24_fixed.f (k : Nat)  : Option (Bool) := (vote_Class.f (([(⟨0, 0, 0, 2, 0, 0⟩ : S31), (⟨0, 0, 0, 1, 0, 0⟩ : S31), (⟨0, 0, 0, 1, 0, 0⟩ : S31), (⟨0, 0, 0, 2, 0, 0⟩ : S31)] : List (S31))) 3).bind fun bt112 => ((vote_Mean.f k (([(⟨0, 0, 0, 0, 7, 2⟩ : S31), (⟨0, 0, 0, 0, (-8), 1⟩ : S31)] : List (S31)))).bind fun bt117 => (if bt112.2 = 0 then (if bt112.1 = 1 then (if bt117.2 = 0 then (some (bt117.1 == (-1))) else (some false)) else (some false)) else (some false)))
theorem hornbeamlaw24_fixed.mono : ∀ k, LeO (hornbeamlaw24_fixed.f k ) (hornbeamlaw24_fixed.f (k + 1) ) := by
  intro  k
  unfold hornbeamlaw24_fixed.f
  repeat' first
      | (with_reducible exact vote_Mean.mono _ _)
      | (with_reducible exact LeO.refl _)
      | (with_reducible exact LeO.none _)
      | (with_reducible refine LeO.ite ?_ ?_)
      | (with_reducible refine LeO.bind ?_ (fun _ => ?_))
      | exact vote_Mean.mono _ _
      | exact LeO.none _
      | refine LeO.ite ?_ ?_
      | refine LeO.bind ?_ (fun _ => ?_)
set_option maxHeartbeats 8000000 in
set_option maxRecDepth 100000 in
theorem hornbeamlaw24_fixed.calls (k : Nat)  (r : Bool) (w : World) (h : hornbeamlaw24_fixed.f k  = some r) :
    Calls Try.prog 13 #[] w fun e w' => e = .returned (.bool r) ∧ Below w.heap.size w w' := by
  have hu31 := Try.underlying31
  have HB := Aside0.mk (Below.refl w.heap.size w)
  have H : ((vote_Class.f (([(⟨0, 0, 0, 2, 0, 0⟩ : S31), (⟨0, 0, 0, 1, 0, 0⟩ : S31), (⟨0, 0, 0, 1, 0, 0⟩ : S31), (⟨0, 0, 0, 2, 0, 0⟩ : S31)] : List (S31))) 3).bind fun bt112 => ((vote_Mean.f k (([(⟨0, 0, 0, 0, 7, 2⟩ : S31), (⟨0, 0, 0, 0, (-8), 1⟩ : S31)] : List (S31)))).bind fun bt117 => (if bt112.2 = 0 then (if bt112.1 = 1 then (if bt117.2 = 0 then (some (bt117.1 == (-1))) else (some false)) else (some false)) else (some false)))) = some r := h
  clear h
  obtain ⟨y109, hy109⟩ : ∃ y_ : List (S31), y_ = (([(⟨0, 0, 0, 2, 0, 0⟩ : S31), (⟨0, 0, 0, 1, 0, 0⟩ : S31), (⟨0, 0, 0, 1, 0, 0⟩ : S31), (⟨0, 0, 0, 2, 0, 0⟩ : S31)] : List (S31))) := ⟨_, rfl⟩
  replace H : ((vote_Class.f y109 3).bind fun bt112 => ((vote_Mean.f k (([(⟨0, 0, 0, 0, 7, 2⟩ : S31), (⟨0, 0, 0, 0, (-8), 1⟩ : S31)] : List (S31)))).bind fun bt117 => (if bt112.2 = 0 then (if bt112.1 = 1 then (if bt117.2 = 0 then (some (bt117.1 == (-1))) else (some false)) else (some false)) else (some false)))) = some r := by first | (rw [hy109]; with_reducible exact H) | (have H2_ := (Option.bind_some _ _).symm.trans H; rw [hy109]; with_reducible exact H2_) | (have H2_ := (Option.bind_some _ _).symm.trans H; with_reducible exact H2_) | with_reducible exact H | (rw [hy109]; exact H) | exact H
  have Ny109 := Aside0.mk hy109
  clear hy109
  replace H := Option.bind_eq_some_iff.mp H
  obtain ⟨⟨t112, t113⟩, A10, H⟩ := H
  replace H : ((vote_Mean.f k (([(⟨0, 0, 0, 0, 7, 2⟩ : S31), (⟨0, 0, 0, 0, (-8), 1⟩ : S31)] : List (S31)))).bind fun bt117 => (if t113 = 0 then (if t112 = 1 then (if bt117.2 = 0 then (some (bt117.1 == (-1))) else (some false)) else (some false)) else (some false))) = some r := H
  have A1 := Aside0.mk A10
  clear A10
  obtain ⟨y114, hy114⟩ : ∃ y_ : List (S31), y_ = (([(⟨0, 0, 0, 0, 7, 2⟩ : S31), (⟨0, 0, 0, 0, (-8), 1⟩ : S31)] : List (S31))) := ⟨_, rfl⟩
  replace H : ((vote_Mean.f k y114).bind fun bt117 => (if t113 = 0 then (if t112 = 1 then (if bt117.2 = 0 then (some (bt117.1 == (-1))) else (some false)) else (some false)) else (some false))) = some r := by first | (rw [hy114]; with_reducible exact H) | (have H2_ := (Option.bind_some _ _).symm.trans H; rw [hy114]; with_reducible exact H2_) | (have H2_ := (Option.bind_some _ _).symm.trans H; with_reducible exact H2_) | with_reducible exact H | (rw [hy114]; exact H) | exact H
  have Ny114 := Aside0.mk hy114
  clear hy114
  replace H := Option.bind_eq_some_iff.mp H
  obtain ⟨⟨t117, t118⟩, A20, H⟩ := H
  replace H : (if t113 = 0 then (if t112 = 1 then (if t118 = 0 then (some (t117 == (-1))) else (some false)) else (some false)) else (some false)) = some r := H
  have A2 := Aside0.mk A20
  clear A20
  by_cases c3 : t113 = 0
  · rw [if_pos c3] at H
    have c3b0 : (t113 == 0) = true := beq_iff_eq.mpr c3
    have c3b1 : (t113 != 0) = false := bne_eq_false_iff_eq.mpr c3
    clear c3
    by_cases c4 : t112 = 1
    · rw [if_pos c4] at H
      have c4b0 : (t112 == 1) = true := beq_iff_eq.mpr c4
      have c4b1 : (t112 != 1) = false := bne_eq_false_iff_eq.mpr c4
      clear c4
      by_cases c5 : t118 = 0
      · rw [if_pos c5] at H
        have c5b0 : (t118 == 0) = true := beq_iff_eq.mpr c5
        have c5b1 : (t118 != 0) = false := bne_eq_false_iff_eq.mpr c5
        clear c5
        obtain rfl := Option.some.inj H
        go_enter Try.func13, Try.ntmps13
        go_wp2_with (first | ((with_reducible refine gate_dst (N := 10) rfl ?_); refine Kd.R_lit k31 _ 31 ?hg (N := 10) ?hd (xs := ([(⟨0, 0, 0, 2, 0, 0⟩ : S31), (⟨0, 0, 0, 1, 0, 0⟩ : S31), (⟨0, 0, 0, 1, 0, 0⟩ : S31), (⟨0, 0, 0, 2, 0, 0⟩ : S31)] : List (S31))) (inner := [.int .i64 0, .int .i64 0, .int .i64 0, .int .i64 2, .int .i64 0, .int .i64 0, .int .i64 0, .int .i64 0, .int .i64 0, .int .i64 1, .int .i64 0, .int .i64 0, .int .i64 0, .int .i64 0, .int .i64 0, .int .i64 1, .int .i64 0, .int .i64 0, .int .i64 0, .int .i64 0, .int .i64 0, .int .i64 2, .int .i64 0, .int .i64 0]) (ok := fun _ => True) (okp := fun _ => True) ?hr ?hp (fun _ hk => hk) trivial (Below.refl _ _) (Nat.le_refl _) (by simp) ?_; (case hd => rfl); (case hg => rfl); (case hr => first | (go_simp; done) | (go_simp; rfl)); (case hp => exact (Reps.c6 (show Kd.M k31 _ _ _ (⟨0, 0, 0, 2, 0, 0⟩ : S31) [.int .i64 0, .int .i64 0, .int .i64 0, .int .i64 2, .int .i64 0, .int .i64 0] from (k31_mkM _ _ _ (⟨0, 0, 0, 2, 0, 0⟩ : S31) )) (Reps.c6 (show Kd.M k31 _ _ _ (⟨0, 0, 0, 1, 0, 0⟩ : S31) [.int .i64 0, .int .i64 0, .int .i64 0, .int .i64 1, .int .i64 0, .int .i64 0] from (k31_mkM _ _ _ (⟨0, 0, 0, 1, 0, 0⟩ : S31) )) (Reps.c6 (show Kd.M k31 _ _ _ (⟨0, 0, 0, 1, 0, 0⟩ : S31) [.int .i64 0, .int .i64 0, .int .i64 0, .int .i64 1, .int .i64 0, .int .i64 0] from (k31_mkM _ _ _ (⟨0, 0, 0, 1, 0, 0⟩ : S31) )) (Reps.c6 (show Kd.M k31 _ _ _ (⟨0, 0, 0, 2, 0, 0⟩ : S31) [.int .i64 0, .int .i64 0, .int .i64 0, .int .i64 2, .int .i64 0, .int .i64 0] from (k31_mkM _ _ _ (⟨0, 0, 0, 2, 0, 0⟩ : S31) )) (Reps.none _ _)))))); intro v110 w6 ho7 hb hg_ hnew_; clear hg_ hnew_; (first | rw [← Ny109.out] at ho7 | (simp only [Int.reduceToNat] at ho7; rw [← Ny109.out] at ho7)); have n0_ := Aside0.mk (Kd.R_lower ho7 (below_size (by repeat (first | (with_reducible first | exact HB.out | apply below_alloc | apply pw_below_drewN | apply below_drew1) | exact HB.out)))); have n1_ := Aside0.mk (below_step (by repeat (first | (with_reducible first | exact HB.out | apply below_alloc | apply pw_below_drewN | apply below_drew1) | exact HB.out)) hb); clear HB; have HO111 := n0_; have HB := n1_; clear n0_ n1_; clear hb ho7; obtain ⟨Ao8, co8, eo8⟩ := Kd.R_slice HO111.out; subst eo8) | ((with_reducible refine gate_callee (f := 14) rfl ?_); refine goesL_ (some 11) rfl rfl Try.func14 (by kernel_rfl) rfl #[.slice Ao8 y109.length co8, .int .i64 3] rfl (by (try simp only [List.map_toArray, List.map_cons, List.map_nil]); first | done | rfl | (simp only [List.length_drop, List.length_take]; rfl)) ?_; (with_reducible refine (vote_Class.calls _ _ y109 3 t112 t113 _ ?side1 ?side2 A1.out).mono ?_); (case side1 => repeat (first | exact (Kd.R_reads' HO111.out).2.2 | (with_reducible refine Kd.C_alloc ?_ _) | (with_reducible refine Kd.C_drewN ?_ _) | (with_reducible refine Kd.C_drew ?_))); (case side2 => exact (Kd.R_reads' HO111.out).2.1); rintro e w9 ⟨rfl, hb⟩; refine ⟨_, rfl, ?_⟩; have n0_ := Aside0.mk (Kd.R_below (by (with_reducible repeat (first | apply Kd.R_alloc | apply Kd.R_drewN | apply Kd.R_drew)); exact HO111.out) hb); have n1_ := Aside0.mk (below_step (by repeat (first | (with_reducible first | exact HB.out | apply below_alloc | apply pw_below_drewN | apply below_drew1) | exact HB.out)) hb); clear HO111; clear HB; have HO111 := n0_; have HB := n1_; clear n0_ n1_; (try clear hb); (try clear hb2); (try clear hk); (try clear hi)) | ((with_reducible refine gate_dst (N := 17) rfl ?_); refine Kd.R_lit k31 _ 31 ?hg (N := 17) ?hd (xs := ([(⟨0, 0, 0, 0, 7, 2⟩ : S31), (⟨0, 0, 0, 0, (-8), 1⟩ : S31)] : List (S31))) (inner := [.int .i64 0, .int .i64 0, .int .i64 0, .int .i64 0, .int .i64 7, .int .i64 2, .int .i64 0, .int .i64 0, .int .i64 0, .int .i64 0, .int .i64 (-8), .int .i64 1]) (ok := fun _ => True) (okp := fun _ => True) ?hr ?hp (fun _ hk => hk) trivial (Below.refl _ _) (Nat.le_refl _) (by simp) ?_; (case hd => rfl); (case hg => rfl); (case hr => first | (go_simp; done) | (go_simp; rfl)); (case hp => exact (Reps.c6 (show Kd.M k31 _ _ _ (⟨0, 0, 0, 0, 7, 2⟩ : S31) [.int .i64 0, .int .i64 0, .int .i64 0, .int .i64 0, .int .i64 7, .int .i64 2] from (k31_mkM _ _ _ (⟨0, 0, 0, 0, 7, 2⟩ : S31) )) (Reps.c6 (show Kd.M k31 _ _ _ (⟨0, 0, 0, 0, (-8), 1⟩ : S31) [.int .i64 0, .int .i64 0, .int .i64 0, .int .i64 0, .int .i64 (-8), .int .i64 1] from (k31_mkM _ _ _ (⟨0, 0, 0, 0, (-8), 1⟩ : S31) )) (Reps.none _ _)))); intro v115 w10 ho11 hb hg_ hnew_; clear hg_ hnew_; (first | rw [← Ny114.out] at ho11 | (simp only [Int.reduceToNat] at ho11; rw [← Ny114.out] at ho11)); have n0_ := Aside0.mk (Kd.R_elder' (by (with_reducible repeat (first | apply Kd.R_alloc | apply Kd.R_drewN | apply Kd.R_drew)); exact HO111.out) (Kd.R_base ho11) hb); have n1_ := Aside0.mk (Kd.R_lower (Kd.R_new' ho11 (Kd.R_lt (by (with_reducible repeat (first | apply Kd.R_alloc | apply Kd.R_drewN | apply Kd.R_drew)); exact HO111.out))) (below_size (by repeat (first | (with_reducible first | exact HB.out | apply below_alloc | apply pw_below_drewN | apply below_drew1) | exact HB.out)))); have n2_ := Aside0.mk (below_step (by repeat (first | (with_reducible first | exact HB.out | apply below_alloc | apply pw_below_drewN | apply below_drew1) | exact HB.out)) hb); clear HO111; clear HB; have HO111 := n0_; have HO116 := n1_; have HB := n2_; clear n0_ n1_ n2_; clear hb ho11; obtain ⟨Ao12, co12, eo12⟩ := Kd.R_slice HO116.out; subst eo12) | ((with_reducible refine gate_callee (f := 15) rfl ?_); refine goesL_ (some 18) rfl rfl Try.func15 (by kernel_rfl) rfl #[.slice Ao12 y114.length co12] rfl (by (try simp only [List.map_toArray, List.map_cons, List.map_nil]); first | done | rfl | (simp only [List.length_drop, List.length_take]; rfl)) ?_; (with_reducible refine (vote_Mean.calls k _ _ y114 t117 t118 _ ?side1 ?side2 A2.out).mono ?_); (case side1 => repeat (first | exact (Kd.R_reads' HO116.out).2.2 | (with_reducible refine Kd.C_alloc ?_ _) | (with_reducible refine Kd.C_drewN ?_ _) | (with_reducible refine Kd.C_drew ?_))); (case side2 => exact (Kd.R_reads' HO116.out).2.1); rintro e w13 ⟨rfl, hb⟩; refine ⟨_, rfl, ?_⟩; have n0_ := Aside0.mk (Kd.R_below (by (with_reducible repeat (first | apply Kd.R_alloc | apply Kd.R_drewN | apply Kd.R_drew)); exact HO111.out) hb); have n1_ := Aside0.mk (Kd.R_below (by (with_reducible repeat (first | apply Kd.R_alloc | apply Kd.R_drewN | apply Kd.R_drew)); exact HO116.out) hb); have n2_ := Aside0.mk (below_step (by repeat (first | (with_reducible first | exact HB.out | apply below_alloc | apply pw_below_drewN | apply below_drew1) | exact HB.out)) hb); clear HO111; clear HO116; clear HB; have HO111 := n0_; have HO116 := n1_; have HB := n2_; clear n0_ n1_ n2_; (try clear hb); (try clear hb2); (try clear hk); (try clear hi)))
        all_goals (go_ret; exact ⟨by first | rfl | (simp [errW_none, errW_some] <;> rfl) | (simp [*, errW_none, errW_some] <;> rfl) | (simp_all; done), by repeat (first | (with_reducible first | exact HB.out | apply below_alloc | apply pw_below_drewN | apply below_drew1) | exact HB.out)⟩)
      · rw [if_neg c5] at H
        have c5b0 : (t118 == 0) = false := beq_eq_false_iff_ne.mpr c5
        have c5b1 : (t118 != 0) = true := bne_iff_ne.mpr c5
        obtain rfl := Option.some.inj H
        go_enter Try.func13, Try.ntmps13
        go_wp2_with (first | ((with_reducible refine gate_dst (N := 10) rfl ?_); refine Kd.R_lit k31 _ 31 ?hg (N := 10) ?hd (xs := ([(⟨0, 0, 0, 2, 0, 0⟩ : S31), (⟨0, 0, 0, 1, 0, 0⟩ : S31), (⟨0, 0, 0, 1, 0, 0⟩ : S31), (⟨0, 0, 0, 2, 0, 0⟩ : S31)] : List (S31))) (inner := [.int .i64 0, .int .i64 0, .int .i64 0, .int .i64 2, .int .i64 0, .int .i64 0, .int .i64 0, .int .i64 0, .int .i64 0, .int .i64 1, .int .i64 0, .int .i64 0, .int .i64 0, .int .i64 0, .int .i64 0, .int .i64 1, .int .i64 0, .int .i64 0, .int .i64 0, .int .i64 0, .int .i64 0, .int .i64 2, .int .i64 0, .int .i64 0]) (ok := fun _ => True) (okp := fun _ => True) ?hr ?hp (fun _ hk => hk) trivial (Below.refl _ _) (Nat.le_refl _) (by simp) ?_; (case hd => rfl); (case hg => rfl); (case hr => first | (go_simp; done) | (go_simp; rfl)); (case hp => exact (Reps.c6 (show Kd.M k31 _ _ _ (⟨0, 0, 0, 2, 0, 0⟩ : S31) [.int .i64 0, .int .i64 0, .int .i64 0, .int .i64 2, .int .i64 0, .int .i64 0] from (k31_mkM _ _ _ (⟨0, 0, 0, 2, 0, 0⟩ : S31) )) (Reps.c6 (show Kd.M k31 _ _ _ (⟨0, 0, 0, 1, 0, 0⟩ : S31) [.int .i64 0, .int .i64 0, .int .i64 0, .int .i64 1, .int .i64 0, .int .i64 0] from (k31_mkM _ _ _ (⟨0, 0, 0, 1, 0, 0⟩ : S31) )) (Reps.c6 (show Kd.M k31 _ _ _ (⟨0, 0, 0, 1, 0, 0⟩ : S31) [.int .i64 0, .int .i64 0, .int .i64 0, .int .i64 1, .int .i64 0, .int .i64 0] from (k31_mkM _ _ _ (⟨0, 0, 0, 1, 0, 0⟩ : S31) )) (Reps.c6 (show Kd.M k31 _ _ _ (⟨0, 0, 0, 2, 0, 0⟩ : S31) [.int .i64 0, .int .i64 0, .int .i64 0, .int .i64 2, .int .i64 0, .int .i64 0] from (k31_mkM _ _ _ (⟨0, 0, 0, 2, 0, 0⟩ : S31) )) (Reps.none _ _)))))); intro v110 w14 ho15 hb hg_ hnew_; clear hg_ hnew_; (first | rw [← Ny109.out] at ho15 | (simp only [Int.reduceToNat] at ho15; rw [← Ny109.out] at ho15)); have n0_ := Aside0.mk (Kd.R_lower ho15 (below_size (by repeat (first | (with_reducible first | exact HB.out | apply below_alloc | apply pw_below_drewN | apply below_drew1) | exact HB.out)))); have n1_ := Aside0.mk (below_step (by repeat (first | (with_reducible first | exact HB.out | apply below_alloc | apply pw_below_drewN | apply below_drew1) | exact HB.out)) hb); clear HB; have HO111 := n0_; have HB := n1_; clear n0_ n1_; clear hb ho15; obtain ⟨Ao16, co16, eo16⟩ := Kd.R_slice HO111.out; subst eo16) | ((with_reducible refine gate_callee (f := 14) rfl ?_); refine goesL_ (some 11) rfl rfl Try.func14 (by kernel_rfl) rfl #[.slice Ao16 y109.length co16, .int .i64 3] rfl (by (try simp only [List.map_toArray, List.map_cons, List.map_nil]); first | done | rfl | (simp only [List.length_drop, List.length_take]; rfl)) ?_; (with_reducible refine (vote_Class.calls _ _ y109 3 t112 t113 _ ?side1 ?side2 A1.out).mono ?_); (case side1 => repeat (first | exact (Kd.R_reads' HO111.out).2.2 | (with_reducible refine Kd.C_alloc ?_ _) | (with_reducible refine Kd.C_drewN ?_ _) | (with_reducible refine Kd.C_drew ?_))); (case side2 => exact (Kd.R_reads' HO111.out).2.1); rintro e w17 ⟨rfl, hb⟩; refine ⟨_, rfl, ?_⟩; have n0_ := Aside0.mk (Kd.R_below (by (with_reducible repeat (first | apply Kd.R_alloc | apply Kd.R_drewN | apply Kd.R_drew)); exact HO111.out) hb); have n1_ := Aside0.mk (below_step (by repeat (first | (with_reducible first | exact HB.out | apply below_alloc | apply pw_below_drewN | apply below_drew1) | exact HB.out)) hb); clear HO111; clear HB; have HO111 := n0_; have HB := n1_; clear n0_ n1_; (try clear hb); (try clear hb2); (try clear hk); (try clear hi)) | ((with_reducible refine gate_dst (N := 17) rfl ?_); refine Kd.R_lit k31 _ 31 ?hg (N := 17) ?hd (xs := ([(⟨0, 0, 0, 0, 7, 2⟩ : S31), (⟨0, 0, 0, 0, (-8), 1⟩ : S31)] : List (S31))) (inner := [.int .i64 0, .int .i64 0, .int .i64 0, .int .i64 0, .int .i64 7, .int .i64 2, .int .i64 0, .int .i64 0, .int .i64 0, .int .i64 0, .int .i64 (-8), .int .i64 1]) (ok := fun _ => True) (okp := fun _ => True) ?hr ?hp (fun _ hk => hk) trivial (Below.refl _ _) (Nat.le_refl _) (by simp) ?_; (case hd => rfl); (case hg => rfl); (case hr => first | (go_simp; done) | (go_simp; rfl)); (case hp => exact (Reps.c6 (show Kd.M k31 _ _ _ (⟨0, 0, 0, 0, 7, 2⟩ : S31) [.int .i64 0, .int .i64 0, .int .i64 0, .int .i64 0, .int .i64 7, .int .i64 2] from (k31_mkM _ _ _ (⟨0, 0, 0, 0, 7, 2⟩ : S31) )) (Reps.c6 (show Kd.M k31 _ _ _ (⟨0, 0, 0, 0, (-8), 1⟩ : S31) [.int .i64 0, .int .i64 0, .int .i64 0, .int .i64 0, .int .i64 (-8), .int .i64 1] from (k31_mkM _ _ _ (⟨0, 0, 0, 0, (-8), 1⟩ : S31) )) (Reps.none _ _)))); intro v115 w18 ho19 hb hg_ hnew_; clear hg_ hnew_; (first | rw [← Ny114.out] at ho19 | (simp only [Int.reduceToNat] at ho19; rw [← Ny114.out] at ho19)); have n0_ := Aside0.mk (Kd.R_elder' (by (with_reducible repeat (first | apply Kd.R_alloc | apply Kd.R_drewN | apply Kd.R_drew)); exact HO111.out) (Kd.R_base ho19) hb); have n1_ := Aside0.mk (Kd.R_lower (Kd.R_new' ho19 (Kd.R_lt (by (with_reducible repeat (first | apply Kd.R_alloc | apply Kd.R_drewN | apply Kd.R_drew)); exact HO111.out))) (below_size (by repeat (first | (with_reducible first | exact HB.out | apply below_alloc | apply pw_below_drewN | apply below_drew1) | exact HB.out)))); have n2_ := Aside0.mk (below_step (by repeat (first | (with_reducible first | exact HB.out | apply below_alloc | apply pw_below_drewN | apply below_drew1) | exact HB.out)) hb); clear HO111; clear HB; have HO111 := n0_; have HO116 := n1_; have HB := n2_; clear n0_ n1_ n2_; clear hb ho19; obtain ⟨Ao20, co20, eo20⟩ := Kd.R_slice HO116.out; subst eo20) | ((with_reducible refine gate_callee (f := 15) rfl ?_); refine goesL_ (some 18) rfl rfl Try.func15 (by kernel_rfl) rfl #[.slice Ao20 y114.length co20] rfl (by (try simp only [List.map_toArray, List.map_cons, List.map_nil]); first | done | rfl | (simp only [List.length_drop, List.length_take]; rfl)) ?_; (with_reducible refine (vote_Mean.calls k _ _ y114 t117 t118 _ ?side1 ?side2 A2.out).mono ?_); (case side1 => repeat (first | exact (Kd.R_reads' HO116.out).2.2 | (with_reducible refine Kd.C_alloc ?_ _) | (with_reducible refine Kd.C_drewN ?_ _) | (with_reducible refine Kd.C_drew ?_))); (case side2 => exact (Kd.R_reads' HO116.out).2.1); rintro e w21 ⟨rfl, hb⟩; refine ⟨_, rfl, ?_⟩; have n0_ := Aside0.mk (Kd.R_below (by (with_reducible repeat (first | apply Kd.R_alloc | apply Kd.R_drewN | apply Kd.R_drew)); exact HO111.out) hb); have n1_ := Aside0.mk (Kd.R_below (by (with_reducible repeat (first | apply Kd.R_alloc | apply Kd.R_drewN | apply Kd.R_drew)); exact HO116.out) hb); have n2_ := Aside0.mk (below_step (by repeat (first | (with_reducible first | exact HB.out | apply below_alloc | apply pw_below_drewN | apply below_drew1) | exact HB.out)) hb); clear HO111; clear HO116; clear HB; have HO111 := n0_; have HO116 := n1_; have HB := n2_; clear n0_ n1_ n2_; (try clear hb); (try clear hb2); (try clear hk); (try clear hi)))
        all_goals (go_ret; exact ⟨by first | rfl | (simp [errW_none, errW_some] <;> rfl) | (simp [*, errW_none, errW_some] <;> rfl) | (simp_all; done), by repeat (first | (with_reducible first | exact HB.out | apply below_alloc | apply pw_below_drewN | apply below_drew1) | exact HB.out)⟩)
    · rw [if_neg c4] at H
      have c4b0 : (t112 == 1) = false := beq_eq_false_iff_ne.mpr c4
      have c4b1 : (t112 != 1) = true := bne_iff_ne.mpr c4
      obtain rfl := Option.some.inj H
      go_enter Try.func13, Try.ntmps13
      go_wp2_with (first | ((with_reducible refine gate_dst (N := 10) rfl ?_); refine Kd.R_lit k31 _ 31 ?hg (N := 10) ?hd (xs := ([(⟨0, 0, 0, 2, 0, 0⟩ : S31), (⟨0, 0, 0, 1, 0, 0⟩ : S31), (⟨0, 0, 0, 1, 0, 0⟩ : S31), (⟨0, 0, 0, 2, 0, 0⟩ : S31)] : List (S31))) (inner := [.int .i64 0, .int .i64 0, .int .i64 0, .int .i64 2, .int .i64 0, .int .i64 0, .int .i64 0, .int .i64 0, .int .i64 0, .int .i64 1, .int .i64 0, .int .i64 0, .int .i64 0, .int .i64 0, .int .i64 0, .int .i64 1, .int .i64 0, .int .i64 0, .int .i64 0, .int .i64 0, .int .i64 0, .int .i64 2, .int .i64 0, .int .i64 0]) (ok := fun _ => True) (okp := fun _ => True) ?hr ?hp (fun _ hk => hk) trivial (Below.refl _ _) (Nat.le_refl _) (by simp) ?_; (case hd => rfl); (case hg => rfl); (case hr => first | (go_simp; done) | (go_simp; rfl)); (case hp => exact (Reps.c6 (show Kd.M k31 _ _ _ (⟨0, 0, 0, 2, 0, 0⟩ : S31) [.int .i64 0, .int .i64 0, .int .i64 0, .int .i64 2, .int .i64 0, .int .i64 0] from (k31_mkM _ _ _ (⟨0, 0, 0, 2, 0, 0⟩ : S31) )) (Reps.c6 (show Kd.M k31 _ _ _ (⟨0, 0, 0, 1, 0, 0⟩ : S31) [.int .i64 0, .int .i64 0, .int .i64 0, .int .i64 1, .int .i64 0, .int .i64 0] from (k31_mkM _ _ _ (⟨0, 0, 0, 1, 0, 0⟩ : S31) )) (Reps.c6 (show Kd.M k31 _ _ _ (⟨0, 0, 0, 1, 0, 0⟩ : S31) [.int .i64 0, .int .i64 0, .int .i64 0, .int .i64 1, .int .i64 0, .int .i64 0] from (k31_mkM _ _ _ (⟨0, 0, 0, 1, 0, 0⟩ : S31) )) (Reps.c6 (show Kd.M k31 _ _ _ (⟨0, 0, 0, 2, 0, 0⟩ : S31) [.int .i64 0, .int .i64 0, .int .i64 0, .int .i64 2, .int .i64 0, .int .i64 0] from (k31_mkM _ _ _ (⟨0, 0, 0, 2, 0, 0⟩ : S31) )) (Reps.none _ _)))))); intro v110 w22 ho23 hb hg_ hnew_; clear hg_ hnew_; (first | rw [← Ny109.out] at ho23 | (simp only [Int.reduceToNat] at ho23; rw [← Ny109.out] at ho23)); have n0_ := Aside0.mk (Kd.R_lower ho23 (below_size (by repeat (first | (with_reducible first | exact HB.out | apply below_alloc | apply pw_below_drewN | apply below_drew1) | exact HB.out)))); have n1_ := Aside0.mk (below_step (by repeat (first | (with_reducible first | exact HB.out | apply below_alloc | apply pw_below_drewN | apply below_drew1) | exact HB.out)) hb); clear HB; have HO111 := n0_; have HB := n1_; clear n0_ n1_; clear hb ho23; obtain ⟨Ao24, co24, eo24⟩ := Kd.R_slice HO111.out; subst eo24) | ((with_reducible refine gate_callee (f := 14) rfl ?_); refine goesL_ (some 11) rfl rfl Try.func14 (by kernel_rfl) rfl #[.slice Ao24 y109.length co24, .int .i64 3] rfl (by (try simp only [List.map_toArray, List.map_cons, List.map_nil]); first | done | rfl | (simp only [List.length_drop, List.length_take]; rfl)) ?_; (with_reducible refine (vote_Class.calls _ _ y109 3 t112 t113 _ ?side1 ?side2 A1.out).mono ?_); (case side1 => repeat (first | exact (Kd.R_reads' HO111.out).2.2 | (with_reducible refine Kd.C_alloc ?_ _) | (with_reducible refine Kd.C_drewN ?_ _) | (with_reducible refine Kd.C_drew ?_))); (case side2 => exact (Kd.R_reads' HO111.out).2.1); rintro e w25 ⟨rfl, hb⟩; refine ⟨_, rfl, ?_⟩; have n0_ := Aside0.mk (Kd.R_below (by (with_reducible repeat (first | apply Kd.R_alloc | apply Kd.R_drewN | apply Kd.R_drew)); exact HO111.out) hb); have n1_ := Aside0.mk (below_step (by repeat (first | (with_reducible first | exact HB.out | apply below_alloc | apply pw_below_drewN | apply below_drew1) | exact HB.out)) hb); clear HO111; clear HB; have HO111 := n0_; have HB := n1_; clear n0_ n1_; (try clear hb); (try clear hb2); (try clear hk); (try clear hi)) | ((with_reducible refine gate_dst (N := 17) rfl ?_); refine Kd.R_lit k31 _ 31 ?hg (N := 17) ?hd (xs := ([(⟨0, 0, 0, 0, 7, 2⟩ : S31), (⟨0, 0, 0, 0, (-8), 1⟩ : S31)] : List (S31))) (inner := [.int .i64 0, .int .i64 0, .int .i64 0, .int .i64 0, .int .i64 7, .int .i64 2, .int .i64 0, .int .i64 0, .int .i64 0, .int .i64 0, .int .i64 (-8), .int .i64 1]) (ok := fun _ => True) (okp := fun _ => True) ?hr ?hp (fun _ hk => hk) trivial (Below.refl _ _) (Nat.le_refl _) (by simp) ?_; (case hd => rfl); (case hg => rfl); (case hr => first | (go_simp; done) | (go_simp; rfl)); (case hp => exact (Reps.c6 (show Kd.M k31 _ _ _ (⟨0, 0, 0, 0, 7, 2⟩ : S31) [.int .i64 0, .int .i64 0, .int .i64 0, .int .i64 0, .int .i64 7, .int .i64 2] from (k31_mkM _ _ _ (⟨0, 0, 0, 0, 7, 2⟩ : S31) )) (Reps.c6 (show Kd.M k31 _ _ _ (⟨0, 0, 0, 0, (-8), 1⟩ : S31) [.int .i64 0, .int .i64 0, .int .i64 0, .int .i64 0, .int .i64 (-8), .int .i64 1] from (k31_mkM _ _ _ (⟨0, 0, 0, 0, (-8), 1⟩ : S31) )) (Reps.none _ _)))); intro v115 w26 ho27 hb hg_ hnew_; clear hg_ hnew_; (first | rw [← Ny114.out] at ho27 | (simp only [Int.reduceToNat] at ho27; rw [← Ny114.out] at ho27)); have n0_ := Aside0.mk (Kd.R_elder' (by (with_reducible repeat (first | apply Kd.R_alloc | apply Kd.R_drewN | apply Kd.R_drew)); exact HO111.out) (Kd.R_base ho27) hb); have n1_ := Aside0.mk (Kd.R_lower (Kd.R_new' ho27 (Kd.R_lt (by (with_reducible repeat (first | apply Kd.R_alloc | apply Kd.R_drewN | apply Kd.R_drew)); exact HO111.out))) (below_size (by repeat (first | (with_reducible first | exact HB.out | apply below_alloc | apply pw_below_drewN | apply below_drew1) | exact HB.out)))); have n2_ := Aside0.mk (below_step (by repeat (first | (with_reducible first | exact HB.out | apply below_alloc | apply pw_below_drewN | apply below_drew1) | exact HB.out)) hb); clear HO111; clear HB; have HO111 := n0_; have HO116 := n1_; have HB := n2_; clear n0_ n1_ n2_; clear hb ho27; obtain ⟨Ao28, co28, eo28⟩ := Kd.R_slice HO116.out; subst eo28) | ((with_reducible refine gate_callee (f := 15) rfl ?_); refine goesL_ (some 18) rfl rfl Try.func15 (by kernel_rfl) rfl #[.slice Ao28 y114.length co28] rfl (by (try simp only [List.map_toArray, List.map_cons, List.map_nil]); first | done | rfl | (simp only [List.length_drop, List.length_take]; rfl)) ?_; (with_reducible refine (vote_Mean.calls k _ _ y114 t117 t118 _ ?side1 ?side2 A2.out).mono ?_); (case side1 => repeat (first | exact (Kd.R_reads' HO116.out).2.2 | (with_reducible refine Kd.C_alloc ?_ _) | (with_reducible refine Kd.C_drewN ?_ _) | (with_reducible refine Kd.C_drew ?_))); (case side2 => exact (Kd.R_reads' HO116.out).2.1); rintro e w29 ⟨rfl, hb⟩; refine ⟨_, rfl, ?_⟩; have n0_ := Aside0.mk (Kd.R_below (by (with_reducible repeat (first | apply Kd.R_alloc | apply Kd.R_drewN | apply Kd.R_drew)); exact HO111.out) hb); have n1_ := Aside0.mk (Kd.R_below (by (with_reducible repeat (first | apply Kd.R_alloc | apply Kd.R_drewN | apply Kd.R_drew)); exact HO116.out) hb); have n2_ := Aside0.mk (below_step (by repeat (first | (with_reducible first | exact HB.out | apply below_alloc | apply pw_below_drewN | apply below_drew1) | exact HB.out)) hb); clear HO111; clear HO116; clear HB; have HO111 := n0_; have HO116 := n1_; have HB := n2_; clear n0_ n1_ n2_; (try clear hb); (try clear hb2); (try clear hk); (try clear hi)))
      all_goals (go_ret; exact ⟨by first | rfl | (simp [errW_none, errW_some] <;> rfl) | (simp [*, errW_none, errW_some] <;> rfl) | (simp_all; done), by repeat (first | (with_reducible first | exact HB.out | apply below_alloc | apply pw_below_drewN | apply below_drew1) | exact HB.out)⟩)
  · rw [if_neg c3] at H
    have c3b0 : (t113 == 0) = false := beq_eq_false_iff_ne.mpr c3
    have c3b1 : (t113 != 0) = true := bne_iff_ne.mpr c3
    obtain rfl := Option.some.inj H
    go_enter Try.func13, Try.ntmps13
    go_wp2_with (first | ((with_reducible refine gate_dst (N := 10) rfl ?_); refine Kd.R_lit k31 _ 31 ?hg (N := 10) ?hd (xs := ([(⟨0, 0, 0, 2, 0, 0⟩ : S31), (⟨0, 0, 0, 1, 0, 0⟩ : S31), (⟨0, 0, 0, 1, 0, 0⟩ : S31), (⟨0, 0, 0, 2, 0, 0⟩ : S31)] : List (S31))) (inner := [.int .i64 0, .int .i64 0, .int .i64 0, .int .i64 2, .int .i64 0, .int .i64 0, .int .i64 0, .int .i64 0, .int .i64 0, .int .i64 1, .int .i64 0, .int .i64 0, .int .i64 0, .int .i64 0, .int .i64 0, .int .i64 1, .int .i64 0, .int .i64 0, .int .i64 0, .int .i64 0, .int .i64 0, .int .i64 2, .int .i64 0, .int .i64 0]) (ok := fun _ => True) (okp := fun _ => True) ?hr ?hp (fun _ hk => hk) trivial (Below.refl _ _) (Nat.le_refl _) (by simp) ?_; (case hd => rfl); (case hg => rfl); (case hr => first | (go_simp; done) | (go_simp; rfl)); (case hp => exact (Reps.c6 (show Kd.M k31 _ _ _ (⟨0, 0, 0, 2, 0, 0⟩ : S31) [.int .i64 0, .int .i64 0, .int .i64 0, .int .i64 2, .int .i64 0, .int .i64 0] from (k31_mkM _ _ _ (⟨0, 0, 0, 2, 0, 0⟩ : S31) )) (Reps.c6 (show Kd.M k31 _ _ _ (⟨0, 0, 0, 1, 0, 0⟩ : S31) [.int .i64 0, .int .i64 0, .int .i64 0, .int .i64 1, .int .i64 0, .int .i64 0] from (k31_mkM _ _ _ (⟨0, 0, 0, 1, 0, 0⟩ : S31) )) (Reps.c6 (show Kd.M k31 _ _ _ (⟨0, 0, 0, 1, 0, 0⟩ : S31) [.int .i64 0, .int .i64 0, .int .i64 0, .int .i64 1, .int .i64 0, .int .i64 0] from (k31_mkM _ _ _ (⟨0, 0, 0, 1, 0, 0⟩ : S31) )) (Reps.c6 (show Kd.M k31 _ _ _ (⟨0, 0, 0, 2, 0, 0⟩ : S31) [.int .i64 0, .int .i64 0, .int .i64 0, .int .i64 2, .int .i64 0, .int .i64 0] from (k31_mkM _ _ _ (⟨0, 0, 0, 2, 0, 0⟩ : S31) )) (Reps.none _ _)))))); intro v110 w30 ho31 hb hg_ hnew_; clear hg_ hnew_; (first | rw [← Ny109.out] at ho31 | (simp only [Int.reduceToNat] at ho31; rw [← Ny109.out] at ho31)); have n0_ := Aside0.mk (Kd.R_lower ho31 (below_size (by repeat (first | (with_reducible first | exact HB.out | apply below_alloc | apply pw_below_drewN | apply below_drew1) | exact HB.out)))); have n1_ := Aside0.mk (below_step (by repeat (first | (with_reducible first | exact HB.out | apply below_alloc | apply pw_below_drewN | apply below_drew1) | exact HB.out)) hb); clear HB; have HO111 := n0_; have HB := n1_; clear n0_ n1_; clear hb ho31; obtain ⟨Ao32, co32, eo32⟩ := Kd.R_slice HO111.out; subst eo32) | ((with_reducible refine gate_callee (f := 14) rfl ?_); refine goesL_ (some 11) rfl rfl Try.func14 (by kernel_rfl) rfl #[.slice Ao32 y109.length co32, .int .i64 3] rfl (by (try simp only [List.map_toArray, List.map_cons, List.map_nil]); first | done | rfl | (simp only [List.length_drop, List.length_take]; rfl)) ?_; (with_reducible refine (vote_Class.calls _ _ y109 3 t112 t113 _ ?side1 ?side2 A1.out).mono ?_); (case side1 => repeat (first | exact (Kd.R_reads' HO111.out).2.2 | (with_reducible refine Kd.C_alloc ?_ _) | (with_reducible refine Kd.C_drewN ?_ _) | (with_reducible refine Kd.C_drew ?_))); (case side2 => exact (Kd.R_reads' HO111.out).2.1); rintro e w33 ⟨rfl, hb⟩; refine ⟨_, rfl, ?_⟩; have n0_ := Aside0.mk (Kd.R_below (by (with_reducible repeat (first | apply Kd.R_alloc | apply Kd.R_drewN | apply Kd.R_drew)); exact HO111.out) hb); have n1_ := Aside0.mk (below_step (by repeat (first | (with_reducible first | exact HB.out | apply below_alloc | apply pw_below_drewN | apply below_drew1) | exact HB.out)) hb); clear HO111; clear HB; have HO111 := n0_; have HB := n1_; clear n0_ n1_; (try clear hb); (try clear hb2); (try clear hk); (try clear hi)) | ((with_reducible refine gate_dst (N := 17) rfl ?_); refine Kd.R_lit k31 _ 31 ?hg (N := 17) ?hd (xs := ([(⟨0, 0, 0, 0, 7, 2⟩ : S31), (⟨0, 0, 0, 0, (-8), 1⟩ : S31)] : List (S31))) (inner := [.int .i64 0, .int .i64 0, .int .i64 0, .int .i64 0, .int .i64 7, .int .i64 2, .int .i64 0, .int .i64 0, .int .i64 0, .int .i64 0, .int .i64 (-8), .int .i64 1]) (ok := fun _ => True) (okp := fun _ => True) ?hr ?hp (fun _ hk => hk) trivial (Below.refl _ _) (Nat.le_refl _) (by simp) ?_; (case hd => rfl); (case hg => rfl); (case hr => first | (go_simp; done) | (go_simp; rfl)); (case hp => exact (Reps.c6 (show Kd.M k31 _ _ _ (⟨0, 0, 0, 0, 7, 2⟩ : S31) [.int .i64 0, .int .i64 0, .int .i64 0, .int .i64 0, .int .i64 7, .int .i64 2] from (k31_mkM _ _ _ (⟨0, 0, 0, 0, 7, 2⟩ : S31) )) (Reps.c6 (show Kd.M k31 _ _ _ (⟨0, 0, 0, 0, (-8), 1⟩ : S31) [.int .i64 0, .int .i64 0, .int .i64 0, .int .i64 0, .int .i64 (-8), .int .i64 1] from (k31_mkM _ _ _ (⟨0, 0, 0, 0, (-8), 1⟩ : S31) )) (Reps.none _ _)))); intro v115 w34 ho35 hb hg_ hnew_; clear hg_ hnew_; (first | rw [← Ny114.out] at ho35 | (simp only [Int.reduceToNat] at ho35; rw [← Ny114.out] at ho35)); have n0_ := Aside0.mk (Kd.R_elder' (by (with_reducible repeat (first | apply Kd.R_alloc | apply Kd.R_drewN | apply Kd.R_drew)); exact HO111.out) (Kd.R_base ho35) hb); have n1_ := Aside0.mk (Kd.R_lower (Kd.R_new' ho35 (Kd.R_lt (by (with_reducible repeat (first | apply Kd.R_alloc | apply Kd.R_drewN | apply Kd.R_drew)); exact HO111.out))) (below_size (by repeat (first | (with_reducible first | exact HB.out | apply below_alloc | apply pw_below_drewN | apply below_drew1) | exact HB.out)))); have n2_ := Aside0.mk (below_step (by repeat (first | (with_reducible first | exact HB.out | apply below_alloc | apply pw_below_drewN | apply below_drew1) | exact HB.out)) hb); clear HO111; clear HB; have HO111 := n0_; have HO116 := n1_; have HB := n2_; clear n0_ n1_ n2_; clear hb ho35; obtain ⟨Ao36, co36, eo36⟩ := Kd.R_slice HO116.out; subst eo36) | ((with_reducible refine gate_callee (f := 15) rfl ?_); refine goesL_ (some 18) rfl rfl Try.func15 (by kernel_rfl) rfl #[.slice Ao36 y114.length co36] rfl (by (try simp only [List.map_toArray, List.map_cons, List.map_nil]); first | done | rfl | (simp only [List.length_drop, List.length_take]; rfl)) ?_; (with_reducible refine (vote_Mean.calls k _ _ y114 t117 t118 _ ?side1 ?side2 A2.out).mono ?_); (case side1 => repeat (first | exact (Kd.R_reads' HO116.out).2.2 | (with_reducible refine Kd.C_alloc ?_ _) | (with_reducible refine Kd.C_drewN ?_ _) | (with_reducible refine Kd.C_drew ?_))); (case side2 => exact (Kd.R_reads' HO116.out).2.1); rintro e w37 ⟨rfl, hb⟩; refine ⟨_, rfl, ?_⟩; have n0_ := Aside0.mk (Kd.R_below (by (with_reducible repeat (first | apply Kd.R_alloc | apply Kd.R_drewN | apply Kd.R_drew)); exact HO111.out) hb); have n1_ := Aside0.mk (Kd.R_below (by (with_reducible repeat (first | apply Kd.R_alloc | apply Kd.R_drewN | apply Kd.R_drew)); exact HO116.out) hb); have n2_ := Aside0.mk (below_step (by repeat (first | (with_reducible first | exact HB.out | apply below_alloc | apply pw_below_drewN | apply below_drew1) | exact HB.out)) hb); clear HO111; clear HO116; clear HB; have HO111 := n0_; have HO116 := n1_; have HB := n2_; clear n0_ n1_ n2_; (try clear hb); (try clear hb2); (try clear hk); (try clear hi)))
    all_goals (go_ret; exact ⟨by first | rfl | (simp [errW_none, errW_some] <;> rfl) | (simp [*, errW_none, errW_some] <;> rfl) | (simp_all; done), by repeat (first | (with_reducible first | exact HB.out | apply below_alloc | apply pw_below_drewN | apply below_drew1) | exact HB.out)⟩)

/-! ### vote_Vote: function 26 -/
def vote_Vote.f (k : Nat) (a0_0 : Int) (a0_1 : Int) (a0_2 : Int) (a0_3 : Int) (a0_4 : Int) (a0_5 : Int) (a0_6 : Int) (l1 : List (S31)) : Option (Int × Int) := if a0_0 = 0 then ((vote_Class.f l1 a0_1).bind fun bt120 => (some (bt120.1, bt120.2))) else (if a0_0 = 1 then ((vote_Mean.f k l1).bind fun bt122 => (some (bt122.1, bt122.2))) else (some (0, 1)))
theorem vote_Vote.mono : ∀ a0 a1 a2 a3 a4 a5 a6 a7 k, LeO (vote_Vote.f k a0 a1 a2 a3 a4 a5 a6 a7) (vote_Vote.f (k + 1) a0 a1 a2 a3 a4 a5 a6 a7) := by
  intro a0 a1 a2 a3 a4 a5 a6 a7 k
  unfold vote_Vote.f
  repeat' first
      | (with_reducible exact vote_Mean.mono _ _)
      | (with_reducible exact LeO.refl _)
      | (with_reducible exact LeO.none _)
      | (with_reducible refine LeO.ite ?_ ?_)
      | (with_reducible refine LeO.bind ?_ (fun _ => ?_))
      | exact vote_Mean.mono _ _
      | exact LeO.none _
      | refine LeO.ite ?_ ?_
      | refine LeO.bind ?_ (fun _ => ?_)
set_option maxHeartbeats 8000000 in
set_option maxRecDepth 100000 in
theorem vote_Vote.calls (k : Nat) (a0_0 : Int) (a0_1 : Int) (a0_2 : Int) (a0_3 : Int) (a0_4 : Int) (a0_5 : Int) (a0_6 : Int) (A1 : Option Addr) (c1 : Nat) (l1 : List (S31)) (r1 : Int) (r2 : Int) (w : World) (hr1 : Kd.C k31 w A1 l1.length l1) (hc1 : l1.length ≤ c1) (h : vote_Vote.f k a0_0 a0_1 a0_2 a0_3 a0_4 a0_5 a0_6 l1 = some (r1, r2)) :
    Calls Try.prog 26 #[.agg #[.int .i64 a0_0, .int .i64 a0_1, .int .i64 a0_2, .int .i64 a0_3, .int .i64 a0_4, .int .i64 a0_5, .int .i64 a0_6], .slice A1 l1.length c1] w fun e w' => e = .returned (.tuple #[.int .i64 r1, .int .i64 r2]) ∧ Below w.heap.size w w' := by
  have hu43 := Try.underlying43
  have HR1 := Aside0.mk hr1
  have HC1 := Aside0.mk hc1
  clear hr1 hc1
  have HB := Aside0.mk (Below.refl w.heap.size w)
  have H : (if a0_0 = 0 then ((vote_Class.f l1 a0_1).bind fun bt120 => (some (bt120.1, bt120.2))) else (if a0_0 = 1 then ((vote_Mean.f k l1).bind fun bt122 => (some (bt122.1, bt122.2))) else (some (0, 1)))) = some (r1, r2) := h
  clear h
  by_cases c3 : a0_0 = 0
  · rw [if_pos c3] at H
    have c3b0 : (a0_0 == 0) = true := beq_iff_eq.mpr c3
    have c3b1 : (a0_0 != 0) = false := bne_eq_false_iff_eq.mpr c3
    clear c3
    replace H := Option.bind_eq_some_iff.mp H
    obtain ⟨⟨t120, t121⟩, A40, H⟩ := H
    replace H : (some (t120, t121)) = some (r1, r2) := H
    have A4 := Aside0.mk A40
    clear A40
    simp only [Option.some.injEq, Prod.mk.injEq] at H
    obtain ⟨rfl, rfl⟩ := H
    go_enter Try.func26, Try.ntmps26
    go_wp2_with (first | ((with_reducible refine gate_dst (N := 2) rfl ?_); refine box_event ?hg (N := 2) ?hd (cs := #[.int .i64 a0_0, .int .i64 a0_1, .int .i64 a0_2, .int .i64 a0_3, .int .i64 a0_4, .int .i64 a0_5, .int .i64 a0_6]) (t := 43) ?hr ?_; (case hd => rfl); (case hg => rfl); (case hr => first | (go_simp; done) | (go_simp; rfl)); intro gb119 hg w5 hbox hb; have n0_ := Aside0.mk (below_step (by repeat (first | (with_reducible first | exact HB.out | apply below_alloc | apply pw_below_drewN | apply below_drew1) | exact HB.out)) hb); have n1_ := Aside0.mk (hbox); have n2_ := Aside0.mk ((by rw [hg]; exact (below_size (by repeat (first | (with_reducible first | exact HB.out | apply below_alloc | apply pw_below_drewN | apply below_drew1) | exact HB.out))) : w.heap.size ≤ gb119)); have n3_ := Aside0.mk ((by rw [hg]; exact (below_size (by repeat (first | (with_reducible first | exact HB.out | apply below_alloc | apply pw_below_drewN | apply below_drew1) | exact HB.out))) : w.heap.size ≤ gb119)); clear HB; have HB := n0_; have BK119 := n1_; have GW119 := n2_; have GE119 := n3_; clear n0_ n1_ n2_ n3_; clear hb hbox hg; have hcz6_0 : w5.cell? ⟨gb119, 0, none⟩ = some (.int .i64 a0_0) := (blk_cell BK119.out 0).trans rfl; have hcz6_1 : w5.cell? ⟨gb119, 1, none⟩ = some (.int .i64 a0_1) := (blk_cell BK119.out 1).trans rfl; have hcz6_2 : w5.cell? ⟨gb119, 2, none⟩ = some (.int .i64 a0_2) := (blk_cell BK119.out 2).trans rfl; have hcz6_3 : w5.cell? ⟨gb119, 3, none⟩ = some (.int .i64 a0_3) := (blk_cell BK119.out 3).trans rfl; have hcz6_4 : w5.cell? ⟨gb119, 4, none⟩ = some (.int .i64 a0_4) := (blk_cell BK119.out 4).trans rfl; have hcz6_5 : w5.cell? ⟨gb119, 5, none⟩ = some (.int .i64 a0_5) := (blk_cell BK119.out 5).trans rfl; have hcz6_6 : w5.cell? ⟨gb119, 6, none⟩ = some (.int .i64 a0_6) := (blk_cell BK119.out 6).trans rfl; have hfz6_0 := blk_frozen BK119.out 0; have hfz6_1 := blk_frozen BK119.out 1; have hfz6_2 := blk_frozen BK119.out 2; have hfz6_3 := blk_frozen BK119.out 3; have hfz6_4 := blk_frozen BK119.out 4; have hfz6_5 := blk_frozen BK119.out 5; have hfz6_6 := blk_frozen BK119.out 6) | ((with_reducible refine gate_callee (f := 14) rfl ?_); refine goesL_ (some 13) rfl rfl Try.func14 (by kernel_rfl) rfl #[.slice A1 l1.length c1, .int .i64 a0_1] rfl (by (try simp only [List.map_toArray, List.map_cons, List.map_nil]); first | done | rfl | (simp only [List.length_drop, List.length_take]; rfl)) ?_; (with_reducible refine (vote_Class.calls _ _ l1 a0_1 t120 t121 _ ?side1 ?side2 A4.out).mono ?_); (case side1 => repeat (first | exact (Kd.C_below HR1.out HB.out) | (with_reducible refine Kd.C_alloc ?_ _) | (with_reducible refine Kd.C_drewN ?_ _) | (with_reducible refine Kd.C_drew ?_))); (case side2 => exact HC1.out); rintro e w7 ⟨rfl, hb⟩; refine ⟨_, rfl, ?_⟩; have n0_ := Aside0.mk (blk_below (g := gb119) (o := .cells #[.int .i64 a0_0, .int .i64 a0_1, .int .i64 a0_2, .int .i64 a0_3, .int .i64 a0_4, .int .i64 a0_5, .int .i64 a0_6] 43 (0, 0)) (by (with_reducible repeat (first | refine blk_drewN ?_ _ | refine blk_drew ?_ | refine blk_alloc ?_ _)); exact BK119.out) hb); have n1_ := Aside0.mk (below_step (by repeat (first | (with_reducible first | exact HB.out | apply below_alloc | apply pw_below_drewN | apply below_drew1 | refine below_set ?_ GE119.out) | exact HB.out)) hb); clear BK119; clear HB; have BK119 := n0_; have HB := n1_; clear n0_ n1_; (try clear hb); (try clear hb2); (try clear hk); (try clear hi)))
    all_goals (go_ret2; exact ⟨by first | rfl | (simp [errW_none, errW_some] <;> rfl) | (simp [*, errW_none, errW_some] <;> rfl) | (simp_all; done), by repeat (first | (with_reducible first | exact HB.out | apply below_alloc | apply pw_below_drewN | apply below_drew1 | refine below_set ?_ GE119.out) | exact HB.out)⟩)
  · rw [if_neg c3] at H
    have c3b0 : (a0_0 == 0) = false := beq_eq_false_iff_ne.mpr c3
    have c3b1 : (a0_0 != 0) = true := bne_iff_ne.mpr c3
    by_cases c8 : a0_0 = 1
    · rw [if_pos c8] at H
      have c8b0 : (a0_0 == 1) = true := beq_iff_eq.mpr c8
      have c8b1 : (a0_0 != 1) = false := bne_eq_false_iff_eq.mpr c8
      clear c8
      replace H := Option.bind_eq_some_iff.mp H
      obtain ⟨⟨t122, t123⟩, A90, H⟩ := H
      replace H : (some (t122, t123)) = some (r1, r2) := H
      have A9 := Aside0.mk A90
      clear A90
      simp only [Option.some.injEq, Prod.mk.injEq] at H
      obtain ⟨rfl, rfl⟩ := H
      go_enter Try.func26, Try.ntmps26
      go_wp2_with (first | ((with_reducible refine gate_dst (N := 2) rfl ?_); refine box_event ?hg (N := 2) ?hd (cs := #[.int .i64 a0_0, .int .i64 a0_1, .int .i64 a0_2, .int .i64 a0_3, .int .i64 a0_4, .int .i64 a0_5, .int .i64 a0_6]) (t := 43) ?hr ?_; (case hd => rfl); (case hg => rfl); (case hr => first | (go_simp; done) | (go_simp; rfl)); intro gb119 hg w10 hbox hb; have n0_ := Aside0.mk (below_step (by repeat (first | (with_reducible first | exact HB.out | apply below_alloc | apply pw_below_drewN | apply below_drew1) | exact HB.out)) hb); have n1_ := Aside0.mk (hbox); have n2_ := Aside0.mk ((by rw [hg]; exact (below_size (by repeat (first | (with_reducible first | exact HB.out | apply below_alloc | apply pw_below_drewN | apply below_drew1) | exact HB.out))) : w.heap.size ≤ gb119)); have n3_ := Aside0.mk ((by rw [hg]; exact (below_size (by repeat (first | (with_reducible first | exact HB.out | apply below_alloc | apply pw_below_drewN | apply below_drew1) | exact HB.out))) : w.heap.size ≤ gb119)); clear HB; have HB := n0_; have BK119 := n1_; have GW119 := n2_; have GE119 := n3_; clear n0_ n1_ n2_ n3_; clear hb hbox hg; have hcz11_0 : w10.cell? ⟨gb119, 0, none⟩ = some (.int .i64 a0_0) := (blk_cell BK119.out 0).trans rfl; have hcz11_1 : w10.cell? ⟨gb119, 1, none⟩ = some (.int .i64 a0_1) := (blk_cell BK119.out 1).trans rfl; have hcz11_2 : w10.cell? ⟨gb119, 2, none⟩ = some (.int .i64 a0_2) := (blk_cell BK119.out 2).trans rfl; have hcz11_3 : w10.cell? ⟨gb119, 3, none⟩ = some (.int .i64 a0_3) := (blk_cell BK119.out 3).trans rfl; have hcz11_4 : w10.cell? ⟨gb119, 4, none⟩ = some (.int .i64 a0_4) := (blk_cell BK119.out 4).trans rfl; have hcz11_5 : w10.cell? ⟨gb119, 5, none⟩ = some (.int .i64 a0_5) := (blk_cell BK119.out 5).trans rfl; have hcz11_6 : w10.cell? ⟨gb119, 6, none⟩ = some (.int .i64 a0_6) := (blk_cell BK119.out 6).trans rfl; have hfz11_0 := blk_frozen BK119.out 0; have hfz11_1 := blk_frozen BK119.out 1; have hfz11_2 := blk_frozen BK119.out 2; have hfz11_3 := blk_frozen BK119.out 3; have hfz11_4 := blk_frozen BK119.out 4; have hfz11_5 := blk_frozen BK119.out 5; have hfz11_6 := blk_frozen BK119.out 6) | ((with_reducible refine gate_callee (f := 15) rfl ?_); refine goesL_ (some 19) rfl rfl Try.func15 (by kernel_rfl) rfl #[.slice A1 l1.length c1] rfl (by (try simp only [List.map_toArray, List.map_cons, List.map_nil]); first | done | rfl | (simp only [List.length_drop, List.length_take]; rfl)) ?_; (with_reducible refine (vote_Mean.calls k _ _ l1 t122 t123 _ ?side1 ?side2 A9.out).mono ?_); (case side1 => repeat (first | exact (Kd.C_below HR1.out HB.out) | (with_reducible refine Kd.C_alloc ?_ _) | (with_reducible refine Kd.C_drewN ?_ _) | (with_reducible refine Kd.C_drew ?_))); (case side2 => exact HC1.out); rintro e w12 ⟨rfl, hb⟩; refine ⟨_, rfl, ?_⟩; have n0_ := Aside0.mk (blk_below (g := gb119) (o := .cells #[.int .i64 a0_0, .int .i64 a0_1, .int .i64 a0_2, .int .i64 a0_3, .int .i64 a0_4, .int .i64 a0_5, .int .i64 a0_6] 43 (0, 0)) (by (with_reducible repeat (first | refine blk_drewN ?_ _ | refine blk_drew ?_ | refine blk_alloc ?_ _)); exact BK119.out) hb); have n1_ := Aside0.mk (below_step (by repeat (first | (with_reducible first | exact HB.out | apply below_alloc | apply pw_below_drewN | apply below_drew1 | refine below_set ?_ GE119.out) | exact HB.out)) hb); clear BK119; clear HB; have BK119 := n0_; have HB := n1_; clear n0_ n1_; (try clear hb); (try clear hb2); (try clear hk); (try clear hi)))
      all_goals (go_ret2; exact ⟨by first | rfl | (simp [errW_none, errW_some] <;> rfl) | (simp [*, errW_none, errW_some] <;> rfl) | (simp_all; done), by repeat (first | (with_reducible first | exact HB.out | apply below_alloc | apply pw_below_drewN | apply below_drew1 | refine below_set ?_ GE119.out) | exact HB.out)⟩)
    · rw [if_neg c8] at H
      have c8b0 : (a0_0 == 1) = false := beq_eq_false_iff_ne.mpr c8
      have c8b1 : (a0_0 != 1) = true := bne_iff_ne.mpr c8
      simp only [Option.some.injEq, Prod.mk.injEq] at H
      obtain ⟨rfl, rfl⟩ := H
      go_enter Try.func26, Try.ntmps26
      go_wp2_with (first | ((with_reducible refine gate_dst (N := 2) rfl ?_); refine box_event ?hg (N := 2) ?hd (cs := #[.int .i64 a0_0, .int .i64 a0_1, .int .i64 a0_2, .int .i64 a0_3, .int .i64 a0_4, .int .i64 a0_5, .int .i64 a0_6]) (t := 43) ?hr ?_; (case hd => rfl); (case hg => rfl); (case hr => first | (go_simp; done) | (go_simp; rfl)); intro gb119 hg w13 hbox hb; have n0_ := Aside0.mk (below_step (by repeat (first | (with_reducible first | exact HB.out | apply below_alloc | apply pw_below_drewN | apply below_drew1) | exact HB.out)) hb); have n1_ := Aside0.mk (hbox); have n2_ := Aside0.mk ((by rw [hg]; exact (below_size (by repeat (first | (with_reducible first | exact HB.out | apply below_alloc | apply pw_below_drewN | apply below_drew1) | exact HB.out))) : w.heap.size ≤ gb119)); have n3_ := Aside0.mk ((by rw [hg]; exact (below_size (by repeat (first | (with_reducible first | exact HB.out | apply below_alloc | apply pw_below_drewN | apply below_drew1) | exact HB.out))) : w.heap.size ≤ gb119)); clear HB; have HB := n0_; have BK119 := n1_; have GW119 := n2_; have GE119 := n3_; clear n0_ n1_ n2_ n3_; clear hb hbox hg; have hcz14_0 : w13.cell? ⟨gb119, 0, none⟩ = some (.int .i64 a0_0) := (blk_cell BK119.out 0).trans rfl; have hcz14_1 : w13.cell? ⟨gb119, 1, none⟩ = some (.int .i64 a0_1) := (blk_cell BK119.out 1).trans rfl; have hcz14_2 : w13.cell? ⟨gb119, 2, none⟩ = some (.int .i64 a0_2) := (blk_cell BK119.out 2).trans rfl; have hcz14_3 : w13.cell? ⟨gb119, 3, none⟩ = some (.int .i64 a0_3) := (blk_cell BK119.out 3).trans rfl; have hcz14_4 : w13.cell? ⟨gb119, 4, none⟩ = some (.int .i64 a0_4) := (blk_cell BK119.out 4).trans rfl; have hcz14_5 : w13.cell? ⟨gb119, 5, none⟩ = some (.int .i64 a0_5) := (blk_cell BK119.out 5).trans rfl; have hcz14_6 : w13.cell? ⟨gb119, 6, none⟩ = some (.int .i64 a0_6) := (blk_cell BK119.out 6).trans rfl; have hfz14_0 := blk_frozen BK119.out 0; have hfz14_1 := blk_frozen BK119.out 1; have hfz14_2 := blk_frozen BK119.out 2; have hfz14_3 := blk_frozen BK119.out 3; have hfz14_4 := blk_frozen BK119.out 4; have hfz14_5 := blk_frozen BK119.out 5; have hfz14_6 := blk_frozen BK119.out 6))
      all_goals (go_ret2; exact ⟨by first | rfl | (simp [errW_none, errW_some] <;> rfl) | (simp [*, errW_none, errW_some] <;> rfl) | (simp_all; done), by repeat (first | (with_reducible first | exact HB.out | apply below_alloc | apply pw_below_drewN | apply below_drew1 | refine below_set ?_ GE119.out) | exact HB.out)⟩)

end Go.Proofs.Ytglicbpnmehloaa.QVoteVotes
