/- The law SchedSteps answers true. No condition. -/
import Derived.Test.YtoonddgldmfleaaQSchedStepsx11
import Derived.Test.YtoonddgldmfleaaVP64
namespace Go.Proofs.Ytoonddgldmfleaa.Pure
open Go.RowKit Go.Proofs.Ytoonddgldmfleaa.QSchedSteps Go.Proofs.YtoonddgldmfleaaW.PrintWords Go.Proofs.YtoonddgldmfleaaW.PrintLast
open Go.Proofs.Ytoonddgldmfleaa.P64
namespace SchedSteps0
theorem rd_nat (l : List Int) (i : Nat) : rd l (i : Int) = l.getD i 0 := rfl
theorem getD_lt {α : Type} (l : List α) (i : Nat) (d : α) (h : i < l.length) : l.getD i d = l[i] := by simp [List.getD, List.getElem?_eq_getElem h]
theorem wrapS (i : Nat) (h : i ≤ 17592186044416) : wrap64 ((i : Int) + 1) = ((i + 1 : Nat) : Int) := by rw [wrap64_id (by omega) (by omega)]; omega
theorem index_l (l : List Int) (hl : l.length ≤ 1048576) : ∀ (m i k : Nat), i + m = l.length → m < k → ∃ r, slices_IndexFunc_int_int.l0 k l (l.length : Int) (i : Int) = some r ∧ (0 ≤ r ↔ ∃ t ∈ l.drop i, t ≠ -2)
  | 0, i, k + 1, h, _ => by
    rw [slices_IndexFunc_int_int.l0, if_neg (by omega)]
    refine ⟨-1, rfl, ?_⟩
    rw [List.drop_eq_nil_of_le (by omega)]
    simp
  | m + 1, i, k + 1, h, hk => by
    rw [slices_IndexFunc_int_int.l0, if_pos (by omega), if_pos (by omega), if_pos (by omega), rd_nat, getD_lt l i 0 (by omega), wrapS i (by omega), List.drop_eq_getElem_cons (by omega : i < l.length)]
    unfold sched_over_1.f
    rw [Option.bind_some]
    by_cases h0 : l[i] = -2
    · rw [h0, if_neg (by decide)]
      obtain ⟨r, e, hr⟩ := index_l l hl m (i + 1) k (by omega) (by omega)
      exact ⟨r, e, by rw [hr]; simp⟩
    · rw [if_pos (bne_iff_ne.2 h0)]
      exact ⟨_, rfl, ⟨fun _ => ⟨l[i], List.mem_cons_self, h0⟩, fun _ => by omega⟩⟩
theorem over_f (T W N : Int) (ld : List Int) (lb : List Bool) (C : Bool) (hl : ld.length ≤ 1048576) (k : Nat) (hk : ld.length < k) : sched_over.f k T W N ld lb C = some (decide (∀ t ∈ ld, t = -2)) := by
  obtain ⟨r, e, hr⟩ := index_l ld hl ld.length 0 k (by omega) hk
  unfold sched_over.f slices_ContainsFunc_int_int.f slices_IndexFunc_int_int.f
  rw [show (0 : Int) = ((0 : Nat) : Int) from rfl, e, Option.bind_some, Option.bind_some]
  congr 1
  rw [List.drop_zero] at hr
  by_cases h : ∃ t ∈ ld, t ≠ -2
  · rw [decide_eq_true (show r ≥ ((0 : Nat) : Int) from hr.2 h), decide_eq_false (fun hh => by obtain ⟨t, ht, hn⟩ := h; exact hn (hh t ht))]; rfl
  · rw [decide_eq_false (show ¬ r ≥ ((0 : Nat) : Int) from fun hh => h (hr.1 hh)), decide_eq_true (fun t ht => Classical.byContradiction fun hn => h ⟨t, ht, hn⟩)]; rfl
/-- Those who have not ended, from the i-th on. -/
def live : List Int → Nat → List Int
  | [], _ => []
  | t :: r, i => if t = -2 then live r (i + 1) else ((i + 1 : Nat) : Int) :: live r (i + 1)
theorem live_length : ∀ (l : List Int) (i : Nat), (live l i).length ≤ l.length
  | [], _ => by simp [live]
  | t :: r, i => by
    have := live_length r (i + 1)
    rw [live]
    split <;> simp <;> omega
theorem mem_live : ∀ (l : List Int) (i : Nat) (x : Int), x ∈ live l i → ∃ j : Nat, j < l.length ∧ x = ((i + j + 1 : Nat) : Int) ∧ l.getD j 0 ≠ -2
  | [], _, x, h => by simp [live] at h
  | t :: r, i, x, h => by
    have ih := mem_live r (i + 1) x
    have go : x ∈ live r (i + 1) → ∃ j : Nat, j < (t :: r).length ∧ x = ((i + j + 1 : Nat) : Int) ∧ (t :: r).getD j 0 ≠ -2 := fun h => by
      obtain ⟨j, h1, h2, h3⟩ := ih h
      exact ⟨j + 1, by simp; omega, by rw [h2]; congr 1; omega, by simpa using h3⟩
    rw [live] at h
    by_cases h0 : t = -2
    · rw [if_pos h0] at h; exact go h
    · rw [if_neg h0] at h
      rcases List.mem_cons.1 h with rfl | h
      · exact ⟨0, by simp, by simp, by simpa using h0⟩
      · exact go h
theorem ready_l (l : List Int) (hl : l.length ≤ 1048576) : ∀ (m i k : Nat) (out : List Int), i + m = l.length → m < k → out.length + m < 17592186044416 → sched_ready.l0 k out l (l.length : Int) (i : Int) = some (out ++ live (l.drop i) i)
  | 0, i, k + 1, out, h, _, _ => by
    rw [sched_ready.l0, if_neg (by omega), List.drop_eq_nil_of_le (by omega)]
    simp [live]
  | m + 1, i, k + 1, out, h, hk, ho => by
    rw [sched_ready.l0, if_pos (by omega), if_pos (by omega), if_pos (by omega), rd_nat, getD_lt l i 0 (by omega), wrapS i (by omega), List.drop_eq_getElem_cons (by omega : i < l.length), live]
    by_cases h0 : l[i] = -2
    · rw [if_pos h0, if_pos h0]
      exact ready_l l hl m (i + 1) k out (by omega) (by omega) (by omega)
    · rw [if_neg h0, if_neg h0, if_pos (by omega), ready_l l hl m (i + 1) k _ (by omega) (by omega) (by simp; omega)]
      simp
def readyL (ld : List Int) (C : Bool) : List Int := (if (∀ t ∈ ld, t = -2) ∧ C = false then [0] else []) ++ live ld 0
theorem ready_f (T W N : Int) (ld : List Int) (lb : List Bool) (C : Bool) (hl : ld.length ≤ 1048576) (k : Nat) (hk : ld.length + 3 < k) : sched_ready.f k T W N ld lb C = some (readyL ld C) := by
  obtain ⟨k, rfl⟩ : ∃ m, k = m + 2 := ⟨k - 2, by omega⟩
  have go : ∀ out : List Int, out.length ≤ 1 → sched_ready.l0 k out ld (ld.length : Int) 0 = some (out ++ live ld 0) := fun out ho => ready_l ld hl ld.length 0 k out (by omega) (by omega) (by omega)
  unfold sched_ready.f readyL
  rw [over_f T W N ld lb C hl _ (by omega), Option.bind_some]
  by_cases h : ∀ t ∈ ld, t = -2
  · rw [decide_eq_true h, if_pos rfl, sched_ready.j0]
    cases C with
    | true => rw [if_neg (by decide), if_neg (by simp), sched_ready.j1, go [] (by simp)]
    | false => rw [if_pos (by decide), if_pos (by simp), sched_ready.j1, if_pos ⟨h, rfl⟩, go _ (by simp)]; rfl
  · rw [decide_eq_false h, if_neg (by decide), if_neg (fun hh => h hh.1), sched_ready.j0, if_neg (by decide), sched_ready.j1, go [] (by simp)]
/-- Who may act. -/
def Can (ld : List Int) (C : Bool) (who : Int) : Prop := (who = 0 ∧ C = false ∧ ∀ t ∈ ld, t = -2) ∨ ∃ j : Nat, j < ld.length ∧ who = (j : Int) + 1 ∧ ld.getD j 0 ≠ -2
theorem can_of {ld : List Int} {C : Bool} {x : Int} (h : x ∈ readyL ld C) : Can ld C x := by
  unfold readyL at h
  rcases List.mem_append.1 h with h | h
  · by_cases h0 : (∀ t ∈ ld, t = -2) ∧ C = false
    · rw [if_pos h0] at h
      exact .inl ⟨by simpa using h, h0.2, h0.1⟩
    · rw [if_neg h0] at h; simp at h
  · obtain ⟨j, h1, h2, h3⟩ := mem_live ld 0 x h
    exact .inr ⟨j, h1, by rw [h2]; omega, h3⟩
/-- A state that may be. -/
structure Inv (T W N : Int) (ld : List Int) (lb : List Bool) (C : Bool) : Prop where
  t0 : 0 ≤ T
  t1 : T ≤ 1048576
  w0 : 1 ≤ W
  w1 : W ≤ 64
  n0 : 0 ≤ N
  n1 : N ≤ T
  hd : (ld.length : Int) = W
  hb : (lb.length : Int) = T
  sh : ∀ t ∈ ld, t = -1 ∨ (t = -2 ∧ N = T) ∨ (0 ≤ t ∧ t < N)
  ct : ∀ i : Nat, (i : Int) < T → (if lb.getD i false = true then 1 else 0) + ld.count (i : Int) = if (i : Int) < N then 1 else 0
  cl : C = true → ∀ t ∈ ld, t = -2
/-- What an act is. -/
inductive Move (T N : Int) (ld : List Int) (lb : List Bool) (C : Bool) : Int → Int → List Int → List Bool → Bool → Int → Int → Int → Prop
  | close (hC : C = false) (h : ∀ t ∈ ld, t = -2) : Move T N ld lb C 0 N ld lb true 0 4 (-1)
  | finish (j t : Nat) (hj : j < ld.length) (ht : ld[j] = (t : Int)) (hN : (t : Int) < N) (hb : t < lb.length) (hf : lb[t] = false) (hC : C = false) : Move T N ld lb C ((j : Int) + 1) N (ld.set j (-1)) (lb.set t true) C ((j : Int) + 1) 2 t
  | take (j : Nat) (hj : j < ld.length) (ht : ld[j] = -1) (hN : N < T) (hC : C = false) : Move T N ld lb C ((j : Int) + 1) (N + 1) (ld.set j N) lb C ((j : Int) + 1) 1 N
  | stop (j : Nat) (hj : j < ld.length) (ht : ld[j] = -1) (hN : N = T) (hC : C = false) : Move T N ld lb C ((j : Int) + 1) N (ld.set j (-2)) lb C ((j : Int) + 1) 3 (-1)
theorem count_pos_of {l : List Int} {j : Nat} (hj : j < l.length) {x : Int} (h : l[j] = x) : 1 ≤ l.count x := List.count_pos_iff.2 (h ▸ List.getElem_mem hj)
theorem move_of {T W N : Int} {ld : List Int} {lb : List Bool} {C : Bool} (I : Inv T W N ld lb C) {who : Int} (h : Can ld C who) : ∃ N' ld' lb' C' a b c, sched_act.f T W N ld lb C who = some (N', ld', lb', C', a, b, c) ∧ Move T N ld lb C who N' ld' lb' C' a b c := by
  obtain ⟨t0, t1, w0, w1, n0, n1, hd, hb, sh, ct, cl⟩ := I
  unfold sched_act.f
  rcases h with ⟨rfl, hC, h⟩ | ⟨j, hj, rfl, hne⟩
  · rw [if_pos rfl]
    exact ⟨_, _, _, _, _, _, _, rfl, .close hC h⟩
  · rw [getD_lt ld j 0 hj] at hne
    have hC : C = false := by
      cases C with
      | false => rfl
      | true => exact absurd (cl rfl _ (List.getElem_mem hj)) hne
    rw [if_neg (by omega), if_pos (by omega), show (j : Int) + 1 - 1 = (j : Int) by omega, rd_nat, getD_lt ld j 0 hj, Int.toNat_natCast]
    have hs := sh _ (List.getElem_mem hj)
    by_cases h0 : 0 ≤ ld[j]
    · obtain ⟨t, ht⟩ : ∃ t : Nat, ld[j] = (t : Int) := ⟨ld[j].toNat, by omega⟩
      have hN : (t : Int) < N := by omega
      have hl : t < lb.length := by omega
      have hf : lb[t] = false := by
        have := ct t (by omega)
        have h1 := count_pos_of hj ht
        rw [getD_lt lb t false hl] at this
        cases h2 : lb[t] with
        | false => rfl
        | true => rw [h2, if_pos rfl, if_pos hN] at this; omega
      rw [if_pos h0, ht, if_pos (by omega), Int.toNat_natCast]
      exact ⟨_, _, _, _, _, _, _, rfl, .finish j t hj ht hN hl hf hC⟩
    · have ht : ld[j] = -1 := by omega
      rw [if_neg h0]
      by_cases h1 : N < T
      · rw [if_pos h1, if_pos (by omega)]
        exact ⟨_, _, _, _, _, _, _, rfl, .take j hj ht h1 hC⟩
      · rw [if_neg h1]
        exact ⟨_, _, _, _, _, _, _, rfl, .stop j hj ht (by omega) hC⟩
theorem getD_set_eq {α : Type} (l : List α) (i : Nat) (x d : α) (h : i < l.length) : (l.set i x).getD i d = x := by simp [List.getD, h]
theorem getD_set_ne {α : Type} (l : List α) (i j : Nat) (x d : α) (h : i ≠ j) : (l.set i x).getD j d = l.getD j d := by simp [List.getD, List.getElem?_set_ne h]
theorem fixed_f (k : Nat) (hk : 40 ≤ k) : hornbeamlaw21_fixed.f k = some true := at_rounds (g := fun k => hornbeamlaw21_fixed.f k) hornbeamlaw21_fixed.mono hk (by decide +kernel)
theorem may_l2 (T W N : Int) (ld : List Int) (lb : List Bool) (C : Bool) (hd : ld.length ≤ 1048576) (x3 : List Int) (h3 : x3.length ≤ 1048576) (hp : ∀ j : Nat, 0 ≤ x3.getD j 0) : ∀ (m i k : Nat), i + m = x3.length → m + ld.length + 2 < k → ∃ r, sched_May.l2 k x3 (x3.length : Int) (i : Int) T W N ld lb C = some r ∧ (r = true ↔ (∀ j : Nat, i ≤ j → j < x3.length → x3.getD j 0 = if (j : Int) < N then 1 else 0) ∧ (C = true → ∀ t ∈ ld, t = -2))
  | 0, i, k + 1, h, hk => by
    rw [sched_May.l2, if_neg (by omega)]
    have e : (∀ j : Nat, i ≤ j → j < x3.length → x3.getD j 0 = if (j : Int) < N then 1 else 0) := fun j h1 h2 => by omega
    cases C with
    | true =>
      rw [if_pos rfl, over_f T W N ld lb true hd k (by omega), Option.bind_some]
      exact ⟨_, rfl, by simp only [decide_eq_true_eq]; exact ⟨fun z => ⟨e, fun _ => z⟩, fun z => z.2 trivial⟩⟩
    | false =>
      rw [if_neg (by decide)]
      exact ⟨_, rfl, ⟨fun _ => ⟨e, fun z => (by cases z)⟩, fun _ => rfl⟩⟩
  | m + 1, i, k + 1, h, hk => by
    rw [sched_May.l2, if_pos (by omega), if_pos (by omega), if_pos (by omega), rd_nat, wrapS i (by omega)]
    have hpi := hp i
    by_cases hx : x3.getD i 0 = if (i : Int) < N then 1 else 0
    · have c1 : ((decide ((i : Int) < N)) != (x3.getD i 0 == 1)) = false := by
        rw [hx]
        by_cases hn : (i : Int) < N
        · rw [if_pos hn, decide_eq_true hn]; rfl
        · rw [if_neg hn, decide_eq_false hn]; rfl
      have c2 : ¬ x3.getD i 0 > 1 := by rw [hx]; split <;> omega
      rw [c1, if_neg (by decide), if_neg c2]
      obtain ⟨r, e, hr⟩ := may_l2 T W N ld lb C hd x3 h3 hp m (i + 1) k (by omega) (by omega)
      refine ⟨r, e, hr.trans ⟨fun z => ⟨fun j h1 h2 => ?_, z.2⟩, fun z => ⟨fun j h1 h2 => z.1 j (by omega) h2, z.2⟩⟩⟩
      by_cases hj : j = i
      · rw [hj]; exact hx
      · exact z.1 j (by omega) h2
    · have no : ∀ r : Bool, r = false → (r = true ↔ (∀ j : Nat, i ≤ j → j < x3.length → x3.getD j 0 = if (j : Int) < N then 1 else 0) ∧ (C = true → ∀ t ∈ ld, t = -2)) := fun r hr => ⟨fun z => (by rw [hr] at z; cases z), fun z => absurd (z.1 i (Nat.le_refl _) (by omega)) hx⟩
      by_cases c1 : ((decide ((i : Int) < N)) != (x3.getD i 0 == 1)) = true
      · rw [if_pos c1]; exact ⟨_, rfl, no _ rfl⟩
      · rw [if_neg c1]
        have c2 : x3.getD i 0 > 1 := by
          by_cases hn : (i : Int) < N
          · rw [if_pos hn] at hx
            rw [decide_eq_true hn, beq_eq_false_iff_ne.2 hx] at c1
            exact absurd rfl c1
          · rw [if_neg hn] at hx
            rw [decide_eq_false hn] at c1
            by_cases h1 : x3.getD i 0 = 1
            · rw [h1] at c1; exact absurd rfl c1
            · omega
        rw [if_pos c2]; exact ⟨_, rfl, no _ rfl⟩
def Sh (T N t : Int) : Prop := t = -1 ∨ (t = -2 ∧ N = T) ∨ (0 ≤ t ∧ t < N)
theorem may_l1 (T W N : Int) (ld : List Int) (lb : List Bool) (C : Bool) (hd : ld.length ≤ 1048576) (n0 : 0 ≤ N) (n1 : N ≤ T) (t1 : T ≤ 1048576) : ∀ (m i k : Nat) (x3 : List Int), i + m = ld.length → (x3.length : Int) = T → (∀ j : Nat, 0 ≤ x3.getD j 0 ∧ x3.getD j 0 ≤ 1 + (i : Int)) → 2 * m + x3.length + ld.length + 5 < k → ∃ r, sched_May.l1 k x3 ld (ld.length : Int) (i : Int) T W N ld lb C = some r ∧ (r = true ↔ (∀ t ∈ ld.drop i, Sh T N t) ∧ (∀ j : Nat, j < x3.length → x3.getD j 0 + ((ld.drop i).count (j : Int) : Int) = if (j : Int) < N then 1 else 0) ∧ (C = true → ∀ t ∈ ld, t = -2))
  | 0, i, k + 1, x3, h, hT, hp, hk => by
    rw [sched_May.l1, if_neg (by omega)]
    obtain ⟨r, e, hr⟩ := may_l2 T W N ld lb C hd x3 (by omega) (fun j => (hp j).1) x3.length 0 k (by omega) (by omega)
    refine ⟨r, e, hr.trans ?_⟩
    rw [List.drop_eq_nil_of_le (by omega)]
    constructor
    · rintro ⟨z1, z2⟩
      exact ⟨fun t ht => (by cases ht), fun j hj => (by rw [← z1 j (Nat.zero_le _) hj]; simp), z2⟩
    · rintro ⟨_, z1, z2⟩
      exact ⟨fun j _ hj => (by rw [← z1 j hj]; simp), z2⟩
  | m + 1, i, k + 1, x3, h, hT, hp, hk => by
    rw [sched_May.l1, if_pos (by omega), if_pos (by omega), if_pos (by omega), rd_nat, getD_lt ld i 0 (by omega), wrapS i (by omega), List.drop_eq_getElem_cons (by omega : i < ld.length)]
    obtain ⟨t, ht⟩ : ∃ t, ld[i] = t := ⟨_, rfl⟩
    rw [ht]
    obtain ⟨k, rfl⟩ : ∃ q, k = q + 1 := ⟨k - 1, by omega⟩
    have skip : ∀ q : Nat, 2 * m + x3.length + ld.length + 5 < q → (∀ j : Nat, t ≠ (j : Int)) → Sh T N t → ∃ r, sched_May.l1 q x3 ld (ld.length : Int) ((i + 1 : Nat) : Int) T W N ld lb C = some r ∧ (r = true ↔ (∀ t' ∈ t :: ld.drop (i + 1), Sh T N t') ∧ (∀ j : Nat, j < x3.length → x3.getD j 0 + ((t :: ld.drop (i + 1)).count (j : Int) : Int) = if (j : Int) < N then 1 else 0) ∧ (C = true → ∀ t ∈ ld, t = -2)) := fun q hq hn hs => by
      obtain ⟨r, e, hr⟩ := may_l1 T W N ld lb C hd n0 n1 t1 m (i + 1) q x3 (by omega) hT (fun j => ⟨(hp j).1, by have := (hp j).2; omega⟩) hq
      refine ⟨r, e, hr.trans ⟨fun z => ⟨fun t' ht' => ?_, fun j hj => ?_, z.2.2⟩, fun z => ⟨fun t' ht' => z.1 t' (List.mem_cons_of_mem _ ht'), fun j hj => ?_, z.2.2⟩⟩⟩
      · rcases List.mem_cons.1 ht' with rfl | ht'
        · exact hs
        · exact z.1 t' ht'
      · rw [List.count_cons_of_ne (hn j)]; exact z.2.1 j hj
      · have := z.2.1 j hj; rwa [List.count_cons_of_ne (hn j)] at this
    have bad : ¬ Sh T N t → ((false : Bool) = true ↔ (∀ t' ∈ t :: ld.drop (i + 1), Sh T N t') ∧ (∀ j : Nat, j < x3.length → x3.getD j 0 + ((t :: ld.drop (i + 1)).count (j : Int) : Int) = if (j : Int) < N then 1 else 0) ∧ (C = true → ∀ t ∈ ld, t = -2)) := fun hb => ⟨fun z => (by cases z), fun z => absurd (z.1 t List.mem_cons_self) hb⟩
    by_cases h1 : t = -1
    · rw [if_pos h1]
      exact skip (k + 1) (by omega) (fun j => by omega) (.inl h1)
    · rw [if_neg h1]
      by_cases h2 : t = -2
      · rw [if_pos h2, sched_May.j3]
        by_cases hN : N = T
        · rw [if_pos (beq_iff_eq.2 hN), wrapS i (by omega)]
          exact skip k (by omega) (fun j => by omega) (.inr (.inl ⟨h2, hN⟩))
        · rw [if_neg (by simpa using hN), if_neg (by omega)]
          exact ⟨_, rfl, bad (by unfold Sh; omega)⟩
      · rw [if_neg h2, sched_May.j3, if_neg (by decide)]
        by_cases h3 : t ≥ 0
        · rw [if_pos h3]
          by_cases h4 : t < N
          · rw [if_pos h4, if_pos h3, if_pos (by omega)]
            obtain ⟨s, rfl⟩ : ∃ s : Nat, t = (s : Int) := ⟨t.toNat, by omega⟩
            have hs : s < x3.length := by omega
            rw [rd_nat, Int.toNat_natCast, wrap64_id (n := x3.getD s 0 + 1) (by have := hp s; omega) (by have := hp s; omega), wrapS i (by omega)]
            obtain ⟨r, e, hr⟩ := may_l1 T W N ld lb C hd n0 n1 t1 m (i + 1) k (x3.set s (x3.getD s 0 + 1)) (by omega) (by simpa using hT) (fun j => by
              by_cases hj : s = j
              · subst hj; rw [getD_set_eq _ _ _ _ hs]; have := hp s; omega
              · rw [getD_set_ne _ _ _ _ _ hj]; have := hp j; omega) (by simp; omega)
            refine ⟨r, e, hr.trans ⟨fun z => ⟨fun t' ht' => ?_, fun j hj => ?_, z.2.2⟩, fun z => ⟨fun t' ht' => z.1 t' (List.mem_cons_of_mem _ ht'), fun j hj => ?_, z.2.2⟩⟩⟩
            · rcases List.mem_cons.1 ht' with rfl | ht'
              · exact .inr (.inr ⟨h3, h4⟩)
              · exact z.1 t' ht'
            · have := z.2.1 j (by simpa using hj)
              by_cases hjs : s = j
              · subst hjs; rw [getD_set_eq _ _ _ _ hs] at this; rw [List.count_cons_self]; omega
              · rw [getD_set_ne _ _ _ _ _ hjs] at this; rw [List.count_cons_of_ne (by omega)]; exact this
            · have := z.2.1 j (by simpa using hj)
              by_cases hjs : s = j
              · subst hjs; rw [List.count_cons_self] at this; rw [getD_set_eq _ _ _ _ hs]; omega
              · rw [List.count_cons_of_ne (by omega)] at this; rw [getD_set_ne _ _ _ _ _ hjs]; exact this
          · rw [if_neg h4]
            exact ⟨_, rfl, bad (by unfold Sh; omega)⟩
        · rw [if_neg h3]
          exact ⟨_, rfl, bad (by unfold Sh; omega)⟩
theorem may_l0 (T W N : Int) (ld : List Int) (lb : List Bool) (C : Bool) (hd : ld.length ≤ 1048576) (hb : (lb.length : Int) = T) (n0 : 0 ≤ N) (n1 : N ≤ T) (t1 : T ≤ 1048576) : ∀ (m i k : Nat) (x3 : List Int), i + m = lb.length → (x3.length : Int) = T → (∀ j : Nat, x3.getD j 0 = if j < i ∧ lb.getD j false = true then 1 else 0) → m + 3 * ld.length + lb.length + 8 < k → ∃ r, sched_May.l0 k x3 lb (lb.length : Int) (i : Int) T W N ld lb C = some r ∧ (r = true ↔ (∀ t ∈ ld, Sh T N t) ∧ (∀ j : Nat, (j : Int) < T → (if lb.getD j false = true then 1 else 0) + (ld.count (j : Int) : Int) = if (j : Int) < N then 1 else 0) ∧ (C = true → ∀ t ∈ ld, t = -2))
  | 0, i, k + 1, x3, h, hT, hp, hk => by
    rw [sched_May.l0, if_neg (by omega)]
    obtain ⟨r, e, hr⟩ := may_l1 T W N ld lb C hd n0 n1 t1 ld.length 0 k x3 (by omega) hT (fun j => by rw [hp j]; split <;> omega) (by omega)
    refine ⟨r, e, hr.trans ?_⟩
    rw [List.drop_zero]
    have ej : ∀ j : Nat, j < x3.length → x3.getD j 0 = if lb.getD j false = true then 1 else 0 := fun j hj => by
      rw [hp j]
      by_cases hb' : lb.getD j false = true
      · rw [if_pos ⟨by omega, hb'⟩, if_pos hb']
      · rw [if_neg (fun z => hb' z.2), if_neg hb']
    exact ⟨fun z => ⟨z.1, fun j hj => (by rw [← ej j (by omega)]; exact z.2.1 j (by omega)), z.2.2⟩, fun z => ⟨z.1, fun j hj => (by rw [ej j hj]; exact z.2.1 j (by omega)), z.2.2⟩⟩
  | m + 1, i, k + 1, x3, h, hT, hp, hk => by
    rw [sched_May.l0, if_pos (by omega), if_pos (by omega), if_pos (by omega), wrapS i (by omega)]
    have e0 : rdOf false lb (i : Int) = lb.getD i false := rfl
    rw [e0]
    by_cases hb' : lb.getD i false = true
    · rw [if_pos hb', if_pos (by omega), rd_nat, Int.toNat_natCast, hp i, if_neg (by omega), show wrap64 ((0 : Int) + 1) = 1 from wrap64_id (by omega) (by omega)]
      refine may_l0 T W N ld lb C hd hb n0 n1 t1 m (i + 1) k _ (by omega) (by simpa using hT) (fun j => ?_) (by omega)
      by_cases hj : i = j
      · subst hj; rw [getD_set_eq _ _ _ _ (by omega), if_pos ⟨by omega, hb'⟩]
      · rw [getD_set_ne _ _ _ _ _ hj, hp j]
        by_cases hj2 : j < i ∧ lb.getD j false = true
        · rw [if_pos hj2, if_pos ⟨by omega, hj2.2⟩]
        · rw [if_neg hj2, if_neg (fun z => hj2 ⟨by omega, z.2⟩)]
    · rw [if_neg hb']
      refine may_l0 T W N ld lb C hd hb n0 n1 t1 m (i + 1) k _ (by omega) hT (fun j => ?_) (by omega)
      rw [hp j]
      by_cases hj2 : j < i ∧ lb.getD j false = true
      · rw [if_pos hj2, if_pos ⟨by omega, hj2.2⟩]
      · rw [if_neg hj2, if_neg (fun z => ?_)]
        by_cases hj : j = i
        · exact hb' (hj ▸ z.2)
        · exact hj2 ⟨by omega, z.2⟩
theorem may_f (T W N : Int) (ld : List Int) (lb : List Bool) (C : Bool) (hd : ld.length ≤ 1048576) (hb : lb.length ≤ 1048576) (k : Nat) (hk : 3 * ld.length + 2 * lb.length + 20 < k) : ∃ r, sched_May.f k T W N ld lb C = some r ∧ (r = true ↔ Inv T W N ld lb C) := by
  obtain ⟨k, rfl⟩ : ∃ q, k = q + 1 := ⟨k - 1, by omega⟩
  have bad : ¬ Inv T W N ld lb C → ∃ r, sched_May.j0 (k + 1) true T W N ld lb C = some r ∧ (r = true ↔ Inv T W N ld lb C) := fun hb => by
    rw [sched_May.j0, if_pos rfl]
    exact ⟨_, rfl, ⟨fun z => (by cases z), fun z => absurd z hb⟩⟩
  unfold sched_May.f sched_fits.f
  by_cases t0 : T ≥ 0
  · rw [if_pos t0]
    by_cases t1 : T ≤ 1048576
    · rw [if_pos t1]
      by_cases w0 : W ≥ 1
      · rw [if_pos w0, Option.bind_some]
        by_cases w1 : W ≤ 64
        · rw [decide_eq_true w1, if_pos rfl]
          by_cases h1 : (ld.length : Int) = W
          · rw [if_pos h1]
            by_cases h2 : (lb.length : Int) = T
            · rw [if_pos h2]
              by_cases h3 : N < 0
              · rw [if_pos h3]; exact bad (fun I => by have := I.n0; omega)
              · rw [if_neg h3]
                by_cases h4 : N > T
                · rw [decide_eq_true h4]; exact bad (fun I => by have := I.n1; omega)
                · rw [decide_eq_false h4, sched_May.j0, if_neg (by decide), if_pos (show 0 ≤ T from t0), if_pos (by omega)]
                  obtain ⟨r, e, hr⟩ := may_l0 T W N ld lb C hd h2 (by omega) (by omega) t1 lb.length 0 k (List.replicate T.toNat 0) (by omega) (by simp; omega) (fun j => by
                    rw [if_neg (by omega)]
                    simp only [List.getD, List.getElem?_replicate]
                    split <;> rfl) (by omega)
                  refine ⟨r, e, hr.trans ⟨fun z => ⟨t0, t1, w0, w1, by omega, by omega, h1, h2, z.1, fun i hi => ?_, z.2.2⟩, fun I => ⟨I.sh, fun j hj => ?_, I.cl⟩⟩⟩
                  · have := z.2.1 i hi
                    by_cases ca : lb.getD i false = true
                    · by_cases cb : (i : Int) < N
                      · rw [if_pos ca, if_pos cb] at this ⊢; omega
                      · rw [if_pos ca, if_neg cb] at this ⊢; omega
                    · by_cases cb : (i : Int) < N
                      · rw [if_neg ca, if_pos cb] at this ⊢; omega
                      · rw [if_neg ca, if_neg cb] at this ⊢; omega
                  · have := I.ct j hj
                    by_cases ca : lb.getD j false = true
                    · by_cases cb : (j : Int) < N
                      · rw [if_pos ca, if_pos cb] at this ⊢; omega
                      · rw [if_pos ca, if_neg cb] at this ⊢; omega
                    · by_cases cb : (j : Int) < N
                      · rw [if_neg ca, if_pos cb] at this ⊢; omega
                      · rw [if_neg ca, if_neg cb] at this ⊢; omega
            · rw [if_neg h2]; exact bad (fun I => h2 I.hb)
          · rw [if_neg h1]; exact bad (fun I => h1 I.hd)
        · rw [decide_eq_false w1, if_neg (by decide)]; exact bad (fun I => w1 I.w1)
      · rw [if_neg w0, Option.bind_some, if_neg (by decide)]; exact bad (fun I => w0 I.w0)
    · rw [if_neg t1, Option.bind_some, if_neg (by decide)]; exact bad (fun I => t1 I.t1)
  · rw [if_neg t0, Option.bind_some, if_neg (by decide)]; exact bad (fun I => t0 I.t0)
theorem may_true {T W N : Int} {ld : List Int} {lb : List Bool} {C : Bool} (I : Inv T W N ld lb C) (k : Nat) (hk : 3000000 ≤ k) : sched_May.f k T W N ld lb C = some true := by
  have h1 := I.hd; have h2 := I.hb; have h3 := I.t1; have h4 := I.w1
  obtain ⟨r, e, hr⟩ := may_f T W N ld lb C (by omega) (by omega) k (by omega)
  rw [e, hr.2 I]
theorem index2_l (l : List Int) (x : Int) (hl : l.length ≤ 1048577) : ∀ (m i k : Nat), i + m = l.length → m < k → ∃ r, slices_Index_int_int.l0 k l x (l.length : Int) (i : Int) = some r ∧ (0 ≤ r ↔ x ∈ l.drop i)
  | 0, i, k + 1, h, _ => by
    rw [slices_Index_int_int.l0, if_neg (by omega)]
    refine ⟨-1, rfl, ?_⟩
    rw [List.drop_eq_nil_of_le (by omega)]
    simp
  | m + 1, i, k + 1, h, hk => by
    rw [slices_Index_int_int.l0, if_pos (by omega), if_pos (by omega), if_pos (by omega), rd_nat, getD_lt l i 0 (by omega), wrapS i (by omega), List.drop_eq_getElem_cons (by omega : i < l.length)]
    by_cases h0 : x = l[i]
    · rw [if_pos h0]
      exact ⟨_, rfl, ⟨fun _ => by rw [h0]; exact List.mem_cons_self, fun _ => by omega⟩⟩
    · rw [if_neg h0]
      obtain ⟨r, e, hr⟩ := index2_l l x hl m (i + 1) k (by omega) (by omega)
      exact ⟨r, e, hr.trans ⟨fun z => List.mem_cons_of_mem _ z, fun z => (List.mem_cons.1 z).resolve_left h0⟩⟩
theorem contains_f (l : List Int) (x : Int) (hl : l.length ≤ 1048577) (k : Nat) (hk : l.length < k) : slices_Contains_int_int.f k l x = some (decide (x ∈ l)) := by
  obtain ⟨r, e, hr⟩ := index2_l l x hl l.length 0 k (by omega) hk
  unfold slices_Contains_int_int.f slices_Index_int_int.f
  rw [show (0 : Int) = ((0 : Nat) : Int) from rfl, e, Option.bind_some]
  rw [List.drop_zero] at hr
  congr 1
  exact decide_eq_decide.2 hr
theorem copied_f (T W N : Int) (ld : List Int) (lb : List Bool) (C : Bool) (hd : ld.length ≤ 1048576) (hb : lb.length ≤ 1048576) : sched_copied.f T W N ld lb C = some (T, W, N, ld, lb, C) := by
  unfold sched_copied.f slices_Clone_int_int.f slices_Clone_bool_bool.f
  rw [Option.bind_some, if_pos (by simp; omega), Option.bind_some, Option.bind_some, if_pos (by simp; omega)]
  rfl
theorem readyL_length (ld : List Int) (C : Bool) : (readyL ld C).length ≤ ld.length + 1 := by
  unfold readyL
  have := live_length ld 0
  rw [List.length_append]
  split <;> simp <;> omega
theorem step_f {T W N : Int} {ld : List Int} {lb : List Bool} {C : Bool} (I : Inv T W N ld lb C) {who : Int} (h : who ∈ readyL ld C) (k : Nat) (hk : 3000000 ≤ k) : ∃ N' ld' lb' C' a b c, sched_Step.f k T W N ld lb C who = some (T, W, N', ld', lb', C', a, b, c, 0) ∧ Move T N ld lb C who N' ld' lb' C' a b c := by
  obtain ⟨N', ld', lb', C', a, b, c, e, hm⟩ := move_of I (can_of h)
  refine ⟨N', ld', lb', C', a, b, c, ?_, hm⟩
  have h1 := I.hd; have h2 := I.hb; have h3 := I.t1; have h4 := I.w1
  have h5 := readyL_length ld C
  unfold sched_Step.f
  rw [may_true I k hk, Option.bind_some, if_pos rfl, ready_f _ _ _ _ _ _ (by omega) k (by omega), Option.bind_some, contains_f _ _ (by omega) k (by omega), Option.bind_some, decide_eq_true h, if_pos rfl, copied_f _ _ _ _ _ _ (by omega) (by omega), Option.bind_some]
  dsimp only
  rw [e, Option.bind_some]
theorem does_l (T W N : Int) (ld : List Int) (lb : List Bool) (C : Bool) (x : Int) (hl : ld.length ≤ 1048576) : ∀ (m i k : Nat) (c : Nat), i + m = ld.length → m < k → c ≤ i → hornbeamref21_does.l0 k x (c : Int) (i : Int) T W N ld lb C = some ((c + (ld.drop i).count x : Nat) : Int)
  | 0, i, k + 1, c, h, _, _ => by
    rw [hornbeamref21_does.l0, if_neg (by omega), List.drop_eq_nil_of_le (by omega)]; rfl
  | m + 1, i, k + 1, c, h, hk, hc => by
    rw [hornbeamref21_does.l0, if_pos (by omega), if_pos (by omega), rd_nat, getD_lt ld i 0 (by omega), wrapS i (by omega), List.drop_eq_getElem_cons (by omega : i < ld.length)]
    by_cases h0 : ld[i] = x
    · rw [if_pos h0, wrapS c (by omega), does_l T W N ld lb C x hl m (i + 1) k (c + 1) (by omega) (by omega) (by omega), h0, List.count_cons_self]
      congr 2; omega
    · rw [if_neg h0, does_l T W N ld lb C x hl m (i + 1) k c (by omega) (by omega) (by omega), List.count_cons_of_ne h0]
theorem does_f (T W N : Int) (ld : List Int) (lb : List Bool) (C : Bool) (x : Int) (hl : ld.length ≤ 1048576) (k : Nat) (hk : ld.length < k) : hornbeamref21_does.f k T W N ld lb C x = some (ld.count x : Int) := by
  have := does_l T W N ld lb C x hl ld.length 0 k 0 (by omega) hk (by omega)
  rw [List.drop_zero, Nat.zero_add] at this
  exact this
theorem all_count {W : Int} {ld : List Int} (hd : (ld.length : Int) = W) : (ld.count (-2) : Int) = W ↔ ∀ t ∈ ld, t = -2 := by
  constructor
  · intro h t ht
    exact (List.count_eq_length.1 (show ld.count (-2) = ld.length by omega) t ht).symm
  · intro h
    rw [List.count_eq_length.2 (fun t ht => (h t ht).symm)]; exact hd
theorem refmay_l1 (T W N : Int) (ld : List Int) (lb : List Bool) (C : Bool) (hd : (ld.length : Int) = W) (hl : ld.length ≤ 1048576) (n0 : 0 ≤ N) (n1 : N ≤ T) : ∀ (m i k : Nat), i + m = ld.length → 2 * m + ld.length + 3 < k → ∃ r, hornbeamref21_May.l1 k (i : Int) T W N ld lb C = some r ∧ (r = true ↔ (∀ t ∈ ld.drop i, Sh T N t) ∧ (C = true → ∀ t ∈ ld, t = -2))
  | 0, i, k + 1, h, hk => by
    rw [hornbeamref21_May.l1, if_neg (by omega), List.drop_eq_nil_of_le (by omega)]
    cases C with
    | true =>
      rw [if_pos rfl, does_f T W N ld lb true (-2) hl k (by omega), Option.bind_some]
      refine ⟨_, rfl, ?_⟩
      rw [beq_iff_eq, all_count hd]
      exact ⟨fun z => ⟨fun t ht => (by cases ht), fun _ => z⟩, fun z => z.2 rfl⟩
    | false =>
      rw [if_neg (by decide)]
      exact ⟨_, rfl, ⟨fun _ => ⟨fun t ht => (by cases ht), fun z => (by cases z)⟩, fun _ => rfl⟩⟩
  | m + 1, i, k + 1, h, hk => by
    rw [hornbeamref21_May.l1, if_pos (by omega), if_pos (by omega), rd_nat, getD_lt ld i 0 (by omega), List.drop_eq_getElem_cons (by omega : i < ld.length)]
    obtain ⟨k, rfl⟩ : ∃ q, k = q + 1 := ⟨k - 1, by omega⟩
    have bad : ¬ Sh T N ld[i] → ∃ r, (some false : Option Bool) = some r ∧ (r = true ↔ (∀ t ∈ ld[i] :: ld.drop (i + 1), Sh T N t) ∧ (C = true → ∀ t ∈ ld, t = -2)) := fun hb => ⟨false, rfl, ⟨fun z => (by cases z), fun z => absurd (z.1 _ List.mem_cons_self) hb⟩⟩
    have good : Sh T N ld[i] → ∃ r, hornbeamref21_May.l1 k (wrap64 ((i : Int) + 1)) T W N ld lb C = some r ∧ (r = true ↔ (∀ t ∈ ld[i] :: ld.drop (i + 1), Sh T N t) ∧ (C = true → ∀ t ∈ ld, t = -2)) := fun hs => by
      obtain ⟨r, e, hr⟩ := refmay_l1 T W N ld lb C hd hl n0 n1 m (i + 1) k (by omega) (by omega)
      rw [wrapS i (by omega)]
      refine ⟨r, e, hr.trans ⟨fun z => ⟨fun t ht => ?_, z.2⟩, fun z => ⟨fun t ht => z.1 t (List.mem_cons_of_mem _ ht), z.2⟩⟩⟩
      rcases List.mem_cons.1 ht with rfl | ht
      · exact hs
      · exact z.1 t ht
    by_cases h1 : ld[i] < -2
    · rw [if_pos h1, hornbeamref21_May.j4, if_pos rfl]; exact bad (by unfold Sh; omega)
    · rw [if_neg h1, hornbeamref21_May.j4]
      by_cases h2 : ld[i] ≥ N
      · rw [decide_eq_true h2, if_pos rfl]; exact bad (by unfold Sh; omega)
      · rw [decide_eq_false h2, if_neg (by decide), if_pos (by omega), if_pos (by omega), rd_nat, getD_lt ld i 0 (by omega)]
        by_cases h3 : ld[i] = -2
        · rw [if_pos h3]
          by_cases h4 : N < T
          · rw [if_pos h4]; exact bad (by unfold Sh; omega)
          · rw [if_neg h4]; exact good (by unfold Sh; omega)
        · rw [if_neg h3]; exact good (by unfold Sh; omega)
theorem refmay_l0 (T W N : Int) (ld : List Int) (lb : List Bool) (C : Bool) (hd : (ld.length : Int) = W) (hb : (lb.length : Int) = T) (hl : ld.length ≤ 1048576) (n0 : 0 ≤ N) (n1 : N ≤ T) (t1 : T ≤ 1048576) : ∀ (m i k : Nat), i + m = lb.length → 2 * m + 3 * ld.length + 5 < k → ∃ r, hornbeamref21_May.l0 k (i : Int) T W N ld lb C = some r ∧ (r = true ↔ (∀ j : Nat, i ≤ j → (j : Int) < T → (if lb.getD j false = true then 1 else 0) + ld.count (j : Int) = if (j : Int) < N then 1 else 0) ∧ (∀ t ∈ ld, Sh T N t) ∧ (C = true → ∀ t ∈ ld, t = -2))
  | 0, i, k + 1, h, hk => by
    rw [hornbeamref21_May.l0, if_neg (by omega)]
    obtain ⟨r, e, hr⟩ := refmay_l1 T W N ld lb C hd hl n0 n1 ld.length 0 k (by omega) (by omega)
    rw [List.drop_zero] at hr
    exact ⟨r, e, hr.trans ⟨fun z => ⟨fun j h1 h2 => by omega, z.1, z.2⟩, fun z => z.2⟩⟩
  | m + 1, i, k + 1, h, hk => by
    rw [hornbeamref21_May.l0, if_pos (by omega), does_f T W N ld lb C (i : Int) hl k (by omega), Option.bind_some]
    obtain ⟨k, rfl⟩ : ∃ q, k = q + 1 := ⟨k - 1, by omega⟩
    have e0 : rdOf false lb (i : Int) = lb.getD i false := rfl
    have bad : ¬ ((if lb.getD i false = true then 1 else 0) + ld.count (i : Int) = if (i : Int) < N then 1 else 0) → ∃ r, (some false : Option Bool) = some r ∧ (r = true ↔ (∀ j : Nat, i ≤ j → (j : Int) < T → (if lb.getD j false = true then 1 else 0) + ld.count (j : Int) = if (j : Int) < N then 1 else 0) ∧ (∀ t ∈ ld, Sh T N t) ∧ (C = true → ∀ t ∈ ld, t = -2)) := fun hbad => ⟨false, rfl, ⟨fun z => (by cases z), fun z => absurd (z.1 i (Nat.le_refl _) (by omega)) hbad⟩⟩
    have good : ((if lb.getD i false = true then 1 else 0) + ld.count (i : Int) = if (i : Int) < N then 1 else 0) → ∃ r, hornbeamref21_May.l0 k (wrap64 ((i : Int) + 1)) T W N ld lb C = some r ∧ (r = true ↔ (∀ j : Nat, i ≤ j → (j : Int) < T → (if lb.getD j false = true then 1 else 0) + ld.count (j : Int) = if (j : Int) < N then 1 else 0) ∧ (∀ t ∈ ld, Sh T N t) ∧ (C = true → ∀ t ∈ ld, t = -2)) := fun hg => by
      obtain ⟨r, e, hr⟩ := refmay_l0 T W N ld lb C hd hb hl n0 n1 t1 m (i + 1) k (by omega) (by omega)
      rw [wrapS i (by omega)]
      refine ⟨r, e, hr.trans ⟨fun z => ⟨fun j h1 h2 => ?_, z.2⟩, fun z => ⟨fun j h1 h2 => z.1 j (by omega) h2, z.2⟩⟩⟩
      by_cases hj : j = i
      · rw [hj]; exact hg
      · exact z.1 j (by omega) h2
    by_cases h1 : (i : Int) ≥ N
    · rw [if_pos h1]
      by_cases h2 : (ld.count (i : Int) : Int) > 0
      · rw [if_pos h2, hornbeamref21_May.j2, if_pos rfl]
        exact bad (by rw [if_neg (show ¬ (i : Int) < N by omega)]; omega)
      · rw [if_neg h2, if_pos (by omega), if_pos (by omega), e0, hornbeamref21_May.j2]
        by_cases h3 : lb.getD i false = true
        · rw [if_pos h3]
          exact bad (by rw [if_pos h3, if_neg (show ¬ (i : Int) < N by omega)]; omega)
        · rw [if_neg h3, if_neg (show ¬ (i : Int) < N by omega)]
          exact good (by rw [if_neg h3, if_neg (show ¬ (i : Int) < N by omega)]; omega)
    · rw [if_neg h1, hornbeamref21_May.j2, if_neg (by decide), if_pos (show (i : Int) < N by omega), if_pos (by omega), if_pos (by omega), e0]
      by_cases h3 : lb.getD i false = true
      · rw [if_pos h3]
        by_cases h4 : (ld.count (i : Int) : Int) = 0
        · rw [if_pos h4]
          exact good (by rw [if_pos h3, if_pos (show (i : Int) < N by omega)]; omega)
        · rw [if_neg h4]
          exact bad (by rw [if_pos h3, if_pos (show (i : Int) < N by omega)]; omega)
      · rw [if_neg h3]
        by_cases h4 : (ld.count (i : Int) : Int) = 1
        · rw [if_pos h4]
          exact good (by rw [if_neg h3, if_pos (show (i : Int) < N by omega)]; omega)
        · rw [if_neg h4]
          exact bad (by rw [if_neg h3, if_pos (show (i : Int) < N by omega)]; omega)
theorem refmay_f (T W N : Int) (ld : List Int) (lb : List Bool) (C : Bool) (hl : ld.length ≤ 1048576) (k : Nat) (hk : 3000000 + 3 * ld.length < k) : ∃ r, hornbeamref21_May.f k T W N ld lb C = some r ∧ (r = true ↔ Inv T W N ld lb C) := by
  obtain ⟨k, rfl⟩ : ∃ q, k = q + 1 := ⟨k - 1, by omega⟩
  have bad : ¬ Inv T W N ld lb C → ∃ r, hornbeamref21_May.j0 (k + 1) true T W N ld lb C = some r ∧ (r = true ↔ Inv T W N ld lb C) := fun hb => by
    rw [hornbeamref21_May.j0, if_pos rfl]
    exact ⟨_, rfl, ⟨fun z => (by cases z), fun z => absurd z hb⟩⟩
  unfold hornbeamref21_May.f
  by_cases t0 : T < 0
  · rw [if_pos t0]; exact bad (fun I => by have := I.t0; omega)
  · rw [if_neg t0]
    by_cases t1 : T > 1048576
    · rw [if_pos t1]; exact bad (fun I => by have := I.t1; omega)
    · rw [if_neg t1]
      by_cases w0 : W < 1
      · rw [if_pos w0]; exact bad (fun I => by have := I.w0; omega)
      · rw [if_neg w0]
        by_cases w1 : W > 64
        · rw [if_pos w1]; exact bad (fun I => by have := I.w1; omega)
        · rw [if_neg w1]
          by_cases h1 : (ld.length : Int) = W
          · rw [if_pos h1]
            by_cases h2 : (lb.length : Int) = T
            · rw [if_pos h2]
              by_cases h3 : N < 0
              · rw [if_pos h3]; exact bad (fun I => by have := I.n0; omega)
              · rw [if_neg h3]
                by_cases h4 : N > T
                · rw [decide_eq_true h4]; exact bad (fun I => by have := I.n1; omega)
                · rw [decide_eq_false h4, hornbeamref21_May.j0, if_neg (by decide)]
                  obtain ⟨r, e, hr⟩ := refmay_l0 T W N ld lb C h1 h2 hl (by omega) (by omega) (by omega) lb.length 0 k (by omega) (by omega)
                  exact ⟨r, e, hr.trans ⟨fun z => ⟨by omega, by omega, by omega, by omega, by omega, by omega, h1, h2, z.2.1, fun i hi => z.1 i (Nat.zero_le _) hi, z.2.2⟩, fun I => ⟨fun j _ hj => I.ct j hj, I.sh, I.cl⟩⟩⟩
            · rw [if_neg h2]; exact bad (fun I => h2 I.hb)
          · rw [if_neg h1]; exact bad (fun I => h1 I.hd)
theorem refready_l {T W N : Int} {ld : List Int} {lb : List Bool} {C : Bool} (I : Inv T W N ld lb C) : ∀ (m i k : Nat) (out : List Int), i + m = ld.length → m < k → out.length + m < 17592186044416 → hornbeamref21_Ready.l0 k out (i : Int) T W N ld lb C = some (out ++ live (ld.drop i) i)
  | 0, i, k + 1, out, h, _, _ => by
    have hd := I.hd
    rw [hornbeamref21_Ready.l0, if_neg (by omega), List.drop_eq_nil_of_le (by omega)]
    simp [live]
  | m + 1, i, k + 1, out, h, hk, ho => by
    have hd := I.hd; have hw := I.w1
    rw [hornbeamref21_Ready.l0, if_pos (by omega), if_pos (by omega), if_pos (by omega), rd_nat, getD_lt ld i 0 (by omega), wrapS i (by omega), List.drop_eq_getElem_cons (by omega : i < ld.length), live]
    have hs := I.sh _ (List.getElem_mem (by omega : i < ld.length))
    by_cases h0 : ld[i] = -2
    · rw [if_neg (by omega), if_pos h0]
      exact refready_l I m (i + 1) k out (by omega) (by omega) (by omega)
    · rw [if_pos (by omega), if_neg h0, if_pos (by omega), refready_l I m (i + 1) k _ (by omega) (by omega) (by simp; omega)]
      simp
theorem refready_f {T W N : Int} {ld : List Int} {lb : List Bool} {C : Bool} (I : Inv T W N ld lb C) (k : Nat) (hk : 4000000 < k) : hornbeamref21_Ready.f k T W N ld lb C = some (readyL ld C) := by
  have hd := I.hd; have hw := I.w1
  obtain ⟨r, e, hr⟩ := refmay_f T W N ld lb C (by omega) k (by omega)
  obtain ⟨k, rfl⟩ : ∃ q, k = q + 2 := ⟨k - 2, by omega⟩
  unfold hornbeamref21_Ready.f readyL
  rw [Option.bind_some, e, hr.2 I, Option.bind_some, if_pos rfl, does_f T W N ld lb C (-2) (by omega) _ (by omega), Option.bind_some]
  have go : ∀ out : List Int, out.length ≤ 1 → hornbeamref21_Ready.l0 k out 0 T W N ld lb C = some (out ++ live ld 0) := fun out ho => refready_l I ld.length 0 k out (by omega) (by omega) (by omega)
  by_cases h : ∀ t ∈ ld, t = -2
  · rw [if_pos ((all_count hd).2 h), hornbeamref21_Ready.j0]
    cases C with
    | true => rw [if_neg (by decide), if_neg (by simp), hornbeamref21_Ready.j1, go [] (by simp)]
    | false => rw [if_pos (by decide), if_pos (by simp), hornbeamref21_Ready.j1, if_pos ⟨h, rfl⟩, go _ (by simp)]; rfl
  · rw [if_neg (fun z => h ((all_count hd).1 z)), if_neg (fun hh => h hh.1), hornbeamref21_Ready.j0, if_neg (by decide), hornbeamref21_Ready.j1, go [] (by simp)]
theorem refstep_l (T W N : Int) (ld : List Int) (lb : List Bool) (C : Bool) (x : Int) (l : List Int) (hl : l.length ≤ 1048577) : ∀ (m i k : Nat) (b : Bool), i + m = l.length → m < k → hornbeamref21_Step.l0 k x l b (i : Int) T W N ld lb C = hornbeamref21_Step.l0 (0 + 1) x l (b || decide (x ∈ l.drop i)) (l.length : Int) T W N ld lb C
  | 0, i, k + 1, b, h, _ => by
    rw [hornbeamref21_Step.l0, hornbeamref21_Step.l0, if_neg (by omega), if_neg (Int.lt_irrefl _), List.drop_eq_nil_of_le (by omega), decide_eq_false (by simp), Bool.or_false]
  | m + 1, i, k + 1, b, h, hk => by
    have ih := fun b => refstep_l T W N ld lb C x l hl m (i + 1) k b (by omega) (by omega)
    rw [hornbeamref21_Step.l0, if_pos (by omega), if_pos (by omega), rd_nat, getD_lt l i 0 (by omega), wrapS i (by omega), List.drop_eq_getElem_cons (by omega : i < l.length)]
    by_cases h0 : l[i] = x
    · rw [if_pos h0, ih, decide_eq_true (p := x ∈ l[i] :: l.drop (i + 1)) (by rw [h0]; exact List.mem_cons_self), Bool.true_or, Bool.or_true]
    · rw [if_neg h0, ih]
      have e : decide (x ∈ l[i] :: l.drop (i + 1)) = decide (x ∈ l.drop (i + 1)) := decide_eq_decide.2 ⟨fun z => (List.mem_cons.1 z).resolve_left (fun q => h0 q.symm), fun z => List.mem_cons_of_mem _ z⟩
      rw [e]
theorem refstep_move {T W N : Int} {ld : List Int} {lb : List Bool} {C : Bool} (I : Inv T W N ld lb C) (l : List Int) {who N' a b c : Int} {ld' : List Int} {lb' : List Bool} {C' : Bool} (h : Move T N ld lb C who N' ld' lb' C' a b c) : hornbeamref21_Step.l0 (0 + 1) who l true (l.length : Int) T W N ld lb C = some (T, W, N', ld', lb', C', a, b, c, 0) := by
  have hd := I.hd; have hb := I.hb; have ht1 := I.t1; have hw1 := I.w1; have hn0 := I.n0; have hn1 := I.n1
  rw [hornbeamref21_Step.l0, if_neg (Int.lt_irrefl _), if_pos rfl, Option.bind_some, if_pos (by simp; omega), Option.bind_some, Option.bind_some, if_pos (by simp; omega), Option.bind_some, List.nil_append, List.nil_append]
  cases h with
  | close hC h => rw [if_pos rfl]
  | finish j t hj ht hN hbl hf hC =>
    rw [if_neg (by omega), show wrap64 ((j : Int) + 1 - 1) = (j : Int) by rw [wrap64_id (by omega) (by omega)]; omega, if_pos (by omega), if_pos (by omega), rd_nat, getD_lt ld j 0 hj, ht, if_pos (by omega), if_pos (by omega), if_pos (by omega)]
    rfl
  | take j hj ht hN hC =>
    rw [if_neg (by omega), show wrap64 ((j : Int) + 1 - 1) = (j : Int) by rw [wrap64_id (by omega) (by omega)]; omega, if_pos (by omega), if_pos (by omega), rd_nat, getD_lt ld j 0 hj, ht, if_neg (by omega), if_pos hN, wrap64_id (n := N + 1) (by omega) (by omega), show wrap64 (N + 1 - 1) = N by rw [wrap64_id (by omega) (by omega)]; omega]
    rfl
  | stop j hj ht hN hC =>
    rw [if_neg (by omega), show wrap64 ((j : Int) + 1 - 1) = (j : Int) by rw [wrap64_id (by omega) (by omega)]; omega, if_pos (by omega), if_pos (by omega), rd_nat, getD_lt ld j 0 hj, ht, if_neg (by omega), if_neg (by omega)]
    rfl
theorem move_length {T N : Int} {ld : List Int} {lb : List Bool} {C : Bool} {who N' a b c : Int} {ld' : List Int} {lb' : List Bool} {C' : Bool} (h : Move T N ld lb C who N' ld' lb' C' a b c) : ld'.length = ld.length ∧ lb'.length = lb.length := by
  cases h <;> simp
theorem steps_f (T W N : Int) (ld : List Int) (lb : List Bool) (C : Bool) (x : Int) (hd : ld.length ≤ 1048576) (hb : lb.length ≤ 1048576) (k : Nat) (hk : 8000000 ≤ k) : ∃ T1 W1 N1 ld1 lb1 C1 a b c e, sched_Step.f k T W N ld lb C x = some (T1, W1, N1, ld1, lb1, C1, a, b, c, e) ∧ hornbeamref21_Step.f k T W N ld lb C x = some (T1, W1, N1, ld1, lb1, C1, a, b, c, e) ∧ ld1.length ≤ 1048576 ∧ lb1.length ≤ 1048576 := by
  obtain ⟨r1, e1, h1⟩ := may_f T W N ld lb C hd hb k (by omega)
  obtain ⟨r2, e2, h2⟩ := refmay_f T W N ld lb C hd k (by omega)
  by_cases I : Inv T W N ld lb C
  · have hwl := I.hd; have hw := I.w1
    have h5 := readyL_length ld C
    by_cases hm : x ∈ readyL ld C
    · obtain ⟨N', ld', lb', C', a, b, c, es, hmv⟩ := step_f I hm k (by omega)
      have hlen := move_length hmv
      refine ⟨T, W, N', ld', lb', C', a, b, c, 0, es, ?_, by omega, by omega⟩
      unfold hornbeamref21_Step.f
      rw [e2, h2.2 I, Option.bind_some, if_pos rfl, refready_f I k (by omega), Option.bind_some]
      have := refstep_l T W N ld lb C x (readyL ld C) (by omega) (readyL ld C).length 0 k false (by omega) (by omega)
      rw [List.drop_zero, decide_eq_true hm] at this
      exact this.trans (refstep_move I _ hmv)
    · refine ⟨0, 0, 0, [], [], false, 0, 0, 0, 5, ?_, ?_, by simp, by simp⟩
      · unfold sched_Step.f
        rw [e1, h1.2 I, Option.bind_some, if_pos rfl, ready_f _ _ _ _ _ _ (by omega) k (by omega), Option.bind_some, contains_f _ _ (by omega) k (by omega), Option.bind_some, decide_eq_false hm, if_neg (by decide)]
      · unfold hornbeamref21_Step.f
        rw [e2, h2.2 I, Option.bind_some, if_pos rfl, refready_f I k (by omega), Option.bind_some]
        have := refstep_l T W N ld lb C x (readyL ld C) (by omega) (readyL ld C).length 0 k false (by omega) (by omega)
        rw [List.drop_zero, decide_eq_false hm] at this
        refine this.trans ?_
        rw [hornbeamref21_Step.l0, if_neg (Int.lt_irrefl _), if_neg (by decide)]
  · have f1 : r1 = false := by cases r1 with
      | false => rfl
      | true => exact absurd (h1.1 rfl) I
    have f2 : r2 = false := by cases r2 with
      | false => rfl
      | true => exact absurd (h2.1 rfl) I
    refine ⟨0, 0, 0, [], [], false, 0, 0, 0, 8, ?_, ?_, by simp, by simp⟩
    · unfold sched_Step.f
      rw [e1, f1, Option.bind_some, if_neg (by decide)]
    · unfold hornbeamref21_Step.f
      rw [e2, f2, Option.bind_some, if_neg (by decide)]
theorem readys_f (T W N : Int) (ld : List Int) (lb : List Bool) (C : Bool) (hd : ld.length ≤ 1048576) (hb : lb.length ≤ 1048576) (k : Nat) (hk : 8000000 ≤ k) : ∃ l : List Int, sched_Ready.f k T W N ld lb C = some l ∧ hornbeamref21_Ready.f k T W N ld lb C = some l ∧ l.length ≤ 1048577 := by
  obtain ⟨r1, e1, h1⟩ := may_f T W N ld lb C hd hb k (by omega)
  obtain ⟨r2, e2, h2⟩ := refmay_f T W N ld lb C hd k (by omega)
  by_cases I : Inv T W N ld lb C
  · refine ⟨readyL ld C, ?_, refready_f I k (by omega), by have := readyL_length ld C; omega⟩
    unfold sched_Ready.f
    rw [e1, h1.2 I, Option.bind_some, if_pos rfl, ready_f _ _ _ _ _ _ hd k (by omega), Option.bind_some]
  · have f1 : r1 = false := by cases r1 with
      | false => rfl
      | true => exact absurd (h1.1 rfl) I
    have f2 : r2 = false := by cases r2 with
      | false => rfl
      | true => exact absurd (h2.1 rfl) I
    refine ⟨[], ?_, ?_, by simp⟩
    · unfold sched_Ready.f
      rw [e1, f1, Option.bind_some, if_neg (by decide)]
    · unfold hornbeamref21_Ready.f
      rw [Option.bind_some, e2, f2, Option.bind_some, if_neg (by decide)]
theorem same_l1 (T W N : Int) (ld : List Int) (lb : List Bool) (C : Bool) (hb : lb.length ≤ 1048576) : ∀ (m i k : Nat), i + m = lb.length → m < k → hornbeamref21_Same.l1 k (i : Int) T W N ld lb C T W N ld lb C = some true
  | 0, i, k + 1, h, _ => by rw [hornbeamref21_Same.l1, if_neg (by omega)]
  | m + 1, i, k + 1, h, hk => by
    rw [hornbeamref21_Same.l1, if_pos (by omega), if_pos (by omega), if_pos (by omega), if_neg (by simp), wrapS i (by omega)]
    exact same_l1 T W N ld lb C hb m (i + 1) k (by omega) (by omega)
theorem same_l0 (T W N : Int) (ld : List Int) (lb : List Bool) (C : Bool) (hd : ld.length ≤ 1048576) (hb : lb.length ≤ 1048576) : ∀ (m i k : Nat), i + m = ld.length → m + lb.length + 1 < k → hornbeamref21_Same.l0 k (i : Int) T W N ld lb C T W N ld lb C = some true
  | 0, i, k + 1, h, _ => by
    rw [hornbeamref21_Same.l0, if_neg (by omega)]
    exact same_l1 T W N ld lb C hb lb.length 0 k (by omega) (by omega)
  | m + 1, i, k + 1, h, hk => by
    rw [hornbeamref21_Same.l0, if_pos (by omega), if_pos (by omega), if_pos (by omega), if_pos rfl, wrapS i (by omega)]
    exact same_l0 T W N ld lb C hd hb m (i + 1) k (by omega) (by omega)
theorem same_f (T W N : Int) (ld : List Int) (lb : List Bool) (C : Bool) (hd : ld.length ≤ 1048576) (hb : lb.length ≤ 1048576) (k : Nat) (hk : 3000000 < k) : hornbeamref21_Same.f k T W N ld lb C T W N ld lb C = some true := by
  obtain ⟨k, rfl⟩ : ∃ q, k = q + 1 := ⟨k - 1, by omega⟩
  unfold hornbeamref21_Same.f
  rw [if_pos rfl, if_pos rfl, if_pos rfl, if_neg (by simp), if_pos rfl, hornbeamref21_Same.j0, if_neg (by simp)]
  exact same_l0 T W N ld lb C hd hb ld.length 0 k (by omega) (by omega)
theorem same3_l (l : List Int) (hl : l.length ≤ 1048577) : ∀ (m i k : Nat), i + m = l.length → m < k → hornbeamref03_Same.l0 k l l (i : Int) = some true
  | 0, i, k + 1, h, _ => by rw [hornbeamref03_Same.l0, if_neg (by omega)]
  | m + 1, i, k + 1, h, hk => by
    rw [hornbeamref03_Same.l0, if_pos (by omega), if_pos (by omega), if_pos (by omega), if_pos rfl, wrapS i (by omega)]
    exact same3_l l hl m (i + 1) k (by omega) (by omega)
theorem same3_f (l : List Int) (hl : l.length ≤ 1048577) (k : Nat) (hk : 3000000 < k) : hornbeamref03_Same.f k l l = some true := by
  unfold hornbeamref03_Same.f
  rw [if_pos rfl]
  exact same3_l l hl l.length 0 k (by omega) (by omega)
end SchedSteps0
open SchedSteps0
theorem SchedSteps : hornbeamlaw21_SchedSteps.Pure := by
  intro T W N ld lb C x _ _ _ _ _ _
  obtain ⟨k, hk⟩ : ∃ k : Nat, 8000000 ≤ k := ⟨_, Nat.le_refl _⟩
  refine ⟨k + 1, ?_⟩
  have skip : hornbeamlaw21_SchedSteps.j0 (k + 1) x true T W N ld lb C = some true := by
    rw [hornbeamlaw21_SchedSteps.j0, if_pos rfl, fixed_f k (by omega)]; rfl
  unfold hornbeamlaw21_SchedSteps.f
  by_cases h1 : (lb.length : Int) > 200
  · rw [if_pos h1]; exact skip
  · rw [if_neg h1]
    by_cases h2 : (ld.length : Int) > 200
    · rw [decide_eq_true h2]; exact skip
    · obtain ⟨r1, e1, hr1⟩ := may_f T W N ld lb C (by omega) (by omega) k (by omega)
      obtain ⟨r2, e2, hr2⟩ := refmay_f T W N ld lb C (by omega) k (by omega)
      obtain ⟨l, e3, e4, hl⟩ := readys_f T W N ld lb C (by omega) (by omega) k (by omega)
      obtain ⟨T1, W1, N1, ld1, lb1, C1, a, b, c, e, e5, e6, hl1, hl2⟩ := steps_f T W N ld lb C x (by omega) (by omega) k (by omega)
      have hrr : r1 = r2 := Bool.eq_iff_iff.2 (hr1.trans hr2.symm)
      rw [decide_eq_false h2, hornbeamlaw21_SchedSteps.j0, if_neg (by decide), Option.bind_some, if_pos (by simp; omega), Option.bind_some, Option.bind_some, if_pos (by simp; omega), Option.bind_some, List.nil_append, List.nil_append, e5, Option.bind_some, e6, Option.bind_some]
      dsimp only
      rw [fixed_f k (by omega), Option.bind_some, if_pos rfl, e1, Option.bind_some, e2, Option.bind_some, hrr, if_pos (by simp), e3, Option.bind_some, e4, Option.bind_some, same3_f l hl k (by omega), Option.bind_some, if_pos rfl, same_f T1 W1 N1 ld1 lb1 C1 hl1 hl2 k (by omega), Option.bind_some, if_pos rfl, if_pos (by simp), if_pos rfl, same_f T W N ld lb C (by omega) (by omega) k (by omega), Option.bind_some]
end Go.Proofs.Ytoonddgldmfleaa.Pure
