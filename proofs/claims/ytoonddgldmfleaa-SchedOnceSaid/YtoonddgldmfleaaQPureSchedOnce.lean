/- The law SchedOnce answers true. No condition. -/
import Derived.Test.YtoonddgldmfleaaQSchedOncex5
import Derived.Test.YtoonddgldmfleaaP64
namespace Go.Proofs.Ytoonddgldmfleaa.Pure
open Go.RowKit Go.Proofs.Ytoonddgldmfleaa.QSchedOnce Go.Proofs.YtoonddgldmfleaaW.PrintWords Go.Proofs.YtoonddgldmfleaaW.PrintLast
open Go.Proofs.Ytoonddgldmfleaa.P64
namespace SchedOnce0
theorem rd_nat (l : List Int) (i : Nat) : rd l (i : Int) = l.getD i 0 := rfl
theorem getD_lt {α : Type} (l : List α) (i : Nat) (d : α) (h : i < l.length) : l.getD i d = l[i] := by simp [List.getD, List.getElem?_eq_getElem h]
theorem wrapS (i : Nat) (h : i ≤ 17592186044416) : wrap64 ((i : Int) + 1) = ((i + 1 : Nat) : Int) := by rw [wrap64_id (by omega) (by omega)]; omega
theorem index_l (l : List Int) (hl : l.length ≤ 1048576) : ∀ (m i k : Nat), i + m = l.length → m < k → ∃ r, slices_IndexFunc_int_int.l0 k l (l.length : Int) (i : Int) = some r ∧ (0 ≤ r ↔ ∃ t ∈ l.drop i, t ≠ -2)
  | 0, i, k + 1, h, _ => by
    rw [slices_IndexFunc_int_int.l0, if_neg (by omega)]
    refine ⟨-1, rfl, ?_⟩
    rw [List.drop_eq_nil_of_le (by omega)]
    simp
  | m + 1, i, k + 1, h, hk => by
    rw [slices_IndexFunc_int_int.l0, if_pos (by omega), if_pos (by omega), if_pos (by omega), rd_nat, getD_lt l i 0 (by omega), wrapS i (by omega), List.drop_eq_getElem_cons (by omega : i < l.length)]
    unfold sched_over_1.f
    rw [Option.bind_some]
    by_cases h0 : l[i] = -2
    · rw [h0, if_neg (by decide)]
      obtain ⟨r, e, hr⟩ := index_l l hl m (i + 1) k (by omega) (by omega)
      exact ⟨r, e, by rw [hr]; simp⟩
    · rw [if_pos (bne_iff_ne.2 h0)]
      exact ⟨_, rfl, ⟨fun _ => ⟨l[i], List.mem_cons_self, h0⟩, fun _ => by omega⟩⟩
theorem over_f (T W N : Int) (ld : List Int) (lb : List Bool) (C : Bool) (hl : ld.length ≤ 1048576) (k : Nat) (hk : ld.length < k) : sched_over.f k T W N ld lb C = some (decide (∀ t ∈ ld, t = -2)) := by
  obtain ⟨r, e, hr⟩ := index_l ld hl ld.length 0 k (by omega) hk
  unfold sched_over.f slices_ContainsFunc_int_int.f slices_IndexFunc_int_int.f
  rw [show (0 : Int) = ((0 : Nat) : Int) from rfl, e, Option.bind_some, Option.bind_some]
  congr 1
  rw [List.drop_zero] at hr
  by_cases h : ∃ t ∈ ld, t ≠ -2
  · rw [decide_eq_true (show r ≥ ((0 : Nat) : Int) from hr.2 h), decide_eq_false (fun hh => by obtain ⟨t, ht, hn⟩ := h; exact hn (hh t ht))]; rfl
  · rw [decide_eq_false (show ¬ r ≥ ((0 : Nat) : Int) from fun hh => h (hr.1 hh)), decide_eq_true (fun t ht => Classical.byContradiction fun hn => h ⟨t, ht, hn⟩)]; rfl
/-- Those who have not ended, from the i-th on. -/
def live : List Int → Nat → List Int
  | [], _ => []
  | t :: r, i => if t = -2 then live r (i + 1) else ((i + 1 : Nat) : Int) :: live r (i + 1)
theorem live_length : ∀ (l : List Int) (i : Nat), (live l i).length ≤ l.length
  | [], _ => by simp [live]
  | t :: r, i => by
    have := live_length r (i + 1)
    rw [live]
    split <;> simp <;> omega
theorem live_nil : ∀ (l : List Int) (i : Nat), live l i = [] ↔ ∀ t ∈ l, t = -2
  | [], _ => by simp [live]
  | t :: r, i => by
    rw [live]
    by_cases h : t = -2
    · rw [if_pos h, live_nil r (i + 1)]; simp [h]
    · rw [if_neg h]; simp [h]
theorem mem_live : ∀ (l : List Int) (i : Nat) (x : Int), x ∈ live l i → ∃ j : Nat, j < l.length ∧ x = ((i + j + 1 : Nat) : Int) ∧ l.getD j 0 ≠ -2
  | [], _, x, h => by simp [live] at h
  | t :: r, i, x, h => by
    have ih := mem_live r (i + 1) x
    have go : x ∈ live r (i + 1) → ∃ j : Nat, j < (t :: r).length ∧ x = ((i + j + 1 : Nat) : Int) ∧ (t :: r).getD j 0 ≠ -2 := fun h => by
      obtain ⟨j, h1, h2, h3⟩ := ih h
      exact ⟨j + 1, by simp; omega, by rw [h2]; congr 1; omega, by simpa using h3⟩
    rw [live] at h
    by_cases h0 : t = -2
    · rw [if_pos h0] at h; exact go h
    · rw [if_neg h0] at h
      rcases List.mem_cons.1 h with rfl | h
      · exact ⟨0, by simp, by simp, by simpa using h0⟩
      · exact go h
theorem ready_l (l : List Int) (hl : l.length ≤ 1048576) : ∀ (m i k : Nat) (out : List Int), i + m = l.length → m < k → out.length + m < 17592186044416 → sched_ready.l0 k out l (l.length : Int) (i : Int) = some (out ++ live (l.drop i) i)
  | 0, i, k + 1, out, h, _, _ => by
    rw [sched_ready.l0, if_neg (by omega), List.drop_eq_nil_of_le (by omega)]
    simp [live]
  | m + 1, i, k + 1, out, h, hk, ho => by
    rw [sched_ready.l0, if_pos (by omega), if_pos (by omega), if_pos (by omega), rd_nat, getD_lt l i 0 (by omega), wrapS i (by omega), List.drop_eq_getElem_cons (by omega : i < l.length), live]
    by_cases h0 : l[i] = -2
    · rw [if_pos h0, if_pos h0]
      exact ready_l l hl m (i + 1) k out (by omega) (by omega) (by omega)
    · rw [if_neg h0, if_neg h0, if_pos (by omega), ready_l l hl m (i + 1) k _ (by omega) (by omega) (by simp; omega)]
      simp
def readyL (ld : List Int) (C : Bool) : List Int := (if (∀ t ∈ ld, t = -2) ∧ C = false then [0] else []) ++ live ld 0
theorem ready_f (T W N : Int) (ld : List Int) (lb : List Bool) (C : Bool) (hl : ld.length ≤ 1048576) (k : Nat) (hk : ld.length + 3 < k) : sched_ready.f k T W N ld lb C = some (readyL ld C) := by
  obtain ⟨k, rfl⟩ : ∃ m, k = m + 2 := ⟨k - 2, by omega⟩
  have go : ∀ out : List Int, out.length ≤ 1 → sched_ready.l0 k out ld (ld.length : Int) 0 = some (out ++ live ld 0) := fun out ho => ready_l ld hl ld.length 0 k out (by omega) (by omega) (by omega)
  unfold sched_ready.f readyL
  rw [over_f T W N ld lb C hl _ (by omega), Option.bind_some]
  by_cases h : ∀ t ∈ ld, t = -2
  · rw [decide_eq_true h, if_pos rfl, sched_ready.j0]
    cases C with
    | true => rw [if_neg (by decide), if_neg (by simp), sched_ready.j1, go [] (by simp)]
    | false => rw [if_pos (by decide), if_pos (by simp), sched_ready.j1, if_pos ⟨h, rfl⟩, go _ (by simp)]; rfl
  · rw [decide_eq_false h, if_neg (by decide), if_neg (fun hh => h hh.1), sched_ready.j0, if_neg (by decide), sched_ready.j1, go [] (by simp)]
/-- Who may act. -/
def Can (ld : List Int) (C : Bool) (who : Int) : Prop := (who = 0 ∧ C = false ∧ ∀ t ∈ ld, t = -2) ∨ ∃ j : Nat, j < ld.length ∧ who = (j : Int) + 1 ∧ ld.getD j 0 ≠ -2
theorem can_of {ld : List Int} {C : Bool} {x : Int} (h : x ∈ readyL ld C) : Can ld C x := by
  unfold readyL at h
  rcases List.mem_append.1 h with h | h
  · by_cases h0 : (∀ t ∈ ld, t = -2) ∧ C = false
    · rw [if_pos h0] at h
      exact .inl ⟨by simpa using h, h0.2, h0.1⟩
    · rw [if_neg h0] at h; simp at h
  · obtain ⟨j, h1, h2, h3⟩ := mem_live ld 0 x h
    exact .inr ⟨j, h1, by rw [h2]; omega, h3⟩
theorem ready_nil (ld : List Int) (C : Bool) : readyL ld C = [] ↔ (∀ t ∈ ld, t = -2) ∧ C = true := by
  unfold readyL
  rw [List.append_eq_nil_iff, live_nil]
  cases C with
  | true => simp
  | false =>
    constructor
    · rintro ⟨h1, h2⟩
      rw [if_pos ⟨h2, rfl⟩] at h1
      simp at h1
    · rintro ⟨_, h⟩; cases h
/-- How many acts a worker is far from its end. -/
def wt (t : Int) : Int := if 0 ≤ t then 2 else if t = -1 then 1 else 0
def sumv : List Int → Int
  | [] => 0
  | t :: r => wt t + sumv r
theorem wt_nonneg (t : Int) : 0 ≤ wt t := by unfold wt; split <;> (try split) <;> omega
theorem sumv_nonneg : ∀ l : List Int, 0 ≤ sumv l
  | [] => Int.le_refl _
  | t :: r => by have := wt_nonneg t; have := sumv_nonneg r; rw [sumv]; omega
theorem sumv_set : ∀ (l : List Int) (j : Nat) (x : Int), j < l.length → sumv (l.set j x) = sumv l - wt (l.getD j 0) + wt x
  | [], _, _, h => by simp at h
  | t :: r, 0, x, _ => by simp [sumv]; omega
  | t :: r, j + 1, x, h => by
    have := sumv_set r j x (by simpa using h)
    simp [sumv] at this ⊢
    omega
theorem sumv_zero : ∀ (l : List Int), (∀ t ∈ l, t = -2) → sumv l = 0
  | [], _ => rfl
  | t :: r, h => by
    rw [sumv, sumv_zero r (fun t ht => h t (List.mem_cons_of_mem _ ht)), h t List.mem_cons_self]; rfl
theorem sumv_repl : ∀ n : Nat, sumv (List.replicate n (-1)) = n
  | 0 => rfl
  | n + 1 => by rw [List.replicate_succ, sumv, sumv_repl n]; simp [wt]; omega
def left (T N : Int) (ld : List Int) (C : Bool) : Int := 2 * (T - N) + sumv ld + (if C = true then 0 else 1)
/-- A state that may be. -/
structure Inv (T W N : Int) (ld : List Int) (lb : List Bool) (C : Bool) : Prop where
  t0 : 0 ≤ T
  t1 : T ≤ 1048576
  w0 : 1 ≤ W
  w1 : W ≤ 64
  n0 : 0 ≤ N
  n1 : N ≤ T
  hd : (ld.length : Int) = W
  hb : (lb.length : Int) = T
  sh : ∀ t ∈ ld, t = -1 ∨ (t = -2 ∧ N = T) ∨ (0 ≤ t ∧ t < N)
  ct : ∀ i : Nat, (i : Int) < T → (if lb.getD i false = true then 1 else 0) + ld.count (i : Int) = if (i : Int) < N then 1 else 0
  cl : C = true → ∀ t ∈ ld, t = -2
/-- What an act is. -/
inductive Move (T N : Int) (ld : List Int) (lb : List Bool) (C : Bool) : Int → Int → List Int → List Bool → Bool → Int → Int → Int → Prop
  | close (hC : C = false) (h : ∀ t ∈ ld, t = -2) : Move T N ld lb C 0 N ld lb true 0 4 (-1)
  | finish (j t : Nat) (hj : j < ld.length) (ht : ld[j] = (t : Int)) (hN : (t : Int) < N) (hb : t < lb.length) (hf : lb[t] = false) (hC : C = false) : Move T N ld lb C ((j : Int) + 1) N (ld.set j (-1)) (lb.set t true) C ((j : Int) + 1) 2 t
  | take (j : Nat) (hj : j < ld.length) (ht : ld[j] = -1) (hN : N < T) (hC : C = false) : Move T N ld lb C ((j : Int) + 1) (N + 1) (ld.set j N) lb C ((j : Int) + 1) 1 N
  | stop (j : Nat) (hj : j < ld.length) (ht : ld[j] = -1) (hN : N = T) (hC : C = false) : Move T N ld lb C ((j : Int) + 1) N (ld.set j (-2)) lb C ((j : Int) + 1) 3 (-1)
theorem count_pos_of {l : List Int} {j : Nat} (hj : j < l.length) {x : Int} (h : l[j] = x) : 1 ≤ l.count x := List.count_pos_iff.2 (h ▸ List.getElem_mem hj)
theorem move_of {T W N : Int} {ld : List Int} {lb : List Bool} {C : Bool} (I : Inv T W N ld lb C) {who : Int} (h : Can ld C who) : ∃ N' ld' lb' C' a b c, sched_act.f T W N ld lb C who = some (N', ld', lb', C', a, b, c) ∧ Move T N ld lb C who N' ld' lb' C' a b c := by
  obtain ⟨t0, t1, w0, w1, n0, n1, hd, hb, sh, ct, cl⟩ := I
  unfold sched_act.f
  rcases h with ⟨rfl, hC, h⟩ | ⟨j, hj, rfl, hne⟩
  · rw [if_pos rfl]
    exact ⟨_, _, _, _, _, _, _, rfl, .close hC h⟩
  · rw [getD_lt ld j 0 hj] at hne
    have hC : C = false := by
      cases C with
      | false => rfl
      | true => exact absurd (cl rfl _ (List.getElem_mem hj)) hne
    rw [if_neg (by omega), if_pos (by omega), show (j : Int) + 1 - 1 = (j : Int) by omega, rd_nat, getD_lt ld j 0 hj, Int.toNat_natCast]
    have hs := sh _ (List.getElem_mem hj)
    by_cases h0 : 0 ≤ ld[j]
    · obtain ⟨t, ht⟩ : ∃ t : Nat, ld[j] = (t : Int) := ⟨ld[j].toNat, by omega⟩
      have hN : (t : Int) < N := by omega
      have hl : t < lb.length := by omega
      have hf : lb[t] = false := by
        have := ct t (by omega)
        have h1 := count_pos_of hj ht
        rw [getD_lt lb t false hl] at this
        cases h2 : lb[t] with
        | false => rfl
        | true => rw [h2, if_pos rfl, if_pos hN] at this; omega
      rw [if_pos h0, ht, if_pos (by omega), Int.toNat_natCast]
      exact ⟨_, _, _, _, _, _, _, rfl, .finish j t hj ht hN hl hf hC⟩
    · have ht : ld[j] = -1 := by omega
      rw [if_neg h0]
      by_cases h1 : N < T
      · rw [if_pos h1, if_pos (by omega)]
        exact ⟨_, _, _, _, _, _, _, rfl, .take j hj ht h1 hC⟩
      · rw [if_neg h1]
        exact ⟨_, _, _, _, _, _, _, rfl, .stop j hj ht (by omega) hC⟩
theorem getD_set_eq {α : Type} (l : List α) (i : Nat) (x d : α) (h : i < l.length) : (l.set i x).getD i d = x := by simp [List.getD, h]
theorem getD_set_ne {α : Type} (l : List α) (i j : Nat) (x d : α) (h : i ≠ j) : (l.set i x).getD j d = l.getD j d := by simp [List.getD, List.getElem?_set_ne h]
theorem count_set' (l : List Int) (j : Nat) (hj : j < l.length) (x y : Int) : (l.set j x).count y + (if l[j] = y then 1 else 0) = l.count y + (if x = y then 1 else 0) := by
  rw [List.count_set hj]
  have h0 : l[j] = y → 1 ≤ l.count y := fun h => count_pos_of hj h
  simp only [beq_iff_eq]
  by_cases h1 : l[j] = y
  · have h3 := h0 h1
    rw [if_pos h1]
    by_cases h2 : x = y
    · rw [if_pos h2]; omega
    · rw [if_neg h2]; omega
  · rw [if_neg h1]
    omega
theorem move_inv {T W N : Int} {ld : List Int} {lb : List Bool} {C : Bool} (I : Inv T W N ld lb C) {who N' a b c : Int} {ld' : List Int} {lb' : List Bool} {C' : Bool} (h : Move T N ld lb C who N' ld' lb' C' a b c) : Inv T W N' ld' lb' C' ∧ left T N' ld' C' = left T N ld C - 1 := by
  obtain ⟨t0, t1, w0, w1, n0, n1, hd, hb, sh, ct, cl⟩ := I
  have wd : ∀ j, (hj : j < ld.length) → ld.getD j 0 = ld[j] := fun j hj => getD_lt ld j 0 hj
  cases h with
  | close hC h =>
    exact ⟨⟨t0, t1, w0, w1, n0, n1, hd, hb, sh, ct, fun _ => h⟩, by unfold left; rw [hC]; simp⟩
  | finish j t hj ht hN hl hf hC =>
    refine ⟨⟨t0, t1, w0, w1, n0, n1, by simpa using hd, by simpa using hb, ?_, ?_, fun h => by rw [hC] at h; cases h⟩, ?_⟩
    · intro x hx
      rcases List.mem_or_eq_of_mem_set hx with hx | rfl
      · exact sh x hx
      · exact .inl rfl
    · intro i hi
      have h1 := ct i hi
      have h2 := count_set' ld j hj (-1) (i : Int)
      rw [if_neg (show ¬ (-1 : Int) = (i : Int) by omega), ht] at h2
      by_cases h3 : t = i
      · subst h3
        rw [if_pos rfl] at h2
        rw [getD_lt lb t false hl, hf, if_neg (by decide)] at h1
        rw [getD_set_eq lb t true false hl, if_pos rfl]
        omega
      · rw [if_neg (show ¬ (t : Int) = (i : Int) by omega)] at h2
        rw [getD_set_ne lb t i true false h3]
        omega
    · unfold left
      rw [sumv_set ld j _ hj, wd j hj, ht]
      simp [wt]; omega
  | take j hj ht hN hC =>
    refine ⟨⟨t0, t1, w0, w1, by omega, by omega, by simpa using hd, hb, ?_, ?_, fun h => by rw [hC] at h; cases h⟩, ?_⟩
    · intro x hx
      rcases List.mem_or_eq_of_mem_set hx with hx | rfl
      · rcases sh x hx with h | h | h
        · exact .inl h
        · omega
        · exact .inr (.inr ⟨h.1, by omega⟩)
      · exact .inr (.inr ⟨n0, by omega⟩)
    · intro i hi
      have h1 := ct i hi
      have h2 := count_set' ld j hj N (i : Int)
      rw [if_neg (show ¬ ld[j] = (i : Int) by omega)] at h2
      by_cases h3 : N = (i : Int)
      · rw [if_pos h3] at h2
        rw [if_neg (show ¬ (i : Int) < N by omega)] at h1
        rw [if_pos (show (i : Int) < N + 1 by omega)]
        omega
      · rw [if_neg h3] at h2
        by_cases h4 : (i : Int) < N
        · rw [if_pos h4] at h1
          rw [if_pos (show (i : Int) < N + 1 by omega)]
          omega
        · rw [if_neg h4] at h1
          rw [if_neg (show ¬ (i : Int) < N + 1 by omega)]
          omega
    · unfold left
      rw [sumv_set ld j _ hj, wd j hj, ht]
      unfold wt
      rw [if_pos n0]
      simp; omega
  | stop j hj ht hN hC =>
    refine ⟨⟨t0, t1, w0, w1, n0, n1, by simpa using hd, hb, ?_, ?_, fun h => by rw [hC] at h; cases h⟩, ?_⟩
    · intro x hx
      rcases List.mem_or_eq_of_mem_set hx with hx | rfl
      · exact sh x hx
      · exact .inr (.inl ⟨rfl, hN⟩)
    · intro i hi
      have h1 := ct i hi
      have h2 := count_set' ld j hj (-2) (i : Int)
      rw [if_neg (show ¬ (-2 : Int) = (i : Int) by omega), if_neg (show ¬ ld[j] = (i : Int) by omega)] at h2
      omega
    · unfold left
      rw [sumv_set ld j _ hj, wd j hj, ht]
      simp [wt]; omega
/-- A run of acts to its end. -/
inductive Run (T W : Int) : Int → List Int → List Bool → Bool → List S52 → Int → List Int → List Bool → Bool → Prop
  | done {N ld lb C} (I : Inv T W N ld lb C) (h : (∀ t ∈ ld, t = -2) ∧ C = true) : Run T W N ld lb C [] N ld lb C
  | act {N ld lb C who N1 ld1 lb1 C1 a b c acts N2 ld2 lb2 C2} (I : Inv T W N ld lb C) (h : Move T N ld lb C who N1 ld1 lb1 C1 a b c) (r : Run T W N1 ld1 lb1 C1 acts N2 ld2 lb2 C2) : Run T W N ld lb C (⟨a, b, c⟩ :: acts) N2 ld2 lb2 C2
theorem left_nonneg {T W N : Int} {ld : List Int} {lb : List Bool} {C : Bool} (I : Inv T W N ld lb C) : 0 ≤ left T N ld C := by
  have := sumv_nonneg ld; have := I.n1
  unfold left
  split <;> omega
theorem end_left {T W N : Int} {ld : List Int} {lb : List Bool} {C : Bool} (I : Inv T W N ld lb C) (h : (∀ t ∈ ld, t = -2) ∧ C = true) : N = T ∧ left T N ld C = 0 := by
  have hN : N = T := by
    have h1 := I.hd; have h2 := I.w0
    have hm : ld[0]'(by omega) ∈ ld := List.getElem_mem _
    have h3 := I.sh _ hm
    have h4 := h.1 _ hm
    omega
  refine ⟨hN, ?_⟩
  unfold left
  rw [sumv_zero ld h.1, hN, if_pos h.2]; omega
theorem pick_mem (l : List Int) (hl : 0 < l.length) (s : List Int) (n : Nat) : rd l (sched_Play.pick s n l.length) ∈ l := by
  have go : ∀ i : Int, 0 ≤ i → i < (l.length : Int) → rd l i ∈ l := fun i h0 h1 => by
    unfold rd
    rw [getD_lt l i.toNat 0 (by omega)]
    exact List.getElem_mem _
  unfold sched_Play.pick
  split
  · exact go _ (Int.emod_nonneg _ (by omega)) (Int.emod_lt_of_pos _ (by omega))
  · exact go 0 (by omega) (by omega)
theorem play_l (T W : Int) (s : List Int) (K : Nat) (hK : 100 ≤ K) : ∀ (m : Nat) (out : List S52) (N : Int) (ld : List Int) (lb : List Bool) (C : Bool), Inv T W N ld lb C → left T N ld C < m → (out.length : Int) + left T N ld C < 5864062014805 → ∃ acts N2 ld2 lb2 C2, sched_Play.l0 m K out (readyL ld C) T W N ld lb C s = some (out ++ acts, N2, ld2, lb2, C2) ∧ Run T W N ld lb C acts N2 ld2 lb2 C2
  | 0, _, _, _, _, _, I, h, _ => absurd (left_nonneg I) (by omega)
  | m + 1, out, N, ld, lb, C, I, hm, ho => by
    rw [sched_Play.l0]
    by_cases h0 : 0 < (readyL ld C).length
    · rw [if_pos h0, if_pos (by have := left_nonneg I; omega)]
      obtain ⟨N1, ld1, lb1, C1, a, b, c, e1, hmv⟩ := move_of I (can_of (pick_mem _ h0 s out.length))
      obtain ⟨I1, hl1⟩ := move_inv I hmv
      have hd1 := I1.hd; have hw1 := I1.w1
      rw [e1, Option.bind_some, ready_f T W N1 ld1 lb1 C1 (by omega) K (by omega), Option.bind_some]
      obtain ⟨acts, N2, ld2, lb2, C2, e2, hr⟩ := play_l T W s K hK m (out ++ [⟨a, b, c⟩]) N1 ld1 lb1 C1 I1 (by omega) (by simp; omega)
      exact ⟨⟨a, b, c⟩ :: acts, N2, ld2, lb2, C2, by rw [e2, List.append_assoc]; rfl, .act I hmv hr⟩
    · rw [if_neg h0]
      have hn : readyL ld C = [] := List.eq_nil_of_length_eq_zero (by omega)
      exact ⟨[], N, ld, lb, C, by rw [List.append_nil], .done I ((ready_nil ld C).1 hn)⟩
theorem run_end {T W N : Int} {ld : List Int} {lb : List Bool} {C : Bool} {acts : List S52} {N2 : Int} {ld2 : List Int} {lb2 : List Bool} {C2 : Bool} (r : Run T W N ld lb C acts N2 ld2 lb2 C2) : Inv T W N2 ld2 lb2 C2 ∧ ((∀ t ∈ ld2, t = -2) ∧ C2 = true) ∧ (acts.length : Int) = left T N ld C := by
  induction r with
  | done I h => exact ⟨I, h, by rw [(end_left I h).2]; rfl⟩
  | act I h r ih =>
    obtain ⟨h1, h2, h3⟩ := ih
    have := (move_inv I h).2
    exact ⟨h1, h2, by rw [List.length_cons]; omega⟩
theorem inv_new (T W : Int) (t0 : 0 ≤ T) (t1 : T ≤ 1048576) (w0 : 1 ≤ W) (w1 : W ≤ 64) : Inv T W 0 (List.replicate W.toNat (-1)) (List.replicate T.toNat false) false := by
  refine ⟨t0, t1, w0, w1, Int.le_refl _, t0, by simp; omega, by simp; omega, ?_, ?_, fun h => by cases h⟩
  · intro t ht; exact .inl (List.eq_of_mem_replicate ht)
  · intro i hi
    rw [if_neg (show ¬ (i : Int) < 0 by omega), List.count_replicate, getD_lt _ _ _ (by simp; omega)]
    simp
theorem new_f (T W : Int) (t0 : 0 ≤ T) (t1 : T ≤ 1048576) (w0 : 1 ≤ W) (w1 : W ≤ 64) : sched_New.f T W = some (T, W, 0, List.replicate W.toNat (-1), List.replicate T.toNat false, false, 0) := by
  unfold sched_New.f sched_fits.f slices_Repeat_int_int.f
  rw [if_pos t0, if_pos t1, if_pos w0, Option.bind_some, decide_eq_true w1, if_pos rfl, if_pos ⟨rfl, by omega, by omega⟩, Option.bind_some, if_pos t0, if_pos (by omega)]
  rfl
theorem play_f (T W : Int) (s : List Int) (t0 : 0 ≤ T) (t1 : T ≤ 1048576) (w0 : 1 ≤ W) (w1 : W ≤ 64) (k : Nat) (hk : 3000000 ≤ k) : ∃ acts N2 ld2 lb2 C2, sched_Play.f k T W s = some (acts, T, W, N2, ld2, lb2, C2, 0) ∧ Run T W 0 (List.replicate W.toNat (-1)) (List.replicate T.toNat false) false acts N2 ld2 lb2 C2 ∧ left T 0 (List.replicate W.toNat (-1)) false = 2 * T + W + 1 := by
  have hl : left T 0 (List.replicate W.toNat (-1)) false = 2 * T + W + 1 := by
    unfold left
    rw [sumv_repl, if_neg (by decide)]; omega
  obtain ⟨acts, N2, ld2, lb2, C2, e, r⟩ := play_l T W s k (by omega) k [] 0 _ _ _ (inv_new T W t0 t1 w0 w1) (by omega) (by simp; omega)
  refine ⟨acts, N2, ld2, lb2, C2, ?_, r, hl⟩
  unfold sched_Play.f
  rw [new_f T W t0 t1 w0 w1, Option.bind_some, if_pos rfl, ready_f _ _ _ _ _ _ (by simp; omega) k (by simp; omega), Option.bind_some, e, Option.bind_some]
  rfl
theorem tmod_u8 (a : Int) (h : (Lit.int .u8 a).wf = true) : 0 ≤ a ∧ a ≤ 255 := by
  have h1 : (decide (0 ≤ a) && decide (a ≤ 255)) = true := h
  simpa using h1
theorem fixed_f (k : Nat) (hk : 40 ≤ k) : hornbeamlaw21_fixed.f k = some true := at_rounds (g := fun k => hornbeamlaw21_fixed.f k) hornbeamlaw21_fixed.mono hk (by decide +kernel)
theorem all_done {T W N : Int} {ld : List Int} {lb : List Bool} {C : Bool} (I : Inv T W N ld lb C) (h : (∀ t ∈ ld, t = -2) ∧ C = true) : ∀ i : Nat, i < lb.length → lb.getD i false = true := by
  intro i hi
  have h1 := I.ct i (by have := I.hb; omega)
  have h2 := (end_left I h).1
  have h3 : ld.count (i : Int) = 0 := List.count_eq_zero.2 (fun hm => by have := h.1 _ hm; omega)
  rw [h3, if_pos (show (i : Int) < N by have := I.hb; omega)] at h1
  by_cases hb : lb.getD i false = true
  · exact hb
  · rw [if_neg hb] at h1; omega
def b2i (b : Bool) : Int := if b = true then 1 else 0
theorem map_getD (lb : List Bool) (i : Nat) (h : i < lb.length) : (lb.map b2i).getD i 0 = b2i lb[i] := by simp [List.getD, h]
theorem once_l2 (n w taken ends : Int) (he : ends = w) (ht : taken = n) (x : List Int) (hl : x.length ≤ 1048576) (ha : ∀ i : Nat, i < x.length → x.getD i 0 = 1) : ∀ (m i k : Nat), i + m = x.length → m + 41 < k → hornbeamlaw21_SchedOnce.l2 k n w taken ends x (x.length : Int) (i : Int) = some true
  | 0, i, k + 1, h, hk => by
    rw [hornbeamlaw21_SchedOnce.l2, if_neg (by omega), fixed_f k (by omega), Option.bind_some, if_pos rfl, if_pos he, ht]
    simp
  | m + 1, i, k + 1, h, hk => by
    rw [hornbeamlaw21_SchedOnce.l2, if_pos (by omega), if_pos (by omega), if_pos (by omega), rd_nat, ha i (by omega), if_pos rfl, wrapS i (by omega)]
    exact once_l2 n w taken ends he ht x hl ha m (i + 1) k (by omega) (by omega)
theorem rd_at (pre acts : List S52) (x : S52) : rd_T52 (pre ++ x :: acts) (pre.length : Int) = x := by
  unfold rd_T52
  rw [Int.toNat_natCast]
  simp [List.getD]
theorem rd_who (ld : List Int) (j : Nat) (hj : j < ld.length) : rd (-1 :: ld) ((j : Int) + 1) = ld[j] := by
  rw [show (j : Int) + 1 = ((j + 1 : Nat) : Int) by omega, rd_nat, List.getD_cons_succ, getD_lt ld j 0 hj]
theorem set_who (ld : List Int) (j : Nat) (x : Int) : (-1 :: ld).set ((j : Int) + 1).toNat x = -1 :: ld.set j x := by
  rw [show ((j : Int) + 1).toNat = j + 1 by omega, List.set_cons_succ]
theorem count_all {W : Int} {ld : List Int} (h : ∀ t ∈ ld, t = -2) (hd : (ld.length : Int) = W) : (ld.count (-2) : Int) = W := by
  rw [List.count_eq_length.2 (fun t ht => (h t ht).symm)]; exact hd
theorem once_l1 {T W N : Int} {ld : List Int} {lb : List Bool} {C : Bool} {acts : List S52} {N2 : Int} {ld2 : List Int} {lb2 : List Bool} {C2 : Bool} (r : Run T W N ld lb C acts N2 ld2 lb2 C2) : ∀ (pre : List S52) (k : Nat), (pre ++ acts).length ≤ 1048576 → 2 * acts.length + lb.length + 60 < k → hornbeamlaw21_SchedOnce.l1 k T W (pre ++ acts) (-1 :: ld) N (lb.map b2i) (ld.count (-2) : Int) (pre ++ acts) ((pre ++ acts).length : Int) (pre.length : Int) = some true := by
  induction r with
  | @done N ld lb C I h =>
    intro pre k hp hk
    obtain ⟨k, rfl⟩ : ∃ q, k = q + 1 := ⟨k - 1, by omega⟩
    rw [hornbeamlaw21_SchedOnce.l1, if_neg (by simp)]
    have hb := I.hb; have ht1 := I.t1
    refine once_l2 T W N _ (count_all h.1 I.hd) (end_left I h).1 _ (by simp; omega) (fun i hi => ?_) (lb.map b2i).length 0 k (by omega) (by simp at hk ⊢; omega)
    have hi' : i < lb.length := by simpa using hi
    rw [map_getD lb i hi']
    have := all_done I h i hi'
    rw [getD_lt lb i false hi'] at this
    rw [this]; rfl
  | @act N ld lb C who N1 ld1 lb1 C1 a b c acts N2 ld2 lb2 C2 I h r ih =>
    intro pre k hp hk
    obtain ⟨k, rfl⟩ : ∃ q, k = q + 2 := ⟨k - 2, by omega⟩
    have e1 : pre ++ ⟨a, b, c⟩ :: acts = (pre ++ [⟨a, b, c⟩]) ++ acts := by rw [List.append_assoc]; rfl
    have hlen : (pre ++ (⟨a, b, c⟩ : S52) :: acts).length = pre.length + acts.length + 1 := by simp; omega
    have hd := I.hd; have hb := I.hb; have ht1 := I.t1; have hw1 := I.w1; have hn0 := I.n0; have hn1 := I.n1
    have next : ∀ x12 x14 x15 x16, x12 = -1 :: ld1 → x14 = N1 → x15 = lb1.map b2i → x16 = (ld1.count (-2) : Int) → lb1.length = lb.length → hornbeamlaw21_SchedOnce.l1 k T W (pre ++ ⟨a, b, c⟩ :: acts) x12 x14 x15 x16 (pre ++ ⟨a, b, c⟩ :: acts) ((pre ++ (⟨a, b, c⟩ : S52) :: acts).length : Int) (wrap64 ((pre.length : Int) + 1)) = some true := by
      intro x12 x14 x15 x16 h1 h2 h3 h4 h5
      subst h1 h2 h3 h4
      have := ih (pre ++ [⟨a, b, c⟩]) k (by rw [← e1]; exact hp) (by rw [List.length_cons] at hk; omega)
      rw [← e1] at this
      rw [wrapS pre.length (by omega)]
      simpa using this
    rw [hornbeamlaw21_SchedOnce.l1, if_pos (by omega), if_pos (by omega), if_pos (by omega), rd_at]
    dsimp only
    have hr : ∀ (hh : 0 ≤ a ∧ a ≤ W) (v : Option Bool), (∀ q, q = hornbeamlaw21_SchedOnce.j2 (k + 1) T W (pre ++ ⟨a, b, c⟩ :: acts) (-1 :: ld) N (lb.map b2i) (ld.count (-2) : Int) (pre.length : Int) (pre ++ ⟨a, b, c⟩ :: acts) ((pre ++ (⟨a, b, c⟩ : S52) :: acts).length : Int) (pre.length : Int) false a b c → q = v) → (if a < 0 then hornbeamlaw21_SchedOnce.j2 (k + 1) T W (pre ++ ⟨a, b, c⟩ :: acts) (-1 :: ld) N (lb.map b2i) (ld.count (-2) : Int) (pre.length : Int) (pre ++ ⟨a, b, c⟩ :: acts) ((pre ++ (⟨a, b, c⟩ : S52) :: acts).length : Int) (pre.length : Int) true a b c else hornbeamlaw21_SchedOnce.j2 (k + 1) T W (pre ++ ⟨a, b, c⟩ :: acts) (-1 :: ld) N (lb.map b2i) (ld.count (-2) : Int) (pre.length : Int) (pre ++ ⟨a, b, c⟩ :: acts) ((pre ++ (⟨a, b, c⟩ : S52) :: acts).length : Int) (pre.length : Int) (decide (a > W)) a b c) = v := by
      intro hh v hv
      rw [if_neg (by omega), decide_eq_false (by omega)]
      exact hv _ rfl
    cases h with
    | close hC h =>
      refine hr ⟨by omega, by omega⟩ _ (fun q hq => ?_)
      rw [hq, hornbeamlaw21_SchedOnce.j2, if_neg (by decide), if_neg (by decide), if_neg (by decide), if_neg (by decide), if_pos rfl, if_pos rfl]
      have hnil : acts = [] := by
        cases r with
        | done => rfl
        | act I2 h2 r2 => cases h2 <;> exact absurd (show true = false by assumption) (by decide)
      subst hnil
      rw [if_pos (by rw [wrap64_id (by omega) (by omega), hlen]; simp), if_pos (count_all h hd)]
      exact next _ _ _ _ rfl rfl rfl rfl rfl
    | finish j t hj ht hN hbl hf hC =>
      refine hr ⟨by omega, by omega⟩ _ (fun q hq => ?_)
      rw [hq, hornbeamlaw21_SchedOnce.j2, if_neg (by decide), if_neg (by decide), if_pos rfl, if_neg (by omega), if_neg (by omega), if_neg (by omega), if_pos (by omega), if_pos (by simp; omega), rd_who ld j hj, if_pos ht, if_pos (by omega), if_pos (by simp; omega), set_who, rd_nat, map_getD lb t hbl, hf, Int.toNat_natCast]
      refine next _ _ _ _ rfl rfl ?_ ?_ (by simp)
      · rw [List.map_set, show wrap64 (b2i false + 1) = b2i true from wrap64_id (n := b2i false + 1) (by decide) (by decide)]
      · have := count_set' ld j hj (-1) (-2)
        rw [ht, if_neg (by omega), if_neg (by decide)] at this
        omega
    | take j hj ht hN hC =>
      refine hr ⟨by omega, by omega⟩ _ (fun q hq => ?_)
      rw [hq, hornbeamlaw21_SchedOnce.j2, if_neg (by decide), if_pos rfl, if_neg (by omega), if_pos (by omega), if_pos (by simp; omega), rd_who ld j hj, if_pos ht, if_pos rfl, if_neg (by omega), set_who]
      refine next _ _ _ _ rfl (wrap64_id (by omega) (by omega)) rfl ?_ rfl
      have := count_set' ld j hj N (-2)
      rw [ht, if_neg (by omega), if_neg (by omega)] at this
      omega
    | stop j hj ht hN hC =>
      refine hr ⟨by omega, by omega⟩ _ (fun q hq => ?_)
      rw [hq, hornbeamlaw21_SchedOnce.j2, if_neg (by decide), if_neg (by decide), if_neg (by decide), if_pos rfl, if_neg (by omega), if_pos (by omega), if_pos (by simp; omega), rd_who ld j hj, if_pos ht, if_pos hN, set_who]
      have := count_set' ld j hj (-2) (-2)
      rw [ht, if_neg (by omega), if_pos rfl] at this
      have hc : ld.count (-2) ≤ ld.length := List.count_le_length
      refine next _ _ _ _ rfl rfl rfl ?_ rfl
      rw [wrap64_id (by omega) (by omega)]
      omega
theorem once_l0 (n w : Int) (acts : List S52) (t0 : 0 ≤ n) (t1 : n ≤ 1048576) (v : Option Bool) (M : Nat) (hM : M ≤ 1048576) : ∀ (m i k : Nat), i + m = M → (∀ q, k = q + m + 1 → hornbeamlaw21_SchedOnce.l1 q n w acts (List.replicate M (-1)) 0 (List.replicate n.toNat 0) 0 acts (acts.length : Int) 0 = v) → m < k → hornbeamlaw21_SchedOnce.l0 k n w acts (List.replicate i (-1) ++ List.replicate m 0) (M : Int) (i : Int) = v
  | 0, i, k + 1, h, hv, hk => by
    rw [hornbeamlaw21_SchedOnce.l0, if_neg (by omega), if_pos t0, if_pos (by omega), ← hv k rfl]
    rw [show i = M by omega]
    simp
  | m + 1, i, k + 1, h, hv, hk => by
    rw [hornbeamlaw21_SchedOnce.l0, if_pos (by omega), if_pos (by omega), if_pos (by simp; omega), wrapS i (by omega), Int.toNat_natCast]
    have e : (List.replicate i (-1) ++ List.replicate (m + 1) (0 : Int)).set i (-1) = List.replicate (i + 1) (-1) ++ List.replicate m 0 := by
      rw [List.set_append_right _ _ (by simp), List.length_replicate, Nat.sub_self, List.replicate_succ (n := m), List.set_cons_zero, List.replicate_succ' (n := i), List.append_assoc]; rfl
    rw [e]
    exact once_l0 n w acts t0 t1 v M hM m (i + 1) k (by omega) (fun q hq => hv q (by omega)) (by omega)
end SchedOnce0
open SchedOnce0
theorem SchedOnce : hornbeamlaw21_SchedOnce.Pure := by
  intro a0 a1 l2 w0 w1 _ _ _
  obtain ⟨k, hk⟩ : ∃ k : Nat, 3000000 ≤ k := ⟨_, Nat.le_refl _⟩
  refine ⟨k, ?_⟩
  have h0 := tmod_u8 a0 w0
  have h1 := tmod_u8 a1 w1
  have eT : wrap64 a0 = a0 := wrap64_id (by omega) (by omega)
  have eW : wrap64 (1 + wrap64 (Int.tmod a1 64)) = 1 + a1 % 64 := by
    rw [Int.tmod_eq_emod_of_nonneg h1.1, wrap64_id (n := a1 % 64) (by omega) (by omega), wrap64_id (by omega) (by omega)]
  obtain ⟨W, hW⟩ : ∃ W, 1 + a1 % 64 = W := ⟨_, rfl⟩
  have hW0 : 1 ≤ W := by omega
  have hW1 : W ≤ 64 := by omega
  obtain ⟨acts, N2, ld2, lb2, C2, e, r, hl⟩ := play_f a0 W l2 (by omega) (by omega) hW0 hW1 k (by omega)
  obtain ⟨I, hE, hc⟩ := run_end r
  unfold hornbeamlaw21_SchedOnce.f
  by_cases h2 : (l2.length : Int) > 2000
  · rw [if_pos h2, fixed_f _ (by omega)]; rfl
  · rw [if_neg h2, eT, eW, hW, e, Option.bind_some]
    dsimp only
    rw [if_pos rfl, wrap64_id (n := W + 1) (by omega) (by omega), if_pos (by omega), if_pos (by omega), Option.bind_some]
    obtain ⟨w, rfl⟩ : ∃ w : Nat, W = (w : Int) := ⟨W.toNat, by omega⟩
    have el : ((List.replicate ((w : Int) + 1).toNat (0 : Int)).length : Int) = ((w + 1 : Nat) : Int) := by simp
    rw [el, show ((w : Int) + 1).toNat = w + 1 by omega]
    refine once_l0 a0 (w : Int) acts (by omega) (by omega) (some true) (w + 1) (by omega) (w + 1) 0 k (by omega) (fun q hq => ?_) (by omega)
    have := once_l1 r [] q (by simp; omega) (by simp; omega)
    rw [Int.toNat_natCast, List.map_replicate, List.count_replicate] at this
    exact this
end Go.Proofs.Ytoonddgldmfleaa.Pure
