/- The law SchedKeeps answers true. No condition. -/
import Derived.Test.YtoonddgldmfleaaQSchedKeepsx7
import Derived.Test.YtoonddgldmfleaaP64
namespace Go.Proofs.Ytoonddgldmfleaa.Pure
open Go.RowKit Go.Proofs.Ytoonddgldmfleaa.QSchedKeeps Go.Proofs.YtoonddgldmfleaaW.PrintWords Go.Proofs.YtoonddgldmfleaaW.PrintLast
open Go.Proofs.Ytoonddgldmfleaa.P64
namespace SchedKeeps0
theorem rd_nat (l : List Int) (i : Nat) : rd l (i : Int) = l.getD i 0 := rfl
theorem getD_lt {α : Type} (l : List α) (i : Nat) (d : α) (h : i < l.length) : l.getD i d = l[i] := by simp [List.getD, List.getElem?_eq_getElem h]
theorem wrapS (i : Nat) (h : i ≤ 17592186044416) : wrap64 ((i : Int) + 1) = ((i + 1 : Nat) : Int) := by rw [wrap64_id (by omega) (by omega)]; omega
theorem index_l (l : List Int) (hl : l.length ≤ 1048576) : ∀ (m i k : Nat), i + m = l.length → m < k → ∃ r, slices_IndexFunc_int_int.l0 k l (l.length : Int) (i : Int) = some r ∧ (0 ≤ r ↔ ∃ t ∈ l.drop i, t ≠ -2)
  | 0, i, k + 1, h, _ => by
    rw [slices_IndexFunc_int_int.l0, if_neg (by omega)]
    refine ⟨-1, rfl, ?_⟩
    rw [List.drop_eq_nil_of_le (by omega)]
    simp
  | m + 1, i, k + 1, h, hk => by
    rw [slices_IndexFunc_int_int.l0, if_pos (by omega), if_pos (by omega), if_pos (by omega), rd_nat, getD_lt l i 0 (by omega), wrapS i (by omega), List.drop_eq_getElem_cons (by omega : i < l.length)]
    unfold sched_over_1.f
    rw [Option.bind_some]
    by_cases h0 : l[i] = -2
    · rw [h0, if_neg (by decide)]
      obtain ⟨r, e, hr⟩ := index_l l hl m (i + 1) k (by omega) (by omega)
      exact ⟨r, e, by rw [hr]; simp⟩
    · rw [if_pos (bne_iff_ne.2 h0)]
      exact ⟨_, rfl, ⟨fun _ => ⟨l[i], List.mem_cons_self, h0⟩, fun _ => by omega⟩⟩
theorem over_f (T W N : Int) (ld : List Int) (lb : List Bool) (C : Bool) (hl : ld.length ≤ 1048576) (k : Nat) (hk : ld.length < k) : sched_over.f k T W N ld lb C = some (decide (∀ t ∈ ld, t = -2)) := by
  obtain ⟨r, e, hr⟩ := index_l ld hl ld.length 0 k (by omega) hk
  unfold sched_over.f slices_ContainsFunc_int_int.f slices_IndexFunc_int_int.f
  rw [show (0 : Int) = ((0 : Nat) : Int) from rfl, e, Option.bind_some, Option.bind_some]
  congr 1
  rw [List.drop_zero] at hr
  by_cases h : ∃ t ∈ ld, t ≠ -2
  · rw [decide_eq_true (show r ≥ ((0 : Nat) : Int) from hr.2 h), decide_eq_false (fun hh => by obtain ⟨t, ht, hn⟩ := h; exact hn (hh t ht))]; rfl
  · rw [decide_eq_false (show ¬ r ≥ ((0 : Nat) : Int) from fun hh => h (hr.1 hh)), decide_eq_true (fun t ht => Classical.byContradiction fun hn => h ⟨t, ht, hn⟩)]; rfl
/-- Those who have not ended, from the i-th on. -/
def live : List Int → Nat → List Int
  | [], _ => []
  | t :: r, i => if t = -2 then live r (i + 1) else ((i + 1 : Nat) : Int) :: live r (i + 1)
theorem live_length : ∀ (l : List Int) (i : Nat), (live l i).length ≤ l.length
  | [], _ => by simp [live]
  | t :: r, i => by
    have := live_length r (i + 1)
    rw [live]
    split <;> simp <;> omega
theorem live_nil : ∀ (l : List Int) (i : Nat), live l i = [] ↔ ∀ t ∈ l, t = -2
  | [], _ => by simp [live]
  | t :: r, i => by
    rw [live]
    by_cases h : t = -2
    · rw [if_pos h, live_nil r (i + 1)]; simp [h]
    · rw [if_neg h]; simp [h]
theorem mem_live : ∀ (l : List Int) (i : Nat) (x : Int), x ∈ live l i → ∃ j : Nat, j < l.length ∧ x = ((i + j + 1 : Nat) : Int) ∧ l.getD j 0 ≠ -2
  | [], _, x, h => by simp [live] at h
  | t :: r, i, x, h => by
    have ih := mem_live r (i + 1) x
    have go : x ∈ live r (i + 1) → ∃ j : Nat, j < (t :: r).length ∧ x = ((i + j + 1 : Nat) : Int) ∧ (t :: r).getD j 0 ≠ -2 := fun h => by
      obtain ⟨j, h1, h2, h3⟩ := ih h
      exact ⟨j + 1, by simp; omega, by rw [h2]; congr 1; omega, by simpa using h3⟩
    rw [live] at h
    by_cases h0 : t = -2
    · rw [if_pos h0] at h; exact go h
    · rw [if_neg h0] at h
      rcases List.mem_cons.1 h with rfl | h
      · exact ⟨0, by simp, by simp, by simpa using h0⟩
      · exact go h
theorem ready_l (l : List Int) (hl : l.length ≤ 1048576) : ∀ (m i k : Nat) (out : List Int), i + m = l.length → m < k → out.length + m < 17592186044416 → sched_ready.l0 k out l (l.length : Int) (i : Int) = some (out ++ live (l.drop i) i)
  | 0, i, k + 1, out, h, _, _ => by
    rw [sched_ready.l0, if_neg (by omega), List.drop_eq_nil_of_le (by omega)]
    simp [live]
  | m + 1, i, k + 1, out, h, hk, ho => by
    rw [sched_ready.l0, if_pos (by omega), if_pos (by omega), if_pos (by omega), rd_nat, getD_lt l i 0 (by omega), wrapS i (by omega), List.drop_eq_getElem_cons (by omega : i < l.length), live]
    by_cases h0 : l[i] = -2
    · rw [if_pos h0, if_pos h0]
      exact ready_l l hl m (i + 1) k out (by omega) (by omega) (by omega)
    · rw [if_neg h0, if_neg h0, if_pos (by omega), ready_l l hl m (i + 1) k _ (by omega) (by omega) (by simp; omega)]
      simp
def readyL (ld : List Int) (C : Bool) : List Int := (if (∀ t ∈ ld, t = -2) ∧ C = false then [0] else []) ++ live ld 0
theorem ready_f (T W N : Int) (ld : List Int) (lb : List Bool) (C : Bool) (hl : ld.length ≤ 1048576) (k : Nat) (hk : ld.length + 3 < k) : sched_ready.f k T W N ld lb C = some (readyL ld C) := by
  obtain ⟨k, rfl⟩ : ∃ m, k = m + 2 := ⟨k - 2, by omega⟩
  have go : ∀ out : List Int, out.length ≤ 1 → sched_ready.l0 k out ld (ld.length : Int) 0 = some (out ++ live ld 0) := fun out ho => ready_l ld hl ld.length 0 k out (by omega) (by omega) (by omega)
  unfold sched_ready.f readyL
  rw [over_f T W N ld lb C hl _ (by omega), Option.bind_some]
  by_cases h : ∀ t ∈ ld, t = -2
  · rw [decide_eq_true h, if_pos rfl, sched_ready.j0]
    cases C with
    | true => rw [if_neg (by decide), if_neg (by simp), sched_ready.j1, go [] (by simp)]
    | false => rw [if_pos (by decide), if_pos (by simp), sched_ready.j1, if_pos ⟨h, rfl⟩, go _ (by simp)]; rfl
  · rw [decide_eq_false h, if_neg (by decide), if_neg (fun hh => h hh.1), sched_ready.j0, if_neg (by decide), sched_ready.j1, go [] (by simp)]
/-- Who may act. -/
def Can (ld : List Int) (C : Bool) (who : Int) : Prop := (who = 0 ∧ C = false ∧ ∀ t ∈ ld, t = -2) ∨ ∃ j : Nat, j < ld.length ∧ who = (j : Int) + 1 ∧ ld.getD j 0 ≠ -2
theorem can_of {ld : List Int} {C : Bool} {x : Int} (h : x ∈ readyL ld C) : Can ld C x := by
  unfold readyL at h
  rcases List.mem_append.1 h with h | h
  · by_cases h0 : (∀ t ∈ ld, t = -2) ∧ C = false
    · rw [if_pos h0] at h
      exact .inl ⟨by simpa using h, h0.2, h0.1⟩
    · rw [if_neg h0] at h; simp at h
  · obtain ⟨j, h1, h2, h3⟩ := mem_live ld 0 x h
    exact .inr ⟨j, h1, by rw [h2]; omega, h3⟩
theorem ready_nil (ld : List Int) (C : Bool) : readyL ld C = [] ↔ (∀ t ∈ ld, t = -2) ∧ C = true := by
  unfold readyL
  rw [List.append_eq_nil_iff, live_nil]
  cases C with
  | true => simp
  | false =>
    constructor
    · rintro ⟨h1, h2⟩
      rw [if_pos ⟨h2, rfl⟩] at h1
      simp at h1
    · rintro ⟨_, h⟩; cases h
/-- How many acts a worker is far from its end. -/
def wt (t : Int) : Int := if 0 ≤ t then 2 else if t = -1 then 1 else 0
def sumv : List Int → Int
  | [] => 0
  | t :: r => wt t + sumv r
theorem wt_nonneg (t : Int) : 0 ≤ wt t := by unfold wt; split <;> (try split) <;> omega
theorem sumv_nonneg : ∀ l : List Int, 0 ≤ sumv l
  | [] => Int.le_refl _
  | t :: r => by have := wt_nonneg t; have := sumv_nonneg r; rw [sumv]; omega
theorem sumv_set : ∀ (l : List Int) (j : Nat) (x : Int), j < l.length → sumv (l.set j x) = sumv l - wt (l.getD j 0) + wt x
  | [], _, _, h => by simp at h
  | t :: r, 0, x, _ => by simp [sumv]; omega
  | t :: r, j + 1, x, h => by
    have := sumv_set r j x (by simpa using h)
    simp [sumv] at this ⊢
    omega
theorem sumv_zero : ∀ (l : List Int), (∀ t ∈ l, t = -2) → sumv l = 0
  | [], _ => rfl
  | t :: r, h => by
    rw [sumv, sumv_zero r (fun t ht => h t (List.mem_cons_of_mem _ ht)), h t List.mem_cons_self]; rfl
theorem sumv_repl : ∀ n : Nat, sumv (List.replicate n (-1)) = n
  | 0 => rfl
  | n + 1 => by rw [List.replicate_succ, sumv, sumv_repl n]; simp [wt]; omega
def left (T N : Int) (ld : List Int) (C : Bool) : Int := 2 * (T - N) + sumv ld + (if C = true then 0 else 1)
/-- A state that may be. -/
structure Inv (T W N : Int) (ld : List Int) (lb : List Bool) (C : Bool) : Prop where
  t0 : 0 ≤ T
  t1 : T ≤ 1048576
  w0 : 1 ≤ W
  w1 : W ≤ 64
  n0 : 0 ≤ N
  n1 : N ≤ T
  hd : (ld.length : Int) = W
  hb : (lb.length : Int) = T
  sh : ∀ t ∈ ld, t = -1 ∨ (t = -2 ∧ N = T) ∨ (0 ≤ t ∧ t < N)
  ct : ∀ i : Nat, (i : Int) < T → (if lb.getD i false = true then 1 else 0) + ld.count (i : Int) = if (i : Int) < N then 1 else 0
  cl : C = true → ∀ t ∈ ld, t = -2
/-- What an act is. -/
inductive Move (T N : Int) (ld : List Int) (lb : List Bool) (C : Bool) : Int → Int → List Int → List Bool → Bool → Int → Int → Int → Prop
  | close (hC : C = false) (h : ∀ t ∈ ld, t = -2) : Move T N ld lb C 0 N ld lb true 0 4 (-1)
  | finish (j t : Nat) (hj : j < ld.length) (ht : ld[j] = (t : Int)) (hN : (t : Int) < N) (hb : t < lb.length) (hf : lb[t] = false) (hC : C = false) : Move T N ld lb C ((j : Int) + 1) N (ld.set j (-1)) (lb.set t true) C ((j : Int) + 1) 2 t
  | take (j : Nat) (hj : j < ld.length) (ht : ld[j] = -1) (hN : N < T) (hC : C = false) : Move T N ld lb C ((j : Int) + 1) (N + 1) (ld.set j N) lb C ((j : Int) + 1) 1 N
  | stop (j : Nat) (hj : j < ld.length) (ht : ld[j] = -1) (hN : N = T) (hC : C = false) : Move T N ld lb C ((j : Int) + 1) N (ld.set j (-2)) lb C ((j : Int) + 1) 3 (-1)
theorem count_pos_of {l : List Int} {j : Nat} (hj : j < l.length) {x : Int} (h : l[j] = x) : 1 ≤ l.count x := List.count_pos_iff.2 (h ▸ List.getElem_mem hj)
theorem move_of {T W N : Int} {ld : List Int} {lb : List Bool} {C : Bool} (I : Inv T W N ld lb C) {who : Int} (h : Can ld C who) : ∃ N' ld' lb' C' a b c, sched_act.f T W N ld lb C who = some (N', ld', lb', C', a, b, c) ∧ Move T N ld lb C who N' ld' lb' C' a b c := by
  obtain ⟨t0, t1, w0, w1, n0, n1, hd, hb, sh, ct, cl⟩ := I
  unfold sched_act.f
  rcases h with ⟨rfl, hC, h⟩ | ⟨j, hj, rfl, hne⟩
  · rw [if_pos rfl]
    exact ⟨_, _, _, _, _, _, _, rfl, .close hC h⟩
  · rw [getD_lt ld j 0 hj] at hne
    have hC : C = false := by
      cases C with
      | false => rfl
      | true => exact absurd (cl rfl _ (List.getElem_mem hj)) hne
    rw [if_neg (by omega), if_pos (by omega), show (j : Int) + 1 - 1 = (j : Int) by omega, rd_nat, getD_lt ld j 0 hj, Int.toNat_natCast]
    have hs := sh _ (List.getElem_mem hj)
    by_cases h0 : 0 ≤ ld[j]
    · obtain ⟨t, ht⟩ : ∃ t : Nat, ld[j] = (t : Int) := ⟨ld[j].toNat, by omega⟩
      have hN : (t : Int) < N := by omega
      have hl : t < lb.length := by omega
      have hf : lb[t] = false := by
        have := ct t (by omega)
        have h1 := count_pos_of hj ht
        rw [getD_lt lb t false hl] at this
        cases h2 : lb[t] with
        | false => rfl
        | true => rw [h2, if_pos rfl, if_pos hN] at this; omega
      rw [if_pos h0, ht, if_pos (by omega), Int.toNat_natCast]
      exact ⟨_, _, _, _, _, _, _, rfl, .finish j t hj ht hN hl hf hC⟩
    · have ht : ld[j] = -1 := by omega
      rw [if_neg h0]
      by_cases h1 : N < T
      · rw [if_pos h1, if_pos (by omega)]
        exact ⟨_, _, _, _, _, _, _, rfl, .take j hj ht h1 hC⟩
      · rw [if_neg h1]
        exact ⟨_, _, _, _, _, _, _, rfl, .stop j hj ht (by omega) hC⟩
theorem getD_set_eq {α : Type} (l : List α) (i : Nat) (x d : α) (h : i < l.length) : (l.set i x).getD i d = x := by simp [List.getD, h]
theorem getD_set_ne {α : Type} (l : List α) (i j : Nat) (x d : α) (h : i ≠ j) : (l.set i x).getD j d = l.getD j d := by simp [List.getD, List.getElem?_set_ne h]
theorem count_set' (l : List Int) (j : Nat) (hj : j < l.length) (x y : Int) : (l.set j x).count y + (if l[j] = y then 1 else 0) = l.count y + (if x = y then 1 else 0) := by
  rw [List.count_set hj]
  have h0 : l[j] = y → 1 ≤ l.count y := fun h => count_pos_of hj h
  simp only [beq_iff_eq]
  by_cases h1 : l[j] = y
  · have h3 := h0 h1
    rw [if_pos h1]
    by_cases h2 : x = y
    · rw [if_pos h2]; omega
    · rw [if_neg h2]; omega
  · rw [if_neg h1]
    omega
theorem move_inv {T W N : Int} {ld : List Int} {lb : List Bool} {C : Bool} (I : Inv T W N ld lb C) {who N' a b c : Int} {ld' : List Int} {lb' : List Bool} {C' : Bool} (h : Move T N ld lb C who N' ld' lb' C' a b c) : Inv T W N' ld' lb' C' ∧ left T N' ld' C' = left T N ld C - 1 := by
  obtain ⟨t0, t1, w0, w1, n0, n1, hd, hb, sh, ct, cl⟩ := I
  have wd : ∀ j, (hj : j < ld.length) → ld.getD j 0 = ld[j] := fun j hj => getD_lt ld j 0 hj
  cases h with
  | close hC h =>
    exact ⟨⟨t0, t1, w0, w1, n0, n1, hd, hb, sh, ct, fun _ => h⟩, by unfold left; rw [hC]; simp⟩
  | finish j t hj ht hN hl hf hC =>
    refine ⟨⟨t0, t1, w0, w1, n0, n1, by simpa using hd, by simpa using hb, ?_, ?_, fun h => by rw [hC] at h; cases h⟩, ?_⟩
    · intro x hx
      rcases List.mem_or_eq_of_mem_set hx with hx | rfl
      · exact sh x hx
      · exact .inl rfl
    · intro i hi
      have h1 := ct i hi
      have h2 := count_set' ld j hj (-1) (i : Int)
      rw [if_neg (show ¬ (-1 : Int) = (i : Int) by omega), ht] at h2
      by_cases h3 : t = i
      · subst h3
        rw [if_pos rfl] at h2
        rw [getD_lt lb t false hl, hf, if_neg (by decide)] at h1
        rw [getD_set_eq lb t true false hl, if_pos rfl]
        omega
      · rw [if_neg (show ¬ (t : Int) = (i : Int) by omega)] at h2
        rw [getD_set_ne lb t i true false h3]
        omega
    · unfold left
      rw [sumv_set ld j _ hj, wd j hj, ht]
      simp [wt]; omega
  | take j hj ht hN hC =>
    refine ⟨⟨t0, t1, w0, w1, by omega, by omega, by simpa using hd, hb, ?_, ?_, fun h => by rw [hC] at h; cases h⟩, ?_⟩
    · intro x hx
      rcases List.mem_or_eq_of_mem_set hx with hx | rfl
      · rcases sh x hx with h | h | h
        · exact .inl h
        · omega
        · exact .inr (.inr ⟨h.1, by omega⟩)
      · exact .inr (.inr ⟨n0, by omega⟩)
    · intro i hi
      have h1 := ct i hi
      have h2 := count_set' ld j hj N (i : Int)
      rw [if_neg (show ¬ ld[j] = (i : Int) by omega)] at h2
      by_cases h3 : N = (i : Int)
      · rw [if_pos h3] at h2
        rw [if_neg (show ¬ (i : Int) < N by omega)] at h1
        rw [if_pos (show (i : Int) < N + 1 by omega)]
        omega
      · rw [if_neg h3] at h2
        by_cases h4 : (i : Int) < N
        · rw [if_pos h4] at h1
          rw [if_pos (show (i : Int) < N + 1 by omega)]
          omega
        · rw [if_neg h4] at h1
          rw [if_neg (show ¬ (i : Int) < N + 1 by omega)]
          omega
    · unfold left
      rw [sumv_set ld j _ hj, wd j hj, ht]
      unfold wt
      rw [if_pos n0]
      simp; omega
  | stop j hj ht hN hC =>
    refine ⟨⟨t0, t1, w0, w1, n0, n1, by simpa using hd, hb, ?_, ?_, fun h => by rw [hC] at h; cases h⟩, ?_⟩
    · intro x hx
      rcases List.mem_or_eq_of_mem_set hx with hx | rfl
      · exact sh x hx
      · exact .inr (.inl ⟨rfl, hN⟩)
    · intro i hi
      have h1 := ct i hi
      have h2 := count_set' ld j hj (-2) (i : Int)
      rw [if_neg (show ¬ (-2 : Int) = (i : Int) by omega), if_neg (show ¬ ld[j] = (i : Int) by omega)] at h2
      omega
    · unfold left
      rw [sumv_set ld j _ hj, wd j hj, ht]
      simp [wt]; omega
/-- A run of acts to its end. -/
inductive Run (T W : Int) : Int → List Int → List Bool → Bool → List S52 → Int → List Int → List Bool → Bool → Prop
  | done {N ld lb C} (I : Inv T W N ld lb C) (h : (∀ t ∈ ld, t = -2) ∧ C = true) : Run T W N ld lb C [] N ld lb C
  | act {N ld lb C who N1 ld1 lb1 C1 a b c acts N2 ld2 lb2 C2} (I : Inv T W N ld lb C) (h : Move T N ld lb C who N1 ld1 lb1 C1 a b c) (r : Run T W N1 ld1 lb1 C1 acts N2 ld2 lb2 C2) : Run T W N ld lb C (⟨a, b, c⟩ :: acts) N2 ld2 lb2 C2
theorem left_nonneg {T W N : Int} {ld : List Int} {lb : List Bool} {C : Bool} (I : Inv T W N ld lb C) : 0 ≤ left T N ld C := by
  have := sumv_nonneg ld; have := I.n1
  unfold left
  split <;> omega
theorem end_left {T W N : Int} {ld : List Int} {lb : List Bool} {C : Bool} (I : Inv T W N ld lb C) (h : (∀ t ∈ ld, t = -2) ∧ C = true) : N = T ∧ left T N ld C = 0 := by
  have hN : N = T := by
    have h1 := I.hd; have h2 := I.w0
    have hm : ld[0]'(by omega) ∈ ld := List.getElem_mem _
    have h3 := I.sh _ hm
    have h4 := h.1 _ hm
    omega
  refine ⟨hN, ?_⟩
  unfold left
  rw [sumv_zero ld h.1, hN, if_pos h.2]; omega
theorem pick_mem (l : List Int) (hl : 0 < l.length) (s : List Int) (n : Nat) : rd l (sched_Play.pick s n l.length) ∈ l := by
  have go : ∀ i : Int, 0 ≤ i → i < (l.length : Int) → rd l i ∈ l := fun i h0 h1 => by
    unfold rd
    rw [getD_lt l i.toNat 0 (by omega)]
    exact List.getElem_mem _
  unfold sched_Play.pick
  split
  · exact go _ (Int.emod_nonneg _ (by omega)) (Int.emod_lt_of_pos _ (by omega))
  · exact go 0 (by omega) (by omega)
theorem play_l (T W : Int) (s : List Int) (K : Nat) (hK : 100 ≤ K) : ∀ (m : Nat) (out : List S52) (N : Int) (ld : List Int) (lb : List Bool) (C : Bool), Inv T W N ld lb C → left T N ld C < m → (out.length : Int) + left T N ld C < 5864062014805 → ∃ acts N2 ld2 lb2 C2, sched_Play.l0 m K out (readyL ld C) T W N ld lb C s = some (out ++ acts, N2, ld2, lb2, C2) ∧ Run T W N ld lb C acts N2 ld2 lb2 C2
  | 0, _, _, _, _, _, I, h, _ => absurd (left_nonneg I) (by omega)
  | m + 1, out, N, ld, lb, C, I, hm, ho => by
    rw [sched_Play.l0]
    by_cases h0 : 0 < (readyL ld C).length
    · rw [if_pos h0, if_pos (by have := left_nonneg I; omega)]
      obtain ⟨N1, ld1, lb1, C1, a, b, c, e1, hmv⟩ := move_of I (can_of (pick_mem _ h0 s out.length))
      obtain ⟨I1, hl1⟩ := move_inv I hmv
      have hd1 := I1.hd; have hw1 := I1.w1
      rw [e1, Option.bind_some, ready_f T W N1 ld1 lb1 C1 (by omega) K (by omega), Option.bind_some]
      obtain ⟨acts, N2, ld2, lb2, C2, e2, hr⟩ := play_l T W s K hK m (out ++ [⟨a, b, c⟩]) N1 ld1 lb1 C1 I1 (by omega) (by simp; omega)
      exact ⟨⟨a, b, c⟩ :: acts, N2, ld2, lb2, C2, by rw [e2, List.append_assoc]; rfl, .act I hmv hr⟩
    · rw [if_neg h0]
      have hn : readyL ld C = [] := List.eq_nil_of_length_eq_zero (by omega)
      exact ⟨[], N, ld, lb, C, by rw [List.append_nil], .done I ((ready_nil ld C).1 hn)⟩
theorem run_end {T W N : Int} {ld : List Int} {lb : List Bool} {C : Bool} {acts : List S52} {N2 : Int} {ld2 : List Int} {lb2 : List Bool} {C2 : Bool} (r : Run T W N ld lb C acts N2 ld2 lb2 C2) : Inv T W N2 ld2 lb2 C2 ∧ ((∀ t ∈ ld2, t = -2) ∧ C2 = true) ∧ (acts.length : Int) = left T N ld C := by
  induction r with
  | done I h => exact ⟨I, h, by rw [(end_left I h).2]; rfl⟩
  | act I h r ih =>
    obtain ⟨h1, h2, h3⟩ := ih
    have := (move_inv I h).2
    exact ⟨h1, h2, by rw [List.length_cons]; omega⟩
theorem inv_new (T W : Int) (t0 : 0 ≤ T) (t1 : T ≤ 1048576) (w0 : 1 ≤ W) (w1 : W ≤ 64) : Inv T W 0 (List.replicate W.toNat (-1)) (List.replicate T.toNat false) false := by
  refine ⟨t0, t1, w0, w1, Int.le_refl _, t0, by simp; omega, by simp; omega, ?_, ?_, fun h => by cases h⟩
  · intro t ht; exact .inl (List.eq_of_mem_replicate ht)
  · intro i hi
    rw [if_neg (show ¬ (i : Int) < 0 by omega), List.count_replicate, getD_lt _ _ _ (by simp; omega)]
    simp
theorem new_f (T W : Int) (t0 : 0 ≤ T) (t1 : T ≤ 1048576) (w0 : 1 ≤ W) (w1 : W ≤ 64) : sched_New.f T W = some (T, W, 0, List.replicate W.toNat (-1), List.replicate T.toNat false, false, 0) := by
  unfold sched_New.f sched_fits.f slices_Repeat_int_int.f
  rw [if_pos t0, if_pos t1, if_pos w0, Option.bind_some, decide_eq_true w1, if_pos rfl, if_pos ⟨rfl, by omega, by omega⟩, Option.bind_some, if_pos t0, if_pos (by omega)]
  rfl
theorem play_f (T W : Int) (s : List Int) (t0 : 0 ≤ T) (t1 : T ≤ 1048576) (w0 : 1 ≤ W) (w1 : W ≤ 64) (k : Nat) (hk : 3000000 ≤ k) : ∃ acts N2 ld2 lb2 C2, sched_Play.f k T W s = some (acts, T, W, N2, ld2, lb2, C2, 0) ∧ Run T W 0 (List.replicate W.toNat (-1)) (List.replicate T.toNat false) false acts N2 ld2 lb2 C2 ∧ left T 0 (List.replicate W.toNat (-1)) false = 2 * T + W + 1 := by
  have hl : left T 0 (List.replicate W.toNat (-1)) false = 2 * T + W + 1 := by
    unfold left
    rw [sumv_repl, if_neg (by decide)]; omega
  obtain ⟨acts, N2, ld2, lb2, C2, e, r⟩ := play_l T W s k (by omega) k [] 0 _ _ _ (inv_new T W t0 t1 w0 w1) (by omega) (by simp; omega)
  refine ⟨acts, N2, ld2, lb2, C2, ?_, r, hl⟩
  unfold sched_Play.f
  rw [new_f T W t0 t1 w0 w1, Option.bind_some, if_pos rfl, ready_f _ _ _ _ _ _ (by simp; omega) k (by simp; omega), Option.bind_some, e, Option.bind_some]
  rfl
theorem tmod_u8 (a : Int) (h : (Lit.int .u8 a).wf = true) : 0 ≤ a ∧ a ≤ 255 := by
  have h1 : (decide (0 ≤ a) && decide (a ≤ 255)) = true := h
  simpa using h1
theorem fixed_f (k : Nat) (hk : 40 ≤ k) : hornbeamlaw21_fixed.f k = some true := at_rounds (g := fun k => hornbeamlaw21_fixed.f k) hornbeamlaw21_fixed.mono hk (by decide +kernel)
theorem may_l2 (T W N : Int) (ld : List Int) (lb : List Bool) (C : Bool) (hd : ld.length ≤ 1048576) (x3 : List Int) (h3 : x3.length ≤ 1048576) (hp : ∀ j : Nat, 0 ≤ x3.getD j 0) : ∀ (m i k : Nat), i + m = x3.length → m + ld.length + 2 < k → ∃ r, sched_May.l2 k x3 (x3.length : Int) (i : Int) T W N ld lb C = some r ∧ (r = true ↔ (∀ j : Nat, i ≤ j → j < x3.length → x3.getD j 0 = if (j : Int) < N then 1 else 0) ∧ (C = true → ∀ t ∈ ld, t = -2))
  | 0, i, k + 1, h, hk => by
    rw [sched_May.l2, if_neg (by omega)]
    have e : (∀ j : Nat, i ≤ j → j < x3.length → x3.getD j 0 = if (j : Int) < N then 1 else 0) := fun j h1 h2 => by omega
    cases C with
    | true =>
      rw [if_pos rfl, over_f T W N ld lb true hd k (by omega), Option.bind_some]
      exact ⟨_, rfl, by simp only [decide_eq_true_eq]; exact ⟨fun z => ⟨e, fun _ => z⟩, fun z => z.2 trivial⟩⟩
    | false =>
      rw [if_neg (by decide)]
      exact ⟨_, rfl, ⟨fun _ => ⟨e, fun z => (by cases z)⟩, fun _ => rfl⟩⟩
  | m + 1, i, k + 1, h, hk => by
    rw [sched_May.l2, if_pos (by omega), if_pos (by omega), if_pos (by omega), rd_nat, wrapS i (by omega)]
    have hpi := hp i
    by_cases hx : x3.getD i 0 = if (i : Int) < N then 1 else 0
    · have c1 : ((decide ((i : Int) < N)) != (x3.getD i 0 == 1)) = false := by
        rw [hx]
        by_cases hn : (i : Int) < N
        · rw [if_pos hn, decide_eq_true hn]; rfl
        · rw [if_neg hn, decide_eq_false hn]; rfl
      have c2 : ¬ x3.getD i 0 > 1 := by rw [hx]; split <;> omega
      rw [c1, if_neg (by decide), if_neg c2]
      obtain ⟨r, e, hr⟩ := may_l2 T W N ld lb C hd x3 h3 hp m (i + 1) k (by omega) (by omega)
      refine ⟨r, e, hr.trans ⟨fun z => ⟨fun j h1 h2 => ?_, z.2⟩, fun z => ⟨fun j h1 h2 => z.1 j (by omega) h2, z.2⟩⟩⟩
      by_cases hj : j = i
      · rw [hj]; exact hx
      · exact z.1 j (by omega) h2
    · have no : ∀ r : Bool, r = false → (r = true ↔ (∀ j : Nat, i ≤ j → j < x3.length → x3.getD j 0 = if (j : Int) < N then 1 else 0) ∧ (C = true → ∀ t ∈ ld, t = -2)) := fun r hr => ⟨fun z => (by rw [hr] at z; cases z), fun z => absurd (z.1 i (Nat.le_refl _) (by omega)) hx⟩
      by_cases c1 : ((decide ((i : Int) < N)) != (x3.getD i 0 == 1)) = true
      · rw [if_pos c1]; exact ⟨_, rfl, no _ rfl⟩
      · rw [if_neg c1]
        have c2 : x3.getD i 0 > 1 := by
          by_cases hn : (i : Int) < N
          · rw [if_pos hn] at hx
            rw [decide_eq_true hn, beq_eq_false_iff_ne.2 hx] at c1
            exact absurd rfl c1
          · rw [if_neg hn] at hx
            rw [decide_eq_false hn] at c1
            by_cases h1 : x3.getD i 0 = 1
            · rw [h1] at c1; exact absurd rfl c1
            · omega
        rw [if_pos c2]; exact ⟨_, rfl, no _ rfl⟩
def Sh (T N t : Int) : Prop := t = -1 ∨ (t = -2 ∧ N = T) ∨ (0 ≤ t ∧ t < N)
theorem may_l1 (T W N : Int) (ld : List Int) (lb : List Bool) (C : Bool) (hd : ld.length ≤ 1048576) (n0 : 0 ≤ N) (n1 : N ≤ T) (t1 : T ≤ 1048576) : ∀ (m i k : Nat) (x3 : List Int), i + m = ld.length → (x3.length : Int) = T → (∀ j : Nat, 0 ≤ x3.getD j 0 ∧ x3.getD j 0 ≤ 1 + (i : Int)) → 2 * m + x3.length + ld.length + 5 < k → ∃ r, sched_May.l1 k x3 ld (ld.length : Int) (i : Int) T W N ld lb C = some r ∧ (r = true ↔ (∀ t ∈ ld.drop i, Sh T N t) ∧ (∀ j : Nat, j < x3.length → x3.getD j 0 + ((ld.drop i).count (j : Int) : Int) = if (j : Int) < N then 1 else 0) ∧ (C = true → ∀ t ∈ ld, t = -2))
  | 0, i, k + 1, x3, h, hT, hp, hk => by
    rw [sched_May.l1, if_neg (by omega)]
    obtain ⟨r, e, hr⟩ := may_l2 T W N ld lb C hd x3 (by omega) (fun j => (hp j).1) x3.length 0 k (by omega) (by omega)
    refine ⟨r, e, hr.trans ?_⟩
    rw [List.drop_eq_nil_of_le (by omega)]
    constructor
    · rintro ⟨z1, z2⟩
      exact ⟨fun t ht => (by cases ht), fun j hj => (by rw [← z1 j (Nat.zero_le _) hj]; simp), z2⟩
    · rintro ⟨_, z1, z2⟩
      exact ⟨fun j _ hj => (by rw [← z1 j hj]; simp), z2⟩
  | m + 1, i, k + 1, x3, h, hT, hp, hk => by
    rw [sched_May.l1, if_pos (by omega), if_pos (by omega), if_pos (by omega), rd_nat, getD_lt ld i 0 (by omega), wrapS i (by omega), List.drop_eq_getElem_cons (by omega : i < ld.length)]
    obtain ⟨t, ht⟩ : ∃ t, ld[i] = t := ⟨_, rfl⟩
    rw [ht]
    obtain ⟨k, rfl⟩ : ∃ q, k = q + 1 := ⟨k - 1, by omega⟩
    have skip : ∀ q : Nat, 2 * m + x3.length + ld.length + 5 < q → (∀ j : Nat, t ≠ (j : Int)) → Sh T N t → ∃ r, sched_May.l1 q x3 ld (ld.length : Int) ((i + 1 : Nat) : Int) T W N ld lb C = some r ∧ (r = true ↔ (∀ t' ∈ t :: ld.drop (i + 1), Sh T N t') ∧ (∀ j : Nat, j < x3.length → x3.getD j 0 + ((t :: ld.drop (i + 1)).count (j : Int) : Int) = if (j : Int) < N then 1 else 0) ∧ (C = true → ∀ t ∈ ld, t = -2)) := fun q hq hn hs => by
      obtain ⟨r, e, hr⟩ := may_l1 T W N ld lb C hd n0 n1 t1 m (i + 1) q x3 (by omega) hT (fun j => ⟨(hp j).1, by have := (hp j).2; omega⟩) hq
      refine ⟨r, e, hr.trans ⟨fun z => ⟨fun t' ht' => ?_, fun j hj => ?_, z.2.2⟩, fun z => ⟨fun t' ht' => z.1 t' (List.mem_cons_of_mem _ ht'), fun j hj => ?_, z.2.2⟩⟩⟩
      · rcases List.mem_cons.1 ht' with rfl | ht'
        · exact hs
        · exact z.1 t' ht'
      · rw [List.count_cons_of_ne (hn j)]; exact z.2.1 j hj
      · have := z.2.1 j hj; rwa [List.count_cons_of_ne (hn j)] at this
    have bad : ¬ Sh T N t → ((false : Bool) = true ↔ (∀ t' ∈ t :: ld.drop (i + 1), Sh T N t') ∧ (∀ j : Nat, j < x3.length → x3.getD j 0 + ((t :: ld.drop (i + 1)).count (j : Int) : Int) = if (j : Int) < N then 1 else 0) ∧ (C = true → ∀ t ∈ ld, t = -2)) := fun hb => ⟨fun z => (by cases z), fun z => absurd (z.1 t List.mem_cons_self) hb⟩
    by_cases h1 : t = -1
    · rw [if_pos h1]
      exact skip (k + 1) (by omega) (fun j => by omega) (.inl h1)
    · rw [if_neg h1]
      by_cases h2 : t = -2
      · rw [if_pos h2, sched_May.j3]
        by_cases hN : N = T
        · rw [if_pos (beq_iff_eq.2 hN), wrapS i (by omega)]
          exact skip k (by omega) (fun j => by omega) (.inr (.inl ⟨h2, hN⟩))
        · rw [if_neg (by simpa using hN), if_neg (by omega)]
          exact ⟨_, rfl, bad (by unfold Sh; omega)⟩
      · rw [if_neg h2, sched_May.j3, if_neg (by decide)]
        by_cases h3 : t ≥ 0
        · rw [if_pos h3]
          by_cases h4 : t < N
          · rw [if_pos h4, if_pos h3, if_pos (by omega)]
            obtain ⟨s, rfl⟩ : ∃ s : Nat, t = (s : Int) := ⟨t.toNat, by omega⟩
            have hs : s < x3.length := by omega
            rw [rd_nat, Int.toNat_natCast, wrap64_id (n := x3.getD s 0 + 1) (by have := hp s; omega) (by have := hp s; omega), wrapS i (by omega)]
            obtain ⟨r, e, hr⟩ := may_l1 T W N ld lb C hd n0 n1 t1 m (i + 1) k (x3.set s (x3.getD s 0 + 1)) (by omega) (by simpa using hT) (fun j => by
              by_cases hj : s = j
              · subst hj; rw [getD_set_eq _ _ _ _ hs]; have := hp s; omega
              · rw [getD_set_ne _ _ _ _ _ hj]; have := hp j; omega) (by simp; omega)
            refine ⟨r, e, hr.trans ⟨fun z => ⟨fun t' ht' => ?_, fun j hj => ?_, z.2.2⟩, fun z => ⟨fun t' ht' => z.1 t' (List.mem_cons_of_mem _ ht'), fun j hj => ?_, z.2.2⟩⟩⟩
            · rcases List.mem_cons.1 ht' with rfl | ht'
              · exact .inr (.inr ⟨h3, h4⟩)
              · exact z.1 t' ht'
            · have := z.2.1 j (by simpa using hj)
              by_cases hjs : s = j
              · subst hjs; rw [getD_set_eq _ _ _ _ hs] at this; rw [List.count_cons_self]; omega
              · rw [getD_set_ne _ _ _ _ _ hjs] at this; rw [List.count_cons_of_ne (by omega)]; exact this
            · have := z.2.1 j (by simpa using hj)
              by_cases hjs : s = j
              · subst hjs; rw [List.count_cons_self] at this; rw [getD_set_eq _ _ _ _ hs]; omega
              · rw [List.count_cons_of_ne (by omega)] at this; rw [getD_set_ne _ _ _ _ _ hjs]; exact this
          · rw [if_neg h4]
            exact ⟨_, rfl, bad (by unfold Sh; omega)⟩
        · rw [if_neg h3]
          exact ⟨_, rfl, bad (by unfold Sh; omega)⟩
theorem may_l0 (T W N : Int) (ld : List Int) (lb : List Bool) (C : Bool) (hd : ld.length ≤ 1048576) (hb : (lb.length : Int) = T) (n0 : 0 ≤ N) (n1 : N ≤ T) (t1 : T ≤ 1048576) : ∀ (m i k : Nat) (x3 : List Int), i + m = lb.length → (x3.length : Int) = T → (∀ j : Nat, x3.getD j 0 = if j < i ∧ lb.getD j false = true then 1 else 0) → m + 3 * ld.length + lb.length + 8 < k → ∃ r, sched_May.l0 k x3 lb (lb.length : Int) (i : Int) T W N ld lb C = some r ∧ (r = true ↔ (∀ t ∈ ld, Sh T N t) ∧ (∀ j : Nat, (j : Int) < T → (if lb.getD j false = true then 1 else 0) + (ld.count (j : Int) : Int) = if (j : Int) < N then 1 else 0) ∧ (C = true → ∀ t ∈ ld, t = -2))
  | 0, i, k + 1, x3, h, hT, hp, hk => by
    rw [sched_May.l0, if_neg (by omega)]
    obtain ⟨r, e, hr⟩ := may_l1 T W N ld lb C hd n0 n1 t1 ld.length 0 k x3 (by omega) hT (fun j => by rw [hp j]; split <;> omega) (by omega)
    refine ⟨r, e, hr.trans ?_⟩
    rw [List.drop_zero]
    have ej : ∀ j : Nat, j < x3.length → x3.getD j 0 = if lb.getD j false = true then 1 else 0 := fun j hj => by
      rw [hp j]
      by_cases hb' : lb.getD j false = true
      · rw [if_pos ⟨by omega, hb'⟩, if_pos hb']
      · rw [if_neg (fun z => hb' z.2), if_neg hb']
    exact ⟨fun z => ⟨z.1, fun j hj => (by rw [← ej j (by omega)]; exact z.2.1 j (by omega)), z.2.2⟩, fun z => ⟨z.1, fun j hj => (by rw [ej j hj]; exact z.2.1 j (by omega)), z.2.2⟩⟩
  | m + 1, i, k + 1, x3, h, hT, hp, hk => by
    rw [sched_May.l0, if_pos (by omega), if_pos (by omega), if_pos (by omega), wrapS i (by omega)]
    have e0 : rdOf false lb (i : Int) = lb.getD i false := rfl
    rw [e0]
    by_cases hb' : lb.getD i false = true
    · rw [if_pos hb', if_pos (by omega), rd_nat, Int.toNat_natCast, hp i, if_neg (by omega), show wrap64 ((0 : Int) + 1) = 1 from wrap64_id (by omega) (by omega)]
      refine may_l0 T W N ld lb C hd hb n0 n1 t1 m (i + 1) k _ (by omega) (by simpa using hT) (fun j => ?_) (by omega)
      by_cases hj : i = j
      · subst hj; rw [getD_set_eq _ _ _ _ (by omega), if_pos ⟨by omega, hb'⟩]
      · rw [getD_set_ne _ _ _ _ _ hj, hp j]
        by_cases hj2 : j < i ∧ lb.getD j false = true
        · rw [if_pos hj2, if_pos ⟨by omega, hj2.2⟩]
        · rw [if_neg hj2, if_neg (fun z => hj2 ⟨by omega, z.2⟩)]
    · rw [if_neg hb']
      refine may_l0 T W N ld lb C hd hb n0 n1 t1 m (i + 1) k _ (by omega) hT (fun j => ?_) (by omega)
      rw [hp j]
      by_cases hj2 : j < i ∧ lb.getD j false = true
      · rw [if_pos hj2, if_pos ⟨by omega, hj2.2⟩]
      · rw [if_neg hj2, if_neg (fun z => ?_)]
        by_cases hj : j = i
        · exact hb' (hj ▸ z.2)
        · exact hj2 ⟨by omega, z.2⟩
theorem may_f (T W N : Int) (ld : List Int) (lb : List Bool) (C : Bool) (hd : ld.length ≤ 1048576) (hb : lb.length ≤ 1048576) (k : Nat) (hk : 3 * ld.length + 2 * lb.length + 20 < k) : ∃ r, sched_May.f k T W N ld lb C = some r ∧ (r = true ↔ Inv T W N ld lb C) := by
  obtain ⟨k, rfl⟩ : ∃ q, k = q + 1 := ⟨k - 1, by omega⟩
  have bad : ¬ Inv T W N ld lb C → ∃ r, sched_May.j0 (k + 1) true T W N ld lb C = some r ∧ (r = true ↔ Inv T W N ld lb C) := fun hb => by
    rw [sched_May.j0, if_pos rfl]
    exact ⟨_, rfl, ⟨fun z => (by cases z), fun z => absurd z hb⟩⟩
  unfold sched_May.f sched_fits.f
  by_cases t0 : T ≥ 0
  · rw [if_pos t0]
    by_cases t1 : T ≤ 1048576
    · rw [if_pos t1]
      by_cases w0 : W ≥ 1
      · rw [if_pos w0, Option.bind_some]
        by_cases w1 : W ≤ 64
        · rw [decide_eq_true w1, if_pos rfl]
          by_cases h1 : (ld.length : Int) = W
          · rw [if_pos h1]
            by_cases h2 : (lb.length : Int) = T
            · rw [if_pos h2]
              by_cases h3 : N < 0
              · rw [if_pos h3]; exact bad (fun I => by have := I.n0; omega)
              · rw [if_neg h3]
                by_cases h4 : N > T
                · rw [decide_eq_true h4]; exact bad (fun I => by have := I.n1; omega)
                · rw [decide_eq_false h4, sched_May.j0, if_neg (by decide), if_pos (show 0 ≤ T from t0), if_pos (by omega)]
                  obtain ⟨r, e, hr⟩ := may_l0 T W N ld lb C hd h2 (by omega) (by omega) t1 lb.length 0 k (List.replicate T.toNat 0) (by omega) (by simp; omega) (fun j => by
                    rw [if_neg (by omega)]
                    simp only [List.getD, List.getElem?_replicate]
                    split <;> rfl) (by omega)
                  refine ⟨r, e, hr.trans ⟨fun z => ⟨t0, t1, w0, w1, by omega, by omega, h1, h2, z.1, fun i hi => ?_, z.2.2⟩, fun I => ⟨I.sh, fun j hj => ?_, I.cl⟩⟩⟩
                  · have := z.2.1 i hi
                    by_cases ca : lb.getD i false = true
                    · by_cases cb : (i : Int) < N
                      · rw [if_pos ca, if_pos cb] at this ⊢; omega
                      · rw [if_pos ca, if_neg cb] at this ⊢; omega
                    · by_cases cb : (i : Int) < N
                      · rw [if_neg ca, if_pos cb] at this ⊢; omega
                      · rw [if_neg ca, if_neg cb] at this ⊢; omega
                  · have := I.ct j hj
                    by_cases ca : lb.getD j false = true
                    · by_cases cb : (j : Int) < N
                      · rw [if_pos ca, if_pos cb] at this ⊢; omega
                      · rw [if_pos ca, if_neg cb] at this ⊢; omega
                    · by_cases cb : (j : Int) < N
                      · rw [if_neg ca, if_pos cb] at this ⊢; omega
                      · rw [if_neg ca, if_neg cb] at this ⊢; omega
            · rw [if_neg h2]; exact bad (fun I => h2 I.hb)
          · rw [if_neg h1]; exact bad (fun I => h1 I.hd)
        · rw [decide_eq_false w1, if_neg (by decide)]; exact bad (fun I => w1 I.w1)
      · rw [if_neg w0, Option.bind_some, if_neg (by decide)]; exact bad (fun I => w0 I.w0)
    · rw [if_neg t1, Option.bind_some, if_neg (by decide)]; exact bad (fun I => t1 I.t1)
  · rw [if_neg t0, Option.bind_some, if_neg (by decide)]; exact bad (fun I => t0 I.t0)
theorem may_true {T W N : Int} {ld : List Int} {lb : List Bool} {C : Bool} (I : Inv T W N ld lb C) (k : Nat) (hk : 3000000 ≤ k) : sched_May.f k T W N ld lb C = some true := by
  have h1 := I.hd; have h2 := I.hb; have h3 := I.t1; have h4 := I.w1
  obtain ⟨r, e, hr⟩ := may_f T W N ld lb C (by omega) (by omega) k (by omega)
  rw [e, hr.2 I]
theorem index2_l (l : List Int) (x : Int) (hl : l.length ≤ 1048577) : ∀ (m i k : Nat), i + m = l.length → m < k → ∃ r, slices_Index_int_int.l0 k l x (l.length : Int) (i : Int) = some r ∧ (0 ≤ r ↔ x ∈ l.drop i)
  | 0, i, k + 1, h, _ => by
    rw [slices_Index_int_int.l0, if_neg (by omega)]
    refine ⟨-1, rfl, ?_⟩
    rw [List.drop_eq_nil_of_le (by omega)]
    simp
  | m + 1, i, k + 1, h, hk => by
    rw [slices_Index_int_int.l0, if_pos (by omega), if_pos (by omega), if_pos (by omega), rd_nat, getD_lt l i 0 (by omega), wrapS i (by omega), List.drop_eq_getElem_cons (by omega : i < l.length)]
    by_cases h0 : x = l[i]
    · rw [if_pos h0]
      exact ⟨_, rfl, ⟨fun _ => by rw [h0]; exact List.mem_cons_self, fun _ => by omega⟩⟩
    · rw [if_neg h0]
      obtain ⟨r, e, hr⟩ := index2_l l x hl m (i + 1) k (by omega) (by omega)
      exact ⟨r, e, hr.trans ⟨fun z => List.mem_cons_of_mem _ z, fun z => (List.mem_cons.1 z).resolve_left h0⟩⟩
theorem contains_f (l : List Int) (x : Int) (hl : l.length ≤ 1048577) (k : Nat) (hk : l.length < k) : slices_Contains_int_int.f k l x = some (decide (x ∈ l)) := by
  obtain ⟨r, e, hr⟩ := index2_l l x hl l.length 0 k (by omega) hk
  unfold slices_Contains_int_int.f slices_Index_int_int.f
  rw [show (0 : Int) = ((0 : Nat) : Int) from rfl, e, Option.bind_some]
  rw [List.drop_zero] at hr
  congr 1
  exact decide_eq_decide.2 hr
theorem copied_f (T W N : Int) (ld : List Int) (lb : List Bool) (C : Bool) (hd : ld.length ≤ 1048576) (hb : lb.length ≤ 1048576) : sched_copied.f T W N ld lb C = some (T, W, N, ld, lb, C) := by
  unfold sched_copied.f slices_Clone_int_int.f slices_Clone_bool_bool.f
  rw [Option.bind_some, if_pos (by simp; omega), Option.bind_some, Option.bind_some, if_pos (by simp; omega)]
  rfl
theorem readyL_length (ld : List Int) (C : Bool) : (readyL ld C).length ≤ ld.length + 1 := by
  unfold readyL
  have := live_length ld 0
  rw [List.length_append]
  split <;> simp <;> omega
theorem step_f {T W N : Int} {ld : List Int} {lb : List Bool} {C : Bool} (I : Inv T W N ld lb C) {who : Int} (h : who ∈ readyL ld C) (k : Nat) (hk : 3000000 ≤ k) : ∃ N' ld' lb' C' a b c, sched_Step.f k T W N ld lb C who = some (T, W, N', ld', lb', C', a, b, c, 0) ∧ Move T N ld lb C who N' ld' lb' C' a b c := by
  obtain ⟨N', ld', lb', C', a, b, c, e, hm⟩ := move_of I (can_of h)
  refine ⟨N', ld', lb', C', a, b, c, ?_, hm⟩
  have h1 := I.hd; have h2 := I.hb; have h3 := I.t1; have h4 := I.w1
  have h5 := readyL_length ld C
  unfold sched_Step.f
  rw [may_true I k hk, Option.bind_some, if_pos rfl, ready_f _ _ _ _ _ _ (by omega) k (by omega), Option.bind_some, contains_f _ _ (by omega) k (by omega), Option.bind_some, decide_eq_true h, if_pos rfl, copied_f _ _ _ _ _ _ (by omega) (by omega), Option.bind_some]
  dsimp only
  rw [e, Option.bind_some]
theorem left_l (T W N : Int) (ld : List Int) (lb : List Bool) (C : Bool) (hl : ld.length ≤ 1048576) : ∀ (m i k : Nat) (x : Int), i + m = ld.length → m < k → 0 ≤ x → x + 2 * m ≤ 1000000000 → hornbeamlaw21_left.l0 k x ld (ld.length : Int) (i : Int) T W N ld lb C = some (x + sumv (ld.drop i) + (if C = true then 0 else 1))
  | 0, i, k + 1, x, h, _, h0, h1 => by
    rw [hornbeamlaw21_left.l0, if_neg (by omega), List.drop_eq_nil_of_le (by omega), sumv]
    cases C with
    | true => rw [if_pos rfl, if_pos rfl]; congr 1; omega
    | false => rw [if_neg (by decide), if_neg (by decide), wrap64_id (by omega) (by omega)]; congr 1; omega
  | m + 1, i, k + 1, x, h, hk, h0, h1 => by
    rw [hornbeamlaw21_left.l0, if_pos (by omega), if_pos (by omega), if_pos (by omega), rd_nat, getD_lt ld i 0 (by omega), wrapS i (by omega), List.drop_eq_getElem_cons (by omega : i < ld.length), sumv]
    by_cases h2 : ld[i] ≥ 0
    · rw [if_pos h2, wrap64_id (by omega) (by omega), left_l T W N ld lb C hl m (i + 1) k _ (by omega) (by omega) (by omega) (by omega), show wt ld[i] = 2 from if_pos h2]
      congr 1; omega
    · rw [if_neg h2]
      by_cases h3 : ld[i] = -1
      · rw [if_pos h3, wrap64_id (by omega) (by omega), left_l T W N ld lb C hl m (i + 1) k _ (by omega) (by omega) (by omega) (by omega), show wt ld[i] = 1 by rw [h3]; rfl]
        congr 1; omega
      · rw [if_neg h3, left_l T W N ld lb C hl m (i + 1) k _ (by omega) (by omega) (by omega) (by omega), show wt ld[i] = 0 by unfold wt; rw [if_neg (by omega), if_neg h3]]
        congr 1; omega
theorem left_f {T W N : Int} {ld : List Int} {lb : List Bool} {C : Bool} (I : Inv T W N ld lb C) (k : Nat) (hk : 3000000 ≤ k) : hornbeamlaw21_left.f k T W N ld lb C = some (left T N ld C) := by
  have h1 := I.hd; have h2 := I.hb; have h3 := I.t1; have h4 := I.w1; have h5 := I.n0; have h6 := I.n1; have h7 := I.t0
  unfold hornbeamlaw21_left.f
  rw [wrap64_id (n := T - N) (by omega) (by omega), wrap64_id (by omega) (by omega)]
  have := left_l T W N ld lb C (by omega) ld.length 0 k (2 * (T - N)) (by omega) (by omega) (by omega) (by omega)
  rw [List.drop_zero] at this
  exact this
theorem sumv_wt : ∀ (l : List Int), sumv l = 0 → ∀ t ∈ l, wt t = 0
  | [], _, t, ht => by cases ht
  | x :: r, h, t, ht => by
    have h1 := wt_nonneg x; have h2 := sumv_nonneg r
    rw [sumv] at h
    rcases List.mem_cons.1 ht with rfl | ht
    · omega
    · exact sumv_wt r (by omega) t ht
theorem left_zero {T W N : Int} {ld : List Int} {lb : List Bool} {C : Bool} (I : Inv T W N ld lb C) (h : left T N ld C = 0) : (∀ t ∈ ld, t = -2) ∧ C = true := by
  have h1 := sumv_nonneg ld; have h2 := I.n1
  unfold left at h
  cases C with
  | false => rw [if_neg (by decide)] at h; omega
  | true =>
    rw [if_pos rfl] at h
    refine ⟨fun t ht => ?_, rfl⟩
    have h3 := sumv_wt ld (by omega) t ht
    unfold wt at h3
    rcases I.sh t ht with h4 | h4 | h4
    · rw [h4] at h3; exact absurd h3 (by decide)
    · exact h4.1
    · rw [if_pos h4.1] at h3; exact absurd h3 (by decide)
theorem keeps_l0 {T W N : Int} {ld : List Int} {lb : List Bool} {C : Bool} (I : Inv T W N ld lb C) (l : List Int) (hl : l.length ≤ 1048577) (hr : ∀ x ∈ l, x ∈ readyL ld C) : ∀ (m i k : Nat), i + m = l.length → 3000000 + m < k → hornbeamlaw21_SchedKeeps.l0 k l (l.length : Int) (i : Int) T W N ld lb C = some true
  | 0, i, k + 1, h, hk => by
    rw [hornbeamlaw21_SchedKeeps.l0, if_neg (by omega), fixed_f k (by omega)]; rfl
  | m + 1, i, k + 1, h, hk => by
    rw [hornbeamlaw21_SchedKeeps.l0, if_pos (by omega), if_pos (by omega), if_pos (by omega), rd_nat, getD_lt l i 0 (by omega)]
    obtain ⟨N', ld', lb', C', a, b, c, e, hm⟩ := step_f I (hr _ (List.getElem_mem (by omega : i < l.length))) k (by omega)
    obtain ⟨I', hl'⟩ := move_inv I hm
    have hle := left_nonneg I; have hle' := left_nonneg I'
    have hb : left T N ld C ≤ 1000000000 := by
      have h1 := I.hd; have h3 := I.t1; have h4 := I.w1; have h5 := I.n0
      have : ∀ l : List Int, sumv l ≤ 2 * (l.length : Int) := fun l => by
        induction l with
        | nil => simp [sumv]
        | cons t r ih => have : wt t ≤ 2 := by unfold wt; split <;> (try split) <;> omega
                         rw [sumv, List.length_cons]; omega
      have := this ld
      unfold left
      split <;> omega
    rw [e, Option.bind_some]
    dsimp only
    rw [if_pos rfl, may_true I' k (by omega), Option.bind_some, if_pos rfl, left_f I' k (by omega), Option.bind_some, left_f I k (by omega), Option.bind_some, wrap64_id (n := left T N ld C - 1) (by omega) (by omega), if_pos hl', wrapS i (by omega)]
    exact keeps_l0 I l hl hr m (i + 1) k (by omega) (by omega)
end SchedKeeps0
open SchedKeeps0
theorem SchedKeeps : hornbeamlaw21_SchedKeeps.Pure := by
  intro T W N ld lb C _ _ _ _ _
  obtain ⟨k, hk⟩ : ∃ k : Nat, 5000000 ≤ k := ⟨_, Nat.le_refl _⟩
  refine ⟨k + 1, ?_⟩
  have skip : hornbeamlaw21_SchedKeeps.j0 (k + 1) true T W N ld lb C = some true := by
    rw [hornbeamlaw21_SchedKeeps.j0, if_pos rfl, fixed_f k (by omega)]; rfl
  unfold hornbeamlaw21_SchedKeeps.f
  by_cases h1 : (lb.length : Int) > 200
  · rw [if_pos h1]; exact skip
  · rw [if_neg h1]
    by_cases h2 : (ld.length : Int) > 200
    · rw [if_pos h2]; exact skip
    · rw [if_neg h2]
      obtain ⟨r, e, hr⟩ := may_f T W N ld lb C (by omega) (by omega) (k + 1) (by omega)
      rw [e, Option.bind_some]
      cases r with
      | false => exact skip
      | true =>
        have I := hr.1 rfl
        have hR : sched_Ready.f k T W N ld lb C = some (readyL ld C) := by
          unfold sched_Ready.f
          rw [may_true I k (by omega), Option.bind_some, if_pos rfl, ready_f _ _ _ _ _ _ (by omega) k (by omega), Option.bind_some]
        have h5 := readyL_length ld C
        rw [hornbeamlaw21_SchedKeeps.j0, if_neg (by decide), hR, Option.bind_some, left_f I k (by omega), Option.bind_some, if_neg ?_]
        · exact keeps_l0 I _ (by omega) (fun x hx => hx) (readyL ld C).length 0 k (by omega) (by omega)
        · by_cases h0 : readyL ld C = []
          · rw [(end_left I ((ready_nil ld C).1 h0)).2, h0]; decide
          · have hl : left T N ld C ≠ 0 := fun z => h0 ((ready_nil ld C).2 (left_zero I z))
            have hn : ((readyL ld C).length : Int) ≠ 0 := fun z => h0 (List.eq_nil_of_length_eq_zero (by omega))
            rw [beq_eq_false_iff_ne.2 hl, beq_eq_false_iff_ne.2 hn]; decide
end Go.Proofs.Ytoonddgldmfleaa.Pure
