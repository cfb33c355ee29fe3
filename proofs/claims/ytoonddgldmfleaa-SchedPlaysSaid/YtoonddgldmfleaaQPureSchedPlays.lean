/- The law SchedPlays answers true. No condition. -/
import Derived.Test.YtoonddgldmfleaaQSchedPlaysx11
import Derived.Test.YtoonddgldmfleaaVP64
namespace Go.Proofs.Ytoonddgldmfleaa.Pure
open Go.RowKit Go.Proofs.Ytoonddgldmfleaa.QSchedPlays Go.Proofs.YtoonddgldmfleaaW.PrintWords Go.Proofs.YtoonddgldmfleaaW.PrintLast
open Go.Proofs.Ytoonddgldmfleaa.P64
namespace SchedPlays0
theorem rd_nat (l : List Int) (i : Nat) : rd l (i : Int) = l.getD i 0 := rfl
theorem getD_lt {α : Type} (l : List α) (i : Nat) (d : α) (h : i < l.length) : l.getD i d = l[i] := by simp [List.getD, List.getElem?_eq_getElem h]
theorem wrapS (i : Nat) (h : i ≤ 17592186044416) : wrap64 ((i : Int) + 1) = ((i + 1 : Nat) : Int) := by rw [wrap64_id (by omega) (by omega)]; omega
theorem index_l (l : List Int) (hl : l.length ≤ 1048576) : ∀ (m i k : Nat), i + m = l.length → m < k → ∃ r, slices_IndexFunc_int_int.l0 k l (l.length : Int) (i : Int) = some r ∧ (0 ≤ r ↔ ∃ t ∈ l.drop i, t ≠ -2)
  | 0, i, k + 1, h, _ => by
    rw [slices_IndexFunc_int_int.l0, if_neg (by omega)]
    refine ⟨-1, rfl, ?_⟩
    rw [List.drop_eq_nil_of_le (by omega)]
    simp
  | m + 1, i, k + 1, h, hk => by
    rw [slices_IndexFunc_int_int.l0, if_pos (by omega), if_pos (by omega), if_pos (by omega), rd_nat, getD_lt l i 0 (by omega), wrapS i (by omega), List.drop_eq_getElem_cons (by omega : i < l.length)]
    unfold sched_over_1.f
    rw [Option.bind_some]
    by_cases h0 : l[i] = -2
    · rw [h0, if_neg (by decide)]
      obtain ⟨r, e, hr⟩ := index_l l hl m (i + 1) k (by omega) (by omega)
      exact ⟨r, e, by rw [hr]; simp⟩
    · rw [if_pos (bne_iff_ne.2 h0)]
      exact ⟨_, rfl, ⟨fun _ => ⟨l[i], List.mem_cons_self, h0⟩, fun _ => by omega⟩⟩
theorem over_f (T W N : Int) (ld : List Int) (lb : List Bool) (C : Bool) (hl : ld.length ≤ 1048576) (k : Nat) (hk : ld.length < k) : sched_over.f k T W N ld lb C = some (decide (∀ t ∈ ld, t = -2)) := by
  obtain ⟨r, e, hr⟩ := index_l ld hl ld.length 0 k (by omega) hk
  unfold sched_over.f slices_ContainsFunc_int_int.f slices_IndexFunc_int_int.f
  rw [show (0 : Int) = ((0 : Nat) : Int) from rfl, e, Option.bind_some, Option.bind_some]
  congr 1
  rw [List.drop_zero] at hr
  by_cases h : ∃ t ∈ ld, t ≠ -2
  · rw [decide_eq_true (show r ≥ ((0 : Nat) : Int) from hr.2 h), decide_eq_false (fun hh => by obtain ⟨t, ht, hn⟩ := h; exact hn (hh t ht))]; rfl
  · rw [decide_eq_false (show ¬ r ≥ ((0 : Nat) : Int) from fun hh => h (hr.1 hh)), decide_eq_true (fun t ht => Classical.byContradiction fun hn => h ⟨t, ht, hn⟩)]; rfl
/-- Those who have not ended, from the i-th on. -/
def live : List Int → Nat → List Int
  | [], _ => []
  | t :: r, i => if t = -2 then live r (i + 1) else ((i + 1 : Nat) : Int) :: live r (i + 1)
theorem live_length : ∀ (l : List Int) (i : Nat), (live l i).length ≤ l.length
  | [], _ => by simp [live]
  | t :: r, i => by
    have := live_length r (i + 1)
    rw [live]
    split <;> simp <;> omega
theorem mem_live : ∀ (l : List Int) (i : Nat) (x : Int), x ∈ live l i → ∃ j : Nat, j < l.length ∧ x = ((i + j + 1 : Nat) : Int) ∧ l.getD j 0 ≠ -2
  | [], _, x, h => by simp [live] at h
  | t :: r, i, x, h => by
    have ih := mem_live r (i + 1) x
    have go : x ∈ live r (i + 1) → ∃ j : Nat, j < (t :: r).length ∧ x = ((i + j + 1 : Nat) : Int) ∧ (t :: r).getD j 0 ≠ -2 := fun h => by
      obtain ⟨j, h1, h2, h3⟩ := ih h
      exact ⟨j + 1, by simp; omega, by rw [h2]; congr 1; omega, by simpa using h3⟩
    rw [live] at h
    by_cases h0 : t = -2
    · rw [if_pos h0] at h; exact go h
    · rw [if_neg h0] at h
      rcases List.mem_cons.1 h with rfl | h
      · exact ⟨0, by simp, by simp, by simpa using h0⟩
      · exact go h
theorem ready_l (l : List Int) (hl : l.length ≤ 1048576) : ∀ (m i k : Nat) (out : List Int), i + m = l.length → m < k → out.length + m < 17592186044416 → sched_ready.l0 k out l (l.length : Int) (i : Int) = some (out ++ live (l.drop i) i)
  | 0, i, k + 1, out, h, _, _ => by
    rw [sched_ready.l0, if_neg (by omega), List.drop_eq_nil_of_le (by omega)]
    simp [live]
  | m + 1, i, k + 1, out, h, hk, ho => by
    rw [sched_ready.l0, if_pos (by omega), if_pos (by omega), if_pos (by omega), rd_nat, getD_lt l i 0 (by omega), wrapS i (by omega), List.drop_eq_getElem_cons (by omega : i < l.length), live]
    by_cases h0 : l[i] = -2
    · rw [if_pos h0, if_pos h0]
      exact ready_l l hl m (i + 1) k out (by omega) (by omega) (by omega)
    · rw [if_neg h0, if_neg h0, if_pos (by omega), ready_l l hl m (i + 1) k _ (by omega) (by omega) (by simp; omega)]
      simp
def readyL (ld : List Int) (C : Bool) : List Int := (if (∀ t ∈ ld, t = -2) ∧ C = false then [0] else []) ++ live ld 0
theorem ready_f (T W N : Int) (ld : List Int) (lb : List Bool) (C : Bool) (hl : ld.length ≤ 1048576) (k : Nat) (hk : ld.length + 3 < k) : sched_ready.f k T W N ld lb C = some (readyL ld C) := by
  obtain ⟨k, rfl⟩ : ∃ m, k = m + 2 := ⟨k - 2, by omega⟩
  have go : ∀ out : List Int, out.length ≤ 1 → sched_ready.l0 k out ld (ld.length : Int) 0 = some (out ++ live ld 0) := fun out ho => ready_l ld hl ld.length 0 k out (by omega) (by omega) (by omega)
  unfold sched_ready.f readyL
  rw [over_f T W N ld lb C hl _ (by omega), Option.bind_some]
  by_cases h : ∀ t ∈ ld, t = -2
  · rw [decide_eq_true h, if_pos rfl, sched_ready.j0]
    cases C with
    | true => rw [if_neg (by decide), if_neg (by simp), sched_ready.j1, go [] (by simp)]
    | false => rw [if_pos (by decide), if_pos (by simp), sched_ready.j1, if_pos ⟨h, rfl⟩, go _ (by simp)]; rfl
  · rw [decide_eq_false h, if_neg (by decide), if_neg (fun hh => h hh.1), sched_ready.j0, if_neg (by decide), sched_ready.j1, go [] (by simp)]
/-- Who may act. -/
def Can (ld : List Int) (C : Bool) (who : Int) : Prop := (who = 0 ∧ C = false ∧ ∀ t ∈ ld, t = -2) ∨ ∃ j : Nat, j < ld.length ∧ who = (j : Int) + 1 ∧ ld.getD j 0 ≠ -2
theorem can_of {ld : List Int} {C : Bool} {x : Int} (h : x ∈ readyL ld C) : Can ld C x := by
  unfold readyL at h
  rcases List.mem_append.1 h with h | h
  · by_cases h0 : (∀ t ∈ ld, t = -2) ∧ C = false
    · rw [if_pos h0] at h
      exact .inl ⟨by simpa using h, h0.2, h0.1⟩
    · rw [if_neg h0] at h; simp at h
  · obtain ⟨j, h1, h2, h3⟩ := mem_live ld 0 x h
    exact .inr ⟨j, h1, by rw [h2]; omega, h3⟩
/-- How many acts a worker is far from its end. -/
def wt (t : Int) : Int := if 0 ≤ t then 2 else if t = -1 then 1 else 0
def sumv : List Int → Int
  | [] => 0
  | t :: r => wt t + sumv r
theorem wt_nonneg (t : Int) : 0 ≤ wt t := by unfold wt; split <;> (try split) <;> omega
theorem sumv_nonneg : ∀ l : List Int, 0 ≤ sumv l
  | [] => Int.le_refl _
  | t :: r => by have := wt_nonneg t; have := sumv_nonneg r; rw [sumv]; omega
theorem sumv_set : ∀ (l : List Int) (j : Nat) (x : Int), j < l.length → sumv (l.set j x) = sumv l - wt (l.getD j 0) + wt x
  | [], _, _, h => by simp at h
  | t :: r, 0, x, _ => by simp [sumv]; omega
  | t :: r, j + 1, x, h => by
    have := sumv_set r j x (by simpa using h)
    simp [sumv] at this ⊢
    omega
theorem sumv_repl : ∀ n : Nat, sumv (List.replicate n (-1)) = n
  | 0 => rfl
  | n + 1 => by rw [List.replicate_succ, sumv, sumv_repl n]; simp [wt]; omega
def left (T N : Int) (ld : List Int) (C : Bool) : Int := 2 * (T - N) + sumv ld + (if C = true then 0 else 1)
/-- A state that may be. -/
structure Inv (T W N : Int) (ld : List Int) (lb : List Bool) (C : Bool) : Prop where
  t0 : 0 ≤ T
  t1 : T ≤ 1048576
  w0 : 1 ≤ W
  w1 : W ≤ 64
  n0 : 0 ≤ N
  n1 : N ≤ T
  hd : (ld.length : Int) = W
  hb : (lb.length : Int) = T
  sh : ∀ t ∈ ld, t = -1 ∨ (t = -2 ∧ N = T) ∨ (0 ≤ t ∧ t < N)
  ct : ∀ i : Nat, (i : Int) < T → (if lb.getD i false = true then 1 else 0) + ld.count (i : Int) = if (i : Int) < N then 1 else 0
  cl : C = true → ∀ t ∈ ld, t = -2
/-- What an act is. -/
inductive Move (T N : Int) (ld : List Int) (lb : List Bool) (C : Bool) : Int → Int → List Int → List Bool → Bool → Int → Int → Int → Prop
  | close (hC : C = false) (h : ∀ t ∈ ld, t = -2) : Move T N ld lb C 0 N ld lb true 0 4 (-1)
  | finish (j t : Nat) (hj : j < ld.length) (ht : ld[j] = (t : Int)) (hN : (t : Int) < N) (hb : t < lb.length) (hf : lb[t] = false) (hC : C = false) : Move T N ld lb C ((j : Int) + 1) N (ld.set j (-1)) (lb.set t true) C ((j : Int) + 1) 2 t
  | take (j : Nat) (hj : j < ld.length) (ht : ld[j] = -1) (hN : N < T) (hC : C = false) : Move T N ld lb C ((j : Int) + 1) (N + 1) (ld.set j N) lb C ((j : Int) + 1) 1 N
  | stop (j : Nat) (hj : j < ld.length) (ht : ld[j] = -1) (hN : N = T) (hC : C = false) : Move T N ld lb C ((j : Int) + 1) N (ld.set j (-2)) lb C ((j : Int) + 1) 3 (-1)
theorem count_pos_of {l : List Int} {j : Nat} (hj : j < l.length) {x : Int} (h : l[j] = x) : 1 ≤ l.count x := List.count_pos_iff.2 (h ▸ List.getElem_mem hj)
theorem move_of {T W N : Int} {ld : List Int} {lb : List Bool} {C : Bool} (I : Inv T W N ld lb C) {who : Int} (h : Can ld C who) : ∃ N' ld' lb' C' a b c, sched_act.f T W N ld lb C who = some (N', ld', lb', C', a, b, c) ∧ Move T N ld lb C who N' ld' lb' C' a b c := by
  obtain ⟨t0, t1, w0, w1, n0, n1, hd, hb, sh, ct, cl⟩ := I
  unfold sched_act.f
  rcases h with ⟨rfl, hC, h⟩ | ⟨j, hj, rfl, hne⟩
  · rw [if_pos rfl]
    exact ⟨_, _, _, _, _, _, _, rfl, .close hC h⟩
  · rw [getD_lt ld j 0 hj] at hne
    have hC : C = false := by
      cases C with
      | false => rfl
      | true => exact absurd (cl rfl _ (List.getElem_mem hj)) hne
    rw [if_neg (by omega), if_pos (by omega), show (j : Int) + 1 - 1 = (j : Int) by omega, rd_nat, getD_lt ld j 0 hj, Int.toNat_natCast]
    have hs := sh _ (List.getElem_mem hj)
    by_cases h0 : 0 ≤ ld[j]
    · obtain ⟨t, ht⟩ : ∃ t : Nat, ld[j] = (t : Int) := ⟨ld[j].toNat, by omega⟩
      have hN : (t : Int) < N := by omega
      have hl : t < lb.length := by omega
      have hf : lb[t] = false := by
        have := ct t (by omega)
        have h1 := count_pos_of hj ht
        rw [getD_lt lb t false hl] at this
        cases h2 : lb[t] with
        | false => rfl
        | true => rw [h2, if_pos rfl, if_pos hN] at this; omega
      rw [if_pos h0, ht, if_pos (by omega), Int.toNat_natCast]
      exact ⟨_, _, _, _, _, _, _, rfl, .finish j t hj ht hN hl hf hC⟩
    · have ht : ld[j] = -1 := by omega
      rw [if_neg h0]
      by_cases h1 : N < T
      · rw [if_pos h1, if_pos (by omega)]
        exact ⟨_, _, _, _, _, _, _, rfl, .take j hj ht h1 hC⟩
      · rw [if_neg h1]
        exact ⟨_, _, _, _, _, _, _, rfl, .stop j hj ht (by omega) hC⟩
theorem getD_set_eq {α : Type} (l : List α) (i : Nat) (x d : α) (h : i < l.length) : (l.set i x).getD i d = x := by simp [List.getD, h]
theorem getD_set_ne {α : Type} (l : List α) (i j : Nat) (x d : α) (h : i ≠ j) : (l.set i x).getD j d = l.getD j d := by simp [List.getD, List.getElem?_set_ne h]
theorem count_set' (l : List Int) (j : Nat) (hj : j < l.length) (x y : Int) : (l.set j x).count y + (if l[j] = y then 1 else 0) = l.count y + (if x = y then 1 else 0) := by
  rw [List.count_set hj]
  have h0 : l[j] = y → 1 ≤ l.count y := fun h => count_pos_of hj h
  simp only [beq_iff_eq]
  by_cases h1 : l[j] = y
  · have h3 := h0 h1
    rw [if_pos h1]
    by_cases h2 : x = y
    · rw [if_pos h2]; omega
    · rw [if_neg h2]; omega
  · rw [if_neg h1]
    omega
theorem move_inv {T W N : Int} {ld : List Int} {lb : List Bool} {C : Bool} (I : Inv T W N ld lb C) {who N' a b c : Int} {ld' : List Int} {lb' : List Bool} {C' : Bool} (h : Move T N ld lb C who N' ld' lb' C' a b c) : Inv T W N' ld' lb' C' ∧ left T N' ld' C' = left T N ld C - 1 := by
  obtain ⟨t0, t1, w0, w1, n0, n1, hd, hb, sh, ct, cl⟩ := I
  have wd : ∀ j, (hj : j < ld.length) → ld.getD j 0 = ld[j] := fun j hj => getD_lt ld j 0 hj
  cases h with
  | close hC h =>
    exact ⟨⟨t0, t1, w0, w1, n0, n1, hd, hb, sh, ct, fun _ => h⟩, by unfold left; rw [hC]; simp⟩
  | finish j t hj ht hN hl hf hC =>
    refine ⟨⟨t0, t1, w0, w1, n0, n1, by simpa using hd, by simpa using hb, ?_, ?_, fun h => by rw [hC] at h; cases h⟩, ?_⟩
    · intro x hx
      rcases List.mem_or_eq_of_mem_set hx with hx | rfl
      · exact sh x hx
      · exact .inl rfl
    · intro i hi
      have h1 := ct i hi
      have h2 := count_set' ld j hj (-1) (i : Int)
      rw [if_neg (show ¬ (-1 : Int) = (i : Int) by omega), ht] at h2
      by_cases h3 : t = i
      · subst h3
        rw [if_pos rfl] at h2
        rw [getD_lt lb t false hl, hf, if_neg (by decide)] at h1
        rw [getD_set_eq lb t true false hl, if_pos rfl]
        omega
      · rw [if_neg (show ¬ (t : Int) = (i : Int) by omega)] at h2
        rw [getD_set_ne lb t i true false h3]
        omega
    · unfold left
      rw [sumv_set ld j _ hj, wd j hj, ht]
      simp [wt]; omega
  | take j hj ht hN hC =>
    refine ⟨⟨t0, t1, w0, w1, by omega, by omega, by simpa using hd, hb, ?_, ?_, fun h => by rw [hC] at h; cases h⟩, ?_⟩
    · intro x hx
      rcases List.mem_or_eq_of_mem_set hx with hx | rfl
      · rcases sh x hx with h | h | h
        · exact .inl h
        · omega
        · exact .inr (.inr ⟨h.1, by omega⟩)
      · exact .inr (.inr ⟨n0, by omega⟩)
    · intro i hi
      have h1 := ct i hi
      have h2 := count_set' ld j hj N (i : Int)
      rw [if_neg (show ¬ ld[j] = (i : Int) by omega)] at h2
      by_cases h3 : N = (i : Int)
      · rw [if_pos h3] at h2
        rw [if_neg (show ¬ (i : Int) < N by omega)] at h1
        rw [if_pos (show (i : Int) < N + 1 by omega)]
        omega
      · rw [if_neg h3] at h2
        by_cases h4 : (i : Int) < N
        · rw [if_pos h4] at h1
          rw [if_pos (show (i : Int) < N + 1 by omega)]
          omega
        · rw [if_neg h4] at h1
          rw [if_neg (show ¬ (i : Int) < N + 1 by omega)]
          omega
    · unfold left
      rw [sumv_set ld j _ hj, wd j hj, ht]
      unfold wt
      rw [if_pos n0]
      simp; omega
  | stop j hj ht hN hC =>
    refine ⟨⟨t0, t1, w0, w1, n0, n1, by simpa using hd, hb, ?_, ?_, fun h => by rw [hC] at h; cases h⟩, ?_⟩
    · intro x hx
      rcases List.mem_or_eq_of_mem_set hx with hx | rfl
      · exact sh x hx
      · exact .inr (.inl ⟨rfl, hN⟩)
    · intro i hi
      have h1 := ct i hi
      have h2 := count_set' ld j hj (-2) (i : Int)
      rw [if_neg (show ¬ (-2 : Int) = (i : Int) by omega), if_neg (show ¬ ld[j] = (i : Int) by omega)] at h2
      omega
    · unfold left
      rw [sumv_set ld j _ hj, wd j hj, ht]
      simp [wt]; omega
/-- A run of acts to its end. -/
inductive Run (T W : Int) : Int → List Int → List Bool → Bool → List S52 → Int → List Int → List Bool → Bool → Prop
  | done {N ld lb C} (I : Inv T W N ld lb C) (h : (∀ t ∈ ld, t = -2) ∧ C = true) : Run T W N ld lb C [] N ld lb C
  | act {N ld lb C who N1 ld1 lb1 C1 a b c acts N2 ld2 lb2 C2} (I : Inv T W N ld lb C) (h : Move T N ld lb C who N1 ld1 lb1 C1 a b c) (r : Run T W N1 ld1 lb1 C1 acts N2 ld2 lb2 C2) : Run T W N ld lb C (⟨a, b, c⟩ :: acts) N2 ld2 lb2 C2
theorem left_nonneg {T W N : Int} {ld : List Int} {lb : List Bool} {C : Bool} (I : Inv T W N ld lb C) : 0 ≤ left T N ld C := by
  have := sumv_nonneg ld; have := I.n1
  unfold left
  split <;> omega
theorem pick_mem (l : List Int) (hl : 0 < l.length) (s : List Int) (n : Nat) : rd l (sched_Play.pick s n l.length) ∈ l := by
  have go : ∀ i : Int, 0 ≤ i → i < (l.length : Int) → rd l i ∈ l := fun i h0 h1 => by
    unfold rd
    rw [getD_lt l i.toNat 0 (by omega)]
    exact List.getElem_mem _
  unfold sched_Play.pick
  split
  · exact go _ (Int.emod_nonneg _ (by omega)) (Int.emod_lt_of_pos _ (by omega))
  · exact go 0 (by omega) (by omega)
theorem inv_new (T W : Int) (t0 : 0 ≤ T) (t1 : T ≤ 1048576) (w0 : 1 ≤ W) (w1 : W ≤ 64) : Inv T W 0 (List.replicate W.toNat (-1)) (List.replicate T.toNat false) false := by
  refine ⟨t0, t1, w0, w1, Int.le_refl _, t0, by simp; omega, by simp; omega, ?_, ?_, fun h => by cases h⟩
  · intro t ht; exact .inl (List.eq_of_mem_replicate ht)
  · intro i hi
    rw [if_neg (show ¬ (i : Int) < 0 by omega), List.count_replicate, getD_lt _ _ _ (by simp; omega)]
    simp
theorem new_f (T W : Int) (t0 : 0 ≤ T) (t1 : T ≤ 1048576) (w0 : 1 ≤ W) (w1 : W ≤ 64) : sched_New.f T W = some (T, W, 0, List.replicate W.toNat (-1), List.replicate T.toNat false, false, 0) := by
  unfold sched_New.f sched_fits.f slices_Repeat_int_int.f
  rw [if_pos t0, if_pos t1, if_pos w0, Option.bind_some, decide_eq_true w1, if_pos rfl, if_pos ⟨rfl, by omega, by omega⟩, Option.bind_some, if_pos t0, if_pos (by omega)]
  rfl
theorem fixed_f (k : Nat) (hk : 40 ≤ k) : hornbeamlaw21_fixed.f k = some true := at_rounds (g := fun k => hornbeamlaw21_fixed.f k) hornbeamlaw21_fixed.mono hk (by decide +kernel)
def Sh (T N t : Int) : Prop := t = -1 ∨ (t = -2 ∧ N = T) ∨ (0 ≤ t ∧ t < N)
theorem readyL_length (ld : List Int) (C : Bool) : (readyL ld C).length ≤ ld.length + 1 := by
  unfold readyL
  have := live_length ld 0
  rw [List.length_append]
  split <;> simp <;> omega
theorem does_l (T W N : Int) (ld : List Int) (lb : List Bool) (C : Bool) (x : Int) (hl : ld.length ≤ 1048576) : ∀ (m i k : Nat) (c : Nat), i + m = ld.length → m < k → c ≤ i → hornbeamref21_does.l0 k x (c : Int) (i : Int) T W N ld lb C = some ((c + (ld.drop i).count x : Nat) : Int)
  | 0, i, k + 1, c, h, _, _ => by
    rw [hornbeamref21_does.l0, if_neg (by omega), List.drop_eq_nil_of_le (by omega)]; rfl
  | m + 1, i, k + 1, c, h, hk, hc => by
    rw [hornbeamref21_does.l0, if_pos (by omega), if_pos (by omega), rd_nat, getD_lt ld i 0 (by omega), wrapS i (by omega), List.drop_eq_getElem_cons (by omega : i < ld.length)]
    by_cases h0 : ld[i] = x
    · rw [if_pos h0, wrapS c (by omega), does_l T W N ld lb C x hl m (i + 1) k (c + 1) (by omega) (by omega) (by omega), h0, List.count_cons_self]
      congr 2; omega
    · rw [if_neg h0, does_l T W N ld lb C x hl m (i + 1) k c (by omega) (by omega) (by omega), List.count_cons_of_ne h0]
theorem does_f (T W N : Int) (ld : List Int) (lb : List Bool) (C : Bool) (x : Int) (hl : ld.length ≤ 1048576) (k : Nat) (hk : ld.length < k) : hornbeamref21_does.f k T W N ld lb C x = some (ld.count x : Int) := by
  have := does_l T W N ld lb C x hl ld.length 0 k 0 (by omega) hk (by omega)
  rw [List.drop_zero, Nat.zero_add] at this
  exact this
theorem all_count {W : Int} {ld : List Int} (hd : (ld.length : Int) = W) : (ld.count (-2) : Int) = W ↔ ∀ t ∈ ld, t = -2 := by
  constructor
  · intro h t ht
    exact (List.count_eq_length.1 (show ld.count (-2) = ld.length by omega) t ht).symm
  · intro h
    rw [List.count_eq_length.2 (fun t ht => (h t ht).symm)]; exact hd
theorem refmay_l1 (T W N : Int) (ld : List Int) (lb : List Bool) (C : Bool) (hd : (ld.length : Int) = W) (hl : ld.length ≤ 1048576) (n0 : 0 ≤ N) (n1 : N ≤ T) : ∀ (m i k : Nat), i + m = ld.length → 2 * m + ld.length + 3 < k → ∃ r, hornbeamref21_May.l1 k (i : Int) T W N ld lb C = some r ∧ (r = true ↔ (∀ t ∈ ld.drop i, Sh T N t) ∧ (C = true → ∀ t ∈ ld, t = -2))
  | 0, i, k + 1, h, hk => by
    rw [hornbeamref21_May.l1, if_neg (by omega), List.drop_eq_nil_of_le (by omega)]
    cases C with
    | true =>
      rw [if_pos rfl, does_f T W N ld lb true (-2) hl k (by omega), Option.bind_some]
      refine ⟨_, rfl, ?_⟩
      rw [beq_iff_eq, all_count hd]
      exact ⟨fun z => ⟨fun t ht => (by cases ht), fun _ => z⟩, fun z => z.2 rfl⟩
    | false =>
      rw [if_neg (by decide)]
      exact ⟨_, rfl, ⟨fun _ => ⟨fun t ht => (by cases ht), fun z => (by cases z)⟩, fun _ => rfl⟩⟩
  | m + 1, i, k + 1, h, hk => by
    rw [hornbeamref21_May.l1, if_pos (by omega), if_pos (by omega), rd_nat, getD_lt ld i 0 (by omega), List.drop_eq_getElem_cons (by omega : i < ld.length)]
    obtain ⟨k, rfl⟩ : ∃ q, k = q + 1 := ⟨k - 1, by omega⟩
    have bad : ¬ Sh T N ld[i] → ∃ r, (some false : Option Bool) = some r ∧ (r = true ↔ (∀ t ∈ ld[i] :: ld.drop (i + 1), Sh T N t) ∧ (C = true → ∀ t ∈ ld, t = -2)) := fun hb => ⟨false, rfl, ⟨fun z => (by cases z), fun z => absurd (z.1 _ List.mem_cons_self) hb⟩⟩
    have good : Sh T N ld[i] → ∃ r, hornbeamref21_May.l1 k (wrap64 ((i : Int) + 1)) T W N ld lb C = some r ∧ (r = true ↔ (∀ t ∈ ld[i] :: ld.drop (i + 1), Sh T N t) ∧ (C = true → ∀ t ∈ ld, t = -2)) := fun hs => by
      obtain ⟨r, e, hr⟩ := refmay_l1 T W N ld lb C hd hl n0 n1 m (i + 1) k (by omega) (by omega)
      rw [wrapS i (by omega)]
      refine ⟨r, e, hr.trans ⟨fun z => ⟨fun t ht => ?_, z.2⟩, fun z => ⟨fun t ht => z.1 t (List.mem_cons_of_mem _ ht), z.2⟩⟩⟩
      rcases List.mem_cons.1 ht with rfl | ht
      · exact hs
      · exact z.1 t ht
    by_cases h1 : ld[i] < -2
    · rw [if_pos h1, hornbeamref21_May.j4, if_pos rfl]; exact bad (by unfold Sh; omega)
    · rw [if_neg h1, hornbeamref21_May.j4]
      by_cases h2 : ld[i] ≥ N
      · rw [decide_eq_true h2, if_pos rfl]; exact bad (by unfold Sh; omega)
      · rw [decide_eq_false h2, if_neg (by decide), if_pos (by omega), if_pos (by omega), rd_nat, getD_lt ld i 0 (by omega)]
        by_cases h3 : ld[i] = -2
        · rw [if_pos h3]
          by_cases h4 : N < T
          · rw [if_pos h4]; exact bad (by unfold Sh; omega)
          · rw [if_neg h4]; exact good (by unfold Sh; omega)
        · rw [if_neg h3]; exact good (by unfold Sh; omega)
theorem refmay_l0 (T W N : Int) (ld : List Int) (lb : List Bool) (C : Bool) (hd : (ld.length : Int) = W) (hb : (lb.length : Int) = T) (hl : ld.length ≤ 1048576) (n0 : 0 ≤ N) (n1 : N ≤ T) (t1 : T ≤ 1048576) : ∀ (m i k : Nat), i + m = lb.length → 2 * m + 3 * ld.length + 5 < k → ∃ r, hornbeamref21_May.l0 k (i : Int) T W N ld lb C = some r ∧ (r = true ↔ (∀ j : Nat, i ≤ j → (j : Int) < T → (if lb.getD j false = true then 1 else 0) + ld.count (j : Int) = if (j : Int) < N then 1 else 0) ∧ (∀ t ∈ ld, Sh T N t) ∧ (C = true → ∀ t ∈ ld, t = -2))
  | 0, i, k + 1, h, hk => by
    rw [hornbeamref21_May.l0, if_neg (by omega)]
    obtain ⟨r, e, hr⟩ := refmay_l1 T W N ld lb C hd hl n0 n1 ld.length 0 k (by omega) (by omega)
    rw [List.drop_zero] at hr
    exact ⟨r, e, hr.trans ⟨fun z => ⟨fun j h1 h2 => by omega, z.1, z.2⟩, fun z => z.2⟩⟩
  | m + 1, i, k + 1, h, hk => by
    rw [hornbeamref21_May.l0, if_pos (by omega), does_f T W N ld lb C (i : Int) hl k (by omega), Option.bind_some]
    obtain ⟨k, rfl⟩ : ∃ q, k = q + 1 := ⟨k - 1, by omega⟩
    have e0 : rdOf false lb (i : Int) = lb.getD i false := rfl
    have bad : ¬ ((if lb.getD i false = true then 1 else 0) + ld.count (i : Int) = if (i : Int) < N then 1 else 0) → ∃ r, (some false : Option Bool) = some r ∧ (r = true ↔ (∀ j : Nat, i ≤ j → (j : Int) < T → (if lb.getD j false = true then 1 else 0) + ld.count (j : Int) = if (j : Int) < N then 1 else 0) ∧ (∀ t ∈ ld, Sh T N t) ∧ (C = true → ∀ t ∈ ld, t = -2)) := fun hbad => ⟨false, rfl, ⟨fun z => (by cases z), fun z => absurd (z.1 i (Nat.le_refl _) (by omega)) hbad⟩⟩
    have good : ((if lb.getD i false = true then 1 else 0) + ld.count (i : Int) = if (i : Int) < N then 1 else 0) → ∃ r, hornbeamref21_May.l0 k (wrap64 ((i : Int) + 1)) T W N ld lb C = some r ∧ (r = true ↔ (∀ j : Nat, i ≤ j → (j : Int) < T → (if lb.getD j false = true then 1 else 0) + ld.count (j : Int) = if (j : Int) < N then 1 else 0) ∧ (∀ t ∈ ld, Sh T N t) ∧ (C = true → ∀ t ∈ ld, t = -2)) := fun hg => by
      obtain ⟨r, e, hr⟩ := refmay_l0 T W N ld lb C hd hb hl n0 n1 t1 m (i + 1) k (by omega) (by omega)
      rw [wrapS i (by omega)]
      refine ⟨r, e, hr.trans ⟨fun z => ⟨fun j h1 h2 => ?_, z.2⟩, fun z => ⟨fun j h1 h2 => z.1 j (by omega) h2, z.2⟩⟩⟩
      by_cases hj : j = i
      · rw [hj]; exact hg
      · exact z.1 j (by omega) h2
    by_cases h1 : (i : Int) ≥ N
    · rw [if_pos h1]
      by_cases h2 : (ld.count (i : Int) : Int) > 0
      · rw [if_pos h2, hornbeamref21_May.j2, if_pos rfl]
        exact bad (by rw [if_neg (show ¬ (i : Int) < N by omega)]; omega)
      · rw [if_neg h2, if_pos (by omega), if_pos (by omega), e0, hornbeamref21_May.j2]
        by_cases h3 : lb.getD i false = true
        · rw [if_pos h3]
          exact bad (by rw [if_pos h3, if_neg (show ¬ (i : Int) < N by omega)]; omega)
        · rw [if_neg h3, if_neg (show ¬ (i : Int) < N by omega)]
          exact good (by rw [if_neg h3, if_neg (show ¬ (i : Int) < N by omega)]; omega)
    · rw [if_neg h1, hornbeamref21_May.j2, if_neg (by decide), if_pos (show (i : Int) < N by omega), if_pos (by omega), if_pos (by omega), e0]
      by_cases h3 : lb.getD i false = true
      · rw [if_pos h3]
        by_cases h4 : (ld.count (i : Int) : Int) = 0
        · rw [if_pos h4]
          exact good (by rw [if_pos h3, if_pos (show (i : Int) < N by omega)]; omega)
        · rw [if_neg h4]
          exact bad (by rw [if_pos h3, if_pos (show (i : Int) < N by omega)]; omega)
      · rw [if_neg h3]
        by_cases h4 : (ld.count (i : Int) : Int) = 1
        · rw [if_pos h4]
          exact good (by rw [if_neg h3, if_pos (show (i : Int) < N by omega)]; omega)
        · rw [if_neg h4]
          exact bad (by rw [if_neg h3, if_pos (show (i : Int) < N by omega)]; omega)
theorem refmay_f (T W N : Int) (ld : List Int) (lb : List Bool) (C : Bool) (hl : ld.length ≤ 1048576) (k : Nat) (hk : 3000000 + 3 * ld.length < k) : ∃ r, hornbeamref21_May.f k T W N ld lb C = some r ∧ (r = true ↔ Inv T W N ld lb C) := by
  obtain ⟨k, rfl⟩ : ∃ q, k = q + 1 := ⟨k - 1, by omega⟩
  have bad : ¬ Inv T W N ld lb C → ∃ r, hornbeamref21_May.j0 (k + 1) true T W N ld lb C = some r ∧ (r = true ↔ Inv T W N ld lb C) := fun hb => by
    rw [hornbeamref21_May.j0, if_pos rfl]
    exact ⟨_, rfl, ⟨fun z => (by cases z), fun z => absurd z hb⟩⟩
  unfold hornbeamref21_May.f
  by_cases t0 : T < 0
  · rw [if_pos t0]; exact bad (fun I => by have := I.t0; omega)
  · rw [if_neg t0]
    by_cases t1 : T > 1048576
    · rw [if_pos t1]; exact bad (fun I => by have := I.t1; omega)
    · rw [if_neg t1]
      by_cases w0 : W < 1
      · rw [if_pos w0]; exact bad (fun I => by have := I.w0; omega)
      · rw [if_neg w0]
        by_cases w1 : W > 64
        · rw [if_pos w1]; exact bad (fun I => by have := I.w1; omega)
        · rw [if_neg w1]
          by_cases h1 : (ld.length : Int) = W
          · rw [if_pos h1]
            by_cases h2 : (lb.length : Int) = T
            · rw [if_pos h2]
              by_cases h3 : N < 0
              · rw [if_pos h3]; exact bad (fun I => by have := I.n0; omega)
              · rw [if_neg h3]
                by_cases h4 : N > T
                · rw [decide_eq_true h4]; exact bad (fun I => by have := I.n1; omega)
                · rw [decide_eq_false h4, hornbeamref21_May.j0, if_neg (by decide)]
                  obtain ⟨r, e, hr⟩ := refmay_l0 T W N ld lb C h1 h2 hl (by omega) (by omega) (by omega) lb.length 0 k (by omega) (by omega)
                  exact ⟨r, e, hr.trans ⟨fun z => ⟨by omega, by omega, by omega, by omega, by omega, by omega, h1, h2, z.2.1, fun i hi => z.1 i (Nat.zero_le _) hi, z.2.2⟩, fun I => ⟨fun j _ hj => I.ct j hj, I.sh, I.cl⟩⟩⟩
            · rw [if_neg h2]; exact bad (fun I => h2 I.hb)
          · rw [if_neg h1]; exact bad (fun I => h1 I.hd)
theorem refready_l {T W N : Int} {ld : List Int} {lb : List Bool} {C : Bool} (I : Inv T W N ld lb C) : ∀ (m i k : Nat) (out : List Int), i + m = ld.length → m < k → out.length + m < 17592186044416 → hornbeamref21_Ready.l0 k out (i : Int) T W N ld lb C = some (out ++ live (ld.drop i) i)
  | 0, i, k + 1, out, h, _, _ => by
    have hd := I.hd
    rw [hornbeamref21_Ready.l0, if_neg (by omega), List.drop_eq_nil_of_le (by omega)]
    simp [live]
  | m + 1, i, k + 1, out, h, hk, ho => by
    have hd := I.hd; have hw := I.w1
    rw [hornbeamref21_Ready.l0, if_pos (by omega), if_pos (by omega), if_pos (by omega), rd_nat, getD_lt ld i 0 (by omega), wrapS i (by omega), List.drop_eq_getElem_cons (by omega : i < ld.length), live]
    have hs := I.sh _ (List.getElem_mem (by omega : i < ld.length))
    by_cases h0 : ld[i] = -2
    · rw [if_neg (by omega), if_pos h0]
      exact refready_l I m (i + 1) k out (by omega) (by omega) (by omega)
    · rw [if_pos (by omega), if_neg h0, if_pos (by omega), refready_l I m (i + 1) k _ (by omega) (by omega) (by simp; omega)]
      simp
theorem refready_f {T W N : Int} {ld : List Int} {lb : List Bool} {C : Bool} (I : Inv T W N ld lb C) (k : Nat) (hk : 4000000 < k) : hornbeamref21_Ready.f k T W N ld lb C = some (readyL ld C) := by
  have hd := I.hd; have hw := I.w1
  obtain ⟨r, e, hr⟩ := refmay_f T W N ld lb C (by omega) k (by omega)
  obtain ⟨k, rfl⟩ : ∃ q, k = q + 2 := ⟨k - 2, by omega⟩
  unfold hornbeamref21_Ready.f readyL
  rw [Option.bind_some, e, hr.2 I, Option.bind_some, if_pos rfl, does_f T W N ld lb C (-2) (by omega) _ (by omega), Option.bind_some]
  have go : ∀ out : List Int, out.length ≤ 1 → hornbeamref21_Ready.l0 k out 0 T W N ld lb C = some (out ++ live ld 0) := fun out ho => refready_l I ld.length 0 k out (by omega) (by omega) (by omega)
  by_cases h : ∀ t ∈ ld, t = -2
  · rw [if_pos ((all_count hd).2 h), hornbeamref21_Ready.j0]
    cases C with
    | true => rw [if_neg (by decide), if_neg (by simp), hornbeamref21_Ready.j1, go [] (by simp)]
    | false => rw [if_pos (by decide), if_pos (by simp), hornbeamref21_Ready.j1, if_pos ⟨h, rfl⟩, go _ (by simp)]; rfl
  · rw [if_neg (fun z => h ((all_count hd).1 z)), if_neg (fun hh => h hh.1), hornbeamref21_Ready.j0, if_neg (by decide), hornbeamref21_Ready.j1, go [] (by simp)]
theorem refstep_l (T W N : Int) (ld : List Int) (lb : List Bool) (C : Bool) (x : Int) (l : List Int) (hl : l.length ≤ 1048577) : ∀ (m i k : Nat) (b : Bool), i + m = l.length → m < k → hornbeamref21_Step.l0 k x l b (i : Int) T W N ld lb C = hornbeamref21_Step.l0 (0 + 1) x l (b || decide (x ∈ l.drop i)) (l.length : Int) T W N ld lb C
  | 0, i, k + 1, b, h, _ => by
    rw [hornbeamref21_Step.l0, hornbeamref21_Step.l0, if_neg (by omega), if_neg (Int.lt_irrefl _), List.drop_eq_nil_of_le (by omega), decide_eq_false (by simp), Bool.or_false]
  | m + 1, i, k + 1, b, h, hk => by
    have ih := fun b => refstep_l T W N ld lb C x l hl m (i + 1) k b (by omega) (by omega)
    rw [hornbeamref21_Step.l0, if_pos (by omega), if_pos (by omega), rd_nat, getD_lt l i 0 (by omega), wrapS i (by omega), List.drop_eq_getElem_cons (by omega : i < l.length)]
    by_cases h0 : l[i] = x
    · rw [if_pos h0, ih, decide_eq_true (p := x ∈ l[i] :: l.drop (i + 1)) (by rw [h0]; exact List.mem_cons_self), Bool.true_or, Bool.or_true]
    · rw [if_neg h0, ih]
      have e : decide (x ∈ l[i] :: l.drop (i + 1)) = decide (x ∈ l.drop (i + 1)) := decide_eq_decide.2 ⟨fun z => (List.mem_cons.1 z).resolve_left (fun q => h0 q.symm), fun z => List.mem_cons_of_mem _ z⟩
      rw [e]
theorem refstep_move {T W N : Int} {ld : List Int} {lb : List Bool} {C : Bool} (I : Inv T W N ld lb C) (l : List Int) {who N' a b c : Int} {ld' : List Int} {lb' : List Bool} {C' : Bool} (h : Move T N ld lb C who N' ld' lb' C' a b c) : hornbeamref21_Step.l0 (0 + 1) who l true (l.length : Int) T W N ld lb C = some (T, W, N', ld', lb', C', a, b, c, 0) := by
  have hd := I.hd; have hb := I.hb; have ht1 := I.t1; have hw1 := I.w1; have hn0 := I.n0; have hn1 := I.n1
  rw [hornbeamref21_Step.l0, if_neg (Int.lt_irrefl _), if_pos rfl, Option.bind_some, if_pos (by simp; omega), Option.bind_some, Option.bind_some, if_pos (by simp; omega), Option.bind_some, List.nil_append, List.nil_append]
  cases h with
  | close hC h => rw [if_pos rfl]
  | finish j t hj ht hN hbl hf hC =>
    rw [if_neg (by omega), show wrap64 ((j : Int) + 1 - 1) = (j : Int) by rw [wrap64_id (by omega) (by omega)]; omega, if_pos (by omega), if_pos (by omega), rd_nat, getD_lt ld j 0 hj, ht, if_pos (by omega), if_pos (by omega), if_pos (by omega)]
    rfl
  | take j hj ht hN hC =>
    rw [if_neg (by omega), show wrap64 ((j : Int) + 1 - 1) = (j : Int) by rw [wrap64_id (by omega) (by omega)]; omega, if_pos (by omega), if_pos (by omega), rd_nat, getD_lt ld j 0 hj, ht, if_neg (by omega), if_pos hN, wrap64_id (n := N + 1) (by omega) (by omega), show wrap64 (N + 1 - 1) = N by rw [wrap64_id (by omega) (by omega)]; omega]
    rfl
  | stop j hj ht hN hC =>
    rw [if_neg (by omega), show wrap64 ((j : Int) + 1 - 1) = (j : Int) by rw [wrap64_id (by omega) (by omega)]; omega, if_pos (by omega), if_pos (by omega), rd_nat, getD_lt ld j 0 hj, ht, if_neg (by omega), if_neg (by omega)]
    rfl
theorem same_l1 (T W N : Int) (ld : List Int) (lb : List Bool) (C : Bool) (hb : lb.length ≤ 1048576) : ∀ (m i k : Nat), i + m = lb.length → m < k → hornbeamref21_Same.l1 k (i : Int) T W N ld lb C T W N ld lb C = some true
  | 0, i, k + 1, h, _ => by rw [hornbeamref21_Same.l1, if_neg (by omega)]
  | m + 1, i, k + 1, h, hk => by
    rw [hornbeamref21_Same.l1, if_pos (by omega), if_pos (by omega), if_pos (by omega), if_neg (by simp), wrapS i (by omega)]
    exact same_l1 T W N ld lb C hb m (i + 1) k (by omega) (by omega)
theorem same_l0 (T W N : Int) (ld : List Int) (lb : List Bool) (C : Bool) (hd : ld.length ≤ 1048576) (hb : lb.length ≤ 1048576) : ∀ (m i k : Nat), i + m = ld.length → m + lb.length + 1 < k → hornbeamref21_Same.l0 k (i : Int) T W N ld lb C T W N ld lb C = some true
  | 0, i, k + 1, h, _ => by
    rw [hornbeamref21_Same.l0, if_neg (by omega)]
    exact same_l1 T W N ld lb C hb lb.length 0 k (by omega) (by omega)
  | m + 1, i, k + 1, h, hk => by
    rw [hornbeamref21_Same.l0, if_pos (by omega), if_pos (by omega), if_pos (by omega), if_pos rfl, wrapS i (by omega)]
    exact same_l0 T W N ld lb C hd hb m (i + 1) k (by omega) (by omega)
theorem same_f (T W N : Int) (ld : List Int) (lb : List Bool) (C : Bool) (hd : ld.length ≤ 1048576) (hb : lb.length ≤ 1048576) (k : Nat) (hk : 3000000 < k) : hornbeamref21_Same.f k T W N ld lb C T W N ld lb C = some true := by
  obtain ⟨k, rfl⟩ : ∃ q, k = q + 1 := ⟨k - 1, by omega⟩
  unfold hornbeamref21_Same.f
  rw [if_pos rfl, if_pos rfl, if_pos rfl, if_neg (by simp), if_pos rfl, hornbeamref21_Same.j0, if_neg (by simp)]
  exact same_l0 T W N ld lb C hd hb ld.length 0 k (by omega) (by omega)
theorem refstep_f {T W N : Int} {ld : List Int} {lb : List Bool} {C : Bool} (I : Inv T W N ld lb C) {who N' a b c : Int} {ld' : List Int} {lb' : List Bool} {C' : Bool} (hm : who ∈ readyL ld C) (h : Move T N ld lb C who N' ld' lb' C' a b c) (k : Nat) (hk : 4500000 < k) : hornbeamref21_Step.f k T W N ld lb C who = some (T, W, N', ld', lb', C', a, b, c, 0) := by
  have hwl := I.hd; have hw := I.w1
  have h5 := readyL_length ld C
  obtain ⟨r2, e2, h2⟩ := refmay_f T W N ld lb C (by omega) k (by omega)
  unfold hornbeamref21_Step.f
  rw [e2, h2.2 I, Option.bind_some, if_pos rfl, refready_f I k (by omega), Option.bind_some]
  have := refstep_l T W N ld lb C who (readyL ld C) (by omega) (readyL ld C).length 0 k false (by omega) (by omega)
  rw [List.drop_zero, decide_eq_true hm] at this
  exact this.trans (refstep_move I _ h)
theorem refnew_l1 (T W : Int) (l : List Int) (t1 : T ≤ 1048576) : ∀ (m i k : Nat) (x : List Bool), (i : Int) + m = T → x.length = i → m < k → hornbeamref21_New.l1 k T (i : Int) T W 0 l x false = some (T, W, 0, l, x ++ List.replicate m false, false, 0)
  | 0, i, k + 1, x, h, _, _ => by rw [hornbeamref21_New.l1, if_neg (by omega)]; simp
  | m + 1, i, k + 1, x, h, hx, hk => by
    rw [hornbeamref21_New.l1, if_pos (by omega), if_pos (by omega), wrapS i (by omega), refnew_l1 T W l t1 m (i + 1) k _ (by omega) (by simp; omega) (by omega), List.replicate_succ]
    simp
theorem refnew_l0 (T W : Int) (t0 : 0 ≤ T) (t1 : T ≤ 1048576) (w1 : W ≤ 64) : ∀ (m i k : Nat) (l : List Int), (i : Int) + m = W → l.length = i → m + T.toNat + 1 < k → hornbeamref21_New.l0 k T W (i : Int) T W 0 l false = some (T, W, 0, l ++ List.replicate m (-1), List.replicate T.toNat false, false, 0)
  | 0, i, k + 1, l, h, _, _ => by
    rw [hornbeamref21_New.l0, if_neg (by omega)]
    refine (refnew_l1 T W l t1 T.toNat 0 k [] (by omega) rfl (by omega)).trans ?_
    simp
  | m + 1, i, k + 1, l, h, hx, hk => by
    rw [hornbeamref21_New.l0, if_pos (by omega), if_pos (by omega), wrapS i (by omega), refnew_l0 T W t0 t1 w1 m (i + 1) k _ (by omega) (by simp; omega) (by omega), List.replicate_succ]
    simp
theorem refnew_f (T W : Int) (t0 : 0 ≤ T) (t1 : T ≤ 1048576) (w0 : 1 ≤ W) (w1 : W ≤ 64) (k : Nat) (hk : 2000000 < k) : hornbeamref21_New.f k T W = some (T, W, 0, List.replicate W.toNat (-1), List.replicate T.toNat false, false, 0) := by
  obtain ⟨k, rfl⟩ : ∃ q, k = q + 1 := ⟨k - 1, by omega⟩
  unfold hornbeamref21_New.f
  rw [if_neg (by omega), if_neg (by omega), if_neg (by omega), decide_eq_false (show ¬ W > 64 by omega), hornbeamref21_New.j0, if_neg (by decide)]
  refine (refnew_l0 T W t0 t1 w1 W.toNat 0 k [] (by omega) rfl (by omega)).trans ?_
  simp
theorem news_bad (T W : Int) (h : ¬ (0 ≤ T ∧ T ≤ 1048576 ∧ 1 ≤ W ∧ W ≤ 64)) (k : Nat) : sched_New.f T W = some (0, 0, 0, [], [], false, 1) ∧ hornbeamref21_New.f (k + 1) T W = some (0, 0, 0, [], [], false, 1) := by
  have hj : hornbeamref21_New.j0 (k + 1) T W true = some (0, 0, 0, [], [], false, 1) := by rw [hornbeamref21_New.j0, if_pos rfl]
  unfold sched_New.f sched_fits.f hornbeamref21_New.f
  by_cases h1 : T < 0
  · rw [if_neg (show ¬ T ≥ 0 by omega), if_pos h1]; exact ⟨rfl, hj⟩
  · rw [if_pos (show T ≥ 0 by omega), if_neg h1]
    by_cases h2 : T > 1048576
    · rw [if_neg (show ¬ T ≤ 1048576 by omega), if_pos h2]; exact ⟨rfl, hj⟩
    · rw [if_pos (show T ≤ 1048576 by omega), if_neg h2]
      by_cases h3 : W < 1
      · rw [if_neg (show ¬ W ≥ 1 by omega), if_pos h3]; exact ⟨rfl, hj⟩
      · rw [if_pos (show W ≥ 1 by omega), if_neg h3, decide_eq_false (show ¬ W ≤ 64 by omega), decide_eq_true (show W > 64 by omega)]
        exact ⟨rfl, hj⟩
theorem refpick (v : Int) (n : Nat) (h0 : 0 ≤ v) (h1 : v ≤ 9223372036854775807) (hn : 0 < n) : wrap64 (v - wrap64 (wrap64 (Int.tdiv v (n : Int)) * (n : Int))) = v % (n : Int) := by
  rw [Int.tdiv_eq_ediv_of_nonneg h0]
  have e := Int.emod_add_mul_ediv v (n : Int)
  have m0 := Int.emod_nonneg v (show (n : Int) ≠ 0 by omega)
  have m1 := Int.emod_lt_of_pos v (show (0 : Int) < n by omega)
  have q0 : 0 ≤ v / (n : Int) := Int.ediv_nonneg h0 (by omega)
  have q1 : v / (n : Int) ≤ v := Int.ediv_le_self _ h0
  have m2 : v % (n : Int) ≤ v := by
    have := Int.mul_nonneg (show (0 : Int) ≤ n by omega) q0
    omega
  have p : v / (n : Int) * (n : Int) = v - v % (n : Int) := by rw [Int.mul_comm]; omega
  rw [wrap64_id (n := v / (n : Int)) (by omega) (by omega), p, wrap64_id (n := v - v % (n : Int)) (by omega) (by omega), wrap64_id (by omega) (by omega)]
  omega
theorem pick_lt (s : List Int) (n m : Nat) (hm : 0 < m) : 0 ≤ sched_Play.pick s n m ∧ sched_Play.pick s n m < (m : Int) := by
  unfold sched_Play.pick
  split
  · exact ⟨Int.emod_nonneg _ (by omega), Int.emod_lt_of_pos _ (by omega)⟩
  · omega
theorem both_l (T W : Int) (s : List Int) (hs : ∀ x ∈ s, (Lit.int .i64 x).wf = true) (K : Nat) (hK : 100 ≤ K) : ∀ (m : Nat) (out : List S52) (N : Int) (ld : List Int) (lb : List Bool) (C : Bool), Inv T W N ld lb C → left T N ld C < m → (out.length : Int) + left T N ld C < 1000000 → ∃ acts N2 ld2 lb2 C2, sched_Play.l0 m K out (readyL ld C) T W N ld lb C s = some (acts, N2, ld2, lb2, C2) ∧ (∀ q, 5000000 + 3 * m ≤ q → hornbeamref21_Play.l0 q s out T W N ld lb C = some (acts, T, W, N2, ld2, lb2, C2, 0)) ∧ Inv T W N2 ld2 lb2 C2 ∧ acts.length < 1000000
  | 0, _, _, _, _, _, I, h, _ => absurd (left_nonneg I) (by omega)
  | m + 1, out, N, ld, lb, C, I, hm, ho => by
    have hln := left_nonneg I
    rw [sched_Play.l0]
    by_cases h0 : 0 < (readyL ld C).length
    · rw [if_pos h0, if_pos (by omega)]
      have hmem := pick_mem _ h0 s out.length
      obtain ⟨N1, ld1, lb1, C1, a, b, c, e1, hmv⟩ := move_of I (can_of hmem)
      obtain ⟨I1, hl1⟩ := move_inv I hmv
      have hd1 := I1.hd; have hw1 := I1.w1
      rw [e1, Option.bind_some, ready_f T W N1 ld1 lb1 C1 (by omega) K (by omega), Option.bind_some]
      obtain ⟨acts, N2, ld2, lb2, C2, e2, hr, I2, ha⟩ := both_l T W s hs K hK m (out ++ [⟨a, b, c⟩]) N1 ld1 lb1 C1 I1 (by omega) (by simp; omega)
      refine ⟨acts, N2, ld2, lb2, C2, e2, ?_, I2, ha⟩
      intro q hq
      obtain ⟨q, rfl⟩ : ∃ r, q = r + 3 := ⟨q - 3, by omega⟩
      obtain ⟨p0, p1⟩ := pick_lt s out.length _ h0
      have j2 : hornbeamref21_Play.j2 (q + 1) s out (readyL ld C) (sched_Play.pick s out.length (readyL ld C).length) T W N ld lb C = some (acts, T, W, N2, ld2, lb2, C2, 0) := by
        rw [hornbeamref21_Play.j2, if_pos p0, if_pos p1, refstep_f I hmem hmv q (by omega), Option.bind_some, if_pos (by omega)]
        exact hr q (by omega)
      rw [hornbeamref21_Play.l0, refready_f I (q + 2) (by omega), Option.bind_some, if_neg (by omega)]
      by_cases c1 : (out.length : Int) < (s.length : Int)
      · rw [if_pos c1, if_pos (by omega), hornbeamref21_Play.j1]
        by_cases c2 : rd s (out.length : Int) ≥ 0
        · have hv : rd s (out.length : Int) ≤ 9223372036854775807 := by
            rw [rd_nat, getD_lt s _ 0 (by omega)]
            exact (wf_i64 (hs _ (List.getElem_mem _))).2
          rw [decide_eq_true c2, if_pos rfl, if_pos (by omega), if_pos c1, if_neg (by omega), refpick _ _ c2 hv h0]
          have hp : sched_Play.pick s out.length (readyL ld C).length = rd s (out.length : Int) % ((readyL ld C).length : Int) := by
            unfold sched_Play.pick
            by_cases c3 : 0 < rd s (out.length : Int)
            · rw [if_pos ⟨c1, c3⟩]
            · rw [if_neg (fun z => c3 z.2), show rd s (out.length : Int) = 0 by omega, Int.zero_emod]
          rw [← hp]; exact j2
        · have hp : sched_Play.pick s out.length (readyL ld C).length = 0 := if_neg (fun z => by have := z.2; omega)
          rw [decide_eq_false c2, if_neg (by decide)]
          rw [hp] at j2; exact j2
      · have hp : sched_Play.pick s out.length (readyL ld C).length = 0 := if_neg (fun z => c1 z.1)
        rw [if_neg c1, hornbeamref21_Play.j1, if_neg (by decide)]
        rw [hp] at j2; exact j2
    · rw [if_neg h0]
      refine ⟨out, N, ld, lb, C, rfl, ?_, I, by omega⟩
      intro q hq
      obtain ⟨q, rfl⟩ : ∃ r, q = r + 1 := ⟨q - 1, by omega⟩
      rw [hornbeamref21_Play.l0, refready_f I q (by omega), Option.bind_some, if_pos (by omega)]
theorem acts_l (l : List S52) (hl : l.length ≤ 1048577) : ∀ (m i k : Nat), i + m = l.length → m < k → hornbeamlaw21_same.l0 k l l (l.length : Int) (i : Int) = some true
  | 0, i, k + 1, h, _ => by rw [hornbeamlaw21_same.l0, if_neg (by omega)]
  | m + 1, i, k + 1, h, hk => by
    rw [hornbeamlaw21_same.l0, if_pos (by omega), if_pos (by omega), if_pos (by omega), if_pos (by omega), if_neg (by simp), wrapS i (by omega)]
    exact acts_l l hl m (i + 1) k (by omega) (by omega)
theorem acts_f (l : List S52) (hl : l.length ≤ 1048577) (k : Nat) (hk : 3000000 < k) : hornbeamlaw21_same.f k l l = some true := by
  unfold hornbeamlaw21_same.f
  rw [if_pos rfl]
  exact acts_l l hl l.length 0 k (by omega) (by omega)
theorem both_f (T W : Int) (s : List Int) (hs : ∀ x ∈ s, (Lit.int .i64 x).wf = true) (t1 : ¬ (T > 100 ∧ T ≤ 1048576)) (k : Nat) (hk : 8000000 ≤ k) : ∃ acts T1 W1 N2 ld2 lb2 C2 e, sched_Play.f k T W s = some (acts, T1, W1, N2, ld2, lb2, C2, e) ∧ hornbeamref21_Play.f k T W s = some (acts, T1, W1, N2, ld2, lb2, C2, e) ∧ acts.length ≤ 1048577 ∧ ld2.length ≤ 1048576 ∧ lb2.length ≤ 1048576 := by
  by_cases h : 0 ≤ T ∧ T ≤ 1048576 ∧ 1 ≤ W ∧ W ≤ 64
  · obtain ⟨t0, t2, w0, w1⟩ := h
    have hl : left T 0 (List.replicate W.toNat (-1)) false = 2 * T + W + 1 := by
      unfold left
      rw [sumv_repl, if_neg (by decide)]; omega
    have I0 := inv_new T W t0 t2 w0 w1
    obtain ⟨acts, N2, ld2, lb2, C2, e, r, I2, ha⟩ := both_l T W s hs k (by omega) 1000 [] 0 _ _ _ I0 (by omega) (by simp; omega)
    obtain ⟨n, hn⟩ : ∃ n, k = 1000 + n := ⟨k - 1000, by omega⟩
    have e' : ∀ n, sched_Play.l0 (1000 + n) k [] (readyL (List.replicate W.toNat (-1)) false) T W 0 (List.replicate W.toNat (-1)) (List.replicate T.toNat false) false s = some (acts, N2, ld2, lb2, C2) := by
      intro n
      obtain ⟨acts', N2', ld2', lb2', C2', f1, f2, _, _⟩ := both_l T W s hs k (by omega) (1000 + n) [] 0 _ _ _ I0 (by omega) (by simp; omega)
      rw [f1]
      have g := (r (5000000 + 3 * (1000 + n)) (by omega)).symm.trans (f2 (5000000 + 3 * (1000 + n)) (by omega))
      injection g with g
      injection g with g1 g
      injection g with g2 g
      injection g with g2 g
      injection g with g3 g
      injection g with g4 g
      injection g with g5 g
      injection g with g6 g
      rw [g1, g3, g4, g5, g6]
    have hd := I2.hd; have hb := I2.hb
    refine ⟨acts, T, W, N2, ld2, lb2, C2, 0, ?_, ?_, by omega, by omega, by omega⟩
    · unfold sched_Play.f
      rw [new_f T W t0 t2 w0 w1, Option.bind_some, if_pos rfl, ready_f _ _ _ _ _ _ (by simp; omega) k (by simp; omega), Option.bind_some]
      have e1 := e' n
      rw [← hn] at e1
      rw [e1, Option.bind_some]
    · unfold hornbeamref21_Play.f
      rw [refnew_f T W t0 t2 w0 w1 k (by omega), Option.bind_some, if_pos rfl]
      exact r k (by omega)
  · obtain ⟨q, rfl⟩ : ∃ q, k = q + 1 := ⟨k - 1, by omega⟩
    obtain ⟨n1, n2⟩ := news_bad T W h q
    refine ⟨[], 0, 0, 0, [], [], false, 1, ?_, ?_, by simp, by simp, by simp⟩
    · unfold sched_Play.f
      rw [n1, Option.bind_some, if_neg (show ¬ (1 : Int) = 0 by decide)]
    · unfold hornbeamref21_Play.f
      rw [n2, Option.bind_some, if_neg (show ¬ (1 : Int) = 0 by decide)]
end SchedPlays0
open SchedPlays0
theorem SchedPlays : hornbeamlaw21_SchedPlays.Pure := by
  intro T W s _ _ _ _ hs
  obtain ⟨k, hk⟩ : ∃ k : Nat, 8000000 ≤ k := ⟨_, Nat.le_refl _⟩
  refine ⟨k + 1, ?_⟩
  have skip : hornbeamlaw21_SchedPlays.j0 (k + 1) T W s true = some true := by
    rw [hornbeamlaw21_SchedPlays.j0, if_pos rfl, fixed_f k (by omega)]; rfl
  have go : ¬ (T > 100 ∧ T ≤ 1048576) → hornbeamlaw21_SchedPlays.j0 (k + 1) T W s false = some true := by
    intro ht
    obtain ⟨acts, T1, W1, N2, ld2, lb2, C2, e, e1, e2, l1, l2, l3⟩ := both_f T W s hs ht k hk
    rw [hornbeamlaw21_SchedPlays.j0, if_neg (by decide), e1, Option.bind_some, e2, Option.bind_some, fixed_f k (by omega), Option.bind_some, if_pos rfl]
    dsimp only
    rw [acts_f acts l1 k (by omega), Option.bind_some, if_pos rfl, same_f T1 W1 N2 ld2 lb2 C2 l2 l3 k (by omega), Option.bind_some, if_pos rfl, beq_self_eq_true]
  have any : ∀ b, ¬ (T > 100 ∧ T ≤ 1048576) → hornbeamlaw21_SchedPlays.j0 (k + 1) T W s b = some true := by
    intro b ht
    cases b with
    | true => exact skip
    | false => exact go ht
  unfold hornbeamlaw21_SchedPlays.f
  by_cases h1 : T > 100
  · rw [if_pos h1]
    by_cases h2 : T ≤ 1048576
    · rw [if_pos h2]; exact skip
    · rw [if_neg h2]; exact any _ (by omega)
  · rw [if_neg h1]; exact any _ (by omega)
end Go.Proofs.Ytoonddgldmfleaa.Pure
