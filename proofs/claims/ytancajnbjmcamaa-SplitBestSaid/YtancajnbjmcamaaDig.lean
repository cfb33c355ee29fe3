/- Lists of digits of 65536, the lowest first, and the number that they are. No condition. -/
import Derived.RowKit
namespace Go.Proofs.Ytancajnbjmcamaa.Dig

/-- The number of digits. -/
def V : List Int → Int
  | [] => 0
  | d :: l => d + 65536 * V l
/-- Are these digits? -/
def Dg (l : List Int) : Prop := ∀ d ∈ l, 0 ≤ d ∧ d < 65536
theorem Dg.nil : Dg [] := fun _ h => by cases h
theorem Dg.cons {d : Int} {l : List Int} (h0 : 0 ≤ d) (h1 : d < 65536) (h : Dg l) : Dg (d :: l) := by
  intro x hx
  rcases List.mem_cons.1 hx with rfl | hx
  · exact ⟨h0, h1⟩
  · exact h x hx
theorem Dg.tail {d : Int} {l : List Int} (h : Dg (d :: l)) : Dg l := fun x hx => h x (List.mem_cons_of_mem _ hx)
theorem Dg.head {d : Int} {l : List Int} (h : Dg (d :: l)) : 0 ≤ d ∧ d < 65536 := h d (List.mem_cons_self)
theorem Dg.set {l : List Int} (h : Dg l) (i : Nat) {d : Int} (h0 : 0 ≤ d) (h1 : d < 65536) : Dg (l.set i d) := by
  intro x hx
  rcases List.mem_or_eq_of_mem_set hx with hx | rfl
  · exact h x hx
  · exact ⟨h0, h1⟩
theorem Dg.getD {l : List Int} (h : Dg l) (i : Nat) : 0 ≤ l.getD i 0 ∧ l.getD i 0 < 65536 := by
  by_cases hi : i < l.length
  · have e : l.getD i 0 = l[i] := by simp [List.getD, hi]
    rw [e]; exact h _ (List.getElem_mem hi)
  · have e : l.getD i 0 = 0 := by simp [List.getD, List.getElem?_eq_none (Nat.le_of_not_lt hi)]
    rw [e]; omega
theorem Dg.append {l m : List Int} (h : Dg l) (h2 : Dg m) : Dg (l ++ m) := by
  intro x hx
  rcases List.mem_append.1 hx with hx | hx
  · exact h x hx
  · exact h2 x hx
theorem Dg.take {l : List Int} (h : Dg l) (n : Nat) : Dg (l.take n) := fun x hx => h x (List.mem_of_mem_take hx)
theorem Dg.drop {l : List Int} (h : Dg l) (n : Nat) : Dg (l.drop n) := fun x hx => h x (List.mem_of_mem_drop hx)
theorem Dg.replicate (n : Nat) : Dg (List.replicate n 0) := by
  intro x hx
  rw [List.eq_of_mem_replicate hx]; omega
theorem V_replicate (n : Nat) : V (List.replicate n 0) = 0 := by
  induction n with
  | zero => rfl
  | succ n ih => rw [List.replicate_succ, V, ih]; rfl
theorem V_nonneg {l : List Int} (h : Dg l) : 0 ≤ V l := by
  induction l with
  | nil => exact Int.le_refl _
  | cons d l ih => have := ih h.tail; have := h.head; rw [V]; omega
theorem V_lt {l : List Int} (h : Dg l) : V l < 65536 ^ l.length := by
  induction l with
  | nil => decide
  | cons d l ih =>
    have h1 := ih h.tail; have := h.head
    rw [V, List.length_cons, Int.pow_succ]
    generalize (65536 : Int) ^ l.length = P at *
    omega
theorem V_append (l m : List Int) : V (l ++ m) = V l + 65536 ^ l.length * V m := by
  induction l with
  | nil => simp [V]
  | cons d l ih =>
    rw [List.cons_append, V, ih, V, List.length_cons, Int.pow_succ, Int.mul_add, Int.mul_comm (65536 ^ l.length) 65536, Int.mul_assoc]
    omega
theorem V_set {l : List Int} (i : Nat) (d : Int) (h : i < l.length) : V (l.set i d) = V l + (d - l.getD i 0) * 65536 ^ i := by
  induction l generalizing i with
  | nil => exact absurd h (Nat.not_lt_zero _)
  | cons x l ih =>
    cases i with
    | zero => simp only [List.set_cons_zero, V, List.getD_cons_zero, Int.pow_zero, Int.mul_one]; omega
    | succ i =>
      have := ih i (by simpa using h)
      simp only [List.set_cons_succ, V, List.getD_cons_succ]
      rw [this, Int.pow_succ, Int.mul_add, Int.mul_comm (65536 ^ i) 65536, Int.mul_left_comm]
      omega
theorem V_drop {l : List Int} (i : Nat) (h : i < l.length) : V (l.drop i) = l.getD i 0 + 65536 * V (l.drop (i + 1)) := by
  rw [List.drop_eq_getElem_cons h, V]
  simp [List.getD, h]
theorem digs_set_ne {l : List Int} {i m : Nat} (d : Int) (h : i ≠ m) : (l.set i d).getD m 0 = l.getD m 0 := by
  simp [List.getD, List.getElem?_set_ne h]
/-- A list of digits is known by its length and its number. -/
theorem V_inj {l m : List Int} (hl : Dg l) (hm : Dg m) (hn : l.length = m.length) (h : V l = V m) : l = m := by
  induction l generalizing m with
  | nil => exact (List.eq_nil_of_length_eq_zero hn.symm).symm
  | cons d l ih =>
    cases m with
    | nil => cases hn
    | cons e m =>
      have h1 := hl.head; have h2 := hm.head
      rw [V, V] at h
      have hd : d = e := by omega
      subst hd
      rw [ih hl.tail hm.tail (by simpa using hn) (by omega)]
/-- Four digits of a number. -/
def dig4 (n : Int) : List Int := [n % 65536, n / 65536 % 65536, n / 4294967296 % 65536, n / 281474976710656]
theorem dig4_len (n : Int) : (dig4 n).length = 4 := rfl
theorem dig4_V {n : Int} : V (dig4 n) = n := by
  simp only [dig4, V]; omega
theorem dig4_Dg {n : Int} (h0 : 0 ≤ n) (h1 : n < 18446744073709551616) : Dg (dig4 n) := by
  unfold dig4
  refine Dg.cons (by omega) (by omega) (Dg.cons (by omega) (by omega) (Dg.cons (by omega) (by omega) (Dg.cons (by omega) (by omega) Dg.nil)))
theorem len4 {l : List Int} (h : l.length = 4) : ∃ a b c d, l = [a, b, c, d] := by
  match l, h with
  | [a, b, c, d], _ => exact ⟨a, b, c, d, rfl⟩
theorem V_take_drop (l : List Int) (n : Nat) (h : n ≤ l.length) : V l = V (l.take n) + 65536 ^ n * V (l.drop n) := by
  have := V_append (l.take n) (l.drop n)
  rw [List.take_append_drop, List.length_take, Nat.min_eq_left h] at this
  exact this
end Go.Proofs.Ytancajnbjmcamaa.Dig
