/- Sums of numbers and of their squares, and how far numbers are from one another. No condition. -/
import Derived.RowKit
namespace Go.Proofs.Ytancajnbjmcamaa.Sums
/-- Sum, and sum of squares. -/
def S1 : List Int → Int
  | [] => 0
  | x :: l => x + S1 l
def S2 : List Int → Int
  | [] => 0
  | x :: l => x * x + S2 l
def lim (l : List Int) : Prop := ∀ x ∈ l, -1048576 ≤ x ∧ x ≤ 1048576
instance (l : List Int) : Decidable (lim l) := by unfold lim; exact inferInstance
theorem lim.tail {x : Int} {l : List Int} (h : lim (x :: l)) : lim l := fun y hy => h y (List.mem_cons_of_mem _ hy)
theorem lim.head {x : Int} {l : List Int} (h : lim (x :: l)) : -1048576 ≤ x ∧ x ≤ 1048576 := h x (List.mem_cons_self)
theorem sq_bound {x : Int} (h0 : -1048576 ≤ x) (h1 : x ≤ 1048576) : 0 ≤ x * x ∧ x * x ≤ 1099511627776 := by
  have e : x * x = (x.natAbs : Int) * x.natAbs := (Int.natAbs_mul_self' x).symm
  have hb : (x.natAbs : Int) * x.natAbs ≤ 1048576 * 1048576 := Int.mul_le_mul (by omega) (by omega) (by omega) (by omega)
  have := Int.mul_nonneg (a := (x.natAbs : Int)) (b := (x.natAbs : Int)) (by omega) (by omega)
  omega
theorem S1_bound {l : List Int} (h : lim l) : -(1048576 * (l.length : Int)) ≤ S1 l ∧ S1 l ≤ 1048576 * (l.length : Int) := by
  induction l with
  | nil => simp [S1]
  | cons x l ih => have := ih h.tail; have := h.head; rw [S1, List.length_cons]; omega
theorem S2_bound {l : List Int} (h : lim l) : 0 ≤ S2 l ∧ S2 l ≤ 1099511627776 * (l.length : Int) := by
  induction l with
  | nil => simp [S2]
  | cons x l ih => have := ih h.tail; have := sq_bound h.head.1 h.head.2; rw [S2, List.length_cons]; omega
/-- How far the targets are from one, together. -/
def far (t : Int) : List Int → Int
  | [] => 0
  | x :: l => (t - x) * (t - x) + far t l
theorem sq_nonneg' (x : Int) : 0 ≤ x * x := by
  have e : x * x = (x.natAbs : Int) * x.natAbs := (Int.natAbs_mul_self' x).symm
  rw [e]; exact Int.mul_nonneg (by omega) (by omega)
theorem far_nonneg (t : Int) (l : List Int) : 0 ≤ far t l := by
  induction l with
  | nil => exact Int.le_refl _
  | cons x l ih => have := sq_nonneg' (t - x); rw [far]; omega
theorem far_zero (t : Int) (l : List Int) : far t l = 0 ↔ ∀ x ∈ l, x = t := by
  induction l with
  | nil => simp [far]
  | cons x l ih =>
    have h1 := sq_nonneg' (t - x); have h2 := far_nonneg t l
    rw [far]
    constructor
    · intro h y hy
      have e1 : (t - x) * (t - x) = 0 := by omega
      have e2 : far t l = 0 := by omega
      rcases List.mem_cons.1 hy with rfl | hy
      · rcases Int.mul_eq_zero.1 e1 with h | h <;> omega
      · exact ih.1 e2 y hy
    · intro h
      have e1 : x = t := h x List.mem_cons_self
      have e2 := ih.2 fun y hy => h y (List.mem_cons_of_mem _ hy)
      rw [e1, e2, Int.sub_self]; rfl
theorem far_eq (t : Int) (l : List Int) : far t l = (l.length : Int) * (t * t) - 2 * (t * S1 l) + S2 l := by
  induction l with
  | nil => simp [far, S1, S2]
  | cons x l ih =>
    rw [far, ih, S1, S2, List.length_cons]
    have e1 : (t - x) * (t - x) = t * t - 2 * (t * x) + x * x := by rw [Int.sub_mul, Int.mul_sub, Int.mul_sub, Int.mul_comm x t]; omega
    have e2 : t * (x + S1 l) = t * x + t * S1 l := Int.mul_add _ _ _
    have e3 : ((l.length + 1 : Nat) : Int) * (t * t) = (l.length : Int) * (t * t) + t * t := by rw [Int.natCast_add, Int.add_mul]; simp
    rw [e1, e2, e3]; omega
/-- How far the targets are from one another, together. -/
def D (l : List Int) : Int := (l.length : Int) * S2 l - S1 l * S1 l
theorem D_cons (t : Int) (l : List Int) : D (t :: l) = D l + far t l := by
  unfold D
  rw [far_eq, S1, S2, List.length_cons]
  have e1 : (t + S1 l) * (t + S1 l) = t * t + 2 * (t * S1 l) + S1 l * S1 l := by rw [Int.add_mul, Int.mul_add, Int.mul_add, Int.mul_comm (S1 l) t]; omega
  have e2 : ((l.length + 1 : Nat) : Int) * (t * t + S2 l) = (l.length : Int) * (t * t) + (l.length : Int) * S2 l + t * t + S2 l := by rw [Int.natCast_add, Int.add_mul, Int.mul_add]; simp; omega
  rw [e1, e2]; omega
theorem D_nonneg (l : List Int) : 0 ≤ D l := by
  induction l with
  | nil => simp [D, S1, S2]
  | cons t l ih => have := far_nonneg t l; rw [D_cons]; omega
theorem D_zero (t : Int) (l : List Int) : D (t :: l) = 0 ↔ ∀ x ∈ l, x = t := by
  constructor
  · intro h
    have h1 := D_nonneg l; have h2 := far_nonneg t l
    rw [D_cons] at h
    exact (far_zero t l).1 (by omega)
  · intro h
    have h2 := (far_zero t l).2 h
    rw [D_cons, h2]
    clear h2
    induction l with
    | nil => simp [D, S1, S2]
    | cons x l ih =>
      have hx : x = t := h x List.mem_cons_self
      have hl : ∀ y ∈ l, y = t := fun y hy => h y (List.mem_cons_of_mem _ hy)
      have := ih hl
      rw [D_cons, hx, (far_zero t l).2 hl]; omega
end Go.Proofs.Ytancajnbjmcamaa.Sums
