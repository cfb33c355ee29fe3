/- What reads as data of a type is told by a kind: whole numbers, bools, strings, slices, structs, one in another. No condition. -/
import Derived.Deep.Slices
import Derived.Deep.Fields
import Derived.ChangeSame
import Derived.SizedLaws
import Derived.ChangeSlices
import Derived.OpenShut
import Derived.Test.YtancajnbjmcamaaUWords
namespace Go.Proofs.Ytancajnbjmcamaa.Opn
open Go.ChangeShapes Go.WideShapes Go.Deep Go.Proofs.YtancajnbjmcamaaW.PrintWords
section
variable {H : Type} {enc : TypeId × Value → H} {P : Program} {W : World} {base : Nat} {spare : Nat → Bool} {held : Bool}
/-- What reads as data of type t is told by the kind d, and is good. -/
def Opens (enc : TypeId × Value → H) (P : Program) (W : World) (base : Nat) (spare : Nat → Bool) (held : Bool) {α : Type} (t : TypeId) (d : Kd α) (good : α → Prop) : Prop :=
  ∀ fuel cs x, DataW.trod enc P W base spare held fuel t cs = some x → ∃ y, d.K W y cs ∧ good y
theorem opens_int {t : TypeId} {k : IntKind} (ht : P.underlying t = some (.int k)) : Opens enc P W base spare held t (Kd.int k) (fun n => (Lit.int k n).wf = true) := by
  intro fuel cs x h
  obtain ⟨n, rfl, _, hw⟩ := DataW.trod_int ht h
  exact ⟨n, rfl, hw⟩
theorem opens_bool {t : TypeId} (ht : P.underlying t = some .bool) : Opens enc P W base spare held t Kd.bool (fun _ => True) := by
  intro fuel cs x h
  obtain ⟨n, rfl, _⟩ := DataW.trod_bool ht h
  exact ⟨n, rfl, trivial⟩
theorem list_of {α : Type} {n : Nat} {p : Nat → α → Prop} (h : ∀ i, i < n → ∃ x, p i x) : ∃ l : List α, l.length = n ∧ ∀ i x, l[i]? = some x → p i x := by
  induction n with
  | zero => exact ⟨[], rfl, fun i x hx => by simp at hx⟩
  | succ n ih =>
    obtain ⟨l, hl, hp⟩ := ih (fun i hi => h i (Nat.lt_succ_of_lt hi))
    obtain ⟨y, hy⟩ := h n (Nat.lt_succ_self n)
    refine ⟨l ++ [y], by simp [hl], fun i x hx => ?_⟩
    by_cases hi : i < l.length
    · rw [List.getElem?_append_left hi] at hx
      exact hp i x hx
    · rw [List.getElem?_append_right (by omega)] at hx
      have : i - l.length = 0 := by
        by_cases h0 : i - l.length = 0
        · exact h0
        · rw [List.getElem?_eq_none (by simp; omega)] at hx; cases hx
      rw [this] at hx
      have e : i = n := by omega
      subst e
      have : y = x := by simpa using hx
      subst this
      exact hy
theorem opens_slice {t e : TypeId} {α : Type} {d : Kd α} {good : α → Prop} (ht : P.underlying t = some (.slice e)) (hc : P.cellsOf e = d.sz) (he : Opens enc P W base spare held e d good) :
    Opens enc P W base spare held t (Kd.slice e d) (fun l => l.length ≤ maxLen ∧ ∀ y ∈ l, good y) := by
  intro fuel cs x h
  rcases open_slice ht h with ⟨rfl, _⟩ | ⟨a, len, cap, m, n, D, Pl, rfl, hb, hl, hm, hmm, _, hi⟩
  · refine ⟨[], ⟨none, 0, rfl, Nat.le_refl _, rfl, Nat.zero_le _, fun h => absurd h (Nat.lt_irrefl 0)⟩, Nat.zero_le _, fun y hy => by cases hy⟩
  · have hlm : len ≤ m := by rw [hmm]; split <;> omega
    obtain ⟨l, hlen, hp⟩ := list_of (n := len) (p := fun i y => ∃ c, W.cells? base (a.add (i * P.cellsOf e)) (P.cellsOf e) = some c ∧ d.K W y c ∧ good y) (fun i hlt => by
      obtain ⟨c, h1, h2⟩ := hi i (by omega)
      obtain ⟨y, h3, h4⟩ := he _ _ _ h2
      exact ⟨y, c, h1, h3, h4⟩)
    subst hlen
    refine ⟨l, ⟨some a, cap, rfl, hl, rfl, by unfold maxLen at hm; omega, fun _ => ⟨a, rfl, fun j p hj => ?_⟩⟩, by omega, fun y hy => ?_⟩
    · obtain ⟨c, h1, h2, _⟩ := hp j p hj
      obtain ⟨_, h5, h6⟩ := World.cells?_some h1
      refine ⟨c, h5.trans hc, h2, fun i u hu => ?_⟩
      have hi2 : i < P.cellsOf e := by have := (List.getElem?_eq_some_iff.1 hu).1; omega
      rw [← hc, ← Deep.add_add, h6 i hi2, hu]
    · obtain ⟨i, hlt, rfl⟩ := List.mem_iff_getElem.1 hy
      obtain ⟨_, _, _, h4⟩ := hp i _ (List.getElem?_eq_getElem hlt)
      exact h4
/-- The fields of a struct from the j-th on, which lies at off. -/
def Tail (enc : TypeId × Value → H) (P : Program) (W : World) (base : Nat) (spare : Nat → Bool) (held : Bool) (fs : Array Field) (total _j off : Nat) {α : Type} (d : Kd α) (good : α → Prop) : Prop :=
  ∀ cs : List Value, cs.length = total → (∀ (i : Nat) (f : Field), fs[i]? = some f → ∃ n x, DataW.trod enc P W base spare held n f.type ((cs.drop f.offset).take (P.cellsOf f.type)) = some x) → ∃ y, d.K W y (cs.drop off) ∧ good y
theorem tail_last {fs : Array Field} {total j off : Nat} {f : Field} {α : Type} {d : Kd α} {good : α → Prop} (hf : fs[j]? = some f) (ho : f.offset = off) (hc : P.cellsOf f.type = d.sz) (ht : off + d.sz = total) (hd : Opens enc P W base spare held f.type d good) :
    Tail enc P W base spare held fs total j off d good := by
  intro cs hl h
  obtain ⟨n, x, hx⟩ := h j f hf
  obtain ⟨y, h1, h2⟩ := hd _ _ _ hx
  rw [List.take_of_length_le (by rw [List.length_drop]; omega), ho] at h1
  exact ⟨y, h1, h2⟩
theorem tail_cons {fs : Array Field} {total j off off2 : Nat} {f : Field} {α β : Type} {d : Kd α} {d2 : Kd β} {good : α → Prop} {good2 : β → Prop} (hf : fs[j]? = some f) (ho : f.offset = off) (hc : P.cellsOf f.type = d.sz) (h2 : off + d.sz = off2)
    (hd : Opens enc P W base spare held f.type d good) (hr : Tail enc P W base spare held fs total (j + 1) off2 d2 good2) : Tail enc P W base spare held fs total j off (Kd.pair d d2) (fun y => good y.1 ∧ good2 y.2) := by
  intro cs hl h
  obtain ⟨n, x, hx⟩ := h j f hf
  obtain ⟨y, h3, h4⟩ := hd _ _ _ hx
  obtain ⟨z, h5, h6⟩ := hr cs hl h
  rw [ho, hc] at h3
  refine ⟨(y, z), ⟨_, _, ?_, h3, h5⟩, h4, h6⟩
  rw [← h2, ← List.drop_drop, List.take_append_drop]
theorem opens_struct {t : TypeId} {fs : Array Field} {total : Nat} {α β : Type} {d : Kd α} {good : α → Prop} {g : β → Prop} (f : β → α) (b : α → β) (hfb : ∀ x, f (b x) = x) (hg : ∀ x, good x → g (b x)) (ht : P.underlying t = some (.struct fs)) (hc : P.cellsOf t = total) (h : Tail enc P W base spare held fs total 0 0 d good) :
    Opens enc P W base spare held t (Kd.iso d f) g := by
  intro fuel cs x hx
  obtain ⟨xs, n, _, _, hl, hlen, hi⟩ := DataW.trod_struct ht hx
  obtain ⟨y, h1, h2⟩ := h cs (hl.trans hc) (fun i fl hf => by
    have h3 := hi i fl hf
    have hlt : i < xs.length := by have := (Array.getElem?_eq_some_iff.1 hf).1; omega
    rw [List.getElem?_eq_getElem hlt] at h3
    exact ⟨n, _, h3⟩)
  rw [List.drop_zero] at h1
  refine ⟨b y, ?_, hg y h2⟩
  show d.K W (f (b y)) cs
  rw [hfb]
  exact h1
/-- The elements of an array from the j-th on, which lies at off. -/
def ATail (enc : TypeId × Value → H) (P : Program) (W : World) (base : Nat) (spare : Nat → Bool) (held : Bool) (e : TypeId) (n : Nat) (total _j off : Nat) {α : Type} (d : Kd α) (good : α → Prop) : Prop :=
  ∀ cs : List Value, cs.length = total → (∀ i, i < n → ∃ m x, DataW.trod enc P W base spare held m e ((cs.drop (i * P.cellsOf e)).take (P.cellsOf e)) = some x) → ∃ y, d.K W y (cs.drop off) ∧ good y
theorem atail_last {e : TypeId} {n total j off : Nat} {α : Type} {d : Kd α} {good : α → Prop} (hj : j < n) (ho : j * P.cellsOf e = off) (hc : P.cellsOf e = d.sz) (ht : off + d.sz = total) (hd : Opens enc P W base spare held e d good) :
    ATail enc P W base spare held e n total j off d good := by
  intro cs hl h
  obtain ⟨m, x, hx⟩ := h j hj
  obtain ⟨y, h1, h2⟩ := hd _ _ _ hx
  rw [List.take_of_length_le (by rw [List.length_drop]; omega), ho] at h1
  exact ⟨y, h1, h2⟩
theorem atail_cons {e : TypeId} {n total j off off2 : Nat} {α β : Type} {d : Kd α} {d2 : Kd β} {good : α → Prop} {good2 : β → Prop} (hj : j < n) (ho : j * P.cellsOf e = off) (hc : P.cellsOf e = d.sz) (h2 : off + d.sz = off2)
    (hd : Opens enc P W base spare held e d good) (hr : ATail enc P W base spare held e n total (j + 1) off2 d2 good2) : ATail enc P W base spare held e n total j off (Kd.pair d d2) (fun y => good y.1 ∧ good2 y.2) := by
  intro cs hl h
  obtain ⟨m, x, hx⟩ := h j hj
  obtain ⟨y, h3, h4⟩ := hd _ _ _ hx
  obtain ⟨z, h5, h6⟩ := hr cs hl h
  rw [ho, hc] at h3
  refine ⟨(y, z), ⟨_, _, ?_, h3, h5⟩, h4, h6⟩
  rw [← h2, ← List.drop_drop, List.take_append_drop]
theorem opens_array {t e : TypeId} {n total : Nat} {α β : Type} {d : Kd α} {good : α → Prop} {g : β → Prop} (f : β → α) (b : α → β) (hfb : ∀ x, f (b x) = x) (hg : ∀ x, good x → g (b x)) (ht : P.underlying t = some (.array n e)) (hc : P.cellsOf t = total) (h : ATail enc P W base spare held e n total 0 0 d good) :
    Opens enc P W base spare held t (Kd.iso d f) g := by
  intro fuel cs x hx
  obtain ⟨xs, m, _, _, hl, hlen, hi⟩ := DataW.trod_array ht hx
  obtain ⟨y, h1, h2⟩ := h cs (hl.trans hc) (fun i hi2 => by
    have h3 := hi i hi2
    have hlt : i < xs.length := by omega
    rw [List.getElem?_eq_getElem hlt] at h3
    exact ⟨m, _, h3⟩)
  rw [List.drop_zero] at h1
  refine ⟨b y, ?_, hg y h2⟩
  show d.K W (f (b y)) cs
  rw [hfb]
  exact h1
theorem okWide_arr {t e : TypeId} {n b : Nat} {v : Value} (ht : P.underlying t = some (.array n e)) (h : Value.okWide P W .any b t v) : ∃ cs, v = .agg cs ∧ True := by
  simp only [Value.okWide, ht] at h
  obtain ⟨cs, e1, _⟩ := h
  exact ⟨cs, e1, trivial⟩
theorem opens_iso {t : TypeId} {α : Type} {d : Kd α} {good g : α → Prop} (hg : ∀ x, good x → g x) (h : Opens enc P W base spare held t d good) : Opens enc P W base spare held t d g := by
  intro fuel cs x hx
  obtain ⟨y, h1, h2⟩ := h fuel cs x hx
  exact ⟨y, h1, hg y h2⟩
end
end Go.Proofs.Ytancajnbjmcamaa.Opn
