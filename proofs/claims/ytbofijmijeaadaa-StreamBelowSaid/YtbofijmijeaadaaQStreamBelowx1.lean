-- Written by a program of this session (wip/tools/mkprint.py over the kit's print); Lean checks it.
import Derived.Test.YtbofijmijeaadaaQStreamBelowx0
namespace Go.Proofs.Ytbofijmijeaadaa.QStreamBelow
open Go.RowKit Go.Proofs.YtbofijmijeaadaaW.PrintWords Go.Proofs.YtbofijmijeaadaaW.PrintLast Go.Proofs.YtbofijmijeaadaaW.PrintMore
attribute [local go_sem] max2_int min2_int max_two min_two max_three min_three max_four min_four   -- for this text's walks alone
set_option linter.unusedVariables false
set_option linter.unusedSimpArgs false

-- NOT PRINTED: function 18 (stream_Below)

/-! ### hornbeamlaw02_fixed: function 17 -/
/-- What a call on the source at block g turns: that block alone. -/
def Turned (g : Nat) (w w' : World) : Prop := (∀ i, i ≠ g → w'.heap[i]? = w.heap[i]?) ∧ w'.heap.size = w.heap.size ∧ ∀ w0 : World, Below w0.heap.size w0 w → w0.heap.size ≤ g → Below w0.heap.size w0 w'
theorem Turned.refl (g : Nat) (w : World) : Turned g w w := ⟨fun _ _ => rfl, rfl, fun _ h _ => h⟩
theorem Turned.trans {g : Nat} {w w1 w2 : World} (h : Turned g w w1) (k : Turned g w1 w2) : Turned g w w2 :=
  ⟨fun i hi => (k.1 i hi).trans (h.1 i hi), k.2.1.trans h.2.1, fun w0 hb hg => k.2.2 w0 (h.2.2 w0 hb hg) hg⟩
theorem Turned.set (g : Nat) (w : World) (j : Nat) (v : Value) : Turned g w (w.setCell ⟨g, j, none⟩ v) :=
  ⟨fun i hi => Below.heap_setCell w _ v i hi, by simp [World.setCell], fun _ hb hg => below_set hb hg⟩
theorem Turned.drewN (g : Nat) (w : World) (n : Nat) : Turned g w (w.drewN n) := ⟨fun _ _ => rfl, rfl, fun _ hb _ => pw_below_drewN hb n⟩
theorem Turned.block {g i : Nat} {w w' : World} {o : Obj} (h : Turned g w w') (hi : i ≠ g) (hb : w.heap[i]? = some o) : w'.heap[i]? = some o := (h.1 i hi).trans hb
theorem Turned.cell {g : Nat} {w w' : World} (h : Turned g w w') (a : Addr) (hi : a.block ≠ g) : w'.cell? a = w.cell? a := by
  unfold World.cell?
  rw [h.1 a.block hi]
theorem Turned.reads {g : Nat} {w w' : World} {k : IntKind} {A : Option Addr} {n : Nat} {l : List Int} (h : Turned g w w') (hA : ∀ ad, A = some ad → 0 < n → ad.block ≠ g) (hr : Kd.C (Kd.int k) w A n l) : Kd.C (Kd.int k) w' A n l := by
  refine ⟨hr.1, hr.2.1, fun hn => ?_⟩
  obtain ⟨ad, e, hc⟩ := hr.2.2 hn
  refine ⟨ad, e, fun j p hj => ?_⟩
  obtain ⟨c, h1, h2, h3⟩ := hc j p hj
  refine ⟨c, h1, h2, fun i u hu => ?_⟩
  rw [h.cell _ (by rw [show (ad.add (j * (Kd.int k).sz + i)).block = ad.block by unfold Addr.add; split <;> rfl]; exact hA ad e hn)]
  exact h3 i u hu
/-- What the source hands out. -/
def nxt (l : List Int) (n : Int) : Int := if n < (l.length : Int) then rd l n else 0
set_option maxHeartbeats 4000000 in
set_option maxRecDepth 100000 in
theorem next_calls (l : List Int) (A : Option Addr) (c g : Nat) (n : Int) (w : World) (hr : Kd.C (Kd.int .u64) w A l.length l) (hc : l.length ≤ c) (hA : ∀ ad, A = some ad → 0 < l.length → ad.block ≠ g)
    (hb : w.heap[g]? = some (.cells #[.slice A l.length c, .int .i64 n] 33 (0, 0))) (n0 : 0 ≤ n) (n1 : n ≤ 4611686018427387904) :
    Calls Try.prog 50 #[.pointer (some ⟨g, 0, none⟩)] w fun e w' => e = .returned (.int .u64 (nxt l n)) ∧ w'.heap[g]? = some (.cells #[.slice A l.length c, .int .i64 (n + 1)] 33 (0, 0)) ∧ Turned g w w' := by
  have hu := Try.underlying33
  have HR := Aside0.mk hr
  have HA := Aside0.mk hA
  have HBK := Aside0.mk hb
  have HN := Aside0.mk (And.intro n0 n1)
  have hc0 : w.cell? ⟨g, 0, none⟩ = some (.slice A l.length c) := (blk_cell hb 0).trans rfl
  have hc1 : w.cell? ⟨g, 1, none⟩ = some (.int .i64 n) := (blk_cell hb 1).trans rfl
  have hf0 := blk_frozen hb 0
  have hf1 := blk_frozen hb 1
  have hw1 : wrap64 (n + 1) = n + 1 := by unfold wrap64; omega
  have hw2 : wrap64 (n + 1 - 1) = n := by unfold wrap64; omega
  have hw3 : n + 1 - 1 = n := by omega
  have hw4 : wrap64 n = n := by unfold wrap64; omega
  have HB2 := Aside0.mk (show (w.setCell ⟨g, 1, none⟩ (.int .i64 (n + 1))).heap[g]? = some (.cells #[.slice A l.length c, .int .i64 (n + 1)] 33 (0, 0)) from blk_set hb 1 _)
  have HT2 := Aside0.mk (Turned.set g w 1 (.int .i64 (n + 1)))
  clear hr hA hb n0 n1 hc
  go_enter Try.func50, Try.ntmps50
  go_wp2
  have hd0 : (w.setCell ⟨g, 1, none⟩ (.int .i64 (n + 1))).cell? ⟨g, 0, none⟩ = some (.slice A l.length c) := (blk_cell HB2.out 0).trans rfl
  have hd1 : (w.setCell ⟨g, 1, none⟩ (.int .i64 (n + 1))).cell? ⟨g, 1, none⟩ = some (.int .i64 (n + 1)) := (blk_cell HB2.out 1).trans rfl
  have HR2 := Aside0.mk (HT2.out.reads HA.out HR.out)
  clear hc0 hc1 hf0 hf1
  generalize w.setCell ⟨g, 1, none⟩ (.int .i64 (n + 1)) = W at *
  by_cases hlt : n < (l.length : Int)
  · have HLT := Aside0.mk hlt
    have hltb : decide (n < (l.length : Int)) = true := decide_eq_true hlt
    have h0b : decide (0 ≤ n) = true := decide_eq_true HN.out.1
    obtain ⟨ad, e, hx⟩ := Kd.at_int HR2.out n HN.out.1 hlt
    cases e
    have p1 := eq_true HN.out.1
    have q1 := eq_true hlt
    have HX : Aside0 (nxt l n = rd l n) := ⟨by unfold nxt; rw [if_pos hlt]⟩
    clear hlt
    repeat (go_quiet (fail); try go_wp2)
    go_ret
    exact ⟨by rw [HX.out]; rfl, HB2.out, HT2.out.trans (by repeat (first | exact Turned.refl _ _ | exact Turned.drewN _ _ _ | refine Turned.trans ?_ (Turned.drewN _ _ _)))⟩
  · have hltb : decide (n < (l.length : Int)) = false := decide_eq_false hlt
    have HX : Aside0 (nxt l n = 0) := ⟨by unfold nxt; rw [if_neg hlt]⟩
    clear hlt
    repeat (go_quiet (fail); try go_wp2)
    go_ret
    exact ⟨by rw [HX.out]; rfl, HB2.out, HT2.out.trans (by repeat (first | exact Turned.refl _ _ | exact Turned.drewN _ _ _ | refine Turned.trans ?_ (Turned.drewN _ _ _)))⟩
/-- What is drawn below n of the numbers from the place at on, in k tries: the number, the error, how many are taken. -/
def belowL (l : List Int) (n sp : Int) : Nat → Int → Int × Int × Int
  | 0, _ => (0, 7, 0)
  | k + 1, a => if nxt l a ≤ sp then (Int.tmod (nxt l a) n, 0, 1) else ((belowL l n sp k (a + 1)).1, (belowL l n sp k (a + 1)).2.1, (belowL l n sp k (a + 1)).2.2 + 1)
def spare (n : Int) : Int := Go.bits .xor .u64 IntKind.u64.max (Int.tmod (IntKind.u64.wrap (-n)) n)
def belowD (l : List Int) (n a : Int) : Int × Int × Int := if n = 0 then (0, 1, 0) else belowL l n (spare n) 64 a
set_option maxHeartbeats 4000000 in
set_option maxRecDepth 100000 in
theorem below_calls (l : List Int) (A : Option Addr) (c g : Nat) (n a : Int) (w : World) (hr : Kd.C (Kd.int .u64) w A l.length l) (hc : l.length ≤ c) (hA : ∀ ad, A = some ad → 0 < l.length → ad.block ≠ g)
    (hb : w.heap[g]? = some (.cells #[.slice A l.length c, .int .i64 a] 33 (0, 0))) (n0 : 0 ≤ n) (a0 : 0 ≤ a) (a1 : a ≤ 1073741824) :
    Calls Try.prog 18 #[.iface 31 (.pointer (some ⟨g, 0, none⟩)), .int .u64 n] w fun e w' => e = .returned (.tuple #[.int .u64 (belowD l n a).1, .int .i64 (belowD l n a).2.1]) ∧ w'.heap[g]? = some (.cells #[.slice A l.length c, .int .i64 (a + (belowD l n a).2.2)] 33 (0, 0)) ∧ Turned g w w' := by
  have hu := Try.underlying33
  have HR := Aside0.mk hr
  have HA := Aside0.mk hA
  have HC := Aside0.mk hc
  have HN := Aside0.mk (And.intro a0 a1)
  have HBK := Aside0.mk hb
  clear hr hA hc hb a0 a1
  by_cases hz : n = 0
  · subst hz
    have HD : Aside0 (belowD l 0 a = (0, 1, 0)) := ⟨if_pos rfl⟩
    go_enter Try.func18, Try.ntmps18
    go_wp2
    go_ret2
    exact ⟨by rw [HD.out]; rfl, by rw [HD.out]; show w.heap[g]? = some (.cells #[.slice A l.length c, .int .i64 (a + 0)] 33 (0, 0)); rw [Int.add_zero]; exact HBK.out, Turned.refl _ _⟩
  · have hzb : (n == 0) = false := beq_eq_false_iff_ne.mpr hz
    have hpos : 0 < n := by omega
    have HD : Aside0 (belowD l n a = belowL l n (spare n) 64 a) := ⟨if_neg hz⟩
    clear hz
    have hm : ∀ (p : Addr) (W : World), (method 178 31 (.pointer (some p)) "Next").run Try.prog W = .ok (50, .pointer (some p)) W := fun _ _ => by kernel_rfl
    go_enter Try.func18, Try.ntmps18
    go_wp2
    go_loopw [14] (fun v14 w' => ∃ i : Nat, v14 = .int .i64 (i : Int) ∧ Aside0 (i ≤ 64) ∧ Aside0 (belowL l n (spare n) 64 a = ((belowL l n (spare n) (64 - i) (a + i)).1, (belowL l n (spare n) (64 - i) (a + i)).2.1, (belowL l n (spare n) (64 - i) (a + i)).2.2 + i)) ∧ Aside0 (w'.heap[g]? = some (.cells #[.slice A l.length c, .int .i64 (a + i)] 33 (0, 0))) ∧ Aside0 (Turned g w w')) (fun v14 _ => 64 - (intOf v14).toNat)
    case atStart => exact ⟨0, rfl, ⟨by omega⟩, ⟨by rw [show ((0 : Nat) : Int) = 0 from rfl, Int.add_zero, Int.add_zero]⟩, ⟨by rw [show ((0 : Nat) : Int) = 0 from rfl, Int.add_zero]; exact HBK.out⟩, ⟨Turned.refl _ _⟩⟩
    case round =>
      obtain ⟨i, rfl, HI, HS, HBI, HT⟩ := hrel
      by_cases hlt : i < 64
      · have hltb : decide (i < 64) = true := decide_eq_true hlt
        have hltc : decide ((i : Int) < 64) = true := decide_eq_true (by omega)
        have HX := Aside0.mk (next_calls l A c g (a + i) wr (HT.out.reads HA.out HR.out) HC.out HA.out HBI.out (by have := HN.out; omega) (by have := HN.out; have := HI.out; omega))
        obtain ⟨m, hm64⟩ : ∃ m, 64 - i = m + 1 := ⟨64 - i - 1, by omega⟩
        have HM := Aside0.mk hm64
        have HLT := Aside0.mk hlt
        clear hm64 hlt
        have hsp : Go.bits .xor .u64 IntKind.u64.max (Int.tmod (IntKind.u64.wrap (-n)) n) = spare n := rfl
        have hsp2 : Go.bits .xor .u64 (if IntKind.u64.signed = true then -1 else IntKind.u64.max) (Int.tmod (IntKind.u64.wrap (-n)) n) = spare n := rfl
        have hwi : wrap64 ((i : Int) + 1) = (i : Int) + 1 := by have := HLT.out; unfold wrap64; omega
        obtain ⟨X, hX⟩ : ∃ X, nxt l (a + i) = X := ⟨_, rfl⟩
        have HX2 := Aside0.mk hX
        rw [hX] at HX
        clear hX
        by_cases ht : X ≤ spare n
        · have htb : decide (X ≤ spare n) = true := decide_eq_true ht
          have HE : Aside0 (belowD l n a = (Int.tmod X n, 0, 1 + (i : Int))) := ⟨by rw [HD.out, HS.out, HM.out, belowL, HX2.out, if_pos ht]⟩
          clear ht
          go_wp2_with (first | (go_at_call 50; (with_reducible refine HX.out.mono ?_); rintro e w2 ⟨rfl, hb2, ht2⟩; have HB2 := Aside0.mk hb2; have HT2 := Aside0.mk ht2; clear hb2 ht2))
          go_ret2
          exact ⟨by rw [HE.out]; rfl, by rw [HE.out]; show w2.heap[g]? = some (.cells #[.slice A l.length c, .int .i64 (a + (1 + (i : Int)))] 33 (0, 0)); rw [show a + (1 + (i : Int)) = a + i + 1 by omega]; exact HB2.out, HT.out.trans HT2.out⟩
        · have htb : decide (X ≤ spare n) = false := decide_eq_false ht
          have HE : Aside0 (belowL l n (spare n) 64 a = ((belowL l n (spare n) (64 - (i + 1)) (a + ((i + 1 : Nat) : Int))).1, (belowL l n (spare n) (64 - (i + 1)) (a + ((i + 1 : Nat) : Int))).2.1, (belowL l n (spare n) (64 - (i + 1)) (a + ((i + 1 : Nat) : Int))).2.2 + ((i + 1 : Nat) : Int))) := ⟨by
            rw [HS.out, HM.out, belowL, HX2.out, if_neg ht, show 64 - (i + 1) = m by have := HM.out; omega, show a + ((i + 1 : Nat) : Int) = a + i + 1 by omega]
            simp only [Prod.mk.injEq, true_and]
            omega⟩
          clear ht
          go_wp2_with (first | (go_at_call 50; (with_reducible refine HX.out.mono ?_); rintro e w2 ⟨rfl, hb2, ht2⟩; have HB2 := Aside0.mk hb2; have HT2 := Aside0.mk ht2; clear hb2 ht2))
          go_roundw
          case rel => exact ⟨i + 1, by first | (rw [hwi]; rfl) | go_num, ⟨by have := HLT.out; omega⟩, ⟨HE.out⟩, ⟨by rw [show a + ((i + 1 : Nat) : Int) = a + i + 1 by omega]; exact HB2.out⟩, ⟨HT.out.trans HT2.out⟩⟩
          case measure => have := HLT.out; (try rw [hwi]); show 64 - ((i : Int) + 1).toNat < 64 - ((i : Nat) : Int).toNat; omega
      · have hi : i = 64 := by have := HI.out; omega
        subst hi
        have HE : Aside0 (belowD l n a = (0, 7, 0 + ((64 : Nat) : Int))) := ⟨by rw [HD.out, HS.out, Nat.sub_self, belowL]⟩
        clear hlt
        go_wp2
        go_ret2
        exact ⟨by rw [HE.out]; rfl, by rw [HE.out]; show wr.heap[g]? = some (.cells #[.slice A l.length c, .int .i64 (a + (0 + ((64 : Nat) : Int)))] 33 (0, 0)); rw [Int.zero_add]; exact HBI.out, HT.out⟩
theorem below_told (l : List Int) (A : Option Addr) (c g : Nat) (n a : Int) (w : World) (m : Nat) (hm : l.length = m) (hr : Kd.C (Kd.int .u64) w A m l) (hc : m ≤ c) (hA : ∀ ad, A = some ad → ad.block ≠ g)
    (hb : w.heap[g]? = some (.cells #[.slice A m c, .int .i64 a] 33 (0, 0))) (n0 : 0 ≤ n) (a0 : 0 ≤ a) (a1 : a ≤ 1073741824) (x e t : Int) (h : belowD l n a = (x, e, t)) :
    Calls Try.prog 18 #[.iface 31 (.pointer (some ⟨g, 0, none⟩)), .int .u64 n] w fun e' w' => e' = .returned (.tuple #[.int .u64 x, .int .i64 e]) ∧ w'.heap[g]? = some (.cells #[.slice A m c, .int .i64 (a + t)] 33 (0, 0)) ∧ Turned g w w' := by
  subst hm
  have := below_calls l A c g n a w hr hc (fun ad e _ => hA ad e) hb n0 a0 a1
  rw [h] at this
  exact this
/-- A source over a list that was just made. -/
theorem made_list (w : World) (xs : List Int) (cs : Array Value) (m : Nat) (hm : xs.length = m) (hcs : cs = (xs.map fun x => Value.int .u64 x).toArray) (h9 : m ≤ 9223372036854775807) (z : Value) :
    Kd.C (Kd.int .u64) ((w.alloc (.cells cs 22 (0, 0))).alloc (.cells #[.slice (some ⟨w.heap.size, 0, none⟩) m m, z] 33 (0, 0))) (some ⟨w.heap.size, 0, none⟩) m xs ∧
    ((w.alloc (.cells cs 22 (0, 0))).alloc (.cells #[.slice (some ⟨w.heap.size, 0, none⟩) m m, z] 33 (0, 0))).heap[w.heap.size + 1]? = some (.cells #[.slice (some ⟨w.heap.size, 0, none⟩) m m, z] 33 (0, 0)) ∧
    Below w.heap.size w ((w.alloc (.cells cs 22 (0, 0))).alloc (.cells #[.slice (some ⟨w.heap.size, 0, none⟩) m m, z] 33 (0, 0))) := by
  subst hcs
  have hs : (w.alloc (.cells (xs.map fun x => Value.int .u64 x).toArray 22 (0, 0))).heap.size = w.heap.size + 1 := Array.size_push _
  refine ⟨⟨hm, h9, fun _ => ⟨_, rfl, fun j p hj => ⟨[.int .u64 p], rfl, rfl, fun i u hu => ?_⟩⟩⟩, ?_, below_alloc (below_alloc (Below.refl _ _) _) _⟩
  · have hi : i = 0 := by
      cases i with
      | zero => rfl
      | succ i => simp at hu
    subst hi
    have hu2 : u = .int .u64 p := by simpa using hu.symm
    subst hu2
    have hb := blk_alloc (blk_new w (.cells (xs.map fun x => Value.int .u64 x).toArray 22 (0, 0))) (.cells #[.slice (some ⟨w.heap.size, 0, none⟩) m m, z] 33 (0, 0))
    have h2 := blk_cell hb j
    have e : (⟨w.heap.size, 0, none⟩ : Addr).add (j * (Kd.int .u64).sz + 0) = ⟨w.heap.size, j, none⟩ := by
      rw [show (Kd.int .u64).sz = 1 from rfl, Nat.mul_one, Nat.add_zero]
      unfold Addr.add
      split
      · rename_i h0; rw [h0]
      · simp
    rw [e, h2]
    simp [hj]
  · have hn := blk_new (w.alloc (.cells (xs.map fun x => Value.int .u64 x).toArray 22 (0, 0))) (.cells #[.slice (some ⟨w.heap.size, 0, none⟩) m m, z] 33 (0, 0))
    rw [hs] at hn
    exact hn
theorem made_listb (w : World) (b : Nat) (hb : w.heap.size = b) (xs : List Int) (cs : Array Value) (m : Nat) (hm : xs.length = m) (hcs : cs = (xs.map fun x => Value.int .u64 x).toArray) (h9 : m ≤ 9223372036854775807) (z : Value) :
    Kd.C (Kd.int .u64) ((w.alloc (.cells cs 22 (0, 0))).alloc (.cells #[.slice (some ⟨b, 0, none⟩) m m, z] 33 (0, 0))) (some ⟨b, 0, none⟩) m xs ∧
    ((w.alloc (.cells cs 22 (0, 0))).alloc (.cells #[.slice (some ⟨b, 0, none⟩) m m, z] 33 (0, 0))).heap[b + 1]? = some (.cells #[.slice (some ⟨b, 0, none⟩) m m, z] 33 (0, 0)) ∧
    Below w.heap.size w ((w.alloc (.cells cs 22 (0, 0))).alloc (.cells #[.slice (some ⟨b, 0, none⟩) m m, z] 33 (0, 0))) := by
  subst hb
  exact made_list w xs cs m hm hcs h9 z
set_option maxHeartbeats 4000000 in
set_option maxRecDepth 100000 in
theorem fixed_calls (w : World) : Calls Try.prog 17 #[] w fun e w' => e = .returned (.bool true) ∧ Below w.heap.size w w' := by
  have D1 : belowD [18446744073709551615, 7] 10 0 = (7, 0, 2) := by decide +kernel
  have D2 : belowD [18446744073709551615, 7] 8 0 = (7, 0, 1) := by decide +kernel
  have HD1 := Aside0.mk D1
  have HD2 := Aside0.mk D2
  clear D1 D2
  have hu := Try.underlying33
  have HM := Aside0.mk (made_list w [18446744073709551615, 7] #[.int .u64 18446744073709551615, .int .u64 7] 2 rfl rfl (by decide) (.int .i64 0))
  have HT := Aside0.mk (below_told [18446744073709551615, 7] (some ⟨w.heap.size, 0, none⟩) 2 (w.heap.size + 1) 10 0 _ 2 rfl HM.out.1 (by decide) (fun ad e => by injection e with e; subst e; simp) HM.out.2.1 (by omega) (by omega) (by omega) 7 0 2 HD1.out)
  go_enter Try.func17, Try.ntmps17
  go_wp2_with (first | (go_at_call 18; (with_reducible refine HT.out.mono ?_); rintro e w2 ⟨rfl, hb2, ht2⟩; clear HT; have HB2 := Aside0.mk hb2; have HW := Aside0.mk (ht2.2.2 w HM.out.2.2 (Nat.le_succ _)); clear hb2 ht2 HM; have HM2 := Aside0.mk (made_list w2 [18446744073709551615, 7] #[.int .u64 18446744073709551615, .int .u64 7] 2 rfl rfl (by decide) (.int .i64 0)); have HT2 := Aside0.mk (below_told [18446744073709551615, 7] (some ⟨w2.heap.size, 0, none⟩) 2 (w2.heap.size + 1) 8 0 _ 2 rfl HM2.out.1 (by decide) (fun ad e => by injection e with e; subst e; simp) HM2.out.2.1 (by omega) (by omega) (by omega) 7 0 1 HD2.out)) | (go_at_call 18; (with_reducible refine HT2.out.mono ?_); rintro e w4 ⟨rfl, hb4, ht4⟩; clear HT2; have hcB : w4.cell? ⟨w2.heap.size + 1, 1, none⟩ = some (.int .i64 1) := (blk_cell hb4 1).trans rfl; have hcA : w4.cell? ⟨w.heap.size + 1, 1, none⟩ = some (.int .i64 2) := (blk_cell (ht4.block (Nat.ne_of_lt (Nat.lt_succ_of_lt (blk_lt HB2.out))) (blk_alloc (blk_alloc HB2.out _) _)) 1).trans rfl; have HW4 := Aside0.mk (ht4.2.2 w (below_alloc (below_alloc HW.out _) _) (Nat.le_succ_of_le HW.out.size)); clear hb4 ht4 HM2))
  go_ret
  exact ⟨rfl, by repeat (first | exact HW4.out | apply pw_below_drewN | apply below_drew1)⟩
def hornbeamlaw02_fixed.f : Option Bool := some true
theorem hornbeamlaw02_fixed.calls (r : Bool) (w : World) (h : hornbeamlaw02_fixed.f = some r) : Calls Try.prog 17 #[] w fun e w' => e = .returned (.bool r) ∧ Below w.heap.size w w' := by
  obtain rfl : true = r := Option.some.inj h
  exact fixed_calls w


/-! ### hornbeamref02_Whole: function 31 -/
def hornbeamref02_Whole.f (a0 : Int) (a1 : Int) : Option (Bool) := if a1 = 0 then (none) else (if (IntKind.u64.wrap (18446744073709551615 - (IntKind.u64.wrap ((IntKind.u64.wrap (Int.tdiv 18446744073709551615 a1)) * a1)))) = (IntKind.u64.wrap (a1 - 1)) then (some true) else (some (decide (a0 < (IntKind.u64.wrap ((IntKind.u64.wrap (Int.tdiv 18446744073709551615 a1)) * a1))))))
set_option maxHeartbeats 8000000 in
set_option maxRecDepth 100000 in
theorem hornbeamref02_Whole.calls (a0 : Int) (a1 : Int) (r : Bool) (w : World) (h : hornbeamref02_Whole.f a0 a1 = some r) :
    Calls Try.prog 31 #[.int .u64 a0, .int .u64 a1] w fun e w' => e = .returned (.bool r) ∧ Drawn0 w w' := by
  have H : (if a1 = 0 then (none) else (if (IntKind.u64.wrap (18446744073709551615 - (IntKind.u64.wrap ((IntKind.u64.wrap (Int.tdiv 18446744073709551615 a1)) * a1)))) = (IntKind.u64.wrap (a1 - 1)) then (some true) else (some (decide (a0 < (IntKind.u64.wrap ((IntKind.u64.wrap (Int.tdiv 18446744073709551615 a1)) * a1))))))) = some r := h
  clear h
  by_cases c3 : a1 = 0
  · rw [if_pos c3] at H
    exact absurd H (by simp)
  · rw [if_neg c3] at H
    have c3b0 : (a1 == 0) = false := beq_eq_false_iff_ne.mpr c3
    have c3b1 : (a1 != 0) = true := bne_iff_ne.mpr c3
    by_cases c4 : (IntKind.u64.wrap (18446744073709551615 - (IntKind.u64.wrap ((IntKind.u64.wrap (Int.tdiv 18446744073709551615 a1)) * a1)))) = (IntKind.u64.wrap (a1 - 1))
    · rw [if_pos c4] at H
      have c4b0 : ((IntKind.u64.wrap (18446744073709551615 - (IntKind.u64.wrap ((IntKind.u64.wrap (Int.tdiv 18446744073709551615 a1)) * a1)))) == (IntKind.u64.wrap (a1 - 1))) = true := beq_iff_eq.mpr c4
      have c4b1 : ((IntKind.u64.wrap (18446744073709551615 - (IntKind.u64.wrap ((IntKind.u64.wrap (Int.tdiv 18446744073709551615 a1)) * a1)))) != (IntKind.u64.wrap (a1 - 1))) = false := bne_eq_false_iff_eq.mpr c4
      clear c4
      obtain rfl := Option.some.inj H
      go_enter Try.func31, Try.ntmps31
      go_wp2
      all_goals (go_ret; exact ⟨by first | rfl | (simp; done) | (simp [*]; done), by repeat (first | exact Drawn0.refl _ | apply Drawn0.step)⟩)
    · rw [if_neg c4] at H
      have c4b0 : ((IntKind.u64.wrap (18446744073709551615 - (IntKind.u64.wrap ((IntKind.u64.wrap (Int.tdiv 18446744073709551615 a1)) * a1)))) == (IntKind.u64.wrap (a1 - 1))) = false := beq_eq_false_iff_ne.mpr c4
      have c4b1 : ((IntKind.u64.wrap (18446744073709551615 - (IntKind.u64.wrap ((IntKind.u64.wrap (Int.tdiv 18446744073709551615 a1)) * a1)))) != (IntKind.u64.wrap (a1 - 1))) = true := bne_iff_ne.mpr c4
      obtain rfl := Option.some.inj H
      go_enter Try.func31, Try.ntmps31
      go_wp2
      all_goals (go_ret; exact ⟨by first | rfl | (simp; done) | (simp [*]; done), by repeat (first | exact Drawn0.refl _ | apply Drawn0.step)⟩)

/-! ### hornbeamref02_Below: function 19 -/
def hornbeamref02_Below.l0 : Nat → List Int → Int → Int → Int → Option (Int × Int × Int)
  | 0, _, _, _, _ => none
  | k + 1, x0, x1, x2, x9 => if x9 < 64 then (if (wrap64 (x1 + x9)) < (x0.length : Int) then (if 0 ≤ (wrap64 (x1 + x9)) then ((hornbeamref02_Whole.f (rd x0 (wrap64 (x1 + x9))) x2).bind fun t102 => (if t102 = true then (if x2 = 0 then (none) else (some (Int.tmod (rd x0 (wrap64 (x1 + x9))) x2, wrap64 (x9 + 1), 0))) else (hornbeamref02_Below.l0 k x0 x1 x2 (wrap64 (x9 + 1))))) else (none)) else ((hornbeamref02_Whole.f 0 x2).bind fun t103 => (if t103 = true then (if x2 = 0 then (none) else (some ((0 : Int) % x2, wrap64 (x9 + 1), 0))) else (hornbeamref02_Below.l0 k x0 x1 x2 (wrap64 (x9 + 1)))))) else (some (0, 64, 7))
def hornbeamref02_Below.f (k : Nat) (l0 : List Int) (a1 : Int) (a2 : Int) : Option (Int × Int × Int) := if a2 = 0 then (some (0, 0, 1)) else (hornbeamref02_Below.l0 k l0 a1 a2 0)
theorem hornbeamref02_Below.mono_l : ∀ k, (∀ y0 y1 y2 y3, LeO (hornbeamref02_Below.l0 k y0 y1 y2 y3) (hornbeamref02_Below.l0 (k + 1) y0 y1 y2 y3))
  | 0 => fun _ _ _ _ r h => by simp [hornbeamref02_Below.l0] at h
  | k + 1 => by
    have ih0 := hornbeamref02_Below.mono_l k
    · intro y0 y1 y2 y3
      unfold hornbeamref02_Below.l0
      repeat' first
      | (with_reducible exact ih0 _ _ _ _)
      | (with_reducible exact LeO.refl _)
      | (with_reducible exact LeO.none _)
      | (with_reducible refine LeO.ite ?_ ?_)
      | (with_reducible refine LeO.bind ?_ (fun _ => ?_))
      | exact ih0 _ _ _ _
      | exact LeO.none _
      | refine LeO.ite ?_ ?_
      | refine LeO.bind ?_ (fun _ => ?_)
theorem hornbeamref02_Below.mono : ∀ a0 a1 a2 k, LeO (hornbeamref02_Below.f k a0 a1 a2) (hornbeamref02_Below.f (k + 1) a0 a1 a2) := by
  intro a0 a1 a2 k
  have ih0 := hornbeamref02_Below.mono_l k
  unfold hornbeamref02_Below.f
  repeat' first
      | (with_reducible exact ih0 _ _ _ _)
      | (with_reducible exact LeO.refl _)
      | (with_reducible exact LeO.none _)
      | (with_reducible refine LeO.ite ?_ ?_)
      | (with_reducible refine LeO.bind ?_ (fun _ => ?_))
      | exact ih0 _ _ _ _
      | exact LeO.none _
      | refine LeO.ite ?_ ?_
      | refine LeO.bind ?_ (fun _ => ?_)
set_option maxHeartbeats 8000000 in
set_option maxRecDepth 100000 in
theorem hornbeamref02_Below.calls (k : Nat) (A0 : Option Addr) (c0 : Nat) (l0 : List Int) (a1 : Int) (a2 : Int) (r1 : Int) (r2 : Int) (r3 : Int) (w : World) (hr0 : Kd.C (Kd.int .u64) w A0 l0.length l0) (hc0 : l0.length ≤ c0) (h : hornbeamref02_Below.f k l0 a1 a2 = some (r1, r2, r3)) :
    Calls Try.prog 19 #[.slice A0 l0.length c0, .int .i64 a1, .int .u64 a2] w fun e w' => e = .returned (.tuple #[.int .u64 r1, .int .i64 r2, .int .i64 r3]) ∧ Drawn0 w w' := by
  have HR0 := Aside0.mk hr0
  have HC0 := Aside0.mk hc0
  clear hr0 hc0
  have H : (if a2 = 0 then (some (0, 0, 1)) else (hornbeamref02_Below.l0 k l0 a1 a2 0)) = some (r1, r2, r3) := h
  clear h
  by_cases c4 : a2 = 0
  · rw [if_pos c4] at H
    have c4b0 : (a2 == 0) = true := beq_iff_eq.mpr c4
    have c4b1 : (a2 != 0) = false := bne_eq_false_iff_eq.mpr c4
    clear c4
    simp only [Option.some.injEq, Prod.mk.injEq] at H
    obtain ⟨rfl, rfl, rfl⟩ := H
    go_enter Try.func19, Try.ntmps19
    go_wp2
    all_goals (go_ret3; exact ⟨by first | rfl | (simp; done) | (simp [*]; done), by repeat (first | exact Drawn0.refl _ | apply Drawn0.step)⟩)
  · rw [if_neg c4] at H
    have c4b0 : (a2 == 0) = false := beq_eq_false_iff_ne.mpr c4
    have c4b1 : (a2 != 0) = true := bne_iff_ne.mpr c4
    have H' := Aside0.mk H
    clear H
    go_enter Try.func19, Try.ntmps19
    go_wp2
    go_loopg [9] k (fun kq v9 w' => ∃ (x9_1 : Int), v9 = .int .i64 x9_1 ∧ Aside0 (hornbeamref02_Below.l0 kq l0 a1 a2 x9_1 = some (r1, r2, r3)) ∧ Aside0 (kq ≤ k) ∧ Drawn0 w w')
    case atStart => exact ⟨(0), (by first | rfl | (simp; done) | (simp [*]; done)), H', ⟨Nat.le_refl _⟩, by repeat (first | exact Drawn0.refl _ | apply Drawn0.step)⟩
    case round =>
      clear H'
      try clear c1
      try clear p2
      try clear c4
      try clear c4b0
      try clear c4b1
      obtain ⟨x9_1, rfl, HA, HK1, ⟨m1, rfl⟩⟩ := hrel
      cases gk with
      | zero => exact absurd HA.out (by simp [hornbeamref02_Below.l0])
      | succ k1 =>
        have H := HA.out
        clear HA
        simp only [hornbeamref02_Below.l0] at H
        by_cases c5 : x9_1 < 64
        · rw [if_pos c5] at H
          have c5b0 : decide (x9_1 < 64) = true := decide_eq_true c5
          clear c5
          by_cases c6 : (wrap64 (a1 + x9_1)) < (l0.length : Int)
          · rw [if_pos c6] at H
            have c6b0 : decide ((wrap64 (a1 + x9_1)) < (l0.length : Int)) = true := decide_eq_true c6
            clear c6
            obtain ⟨ji7, hji7⟩ : ∃ j_ : Int, (wrap64 (a1 + x9_1)) = j_ := ⟨_, rfl⟩
            replace H : (if 0 ≤ (ji7) then ((hornbeamref02_Whole.f (rd l0 (ji7)) a2).bind fun t102 => (if t102 = true then (if a2 = 0 then (none) else (some (Int.tmod (rd l0 (ji7)) a2, wrap64 (x9_1 + 1), 0))) else (hornbeamref02_Below.l0 k1 l0 a1 a2 (wrap64 (x9_1 + 1))))) else (none)) = some (r1, r2, r3) := by first | (rw [hji7] at H; exact H) | (simp only [hji7] at H ⊢; exact H)
            (try rw [hji7] at c6b0)
            have hji7w : (IntKind.i64.wrap (a1 + x9_1)) = ji7 := (i64_w _).trans hji7
            by_cases c8 : 0 ≤ (ji7)
            · rw [if_pos c8] at H
              have c8b0 : decide (0 ≤ (ji7)) = true := decide_eq_true c8
              clear c8
              replace H := Option.bind_eq_some_iff.mp H
              obtain ⟨t102, A90, H⟩ := H
              replace H : (if t102 = true then (if a2 = 0 then (none) else (some (Int.tmod (rd l0 (ji7)) a2, wrap64 (x9_1 + 1), 0))) else (hornbeamref02_Below.l0 k1 l0 a1 a2 (wrap64 (x9_1 + 1)))) = some (r1, r2, r3) := H
              have A9 := Aside0.mk A90
              clear A90
              by_cases c10 : t102 = true
              · subst c10
                have H1 : (if a2 = 0 then (none) else (some (Int.tmod (rd l0 (ji7)) a2, wrap64 (x9_1 + 1), 0))) = some (r1, r2, r3) := by rw [if_pos rfl] at H; exact H
                clear H
                have H := H1
                clear H1
                by_cases c11 : a2 = 0
                · rw [if_pos c11] at H
                  exact absurd H (by simp)
                · rw [if_neg c11] at H
                  have c11b0 : (a2 == 0) = false := beq_eq_false_iff_ne.mpr c11
                  have c11b1 : (a2 != 0) = true := bne_iff_ne.mpr c11
                  simp only [Option.some.injEq, Prod.mk.injEq] at H
                  obtain ⟨rfl, rfl, rfl⟩ := H
                  have p101 : 0 ≤ ((ji7) : Int) := of_decide_eq_true (by first | (with_reducible assumption) | assumption)
                  have q101 : (ji7) < (l0.length : Int) := of_decide_eq_true (by first | (with_reducible assumption) | assumption)
                  obtain ⟨ad101, e101, hx101_0⟩ := Kd.at_int HR0.out (ji7) p101 q101
                  cases e101
                  replace p101 := eq_true p101
                  replace q101 := eq_true q101
                  go_wp2_with (first | ((with_reducible refine gate_callee (f := 31) rfl ?_); refine goesL_ (some 31) rfl rfl Try.func31 (by kernel_rfl) rfl #[.int .u64 (rd l0 (ji7)), .int .u64 a2] rfl (by (try simp only [List.map_toArray, List.map_cons, List.map_nil]); first | done | (simp only [hji7]; rfl) | rfl | (simp only [List.length_drop, List.length_take]; rfl)) ?_; (with_reducible refine (hornbeamref02_Whole.calls (rd l0 (ji7)) a2 true _ A9.out).mono ?_); rintro e w' ⟨rfl, ⟨nd, rfl⟩⟩; refine ⟨_, rfl, ?_⟩))
                  all_goals (go_ret3; exact ⟨by first | rfl | (simp; done) | (simp only [← hji7] <;> (first | rfl | simp)) | (simp [*]; done), by repeat (first | exact Drawn0.refl _ | apply Drawn0.step)⟩)
              · replace c10 := Bool.eq_false_iff.mpr c10
                subst c10
                have H1 : (hornbeamref02_Below.l0 k1 l0 a1 a2 (wrap64 (x9_1 + 1))) = some (r1, r2, r3) := by rw [if_neg (show ¬ (false = true) by decide)] at H; exact H
                clear H
                have H := H1
                clear H1
                have H' := Aside0.mk H
                clear H
                have p101 : 0 ≤ ((ji7) : Int) := of_decide_eq_true (by first | (with_reducible assumption) | assumption)
                have q101 : (ji7) < (l0.length : Int) := of_decide_eq_true (by first | (with_reducible assumption) | assumption)
                obtain ⟨ad101, e101, hx101_0⟩ := Kd.at_int HR0.out (ji7) p101 q101
                cases e101
                replace p101 := eq_true p101
                replace q101 := eq_true q101
                go_wp2_with (first | ((with_reducible refine gate_callee (f := 31) rfl ?_); refine goesL_ (some 31) rfl rfl Try.func31 (by kernel_rfl) rfl #[.int .u64 (rd l0 (ji7)), .int .u64 a2] rfl (by (try simp only [List.map_toArray, List.map_cons, List.map_nil]); first | done | (simp only [hji7]; rfl) | rfl | (simp only [List.length_drop, List.length_take]; rfl)) ?_; (with_reducible refine (hornbeamref02_Whole.calls (rd l0 (ji7)) a2 false _ A9.out).mono ?_); rintro e w' ⟨rfl, ⟨nd, rfl⟩⟩; refine ⟨_, rfl, ?_⟩))
                go_roundg k1
                case measure => have := HK1.out; omega
                case rel => exact ⟨(wrap64 (x9_1 + 1)), (by first | rfl | (simp; done) | (simp [*]; done)), H', ⟨by have := HK1.out; omega⟩, by repeat (first | exact Drawn0.refl _ | apply Drawn0.step)⟩
            · rw [if_neg c8] at H
              exact absurd H (by simp)
          · rw [if_neg c6] at H
            have c6b0 : decide ((wrap64 (a1 + x9_1)) < (l0.length : Int)) = false := decide_eq_false c6
            clear c6
            replace H := Option.bind_eq_some_iff.mp H
            obtain ⟨t103, A120, H⟩ := H
            replace H : (if t103 = true then (if a2 = 0 then (none) else (some ((0 : Int) % a2, wrap64 (x9_1 + 1), 0))) else (hornbeamref02_Below.l0 k1 l0 a1 a2 (wrap64 (x9_1 + 1)))) = some (r1, r2, r3) := H
            have A12 := Aside0.mk A120
            clear A120
            by_cases c13 : t103 = true
            · subst c13
              have H1 : (if a2 = 0 then (none) else (some ((0 : Int) % a2, wrap64 (x9_1 + 1), 0))) = some (r1, r2, r3) := by rw [if_pos rfl] at H; exact H
              clear H
              have H := H1
              clear H1
              by_cases c14 : a2 = 0
              · rw [if_pos c14] at H
                exact absurd H (by simp)
              · rw [if_neg c14] at H
                have c14b0 : (a2 == 0) = false := beq_eq_false_iff_ne.mpr c14
                have c14b1 : (a2 != 0) = true := bne_iff_ne.mpr c14
                simp only [Option.some.injEq, Prod.mk.injEq] at H
                obtain ⟨rfl, rfl, rfl⟩ := H
                go_wp2_with (first | ((with_reducible refine gate_callee (f := 31) rfl ?_); refine goesL_ (some 31) rfl rfl Try.func31 (by kernel_rfl) rfl #[.int .u64 0, .int .u64 a2] rfl (by (try simp only [List.map_toArray, List.map_cons, List.map_nil]); first | done | rfl | (simp only [List.length_drop, List.length_take]; rfl)) ?_; (with_reducible refine (hornbeamref02_Whole.calls 0 a2 true _ A12.out).mono ?_); rintro e w' ⟨rfl, ⟨nd, rfl⟩⟩; refine ⟨_, rfl, ?_⟩))
                all_goals (go_ret3; exact ⟨by first | rfl | (simp; done) | (simp [*]; done), by repeat (first | exact Drawn0.refl _ | apply Drawn0.step)⟩)
            · replace c13 := Bool.eq_false_iff.mpr c13
              subst c13
              have H1 : (hornbeamref02_Below.l0 k1 l0 a1 a2 (wrap64 (x9_1 + 1))) = some (r1, r2, r3) := by rw [if_neg (show ¬ (false = true) by decide)] at H; exact H
              clear H
              have H := H1
              clear H1
              have H' := Aside0.mk H
              clear H
              go_wp2_with (first | ((with_reducible refine gate_callee (f := 31) rfl ?_); refine goesL_ (some 31) rfl rfl Try.func31 (by kernel_rfl) rfl #[.int .u64 0, .int .u64 a2] rfl (by (try simp only [List.map_toArray, List.map_cons, List.map_nil]); first | done | rfl | (simp only [List.length_drop, List.length_take]; rfl)) ?_; (with_reducible refine (hornbeamref02_Whole.calls 0 a2 false _ A12.out).mono ?_); rintro e w' ⟨rfl, ⟨nd, rfl⟩⟩; refine ⟨_, rfl, ?_⟩))
              go_roundg k1
              case measure => have := HK1.out; omega
              case rel => exact ⟨(wrap64 (x9_1 + 1)), (by first | rfl | (simp; done) | (simp [*]; done)), H', ⟨by have := HK1.out; omega⟩, by repeat (first | exact Drawn0.refl _ | apply Drawn0.step)⟩
        · rw [if_neg c5] at H
          have c5b0 : decide (x9_1 < 64) = false := decide_eq_false c5
          clear c5
          simp only [Option.some.injEq, Prod.mk.injEq] at H
          obtain ⟨rfl, rfl, rfl⟩ := H
          go_wp2
          all_goals (go_ret3; exact ⟨by first | rfl | (simp; done) | (simp [*]; done), by repeat (first | exact Drawn0.refl _ | apply Drawn0.step)⟩)

/-! ### hornbeamlaw02_StreamBelow: function 6 -/
theorem spare_eq {n : Int} (n0 : 0 < n) (n1 : n < 18446744073709551616) : spare n = 18446744073709551615 - 18446744073709551616 % n := by
  have e1 : IntKind.u64.wrap (-n) = 18446744073709551616 - n := by rw [U64.wrap_u64]; omega
  have e2 : (18446744073709551616 - n) % n = 18446744073709551616 % n := by
    rw [Int.sub_emod, Int.emod_self, Int.sub_zero, Int.emod_emod]
  have e3 := Int.emod_nonneg 18446744073709551616 (b := n) (by omega)
  have e4 := Int.emod_lt_of_pos 18446744073709551616 n0
  unfold spare
  rw [e1, Int.tmod_eq_emod_of_nonneg (by omega), e2]
  obtain ⟨y, hy⟩ := U64.U_of e3 (by omega)
  rw [hy, show IntKind.u64.max = U64.U (BitVec.allOnes 64) by decide, U64.xor_U]
  unfold U64.U
  rw [BitVec.allOnes_xor, BitVec.toNat_not]
  have := y.isLt
  omega
/-- How many whole groups there are, times n. -/
theorem spare_groups {n : Int} (n0 : 0 < n) (n1 : n < 18446744073709551616) : spare n + 1 = n * (18446744073709551616 / n) := by
  have := Int.mul_ediv_add_emod 18446744073709551616 n
  rw [spare_eq n0 n1]; omega
theorem belowL_hit (l : List Int) (n sp : Int) (k : Nat) (a : Int) (h : nxt l a ≤ sp) : belowL l n sp (k + 1) a = (Int.tmod (nxt l a) n, 0, 1) := by rw [belowL, if_pos h]
theorem belowL_miss (l : List Int) (n sp : Int) (k : Nat) (a : Int) (h : ¬ nxt l a ≤ sp) : belowL l n sp (k + 1) a = ((belowL l n sp k (a + 1)).1, (belowL l n sp k (a + 1)).2.1, (belowL l n sp k (a + 1)).2.2 + 1) := by rw [belowL, if_neg h]
theorem whole_f {x n : Int} (n0 : 0 < n) (n1 : n < 18446744073709551616) (x1 : x < 18446744073709551616) : hornbeamref02_Whole.f x n = some (decide (x ≤ spare n)) := by
  have hsp := spare_eq n0 n1
  have hm := Int.mul_ediv_add_emod 18446744073709551615 n
  have h1 := Int.emod_nonneg 18446744073709551615 (b := n) (by omega)
  have h2 := Int.emod_lt_of_pos 18446744073709551615 n0
  have hq0 : 0 ≤ (18446744073709551615 : Int) / n := Int.ediv_nonneg (by omega) (by omega)
  have hq1 : (18446744073709551615 : Int) / n ≤ 18446744073709551615 := Int.ediv_le_self _ (by omega)
  have hqn := Int.mul_nonneg (a := n) (by omega) hq0
  have hM : (18446744073709551616 : Int) % n = if 18446744073709551615 % n = n - 1 then 0 else 18446744073709551615 % n + 1 := by
    have e : (18446744073709551616 : Int) = 18446744073709551615 % n + 1 + n * (18446744073709551615 / n) := by omega
    have e2 : (18446744073709551616 : Int) % n = (18446744073709551615 % n + 1) % n := by
      conv => lhs; rw [e]
      rw [Int.add_mul_emod_self_left]
    rw [e2]
    by_cases h : (18446744073709551615 : Int) % n = n - 1
    · rw [if_pos h, h, show n - 1 + 1 = n by omega, Int.emod_self]
    · rw [if_neg h, Int.emod_eq_of_lt (by omega) (by omega)]
  unfold hornbeamref02_Whole.f
  rw [if_neg (by omega), Int.tdiv_eq_ediv_of_nonneg (a := 18446744073709551615) (b := n) (by omega), U64.wrap_u64 (18446744073709551615 / n), Int.emod_eq_of_lt hq0 (by omega), Int.mul_comm (18446744073709551615 / n) n, U64.wrap_u64 (n * (18446744073709551615 / n)), Int.emod_eq_of_lt hqn (by omega), U64.wrap_u64 (18446744073709551615 - _), U64.wrap_u64 (n - 1), Int.emod_eq_of_lt (a := n - 1) (by omega) (by omega), Int.emod_eq_of_lt (a := 18446744073709551615 - n * (18446744073709551615 / n)) (by omega) (by omega)]
  by_cases h : (18446744073709551615 : Int) % n = n - 1
  · rw [if_pos (by omega), decide_eq_true]
    rw [if_pos h] at hM
    omega
  · rw [if_neg (by omega)]
    rw [if_neg h] at hM
    congr 1
    rw [decide_eq_decide]
    omega
theorem nxt_bound {l : List Int} (hl : ∀ x ∈ l, 0 ≤ x ∧ x < 18446744073709551616) (i : Int) (h0 : 0 ≤ i) : 0 ≤ nxt l i ∧ nxt l i < 18446744073709551616 := by
  unfold nxt
  by_cases h : i < (l.length : Int)
  · rw [if_pos h]
    have hlt : i.toNat < l.length := by omega
    have e : rd l i = l[i.toNat] := by simp [rd, List.getD, hlt]
    rw [e]
    exact hl _ (List.getElem_mem hlt)
  · rw [if_neg h]; omega
theorem same_l {l : List Int} (hl : ∀ x ∈ l, 0 ≤ x ∧ x < 18446744073709551616) {n : Int} (n0 : 0 < n) (n1 : n < 18446744073709551616) {a : Int} (a0 : 0 ≤ a) (a1 : a ≤ 1073741824) (m : Nat) : ∀ (k i : Nat), i + m = 64 → m < k →
    hornbeamref02_Below.l0 k l a n (i : Int) = some ((belowL l n (spare n) m (a + i)).1, (belowL l n (spare n) m (a + i)).2.2 + i, (belowL l n (spare n) m (a + i)).2.1) := by
  induction m with
  | zero =>
    intro k i hi hk
    obtain ⟨k, rfl⟩ : ∃ q, k = q + 1 := ⟨k - 1, by omega⟩
    have : i = 64 := by omega
    subst this
    rw [hornbeamref02_Below.l0, if_neg (by omega), belowL]
    simp
  | succ m ih =>
    intro k i hi hk
    obtain ⟨k, rfl⟩ : ∃ q, k = q + 1 := ⟨k - 1, by omega⟩
    have hb := nxt_bound hl (a + i) (by omega)
    rw [hornbeamref02_Below.l0, if_pos (by omega), show wrap64 (a + (i : Int)) = a + i by unfold wrap64; omega, show wrap64 ((i : Int) + 1) = ((i + 1 : Nat) : Int) by unfold wrap64; omega]
    have hnext : hornbeamref02_Below.l0 k l a n ((i + 1 : Nat) : Int) = some ((belowL l n (spare n) m (a + i + 1)).1, (belowL l n (spare n) m (a + i + 1)).2.2 + ((i + 1 : Nat) : Int), (belowL l n (spare n) m (a + i + 1)).2.1) := by
      have := ih k (i + 1) (by omega) (by omega)
      rw [show a + ((i + 1 : Nat) : Int) = a + i + 1 by omega] at this
      exact this
    by_cases h : a + (i : Int) < (l.length : Int)
    · have e : nxt l (a + i) = rd l (a + i) := by unfold nxt; rw [if_pos h]
      rw [← e, if_pos h, if_pos (by omega), whole_f n0 n1 hb.2, Option.bind_some]
      by_cases ht : nxt l (a + i) ≤ spare n
      · rw [decide_eq_true ht, if_pos rfl, if_neg (by omega), belowL_hit _ _ _ _ _ ht]
        refine congrArg some (Prod.ext rfl (Prod.ext ?_ rfl))
        dsimp only
        omega
      · rw [decide_eq_false ht, if_neg (by decide), belowL_miss _ _ _ _ _ ht, hnext]
        refine congrArg some (Prod.ext rfl (Prod.ext ?_ rfl))
        dsimp only
        omega
    · have e : nxt l (a + i) = 0 := by unfold nxt; rw [if_neg h]
      rw [if_neg h, whole_f n0 n1 (by omega), Option.bind_some]
      by_cases ht : nxt l (a + i) ≤ spare n
      · rw [decide_eq_true (e ▸ ht), if_pos rfl, if_neg (by omega), belowL_hit _ _ _ _ _ ht, e]
        rw [Int.zero_tmod, Int.zero_emod]
        refine congrArg some (Prod.ext rfl (Prod.ext ?_ rfl))
        dsimp only
        omega
      · rw [decide_eq_false (e ▸ ht), if_neg (by decide), belowL_miss _ _ _ _ _ ht, hnext]
        refine congrArg some (Prod.ext rfl (Prod.ext ?_ rfl))
        dsimp only
        omega
theorem belowL_taken (l : List Int) (n sp : Int) (m : Nat) : ∀ a, 0 ≤ (belowL l n sp m a).2.2 ∧ (belowL l n sp m a).2.2 ≤ m := by
  induction m with
  | zero => intro a; rw [belowL]; simp
  | succ m ih =>
    intro a
    rw [belowL]
    split
    · simp; omega
    · have := ih (a + 1); simp only []; omega
theorem same_below {l : List Int} (hl : ∀ x ∈ l, 0 ≤ x ∧ x < 18446744073709551616) {n : Int} (n0 : 0 ≤ n) (n1 : n < 18446744073709551616) {a : Int} (a0 : 0 ≤ a) (a1 : a ≤ 1073741824) :
    ∃ X E T : Int, belowD l n a = (X, E, T) ∧ hornbeamref02_Below.f 100 l a n = some (X, T, E) ∧ 0 ≤ T ∧ T ≤ 64 := by
  unfold belowD hornbeamref02_Below.f
  by_cases h : n = 0
  · exact ⟨0, 1, 0, by rw [if_pos h], by rw [if_pos h], by omega, by omega⟩
  · have h1 := same_l hl (n := n) (by omega) n1 a0 a1 64 100 0 (by omega) (by omega)
    have h2 := belowL_taken l n (spare n) 64 a
    rw [show ((0 : Nat) : Int) = 0 from rfl, Int.add_zero, Int.add_zero] at h1
    exact ⟨_, _, _, by rw [if_neg h], by rw [if_neg h]; exact h1, h2.1, by omega⟩
def hornbeamlaw02_StreamBelow.f (l0 l1 : List Int) : Option Bool := if (l0.length ≤ 9223372036854775807 ∧ l1.length ≤ 9223372036854775807) ∧ (∀ x ∈ l0, 0 ≤ x ∧ x < 18446744073709551616) ∧ (∀ x ∈ l1, 0 ≤ x ∧ x < 18446744073709551616) then some true else none
set_option maxHeartbeats 8000000 in
set_option maxRecDepth 100000 in
theorem hornbeamlaw02_StreamBelow.calls (A0 : Option Addr) (c0 : Nat) (l0 : List Int) (A1 : Option Addr) (c1 : Nat) (l1 : List Int) (r : Bool) (w : World) (hr0 : Kd.C (Kd.int .u64) w A0 l0.length l0) (hc0 : l0.length ≤ c0) (hr1 : Kd.C (Kd.int .u64) w A1 l1.length l1) (hc1 : l1.length ≤ c1) (h : hornbeamlaw02_StreamBelow.f l0 l1 = some r) (hr_ : r = true) :
    Calls Try.prog 6 #[.slice A0 l0.length c0, .slice A1 l1.length c1] w fun e w' => e = .returned (.bool r) ∧ Below w.heap.size w w' := by
  subst hr_
  have hw : (l0.length ≤ 9223372036854775807 ∧ l1.length ≤ 9223372036854775807) ∧ (∀ x ∈ l0, 0 ≤ x ∧ x < 18446744073709551616) ∧ (∀ x ∈ l1, 0 ≤ x ∧ x < 18446744073709551616) := by
    unfold hornbeamlaw02_StreamBelow.f at h
    split at h
    · assumption
    · cases h
  have HWF := Aside0.mk hw
  have HR0 := Aside0.mk hr0
  have HR1 := Aside0.mk hr1
  have HC0 := Aside0.mk hc0
  clear h hw hr0 hr1 hc0
  have hu := Try.underlying33
  by_cases h0 : (l0.length : Int) > 200
  · have b1 : decide (200 < (l0.length : Int)) = true := decide_eq_true h0
    have b2 : decide (200 < l0.length) = true := decide_eq_true (by omega)
    clear h0
    go_enter Try.func6, Try.ntmps6
    go_wp2_with (first | (go_at_call 17; (with_reducible refine (fixed_calls _).mono ?_); rintro e w' ⟨rfl, hb⟩))
    go_ret
    exact ⟨rfl, hb⟩
  have b1 : decide (200 < (l0.length : Int)) = false := decide_eq_false h0
  have b2 : decide (200 < l0.length) = false := decide_eq_false (by omega)
  by_cases h1 : (l1.length : Int) > 50
  · have b3 : decide (50 < (l1.length : Int)) = true := decide_eq_true h1
    have b4 : decide (50 < l1.length) = true := decide_eq_true (by omega)
    clear h0 h1
    go_enter Try.func6, Try.ntmps6
    go_wp2_with (first | (go_at_call 17; (with_reducible refine (fixed_calls _).mono ?_); rintro e w' ⟨rfl, hb⟩))
    go_ret
    exact ⟨rfl, hb⟩
  have b3 : decide (50 < (l1.length : Int)) = false := decide_eq_false h1
  have b4 : decide (50 < l1.length) = false := decide_eq_false (by omega)
  have HL := Aside0.mk (And.intro h0 h1)
  have HA := Aside0.mk (Kd.far_C (0 : Int) (h1 := fun _ => rfl) (enc := Value.int .u64) HR0.out (Nat.le_refl w.heap.size))
  have HA1 := Aside0.mk (Kd.far_C (0 : Int) (h1 := fun _ => rfl) (enc := Value.int .u64) HR1.out (Nat.le_refl w.heap.size))
  have HBK := Aside0.mk (blk_new w (.cells #[.slice A0 l0.length c0, .int .i64 0] 33 (0, 0)))
  have HW0 := Aside0.mk (below_alloc (Below.refl w.heap.size w) (.cells #[.slice A0 l0.length c0, .int .i64 0] 33 (0, 0)))
  have HS0 := Aside0.mk (Kd.C_alloc HR0.out (.cells #[.slice A0 l0.length c0, .int .i64 0] 33 (0, 0)))
  have HS1 := Aside0.mk (Kd.C_alloc HR1.out (.cells #[.slice A0 l0.length c0, .int .i64 0] 33 (0, 0)))
  clear h0 h1
  go_enter Try.func6, Try.ntmps6
  go_wp2_with (fail)
  go_loopw [6, 28] (fun v6 v28 w' => ∃ (a : Int) (x : Nat), v6 = .int .i64 a ∧ v28 = .int .i64 (x : Int) ∧ Aside0 (x ≤ l1.length ∧ 0 ≤ a ∧ a ≤ 64 * (x : Int)) ∧ Aside0 (w'.heap[w.heap.size]? = some (.cells #[.slice A0 l0.length c0, .int .i64 a] 33 (0, 0))) ∧ Aside0 (Kd.C (Kd.int .u64) w' A0 l0.length l0) ∧ Aside0 (Kd.C (Kd.int .u64) w' A1 l1.length l1) ∧ Aside0 (Below w.heap.size w w')) (fun _ v28 _ => l1.length - (intOf v28).toNat)
  case atStart => exact ⟨0, 0, rfl, rfl, ⟨by omega⟩, ⟨HBK.out⟩, ⟨HS0.out⟩, ⟨HS1.out⟩, ⟨HW0.out⟩⟩
  case round =>
    clear HBK HS0 HS1 HW0
    obtain ⟨a, x, rfl, rfl, HX, HBK, HS0, HS1, HW⟩ := hrel
    by_cases hlt : x < l1.length
    · have hltb : decide ((x : Int) < (l1.length : Int)) = true := decide_eq_true (by omega)
      have hltc : decide (x < l1.length) = true := decide_eq_true hlt
      have HLT := Aside0.mk hlt
      have hwi : wrap64 ((x : Int) + 1) = ((x + 1 : Nat) : Int) := by have := HL.out; unfold wrap64; omega
      obtain ⟨ad, e, hx⟩ := Kd.at_int HS1.out (x : Int) (by omega) (by omega)
      cases e
      rw [Int.toNat_natCast] at hx
      have hn : 0 ≤ rd l1 (x : Int) ∧ rd l1 (x : Int) < 18446744073709551616 := by
        have e : rd l1 (x : Int) = l1[x] := by simp [rd, List.getD, hlt]
        rw [e]; exact HWF.out.2.2 _ (List.getElem_mem hlt)
      obtain ⟨n, hn2⟩ : ∃ n, rd l1 (x : Int) = n := ⟨_, rfl⟩
      rw [hn2] at hx hn
      obtain ⟨X, E, T, d1, d2, d3, d4⟩ := same_below (l := l0) HWF.out.2.1 hn.1 hn.2 HX.out.2.1 (show a ≤ 1073741824 by have := HX.out; have := HL.out; omega)
      have HT := Aside0.mk (below_calls l0 A0 c0 w.heap.size n a wr HS0.out HC0.out HA.out HBK.out hn.1 HX.out.2.1 (by have := HX.out; have := HL.out; omega))
      rw [d1] at HT
      have HD2 := Aside0.mk d2
      have HD3 := Aside0.mk (And.intro d3 d4)
      have hwa : wrap64 (a + T) = a + T := by have := HX.out; have := HL.out; unfold wrap64; omega
      have p1 := eq_true (show (0 : Int) ≤ (x : Int) by omega)
      have q1 := eq_true (show (x : Int) < (l1.length : Int) by omega)
      clear hn2 hn d1 d2 d3 d4 hlt
      go_wp2_with (first | (go_at_call 18; (with_reducible refine HT.out.mono ?_); rintro e w2 ⟨rfl, hb2, ht2⟩; clear HT; have HB2 := Aside0.mk hb2; have HW2 := Aside0.mk (ht2.2.2 w HW.out (Nat.le_refl _)); have HS02 := Aside0.mk (ht2.reads HA.out HS0.out); have HS12 := Aside0.mk (ht2.reads HA1.out HS1.out); have hcA : w2.cell? ⟨w.heap.size, 1, none⟩ = some (.int .i64 (a + T)) := (blk_cell hb2 1).trans rfl; clear hb2 ht2) | (go_at_call 19; (with_reducible refine (hornbeamref02_Below.calls 100 A0 c0 l0 a n X T E _ HS02.out HC0.out HD2.out).mono ?_); rintro e w' ⟨rfl, ⟨nd, rfl⟩⟩))
      go_roundw
      case rel => exact ⟨a + T, x + 1, by first | (rw [hwa]; done) | rfl, by first | (rw [hwi]; done) | go_num, ⟨by have := HX.out; have := HD3.out; have := HLT.out; omega⟩, ⟨blk_drewN HB2.out _⟩, ⟨by (with_reducible repeat (first | exact HS02.out | refine Kd.C_drewN ?_ _ | refine Kd.C_drew ?_))⟩, ⟨by (with_reducible repeat (first | exact HS12.out | refine Kd.C_drewN ?_ _ | refine Kd.C_drew ?_))⟩, ⟨pw_below_drewN HW2.out _⟩⟩
      case measure => have := HLT.out; (try rw [hwi]); first | (show l1.length - ((x + 1 : Nat) : Int).toNat < l1.length - ((x : Nat) : Int).toNat; omega) | (show l1.length - ((x : Int) + 1).toNat < l1.length - ((x : Nat) : Int).toNat; omega)
    · have hltb : decide ((x : Int) < (l1.length : Int)) = false := decide_eq_false (by omega)
      have hltc : decide (x < l1.length) = false := decide_eq_false hlt
      clear hlt
      go_wp2_with (first | (go_at_call 17; (with_reducible refine (fixed_calls _).mono ?_); rintro e w3 ⟨rfl, hb3⟩; have HW3 := Aside0.mk (below_step HW.out hb3); clear hb3))
      all_goals (go_ret; exact ⟨by first | rfl | simp, by repeat (first | exact HW3.out | apply pw_below_drewN | apply below_drew1)⟩)

def hornbeamlaw02_StreamBelow.Pure : Prop := ∀ (l0 : List Int) (l1 : List Int), (l0.length ≤ maxLen ∧ ∀ v0 ∈ l0, (Lit.int .u64 v0).wf = true) → l0.length * 8 ≤ 140737488351232 → (l1.length ≤ maxLen ∧ ∀ v0 ∈ l1, (Lit.int .u64 v0).wf = true) → l1.length * 8 ≤ 140737488351232 → hornbeamlaw02_StreamBelow.f l0 l1 = some true

end Go.Proofs.Ytbofijmijeaadaa.QStreamBelow
