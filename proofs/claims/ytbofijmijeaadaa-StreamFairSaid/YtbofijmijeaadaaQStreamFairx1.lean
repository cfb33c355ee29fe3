-- Written by a program of this session (wip/tools/mkprint.py over the kit's print); Lean checks it.
import Derived.Test.YtbofijmijeaadaaQStreamFairx0
namespace Go.Proofs.Ytbofijmijeaadaa.QStreamFair
open Go.RowKit Go.Proofs.YtbofijmijeaadaaW.PrintWords Go.Proofs.YtbofijmijeaadaaW.PrintLast Go.Proofs.YtbofijmijeaadaaW.PrintMore
attribute [local go_sem] max2_int min2_int max_two min_two max_three min_three max_four min_four   -- for this text's walks alone
set_option linter.unusedVariables false
set_option linter.unusedSimpArgs false

-- NOT PRINTED: function 18 (stream_Below)

/-! ### hornbeamlaw02_fixed: function 17 -/
/-- What a call on the source at block g turns: that block alone. -/
def Turned (g : Nat) (w w' : World) : Prop := (∀ i, i ≠ g → w'.heap[i]? = w.heap[i]?) ∧ w'.heap.size = w.heap.size ∧ ∀ w0 : World, Below w0.heap.size w0 w → w0.heap.size ≤ g → Below w0.heap.size w0 w'
theorem Turned.refl (g : Nat) (w : World) : Turned g w w := ⟨fun _ _ => rfl, rfl, fun _ h _ => h⟩
theorem Turned.trans {g : Nat} {w w1 w2 : World} (h : Turned g w w1) (k : Turned g w1 w2) : Turned g w w2 :=
  ⟨fun i hi => (k.1 i hi).trans (h.1 i hi), k.2.1.trans h.2.1, fun w0 hb hg => k.2.2 w0 (h.2.2 w0 hb hg) hg⟩
theorem Turned.set (g : Nat) (w : World) (j : Nat) (v : Value) : Turned g w (w.setCell ⟨g, j, none⟩ v) :=
  ⟨fun i hi => Below.heap_setCell w _ v i hi, by simp [World.setCell], fun _ hb hg => below_set hb hg⟩
theorem Turned.drewN (g : Nat) (w : World) (n : Nat) : Turned g w (w.drewN n) := ⟨fun _ _ => rfl, rfl, fun _ hb _ => pw_below_drewN hb n⟩
theorem Turned.block {g i : Nat} {w w' : World} {o : Obj} (h : Turned g w w') (hi : i ≠ g) (hb : w.heap[i]? = some o) : w'.heap[i]? = some o := (h.1 i hi).trans hb
theorem Turned.cell {g : Nat} {w w' : World} (h : Turned g w w') (a : Addr) (hi : a.block ≠ g) : w'.cell? a = w.cell? a := by
  unfold World.cell?
  rw [h.1 a.block hi]
theorem Turned.reads {g : Nat} {w w' : World} {k : IntKind} {A : Option Addr} {n : Nat} {l : List Int} (h : Turned g w w') (hA : ∀ ad, A = some ad → 0 < n → ad.block ≠ g) (hr : Kd.C (Kd.int k) w A n l) : Kd.C (Kd.int k) w' A n l := by
  refine ⟨hr.1, hr.2.1, fun hn => ?_⟩
  obtain ⟨ad, e, hc⟩ := hr.2.2 hn
  refine ⟨ad, e, fun j p hj => ?_⟩
  obtain ⟨c, h1, h2, h3⟩ := hc j p hj
  refine ⟨c, h1, h2, fun i u hu => ?_⟩
  rw [h.cell _ (by rw [show (ad.add (j * (Kd.int k).sz + i)).block = ad.block by unfold Addr.add; split <;> rfl]; exact hA ad e hn)]
  exact h3 i u hu
/-- What the source hands out. -/
def nxt (l : List Int) (n : Int) : Int := if n < (l.length : Int) then rd l n else 0
set_option maxHeartbeats 4000000 in
set_option maxRecDepth 100000 in
theorem next_calls (l : List Int) (A : Option Addr) (c g : Nat) (n : Int) (w : World) (hr : Kd.C (Kd.int .u64) w A l.length l) (hc : l.length ≤ c) (hA : ∀ ad, A = some ad → 0 < l.length → ad.block ≠ g)
    (hb : w.heap[g]? = some (.cells #[.slice A l.length c, .int .i64 n] 33 (0, 0))) (n0 : 0 ≤ n) (n1 : n ≤ 4611686018427387904) :
    Calls Try.prog 50 #[.pointer (some ⟨g, 0, none⟩)] w fun e w' => e = .returned (.int .u64 (nxt l n)) ∧ w'.heap[g]? = some (.cells #[.slice A l.length c, .int .i64 (n + 1)] 33 (0, 0)) ∧ Turned g w w' := by
  have hu := Try.underlying33
  have HR := Aside0.mk hr
  have HA := Aside0.mk hA
  have HBK := Aside0.mk hb
  have HN := Aside0.mk (And.intro n0 n1)
  have hc0 : w.cell? ⟨g, 0, none⟩ = some (.slice A l.length c) := (blk_cell hb 0).trans rfl
  have hc1 : w.cell? ⟨g, 1, none⟩ = some (.int .i64 n) := (blk_cell hb 1).trans rfl
  have hf0 := blk_frozen hb 0
  have hf1 := blk_frozen hb 1
  have hw1 : wrap64 (n + 1) = n + 1 := by unfold wrap64; omega
  have hw2 : wrap64 (n + 1 - 1) = n := by unfold wrap64; omega
  have hw3 : n + 1 - 1 = n := by omega
  have hw4 : wrap64 n = n := by unfold wrap64; omega
  have HB2 := Aside0.mk (show (w.setCell ⟨g, 1, none⟩ (.int .i64 (n + 1))).heap[g]? = some (.cells #[.slice A l.length c, .int .i64 (n + 1)] 33 (0, 0)) from blk_set hb 1 _)
  have HT2 := Aside0.mk (Turned.set g w 1 (.int .i64 (n + 1)))
  clear hr hA hb n0 n1 hc
  go_enter Try.func50, Try.ntmps50
  go_wp2
  have hd0 : (w.setCell ⟨g, 1, none⟩ (.int .i64 (n + 1))).cell? ⟨g, 0, none⟩ = some (.slice A l.length c) := (blk_cell HB2.out 0).trans rfl
  have hd1 : (w.setCell ⟨g, 1, none⟩ (.int .i64 (n + 1))).cell? ⟨g, 1, none⟩ = some (.int .i64 (n + 1)) := (blk_cell HB2.out 1).trans rfl
  have HR2 := Aside0.mk (HT2.out.reads HA.out HR.out)
  clear hc0 hc1 hf0 hf1
  generalize w.setCell ⟨g, 1, none⟩ (.int .i64 (n + 1)) = W at *
  by_cases hlt : n < (l.length : Int)
  · have HLT := Aside0.mk hlt
    have hltb : decide (n < (l.length : Int)) = true := decide_eq_true hlt
    have h0b : decide (0 ≤ n) = true := decide_eq_true HN.out.1
    obtain ⟨ad, e, hx⟩ := Kd.at_int HR2.out n HN.out.1 hlt
    cases e
    have p1 := eq_true HN.out.1
    have q1 := eq_true hlt
    have HX : Aside0 (nxt l n = rd l n) := ⟨by unfold nxt; rw [if_pos hlt]⟩
    clear hlt
    repeat (go_quiet (fail); try go_wp2)
    go_ret
    exact ⟨by rw [HX.out]; rfl, HB2.out, HT2.out.trans (by repeat (first | exact Turned.refl _ _ | exact Turned.drewN _ _ _ | refine Turned.trans ?_ (Turned.drewN _ _ _)))⟩
  · have hltb : decide (n < (l.length : Int)) = false := decide_eq_false hlt
    have HX : Aside0 (nxt l n = 0) := ⟨by unfold nxt; rw [if_neg hlt]⟩
    clear hlt
    repeat (go_quiet (fail); try go_wp2)
    go_ret
    exact ⟨by rw [HX.out]; rfl, HB2.out, HT2.out.trans (by repeat (first | exact Turned.refl _ _ | exact Turned.drewN _ _ _ | refine Turned.trans ?_ (Turned.drewN _ _ _)))⟩
/-- What is drawn below n of the numbers from the place at on, in k tries: the number, the error, how many are taken. -/
def belowL (l : List Int) (n sp : Int) : Nat → Int → Int × Int × Int
  | 0, _ => (0, 7, 0)
  | k + 1, a => if nxt l a ≤ sp then (Int.tmod (nxt l a) n, 0, 1) else ((belowL l n sp k (a + 1)).1, (belowL l n sp k (a + 1)).2.1, (belowL l n sp k (a + 1)).2.2 + 1)
def spare (n : Int) : Int := Go.bits .xor .u64 IntKind.u64.max (Int.tmod (IntKind.u64.wrap (-n)) n)
def belowD (l : List Int) (n a : Int) : Int × Int × Int := if n = 0 then (0, 1, 0) else belowL l n (spare n) 64 a
set_option maxHeartbeats 4000000 in
set_option maxRecDepth 100000 in
theorem below_calls (l : List Int) (A : Option Addr) (c g : Nat) (n a : Int) (w : World) (hr : Kd.C (Kd.int .u64) w A l.length l) (hc : l.length ≤ c) (hA : ∀ ad, A = some ad → 0 < l.length → ad.block ≠ g)
    (hb : w.heap[g]? = some (.cells #[.slice A l.length c, .int .i64 a] 33 (0, 0))) (n0 : 0 ≤ n) (a0 : 0 ≤ a) (a1 : a ≤ 1073741824) :
    Calls Try.prog 18 #[.iface 31 (.pointer (some ⟨g, 0, none⟩)), .int .u64 n] w fun e w' => e = .returned (.tuple #[.int .u64 (belowD l n a).1, .int .i64 (belowD l n a).2.1]) ∧ w'.heap[g]? = some (.cells #[.slice A l.length c, .int .i64 (a + (belowD l n a).2.2)] 33 (0, 0)) ∧ Turned g w w' := by
  have hu := Try.underlying33
  have HR := Aside0.mk hr
  have HA := Aside0.mk hA
  have HC := Aside0.mk hc
  have HN := Aside0.mk (And.intro a0 a1)
  have HBK := Aside0.mk hb
  clear hr hA hc hb a0 a1
  by_cases hz : n = 0
  · subst hz
    have HD : Aside0 (belowD l 0 a = (0, 1, 0)) := ⟨if_pos rfl⟩
    go_enter Try.func18, Try.ntmps18
    go_wp2
    go_ret2
    exact ⟨by rw [HD.out]; rfl, by rw [HD.out]; show w.heap[g]? = some (.cells #[.slice A l.length c, .int .i64 (a + 0)] 33 (0, 0)); rw [Int.add_zero]; exact HBK.out, Turned.refl _ _⟩
  · have hzb : (n == 0) = false := beq_eq_false_iff_ne.mpr hz
    have hpos : 0 < n := by omega
    have HD : Aside0 (belowD l n a = belowL l n (spare n) 64 a) := ⟨if_neg hz⟩
    clear hz
    have hm : ∀ (p : Addr) (W : World), (method 178 31 (.pointer (some p)) "Next").run Try.prog W = .ok (50, .pointer (some p)) W := fun _ _ => by kernel_rfl
    go_enter Try.func18, Try.ntmps18
    go_wp2
    go_loopw [14] (fun v14 w' => ∃ i : Nat, v14 = .int .i64 (i : Int) ∧ Aside0 (i ≤ 64) ∧ Aside0 (belowL l n (spare n) 64 a = ((belowL l n (spare n) (64 - i) (a + i)).1, (belowL l n (spare n) (64 - i) (a + i)).2.1, (belowL l n (spare n) (64 - i) (a + i)).2.2 + i)) ∧ Aside0 (w'.heap[g]? = some (.cells #[.slice A l.length c, .int .i64 (a + i)] 33 (0, 0))) ∧ Aside0 (Turned g w w')) (fun v14 _ => 64 - (intOf v14).toNat)
    case atStart => exact ⟨0, rfl, ⟨by omega⟩, ⟨by rw [show ((0 : Nat) : Int) = 0 from rfl, Int.add_zero, Int.add_zero]⟩, ⟨by rw [show ((0 : Nat) : Int) = 0 from rfl, Int.add_zero]; exact HBK.out⟩, ⟨Turned.refl _ _⟩⟩
    case round =>
      obtain ⟨i, rfl, HI, HS, HBI, HT⟩ := hrel
      by_cases hlt : i < 64
      · have hltb : decide (i < 64) = true := decide_eq_true hlt
        have hltc : decide ((i : Int) < 64) = true := decide_eq_true (by omega)
        have HX := Aside0.mk (next_calls l A c g (a + i) wr (HT.out.reads HA.out HR.out) HC.out HA.out HBI.out (by have := HN.out; omega) (by have := HN.out; have := HI.out; omega))
        obtain ⟨m, hm64⟩ : ∃ m, 64 - i = m + 1 := ⟨64 - i - 1, by omega⟩
        have HM := Aside0.mk hm64
        have HLT := Aside0.mk hlt
        clear hm64 hlt
        have hsp : Go.bits .xor .u64 IntKind.u64.max (Int.tmod (IntKind.u64.wrap (-n)) n) = spare n := rfl
        have hsp2 : Go.bits .xor .u64 (if IntKind.u64.signed = true then -1 else IntKind.u64.max) (Int.tmod (IntKind.u64.wrap (-n)) n) = spare n := rfl
        have hwi : wrap64 ((i : Int) + 1) = (i : Int) + 1 := by have := HLT.out; unfold wrap64; omega
        obtain ⟨X, hX⟩ : ∃ X, nxt l (a + i) = X := ⟨_, rfl⟩
        have HX2 := Aside0.mk hX
        rw [hX] at HX
        clear hX
        by_cases ht : X ≤ spare n
        · have htb : decide (X ≤ spare n) = true := decide_eq_true ht
          have HE : Aside0 (belowD l n a = (Int.tmod X n, 0, 1 + (i : Int))) := ⟨by rw [HD.out, HS.out, HM.out, belowL, HX2.out, if_pos ht]⟩
          clear ht
          go_wp2_with (first | (go_at_call 50; (with_reducible refine HX.out.mono ?_); rintro e w2 ⟨rfl, hb2, ht2⟩; have HB2 := Aside0.mk hb2; have HT2 := Aside0.mk ht2; clear hb2 ht2))
          go_ret2
          exact ⟨by rw [HE.out]; rfl, by rw [HE.out]; show w2.heap[g]? = some (.cells #[.slice A l.length c, .int .i64 (a + (1 + (i : Int)))] 33 (0, 0)); rw [show a + (1 + (i : Int)) = a + i + 1 by omega]; exact HB2.out, HT.out.trans HT2.out⟩
        · have htb : decide (X ≤ spare n) = false := decide_eq_false ht
          have HE : Aside0 (belowL l n (spare n) 64 a = ((belowL l n (spare n) (64 - (i + 1)) (a + ((i + 1 : Nat) : Int))).1, (belowL l n (spare n) (64 - (i + 1)) (a + ((i + 1 : Nat) : Int))).2.1, (belowL l n (spare n) (64 - (i + 1)) (a + ((i + 1 : Nat) : Int))).2.2 + ((i + 1 : Nat) : Int))) := ⟨by
            rw [HS.out, HM.out, belowL, HX2.out, if_neg ht, show 64 - (i + 1) = m by have := HM.out; omega, show a + ((i + 1 : Nat) : Int) = a + i + 1 by omega]
            simp only [Prod.mk.injEq, true_and]
            omega⟩
          clear ht
          go_wp2_with (first | (go_at_call 50; (with_reducible refine HX.out.mono ?_); rintro e w2 ⟨rfl, hb2, ht2⟩; have HB2 := Aside0.mk hb2; have HT2 := Aside0.mk ht2; clear hb2 ht2))
          go_roundw
          case rel => exact ⟨i + 1, by first | (rw [hwi]; rfl) | go_num, ⟨by have := HLT.out; omega⟩, ⟨HE.out⟩, ⟨by rw [show a + ((i + 1 : Nat) : Int) = a + i + 1 by omega]; exact HB2.out⟩, ⟨HT.out.trans HT2.out⟩⟩
          case measure => have := HLT.out; (try rw [hwi]); show 64 - ((i : Int) + 1).toNat < 64 - ((i : Nat) : Int).toNat; omega
      · have hi : i = 64 := by have := HI.out; omega
        subst hi
        have HE : Aside0 (belowD l n a = (0, 7, 0 + ((64 : Nat) : Int))) := ⟨by rw [HD.out, HS.out, Nat.sub_self, belowL]⟩
        clear hlt
        go_wp2
        go_ret2
        exact ⟨by rw [HE.out]; rfl, by rw [HE.out]; show wr.heap[g]? = some (.cells #[.slice A l.length c, .int .i64 (a + (0 + ((64 : Nat) : Int)))] 33 (0, 0)); rw [Int.zero_add]; exact HBI.out, HT.out⟩
theorem below_told (l : List Int) (A : Option Addr) (c g : Nat) (n a : Int) (w : World) (m : Nat) (hm : l.length = m) (hr : Kd.C (Kd.int .u64) w A m l) (hc : m ≤ c) (hA : ∀ ad, A = some ad → ad.block ≠ g)
    (hb : w.heap[g]? = some (.cells #[.slice A m c, .int .i64 a] 33 (0, 0))) (n0 : 0 ≤ n) (a0 : 0 ≤ a) (a1 : a ≤ 1073741824) (x e t : Int) (h : belowD l n a = (x, e, t)) :
    Calls Try.prog 18 #[.iface 31 (.pointer (some ⟨g, 0, none⟩)), .int .u64 n] w fun e' w' => e' = .returned (.tuple #[.int .u64 x, .int .i64 e]) ∧ w'.heap[g]? = some (.cells #[.slice A m c, .int .i64 (a + t)] 33 (0, 0)) ∧ Turned g w w' := by
  subst hm
  have := below_calls l A c g n a w hr hc (fun ad e _ => hA ad e) hb n0 a0 a1
  rw [h] at this
  exact this
/-- A source over a list that was just made. -/
theorem made_list (w : World) (xs : List Int) (cs : Array Value) (m : Nat) (hm : xs.length = m) (hcs : cs = (xs.map fun x => Value.int .u64 x).toArray) (h9 : m ≤ 9223372036854775807) (z : Value) :
    Kd.C (Kd.int .u64) ((w.alloc (.cells cs 22 (0, 0))).alloc (.cells #[.slice (some ⟨w.heap.size, 0, none⟩) m m, z] 33 (0, 0))) (some ⟨w.heap.size, 0, none⟩) m xs ∧
    ((w.alloc (.cells cs 22 (0, 0))).alloc (.cells #[.slice (some ⟨w.heap.size, 0, none⟩) m m, z] 33 (0, 0))).heap[w.heap.size + 1]? = some (.cells #[.slice (some ⟨w.heap.size, 0, none⟩) m m, z] 33 (0, 0)) ∧
    Below w.heap.size w ((w.alloc (.cells cs 22 (0, 0))).alloc (.cells #[.slice (some ⟨w.heap.size, 0, none⟩) m m, z] 33 (0, 0))) := by
  subst hcs
  have hs : (w.alloc (.cells (xs.map fun x => Value.int .u64 x).toArray 22 (0, 0))).heap.size = w.heap.size + 1 := Array.size_push _
  refine ⟨⟨hm, h9, fun _ => ⟨_, rfl, fun j p hj => ⟨[.int .u64 p], rfl, rfl, fun i u hu => ?_⟩⟩⟩, ?_, below_alloc (below_alloc (Below.refl _ _) _) _⟩
  · have hi : i = 0 := by
      cases i with
      | zero => rfl
      | succ i => simp at hu
    subst hi
    have hu2 : u = .int .u64 p := by simpa using hu.symm
    subst hu2
    have hb := blk_alloc (blk_new w (.cells (xs.map fun x => Value.int .u64 x).toArray 22 (0, 0))) (.cells #[.slice (some ⟨w.heap.size, 0, none⟩) m m, z] 33 (0, 0))
    have h2 := blk_cell hb j
    have e : (⟨w.heap.size, 0, none⟩ : Addr).add (j * (Kd.int .u64).sz + 0) = ⟨w.heap.size, j, none⟩ := by
      rw [show (Kd.int .u64).sz = 1 from rfl, Nat.mul_one, Nat.add_zero]
      unfold Addr.add
      split
      · rename_i h0; rw [h0]
      · simp
    rw [e, h2]
    simp [hj]
  · have hn := blk_new (w.alloc (.cells (xs.map fun x => Value.int .u64 x).toArray 22 (0, 0))) (.cells #[.slice (some ⟨w.heap.size, 0, none⟩) m m, z] 33 (0, 0))
    rw [hs] at hn
    exact hn
theorem made_listb (w : World) (b : Nat) (hb : w.heap.size = b) (xs : List Int) (cs : Array Value) (m : Nat) (hm : xs.length = m) (hcs : cs = (xs.map fun x => Value.int .u64 x).toArray) (h9 : m ≤ 9223372036854775807) (z : Value) :
    Kd.C (Kd.int .u64) ((w.alloc (.cells cs 22 (0, 0))).alloc (.cells #[.slice (some ⟨b, 0, none⟩) m m, z] 33 (0, 0))) (some ⟨b, 0, none⟩) m xs ∧
    ((w.alloc (.cells cs 22 (0, 0))).alloc (.cells #[.slice (some ⟨b, 0, none⟩) m m, z] 33 (0, 0))).heap[b + 1]? = some (.cells #[.slice (some ⟨b, 0, none⟩) m m, z] 33 (0, 0)) ∧
    Below w.heap.size w ((w.alloc (.cells cs 22 (0, 0))).alloc (.cells #[.slice (some ⟨b, 0, none⟩) m m, z] 33 (0, 0))) := by
  subst hb
  exact made_list w xs cs m hm hcs h9 z
set_option maxHeartbeats 4000000 in
set_option maxRecDepth 100000 in
theorem fixed_calls (w : World) : Calls Try.prog 17 #[] w fun e w' => e = .returned (.bool true) ∧ Below w.heap.size w w' := by
  have D1 : belowD [18446744073709551615, 7] 10 0 = (7, 0, 2) := by decide +kernel
  have D2 : belowD [18446744073709551615, 7] 8 0 = (7, 0, 1) := by decide +kernel
  have HD1 := Aside0.mk D1
  have HD2 := Aside0.mk D2
  clear D1 D2
  have hu := Try.underlying33
  have HM := Aside0.mk (made_list w [18446744073709551615, 7] #[.int .u64 18446744073709551615, .int .u64 7] 2 rfl rfl (by decide) (.int .i64 0))
  have HT := Aside0.mk (below_told [18446744073709551615, 7] (some ⟨w.heap.size, 0, none⟩) 2 (w.heap.size + 1) 10 0 _ 2 rfl HM.out.1 (by decide) (fun ad e => by injection e with e; subst e; simp) HM.out.2.1 (by omega) (by omega) (by omega) 7 0 2 HD1.out)
  go_enter Try.func17, Try.ntmps17
  go_wp2_with (first | (go_at_call 18; (with_reducible refine HT.out.mono ?_); rintro e w2 ⟨rfl, hb2, ht2⟩; clear HT; have HB2 := Aside0.mk hb2; have HW := Aside0.mk (ht2.2.2 w HM.out.2.2 (Nat.le_succ _)); clear hb2 ht2 HM; have HM2 := Aside0.mk (made_list w2 [18446744073709551615, 7] #[.int .u64 18446744073709551615, .int .u64 7] 2 rfl rfl (by decide) (.int .i64 0)); have HT2 := Aside0.mk (below_told [18446744073709551615, 7] (some ⟨w2.heap.size, 0, none⟩) 2 (w2.heap.size + 1) 8 0 _ 2 rfl HM2.out.1 (by decide) (fun ad e => by injection e with e; subst e; simp) HM2.out.2.1 (by omega) (by omega) (by omega) 7 0 1 HD2.out)) | (go_at_call 18; (with_reducible refine HT2.out.mono ?_); rintro e w4 ⟨rfl, hb4, ht4⟩; clear HT2; have hcB : w4.cell? ⟨w2.heap.size + 1, 1, none⟩ = some (.int .i64 1) := (blk_cell hb4 1).trans rfl; have hcA : w4.cell? ⟨w.heap.size + 1, 1, none⟩ = some (.int .i64 2) := (blk_cell (ht4.block (Nat.ne_of_lt (Nat.lt_succ_of_lt (blk_lt HB2.out))) (blk_alloc (blk_alloc HB2.out _) _)) 1).trans rfl; have HW4 := Aside0.mk (ht4.2.2 w (below_alloc (below_alloc HW.out _) _) (Nat.le_succ_of_le HW.out.size)); clear hb4 ht4 HM2))
  go_ret
  exact ⟨rfl, by repeat (first | exact HW4.out | apply pw_below_drewN | apply below_drew1)⟩
def hornbeamlaw02_fixed.f : Option Bool := some true
theorem hornbeamlaw02_fixed.calls (r : Bool) (w : World) (h : hornbeamlaw02_fixed.f = some r) : Calls Try.prog 17 #[] w fun e w' => e = .returned (.bool r) ∧ Below w.heap.size w w' := by
  obtain rfl : true = r := Option.some.inj h
  exact fixed_calls w


/-! ### hornbeamlaw02_StreamFair: function 7 -/
theorem spare_eq {n : Int} (n0 : 0 < n) (n1 : n < 18446744073709551616) : spare n = 18446744073709551615 - 18446744073709551616 % n := by
  have e1 : IntKind.u64.wrap (-n) = 18446744073709551616 - n := by rw [U64.wrap_u64]; omega
  have e2 : (18446744073709551616 - n) % n = 18446744073709551616 % n := by
    rw [Int.sub_emod, Int.emod_self, Int.sub_zero, Int.emod_emod]
  have e3 := Int.emod_nonneg 18446744073709551616 (b := n) (by omega)
  have e4 := Int.emod_lt_of_pos 18446744073709551616 n0
  unfold spare
  rw [e1, Int.tmod_eq_emod_of_nonneg (by omega), e2]
  obtain ⟨y, hy⟩ := U64.U_of e3 (by omega)
  rw [hy, show IntKind.u64.max = U64.U (BitVec.allOnes 64) by decide, U64.xor_U]
  unfold U64.U
  rw [BitVec.allOnes_xor, BitVec.toNat_not]
  have := y.isLt
  omega
/-- How many whole groups there are, times n. -/
theorem spare_groups {n : Int} (n0 : 0 < n) (n1 : n < 18446744073709551616) : spare n + 1 = n * (18446744073709551616 / n) := by
  have := Int.mul_ediv_add_emod 18446744073709551616 n
  rw [spare_eq n0 n1]; omega
theorem belowL_hit (l : List Int) (n sp : Int) (k : Nat) (a : Int) (h : nxt l a ≤ sp) : belowL l n sp (k + 1) a = (Int.tmod (nxt l a) n, 0, 1) := by rw [belowL, if_pos h]
theorem belowL_miss (l : List Int) (n sp : Int) (k : Nat) (a : Int) (h : ¬ nxt l a ≤ sp) : belowL l n sp (k + 1) a = ((belowL l n sp k (a + 1)).1, (belowL l n sp k (a + 1)).2.1, (belowL l n sp k (a + 1)).2.2 + 1) := by rw [belowL, if_neg h]
theorem one_in {x n : Int} (n0 : 0 < n) (h : x ≤ spare n) : belowD [x] n 0 = (Int.tmod x n, 0, 1) := by
  have e : nxt [x] 0 = x := rfl
  unfold belowD
  rw [if_neg (by omega), belowL_hit _ _ _ 63 _ (by rw [e]; exact h), e]
theorem one_out {x n : Int} (n0 : 0 < n) (n1 : n < 18446744073709551616) (h : ¬ x ≤ spare n) : belowD [x] n 0 = (0, 0, 2) := by
  have e : nxt [x] 0 = x := rfl
  have e2 : nxt [x] (0 + 1) = 0 := rfl
  have e4 := Int.emod_lt_of_pos 18446744073709551616 n0
  unfold belowD
  rw [if_neg (by omega), belowL_miss _ _ _ 63 _ (by rw [e]; exact h), belowL_hit _ _ _ 62 _ (by rw [e2, spare_eq n0 n1]; omega), e2]
  simp
theorem fair_in {x n k : Int} (x0 : 0 ≤ x) (n0 : 0 < n) (n1 : n < 18446744073709551616) (k0 : 0 ≤ k) (h : x ≤ spare n) :
    IntKind.u64.wrap (IntKind.u64.wrap (Int.tdiv x n) * n) = x / n * n ∧ IntKind.u64.wrap (x / n * n + Int.tmod k n) = x / n * n + k % n ∧ x / n * n + k % n ≤ spare n ∧ Int.tmod (x / n * n + k % n) n = Int.tmod k n ∧ 0 ≤ k % n ∧ 0 ≤ x / n * n := by
  have hg := spare_groups n0 n1
  have hsp := spare_eq n0 n1
  have e3 := Int.emod_nonneg 18446744073709551616 (b := n) (by omega)
  have k1 := Int.emod_nonneg k (b := n) (by omega)
  have k2 := Int.emod_lt_of_pos k n0
  have q0 : 0 ≤ x / n := Int.ediv_nonneg x0 (by omega)
  have q1 : x / n ≤ 18446744073709551616 / n - 1 := by
    have : x / n < 18446744073709551616 / n := by rw [Int.ediv_lt_iff_lt_mul n0, Int.mul_comm]; omega
    omega
  have q2 : x / n * n ≤ (18446744073709551616 / n - 1) * n := Int.mul_le_mul_of_nonneg_right q1 (by omega)
  have q3 : (18446744073709551616 / n - 1) * n = n * (18446744073709551616 / n) - n := by rw [Int.sub_mul, Int.one_mul, Int.mul_comm]
  have q4 := Int.mul_nonneg q0 (show 0 ≤ n by omega)
  have q5 : x / n ≤ x := Int.ediv_le_self _ x0
  have e1 : IntKind.u64.wrap (Int.tdiv x n) = x / n := by rw [Int.tdiv_eq_ediv_of_nonneg x0, U64.wrap_u64]; omega
  refine ⟨by rw [e1, U64.wrap_u64]; omega, by rw [Int.tmod_eq_emod_of_nonneg k0, U64.wrap_u64]; omega, by omega, ?_, k1, q4⟩
  rw [Int.tmod_eq_emod_of_nonneg (by omega), Int.tmod_eq_emod_of_nonneg k0, Int.add_comm, Int.add_mul_emod_self_right, Int.emod_emod]
theorem fair_out {x n : Int} (x1 : x < 18446744073709551616) (n0 : 0 < n) (n1 : n < 18446744073709551616) (h : ¬ x ≤ spare n) :
    9223372036854775808 ≤ x ∧ IntKind.u64.wrap (Int.tdiv x n) = 18446744073709551615 / n ∧ x / n = 18446744073709551615 / n ∧ IntKind.u64.wrap (Int.tdiv 18446744073709551615 n) = 18446744073709551615 / n := by
  have hg := spare_groups n0 n1
  have hsp := spare_eq n0 n1
  have e3 := Int.emod_nonneg 18446744073709551616 (b := n) (by omega)
  have e4 := Int.emod_lt_of_pos 18446744073709551616 n0
  have hm := Int.mul_ediv_add_emod 18446744073709551616 n
  obtain ⟨q, hq⟩ : ∃ q, q = 18446744073709551616 / n := ⟨_, rfl⟩
  rw [← hq] at hg hm
  have hq1 : 1 ≤ q := by rw [hq, Int.le_ediv_iff_mul_le n0]; omega
  have hx0 : 0 ≤ x := by omega
  have big : 9223372036854775808 ≤ n * q := by
    by_cases hn : n ≤ 9223372036854775808
    · omega
    · have := Int.mul_le_mul_of_nonneg_left (a := 1) (b := q) (c := n) hq1 (by omega); omega
  have d : ∀ y : Int, n * q ≤ y → y < 18446744073709551616 → y / n = q := by
    intro y h1 h2
    have a1 : q ≤ y / n := by rw [Int.le_ediv_iff_mul_le n0, Int.mul_comm]; exact h1
    have a2 : y / n < q + 1 := by rw [Int.ediv_lt_iff_lt_mul n0, Int.add_mul, Int.one_mul, Int.mul_comm]; omega
    omega
  have f1 := d x (by omega) x1
  have f2 := d 18446744073709551615 (by omega) (by omega)
  have f3 : q ≤ 18446744073709551616 := by rw [hq]; exact Int.ediv_le_self _ (by omega)
  have f4 : q < 18446744073709551616 := by have := Int.ediv_le_self (a := 18446744073709551615) n (by omega); omega
  have f5 : IntKind.u64.wrap q = q := by rw [U64.wrap_u64]; omega
  rw [Int.tdiv_eq_ediv_of_nonneg hx0, Int.tdiv_eq_ediv_of_nonneg (by omega), f1, f2]
  exact ⟨by omega, f5, rfl, f5⟩
def hornbeamlaw02_StreamFair.f (a0 a1 a2 : Int) : Option Bool := if (0 ≤ a0 ∧ a0 < 18446744073709551616) ∧ (0 ≤ a1 ∧ a1 < 18446744073709551616) ∧ (0 ≤ a2 ∧ a2 < 18446744073709551616) then some true else none
set_option maxHeartbeats 8000000 in
set_option maxRecDepth 100000 in
theorem hornbeamlaw02_StreamFair.calls (a0 : Int) (a1 : Int) (a2 : Int) (r : Bool) (w : World) (h : hornbeamlaw02_StreamFair.f a0 a1 a2 = some r) (hr_ : r = true) :
    Calls Try.prog 7 #[.int .u64 a0, .int .u64 a1, .int .u64 a2] w fun e w' => e = .returned (.bool r) ∧ Below w.heap.size w w' := by
  subst hr_
  have hw : (0 ≤ a0 ∧ a0 < 18446744073709551616) ∧ (0 ≤ a1 ∧ a1 < 18446744073709551616) ∧ (0 ≤ a2 ∧ a2 < 18446744073709551616) := by
    unfold hornbeamlaw02_StreamFair.f at h
    split at h
    · assumption
    · cases h
  have HWF := Aside0.mk hw
  clear h hw
  have hu := Try.underlying33
  by_cases hz : a1 = 0
  · subst hz
    go_enter Try.func7, Try.ntmps7
    go_wp2_with (first | (go_at_call 17; (with_reducible refine (fixed_calls _).mono ?_); rintro e w' ⟨rfl, hb⟩))
    go_ret
    exact ⟨rfl, hb⟩
  have hzb : (a1 == 0) = false := beq_eq_false_iff_ne.mpr hz
  have HPOS := Aside0.mk (show 0 < a1 by have := HWF.out; omega)
  clear hz
  have hpos := HPOS.out
  have HM := Aside0.mk (made_list w [a0] #[.int .u64 a0] 1 rfl rfl (by decide) (.int .i64 0))
  have HFIN : Aside0 (∀ w1 w3 : World, Below w.heap.size w w1 → w1.heap[w.heap.size + 1]? = some (.cells #[.slice (some ⟨w.heap.size, 0, none⟩) 1 1, .int .i64 2] 33 (0, 0)) → Below w1.heap.size w1 w3 → w3.cell? ⟨w.heap.size + 1, 1, none⟩ = some (.int .i64 2)) := ⟨fun w1 w3 _ h2 h3 => (blk_cell (blk_below h2 h3) 1).trans rfl⟩
  by_cases hs : a0 ≤ spare a1
  · obtain ⟨p1, p2, p3, p4, p5, p6⟩ := fair_in HWF.out.1.1 HPOS.out HWF.out.2.1.2 HWF.out.2.2.1 hs
    have HT := Aside0.mk (below_told [a0] (some ⟨w.heap.size, 0, none⟩) 1 (w.heap.size + 1) a1 0 _ 1 rfl HM.out.1 (by decide) (fun ad e => by injection e with e; subst e; simp) HM.out.2.1 HWF.out.2.1.1 (by omega) (by omega) (Int.tmod a0 a1) 0 1 (one_in HPOS.out hs))
    obtain ⟨Q, hQ⟩ : ∃ Q, a0 / a1 * a1 = Q := ⟨_, rfl⟩
    obtain ⟨Y, hY⟩ : ∃ Y, Q + a2 % a1 = Y := ⟨_, rfl⟩
    rw [hQ] at p1 p2 p3 p4 p6
    rw [hY] at p2 p3 p4
    have HD2 : Aside0 (belowD [Y] a1 0 = (Int.tmod a2 a1, 0, 1)) := ⟨by rw [one_in HPOS.out p3, p4]⟩
    have hge : decide (Q ≤ Y) = true := decide_eq_true (by omega)
    have HA1 := Aside0.mk HWF.out.2.1.1
    clear hs hQ hY p3 p4 p5 p6
    go_enter Try.func7, Try.ntmps7
    go_wp2_with (first | (go_at_call 18; (with_reducible refine HT.out.mono ?_); rintro e w2 ⟨rfl, hb2, ht2⟩; clear HT; have HB2 := Aside0.mk hb2; have HW := Aside0.mk (ht2.2.2 w HM.out.2.2 (Nat.le_succ _)); have hcA : w2.cell? ⟨w.heap.size + 1, 1, none⟩ = some (.int .i64 1) := (blk_cell hb2 1).trans rfl; clear hb2 ht2 HM))
    go_quiet (fail)
    have HM2 := Aside0.mk (made_listb (w2.drewN nq) w2.heap.size rfl [Y] #[.int .u64 Y] 1 rfl rfl (by decide) (.int .i64 0))
    have HT2 := Aside0.mk (below_told [Y] (some ⟨w2.heap.size, 0, none⟩) 1 (w2.heap.size + 1) a1 0 _ 1 rfl HM2.out.1 (by decide) (fun ad e => by injection e with e; subst e; simp) HM2.out.2.1 HA1.out (by omega) (by omega) (Int.tmod a2 a1) 0 1 HD2.out)
    clear hcA
    go_wp2_with (first | (go_at_call 18; (refine HT2.out.mono ?_); rintro e w4 ⟨rfl, hb4, ht4⟩; clear HT2; have HB4 := Aside0.mk hb4; have HW4 := Aside0.mk (ht4.2.2 w (below_step (pw_below_drewN HW.out nq) HM2.out.2.2) (Nat.le_succ_of_le HW.out.size)); clear hb4 ht4 HM2) | (go_at_call 17; (with_reducible refine (fixed_calls _).mono ?_); rintro e w5 ⟨rfl, hb⟩; have hcB : w5.cell? ⟨w2.heap.size + 1, 1, none⟩ = some (.int .i64 1) := (blk_cell (blk_below HB4.out hb) 1).trans rfl; have HW5 := Aside0.mk (below_step HW4.out hb); clear hb))
    all_goals (go_ret; exact ⟨by first | rfl | simp, by repeat (first | exact HW5.out | apply pw_below_drewN | apply below_drew1)⟩)
  · have HT := Aside0.mk (below_told [a0] (some ⟨w.heap.size, 0, none⟩) 1 (w.heap.size + 1) a1 0 _ 1 rfl HM.out.1 (by decide) (fun ad e => by injection e with e; subst e; simp) HM.out.2.1 HWF.out.2.1.1 (by omega) (by omega) 0 0 2 (one_out HPOS.out HWF.out.2.1.2 hs))
    obtain ⟨p1, p2, p3, p4⟩ := fair_out HWF.out.1.2 HPOS.out HWF.out.2.1.2 hs
    obtain ⟨V, hV⟩ : ∃ V, 18446744073709551615 / a1 = V := ⟨_, rfl⟩
    rw [hV] at p2 p3 p4
    have hge : decide (9223372036854775808 ≤ a0) = true := decide_eq_true p1
    have hge2 : (9223372036854775808 ≤ a0) = True := eq_true p1
    clear hs p1
    go_enter Try.func7, Try.ntmps7
    go_wp2_with (first | (go_at_call 18; (with_reducible refine HT.out.mono ?_); rintro e w2 ⟨rfl, hb2, ht2⟩; clear HT; have HB2 := Aside0.mk hb2; have HW := Aside0.mk (ht2.2.2 w HM.out.2.2 (Nat.le_succ _)); have hcA : w2.cell? ⟨w.heap.size + 1, 1, none⟩ = some (.int .i64 2) := (blk_cell hb2 1).trans rfl; clear hb2 ht2 HM))
    have hz1 : (a1 = 0) = False := eq_false (by have := HPOS.out; omega)
    have hz2 : a1 ≠ 0 := by have := HPOS.out; omega
    have hwb := HW.out
    have hwb2 : Below w.heap.size w w2.drew := below_drew1 HW.out
    go_region_held3 (fun w' => w'.cell? ⟨w.heap.size + 1, 1, none⟩ = some (.int .i64 2) ∧ Below w.heap.size w w') (first | go_keep | (refine And.intro ?_ ?_ <;> first | assumption | exact below_drew1 (by assumption) | exact below_step (by assumption) (by assumption) | exact (Below.cell (by assumption) (World.block_lt_of_cell? _ _ (by assumption))).trans (by assumption))) (first | (go_at_call 17; refine (fixed_calls _).mono ?_; rintro e w5 ⟨rfl, hb5⟩))
    all_goals (go_wp2; go_ret; exact ⟨by first | rfl | simp, by first | assumption | exact below_step (by assumption) (by assumption) | exact below_step (below_drew1 (by assumption)) (by assumption) | (repeat (first | assumption | apply pw_below_drewN | apply below_drew1))⟩)

def hornbeamlaw02_StreamFair.Pure : Prop := ∀ (a0 : Int) (a1 : Int) (a2 : Int), (Lit.int .u64 a0).wf = true → (Lit.int .u64 a1).wf = true → (Lit.int .u64 a2).wf = true → hornbeamlaw02_StreamFair.f a0 a1 a2 = some true

end Go.Proofs.Ytbofijmijeaadaa.QStreamFair
