-- Written by a program of this session (wip/tools/mkprint.py over the kit's print); Lean checks it.
import Derived.Test.YtbofijmijeaadaaQStreamEndsx0
namespace Go.Proofs.Ytbofijmijeaadaa.QStreamEnds
open Go.RowKit Go.Proofs.YtbofijmijeaadaaW.PrintWords Go.Proofs.YtbofijmijeaadaaW.PrintLast Go.Proofs.YtbofijmijeaadaaW.PrintMore
attribute [local go_sem] max2_int min2_int max_two min_two max_three min_three max_four min_four   -- for this text's walks alone
set_option linter.unusedVariables false
set_option linter.unusedSimpArgs false

-- NOT PRINTED: function 18 (stream_Below)

/-! ### hornbeamlaw02_fixed: function 17 -/
/-- What a call on the source at block g turns: that block alone. -/
def Turned (g : Nat) (w w' : World) : Prop := (∀ i, i ≠ g → w'.heap[i]? = w.heap[i]?) ∧ w'.heap.size = w.heap.size ∧ ∀ w0 : World, Below w0.heap.size w0 w → w0.heap.size ≤ g → Below w0.heap.size w0 w'
theorem Turned.refl (g : Nat) (w : World) : Turned g w w := ⟨fun _ _ => rfl, rfl, fun _ h _ => h⟩
theorem Turned.trans {g : Nat} {w w1 w2 : World} (h : Turned g w w1) (k : Turned g w1 w2) : Turned g w w2 :=
  ⟨fun i hi => (k.1 i hi).trans (h.1 i hi), k.2.1.trans h.2.1, fun w0 hb hg => k.2.2 w0 (h.2.2 w0 hb hg) hg⟩
theorem Turned.set (g : Nat) (w : World) (j : Nat) (v : Value) : Turned g w (w.setCell ⟨g, j, none⟩ v) :=
  ⟨fun i hi => Below.heap_setCell w _ v i hi, by simp [World.setCell], fun _ hb hg => below_set hb hg⟩
theorem Turned.drewN (g : Nat) (w : World) (n : Nat) : Turned g w (w.drewN n) := ⟨fun _ _ => rfl, rfl, fun _ hb _ => pw_below_drewN hb n⟩
theorem Turned.block {g i : Nat} {w w' : World} {o : Obj} (h : Turned g w w') (hi : i ≠ g) (hb : w.heap[i]? = some o) : w'.heap[i]? = some o := (h.1 i hi).trans hb
theorem Turned.cell {g : Nat} {w w' : World} (h : Turned g w w') (a : Addr) (hi : a.block ≠ g) : w'.cell? a = w.cell? a := by
  unfold World.cell?
  rw [h.1 a.block hi]
theorem Turned.reads {g : Nat} {w w' : World} {k : IntKind} {A : Option Addr} {n : Nat} {l : List Int} (h : Turned g w w') (hA : ∀ ad, A = some ad → 0 < n → ad.block ≠ g) (hr : Kd.C (Kd.int k) w A n l) : Kd.C (Kd.int k) w' A n l := by
  refine ⟨hr.1, hr.2.1, fun hn => ?_⟩
  obtain ⟨ad, e, hc⟩ := hr.2.2 hn
  refine ⟨ad, e, fun j p hj => ?_⟩
  obtain ⟨c, h1, h2, h3⟩ := hc j p hj
  refine ⟨c, h1, h2, fun i u hu => ?_⟩
  rw [h.cell _ (by rw [show (ad.add (j * (Kd.int k).sz + i)).block = ad.block by unfold Addr.add; split <;> rfl]; exact hA ad e hn)]
  exact h3 i u hu
/-- What the source hands out. -/
def nxt (l : List Int) (n : Int) : Int := if n < (l.length : Int) then rd l n else 0
set_option maxHeartbeats 4000000 in
set_option maxRecDepth 100000 in
theorem next_calls (l : List Int) (A : Option Addr) (c g : Nat) (n : Int) (w : World) (hr : Kd.C (Kd.int .u64) w A l.length l) (hc : l.length ≤ c) (hA : ∀ ad, A = some ad → 0 < l.length → ad.block ≠ g)
    (hb : w.heap[g]? = some (.cells #[.slice A l.length c, .int .i64 n] 33 (0, 0))) (n0 : 0 ≤ n) (n1 : n ≤ 4611686018427387904) :
    Calls Try.prog 50 #[.pointer (some ⟨g, 0, none⟩)] w fun e w' => e = .returned (.int .u64 (nxt l n)) ∧ w'.heap[g]? = some (.cells #[.slice A l.length c, .int .i64 (n + 1)] 33 (0, 0)) ∧ Turned g w w' := by
  have hu := Try.underlying33
  have HR := Aside0.mk hr
  have HA := Aside0.mk hA
  have HBK := Aside0.mk hb
  have HN := Aside0.mk (And.intro n0 n1)
  have hc0 : w.cell? ⟨g, 0, none⟩ = some (.slice A l.length c) := (blk_cell hb 0).trans rfl
  have hc1 : w.cell? ⟨g, 1, none⟩ = some (.int .i64 n) := (blk_cell hb 1).trans rfl
  have hf0 := blk_frozen hb 0
  have hf1 := blk_frozen hb 1
  have hw1 : wrap64 (n + 1) = n + 1 := by unfold wrap64; omega
  have hw2 : wrap64 (n + 1 - 1) = n := by unfold wrap64; omega
  have hw3 : n + 1 - 1 = n := by omega
  have hw4 : wrap64 n = n := by unfold wrap64; omega
  have HB2 := Aside0.mk (show (w.setCell ⟨g, 1, none⟩ (.int .i64 (n + 1))).heap[g]? = some (.cells #[.slice A l.length c, .int .i64 (n + 1)] 33 (0, 0)) from blk_set hb 1 _)
  have HT2 := Aside0.mk (Turned.set g w 1 (.int .i64 (n + 1)))
  clear hr hA hb n0 n1 hc
  go_enter Try.func50, Try.ntmps50
  go_wp2
  have hd0 : (w.setCell ⟨g, 1, none⟩ (.int .i64 (n + 1))).cell? ⟨g, 0, none⟩ = some (.slice A l.length c) := (blk_cell HB2.out 0).trans rfl
  have hd1 : (w.setCell ⟨g, 1, none⟩ (.int .i64 (n + 1))).cell? ⟨g, 1, none⟩ = some (.int .i64 (n + 1)) := (blk_cell HB2.out 1).trans rfl
  have HR2 := Aside0.mk (HT2.out.reads HA.out HR.out)
  clear hc0 hc1 hf0 hf1
  generalize w.setCell ⟨g, 1, none⟩ (.int .i64 (n + 1)) = W at *
  by_cases hlt : n < (l.length : Int)
  · have HLT := Aside0.mk hlt
    have hltb : decide (n < (l.length : Int)) = true := decide_eq_true hlt
    have h0b : decide (0 ≤ n) = true := decide_eq_true HN.out.1
    obtain ⟨ad, e, hx⟩ := Kd.at_int HR2.out n HN.out.1 hlt
    cases e
    have p1 := eq_true HN.out.1
    have q1 := eq_true hlt
    have HX : Aside0 (nxt l n = rd l n) := ⟨by unfold nxt; rw [if_pos hlt]⟩
    clear hlt
    repeat (go_quiet (fail); try go_wp2)
    go_ret
    exact ⟨by rw [HX.out]; rfl, HB2.out, HT2.out.trans (by repeat (first | exact Turned.refl _ _ | exact Turned.drewN _ _ _ | refine Turned.trans ?_ (Turned.drewN _ _ _)))⟩
  · have hltb : decide (n < (l.length : Int)) = false := decide_eq_false hlt
    have HX : Aside0 (nxt l n = 0) := ⟨by unfold nxt; rw [if_neg hlt]⟩
    clear hlt
    repeat (go_quiet (fail); try go_wp2)
    go_ret
    exact ⟨by rw [HX.out]; rfl, HB2.out, HT2.out.trans (by repeat (first | exact Turned.refl _ _ | exact Turned.drewN _ _ _ | refine Turned.trans ?_ (Turned.drewN _ _ _)))⟩
/-- What is drawn below n of the numbers from the place at on, in k tries: the number, the error, how many are taken. -/
def belowL (l : List Int) (n sp : Int) : Nat → Int → Int × Int × Int
  | 0, _ => (0, 7, 0)
  | k + 1, a => if nxt l a ≤ sp then (Int.tmod (nxt l a) n, 0, 1) else ((belowL l n sp k (a + 1)).1, (belowL l n sp k (a + 1)).2.1, (belowL l n sp k (a + 1)).2.2 + 1)
def spare (n : Int) : Int := Go.bits .xor .u64 IntKind.u64.max (Int.tmod (IntKind.u64.wrap (-n)) n)
def belowD (l : List Int) (n a : Int) : Int × Int × Int := if n = 0 then (0, 1, 0) else belowL l n (spare n) 64 a
set_option maxHeartbeats 4000000 in
set_option maxRecDepth 100000 in
theorem below_calls (l : List Int) (A : Option Addr) (c g : Nat) (n a : Int) (w : World) (hr : Kd.C (Kd.int .u64) w A l.length l) (hc : l.length ≤ c) (hA : ∀ ad, A = some ad → 0 < l.length → ad.block ≠ g)
    (hb : w.heap[g]? = some (.cells #[.slice A l.length c, .int .i64 a] 33 (0, 0))) (n0 : 0 ≤ n) (a0 : 0 ≤ a) (a1 : a ≤ 1073741824) :
    Calls Try.prog 18 #[.iface 31 (.pointer (some ⟨g, 0, none⟩)), .int .u64 n] w fun e w' => e = .returned (.tuple #[.int .u64 (belowD l n a).1, .int .i64 (belowD l n a).2.1]) ∧ w'.heap[g]? = some (.cells #[.slice A l.length c, .int .i64 (a + (belowD l n a).2.2)] 33 (0, 0)) ∧ Turned g w w' := by
  have hu := Try.underlying33
  have HR := Aside0.mk hr
  have HA := Aside0.mk hA
  have HC := Aside0.mk hc
  have HN := Aside0.mk (And.intro a0 a1)
  have HBK := Aside0.mk hb
  clear hr hA hc hb a0 a1
  by_cases hz : n = 0
  · subst hz
    have HD : Aside0 (belowD l 0 a = (0, 1, 0)) := ⟨if_pos rfl⟩
    go_enter Try.func18, Try.ntmps18
    go_wp2
    go_ret2
    exact ⟨by rw [HD.out]; rfl, by rw [HD.out]; show w.heap[g]? = some (.cells #[.slice A l.length c, .int .i64 (a + 0)] 33 (0, 0)); rw [Int.add_zero]; exact HBK.out, Turned.refl _ _⟩
  · have hzb : (n == 0) = false := beq_eq_false_iff_ne.mpr hz
    have hpos : 0 < n := by omega
    have HD : Aside0 (belowD l n a = belowL l n (spare n) 64 a) := ⟨if_neg hz⟩
    clear hz
    have hm : ∀ (p : Addr) (W : World), (method 178 31 (.pointer (some p)) "Next").run Try.prog W = .ok (50, .pointer (some p)) W := fun _ _ => by kernel_rfl
    go_enter Try.func18, Try.ntmps18
    go_wp2
    go_loopw [14] (fun v14 w' => ∃ i : Nat, v14 = .int .i64 (i : Int) ∧ Aside0 (i ≤ 64) ∧ Aside0 (belowL l n (spare n) 64 a = ((belowL l n (spare n) (64 - i) (a + i)).1, (belowL l n (spare n) (64 - i) (a + i)).2.1, (belowL l n (spare n) (64 - i) (a + i)).2.2 + i)) ∧ Aside0 (w'.heap[g]? = some (.cells #[.slice A l.length c, .int .i64 (a + i)] 33 (0, 0))) ∧ Aside0 (Turned g w w')) (fun v14 _ => 64 - (intOf v14).toNat)
    case atStart => exact ⟨0, rfl, ⟨by omega⟩, ⟨by rw [show ((0 : Nat) : Int) = 0 from rfl, Int.add_zero, Int.add_zero]⟩, ⟨by rw [show ((0 : Nat) : Int) = 0 from rfl, Int.add_zero]; exact HBK.out⟩, ⟨Turned.refl _ _⟩⟩
    case round =>
      obtain ⟨i, rfl, HI, HS, HBI, HT⟩ := hrel
      by_cases hlt : i < 64
      · have hltb : decide (i < 64) = true := decide_eq_true hlt
        have hltc : decide ((i : Int) < 64) = true := decide_eq_true (by omega)
        have HX := Aside0.mk (next_calls l A c g (a + i) wr (HT.out.reads HA.out HR.out) HC.out HA.out HBI.out (by have := HN.out; omega) (by have := HN.out; have := HI.out; omega))
        obtain ⟨m, hm64⟩ : ∃ m, 64 - i = m + 1 := ⟨64 - i - 1, by omega⟩
        have HM := Aside0.mk hm64
        have HLT := Aside0.mk hlt
        clear hm64 hlt
        have hsp : Go.bits .xor .u64 IntKind.u64.max (Int.tmod (IntKind.u64.wrap (-n)) n) = spare n := rfl
        have hsp2 : Go.bits .xor .u64 (if IntKind.u64.signed = true then -1 else IntKind.u64.max) (Int.tmod (IntKind.u64.wrap (-n)) n) = spare n := rfl
        have hwi : wrap64 ((i : Int) + 1) = (i : Int) + 1 := by have := HLT.out; unfold wrap64; omega
        obtain ⟨X, hX⟩ : ∃ X, nxt l (a + i) = X := ⟨_, rfl⟩
        have HX2 := Aside0.mk hX
        rw [hX] at HX
        clear hX
        by_cases ht : X ≤ spare n
        · have htb : decide (X ≤ spare n) = true := decide_eq_true ht
          have HE : Aside0 (belowD l n a = (Int.tmod X n, 0, 1 + (i : Int))) := ⟨by rw [HD.out, HS.out, HM.out, belowL, HX2.out, if_pos ht]⟩
          clear ht
          go_wp2_with (first | (go_at_call 50; (with_reducible refine HX.out.mono ?_); rintro e w2 ⟨rfl, hb2, ht2⟩; have HB2 := Aside0.mk hb2; have HT2 := Aside0.mk ht2; clear hb2 ht2))
          go_ret2
          exact ⟨by rw [HE.out]; rfl, by rw [HE.out]; show w2.heap[g]? = some (.cells #[.slice A l.length c, .int .i64 (a + (1 + (i : Int)))] 33 (0, 0)); rw [show a + (1 + (i : Int)) = a + i + 1 by omega]; exact HB2.out, HT.out.trans HT2.out⟩
        · have htb : decide (X ≤ spare n) = false := decide_eq_false ht
          have HE : Aside0 (belowL l n (spare n) 64 a = ((belowL l n (spare n) (64 - (i + 1)) (a + ((i + 1 : Nat) : Int))).1, (belowL l n (spare n) (64 - (i + 1)) (a + ((i + 1 : Nat) : Int))).2.1, (belowL l n (spare n) (64 - (i + 1)) (a + ((i + 1 : Nat) : Int))).2.2 + ((i + 1 : Nat) : Int))) := ⟨by
            rw [HS.out, HM.out, belowL, HX2.out, if_neg ht, show 64 - (i + 1) = m by have := HM.out; omega, show a + ((i + 1 : Nat) : Int) = a + i + 1 by omega]
            simp only [Prod.mk.injEq, true_and]
            omega⟩
          clear ht
          go_wp2_with (first | (go_at_call 50; (with_reducible refine HX.out.mono ?_); rintro e w2 ⟨rfl, hb2, ht2⟩; have HB2 := Aside0.mk hb2; have HT2 := Aside0.mk ht2; clear hb2 ht2))
          go_roundw
          case rel => exact ⟨i + 1, by first | (rw [hwi]; rfl) | go_num, ⟨by have := HLT.out; omega⟩, ⟨HE.out⟩, ⟨by rw [show a + ((i + 1 : Nat) : Int) = a + i + 1 by omega]; exact HB2.out⟩, ⟨HT.out.trans HT2.out⟩⟩
          case measure => have := HLT.out; (try rw [hwi]); show 64 - ((i : Int) + 1).toNat < 64 - ((i : Nat) : Int).toNat; omega
      · have hi : i = 64 := by have := HI.out; omega
        subst hi
        have HE : Aside0 (belowD l n a = (0, 7, 0 + ((64 : Nat) : Int))) := ⟨by rw [HD.out, HS.out, Nat.sub_self, belowL]⟩
        clear hlt
        go_wp2
        go_ret2
        exact ⟨by rw [HE.out]; rfl, by rw [HE.out]; show wr.heap[g]? = some (.cells #[.slice A l.length c, .int .i64 (a + (0 + ((64 : Nat) : Int)))] 33 (0, 0)); rw [Int.zero_add]; exact HBI.out, HT.out⟩
theorem below_told (l : List Int) (A : Option Addr) (c g : Nat) (n a : Int) (w : World) (m : Nat) (hm : l.length = m) (hr : Kd.C (Kd.int .u64) w A m l) (hc : m ≤ c) (hA : ∀ ad, A = some ad → ad.block ≠ g)
    (hb : w.heap[g]? = some (.cells #[.slice A m c, .int .i64 a] 33 (0, 0))) (n0 : 0 ≤ n) (a0 : 0 ≤ a) (a1 : a ≤ 1073741824) (x e t : Int) (h : belowD l n a = (x, e, t)) :
    Calls Try.prog 18 #[.iface 31 (.pointer (some ⟨g, 0, none⟩)), .int .u64 n] w fun e' w' => e' = .returned (.tuple #[.int .u64 x, .int .i64 e]) ∧ w'.heap[g]? = some (.cells #[.slice A m c, .int .i64 (a + t)] 33 (0, 0)) ∧ Turned g w w' := by
  subst hm
  have := below_calls l A c g n a w hr hc (fun ad e _ => hA ad e) hb n0 a0 a1
  rw [h] at this
  exact this
/-- A source over a list that was just made. -/
theorem made_list (w : World) (xs : List Int) (cs : Array Value) (m : Nat) (hm : xs.length = m) (hcs : cs = (xs.map fun x => Value.int .u64 x).toArray) (h9 : m ≤ 9223372036854775807) (z : Value) :
    Kd.C (Kd.int .u64) ((w.alloc (.cells cs 22 (0, 0))).alloc (.cells #[.slice (some ⟨w.heap.size, 0, none⟩) m m, z] 33 (0, 0))) (some ⟨w.heap.size, 0, none⟩) m xs ∧
    ((w.alloc (.cells cs 22 (0, 0))).alloc (.cells #[.slice (some ⟨w.heap.size, 0, none⟩) m m, z] 33 (0, 0))).heap[w.heap.size + 1]? = some (.cells #[.slice (some ⟨w.heap.size, 0, none⟩) m m, z] 33 (0, 0)) ∧
    Below w.heap.size w ((w.alloc (.cells cs 22 (0, 0))).alloc (.cells #[.slice (some ⟨w.heap.size, 0, none⟩) m m, z] 33 (0, 0))) := by
  subst hcs
  have hs : (w.alloc (.cells (xs.map fun x => Value.int .u64 x).toArray 22 (0, 0))).heap.size = w.heap.size + 1 := Array.size_push _
  refine ⟨⟨hm, h9, fun _ => ⟨_, rfl, fun j p hj => ⟨[.int .u64 p], rfl, rfl, fun i u hu => ?_⟩⟩⟩, ?_, below_alloc (below_alloc (Below.refl _ _) _) _⟩
  · have hi : i = 0 := by
      cases i with
      | zero => rfl
      | succ i => simp at hu
    subst hi
    have hu2 : u = .int .u64 p := by simpa using hu.symm
    subst hu2
    have hb := blk_alloc (blk_new w (.cells (xs.map fun x => Value.int .u64 x).toArray 22 (0, 0))) (.cells #[.slice (some ⟨w.heap.size, 0, none⟩) m m, z] 33 (0, 0))
    have h2 := blk_cell hb j
    have e : (⟨w.heap.size, 0, none⟩ : Addr).add (j * (Kd.int .u64).sz + 0) = ⟨w.heap.size, j, none⟩ := by
      rw [show (Kd.int .u64).sz = 1 from rfl, Nat.mul_one, Nat.add_zero]
      unfold Addr.add
      split
      · rename_i h0; rw [h0]
      · simp
    rw [e, h2]
    simp [hj]
  · have hn := blk_new (w.alloc (.cells (xs.map fun x => Value.int .u64 x).toArray 22 (0, 0))) (.cells #[.slice (some ⟨w.heap.size, 0, none⟩) m m, z] 33 (0, 0))
    rw [hs] at hn
    exact hn
theorem made_listb (w : World) (b : Nat) (hb : w.heap.size = b) (xs : List Int) (cs : Array Value) (m : Nat) (hm : xs.length = m) (hcs : cs = (xs.map fun x => Value.int .u64 x).toArray) (h9 : m ≤ 9223372036854775807) (z : Value) :
    Kd.C (Kd.int .u64) ((w.alloc (.cells cs 22 (0, 0))).alloc (.cells #[.slice (some ⟨b, 0, none⟩) m m, z] 33 (0, 0))) (some ⟨b, 0, none⟩) m xs ∧
    ((w.alloc (.cells cs 22 (0, 0))).alloc (.cells #[.slice (some ⟨b, 0, none⟩) m m, z] 33 (0, 0))).heap[b + 1]? = some (.cells #[.slice (some ⟨b, 0, none⟩) m m, z] 33 (0, 0)) ∧
    Below w.heap.size w ((w.alloc (.cells cs 22 (0, 0))).alloc (.cells #[.slice (some ⟨b, 0, none⟩) m m, z] 33 (0, 0))) := by
  subst hb
  exact made_list w xs cs m hm hcs h9 z
set_option maxHeartbeats 4000000 in
set_option maxRecDepth 100000 in
theorem fixed_calls (w : World) : Calls Try.prog 17 #[] w fun e w' => e = .returned (.bool true) ∧ Below w.heap.size w w' := by
  have D1 : belowD [18446744073709551615, 7] 10 0 = (7, 0, 2) := by decide +kernel
  have D2 : belowD [18446744073709551615, 7] 8 0 = (7, 0, 1) := by decide +kernel
  have HD1 := Aside0.mk D1
  have HD2 := Aside0.mk D2
  clear D1 D2
  have hu := Try.underlying33
  have HM := Aside0.mk (made_list w [18446744073709551615, 7] #[.int .u64 18446744073709551615, .int .u64 7] 2 rfl rfl (by decide) (.int .i64 0))
  have HT := Aside0.mk (below_told [18446744073709551615, 7] (some ⟨w.heap.size, 0, none⟩) 2 (w.heap.size + 1) 10 0 _ 2 rfl HM.out.1 (by decide) (fun ad e => by injection e with e; subst e; simp) HM.out.2.1 (by omega) (by omega) (by omega) 7 0 2 HD1.out)
  go_enter Try.func17, Try.ntmps17
  go_wp2_with (first | (go_at_call 18; (with_reducible refine HT.out.mono ?_); rintro e w2 ⟨rfl, hb2, ht2⟩; clear HT; have HB2 := Aside0.mk hb2; have HW := Aside0.mk (ht2.2.2 w HM.out.2.2 (Nat.le_succ _)); clear hb2 ht2 HM; have HM2 := Aside0.mk (made_list w2 [18446744073709551615, 7] #[.int .u64 18446744073709551615, .int .u64 7] 2 rfl rfl (by decide) (.int .i64 0)); have HT2 := Aside0.mk (below_told [18446744073709551615, 7] (some ⟨w2.heap.size, 0, none⟩) 2 (w2.heap.size + 1) 8 0 _ 2 rfl HM2.out.1 (by decide) (fun ad e => by injection e with e; subst e; simp) HM2.out.2.1 (by omega) (by omega) (by omega) 7 0 1 HD2.out)) | (go_at_call 18; (with_reducible refine HT2.out.mono ?_); rintro e w4 ⟨rfl, hb4, ht4⟩; clear HT2; have hcB : w4.cell? ⟨w2.heap.size + 1, 1, none⟩ = some (.int .i64 1) := (blk_cell hb4 1).trans rfl; have hcA : w4.cell? ⟨w.heap.size + 1, 1, none⟩ = some (.int .i64 2) := (blk_cell (ht4.block (Nat.ne_of_lt (Nat.lt_succ_of_lt (blk_lt HB2.out))) (blk_alloc (blk_alloc HB2.out _) _)) 1).trans rfl; have HW4 := Aside0.mk (ht4.2.2 w (below_alloc (below_alloc HW.out _) _) (Nat.le_succ_of_le HW.out.size)); clear hb4 ht4 HM2))
  go_ret
  exact ⟨rfl, by repeat (first | exact HW4.out | apply pw_below_drewN | apply below_drew1)⟩
def hornbeamlaw02_fixed.f : Option Bool := some true
theorem hornbeamlaw02_fixed.calls (r : Bool) (w : World) (h : hornbeamlaw02_fixed.f = some r) : Calls Try.prog 17 #[] w fun e w' => e = .returned (.bool r) ∧ Below w.heap.size w w' := by
  obtain rfl : true = r := Option.some.inj h
  exact fixed_calls w


/-! ### hornbeamlaw02_StreamEnds: function 8 -/
theorem spare_eq {n : Int} (n0 : 0 < n) (n1 : n < 18446744073709551616) : spare n = 18446744073709551615 - 18446744073709551616 % n := by
  have e1 : IntKind.u64.wrap (-n) = 18446744073709551616 - n := by rw [U64.wrap_u64]; omega
  have e2 : (18446744073709551616 - n) % n = 18446744073709551616 % n := by
    rw [Int.sub_emod, Int.emod_self, Int.sub_zero, Int.emod_emod]
  have e3 := Int.emod_nonneg 18446744073709551616 (b := n) (by omega)
  have e4 := Int.emod_lt_of_pos 18446744073709551616 n0
  unfold spare
  rw [e1, Int.tmod_eq_emod_of_nonneg (by omega), e2]
  obtain ⟨y, hy⟩ := U64.U_of e3 (by omega)
  rw [hy, show IntKind.u64.max = U64.U (BitVec.allOnes 64) by decide, U64.xor_U]
  unfold U64.U
  rw [BitVec.allOnes_xor, BitVec.toNat_not]
  have := y.isLt
  omega
/-- How many whole groups there are, times n. -/
theorem spare_groups {n : Int} (n0 : 0 < n) (n1 : n < 18446744073709551616) : spare n + 1 = n * (18446744073709551616 / n) := by
  have := Int.mul_ediv_add_emod 18446744073709551616 n
  rw [spare_eq n0 n1]; omega
theorem belowL_hit (l : List Int) (n sp : Int) (k : Nat) (a : Int) (h : nxt l a ≤ sp) : belowL l n sp (k + 1) a = (Int.tmod (nxt l a) n, 0, 1) := by rw [belowL, if_pos h]
theorem belowL_miss (l : List Int) (n sp : Int) (k : Nat) (a : Int) (h : ¬ nxt l a ≤ sp) : belowL l n sp (k + 1) a = ((belowL l n sp k (a + 1)).1, (belowL l n sp k (a + 1)).2.1, (belowL l n sp k (a + 1)).2.2 + 1) := by rw [belowL, if_neg h]
theorem one_in {x n : Int} (n0 : 0 < n) (h : x ≤ spare n) : belowD [x] n 0 = (Int.tmod x n, 0, 1) := by
  have e : nxt [x] 0 = x := rfl
  unfold belowD
  rw [if_neg (by omega), belowL_hit _ _ _ 63 _ (by rw [e]; exact h), e]
theorem one_out {x n : Int} (n0 : 0 < n) (n1 : n < 18446744073709551616) (h : ¬ x ≤ spare n) : belowD [x] n 0 = (0, 0, 2) := by
  have e : nxt [x] 0 = x := rfl
  have e2 : nxt [x] (0 + 1) = 0 := rfl
  have e4 := Int.emod_lt_of_pos 18446744073709551616 n0
  unfold belowD
  rw [if_neg (by omega), belowL_miss _ _ _ 63 _ (by rw [e]; exact h), belowL_hit _ _ _ 62 _ (by rw [e2, spare_eq n0 n1]; omega), e2]
  simp
theorem fair_in {x n k : Int} (x0 : 0 ≤ x) (n0 : 0 < n) (n1 : n < 18446744073709551616) (k0 : 0 ≤ k) (h : x ≤ spare n) :
    IntKind.u64.wrap (IntKind.u64.wrap (Int.tdiv x n) * n) = x / n * n ∧ IntKind.u64.wrap (x / n * n + Int.tmod k n) = x / n * n + k % n ∧ x / n * n + k % n ≤ spare n ∧ Int.tmod (x / n * n + k % n) n = Int.tmod k n ∧ 0 ≤ k % n ∧ 0 ≤ x / n * n := by
  have hg := spare_groups n0 n1
  have hsp := spare_eq n0 n1
  have e3 := Int.emod_nonneg 18446744073709551616 (b := n) (by omega)
  have k1 := Int.emod_nonneg k (b := n) (by omega)
  have k2 := Int.emod_lt_of_pos k n0
  have q0 : 0 ≤ x / n := Int.ediv_nonneg x0 (by omega)
  have q1 : x / n ≤ 18446744073709551616 / n - 1 := by
    have : x / n < 18446744073709551616 / n := by rw [Int.ediv_lt_iff_lt_mul n0, Int.mul_comm]; omega
    omega
  have q2 : x / n * n ≤ (18446744073709551616 / n - 1) * n := Int.mul_le_mul_of_nonneg_right q1 (by omega)
  have q3 : (18446744073709551616 / n - 1) * n = n * (18446744073709551616 / n) - n := by rw [Int.sub_mul, Int.one_mul, Int.mul_comm]
  have q4 := Int.mul_nonneg q0 (show 0 ≤ n by omega)
  have q5 : x / n ≤ x := Int.ediv_le_self _ x0
  have e1 : IntKind.u64.wrap (Int.tdiv x n) = x / n := by rw [Int.tdiv_eq_ediv_of_nonneg x0, U64.wrap_u64]; omega
  refine ⟨by rw [e1, U64.wrap_u64]; omega, by rw [Int.tmod_eq_emod_of_nonneg k0, U64.wrap_u64]; omega, by omega, ?_, k1, q4⟩
  rw [Int.tmod_eq_emod_of_nonneg (by omega), Int.tmod_eq_emod_of_nonneg k0, Int.add_comm, Int.add_mul_emod_self_right, Int.emod_emod]
theorem fair_out {x n : Int} (x1 : x < 18446744073709551616) (n0 : 0 < n) (n1 : n < 18446744073709551616) (h : ¬ x ≤ spare n) :
    9223372036854775808 ≤ x ∧ IntKind.u64.wrap (Int.tdiv x n) = 18446744073709551615 / n ∧ x / n = 18446744073709551615 / n ∧ IntKind.u64.wrap (Int.tdiv 18446744073709551615 n) = 18446744073709551615 / n := by
  have hg := spare_groups n0 n1
  have hsp := spare_eq n0 n1
  have e3 := Int.emod_nonneg 18446744073709551616 (b := n) (by omega)
  have e4 := Int.emod_lt_of_pos 18446744073709551616 n0
  have hm := Int.mul_ediv_add_emod 18446744073709551616 n
  obtain ⟨q, hq⟩ : ∃ q, q = 18446744073709551616 / n := ⟨_, rfl⟩
  rw [← hq] at hg hm
  have hq1 : 1 ≤ q := by rw [hq, Int.le_ediv_iff_mul_le n0]; omega
  have hx0 : 0 ≤ x := by omega
  have big : 9223372036854775808 ≤ n * q := by
    by_cases hn : n ≤ 9223372036854775808
    · omega
    · have := Int.mul_le_mul_of_nonneg_left (a := 1) (b := q) (c := n) hq1 (by omega); omega
  have d : ∀ y : Int, n * q ≤ y → y < 18446744073709551616 → y / n = q := by
    intro y h1 h2
    have a1 : q ≤ y / n := by rw [Int.le_ediv_iff_mul_le n0, Int.mul_comm]; exact h1
    have a2 : y / n < q + 1 := by rw [Int.ediv_lt_iff_lt_mul n0, Int.add_mul, Int.one_mul, Int.mul_comm]; omega
    omega
  have f1 := d x (by omega) x1
  have f2 := d 18446744073709551615 (by omega) (by omega)
  have f3 : q ≤ 18446744073709551616 := by rw [hq]; exact Int.ediv_le_self _ (by omega)
  have f4 : q < 18446744073709551616 := by have := Int.ediv_le_self (a := 18446744073709551615) n (by omega); omega
  have f5 : IntKind.u64.wrap q = q := by rw [U64.wrap_u64]; omega
  rw [Int.tdiv_eq_ediv_of_nonneg hx0, Int.tdiv_eq_ediv_of_nonneg (by omega), f1, f2]
  exact ⟨by omega, f5, rfl, f5⟩
theorem and_u64 (x y : Nat) (hx : x < 18446744073709551616) (hy : y < 18446744073709551616) : Go.bits .and .u64 (x : Int) (y : Int) = ((x &&& y : Nat) : Int) := bits_and_u64_nat x y hx hy
theorem pow_dvd {m : Nat} (h : m < 18446744073709551616) (hp : m.isPowerOfTwo) : (18446744073709551616 : Nat) % m = 0 := by
  obtain ⟨k, rfl⟩ := hp
  have hk : k < 64 := by
    rcases Nat.lt_or_ge k 64 with h1 | h1
    · exact h1
    · have := Nat.pow_le_pow_right (n := 2) (by omega) h1; omega
  rw [show (18446744073709551616 : Nat) = 2 ^ k * 2 ^ (64 - k) by rw [← Nat.pow_add, show k + (64 - k) = 64 by omega], Nat.mul_mod_right]
theorem dvd_pow (e : Nat) : ∀ n : Nat, n ∣ 2 ^ e → n.isPowerOfTwo := by
  induction e with
  | zero => intro n h; exact ⟨0, Nat.dvd_one.1 h⟩
  | succ e ih =>
    intro n h
    rcases Nat.mod_two_eq_zero_or_one n with h2 | h2
    · obtain ⟨m, rfl⟩ := Nat.dvd_of_mod_eq_zero h2
      rw [Nat.pow_succ, Nat.mul_comm (2 ^ e) 2] at h
      obtain ⟨k, hk⟩ := ih m (by exact Nat.dvd_of_mul_dvd_mul_left (show 0 < 2 by decide) h)
      exact ⟨k + 1, by rw [hk, Nat.pow_succ, Nat.mul_comm]⟩
    · refine ih n ?_
      rw [Nat.pow_succ] at h
      refine Nat.Coprime.dvd_of_dvd_mul_right ?_ h
      rw [Nat.coprime_comm]
      unfold Nat.Coprime
      rw [Nat.gcd_rec, h2]
      rfl
/-- n and n - 1 share no bit where n's groups fill 2^64, and only there. -/
theorem power_iff {n : Int} (n0 : 0 < n) (n1 : n < 18446744073709551616) : Go.bits .and .u64 n (IntKind.u64.wrap (n - 1)) = 0 ↔ (18446744073709551616 : Int) % n = 0 := by
  obtain ⟨m, rfl⟩ := Int.eq_ofNat_of_zero_le (Int.le_of_lt n0)
  rw [U64.wrap_u64, show ((m : Int) - 1) % 18446744073709551616 = ((m - 1 : Nat) : Int) by omega, and_u64 _ _ (by omega) (by omega), show (18446744073709551616 : Int) % (m : Int) = ((18446744073709551616 % m : Nat) : Int) by rw [Int.natCast_emod]; rfl]
  rw [show (((m &&& (m - 1) : Nat) : Int) = 0) = ((m &&& (m - 1)) = 0) by rw [Int.natCast_eq_zero], Int.natCast_eq_zero, Nat.and_sub_one_eq_zero_iff_isPowerOfTwo (by omega)]
  exact ⟨pow_dvd (by omega), fun h => dvd_pow 64 m (Nat.dvd_of_mod_eq_zero h)⟩
theorem mask_eq {n : Int} (n0 : 0 ≤ n) (n1 : n < 18446744073709551616) {s : Nat} (hs : s < 64) : Go.bits .and .u64 n (IntKind.u64.wrap (2 ^ s - 1)) = n % 2 ^ s := by
  obtain ⟨m, rfl⟩ := Int.eq_ofNat_of_zero_le n0
  have h1 : (2 : Nat) ^ s ≤ 2 ^ 63 := Nat.pow_le_pow_right (by omega) (by omega)
  have h2 : 0 < (2 : Nat) ^ s := Nat.pow_pos (by omega)
  have e : ((2 : Int) ^ s) = ((2 ^ s : Nat) : Int) := by rw [Int.natCast_pow]; rfl
  rw [e, U64.wrap_u64, show (((2 ^ s : Nat) : Int) - 1) % 18446744073709551616 = ((2 ^ s - 1 : Nat) : Int) by omega, and_u64 _ _ (by omega) (by omega), Nat.and_two_pow_sub_one_eq_mod, Int.natCast_emod]
theorem pow_wrap {s : Nat} (hs : s < 64) : IntKind.u64.wrap (2 ^ s) = 2 ^ s ∧ 0 < (2 : Int) ^ s ∧ (2 : Int) ^ s < 18446744073709551616 ∧ (18446744073709551616 : Int) % 2 ^ s = 0 := by
  have h1 : (2 : Nat) ^ s ≤ 2 ^ 63 := Nat.pow_le_pow_right (by omega) (by omega)
  have h2 : 0 < (2 : Nat) ^ s := Nat.pow_pos (by omega)
  have e : ((2 : Int) ^ s) = ((2 ^ s : Nat) : Int) := by rw [Int.natCast_pow]; rfl
  have h3 := pow_dvd (m := 2 ^ s) (by omega) ⟨s, rfl⟩
  rw [e, U64.wrap_u64]
  refine ⟨by omega, by omega, by omega, ?_⟩
  rw [show (18446744073709551616 : Int) = ((18446744073709551616 : Nat) : Int) from rfl, ← Int.natCast_emod, h3]
  rfl
theorem good_in {x : Int} (x1 : x < 18446744073709551616) {s : Nat} (hs : s < 64) : belowD [x] (2 ^ s) 0 = (Int.tmod x (2 ^ s), 0, 1) := by
  obtain ⟨_, h1, h2, h3⟩ := pow_wrap hs
  exact one_in h1 (by rw [spare_eq h1 h2, h3]; omega)
def badL : List Int := List.replicate 70 18446744073709551615
theorem bad_nxt (a : Int) (a0 : 0 ≤ a) (a1 : a < 70) : nxt badL a = 18446744073709551615 := by
  unfold nxt badL
  rw [if_pos (by simp; omega)]
  have hlt : a.toNat < 70 := by omega
  simp only [rd, List.getD, List.getElem?_replicate, if_pos hlt, Option.getD_some]
theorem bad_in {n : Int} (n0 : 0 < n) (n1 : n < 18446744073709551616) (h : (18446744073709551616 : Int) % n = 0) : belowD badL n 0 = (n - 1, 0, 1) := by
  unfold belowD
  rw [if_neg (by omega), belowL_hit _ _ _ 63 _ (by rw [bad_nxt _ (by omega) (by omega), spare_eq n0 n1, h]; omega), bad_nxt _ (by omega) (by omega), Int.tmod_eq_emod_of_nonneg (by omega)]
  obtain ⟨q, hq⟩ : ∃ q, 18446744073709551616 = n * q := Int.dvd_of_emod_eq_zero h
  have e : (18446744073709551615 : Int) % n = n - 1 := by
    have e1 : (18446744073709551615 : Int) = (n - 1) + n * (q - 1) := by rw [Int.mul_sub, Int.mul_one]; omega
    rw [e1, Int.add_mul_emod_self_left, Int.emod_eq_of_lt (by omega) (by omega)]
  rw [e]
theorem bad_run {n sp : Int} (hs : sp < 18446744073709551615) (m : Nat) : ∀ a : Int, 0 ≤ a → a + m ≤ 70 → belowL badL n sp m a = (0, 7, (m : Int)) := by
  induction m with
  | zero => intro a _ _; rw [belowL]; rfl
  | succ m ih =>
    intro a h0 h1
    rw [belowL_miss _ _ _ _ _ (by rw [bad_nxt _ h0 (by omega)]; omega), ih (a + 1) (by omega) (by omega)]
    exact Prod.ext rfl (Prod.ext rfl (by show (m : Int) + 1 = ((m + 1 : Nat) : Int); omega))
theorem bad_out {n : Int} (n0 : 0 < n) (n1 : n < 18446744073709551616) (h : (18446744073709551616 : Int) % n ≠ 0) : belowD badL n 0 = (0, 7, 64) := by
  have e3 := Int.emod_nonneg 18446744073709551616 (b := n) (by omega)
  unfold belowD
  rw [if_neg (by omega), bad_run (by rw [spare_eq n0 n1]; omega) 64 0 (by omega) (by omega)]
  rfl
theorem info22 : (Try.prog.info? 22).map (fun i => (i.zero, i.size, i.bytes)) = some (some (.int .u64 0), 1, 8) := by kernel_rfl
def hornbeamlaw02_StreamEnds.f (a0 a1 : Int) : Option Bool := if (0 ≤ a0 ∧ a0 < 18446744073709551616) ∧ (0 ≤ a1 ∧ a1 < 256) then some true else none
set_option maxHeartbeats 8000000 in
set_option maxRecDepth 100000 in
theorem hornbeamlaw02_StreamEnds.calls (a0 : Int) (a1 : Int) (r : Bool) (w : World) (h : hornbeamlaw02_StreamEnds.f a0 a1 = some r) (hr_ : r = true) :
    Calls Try.prog 8 #[.int .u64 a0, .int .u8 a1] w fun e w' => e = .returned (.bool r) ∧ Below w.heap.size w w' := by
  subst hr_
  have hw : (0 ≤ a0 ∧ a0 < 18446744073709551616) ∧ (0 ≤ a1 ∧ a1 < 256) := by
    unfold hornbeamlaw02_StreamEnds.f at h
    split at h
    · assumption
    · cases h
  have HWF := Aside0.mk hw
  clear h hw
  have hu := Try.underlying33
  have HBK := Aside0.mk (blk_new w (.cells #[.slice none 0 0, .int .i64 0] 33 (0, 0)))
  have HW0 := Aside0.mk (below_alloc (Below.refl w.heap.size w) (.cells #[.slice none 0 0, .int .i64 0] 33 (0, 0)))
  go_enter Try.func8, Try.ntmps8
  go_wp2_with (fail)
  go_loopw [14] (fun v14 w' => ∃ (i : Nat) (v : Value), v14 = .int .i64 (i : Int) ∧ Aside0 (i ≤ 70) ∧ Aside0 (w'.heap[w.heap.size]? = some (.cells #[v, .int .i64 0] 33 (0, 0))) ∧ Aside0 (Kd.R (Kd.int .u64) 22 w' w.heap.size (fun k => k ≠ w.heap.size) v (List.replicate i 18446744073709551615)) ∧ Aside0 (Below w.heap.size w w')) (fun v14 _ => 70 - (intOf v14).toNat)
  case atStart => exact ⟨0, _, rfl, ⟨by omega⟩, ⟨HBK.out⟩, ⟨Kd.R_nil _ _ _ _ _⟩, ⟨HW0.out⟩⟩
  case round =>
    clear HBK HW0
    obtain ⟨i, v, rfl, HI, HBK, HO, HB⟩ := hrel
    by_cases hlt : i < 70
    · have hltb : decide (i < 70) = true := decide_eq_true hlt
      have hltc : decide ((i : Int) < 70) = true := decide_eq_true (by omega)
      have HLT := Aside0.mk hlt
      have hwi : wrap64 ((i : Int) + 1) = ((i + 1 : Nat) : Int) := by unfold wrap64; omega
      have hc0 : wr.cell? ⟨w.heap.size, 0, none⟩ = some v := (blk_cell HBK.out 0).trans rfl
      have hf0 := blk_frozen HBK.out 0
      clear hlt
      have HLT2 := Aside0.mk (show w.heap.size < wr.heap.size from blk_lt HBK.out)
      have HNE := Aside0.mk (Kd.R_away HO.out (g := w.heap.size) (fun _ hk => hk))
      go_wp2_with (first | ((with_reducible refine gate_builtin (b := .append) (xs := #[.tmp 20, .tmp 21]) rfl ?_); at_builtin; refine Kd.R_append (Kd.int .u64) (w0 := w) w.heap.size rfl (.tmp 20) (.tmp 21) 23 22 (.int .u64 0) 8 rfl Try.underlying23 info22 rfl (by decide) (by omega) v (List.replicate i 18446744073709551615) 18446744073709551615 [.int .u64 18446744073709551615] (fun k => k ≠ w.heap.size) (fun _ => False) rfl rfl ?aP (fun _ hk => hk.elim) ?aF ?aO ?aB ?aS ?aL ?_; (case aP => exact rfl); (case aF => exact fun k hk e => absurd HLT2.out (by rw [e] at hk; exact Nat.not_lt.2 hk)); (case aO => (with_reducible repeat (first | apply Kd.R_alloc | apply Kd.R_drewN | apply Kd.R_drew)); exact HO.out); (case aB => repeat (first | exact HB.out | apply pw_below_drewN | apply below_drew1)); (case aS => exact Nat.le_of_lt HLT2.out); (case aL => have := HLT.out; rw [List.length_replicate]; omega); intro v1 w1 ho hb hg hat; obtain ⟨A1, c1, ev1⟩ := Kd.R_slice ho; rw [List.length_append, List.length_replicate, List.length_singleton] at ev1; subst ev1; have HB1 := Aside0.mk ((hg.block w.heap.size HLT2.out HNE.out).trans HBK.out); have HO1 := Aside0.mk ho; have HBB := Aside0.mk hb; clear ho hb hg hat hc0 hf0; have hc0 : w1.cell? ⟨w.heap.size, 0, none⟩ = some v := (blk_cell HB1.out 0).trans rfl; have hf0 := blk_frozen HB1.out 0))
      go_roundw
      case rel => exact ⟨i + 1, _, by first | (rw [hwi]; done) | go_num, ⟨by have := HLT.out; omega⟩, ⟨blk_set HB1.out 0 _⟩, ⟨by rw [List.replicate_succ']; exact Kd.R_far (p := ⟨w.heap.size, 0, none⟩) HO1.out (fun _ hk => hk) _⟩, ⟨below_set HBB.out (Nat.le_refl _)⟩⟩
      case measure => have := HLT.out; (try rw [hwi]); first | (show 70 - ((i + 1 : Nat) : Int).toNat < 70 - ((i : Nat) : Int).toNat; omega) | (show 70 - ((i : Int) + 1).toNat < 70 - ((i : Nat) : Int).toNat; omega)
    · have hi : i = 70 := by have := HI.out; omega
      subst hi
      clear hlt
      obtain ⟨A, c, rfl⟩ := Kd.R_slice HO.out
      rw [List.length_replicate] at HBK HO
      obtain ⟨hn, hc, hr⟩ := Kd.R_reads' HO.out
      rw [List.length_replicate] at hr
      have HA := Aside0.mk (show ∀ ad, A = some ad → ad.block ≠ w.heap.size from fun ad e => HO.out.1 ad.block (by rw [e]; rfl))
      have HR := Aside0.mk hr
      have HC := Aside0.mk hc
      clear hn hc hr HO
      have key : (a0 = 0 ∧ belowD badL a0 0 = (0, 1, 0)) ∨ (0 < a0 ∧ Go.bits .and .u64 a0 (IntKind.u64.wrap (a0 - 1)) = 0 ∧ belowD badL a0 0 = (a0 - 1, 0, 1)) ∨ (0 < a0 ∧ Go.bits .and .u64 a0 (IntKind.u64.wrap (a0 - 1)) ≠ 0 ∧ belowD badL a0 0 = (0, 7, 64)) := by
        by_cases h0 : a0 = 0
        · exact .inl ⟨h0, by rw [h0]; rfl⟩
        have hp : 0 < a0 := by have := HWF.out; omega
        by_cases h1 : (18446744073709551616 : Int) % a0 = 0
        · exact .inr (.inl ⟨hp, (power_iff hp HWF.out.1.2).2 h1, bad_in hp HWF.out.1.2 h1⟩)
        · exact .inr (.inr ⟨hp, fun h => h1 ((power_iff hp HWF.out.1.2).1 h), bad_out hp HWF.out.1.2 h1⟩)
      have hk0 : 0 ≤ Int.tmod a1 64 := Int.tmod_nonneg _ HWF.out.2.1
      have hk1 : Int.tmod a1 64 ≤ 64 := by rw [Int.tmod_eq_emod_of_nonneg HWF.out.2.1]; omega
      have hs0 : (Int.tmod a1 64).toNat < 64 := by rw [Int.tmod_eq_emod_of_nonneg HWF.out.2.1]; omega
      obtain ⟨e1, e4, e5, _⟩ := pow_wrap hs0
      have e6 : IntKind.u64.wrap (2 ^ (Int.tmod a1 64).toNat - 1) = 2 ^ (Int.tmod a1 64).toNat - 1 := by rw [U64.wrap_u64]; omega
      have e2 := mask_eq HWF.out.1.1 HWF.out.1.2 hs0
      have e3 := Int.tmod_eq_emod_of_nonneg (b := 2 ^ (Int.tmod a1 64).toNat) HWF.out.1.1
      have HG := Aside0.mk (good_in HWF.out.1.2 hs0)
      rw [e3] at HG
      have HE := Aside0.mk (Int.le_of_lt e4)
      clear e3 e4 e5 hs0
      obtain ⟨M, hM⟩ : ∃ M, a0 % 2 ^ (Int.tmod a1 64).toNat = M := ⟨_, rfl⟩
      rw [hM] at HG e2
      clear hM
      obtain ⟨S, hS⟩ : ∃ S, (2 : Int) ^ (Int.tmod a1 64).toNat = S := ⟨_, rfl⟩
      rw [hS] at e1 e2 e6 HG HE
      have e7 := e2
      rw [e6] at e7
      have e8 := bne_self_eq_false' (a := M)
      rcases key with ⟨h0, hD⟩ | ⟨h0, h1, hD⟩ | ⟨h0, h1, hD⟩
      · subst h0
        have HT := Aside0.mk (below_told badL A c w.heap.size 0 0 wr 70 rfl HR.out HC.out HA.out HBK.out (by omega) (by omega) (by omega) 0 1 0 hD)
        clear hD
        go_wp2_with (first | (go_at_call 18; (with_reducible refine HT.out.mono ?_); rintro e w2 ⟨rfl, hb2, ht2⟩; clear HT; have HB2 := Aside0.mk hb2; have HW := Aside0.mk (ht2.2.2 w HB.out (Nat.le_refl _)); clear hb2 ht2; have HM2 := Aside0.mk (made_list w2 [0] #[.int .u64 0] 1 rfl rfl (by decide) (.int .i64 0)); have HT2 := Aside0.mk (below_told [0] (some ⟨w2.heap.size, 0, none⟩) 1 (w2.heap.size + 1) S 0 _ 1 rfl HM2.out.1 (by decide) (fun ad e => by injection e with e; subst e; simp) HM2.out.2.1 HE.out (by omega) (by omega) M 0 1 HG.out)) | (go_at_call 18; (with_reducible refine HT2.out.mono ?_); rintro e w4 ⟨rfl, hb4, ht4⟩; clear HT2; have hcB : w4.cell? ⟨w2.heap.size + 1, 1, none⟩ = some (.int .i64 1) := (blk_cell hb4 1).trans rfl; have HK4 := Aside0.mk (ht4.block (Nat.ne_of_lt (Nat.lt_succ_of_lt (blk_lt HB2.out))) (blk_alloc (blk_alloc HB2.out _) _)); have HW4 := Aside0.mk (ht4.2.2 w (below_alloc (below_alloc HW.out _) _) (Nat.le_succ_of_le HW.out.size)); clear hb4 ht4 HM2) | (go_at_call 17; (with_reducible refine (fixed_calls _).mono ?_); rintro e w5 ⟨rfl, hb5⟩; have hcA : w5.cell? ⟨w.heap.size, 1, none⟩ = some (.int .i64 0) := (blk_cell (blk_below HK4.out hb5) 1).trans rfl; have HW5 := Aside0.mk (below_step HW4.out hb5); clear hb5))
        all_goals (go_ret; exact ⟨by first | rfl | simp, by repeat (first | exact HW5.out | apply pw_below_drewN | apply below_drew1)⟩)
      · have hz : (a0 == 0) = false := beq_eq_false_iff_ne.mpr (by omega)
        have hwn : IntKind.u64.wrap (a0 - 1) = a0 - 1 := by rw [U64.wrap_u64]; have := HWF.out; omega
        have h1' := h1
        rw [hwn] at h1'
        have HT := Aside0.mk (below_told badL A c w.heap.size a0 0 wr 70 rfl HR.out HC.out HA.out HBK.out (by omega) (by omega) (by omega) (a0 - 1) 0 1 hD)
        clear hD
        go_wp2_with (first | (go_at_call 18; (with_reducible refine HT.out.mono ?_); rintro e w2 ⟨rfl, hb2, ht2⟩; clear HT; have HB2 := Aside0.mk hb2; have HW := Aside0.mk (ht2.2.2 w HB.out (Nat.le_refl _)); clear hb2 ht2; have HM2 := Aside0.mk (made_list w2 [a0] #[.int .u64 a0] 1 rfl rfl (by decide) (.int .i64 0)); have HT2 := Aside0.mk (below_told [a0] (some ⟨w2.heap.size, 0, none⟩) 1 (w2.heap.size + 1) S 0 _ 1 rfl HM2.out.1 (by decide) (fun ad e => by injection e with e; subst e; simp) HM2.out.2.1 HE.out (by omega) (by omega) M 0 1 HG.out)) | (go_at_call 18; (with_reducible refine HT2.out.mono ?_); rintro e w4 ⟨rfl, hb4, ht4⟩; clear HT2; have hcB : w4.cell? ⟨w2.heap.size + 1, 1, none⟩ = some (.int .i64 1) := (blk_cell hb4 1).trans rfl; have HK4 := Aside0.mk (ht4.block (Nat.ne_of_lt (Nat.lt_succ_of_lt (blk_lt HB2.out))) (blk_alloc (blk_alloc HB2.out _) _)); have HW4 := Aside0.mk (ht4.2.2 w (below_alloc (below_alloc HW.out _) _) (Nat.le_succ_of_le HW.out.size)); clear hb4 ht4 HM2) | (go_at_call 17; (with_reducible refine (fixed_calls _).mono ?_); rintro e w5 ⟨rfl, hb5⟩; have hcA : w5.cell? ⟨w.heap.size, 1, none⟩ = some (.int .i64 1) := (blk_cell (blk_below HK4.out hb5) 1).trans rfl; have HW5 := Aside0.mk (below_step HW4.out hb5); clear hb5))
        all_goals (go_ret; exact ⟨by first | rfl | simp, by repeat (first | exact HW5.out | apply pw_below_drewN | apply below_drew1)⟩)
      · have hz : (a0 == 0) = false := beq_eq_false_iff_ne.mpr (by omega)
        have h1' : (Go.bits .and .u64 a0 (IntKind.u64.wrap (a0 - 1)) == 0) = false := beq_eq_false_iff_ne.mpr h1
        have HT := Aside0.mk (below_told badL A c w.heap.size a0 0 wr 70 rfl HR.out HC.out HA.out HBK.out (by omega) (by omega) (by omega) 0 7 64 hD)
        clear hD
        go_wp2_with (first | (go_at_call 18; (with_reducible refine HT.out.mono ?_); rintro e w2 ⟨rfl, hb2, ht2⟩; clear HT; have HB2 := Aside0.mk hb2; have HW := Aside0.mk (ht2.2.2 w HB.out (Nat.le_refl _)); clear hb2 ht2; have HM2 := Aside0.mk (made_list w2 [a0] #[.int .u64 a0] 1 rfl rfl (by decide) (.int .i64 0)); have HT2 := Aside0.mk (below_told [a0] (some ⟨w2.heap.size, 0, none⟩) 1 (w2.heap.size + 1) S 0 _ 1 rfl HM2.out.1 (by decide) (fun ad e => by injection e with e; subst e; simp) HM2.out.2.1 HE.out (by omega) (by omega) M 0 1 HG.out)) | (go_at_call 18; (with_reducible refine HT2.out.mono ?_); rintro e w4 ⟨rfl, hb4, ht4⟩; clear HT2; have hcB : w4.cell? ⟨w2.heap.size + 1, 1, none⟩ = some (.int .i64 1) := (blk_cell hb4 1).trans rfl; have HK4 := Aside0.mk (ht4.block (Nat.ne_of_lt (Nat.lt_succ_of_lt (blk_lt HB2.out))) (blk_alloc (blk_alloc HB2.out _) _)); have HW4 := Aside0.mk (ht4.2.2 w (below_alloc (below_alloc HW.out _) _) (Nat.le_succ_of_le HW.out.size)); clear hb4 ht4 HM2) | (go_at_call 17; (with_reducible refine (fixed_calls _).mono ?_); rintro e w5 ⟨rfl, hb5⟩; have hcA : w5.cell? ⟨w.heap.size, 1, none⟩ = some (.int .i64 64) := (blk_cell (blk_below HK4.out hb5) 1).trans rfl; have HW5 := Aside0.mk (below_step HW4.out hb5); clear hb5))
        all_goals (go_ret; exact ⟨by first | rfl | simp, by repeat (first | exact HW5.out | apply pw_below_drewN | apply below_drew1)⟩)

def hornbeamlaw02_StreamEnds.Pure : Prop := ∀ (a0 : Int) (a1 : Int), (Lit.int .u64 a0).wf = true → (Lit.int .u8 a1).wf = true → hornbeamlaw02_StreamEnds.f a0 a1 = some true

end Go.Proofs.Ytbofijmijeaadaa.QStreamEnds
