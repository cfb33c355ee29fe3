-- Written by a program of this session (wip/tools/mkprint.py over the kit's print); Lean checks it.
import Derived.Test.YtbofijmijeaadaaQStreamPlaysx0
namespace Go.Proofs.Ytbofijmijeaadaa.QStreamPlays
open Go.RowKit Go.Proofs.YtbofijmijeaadaaW.PrintWords Go.Proofs.YtbofijmijeaadaaW.PrintLast Go.Proofs.YtbofijmijeaadaaW.PrintMore
attribute [local go_sem] max2_int min2_int max_two min_two max_three min_three max_four min_four   -- for this text's walks alone
set_option linter.unusedVariables false
set_option linter.unusedSimpArgs false

-- NOT PRINTED: function 18 (stream_Below)

/-! ### hornbeamlaw02_fixed: function 17 -/
/-- What a call on the source at block g turns: that block alone. -/
def Turned (g : Nat) (w w' : World) : Prop := (∀ i, i ≠ g → w'.heap[i]? = w.heap[i]?) ∧ w'.heap.size = w.heap.size ∧ ∀ w0 : World, Below w0.heap.size w0 w → w0.heap.size ≤ g → Below w0.heap.size w0 w'
theorem Turned.refl (g : Nat) (w : World) : Turned g w w := ⟨fun _ _ => rfl, rfl, fun _ h _ => h⟩
theorem Turned.trans {g : Nat} {w w1 w2 : World} (h : Turned g w w1) (k : Turned g w1 w2) : Turned g w w2 :=
  ⟨fun i hi => (k.1 i hi).trans (h.1 i hi), k.2.1.trans h.2.1, fun w0 hb hg => k.2.2 w0 (h.2.2 w0 hb hg) hg⟩
theorem Turned.set (g : Nat) (w : World) (j : Nat) (v : Value) : Turned g w (w.setCell ⟨g, j, none⟩ v) :=
  ⟨fun i hi => Below.heap_setCell w _ v i hi, by simp [World.setCell], fun _ hb hg => below_set hb hg⟩
theorem Turned.drewN (g : Nat) (w : World) (n : Nat) : Turned g w (w.drewN n) := ⟨fun _ _ => rfl, rfl, fun _ hb _ => pw_below_drewN hb n⟩
theorem Turned.block {g i : Nat} {w w' : World} {o : Obj} (h : Turned g w w') (hi : i ≠ g) (hb : w.heap[i]? = some o) : w'.heap[i]? = some o := (h.1 i hi).trans hb
theorem Turned.cell {g : Nat} {w w' : World} (h : Turned g w w') (a : Addr) (hi : a.block ≠ g) : w'.cell? a = w.cell? a := by
  unfold World.cell?
  rw [h.1 a.block hi]
theorem Turned.reads {g : Nat} {w w' : World} {k : IntKind} {A : Option Addr} {n : Nat} {l : List Int} (h : Turned g w w') (hA : ∀ ad, A = some ad → 0 < n → ad.block ≠ g) (hr : Kd.C (Kd.int k) w A n l) : Kd.C (Kd.int k) w' A n l := by
  refine ⟨hr.1, hr.2.1, fun hn => ?_⟩
  obtain ⟨ad, e, hc⟩ := hr.2.2 hn
  refine ⟨ad, e, fun j p hj => ?_⟩
  obtain ⟨c, h1, h2, h3⟩ := hc j p hj
  refine ⟨c, h1, h2, fun i u hu => ?_⟩
  rw [h.cell _ (by rw [show (ad.add (j * (Kd.int k).sz + i)).block = ad.block by unfold Addr.add; split <;> rfl]; exact hA ad e hn)]
  exact h3 i u hu
/-- What the source hands out. -/
def nxt (l : List Int) (n : Int) : Int := if n < (l.length : Int) then rd l n else 0
set_option maxHeartbeats 4000000 in
set_option maxRecDepth 100000 in
theorem next_calls (l : List Int) (A : Option Addr) (c g : Nat) (n : Int) (w : World) (hr : Kd.C (Kd.int .u64) w A l.length l) (hc : l.length ≤ c) (hA : ∀ ad, A = some ad → 0 < l.length → ad.block ≠ g)
    (hb : w.heap[g]? = some (.cells #[.slice A l.length c, .int .i64 n] 33 (0, 0))) (n0 : 0 ≤ n) (n1 : n ≤ 4611686018427387904) :
    Calls Try.prog 50 #[.pointer (some ⟨g, 0, none⟩)] w fun e w' => e = .returned (.int .u64 (nxt l n)) ∧ w'.heap[g]? = some (.cells #[.slice A l.length c, .int .i64 (n + 1)] 33 (0, 0)) ∧ Turned g w w' := by
  have hu := Try.underlying33
  have HR := Aside0.mk hr
  have HA := Aside0.mk hA
  have HBK := Aside0.mk hb
  have HN := Aside0.mk (And.intro n0 n1)
  have hc0 : w.cell? ⟨g, 0, none⟩ = some (.slice A l.length c) := (blk_cell hb 0).trans rfl
  have hc1 : w.cell? ⟨g, 1, none⟩ = some (.int .i64 n) := (blk_cell hb 1).trans rfl
  have hf0 := blk_frozen hb 0
  have hf1 := blk_frozen hb 1
  have hw1 : wrap64 (n + 1) = n + 1 := by unfold wrap64; omega
  have hw2 : wrap64 (n + 1 - 1) = n := by unfold wrap64; omega
  have hw3 : n + 1 - 1 = n := by omega
  have hw4 : wrap64 n = n := by unfold wrap64; omega
  have HB2 := Aside0.mk (show (w.setCell ⟨g, 1, none⟩ (.int .i64 (n + 1))).heap[g]? = some (.cells #[.slice A l.length c, .int .i64 (n + 1)] 33 (0, 0)) from blk_set hb 1 _)
  have HT2 := Aside0.mk (Turned.set g w 1 (.int .i64 (n + 1)))
  clear hr hA hb n0 n1 hc
  go_enter Try.func50, Try.ntmps50
  go_wp2
  have hd0 : (w.setCell ⟨g, 1, none⟩ (.int .i64 (n + 1))).cell? ⟨g, 0, none⟩ = some (.slice A l.length c) := (blk_cell HB2.out 0).trans rfl
  have hd1 : (w.setCell ⟨g, 1, none⟩ (.int .i64 (n + 1))).cell? ⟨g, 1, none⟩ = some (.int .i64 (n + 1)) := (blk_cell HB2.out 1).trans rfl
  have HR2 := Aside0.mk (HT2.out.reads HA.out HR.out)
  clear hc0 hc1 hf0 hf1
  generalize w.setCell ⟨g, 1, none⟩ (.int .i64 (n + 1)) = W at *
  by_cases hlt : n < (l.length : Int)
  · have HLT := Aside0.mk hlt
    have hltb : decide (n < (l.length : Int)) = true := decide_eq_true hlt
    have h0b : decide (0 ≤ n) = true := decide_eq_true HN.out.1
    obtain ⟨ad, e, hx⟩ := Kd.at_int HR2.out n HN.out.1 hlt
    cases e
    have p1 := eq_true HN.out.1
    have q1 := eq_true hlt
    have HX : Aside0 (nxt l n = rd l n) := ⟨by unfold nxt; rw [if_pos hlt]⟩
    clear hlt
    repeat (go_quiet (fail); try go_wp2)
    go_ret
    exact ⟨by rw [HX.out]; rfl, HB2.out, HT2.out.trans (by repeat (first | exact Turned.refl _ _ | exact Turned.drewN _ _ _ | refine Turned.trans ?_ (Turned.drewN _ _ _)))⟩
  · have hltb : decide (n < (l.length : Int)) = false := decide_eq_false hlt
    have HX : Aside0 (nxt l n = 0) := ⟨by unfold nxt; rw [if_neg hlt]⟩
    clear hlt
    repeat (go_quiet (fail); try go_wp2)
    go_ret
    exact ⟨by rw [HX.out]; rfl, HB2.out, HT2.out.trans (by repeat (first | exact Turned.refl _ _ | exact Turned.drewN _ _ _ | refine Turned.trans ?_ (Turned.drewN _ _ _)))⟩
/-- What is drawn below n of the numbers from the place at on, in k tries: the number, the error, how many are taken. -/
def belowL (l : List Int) (n sp : Int) : Nat → Int → Int × Int × Int
  | 0, _ => (0, 7, 0)
  | k + 1, a => if nxt l a ≤ sp then (Int.tmod (nxt l a) n, 0, 1) else ((belowL l n sp k (a + 1)).1, (belowL l n sp k (a + 1)).2.1, (belowL l n sp k (a + 1)).2.2 + 1)
def spare (n : Int) : Int := Go.bits .xor .u64 IntKind.u64.max (Int.tmod (IntKind.u64.wrap (-n)) n)
def belowD (l : List Int) (n a : Int) : Int × Int × Int := if n = 0 then (0, 1, 0) else belowL l n (spare n) 64 a
set_option maxHeartbeats 4000000 in
set_option maxRecDepth 100000 in
theorem below_calls (l : List Int) (A : Option Addr) (c g : Nat) (n a : Int) (w : World) (hr : Kd.C (Kd.int .u64) w A l.length l) (hc : l.length ≤ c) (hA : ∀ ad, A = some ad → 0 < l.length → ad.block ≠ g)
    (hb : w.heap[g]? = some (.cells #[.slice A l.length c, .int .i64 a] 33 (0, 0))) (n0 : 0 ≤ n) (a0 : 0 ≤ a) (a1 : a ≤ 1073741824) :
    Calls Try.prog 18 #[.iface 31 (.pointer (some ⟨g, 0, none⟩)), .int .u64 n] w fun e w' => e = .returned (.tuple #[.int .u64 (belowD l n a).1, .int .i64 (belowD l n a).2.1]) ∧ w'.heap[g]? = some (.cells #[.slice A l.length c, .int .i64 (a + (belowD l n a).2.2)] 33 (0, 0)) ∧ Turned g w w' := by
  have hu := Try.underlying33
  have HR := Aside0.mk hr
  have HA := Aside0.mk hA
  have HC := Aside0.mk hc
  have HN := Aside0.mk (And.intro a0 a1)
  have HBK := Aside0.mk hb
  clear hr hA hc hb a0 a1
  by_cases hz : n = 0
  · subst hz
    have HD : Aside0 (belowD l 0 a = (0, 1, 0)) := ⟨if_pos rfl⟩
    go_enter Try.func18, Try.ntmps18
    go_wp2
    go_ret2
    exact ⟨by rw [HD.out]; rfl, by rw [HD.out]; show w.heap[g]? = some (.cells #[.slice A l.length c, .int .i64 (a + 0)] 33 (0, 0)); rw [Int.add_zero]; exact HBK.out, Turned.refl _ _⟩
  · have hzb : (n == 0) = false := beq_eq_false_iff_ne.mpr hz
    have hpos : 0 < n := by omega
    have HD : Aside0 (belowD l n a = belowL l n (spare n) 64 a) := ⟨if_neg hz⟩
    clear hz
    have hm : ∀ (p : Addr) (W : World), (method 178 31 (.pointer (some p)) "Next").run Try.prog W = .ok (50, .pointer (some p)) W := fun _ _ => by kernel_rfl
    go_enter Try.func18, Try.ntmps18
    go_wp2
    go_loopw [14] (fun v14 w' => ∃ i : Nat, v14 = .int .i64 (i : Int) ∧ Aside0 (i ≤ 64) ∧ Aside0 (belowL l n (spare n) 64 a = ((belowL l n (spare n) (64 - i) (a + i)).1, (belowL l n (spare n) (64 - i) (a + i)).2.1, (belowL l n (spare n) (64 - i) (a + i)).2.2 + i)) ∧ Aside0 (w'.heap[g]? = some (.cells #[.slice A l.length c, .int .i64 (a + i)] 33 (0, 0))) ∧ Aside0 (Turned g w w')) (fun v14 _ => 64 - (intOf v14).toNat)
    case atStart => exact ⟨0, rfl, ⟨by omega⟩, ⟨by rw [show ((0 : Nat) : Int) = 0 from rfl, Int.add_zero, Int.add_zero]⟩, ⟨by rw [show ((0 : Nat) : Int) = 0 from rfl, Int.add_zero]; exact HBK.out⟩, ⟨Turned.refl _ _⟩⟩
    case round =>
      obtain ⟨i, rfl, HI, HS, HBI, HT⟩ := hrel
      by_cases hlt : i < 64
      · have hltb : decide (i < 64) = true := decide_eq_true hlt
        have hltc : decide ((i : Int) < 64) = true := decide_eq_true (by omega)
        have HX := Aside0.mk (next_calls l A c g (a + i) wr (HT.out.reads HA.out HR.out) HC.out HA.out HBI.out (by have := HN.out; omega) (by have := HN.out; have := HI.out; omega))
        obtain ⟨m, hm64⟩ : ∃ m, 64 - i = m + 1 := ⟨64 - i - 1, by omega⟩
        have HM := Aside0.mk hm64
        have HLT := Aside0.mk hlt
        clear hm64 hlt
        have hsp : Go.bits .xor .u64 IntKind.u64.max (Int.tmod (IntKind.u64.wrap (-n)) n) = spare n := rfl
        have hsp2 : Go.bits .xor .u64 (if IntKind.u64.signed = true then -1 else IntKind.u64.max) (Int.tmod (IntKind.u64.wrap (-n)) n) = spare n := rfl
        have hwi : wrap64 ((i : Int) + 1) = (i : Int) + 1 := by have := HLT.out; unfold wrap64; omega
        obtain ⟨X, hX⟩ : ∃ X, nxt l (a + i) = X := ⟨_, rfl⟩
        have HX2 := Aside0.mk hX
        rw [hX] at HX
        clear hX
        by_cases ht : X ≤ spare n
        · have htb : decide (X ≤ spare n) = true := decide_eq_true ht
          have HE : Aside0 (belowD l n a = (Int.tmod X n, 0, 1 + (i : Int))) := ⟨by rw [HD.out, HS.out, HM.out, belowL, HX2.out, if_pos ht]⟩
          clear ht
          go_wp2_with (first | (go_at_call 50; (with_reducible refine HX.out.mono ?_); rintro e w2 ⟨rfl, hb2, ht2⟩; have HB2 := Aside0.mk hb2; have HT2 := Aside0.mk ht2; clear hb2 ht2))
          go_ret2
          exact ⟨by rw [HE.out]; rfl, by rw [HE.out]; show w2.heap[g]? = some (.cells #[.slice A l.length c, .int .i64 (a + (1 + (i : Int)))] 33 (0, 0)); rw [show a + (1 + (i : Int)) = a + i + 1 by omega]; exact HB2.out, HT.out.trans HT2.out⟩
        · have htb : decide (X ≤ spare n) = false := decide_eq_false ht
          have HE : Aside0 (belowL l n (spare n) 64 a = ((belowL l n (spare n) (64 - (i + 1)) (a + ((i + 1 : Nat) : Int))).1, (belowL l n (spare n) (64 - (i + 1)) (a + ((i + 1 : Nat) : Int))).2.1, (belowL l n (spare n) (64 - (i + 1)) (a + ((i + 1 : Nat) : Int))).2.2 + ((i + 1 : Nat) : Int))) := ⟨by
            rw [HS.out, HM.out, belowL, HX2.out, if_neg ht, show 64 - (i + 1) = m by have := HM.out; omega, show a + ((i + 1 : Nat) : Int) = a + i + 1 by omega]
            simp only [Prod.mk.injEq, true_and]
            omega⟩
          clear ht
          go_wp2_with (first | (go_at_call 50; (with_reducible refine HX.out.mono ?_); rintro e w2 ⟨rfl, hb2, ht2⟩; have HB2 := Aside0.mk hb2; have HT2 := Aside0.mk ht2; clear hb2 ht2))
          go_roundw
          case rel => exact ⟨i + 1, by first | (rw [hwi]; rfl) | go_num, ⟨by have := HLT.out; omega⟩, ⟨HE.out⟩, ⟨by rw [show a + ((i + 1 : Nat) : Int) = a + i + 1 by omega]; exact HB2.out⟩, ⟨HT.out.trans HT2.out⟩⟩
          case measure => have := HLT.out; (try rw [hwi]); show 64 - ((i : Int) + 1).toNat < 64 - ((i : Nat) : Int).toNat; omega
      · have hi : i = 64 := by have := HI.out; omega
        subst hi
        have HE : Aside0 (belowD l n a = (0, 7, 0 + ((64 : Nat) : Int))) := ⟨by rw [HD.out, HS.out, Nat.sub_self, belowL]⟩
        clear hlt
        go_wp2
        go_ret2
        exact ⟨by rw [HE.out]; rfl, by rw [HE.out]; show wr.heap[g]? = some (.cells #[.slice A l.length c, .int .i64 (a + (0 + ((64 : Nat) : Int)))] 33 (0, 0)); rw [Int.zero_add]; exact HBI.out, HT.out⟩
theorem below_told (l : List Int) (A : Option Addr) (c g : Nat) (n a : Int) (w : World) (m : Nat) (hm : l.length = m) (hr : Kd.C (Kd.int .u64) w A m l) (hc : m ≤ c) (hA : ∀ ad, A = some ad → ad.block ≠ g)
    (hb : w.heap[g]? = some (.cells #[.slice A m c, .int .i64 a] 33 (0, 0))) (n0 : 0 ≤ n) (a0 : 0 ≤ a) (a1 : a ≤ 1073741824) (x e t : Int) (h : belowD l n a = (x, e, t)) :
    Calls Try.prog 18 #[.iface 31 (.pointer (some ⟨g, 0, none⟩)), .int .u64 n] w fun e' w' => e' = .returned (.tuple #[.int .u64 x, .int .i64 e]) ∧ w'.heap[g]? = some (.cells #[.slice A m c, .int .i64 (a + t)] 33 (0, 0)) ∧ Turned g w w' := by
  subst hm
  have := below_calls l A c g n a w hr hc (fun ad e _ => hA ad e) hb n0 a0 a1
  rw [h] at this
  exact this
/-- A source over a list that was just made. -/
theorem made_list (w : World) (xs : List Int) (cs : Array Value) (m : Nat) (hm : xs.length = m) (hcs : cs = (xs.map fun x => Value.int .u64 x).toArray) (h9 : m ≤ 9223372036854775807) (z : Value) :
    Kd.C (Kd.int .u64) ((w.alloc (.cells cs 22 (0, 0))).alloc (.cells #[.slice (some ⟨w.heap.size, 0, none⟩) m m, z] 33 (0, 0))) (some ⟨w.heap.size, 0, none⟩) m xs ∧
    ((w.alloc (.cells cs 22 (0, 0))).alloc (.cells #[.slice (some ⟨w.heap.size, 0, none⟩) m m, z] 33 (0, 0))).heap[w.heap.size + 1]? = some (.cells #[.slice (some ⟨w.heap.size, 0, none⟩) m m, z] 33 (0, 0)) ∧
    Below w.heap.size w ((w.alloc (.cells cs 22 (0, 0))).alloc (.cells #[.slice (some ⟨w.heap.size, 0, none⟩) m m, z] 33 (0, 0))) := by
  subst hcs
  have hs : (w.alloc (.cells (xs.map fun x => Value.int .u64 x).toArray 22 (0, 0))).heap.size = w.heap.size + 1 := Array.size_push _
  refine ⟨⟨hm, h9, fun _ => ⟨_, rfl, fun j p hj => ⟨[.int .u64 p], rfl, rfl, fun i u hu => ?_⟩⟩⟩, ?_, below_alloc (below_alloc (Below.refl _ _) _) _⟩
  · have hi : i = 0 := by
      cases i with
      | zero => rfl
      | succ i => simp at hu
    subst hi
    have hu2 : u = .int .u64 p := by simpa using hu.symm
    subst hu2
    have hb := blk_alloc (blk_new w (.cells (xs.map fun x => Value.int .u64 x).toArray 22 (0, 0))) (.cells #[.slice (some ⟨w.heap.size, 0, none⟩) m m, z] 33 (0, 0))
    have h2 := blk_cell hb j
    have e : (⟨w.heap.size, 0, none⟩ : Addr).add (j * (Kd.int .u64).sz + 0) = ⟨w.heap.size, j, none⟩ := by
      rw [show (Kd.int .u64).sz = 1 from rfl, Nat.mul_one, Nat.add_zero]
      unfold Addr.add
      split
      · rename_i h0; rw [h0]
      · simp
    rw [e, h2]
    simp [hj]
  · have hn := blk_new (w.alloc (.cells (xs.map fun x => Value.int .u64 x).toArray 22 (0, 0))) (.cells #[.slice (some ⟨w.heap.size, 0, none⟩) m m, z] 33 (0, 0))
    rw [hs] at hn
    exact hn
theorem made_listb (w : World) (b : Nat) (hb : w.heap.size = b) (xs : List Int) (cs : Array Value) (m : Nat) (hm : xs.length = m) (hcs : cs = (xs.map fun x => Value.int .u64 x).toArray) (h9 : m ≤ 9223372036854775807) (z : Value) :
    Kd.C (Kd.int .u64) ((w.alloc (.cells cs 22 (0, 0))).alloc (.cells #[.slice (some ⟨b, 0, none⟩) m m, z] 33 (0, 0))) (some ⟨b, 0, none⟩) m xs ∧
    ((w.alloc (.cells cs 22 (0, 0))).alloc (.cells #[.slice (some ⟨b, 0, none⟩) m m, z] 33 (0, 0))).heap[b + 1]? = some (.cells #[.slice (some ⟨b, 0, none⟩) m m, z] 33 (0, 0)) ∧
    Below w.heap.size w ((w.alloc (.cells cs 22 (0, 0))).alloc (.cells #[.slice (some ⟨b, 0, none⟩) m m, z] 33 (0, 0))) := by
  subst hb
  exact made_list w xs cs m hm hcs h9 z
set_option maxHeartbeats 4000000 in
set_option maxRecDepth 100000 in
theorem fixed_calls (w : World) : Calls Try.prog 17 #[] w fun e w' => e = .returned (.bool true) ∧ Below w.heap.size w w' := by
  have D1 : belowD [18446744073709551615, 7] 10 0 = (7, 0, 2) := by decide +kernel
  have D2 : belowD [18446744073709551615, 7] 8 0 = (7, 0, 1) := by decide +kernel
  have HD1 := Aside0.mk D1
  have HD2 := Aside0.mk D2
  clear D1 D2
  have hu := Try.underlying33
  have HM := Aside0.mk (made_list w [18446744073709551615, 7] #[.int .u64 18446744073709551615, .int .u64 7] 2 rfl rfl (by decide) (.int .i64 0))
  have HT := Aside0.mk (below_told [18446744073709551615, 7] (some ⟨w.heap.size, 0, none⟩) 2 (w.heap.size + 1) 10 0 _ 2 rfl HM.out.1 (by decide) (fun ad e => by injection e with e; subst e; simp) HM.out.2.1 (by omega) (by omega) (by omega) 7 0 2 HD1.out)
  go_enter Try.func17, Try.ntmps17
  go_wp2_with (first | (go_at_call 18; (with_reducible refine HT.out.mono ?_); rintro e w2 ⟨rfl, hb2, ht2⟩; clear HT; have HB2 := Aside0.mk hb2; have HW := Aside0.mk (ht2.2.2 w HM.out.2.2 (Nat.le_succ _)); clear hb2 ht2 HM; have HM2 := Aside0.mk (made_list w2 [18446744073709551615, 7] #[.int .u64 18446744073709551615, .int .u64 7] 2 rfl rfl (by decide) (.int .i64 0)); have HT2 := Aside0.mk (below_told [18446744073709551615, 7] (some ⟨w2.heap.size, 0, none⟩) 2 (w2.heap.size + 1) 8 0 _ 2 rfl HM2.out.1 (by decide) (fun ad e => by injection e with e; subst e; simp) HM2.out.2.1 (by omega) (by omega) (by omega) 7 0 1 HD2.out)) | (go_at_call 18; (with_reducible refine HT2.out.mono ?_); rintro e w4 ⟨rfl, hb4, ht4⟩; clear HT2; have hcB : w4.cell? ⟨w2.heap.size + 1, 1, none⟩ = some (.int .i64 1) := (blk_cell hb4 1).trans rfl; have hcA : w4.cell? ⟨w.heap.size + 1, 1, none⟩ = some (.int .i64 2) := (blk_cell (ht4.block (Nat.ne_of_lt (Nat.lt_succ_of_lt (blk_lt HB2.out))) (blk_alloc (blk_alloc HB2.out _) _)) 1).trans rfl; have HW4 := Aside0.mk (ht4.2.2 w (below_alloc (below_alloc HW.out _) _) (Nat.le_succ_of_le HW.out.size)); clear hb4 ht4 HM2))
  go_ret
  exact ⟨rfl, by repeat (first | exact HW4.out | apply pw_below_drewN | apply below_drew1)⟩
def hornbeamlaw02_fixed.f : Option Bool := some true
theorem hornbeamlaw02_fixed.calls (r : Bool) (w : World) (h : hornbeamlaw02_fixed.f = some r) : Calls Try.prog 17 #[] w fun e w' => e = .returned (.bool r) ∧ Below w.heap.size w w' := by
  obtain rfl : true = r := Option.some.inj h
  exact fixed_calls w


/-- A state of type 59 at block g of W; what its slices lead to came in by w0. -/
def IsS59 (w0 W : World) (g : Nat) (f0 : Int) (f1 : Int) : Prop := W.heap[g]? = some (.cells #[.int .u64 f0, .int .u64 f1] 59 (0, 0)) ∧ w0.heap.size ≤ g
theorem IsS59.grown {w0 W : World} {g : Nat} {f0 : Int} {f1 : Int} {W1 : World} {row : Option Nat} (h : IsS59 w0 W g f0 f1) (hw : W.grownBy W1 row) (hne : some g ≠ row) : IsS59 w0 W1 g f0 f1 := by
  obtain ⟨hb, hg⟩ := h
  exact ⟨blk_grown hb hw hne, hg⟩
theorem IsS59.own_neN {w0 W : World} {g : Nat} {f0 : Int} {f1 : Int} {α : Type} {d : Kd α} {e : Nat} {base : Nat} {ok : Nat → Prop} {v : Value} {xs : List α} (h : IsS59 w0 W g f0 f1) (ho : Kd.N d e W base ok v xs) (ht : e ≠ 59) : some g ≠ v.ownBlock := by
  obtain ⟨hb, hg⟩ := h
  exact Kd.N_ne ho hb ht
theorem IsS59.fresh {w0 W : World} {g : Nat} {f0 : Int} {f1 : Int} (h : IsS59 w0 W g f0 f1) : ∀ k, W.heap.size ≤ k → k ≠ g := by
  obtain ⟨hb, hg⟩ := h
  exact Kd.freshB hb
theorem IsS59.kept {w0 W : World} {g : Nat} {f0 : Int} {f1 : Int} {W1 : World} {S : Nat → Prop} (h : IsS59 w0 W g f0 f1) (hk : Kept W W1 S) (hne : ¬ S g) : IsS59 w0 W1 g f0 f1 := by
  obtain ⟨hb, hg⟩ := h
  exact ⟨blk_kept hb hk hne, hg⟩
theorem IsS59.below {w0 W : World} {g : Nat} {f0 : Int} {f1 : Int} {W1 : World} (h : IsS59 w0 W g f0 f1) (hw : Below W.heap.size W W1) : IsS59 w0 W1 g f0 f1 := h.grown (grown_of_below hw none) (by simp)
theorem IsS59.alloc {w0 W : World} {g : Nat} {f0 : Int} {f1 : Int} (h : IsS59 w0 W g f0 f1) (o : Obj) : IsS59 w0 (W.alloc o) g f0 f1 := h.below (below_alloc (Below.refl _ _) o)
theorem IsS59.drewN {w0 W : World} {g : Nat} {f0 : Int} {f1 : Int} (h : IsS59 w0 W g f0 f1) (m : Nat) : IsS59 w0 (W.drewN m) g f0 f1 := h
theorem IsS59.drew {w0 W : World} {g : Nat} {f0 : Int} {f1 : Int} (h : IsS59 w0 W g f0 f1) : IsS59 w0 W.drew g f0 f1 := h
theorem IsS59.at_ {w0 W : World} {g : Nat} {f0 : Int} {f1 : Int} {w' : World} {m : Nat} (hq : W.drewN m = w') (h : IsS59 w0 W g f0 f1) : IsS59 w0 w' g f0 f1 := by subst hq; exact IsS59.drewN h m
theorem IsS59.apart {w0 W : World} {g : Nat} {f0 : Int} {f1 : Int} {α : Type} {d : Kd α} {e : Nat} {base : Nat} {ok : Nat → Prop} {v : Value} {xs : List α} (h : IsS59 w0 W g f0 f1) (ho : d.R e W base ok v xs) (ht : ∀ q, q ∈ e :: d.E → q ≠ 59) : d.R e W base (fun k => ok k ∧ k ≠ g) v xs := by
  obtain ⟨hb, hg⟩ := h
  exact Kd.R_types ho hb ht
theorem IsS59.own_ne {w0 W : World} {g : Nat} {f0 : Int} {f1 : Int} {α : Type} {d : Kd α} {e : Nat} {base : Nat} {ok : Nat → Prop} {v : Value} {xs : List α} (h : IsS59 w0 W g f0 f1) (ho : d.R e W base ok v xs) (ht : e ≠ 59) : some g ≠ v.ownBlock := by
  obtain ⟨hb, hg⟩ := h
  exact Kd.R_ne ho hb ht
theorem IsS59.apartQ {w0 W : World} {g : Nat} {f0 : Int} {f1 : Int} {α : Type} {d : Kd α} {e : Nat} {base : Nat} {ok : Nat → Prop} {v : Value} {xs : List α} (h : IsS59 w0 W g f0 f1) (ho : d.Q e W base ok v xs) (ht : ∀ q, q ∈ e :: d.E → q ≠ 59) : d.Q e W base (fun k => ok k ∧ k ≠ g) v xs := by
  obtain ⟨hb, hg⟩ := h
  exact Kd.Q_types ho hb ht
theorem IsS59.own_neQ {w0 W : World} {g : Nat} {f0 : Int} {f1 : Int} {α : Type} {d : Kd α} {e : Nat} {base : Nat} {ok : Nat → Prop} {v : Value} {xs : List α} (h : IsS59 w0 W g f0 f1) (ho : d.Q e W base ok v xs) (ht : e ≠ 59) : some g ≠ v.ownBlock := by
  obtain ⟨hb, hg⟩ := h
  exact Kd.Q_ne ho hb ht
theorem IsS59.apartS {w0 W : World} {g : Nat} {f0 : Int} {f1 : Int} {α : Type} {d : Kd α} {e : Nat} {base : Nat} {ok : Nat → Prop} {v : Value} {xs : List α} (h : IsS59 w0 W g f0 f1) (ho : d.S e W base ok v xs) (ht : ∀ q, q ∈ e :: d.E → q ≠ 59) : d.S e W base (fun k => ok k ∧ k ≠ g) v xs := by
  obtain ⟨hb, hg⟩ := h
  exact Kd.S_types ho hb ht
theorem IsS59.own_neS {w0 W : World} {g : Nat} {f0 : Int} {f1 : Int} {α : Type} {d : Kd α} {e : Nat} {base : Nat} {ok : Nat → Prop} {v : Value} {xs : List α} (h : IsS59 w0 W g f0 f1) (ho : d.S e W base ok v xs) (ht : e ≠ 59) : some g ≠ v.ownBlock := by
  obtain ⟨hb, hg⟩ := h
  exact Kd.S_ne ho hb ht
theorem IsS59.lt {w0 W : World} {g : Nat} {f0 : Int} {f1 : Int} (h : IsS59 w0 W g f0 f1) : g < W.heap.size := by
  obtain ⟨hb, hg⟩ := h
  exact blk_lt hb
theorem IsS59.ge {w0 W : World} {g : Nat} {f0 : Int} {f1 : Int} (h : IsS59 w0 W g f0 f1) : w0.heap.size ≤ g := by
  obtain ⟨hb, hg⟩ := h
  exact hg
theorem IsS59.ne_blk {w0 W : World} {g : Nat} {f0 : Int} {f1 : Int} {a : Nat} {cs : Array Value} {t : TypeId} {fr : Nat × Nat} (h : IsS59 w0 W g f0 f1) (hb2 : W.heap[a]? = some (.cells cs t fr)) (ht : t ≠ 59) : g ≠ a := by
  obtain ⟨hb, hg⟩ := h
  rintro rfl
  rw [hb] at hb2
  injection hb2 with hb2
  injection hb2 with _ ht2
  exact ht ht2.symm
theorem IsS59.far {w0 W : World} {g : Nat} {f0 : Int} {f1 : Int} {p : Addr} (h : IsS59 w0 W g f0 f1) (hne : g ≠ p.block) (u : Value) : IsS59 w0 (W.setCell p u) g f0 f1 := by
  obtain ⟨hb, hg⟩ := h
  exact ⟨blk_far hb hne u, hg⟩
theorem cellS59_0 {W : World} {g : Nat} {f0 : Int} {f1 : Int} (h : W.heap[g]? = some (.cells #[.int .u64 f0, .int .u64 f1] 59 (0, 0))) : W.cell? ⟨g, 0, none⟩ = some (.int .u64 f0) := (blk_cell h 0).trans rfl
theorem IsS59.set_0 {w0 W : World} {g : Nat} {f0 : Int} {f1 : Int} (h : IsS59 w0 W g f0 f1) (x : Int) : IsS59 w0 (W.setCell ⟨g, 0, none⟩ (.int .u64 x)) g x f1 := by
  obtain ⟨hb, hg⟩ := h
  exact ⟨by simpa using blk_set hb 0 (.int .u64 x), hg⟩
theorem cellS59_1 {W : World} {g : Nat} {f0 : Int} {f1 : Int} (h : W.heap[g]? = some (.cells #[.int .u64 f0, .int .u64 f1] 59 (0, 0))) : W.cell? ⟨g, 1, none⟩ = some (.int .u64 f1) := (blk_cell h 1).trans rfl
theorem IsS59.set_1 {w0 W : World} {g : Nat} {f0 : Int} {f1 : Int} (h : IsS59 w0 W g f0 f1) (x : Int) : IsS59 w0 (W.setCell ⟨g, 1, none⟩ (.int .u64 x)) g f0 x := by
  obtain ⟨hb, hg⟩ := h
  exact ⟨by simpa using blk_set hb 1 (.int .u64 x), hg⟩
theorem IsS59.new (w0 W : World) (f0 : Int) (f1 : Int) (hB : Below w0.heap.size w0 W) : IsS59 w0 (W.alloc (.cells #[.int .u64 f0, .int .u64 f1] 59)) W.heap.size f0 f1 := ⟨by simpa using heap_alloc_new W _, hB.size⟩

/-! ### stream_New: function 20 -/
def stream_New.f (a0 : Int) : Option (Int × Int) := some (a0, 0)
set_option maxHeartbeats 8000000 in
set_option maxRecDepth 100000 in
theorem stream_New.calls (a0 : Int) (r1 : Int) (r2 : Int) (w0 w : World) (hB : Below w0.heap.size w0 w) (h : stream_New.f a0 = some (r1, r2)) :
    Calls Try.prog 20 #[.int .u64 a0] w fun e w' => ∃ g_ : Nat, e = .returned (.pointer (some ⟨g_, 0, none⟩)) ∧ IsS59 w0 w' g_ r1 r2 ∧ Below w0.heap.size w0 w' ∧ Below w.heap.size w w' := by
  have hu59 := Try.underlying59
  have HBW := Aside0.mk (Below.refl w.heap.size w)
  have HW0 := Aside0.mk hB.size
  have HB := Aside0.mk hB
  clear hB
  have H : (some (a0, 0)) = some (r1, r2) := h
  clear h
  simp only [Option.some.injEq, Prod.mk.injEq] at H
  obtain ⟨rfl, rfl⟩ := H
  go_enter Try.func20, Try.ntmps20
  go_wp2_with (first | ((with_reducible refine gate_dst (N := 5) rfl ?_); refine box_event ?hg (N := 5) ?hd (cs := #[.int .u64 a0, .int .u64 0]) (t := 59) ?hr ?_; (case hd => rfl); (case hg => rfl); (case hr => first | (go_simp; done) | (go_simp; rfl)); intro gb101 hg w2 hbox hb; have n0_ := Aside0.mk (below_step HBW.out hb); have n1_ := Aside0.mk (below_step (by repeat (first | (with_reducible first | exact HB.out | apply below_alloc | apply pw_below_drewN | apply below_drew1) | exact HB.out)) hb); have n2_ := Aside0.mk (hbox); have n3_ := Aside0.mk ((by rw [hg]; exact (below_size (by repeat (first | (with_reducible first | exact HBW.out | apply below_alloc | apply pw_below_drewN | apply below_drew1) | exact HBW.out))) : w.heap.size ≤ gb101)); have n4_ := Aside0.mk ((Nat.le_trans HW0.out (by rw [hg]; exact (below_size (by repeat (first | (with_reducible first | exact HBW.out | apply below_alloc | apply pw_below_drewN | apply below_drew1) | exact HBW.out))) : w.heap.size ≤ gb101) : w0.heap.size ≤ gb101)); clear HBW; clear HB; have HBW := n0_; have HB := n1_; have BK101 := n2_; have GW101 := n3_; have GE101 := n4_; clear n0_ n1_ n2_ n3_ n4_; clear hb hbox hg))
  go_ret
  exact ⟨_, rfl, (show IsS59 w0 _ gb101 a0 0 from ⟨by (with_reducible repeat (first | refine blk_drewN ?_ _ | refine blk_drew ?_ | refine blk_alloc ?_ _)); exact BK101.out, GE101.out⟩), by repeat (first | (with_reducible first | exact HB.out | apply below_alloc | apply pw_below_drewN | apply below_drew1 | refine below_set ?_ GE101.out) | exact HB.out), by repeat (first | (with_reducible first | exact HBW.out | apply below_alloc | apply pw_below_drewN | apply below_drew1 | refine below_set ?_ GW101.out) | exact HBW.out)⟩

/-! ### mix_Mix: function 13 -/
def mix_Mix.f (a0 : Int) : Option (Int) := some (Go.bits .xor .u64 (IntKind.u64.wrap ((Go.bits .xor .u64 (IntKind.u64.wrap ((Go.bits .xor .u64 (IntKind.u64.wrap (a0 + 11400714819323198485)) ((IntKind.u64.wrap (a0 + 11400714819323198485)) / 1073741824)) * 13787848793156543929)) ((IntKind.u64.wrap ((Go.bits .xor .u64 (IntKind.u64.wrap (a0 + 11400714819323198485)) ((IntKind.u64.wrap (a0 + 11400714819323198485)) / 1073741824)) * 13787848793156543929)) / 134217728)) * 10723151780598845931)) ((IntKind.u64.wrap ((Go.bits .xor .u64 (IntKind.u64.wrap ((Go.bits .xor .u64 (IntKind.u64.wrap (a0 + 11400714819323198485)) ((IntKind.u64.wrap (a0 + 11400714819323198485)) / 1073741824)) * 13787848793156543929)) ((IntKind.u64.wrap ((Go.bits .xor .u64 (IntKind.u64.wrap (a0 + 11400714819323198485)) ((IntKind.u64.wrap (a0 + 11400714819323198485)) / 1073741824)) * 13787848793156543929)) / 134217728)) * 10723151780598845931)) / 2147483648))
set_option maxHeartbeats 8000000 in
set_option maxRecDepth 100000 in
theorem mix_Mix.calls (a0 : Int) (r : Int) (w : World) (h : mix_Mix.f a0 = some r) :
    Calls Try.prog 13 #[.int .u64 a0] w fun e w' => e = .returned (.int .u64 r) ∧ Drawn0 w w' := by
  have H : (some (Go.bits .xor .u64 (IntKind.u64.wrap ((Go.bits .xor .u64 (IntKind.u64.wrap ((Go.bits .xor .u64 (IntKind.u64.wrap (a0 + 11400714819323198485)) ((IntKind.u64.wrap (a0 + 11400714819323198485)) / 1073741824)) * 13787848793156543929)) ((IntKind.u64.wrap ((Go.bits .xor .u64 (IntKind.u64.wrap (a0 + 11400714819323198485)) ((IntKind.u64.wrap (a0 + 11400714819323198485)) / 1073741824)) * 13787848793156543929)) / 134217728)) * 10723151780598845931)) ((IntKind.u64.wrap ((Go.bits .xor .u64 (IntKind.u64.wrap ((Go.bits .xor .u64 (IntKind.u64.wrap (a0 + 11400714819323198485)) ((IntKind.u64.wrap (a0 + 11400714819323198485)) / 1073741824)) * 13787848793156543929)) ((IntKind.u64.wrap ((Go.bits .xor .u64 (IntKind.u64.wrap (a0 + 11400714819323198485)) ((IntKind.u64.wrap (a0 + 11400714819323198485)) / 1073741824)) * 13787848793156543929)) / 134217728)) * 10723151780598845931)) / 2147483648))) = some r := h
  clear h
  obtain rfl := Option.some.inj H
  go_enter Try.func13, Try.ntmps13
  go_wp2
  all_goals (go_ret; exact ⟨by first | rfl | (simp; done) | (simp [*]; done), by repeat (first | exact Drawn0.refl _ | apply Drawn0.step)⟩)

/-! ### stream_At: function 22 -/
def stream_At.f (a0 : Int) (a1 : Int) : Option (Int) := (mix_Mix.f a1).bind fun t102 => ((mix_Mix.f (Go.bits .xor .u64 a0 t102)).bind fun t103 => (some t103))
set_option maxHeartbeats 8000000 in
set_option maxRecDepth 100000 in
theorem stream_At.calls (a0 : Int) (a1 : Int) (r : Int) (w : World) (h : stream_At.f a0 a1 = some r) :
    Calls Try.prog 22 #[.int .u64 a0, .int .u64 a1] w fun e w' => e = .returned (.int .u64 r) ∧ Drawn0 w w' := by
  have H : ((mix_Mix.f a1).bind fun t102 => ((mix_Mix.f (Go.bits .xor .u64 a0 t102)).bind fun t103 => (some t103))) = some r := h
  clear h
  replace H := Option.bind_eq_some_iff.mp H
  obtain ⟨t102, A30, H⟩ := H
  replace H : ((mix_Mix.f (Go.bits .xor .u64 a0 t102)).bind fun t103 => (some t103)) = some r := H
  have A3 := Aside0.mk A30
  clear A30
  replace H := Option.bind_eq_some_iff.mp H
  obtain ⟨t103, A40, H⟩ := H
  replace H : (some t103) = some r := H
  have A4 := Aside0.mk A40
  clear A40
  obtain rfl := Option.some.inj H
  go_enter Try.func22, Try.ntmps22
  go_wp2_with (first | ((with_reducible refine gate_callee (f := 13) rfl ?_); refine goesL_ (some 7) rfl rfl Try.func13 (by kernel_rfl) rfl #[.int .u64 a1] rfl (by (try simp only [List.map_toArray, List.map_cons, List.map_nil]); first | done | rfl | (simp only [List.length_drop, List.length_take]; rfl)) ?_; (with_reducible refine (mix_Mix.calls a1 t102 _ A3.out).mono ?_); rintro e w' ⟨rfl, ⟨nd, rfl⟩⟩; refine ⟨_, rfl, ?_⟩) | ((with_reducible refine gate_callee (f := 13) rfl ?_); refine goesL_ (some 9) rfl rfl Try.func13 (by kernel_rfl) rfl #[.int .u64 (Go.bits .xor .u64 a0 t102)] rfl (by (try simp only [List.map_toArray, List.map_cons, List.map_nil]); first | done | rfl | (simp only [List.length_drop, List.length_take]; rfl)) ?_; (with_reducible refine (mix_Mix.calls (Go.bits .xor .u64 a0 t102) t103 _ A4.out).mono ?_); rintro e w' ⟨rfl, ⟨nd, rfl⟩⟩; refine ⟨_, rfl, ?_⟩))
  all_goals (go_ret; exact ⟨by first | rfl | (simp; done) | (simp [*]; done), by repeat (first | exact Drawn0.refl _ | apply Drawn0.step)⟩)

/-! ### stream_Stream_Next: function 21 -/
def stream_Stream_Next.f (s0_0 : Int) (s0_1 : Int) : Option (Int × Int × Int) := (stream_At.f s0_0 s0_1).bind fun t104 => (some (t104, s0_0, IntKind.u64.wrap (s0_1 + 1)))
set_option maxHeartbeats 8000000 in
set_option maxRecDepth 100000 in
theorem stream_Stream_Next.calls (g : Nat) (s0_0 : Int) (s0_1 : Int) (r1 : Int) (r2 : Int) (r3 : Int) (w0 w : World) (hI : IsS59 w0 w g s0_0 s0_1) (hB : Below w0.heap.size w0 w) (h : stream_Stream_Next.f s0_0 s0_1 = some (r1, r2, r3)) :
    Calls Try.prog 21 #[.pointer (some ⟨g, 0, none⟩)] w fun e w' => e = .returned (.int .u64 r1) ∧ IsS59 w0 w' g r2 r3 ∧ Below w0.heap.size w0 w' ∧ KeepBut w w' g none := by
  have HI0 := Aside0.mk hI
  have HK := Aside0.mk (KeepBut.refl w g none)
  have HL := Aside0.mk hB.size
  clear hI
  have HW0 := Aside0.mk hB.size
  have HB := Aside0.mk hB
  clear hB
  have H : ((stream_At.f s0_0 s0_1).bind fun t104 => (some (t104, s0_0, IntKind.u64.wrap (s0_1 + 1)))) = some (r1, r2, r3) := h
  clear h
  replace H := Option.bind_eq_some_iff.mp H
  obtain ⟨t104, A20, H⟩ := H
  replace H : (some (t104, s0_0, IntKind.u64.wrap (s0_1 + 1))) = some (r1, r2, r3) := H
  have A2 := Aside0.mk A20
  clear A20
  simp only [Option.some.injEq, Prod.mk.injEq] at H
  obtain ⟨rfl, rfl, rfl⟩ := H
  obtain ⟨HGz3, hgz3⟩ := HI0.out
  have hcz3_0 := cellS59_0 HGz3
  have hcz3_1 := cellS59_1 HGz3
  have hfz3_0 := blk_frozen HGz3 0
  have hfz3_1 := blk_frozen HGz3 1
  clear HGz3 hgz3
  go_enter Try.func21, Try.ntmps21
  go_wp2_with (first | (go_at_call 22; (with_reducible refine (stream_At.calls s0_0 s0_1 t104 _ A2.out).mono ?_); rintro e w' ⟨rfl, ⟨nd, rfl⟩⟩; (try first | exact ⟨rfl, _, World.drewN_drewN _ _ _⟩ | exact ⟨rfl, _, Eq.trans (World.drewN_drewN _ _ _) (congrArg (World.drewN _) (Nat.add_assoc _ _ _))⟩)))
  repeat (go_quiet (first | (go_at_call 22; (with_reducible refine (stream_At.calls s0_0 s0_1 t104 _ A2.out).mono ?_); rintro e w' ⟨rfl, ⟨nd, rfl⟩⟩; (try first | exact ⟨rfl, _, World.drewN_drewN _ _ _⟩ | exact ⟨rfl, _, Eq.trans (World.drewN_drewN _ _ _) (congrArg (World.drewN _) (Nat.add_assoc _ _ _))⟩))); try go_wp2_with (first | (go_at_call 22; (with_reducible refine (stream_At.calls s0_0 s0_1 t104 _ A2.out).mono ?_); rintro e w' ⟨rfl, ⟨nd, rfl⟩⟩; (try first | exact ⟨rfl, _, World.drewN_drewN _ _ _⟩ | exact ⟨rfl, _, Eq.trans (World.drewN_drewN _ _ _) (congrArg (World.drewN _) (Nat.add_assoc _ _ _))⟩))))
  all_goals (go_ret; exact ⟨by first | rfl | (simp [errW_none, errW_some] <;> rfl) | (simp [*, errW_none, errW_some] <;> rfl) | (simp_all; done), by repeat (first | (with_reducible first | exact HI0.out | apply IsS59.alloc | apply IsS59.drewN | apply IsS59.drew | apply IsS59.set_0 | apply IsS59.set_1) | exact HI0.out), by repeat (first | (with_reducible first | exact HB.out | apply below_alloc | apply pw_below_drewN | apply below_drew1 | refine below_set ?_ (IsS59.ge HI0.out)) | exact HB.out), by repeat (first | (with_reducible first | exact HK.out | apply KeepBut.set_ | apply keep_drewN | apply keep_drew | apply keep_alloc) | exact HK.out)⟩)

/-! ### stream_Stream_Taken: function 23 -/
def stream_Stream_Taken.f (s0_0 : Int) (s0_1 : Int) : Option (Int × Int × Int) := some (s0_1, s0_0, s0_1)
set_option maxHeartbeats 8000000 in
set_option maxRecDepth 100000 in
theorem stream_Stream_Taken.calls (g : Nat) (s0_0 : Int) (s0_1 : Int) (r1 : Int) (r2 : Int) (r3 : Int) (w0 w : World) (hI : IsS59 w0 w g s0_0 s0_1) (hB : Below w0.heap.size w0 w) (h : stream_Stream_Taken.f s0_0 s0_1 = some (r1, r2, r3)) :
    Calls Try.prog 23 #[.pointer (some ⟨g, 0, none⟩)] w fun e w' => e = .returned (.int .u64 r1) ∧ IsS59 w0 w' g r2 r3 ∧ Below w0.heap.size w0 w' ∧ KeepBut w w' g none := by
  have HI0 := Aside0.mk hI
  have HK := Aside0.mk (KeepBut.refl w g none)
  have HL := Aside0.mk hB.size
  clear hI
  have HW0 := Aside0.mk hB.size
  have HB := Aside0.mk hB
  clear hB
  have H : (some (s0_1, s0_0, s0_1)) = some (r1, r2, r3) := h
  clear h
  simp only [Option.some.injEq, Prod.mk.injEq] at H
  obtain ⟨rfl, rfl, rfl⟩ := H
  obtain ⟨HGz2, hgz2⟩ := HI0.out
  have hcz2_0 := cellS59_0 HGz2
  have hcz2_1 := cellS59_1 HGz2
  have hfz2_0 := blk_frozen HGz2 0
  have hfz2_1 := blk_frozen HGz2 1
  clear HGz2 hgz2
  go_enter Try.func23, Try.ntmps23
  go_wp2
  all_goals (go_ret; exact ⟨by first | rfl | (simp [errW_none, errW_some] <;> rfl) | (simp [*, errW_none, errW_some] <;> rfl) | (simp_all; done), by repeat (first | (with_reducible first | exact HI0.out | apply IsS59.alloc | apply IsS59.drewN | apply IsS59.drew | apply IsS59.set_0 | apply IsS59.set_1) | exact HI0.out), by repeat (first | (with_reducible first | exact HB.out | apply below_alloc | apply pw_below_drewN | apply below_drew1 | refine below_set ?_ (IsS59.ge HI0.out)) | exact HB.out), by repeat (first | (with_reducible first | exact HK.out | apply KeepBut.set_ | apply keep_drewN | apply keep_drew | apply keep_alloc) | exact HK.out)⟩)

/-! ### mix_Fold: function 15 -/
def mix_Fold.l0 : Nat → Int → List Int → Int → Int → Option (Int)
  | 0, _, _, _, _ => none
  | k + 1, x3, x6, x7, x8 => if x8 < x7 then (if 0 ≤ x8 then (if x8 < (x6.length : Int) then ((mix_Mix.f (Go.bits .xor .u64 x3 (rd x6 x8))).bind fun t106 => (mix_Fold.l0 k t106 x6 x7 (wrap64 (x8 + 1)))) else (none)) else (none)) else (some x3)
def mix_Fold.f (k : Nat) (l0 : List Int) : Option (Int) := mix_Fold.l0 k 0 l0 (l0.length : Int) 0
theorem mix_Fold.mono_l : ∀ k, (∀ y0 y1 y2 y3, LeO (mix_Fold.l0 k y0 y1 y2 y3) (mix_Fold.l0 (k + 1) y0 y1 y2 y3))
  | 0 => fun _ _ _ _ r h => by simp [mix_Fold.l0] at h
  | k + 1 => by
    have ih0 := mix_Fold.mono_l k
    · intro y0 y1 y2 y3
      unfold mix_Fold.l0
      repeat' first
      | (with_reducible exact ih0 _ _ _ _)
      | (with_reducible exact LeO.refl _)
      | (with_reducible exact LeO.none _)
      | (with_reducible refine LeO.ite ?_ ?_)
      | (with_reducible refine LeO.bind ?_ (fun _ => ?_))
      | exact ih0 _ _ _ _
      | exact LeO.none _
      | refine LeO.ite ?_ ?_
      | refine LeO.bind ?_ (fun _ => ?_)
theorem mix_Fold.mono : ∀ a0 k, LeO (mix_Fold.f k a0) (mix_Fold.f (k + 1) a0) := by
  intro a0 k
  have ih0 := mix_Fold.mono_l k
  unfold mix_Fold.f
  repeat' first
      | (with_reducible exact ih0 _ _ _ _)
      | (with_reducible exact LeO.refl _)
      | (with_reducible exact LeO.none _)
      | (with_reducible refine LeO.ite ?_ ?_)
      | (with_reducible refine LeO.bind ?_ (fun _ => ?_))
      | exact ih0 _ _ _ _
      | exact LeO.none _
      | refine LeO.ite ?_ ?_
      | refine LeO.bind ?_ (fun _ => ?_)
set_option maxHeartbeats 8000000 in
set_option maxRecDepth 100000 in
theorem mix_Fold.calls (k : Nat) (A0 : Option Addr) (c0 : Nat) (l0 : List Int) (r : Int) (w : World) (hr0 : Kd.C (Kd.int .u64) w A0 l0.length l0) (hc0 : l0.length ≤ c0) (h : mix_Fold.f k l0 = some r) :
    Calls Try.prog 15 #[.slice A0 l0.length c0] w fun e w' => e = .returned (.int .u64 r) ∧ Drawn0 w w' := by
  have HR0 := Aside0.mk hr0
  have HC0 := Aside0.mk hc0
  clear hr0 hc0
  have H : (mix_Fold.l0 k 0 l0 (l0.length : Int) 0) = some r := h
  clear h
  have H' := Aside0.mk H
  clear H
  go_enter Try.func15, Try.ntmps15
  go_wp2
  go_loopg [3, 8] k (fun kq v3 v8 w' => ∃ (x3_1 : Int) (x8_1 : Int), v3 = .int .u64 x3_1 ∧ v8 = .int .i64 x8_1 ∧ Aside0 (mix_Fold.l0 kq x3_1 l0 (l0.length : Int) x8_1 = some r) ∧ Aside0 (kq ≤ k) ∧ Drawn0 w w')
  case atStart => exact ⟨(0), (0), (by first | rfl | (simp; done) | (simp [*]; done)), (by first | rfl | (simp; done) | (simp [*]; done)), H', ⟨Nat.le_refl _⟩, by repeat (first | exact Drawn0.refl _ | apply Drawn0.step)⟩
  case round =>
    clear H'
    try clear c1
    obtain ⟨x3_1, x8_1, rfl, rfl, HA, HK1, ⟨m1, rfl⟩⟩ := hrel
    cases gk with
    | zero => exact absurd HA.out (by simp [mix_Fold.l0])
    | succ k1 =>
      have H := HA.out
      clear HA
      simp only [mix_Fold.l0] at H
      by_cases c2 : x8_1 < (l0.length : Int)
      · rw [if_pos c2] at H
        have c2b0 : decide (x8_1 < (l0.length : Int)) = true := decide_eq_true c2
        clear c2
        by_cases c3 : 0 ≤ x8_1
        · rw [if_pos c3] at H
          have c3b0 : decide (0 ≤ x8_1) = true := decide_eq_true c3
          clear c3
          by_cases c4 : x8_1 < (l0.length : Int)
          · rw [if_pos c4] at H
            have c4b0 : decide (x8_1 < (l0.length : Int)) = true := decide_eq_true c4
            clear c4
            replace H := Option.bind_eq_some_iff.mp H
            obtain ⟨t106, A50, H⟩ := H
            replace H : (mix_Fold.l0 k1 t106 l0 (l0.length : Int) (wrap64 (x8_1 + 1))) = some r := H
            have A5 := Aside0.mk A50
            clear A50
            have H' := Aside0.mk H
            clear H
            have p105 : 0 ≤ (x8_1 : Int) := of_decide_eq_true (by first | (with_reducible assumption) | assumption)
            have q105 : x8_1 < (l0.length : Int) := of_decide_eq_true (by first | (with_reducible assumption) | assumption)
            obtain ⟨ad105, e105, hx105_0⟩ := Kd.at_int HR0.out x8_1 p105 q105
            cases e105
            replace p105 := eq_true p105
            replace q105 := eq_true q105
            go_wp2_with (first | ((with_reducible refine gate_callee (f := 13) rfl ?_); refine goesL_ (some 15) rfl rfl Try.func13 (by kernel_rfl) rfl #[.int .u64 (Go.bits .xor .u64 x3_1 (rd l0 x8_1))] rfl (by (try simp only [List.map_toArray, List.map_cons, List.map_nil]); first | done | rfl | (simp only [List.length_drop, List.length_take]; rfl)) ?_; (with_reducible refine (mix_Mix.calls (Go.bits .xor .u64 x3_1 (rd l0 x8_1)) t106 _ A5.out).mono ?_); rintro e w' ⟨rfl, ⟨nd, rfl⟩⟩; refine ⟨_, rfl, ?_⟩))
            go_roundg k1
            case measure => have := HK1.out; omega
            case rel => exact ⟨(t106), (wrap64 (x8_1 + 1)), (by first | rfl | (simp; done) | (simp [*]; done)), (by first | rfl | (simp; done) | (simp [*]; done)), H', ⟨by have := HK1.out; omega⟩, by repeat (first | exact Drawn0.refl _ | apply Drawn0.step)⟩
          · rw [if_neg c4] at H
            exact absurd H (by simp)
        · rw [if_neg c3] at H
          exact absurd H (by simp)
      · rw [if_neg c2] at H
        have c2b0 : decide (x8_1 < (l0.length : Int)) = false := decide_eq_false c2
        clear c2
        obtain rfl := Option.some.inj H
        go_wp2
        all_goals (go_ret; exact ⟨by first | rfl | (simp; done) | (simp [*]; done), by repeat (first | exact Drawn0.refl _ | apply Drawn0.step)⟩)

/-! ### stream_Key: function 25 -/
def stream_Key.f (k : Nat) (a0 : Int) (a1 : Int) (a2 : Int) (a3 : Int) : Option (Int) := (mix_Fold.f k (([a0, a1, a2, a3] : List Int))).bind fun t110 => (some t110)
theorem stream_Key.mono : ∀ a0 a1 a2 a3 k, LeO (stream_Key.f k a0 a1 a2 a3) (stream_Key.f (k + 1) a0 a1 a2 a3) := by
  intro a0 a1 a2 a3 k
  unfold stream_Key.f
  repeat' first
      | (with_reducible exact mix_Fold.mono _ _)
      | (with_reducible exact LeO.refl _)
      | (with_reducible exact LeO.none _)
      | (with_reducible refine LeO.ite ?_ ?_)
      | (with_reducible refine LeO.bind ?_ (fun _ => ?_))
      | exact mix_Fold.mono _ _
      | exact LeO.none _
      | refine LeO.ite ?_ ?_
      | refine LeO.bind ?_ (fun _ => ?_)
set_option maxHeartbeats 8000000 in
set_option maxRecDepth 100000 in
theorem stream_Key.calls (k : Nat) (a0 : Int) (a1 : Int) (a2 : Int) (a3 : Int) (r : Int) (w : World) (h : stream_Key.f k a0 a1 a2 a3 = some r) :
    Calls Try.prog 25 #[.int .u64 a0, .int .u64 a1, .int .u64 a2, .int .u64 a3] w fun e w' => e = .returned (.int .u64 r) ∧ Below w.heap.size w w' := by
  have HB := Aside0.mk (Below.refl w.heap.size w)
  have H : ((mix_Fold.f k (([a0, a1, a2, a3] : List Int))).bind fun t110 => (some t110)) = some r := h
  clear h
  obtain ⟨y107, hy107⟩ : ∃ y_ : List Int, y_ = (([a0, a1, a2, a3] : List Int)) := ⟨_, rfl⟩
  replace H : ((mix_Fold.f k y107).bind fun t110 => (some t110)) = some r := by first | (rw [hy107]; with_reducible exact H) | (have H2_ := (Option.bind_some _ _).symm.trans H; rw [hy107]; with_reducible exact H2_) | (have H2_ := (Option.bind_some _ _).symm.trans H; with_reducible exact H2_) | with_reducible exact H | (rw [hy107]; exact H) | exact H
  have Ny107 := Aside0.mk hy107
  clear hy107
  replace H := Option.bind_eq_some_iff.mp H
  obtain ⟨t110, A50, H⟩ := H
  replace H : (some t110) = some r := H
  have A5 := Aside0.mk A50
  clear A50
  obtain rfl := Option.some.inj H
  go_enter Try.func25, Try.ntmps25
  go_wp2_with (first | ((with_reducible refine gate_dst (N := 13) rfl ?_); refine Kd.R_lit (Kd.int .u64) _ 22 ?hg (N := 13) ?hd (xs := ([a0, a1, a2, a3] : List Int)) (inner := [.int .u64 a0, .int .u64 a1, .int .u64 a2, .int .u64 a3]) (ok := fun _ => True) (okp := fun _ => True) ?hr ?hp (fun _ hk => hk) trivial (Below.refl _ _) (Nat.le_refl _) (by simp) ?_; (case hd => rfl); (case hg => rfl); (case hr => first | (go_simp; done) | (go_simp; rfl)); (case hp => exact (Reps.one (show Kd.M (Kd.int .u64) _ _ _ a0 [.int .u64 a0] from rfl) (Reps.one (show Kd.M (Kd.int .u64) _ _ _ a1 [.int .u64 a1] from rfl) (Reps.one (show Kd.M (Kd.int .u64) _ _ _ a2 [.int .u64 a2] from rfl) (Reps.one (show Kd.M (Kd.int .u64) _ _ _ a3 [.int .u64 a3] from rfl) (Reps.none _ _)))))); intro v108 w6 ho7 hb hg_ hnew_; clear hg_ hnew_; (first | rw [← Ny107.out] at ho7 | (simp only [Int.reduceToNat] at ho7; rw [← Ny107.out] at ho7)); have n0_ := Aside0.mk (Kd.R_lower ho7 (below_size (by repeat (first | (with_reducible first | exact HB.out | apply below_alloc | apply pw_below_drewN | apply below_drew1) | exact HB.out)))); have n1_ := Aside0.mk (below_step (by repeat (first | (with_reducible first | exact HB.out | apply below_alloc | apply pw_below_drewN | apply below_drew1) | exact HB.out)) hb); clear HB; have HO109 := n0_; have HB := n1_; clear n0_ n1_; clear hb ho7; obtain ⟨Ao8, co8, eo8⟩ := Kd.R_slice HO109.out; subst eo8) | ((with_reducible refine gate_callee (f := 15) rfl ?_); refine goesL_ (some 14) rfl rfl Try.func15 (by kernel_rfl) rfl #[.slice Ao8 y107.length co8] rfl (by (try simp only [List.map_toArray, List.map_cons, List.map_nil]); first | done | rfl | (simp only [List.length_drop, List.length_take]; rfl)) ?_; (with_reducible refine (mix_Fold.calls k _ _ y107 t110 _ ?side1 ?side2 A5.out).mono ?_); (case side1 => repeat (first | exact (Kd.R_reads' HO109.out).2.2 | (with_reducible refine Kd.C_alloc ?_ _) | (with_reducible refine Kd.C_drewN ?_ _) | (with_reducible refine Kd.C_drew ?_))); (case side2 => exact (Kd.R_reads' HO109.out).2.1); rintro e w' ⟨rfl, ⟨nd, rfl⟩⟩; refine ⟨_, rfl, ?_⟩))
  all_goals (go_ret; exact ⟨by first | rfl | (simp [errW_none, errW_some] <;> rfl) | (simp [*, errW_none, errW_some] <;> rfl) | (simp_all; done), by repeat (first | (with_reducible first | exact HB.out | apply below_alloc | apply pw_below_drewN | apply below_drew1) | exact HB.out)⟩)

/-! ### hornbeamref01_times: function 29 -/
def hornbeamref01_times.l0 : Nat → Int → Int → Int → Option (Int)
  | 0, _, _, _ => none
  | k + 1, x0, x1, x5 => if x1 > 0 then (if (Int.tmod x1 2) = 1 then (hornbeamref01_times.l0 k (IntKind.u64.wrap (x0 + x0)) (IntKind.u64.wrap (Int.tdiv x1 2)) (IntKind.u64.wrap (x5 + x0))) else (hornbeamref01_times.l0 k (IntKind.u64.wrap (x0 + x0)) (IntKind.u64.wrap (Int.tdiv x1 2)) x5)) else (some x5)
def hornbeamref01_times.f (k : Nat) (a0 : Int) (a1 : Int) : Option (Int) := hornbeamref01_times.l0 k a0 a1 0
theorem hornbeamref01_times.mono_l : ∀ k, (∀ y0 y1 y2, LeO (hornbeamref01_times.l0 k y0 y1 y2) (hornbeamref01_times.l0 (k + 1) y0 y1 y2))
  | 0 => fun _ _ _ r h => by simp [hornbeamref01_times.l0] at h
  | k + 1 => by
    have ih0 := hornbeamref01_times.mono_l k
    · intro y0 y1 y2
      unfold hornbeamref01_times.l0
      repeat' first
      | (with_reducible exact ih0 _ _ _)
      | (with_reducible exact LeO.refl _)
      | (with_reducible exact LeO.none _)
      | (with_reducible refine LeO.ite ?_ ?_)
      | (with_reducible refine LeO.bind ?_ (fun _ => ?_))
      | exact ih0 _ _ _
      | exact LeO.none _
      | refine LeO.ite ?_ ?_
      | refine LeO.bind ?_ (fun _ => ?_)
theorem hornbeamref01_times.mono : ∀ a0 a1 k, LeO (hornbeamref01_times.f k a0 a1) (hornbeamref01_times.f (k + 1) a0 a1) := by
  intro a0 a1 k
  have ih0 := hornbeamref01_times.mono_l k
  unfold hornbeamref01_times.f
  repeat' first
      | (with_reducible exact ih0 _ _ _)
      | (with_reducible exact LeO.refl _)
      | (with_reducible exact LeO.none _)
      | (with_reducible refine LeO.ite ?_ ?_)
      | (with_reducible refine LeO.bind ?_ (fun _ => ?_))
      | exact ih0 _ _ _
      | exact LeO.none _
      | refine LeO.ite ?_ ?_
      | refine LeO.bind ?_ (fun _ => ?_)
set_option maxHeartbeats 8000000 in
set_option maxRecDepth 100000 in
theorem hornbeamref01_times.calls (k : Nat) (a0 : Int) (a1 : Int) (r : Int) (w : World) (h : hornbeamref01_times.f k a0 a1 = some r) :
    Calls Try.prog 29 #[.int .u64 a0, .int .u64 a1] w fun e w' => e = .returned (.int .u64 r) ∧ Drawn0 w w' := by
  have H : (hornbeamref01_times.l0 k a0 a1 0) = some r := h
  clear h
  have H' := Aside0.mk H
  clear H
  go_enter Try.func29, Try.ntmps29
  go_wp2
  go_loopg [0, 1, 5] k (fun kq v0 v1 v5 w' => ∃ (x0_1 : Int) (x1_1 : Int) (x5_1 : Int), v0 = .int .u64 x0_1 ∧ v1 = .int .u64 x1_1 ∧ v5 = .int .u64 x5_1 ∧ Aside0 (hornbeamref01_times.l0 kq x0_1 x1_1 x5_1 = some r) ∧ Aside0 (kq ≤ k) ∧ Drawn0 w w')
  case atStart => exact ⟨(a0), (a1), (0), (by first | rfl | (simp; done) | (simp [*]; done)), (by first | rfl | (simp; done) | (simp [*]; done)), (by first | rfl | (simp; done) | (simp [*]; done)), H', ⟨Nat.le_refl _⟩, by repeat (first | exact Drawn0.refl _ | apply Drawn0.step)⟩
  case round =>
    clear H'
    try clear c2
    try clear p2
    obtain ⟨x0_1, x1_1, x5_1, rfl, rfl, rfl, HA, HK1, ⟨m1, rfl⟩⟩ := hrel
    cases gk with
    | zero => exact absurd HA.out (by simp [hornbeamref01_times.l0])
    | succ k1 =>
      have H := HA.out
      clear HA
      simp only [hornbeamref01_times.l0] at H
      by_cases c3 : x1_1 > 0
      · rw [if_pos c3] at H
        have c3b0 : decide (0 < x1_1) = true := decide_eq_true c3
        clear c3
        by_cases c4 : (Int.tmod x1_1 2) = 1
        · rw [if_pos c4] at H
          have c4b0 : ((Int.tmod x1_1 2) == 1) = true := beq_iff_eq.mpr c4
          have c4b1 : ((Int.tmod x1_1 2) != 1) = false := bne_eq_false_iff_eq.mpr c4
          clear c4
          have H' := Aside0.mk H
          clear H
          go_wp2
          go_roundg k1
          case measure => have := HK1.out; omega
          case rel => exact ⟨(IntKind.u64.wrap (x0_1 + x0_1)), (IntKind.u64.wrap (Int.tdiv x1_1 2)), (IntKind.u64.wrap (x5_1 + x0_1)), (by first | rfl | (simp; done) | (simp [*]; done)), (by first | rfl | (simp; done) | (simp [*]; done)), (by first | rfl | (simp; done) | (simp [*]; done)), H', ⟨by have := HK1.out; omega⟩, by repeat (first | exact Drawn0.refl _ | apply Drawn0.step)⟩
        · rw [if_neg c4] at H
          have c4b0 : ((Int.tmod x1_1 2) == 1) = false := beq_eq_false_iff_ne.mpr c4
          have c4b1 : ((Int.tmod x1_1 2) != 1) = true := bne_iff_ne.mpr c4
          have H' := Aside0.mk H
          clear H
          go_wp2
          go_roundg k1
          case measure => have := HK1.out; omega
          case rel => exact ⟨(IntKind.u64.wrap (x0_1 + x0_1)), (IntKind.u64.wrap (Int.tdiv x1_1 2)), (x5_1), (by first | rfl | (simp; done) | (simp [*]; done)), (by first | rfl | (simp; done) | (simp [*]; done)), (by first | rfl | (simp; done) | (simp [*]; done)), H', ⟨by have := HK1.out; omega⟩, by repeat (first | exact Drawn0.refl _ | apply Drawn0.step)⟩
      · rw [if_neg c3] at H
        have c3b0 : decide (0 < x1_1) = false := decide_eq_false c3
        clear c3
        obtain rfl := Option.some.inj H
        go_wp2
        all_goals (go_ret; exact ⟨by first | rfl | (simp; done) | (simp [*]; done), by repeat (first | exact Drawn0.refl _ | apply Drawn0.step)⟩)

/-! ### hornbeamref01_half: function 30 -/
def hornbeamref01_half.l0 : Nat → Int → Int → Int → Option (Int)
  | 0, _, _, _ => none
  | k + 1, x0, x1, x5 => if x5 < x1 then (hornbeamref01_half.l0 k (IntKind.u64.wrap (Int.tdiv x0 2)) x1 (wrap64 (x5 + 1))) else (some x0)
def hornbeamref01_half.f (k : Nat) (a0 : Int) (a1 : Int) : Option (Int) := hornbeamref01_half.l0 k a0 a1 0
theorem hornbeamref01_half.mono_l : ∀ k, (∀ y0 y1 y2, LeO (hornbeamref01_half.l0 k y0 y1 y2) (hornbeamref01_half.l0 (k + 1) y0 y1 y2))
  | 0 => fun _ _ _ r h => by simp [hornbeamref01_half.l0] at h
  | k + 1 => by
    have ih0 := hornbeamref01_half.mono_l k
    · intro y0 y1 y2
      unfold hornbeamref01_half.l0
      repeat' first
      | (with_reducible exact ih0 _ _ _)
      | (with_reducible exact LeO.refl _)
      | (with_reducible exact LeO.none _)
      | (with_reducible refine LeO.ite ?_ ?_)
      | (with_reducible refine LeO.bind ?_ (fun _ => ?_))
      | exact ih0 _ _ _
      | exact LeO.none _
      | refine LeO.ite ?_ ?_
      | refine LeO.bind ?_ (fun _ => ?_)
theorem hornbeamref01_half.mono : ∀ a0 a1 k, LeO (hornbeamref01_half.f k a0 a1) (hornbeamref01_half.f (k + 1) a0 a1) := by
  intro a0 a1 k
  have ih0 := hornbeamref01_half.mono_l k
  unfold hornbeamref01_half.f
  repeat' first
      | (with_reducible exact ih0 _ _ _)
      | (with_reducible exact LeO.refl _)
      | (with_reducible exact LeO.none _)
      | (with_reducible refine LeO.ite ?_ ?_)
      | (with_reducible refine LeO.bind ?_ (fun _ => ?_))
      | exact ih0 _ _ _
      | exact LeO.none _
      | refine LeO.ite ?_ ?_
      | refine LeO.bind ?_ (fun _ => ?_)
set_option maxHeartbeats 8000000 in
set_option maxRecDepth 100000 in
theorem hornbeamref01_half.calls (k : Nat) (a0 : Int) (a1 : Int) (r : Int) (w : World) (h : hornbeamref01_half.f k a0 a1 = some r) :
    Calls Try.prog 30 #[.int .u64 a0, .int .i64 a1] w fun e w' => e = .returned (.int .u64 r) ∧ Drawn0 w w' := by
  have H : (hornbeamref01_half.l0 k a0 a1 0) = some r := h
  clear h
  have H' := Aside0.mk H
  clear H
  go_enter Try.func30, Try.ntmps30
  go_wp2
  go_loopg [0, 5] k (fun kq v0 v5 w' => ∃ (x0_1 : Int) (x5_1 : Int), v0 = .int .u64 x0_1 ∧ v5 = .int .i64 x5_1 ∧ Aside0 (hornbeamref01_half.l0 kq x0_1 a1 x5_1 = some r) ∧ Aside0 (kq ≤ k) ∧ Drawn0 w w')
  case atStart => exact ⟨(a0), (0), (by first | rfl | (simp; done) | (simp [*]; done)), (by first | rfl | (simp; done) | (simp [*]; done)), H', ⟨Nat.le_refl _⟩, by repeat (first | exact Drawn0.refl _ | apply Drawn0.step)⟩
  case round =>
    clear H'
    try clear p2
    obtain ⟨x0_1, x5_1, rfl, rfl, HA, HK1, ⟨m1, rfl⟩⟩ := hrel
    cases gk with
    | zero => exact absurd HA.out (by simp [hornbeamref01_half.l0])
    | succ k1 =>
      have H := HA.out
      clear HA
      simp only [hornbeamref01_half.l0] at H
      by_cases c3 : x5_1 < a1
      · rw [if_pos c3] at H
        have c3b0 : decide (x5_1 < a1) = true := decide_eq_true c3
        clear c3
        have H' := Aside0.mk H
        clear H
        go_wp2
        go_roundg k1
        case measure => have := HK1.out; omega
        case rel => exact ⟨(IntKind.u64.wrap (Int.tdiv x0_1 2)), (wrap64 (x5_1 + 1)), (by first | rfl | (simp; done) | (simp [*]; done)), (by first | rfl | (simp; done) | (simp [*]; done)), H', ⟨by have := HK1.out; omega⟩, by repeat (first | exact Drawn0.refl _ | apply Drawn0.step)⟩
      · rw [if_neg c3] at H
        have c3b0 : decide (x5_1 < a1) = false := decide_eq_false c3
        clear c3
        obtain rfl := Option.some.inj H
        go_wp2
        all_goals (go_ret; exact ⟨by first | rfl | (simp; done) | (simp [*]; done), by repeat (first | exact Drawn0.refl _ | apply Drawn0.step)⟩)

/-! ### hornbeamref01_Mix: function 14 -/
def hornbeamref01_Mix.f (k : Nat) (a0 : Int) : Option (Int) := (hornbeamref01_half.f k (IntKind.u64.wrap (a0 + 11400714819323198485)) 30).bind fun t111 => ((hornbeamref01_times.f k (Go.bits .xor .u64 (IntKind.u64.wrap (a0 + 11400714819323198485)) t111) 13787848793156543929).bind fun t112 => ((hornbeamref01_half.f k t112 27).bind fun t113 => ((hornbeamref01_times.f k (Go.bits .xor .u64 t112 t113) 10723151780598845931).bind fun t114 => ((hornbeamref01_half.f k t114 31).bind fun t115 => (some (Go.bits .xor .u64 t114 t115))))))
theorem hornbeamref01_Mix.mono : ∀ a0 k, LeO (hornbeamref01_Mix.f k a0) (hornbeamref01_Mix.f (k + 1) a0) := by
  intro a0 k
  unfold hornbeamref01_Mix.f
  repeat' first
      | (with_reducible exact hornbeamref01_half.mono _ _ _)
      | (with_reducible exact hornbeamref01_times.mono _ _ _)
      | (with_reducible exact LeO.refl _)
      | (with_reducible exact LeO.none _)
      | (with_reducible refine LeO.ite ?_ ?_)
      | (with_reducible refine LeO.bind ?_ (fun _ => ?_))
      | exact hornbeamref01_half.mono _ _ _
      | exact hornbeamref01_times.mono _ _ _
      | exact LeO.none _
      | refine LeO.ite ?_ ?_
      | refine LeO.bind ?_ (fun _ => ?_)
set_option maxHeartbeats 8000000 in
set_option maxRecDepth 100000 in
theorem hornbeamref01_Mix.calls (k : Nat) (a0 : Int) (r : Int) (w : World) (h : hornbeamref01_Mix.f k a0 = some r) :
    Calls Try.prog 14 #[.int .u64 a0] w fun e w' => e = .returned (.int .u64 r) ∧ Drawn0 w w' := by
  have H : ((hornbeamref01_half.f k (IntKind.u64.wrap (a0 + 11400714819323198485)) 30).bind fun t111 => ((hornbeamref01_times.f k (Go.bits .xor .u64 (IntKind.u64.wrap (a0 + 11400714819323198485)) t111) 13787848793156543929).bind fun t112 => ((hornbeamref01_half.f k t112 27).bind fun t113 => ((hornbeamref01_times.f k (Go.bits .xor .u64 t112 t113) 10723151780598845931).bind fun t114 => ((hornbeamref01_half.f k t114 31).bind fun t115 => (some (Go.bits .xor .u64 t114 t115))))))) = some r := h
  clear h
  replace H := Option.bind_eq_some_iff.mp H
  obtain ⟨t111, A20, H⟩ := H
  replace H : ((hornbeamref01_times.f k (Go.bits .xor .u64 (IntKind.u64.wrap (a0 + 11400714819323198485)) t111) 13787848793156543929).bind fun t112 => ((hornbeamref01_half.f k t112 27).bind fun t113 => ((hornbeamref01_times.f k (Go.bits .xor .u64 t112 t113) 10723151780598845931).bind fun t114 => ((hornbeamref01_half.f k t114 31).bind fun t115 => (some (Go.bits .xor .u64 t114 t115)))))) = some r := H
  have A2 := Aside0.mk A20
  clear A20
  replace H := Option.bind_eq_some_iff.mp H
  obtain ⟨t112, A30, H⟩ := H
  replace H : ((hornbeamref01_half.f k t112 27).bind fun t113 => ((hornbeamref01_times.f k (Go.bits .xor .u64 t112 t113) 10723151780598845931).bind fun t114 => ((hornbeamref01_half.f k t114 31).bind fun t115 => (some (Go.bits .xor .u64 t114 t115))))) = some r := H
  have A3 := Aside0.mk A30
  clear A30
  replace H := Option.bind_eq_some_iff.mp H
  obtain ⟨t113, A40, H⟩ := H
  replace H : ((hornbeamref01_times.f k (Go.bits .xor .u64 t112 t113) 10723151780598845931).bind fun t114 => ((hornbeamref01_half.f k t114 31).bind fun t115 => (some (Go.bits .xor .u64 t114 t115)))) = some r := H
  have A4 := Aside0.mk A40
  clear A40
  replace H := Option.bind_eq_some_iff.mp H
  obtain ⟨t114, A50, H⟩ := H
  replace H : ((hornbeamref01_half.f k t114 31).bind fun t115 => (some (Go.bits .xor .u64 t114 t115))) = some r := H
  have A5 := Aside0.mk A50
  clear A50
  replace H := Option.bind_eq_some_iff.mp H
  obtain ⟨t115, A60, H⟩ := H
  replace H : (some (Go.bits .xor .u64 t114 t115)) = some r := H
  have A6 := Aside0.mk A60
  clear A60
  obtain rfl := Option.some.inj H
  go_enter Try.func14, Try.ntmps14
  go_wp2_with (first | ((with_reducible refine gate_callee (f := 30) rfl ?_); refine goesL_ (some 8) rfl rfl Try.func30 (by kernel_rfl) rfl #[.int .u64 (IntKind.u64.wrap (a0 + 11400714819323198485)), .int .i64 30] rfl (by (try simp only [List.map_toArray, List.map_cons, List.map_nil]); first | done | rfl | (simp only [List.length_drop, List.length_take]; rfl)) ?_; (with_reducible refine (hornbeamref01_half.calls k (IntKind.u64.wrap (a0 + 11400714819323198485)) 30 t111 _ A2.out).mono ?_); rintro e w' ⟨rfl, ⟨nd, rfl⟩⟩; refine ⟨_, rfl, ?_⟩) | ((with_reducible refine gate_callee (f := 29) rfl ?_); refine goesL_ (some 10) rfl rfl Try.func29 (by kernel_rfl) rfl #[.int .u64 (Go.bits .xor .u64 (IntKind.u64.wrap (a0 + 11400714819323198485)) t111), .int .u64 13787848793156543929] rfl (by (try simp only [List.map_toArray, List.map_cons, List.map_nil]); first | done | rfl | (simp only [List.length_drop, List.length_take]; rfl)) ?_; (with_reducible refine (hornbeamref01_times.calls k (Go.bits .xor .u64 (IntKind.u64.wrap (a0 + 11400714819323198485)) t111) 13787848793156543929 t112 _ A3.out).mono ?_); rintro e w' ⟨rfl, ⟨nd, rfl⟩⟩; refine ⟨_, rfl, ?_⟩) | ((with_reducible refine gate_callee (f := 30) rfl ?_); refine goesL_ (some 13) rfl rfl Try.func30 (by kernel_rfl) rfl #[.int .u64 t112, .int .i64 27] rfl (by (try simp only [List.map_toArray, List.map_cons, List.map_nil]); first | done | rfl | (simp only [List.length_drop, List.length_take]; rfl)) ?_; (with_reducible refine (hornbeamref01_half.calls k t112 27 t113 _ A4.out).mono ?_); rintro e w' ⟨rfl, ⟨nd, rfl⟩⟩; refine ⟨_, rfl, ?_⟩) | ((with_reducible refine gate_callee (f := 29) rfl ?_); refine goesL_ (some 15) rfl rfl Try.func29 (by kernel_rfl) rfl #[.int .u64 (Go.bits .xor .u64 t112 t113), .int .u64 10723151780598845931] rfl (by (try simp only [List.map_toArray, List.map_cons, List.map_nil]); first | done | rfl | (simp only [List.length_drop, List.length_take]; rfl)) ?_; (with_reducible refine (hornbeamref01_times.calls k (Go.bits .xor .u64 t112 t113) 10723151780598845931 t114 _ A5.out).mono ?_); rintro e w' ⟨rfl, ⟨nd, rfl⟩⟩; refine ⟨_, rfl, ?_⟩) | ((with_reducible refine gate_callee (f := 30) rfl ?_); refine goesL_ (some 18) rfl rfl Try.func30 (by kernel_rfl) rfl #[.int .u64 t114, .int .i64 31] rfl (by (try simp only [List.map_toArray, List.map_cons, List.map_nil]); first | done | rfl | (simp only [List.length_drop, List.length_take]; rfl)) ?_; (with_reducible refine (hornbeamref01_half.calls k t114 31 t115 _ A6.out).mono ?_); rintro e w' ⟨rfl, ⟨nd, rfl⟩⟩; refine ⟨_, rfl, ?_⟩))
  all_goals (go_ret; exact ⟨by first | rfl | (simp; done) | (simp [*]; done), by repeat (first | exact Drawn0.refl _ | apply Drawn0.step)⟩)

/-! ### hornbeamref01_Fold: function 16 -/
def hornbeamref01_Fold.l0 : Nat → List Int → Int → Int → Option (Int)
  | 0, _, _, _ => none
  | k + 1, x0, x3, x4 => if x4 < (x0.length : Int) then (if 0 ≤ x4 then ((hornbeamref01_Mix.f k (Go.bits .xor .u64 x3 (rd x0 x4))).bind fun t117 => (hornbeamref01_Fold.l0 k x0 t117 (wrap64 (x4 + 1)))) else (none)) else (some x3)
def hornbeamref01_Fold.f (k : Nat) (l0 : List Int) : Option (Int) := hornbeamref01_Fold.l0 k l0 0 0
theorem hornbeamref01_Fold.mono_l : ∀ k, (∀ y0 y1 y2, LeO (hornbeamref01_Fold.l0 k y0 y1 y2) (hornbeamref01_Fold.l0 (k + 1) y0 y1 y2))
  | 0 => fun _ _ _ r h => by simp [hornbeamref01_Fold.l0] at h
  | k + 1 => by
    have ih0 := hornbeamref01_Fold.mono_l k
    · intro y0 y1 y2
      unfold hornbeamref01_Fold.l0
      repeat' first
      | (with_reducible exact ih0 _ _ _)
      | (with_reducible exact hornbeamref01_Mix.mono _ _)
      | (with_reducible exact LeO.refl _)
      | (with_reducible exact LeO.none _)
      | (with_reducible refine LeO.ite ?_ ?_)
      | (with_reducible refine LeO.bind ?_ (fun _ => ?_))
      | exact ih0 _ _ _
      | exact hornbeamref01_Mix.mono _ _
      | exact LeO.none _
      | refine LeO.ite ?_ ?_
      | refine LeO.bind ?_ (fun _ => ?_)
theorem hornbeamref01_Fold.mono : ∀ a0 k, LeO (hornbeamref01_Fold.f k a0) (hornbeamref01_Fold.f (k + 1) a0) := by
  intro a0 k
  have ih0 := hornbeamref01_Fold.mono_l k
  unfold hornbeamref01_Fold.f
  repeat' first
      | (with_reducible exact ih0 _ _ _)
      | (with_reducible exact hornbeamref01_Mix.mono _ _)
      | (with_reducible exact LeO.refl _)
      | (with_reducible exact LeO.none _)
      | (with_reducible refine LeO.ite ?_ ?_)
      | (with_reducible refine LeO.bind ?_ (fun _ => ?_))
      | exact ih0 _ _ _
      | exact hornbeamref01_Mix.mono _ _
      | exact LeO.none _
      | refine LeO.ite ?_ ?_
      | refine LeO.bind ?_ (fun _ => ?_)
set_option maxHeartbeats 8000000 in
set_option maxRecDepth 100000 in
theorem hornbeamref01_Fold.calls (k : Nat) (A0 : Option Addr) (c0 : Nat) (l0 : List Int) (r : Int) (w : World) (hr0 : Kd.C (Kd.int .u64) w A0 l0.length l0) (hc0 : l0.length ≤ c0) (h : hornbeamref01_Fold.f k l0 = some r) :
    Calls Try.prog 16 #[.slice A0 l0.length c0] w fun e w' => e = .returned (.int .u64 r) ∧ Drawn0 w w' := by
  have HR0 := Aside0.mk hr0
  have HC0 := Aside0.mk hc0
  clear hr0 hc0
  have H : (hornbeamref01_Fold.l0 k l0 0 0) = some r := h
  clear h
  have H' := Aside0.mk H
  clear H
  go_enter Try.func16, Try.ntmps16
  go_wp2
  go_loopg [3, 4] k (fun kq v3 v4 w' => ∃ (x3_1 : Int) (x4_1 : Int), v3 = .int .u64 x3_1 ∧ v4 = .int .i64 x4_1 ∧ Aside0 (hornbeamref01_Fold.l0 kq l0 x3_1 x4_1 = some r) ∧ Aside0 (kq ≤ k) ∧ Drawn0 w w')
  case atStart => exact ⟨(0), (0), (by first | rfl | (simp; done) | (simp [*]; done)), (by first | rfl | (simp; done) | (simp [*]; done)), H', ⟨Nat.le_refl _⟩, by repeat (first | exact Drawn0.refl _ | apply Drawn0.step)⟩
  case round =>
    clear H'
    try clear c1
    obtain ⟨x3_1, x4_1, rfl, rfl, HA, HK1, ⟨m1, rfl⟩⟩ := hrel
    cases gk with
    | zero => exact absurd HA.out (by simp [hornbeamref01_Fold.l0])
    | succ k1 =>
      have H := HA.out
      clear HA
      simp only [hornbeamref01_Fold.l0] at H
      by_cases c2 : x4_1 < (l0.length : Int)
      · rw [if_pos c2] at H
        have c2b0 : decide (x4_1 < (l0.length : Int)) = true := decide_eq_true c2
        clear c2
        by_cases c3 : 0 ≤ x4_1
        · rw [if_pos c3] at H
          have c3b0 : decide (0 ≤ x4_1) = true := decide_eq_true c3
          clear c3
          replace H := Option.bind_eq_some_iff.mp H
          obtain ⟨t117, A40, H⟩ := H
          replace H : (hornbeamref01_Fold.l0 k1 l0 t117 (wrap64 (x4_1 + 1))) = some r := H
          have A4 := Aside0.mk A40
          clear A40
          have H' := Aside0.mk H
          clear H
          have p116 : 0 ≤ (x4_1 : Int) := of_decide_eq_true (by first | (with_reducible assumption) | assumption)
          have q116 : x4_1 < (l0.length : Int) := of_decide_eq_true (by first | (with_reducible assumption) | assumption)
          obtain ⟨ad116, e116, hx116_0⟩ := Kd.at_int HR0.out x4_1 p116 q116
          cases e116
          replace p116 := eq_true p116
          replace q116 := eq_true q116
          go_wp2_with (first | ((with_reducible refine gate_callee (f := 14) rfl ?_); refine goesL_ (some 17) rfl rfl Try.func14 (by kernel_rfl) rfl #[.int .u64 (Go.bits .xor .u64 x3_1 (rd l0 x4_1))] rfl (by (try simp only [List.map_toArray, List.map_cons, List.map_nil]); first | done | rfl | (simp only [List.length_drop, List.length_take]; rfl)) ?_; (with_reducible refine (hornbeamref01_Mix.calls k1 (Go.bits .xor .u64 x3_1 (rd l0 x4_1)) t117 _ A4.out).mono ?_); rintro e w' ⟨rfl, ⟨nd, rfl⟩⟩; refine ⟨_, rfl, ?_⟩))
          go_roundg k1
          case measure => have := HK1.out; omega
          case rel => exact ⟨(t117), (wrap64 (x4_1 + 1)), (by first | rfl | (simp; done) | (simp [*]; done)), (by first | rfl | (simp; done) | (simp [*]; done)), H', ⟨by have := HK1.out; omega⟩, by repeat (first | exact Drawn0.refl _ | apply Drawn0.step)⟩
        · rw [if_neg c3] at H
          exact absurd H (by simp)
      · rw [if_neg c2] at H
        have c2b0 : decide (x4_1 < (l0.length : Int)) = false := decide_eq_false c2
        clear c2
        obtain rfl := Option.some.inj H
        go_wp2
        all_goals (go_ret; exact ⟨by first | rfl | (simp; done) | (simp [*]; done), by repeat (first | exact Drawn0.refl _ | apply Drawn0.step)⟩)

/-! ### hornbeamref02_Key: function 26 -/
def hornbeamref02_Key.f (k : Nat) (a0 : Int) (a1 : Int) (a2 : Int) (a3 : Int) : Option (Int) := (hornbeamref01_Fold.f k (([a0, a1, a2, a3] : List Int))).bind fun t121 => (some t121)
theorem hornbeamref02_Key.mono : ∀ a0 a1 a2 a3 k, LeO (hornbeamref02_Key.f k a0 a1 a2 a3) (hornbeamref02_Key.f (k + 1) a0 a1 a2 a3) := by
  intro a0 a1 a2 a3 k
  unfold hornbeamref02_Key.f
  repeat' first
      | (with_reducible exact hornbeamref01_Fold.mono _ _)
      | (with_reducible exact LeO.refl _)
      | (with_reducible exact LeO.none _)
      | (with_reducible refine LeO.ite ?_ ?_)
      | (with_reducible refine LeO.bind ?_ (fun _ => ?_))
      | exact hornbeamref01_Fold.mono _ _
      | exact LeO.none _
      | refine LeO.ite ?_ ?_
      | refine LeO.bind ?_ (fun _ => ?_)
set_option maxHeartbeats 8000000 in
set_option maxRecDepth 100000 in
theorem hornbeamref02_Key.calls (k : Nat) (a0 : Int) (a1 : Int) (a2 : Int) (a3 : Int) (r : Int) (w : World) (h : hornbeamref02_Key.f k a0 a1 a2 a3 = some r) :
    Calls Try.prog 26 #[.int .u64 a0, .int .u64 a1, .int .u64 a2, .int .u64 a3] w fun e w' => e = .returned (.int .u64 r) ∧ Below w.heap.size w w' := by
  have HB := Aside0.mk (Below.refl w.heap.size w)
  have H : ((hornbeamref01_Fold.f k (([a0, a1, a2, a3] : List Int))).bind fun t121 => (some t121)) = some r := h
  clear h
  obtain ⟨y118, hy118⟩ : ∃ y_ : List Int, y_ = (([a0, a1, a2, a3] : List Int)) := ⟨_, rfl⟩
  replace H : ((hornbeamref01_Fold.f k y118).bind fun t121 => (some t121)) = some r := by first | (rw [hy118]; with_reducible exact H) | (have H2_ := (Option.bind_some _ _).symm.trans H; rw [hy118]; with_reducible exact H2_) | (have H2_ := (Option.bind_some _ _).symm.trans H; with_reducible exact H2_) | with_reducible exact H | (rw [hy118]; exact H) | exact H
  have Ny118 := Aside0.mk hy118
  clear hy118
  replace H := Option.bind_eq_some_iff.mp H
  obtain ⟨t121, A50, H⟩ := H
  replace H : (some t121) = some r := H
  have A5 := Aside0.mk A50
  clear A50
  obtain rfl := Option.some.inj H
  go_enter Try.func26, Try.ntmps26
  go_wp2_with (first | ((with_reducible refine gate_dst (N := 13) rfl ?_); refine Kd.R_lit (Kd.int .u64) _ 22 ?hg (N := 13) ?hd (xs := ([a0, a1, a2, a3] : List Int)) (inner := [.int .u64 a0, .int .u64 a1, .int .u64 a2, .int .u64 a3]) (ok := fun _ => True) (okp := fun _ => True) ?hr ?hp (fun _ hk => hk) trivial (Below.refl _ _) (Nat.le_refl _) (by simp) ?_; (case hd => rfl); (case hg => rfl); (case hr => first | (go_simp; done) | (go_simp; rfl)); (case hp => exact (Reps.one (show Kd.M (Kd.int .u64) _ _ _ a0 [.int .u64 a0] from rfl) (Reps.one (show Kd.M (Kd.int .u64) _ _ _ a1 [.int .u64 a1] from rfl) (Reps.one (show Kd.M (Kd.int .u64) _ _ _ a2 [.int .u64 a2] from rfl) (Reps.one (show Kd.M (Kd.int .u64) _ _ _ a3 [.int .u64 a3] from rfl) (Reps.none _ _)))))); intro v119 w6 ho7 hb hg_ hnew_; clear hg_ hnew_; (first | rw [← Ny118.out] at ho7 | (simp only [Int.reduceToNat] at ho7; rw [← Ny118.out] at ho7)); have n0_ := Aside0.mk (Kd.R_lower ho7 (below_size (by repeat (first | (with_reducible first | exact HB.out | apply below_alloc | apply pw_below_drewN | apply below_drew1) | exact HB.out)))); have n1_ := Aside0.mk (below_step (by repeat (first | (with_reducible first | exact HB.out | apply below_alloc | apply pw_below_drewN | apply below_drew1) | exact HB.out)) hb); clear HB; have HO120 := n0_; have HB := n1_; clear n0_ n1_; clear hb ho7; obtain ⟨Ao8, co8, eo8⟩ := Kd.R_slice HO120.out; subst eo8) | ((with_reducible refine gate_callee (f := 16) rfl ?_); refine goesL_ (some 14) rfl rfl Try.func16 (by kernel_rfl) rfl #[.slice Ao8 y118.length co8] rfl (by (try simp only [List.map_toArray, List.map_cons, List.map_nil]); first | done | rfl | (simp only [List.length_drop, List.length_take]; rfl)) ?_; (with_reducible refine (hornbeamref01_Fold.calls k _ _ y118 t121 _ ?side1 ?side2 A5.out).mono ?_); (case side1 => repeat (first | exact (Kd.R_reads' HO120.out).2.2 | (with_reducible refine Kd.C_alloc ?_ _) | (with_reducible refine Kd.C_drewN ?_ _) | (with_reducible refine Kd.C_drew ?_))); (case side2 => exact (Kd.R_reads' HO120.out).2.1); rintro e w' ⟨rfl, ⟨nd, rfl⟩⟩; refine ⟨_, rfl, ?_⟩))
  all_goals (go_ret; exact ⟨by first | rfl | (simp [errW_none, errW_some] <;> rfl) | (simp [*, errW_none, errW_some] <;> rfl) | (simp_all; done), by repeat (first | (with_reducible first | exact HB.out | apply below_alloc | apply pw_below_drewN | apply below_drew1) | exact HB.out)⟩)

/-! ### hornbeamref02_At: function 27 -/
def hornbeamref02_At.f (k : Nat) (a0 : Int) (a1 : Int) : Option (Int) := (hornbeamref01_Mix.f k a1).bind fun t122 => ((hornbeamref01_Mix.f k (Go.bits .xor .u64 a0 t122)).bind fun t123 => (some t123))
theorem hornbeamref02_At.mono : ∀ a0 a1 k, LeO (hornbeamref02_At.f k a0 a1) (hornbeamref02_At.f (k + 1) a0 a1) := by
  intro a0 a1 k
  unfold hornbeamref02_At.f
  repeat' first
      | (with_reducible exact hornbeamref01_Mix.mono _ _)
      | (with_reducible exact LeO.refl _)
      | (with_reducible exact LeO.none _)
      | (with_reducible refine LeO.ite ?_ ?_)
      | (with_reducible refine LeO.bind ?_ (fun _ => ?_))
      | exact hornbeamref01_Mix.mono _ _
      | exact LeO.none _
      | refine LeO.ite ?_ ?_
      | refine LeO.bind ?_ (fun _ => ?_)
set_option maxHeartbeats 8000000 in
set_option maxRecDepth 100000 in
theorem hornbeamref02_At.calls (k : Nat) (a0 : Int) (a1 : Int) (r : Int) (w : World) (h : hornbeamref02_At.f k a0 a1 = some r) :
    Calls Try.prog 27 #[.int .u64 a0, .int .u64 a1] w fun e w' => e = .returned (.int .u64 r) ∧ Drawn0 w w' := by
  have H : ((hornbeamref01_Mix.f k a1).bind fun t122 => ((hornbeamref01_Mix.f k (Go.bits .xor .u64 a0 t122)).bind fun t123 => (some t123))) = some r := h
  clear h
  replace H := Option.bind_eq_some_iff.mp H
  obtain ⟨t122, A30, H⟩ := H
  replace H : ((hornbeamref01_Mix.f k (Go.bits .xor .u64 a0 t122)).bind fun t123 => (some t123)) = some r := H
  have A3 := Aside0.mk A30
  clear A30
  replace H := Option.bind_eq_some_iff.mp H
  obtain ⟨t123, A40, H⟩ := H
  replace H : (some t123) = some r := H
  have A4 := Aside0.mk A40
  clear A40
  obtain rfl := Option.some.inj H
  go_enter Try.func27, Try.ntmps27
  go_wp2_with (first | ((with_reducible refine gate_callee (f := 14) rfl ?_); refine goesL_ (some 7) rfl rfl Try.func14 (by kernel_rfl) rfl #[.int .u64 a1] rfl (by (try simp only [List.map_toArray, List.map_cons, List.map_nil]); first | done | rfl | (simp only [List.length_drop, List.length_take]; rfl)) ?_; (with_reducible refine (hornbeamref01_Mix.calls k a1 t122 _ A3.out).mono ?_); rintro e w' ⟨rfl, ⟨nd, rfl⟩⟩; refine ⟨_, rfl, ?_⟩) | ((with_reducible refine gate_callee (f := 14) rfl ?_); refine goesL_ (some 9) rfl rfl Try.func14 (by kernel_rfl) rfl #[.int .u64 (Go.bits .xor .u64 a0 t122)] rfl (by (try simp only [List.map_toArray, List.map_cons, List.map_nil]); first | done | rfl | (simp only [List.length_drop, List.length_take]; rfl)) ?_; (with_reducible refine (hornbeamref01_Mix.calls k (Go.bits .xor .u64 a0 t122) t123 _ A4.out).mono ?_); rintro e w' ⟨rfl, ⟨nd, rfl⟩⟩; refine ⟨_, rfl, ?_⟩))
  all_goals (go_ret; exact ⟨by first | rfl | (simp; done) | (simp [*]; done), by repeat (first | exact Drawn0.refl _ | apply Drawn0.step)⟩)

end Go.Proofs.Ytbofijmijeaadaa.QStreamPlays
