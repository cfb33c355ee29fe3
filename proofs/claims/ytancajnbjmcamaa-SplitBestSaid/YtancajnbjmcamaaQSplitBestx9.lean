-- Written by a program of this session (wip/tools/mkprint.py over the kit's print); Lean checks it.
import Derived.Test.YtancajnbjmcamaaQSplitBestx0
import Derived.Test.YtancajnbjmcamaaQSplitBestx7
import Derived.Test.YtancajnbjmcamaaQSplitBestx8
namespace Go.Proofs.Ytancajnbjmcamaa.QSplitBest
open Go.RowKit Go.Proofs.YtancajnbjmcamaaW.PrintWords Go.Proofs.YtancajnbjmcamaaW.PrintLast Go.Proofs.YtancajnbjmcamaaW.PrintMore
attribute [local go_sem] max2_int min2_int max_two min_two max_three min_three max_four min_four   -- for this text's walks alone
set_option linter.unusedVariables false
set_option linter.unusedSimpArgs false

/-! ### hornbeamref04_Times: function 42 -/
def hornbeamref04_Times.f (k : Nat) (a0_0 : Int) (a0_1 : Int) (a1 : Int) : Option (Int × Int × Int) := (hornbeamref04_OfWide.f a0_0 a0_1).bind fun t423 => ((hornbeamref04_Digits.f a1).bind fun t426 => ((hornbeamref04_Product.f k t423 t426).bind fun t429 => (if 8 ≤ (t429.length : Int) then ((hornbeamref04_number.f (t429.drop 8)).bind fun t436 => (if 4 ≤ 8 then ((hornbeamref04_number.f ((t429.take 8).drop 4)).bind fun t441 => (if 4 ≤ (t429.length : Int) then ((hornbeamref04_number.f (t429.take 4)).bind fun t446 => (some (t436, t441, t446))) else (none))) else (none))) else (none))))
theorem hornbeamref04_Times.mono : ∀ a0 a1 a2 k, LeO (hornbeamref04_Times.f k a0 a1 a2) (hornbeamref04_Times.f (k + 1) a0 a1 a2) := by
 intro a0 a1 a2 k
 unfold hornbeamref04_Times.f
 with_reducible repeat' first | apply hornbeamref04_Product.mono | apply LeO.refl | apply LeO.none | refine LeO.ite ?_ ?_ | refine LeO.bind ?_ (fun _ => ?_)
def hornbeamref04_Times.T2 : Bool × List (List Nat × List Nat) := (true, [([], []), ([0], [0]), ([1], [1]), ([], []), ([3], [3]), ([4, 2], [4]), ([], []), ([6], [6]), ([7, 5], [7]), ([2, 5, 8], [2, 5, 8]), ([9, 8, 0, 1, 2, 3, 4, 5, 6, 7, 8, 9], [9])])
def hornbeamref04_Times.B2 : List Nat := [0, 1, 3, 0, 8, 31, 0, 64, 255, 511, 1023]
theorem hornbeamref04_Times.tab2 : rtab .any (opsOf Try.f42 2) = hornbeamref04_Times.T2 := by kernel_rfl
theorem hornbeamref04_Times.bits2 : waitsOk hornbeamref04_Times.T2.2 hornbeamref04_Times.B2 = true := by kernel_rfl
set_option maxHeartbeats 8000000 in
set_option maxRecDepth 100000 in
theorem hornbeamref04_Times.calls (k : Nat) (au : Int) (av : Int) (a1 : Int) (r1 : Int) (r2 : Int) (r3 : Int) (w : World) (h : hornbeamref04_Times.f k au av a1 = some (r1, r2, r3)) :
  Calls Try.prog 42 #[.agg #[.int .u64 au, .int .u64 av], .int .u64 a1] w fun e w' => e = .returned (.agg #[.int .u64 r1, .int .u64 r2, .int .u64 r3]) ∧ Below w.heap.size w w' := by
 have c0 := Try.underlying30
 have c2 := Try.underlying87
 have HB := aaM (Below.refl w.heap.size w)
 have H : ((hornbeamref04_OfWide.f au av).bind fun ar => ((hornbeamref04_Digits.f a1).bind fun ao => ((hornbeamref04_Product.f k ar ao).bind fun aa => (if 8 ≤ (aa.length : Int) then ((hornbeamref04_number.f (aa.drop 8)).bind fun ae => (if 4 ≤ 8 then ((hornbeamref04_number.f ((aa.take 8).drop 4)).bind fun ac => (if 4 ≤ (aa.length : Int) then ((hornbeamref04_number.f (aa.take 4)).bind fun ab => (some (ae, ac, ab))) else (none))) else (none))) else (none))))) = some (r1, r2, r3) := h
 clear h
 replace H := ooB.mp H
 obtain ⟨ar, bk, H⟩ := H
 (try dsimp only at H)
 have A3 := aaM bk
 clear bk
 replace H := ooB.mp H
 obtain ⟨ao, bl, H⟩ := H
 (try dsimp only at H)
 have A4 := aaM bl
 clear bl
 replace H := ooB.mp H
 obtain ⟨aa, bm, H⟩ := H
 (try dsimp only at H)
 have A5 := aaM bm
 clear bm
 by_cases c6 : 8 ≤ (aa.length : Int)
 ·rw [if_pos c6] at H
  have c6b0 := eq_true c6; have c6b1 : decide (8 ≤ (aa.length : Int)) = true := decide_eq_true c6; clear c6; obtain ⟨ap, aw⟩ : ∃ y_ : List Int, y_ = (aa.drop 8) := ⟨_, rfl⟩
  replace H : ((hornbeamref04_number.f ap).bind fun ae => (if 4 ≤ 8 then ((hornbeamref04_number.f ((aa.take 8).drop 4)).bind fun ac => (if 4 ≤ (aa.length : Int) then ((hornbeamref04_number.f (aa.take 4)).bind fun ab => (some (ae, ac, ab))) else (none))) else (none))) = some (r1, r2, r3) := by first | (rw [aw]; with_reducible exact H) | (have aj := (Option.bind_some _ _).symm.trans H; rw [aw]; with_reducible exact aj) | (have aj := (Option.bind_some _ _).symm.trans H; with_reducible exact aj) | with_reducible exact H | (rw [aw]; exact H) | exact H
  have bn := aaM aw; clear aw; replace H := ooB.mp H; obtain ⟨ae, bo, H⟩ := H; (try dsimp only at H); have A7 := aaM bo; clear bo
  by_cases c8 : 4 ≤ 8
  ·rw [if_pos c8] at H
   have c8b0 := eq_true c8; have c8b1 : decide (4 ≤ 8) = true := decide_eq_true c8; clear c8; have c9b0 := eq_true (of_decide_eq_true (by first | (with_reducible assumption) | assumption) : 8 ≤ (aa.length : Int)); obtain ⟨aq, ax⟩ : ∃ y_ : List Int, y_ = ((aa.take 8).drop 4) := ⟨_, rfl⟩
   replace H : ((hornbeamref04_number.f aq).bind fun ac => (if 4 ≤ (aa.length : Int) then ((hornbeamref04_number.f (aa.take 4)).bind fun ab => (some (ae, ac, ab))) else (none))) = some (r1, r2, r3) := by first | (rw [ax]; with_reducible exact H) | (have aj := (Option.bind_some _ _).symm.trans H; rw [ax]; with_reducible exact aj) | (have aj := (Option.bind_some _ _).symm.trans H; with_reducible exact aj) | with_reducible exact H | (rw [ax]; exact H) | exact H
   have bp := aaM ax; clear ax; replace H := ooB.mp H; obtain ⟨ac, bq, H⟩ := H; (try dsimp only at H); have cb := aaM bq; clear bq
   by_cases ay : 4 ≤ (aa.length : Int)
   ·rw [if_pos ay] at H
    have c11b0 := eq_true ay; have c11b1 : decide (4 ≤ (aa.length : Int)) = true := decide_eq_true ay; clear ay; obtain ⟨az, a0⟩ : ∃ y_ : List Int, y_ = (aa.take 4) := ⟨_, rfl⟩
    replace H : ((hornbeamref04_number.f az).bind fun ab => (some (ae, ac, ab))) = some (r1, r2, r3) := by first | (rw [a0]; with_reducible exact H) | (have aj := (Option.bind_some _ _).symm.trans H; rw [a0]; with_reducible exact aj) | (have aj := (Option.bind_some _ _).symm.trans H; with_reducible exact aj) | with_reducible exact H | (rw [a0]; exact H) | exact H
    have br := aaM a0; clear a0; replace H := ooB.mp H; obtain ⟨ab, bs, H⟩ := H; (try dsimp only at H); have cc := aaM bs; clear bs; simp only [Option.some.injEq, Prod.mk.injEq] at H; obtain ⟨rfl, rfl, rfl⟩ := H; go_enter Try.func42, Try.ntmps42
    (try go_wp2_with (first | ((with_reducible refine gate_dst (N := 2) rfl ?_); refine bxF w HB 2 #[.int .u64 au, .int .u64 av] 30 ?_; intro c3 hg c4 hb ag HB cd; have c5 := cd; clear hb hg) | ((with_reducible refine gate_dst (N := 4) rfl ?_); refine bxF w HB 4 #[.int .u64 0, .int .u64 0, .int .u64 0] 87 ?_; intro ce hg c7 hb ah HB cf; have c9 := cf; obtain ⟨a4, a5⟩ := nS hg ag; replace ag := bY hb ag; clear hb hg; have := a4.out; have := a5.out; obtain ⟨_, _, _, _⟩ := bE2 ag.out) | ((with_reducible refine gate_callee (f := 31) rfl ?_); refine gL (some 7) Try.func31 #[.agg #[.int .u64 au, .int .u64 av]] ?_; (with_reducible refine (hornbeamref04_OfWide.calls au av ar _ A3.out).mono ?_); rintro e da ⟨db, rfl, ak, hb⟩; refine ⟨_, rfl, ?_⟩; have ai := aaM (Kd.R_lower ak (lZ (lB HB))); replace ag := bY hb ag; replace ah := bY hb ah; replace HB := aaM (lP (lB HB) hb); (try clear hb); (try clear ak)) | ((with_reducible refine gate_callee (f := 32) rfl ?_); refine gL (some 9) Try.func32 #[.int .u64 a1] ?_; (with_reducible refine (hornbeamref04_Digits.calls a1 ao _ A4.out).mono ?_); rintro e dc ⟨dd, rfl, ak, hb⟩; refine ⟨_, rfl, ?_⟩; have an := aaM (Kd.R_lower (Kd.R_new' ak (Kd.R_lt (rZ ai))) (lZ (lB HB))); replace ai := aaM (Kd.R_elder' (rZ ai) (Kd.R_base ak) hb); replace ag := bY hb ag; replace ah := bY hb ah; replace HB := aaM (lP (lB HB) hb); (try clear hb); (try clear ak); obtain ⟨cg, ch, ci⟩ := Kd.R_slice ai.out; subst ci; obtain ⟨cj, ck, cl⟩ := Kd.R_slice an.out; subst cl) | ((with_reducible refine gate_callee (f := 30) rfl ?_); refine gL (some 10) Try.func30 #[.slice cg ar.length ch, .slice cj ao.length ck] ?_; (with_reducible refine (hornbeamref04_Product.calls k _ _ ar _ _ ao aa _ ?side1 ?side2 ?side3 ?side4 A5.out).mono ?_); (case side1 => repeat (first | exact (Kd.R_reads' ai.out).2.2 | (with_reducible refine ccA ?_ _) | (with_reducible refine ccN ?_ _) | (with_reducible refine ccD ?_))); (case side2 => exact (Kd.R_reads' ai.out).2.1); (case side3 => repeat (first | exact (Kd.R_reads' an.out).2.2 | (with_reducible refine ccA ?_ _) | (with_reducible refine ccN ?_ _) | (with_reducible refine ccD ?_))); (case side4 => exact (Kd.R_reads' an.out).2.1); rintro e cm ⟨de, rfl, ak, hb⟩; refine ⟨_, rfl, ?_⟩; have am := aaM (Kd.R_lower (Kd.R_new' (Kd.R_new' ak (Kd.R_lt (rZ ai))) (Kd.R_lt (rZ an))) (lZ (lB HB))); replace ai := aaM (Kd.R_elder' (rZ ai) (Kd.R_base ak) hb); replace an := aaM (Kd.R_elder' (rZ an) (Kd.R_base ak) hb); replace ag := bY hb ag; replace ah := bY hb ah; replace HB := aaM (lP (lB HB) hb); (try clear hb); (try clear ak))))
    replace ai := aaM (rrD ai.out); replace an := aaM (rrD an.out); replace am := aaM (rrD am.out); replace ag := aaM (bD ag.out); replace ah := aaM (bD ah.out); replace HB := aaM (lD HB.out); obtain ⟨al, af, bu⟩ := Kd.R_slice am.out; (first | subst bu | (injection bu with bv cn bw; have cp := bv.symm; have cq := bw.symm; clear bv cn bw; subst cp; subst cq)); have ba : (8 : Int) ≤ ((aa.length : Int) : Int) := of_decide_eq_true (by first | (with_reducible assumption) | assumption); obtain ⟨i023, bz, _, b0, _⟩ := info_parts info28; have hroom23 : aa.length ≤ af := (Kd.R_reads' am.out).2.1; have b1 : Kd.C (Kd.int .u64) _ al aa.length aa := (Kd.R_reads' am.out).2.2; have cr := cut_from (P := Try.prog) 74 28 .i64 Try.underlying74 bz 1 b0 al aa.length af 8 (by omega) ba; have a2 := Kd.C_drop (m := (8 : Int).toNat) (c := af) b1 (by omega) hroom23; obtain ⟨b2, a6⟩ : ∃ A1, A1 = (if af = (8 : Int).toNat then al else (al : Option Addr).map (·.add ((8 : Int).toNat * 1))) := ⟨_, rfl⟩; obtain ⟨b3, bb⟩ : ∃ c1, c1 = af - (8 : Int).toNat := ⟨_, rfl⟩; have a7 : ap.length = aa.length - (8 : Int).toNat := (by rw [bn.out, ddD] <;> omega); rw [show (aa).drop (8 : Int).toNat = ap from bn.out.symm] at a2; replace a2 : Kd.C (Kd.int .u64) _ b2 ap.length ap := (by rw [a6]; exact a2); rw [← a7, ← a6, ← bb] at cr; have bc := aaM a2; have ct := aaM (show ap.length ≤ b3 from by rw [a7, bb]; exact Nat.sub_le_sub_right hroom23 _); clear a2 b1 hroom23 bz b0 bb; have df := aaM a7; have dg := aaM a6; clear a7 a6; have dh := aaM (show 8 ≤ aa.length from by omega); replace ba := eq_true ba; have bd : (8 : Int) ≤ ((aa.length : Int) : Int) := of_decide_eq_true (by first | (with_reducible assumption) | assumption); obtain ⟨i025, b4, _, b5, _⟩ := info_parts info28; have hroom25 : aa.length ≤ af := (Kd.R_reads' am.out).2.1; have b6 : Kd.C (Kd.int .u64) _ al aa.length aa := (Kd.R_reads' am.out).2.2; have cu : (4 : Int) ≤ (8 : Int) := (by omega); have cv := cut_mid (P := Try.prog) 74 28 .i64 .i64 Try.underlying74 b4 1 b5 al aa.length af 4 8 (by omega) cu bd hroom25; have a3 := Kd.C_mid (lo := (4 : Int).toNat) (hi := (8 : Int).toNat) (c := af) b6 (by omega) (by omega) hroom25; obtain ⟨b7, a8⟩ : ∃ A1, A1 = (if af = (4 : Int).toNat then al else (al : Option Addr).map (·.add ((4 : Int).toNat * 1))) := ⟨_, rfl⟩; obtain ⟨b8, be⟩ : ∃ c1, c1 = af - (4 : Int).toNat := ⟨_, rfl⟩; have a9 : aq.length = (8 : Int).toNat - (4 : Int).toNat := (by rw [bp.out, ddD, ddT] <;> omega); rw [show ((aa).take (8 : Int).toNat).drop (4 : Int).toNat = aq from bp.out.symm] at a3; replace a3 : Kd.C (Kd.int .u64) _ b7 aq.length aq := (by rw [a8]; exact a3); rw [← a9, ← a8, ← be] at cv; have bf := aaM a3
    have cw := aaM (show aq.length ≤ b8 from by rw [a9, be]; exact Nat.sub_le_sub_right (Nat.le_trans (by omega) hroom25) _); clear a3 b6 hroom25 b4 b5 be; have di := aaM a9; have dj := aaM a8; clear a9 a8; have dk := aaM (show 8 ≤ aa.length from by omega); have dl := aaM (show 4 ≤ 8 from by omega); replace bd := eq_true bd; have bg : (4 : Int) ≤ ((aa.length : Int) : Int) := of_decide_eq_true (by first | (with_reducible assumption) | assumption); obtain ⟨i026, b9, _, cx, _⟩ := info_parts info28; have hroom26 : aa.length ≤ af := (Kd.R_reads' am.out).2.1; have ca : Kd.C (Kd.int .u64) _ al aa.length aa := (Kd.R_reads' am.out).2.2; have cy := cut_to (P := Try.prog) 74 28 .i64 Try.underlying74 b9 al aa.length af 4 (by omega) bg hroom26; have bh := Kd.C_take (m := 4) ca (by omega); have bi : az.length = (4 : Int).toNat := (by rw [br.out, ddT]; omega); rw [← br.out] at bh; rw [← bi] at cy; have bj := aaM bh; have cz := aaM (show az.length ≤ af from by omega); clear bh ca hroom26 b9 cx; have dm := aaM bi; clear bi; have dn := aaM (show 4 ≤ aa.length from by omega); replace bg := eq_true bg; refine start_ (n := 11) (S := fun w' => True) (ds := []) #[false, false, false, false, false, false, false, false, false, false, false] (by kernel_rfl) rfl rfl trivial (fun hHeld => ?_); refine with_tabW hornbeamref04_Times.tab2 hornbeamref04_Times.bits2 (fun HT_ HW_ => ?_); generalize cm.drew = dp at ai an am ag ah HB bc bf bj hHeld ⊢; refine pU 0 11 (qB 11 1) HT_ ?_
    refine pU 1 12 (qB 11 3) HT_ ?_
    refine pU 3 14 (qB 11 11) HT_ ?_
    refine pU 4 15 (qB 11 27) HT_ ?_
    refine pU 6 17 (qB 11 91) HT_ ?_
    refine pU 7 18 (qB 11 219) HT_ ?_
    refine oU 2 (some 13) (qB 11 223) HT_ (fun K hK => ?_); refine gU Try.func58 #[.slice b2 ap.length b3] ?_; (with_reducible refine (hornbeamref04_number.calls _ _ ap ae _ ?side1 ?side2 A7.out).mono ?_); (case side1 => repeat (first | exact (by repeat (first | (with_reducible exact bc.out) | (with_reducible refine ccA ?_ _) | (with_reducible refine ccN ?_ _) | (with_reducible refine ccD ?_) | exact bc.out)) | (with_reducible refine ccA ?_ _) | (with_reducible refine ccN ?_ _) | (with_reducible refine ccD ?_))); (case side2 => exact ct.out); rintro e w' ⟨rfl, ⟨nd, rfl⟩⟩; refine ⟨_, rfl, ?_⟩; refine hK.out _ _ trivial (fun hHeld => ?_); clear hK K; refine nU 13 ?_
    refine oU 5 (some 16) (qB 11 255) HT_ (fun K hK => ?_); refine gU Try.func58 #[.slice b7 aq.length b8] ?_; (with_reducible refine (hornbeamref04_number.calls _ _ aq ac _ ?side1 ?side2 cb.out).mono ?_); (case side1 => repeat (first | exact (by repeat (first | (with_reducible exact bf.out) | (with_reducible refine ccA ?_ _) | (with_reducible refine ccN ?_ _) | (with_reducible refine ccD ?_) | exact bf.out)) | (with_reducible refine ccA ?_ _) | (with_reducible refine ccN ?_ _) | (with_reducible refine ccD ?_))); (case side2 => exact cw.out); rintro e w' ⟨rfl, ⟨nd, rfl⟩⟩; refine ⟨_, rfl, ?_⟩; refine hK.out _ _ trivial (fun hHeld => ?_); clear hK K; refine nU 16 ?_
    refine oU 8 (some 19) (qB 11 511) HT_ (fun K hK => ?_); refine gU Try.func58 #[.slice al az.length af] ?_; (with_reducible refine (hornbeamref04_number.calls _ _ az ab _ ?side1 ?side2 cc.out).mono ?_); (case side1 => repeat (first | exact (by repeat (first | (with_reducible exact bj.out) | (with_reducible refine ccA ?_ _) | (with_reducible refine ccN ?_ _) | (with_reducible refine ccD ?_) | exact bj.out)) | (with_reducible refine ccA ?_ _) | (with_reducible refine ccN ?_ _) | (with_reducible refine ccD ?_))); (case side2 => exact cz.out); rintro e w' ⟨rfl, ⟨nd, rfl⟩⟩; refine ⟨_, rfl, ?_⟩; refine hK.out _ _ trivial (fun hHeld => ?_); clear hK K; refine nU 19 ?_
    refine pU 9 20 (qB 11 1023) HT_ ?_
    refine oU 10 none (qB 11 2047) HT_ (fun K hK => ?_); obtain ⟨dq, -, -, dr, -, -⟩ := bE3 ah.out; have := a4.out; have := a5.out; obtain ⟨-, dt, -, -, du, -⟩ := bE3 ah.out; have := a4.out; have := a5.out; obtain ⟨-, -, dv, -, -, dw⟩ := bE3 ah.out; have := a4.out; have := a5.out; refine skip_ (w1 := ?_) (by rfl) rfl ?_ ?_; rotate_left
    ·go_simp
     rfl
    refine hK.out _ _ trivial (fun hHeld => ?_); clear hK K; refine done_ (done_of HT_.out (by kernel_rfl)) ?_; (try go_wp2); refine bodyPost_ret (results_cell_row rfl _ _ ce 87 #[.int .u64 ae, .int .u64 ac, .int .u64 ab] (0, 0) _ rfl (bZ ah) Try.underlying87 rfl (by kernel_rfl)) rfl ?_
    exact ⟨eE, lB HB⟩
   ·rw [if_neg ay] at H
    exact absurd H (by simp)
  ·rw [if_neg c8] at H
   exact absurd H (by simp)
 ·rw [if_neg c6] at H
  exact absurd H (by simp)

/-! ### hornbeamref04_Add: function 44 -/
def hornbeamref04_Add.f (k : Nat) (a0_0 : Int) (a0_1 : Int) (a1_0 : Int) (a1_1 : Int) : Option (Int × Int × Int) := (hornbeamref04_OfWide.f a0_0 a0_1).bind fun t450 => ((hornbeamref04_OfWide.f a1_0 a1_1).bind fun t453 => ((hornbeamref04_Sum.f k t450 t453).bind fun t456 => (if 8 < (t456.length : Int) then (if (rd t456 8) > 0 then (some (0, 0, 6)) else (if 4 ≤ 8 then (if 8 ≤ (t456.length : Int) then ((hornbeamref04_number.f ((t456.take 8).drop 4)).bind fun t464 => (if 4 ≤ (t456.length : Int) then ((hornbeamref04_number.f (t456.take 4)).bind fun t469 => (some (t464, t469, 0))) else (none))) else (none)) else (none))) else (none))))
theorem hornbeamref04_Add.mono : ∀ a0 a1 a2 a3 k, LeO (hornbeamref04_Add.f k a0 a1 a2 a3) (hornbeamref04_Add.f (k + 1) a0 a1 a2 a3) := by
 intro a0 a1 a2 a3 k
 unfold hornbeamref04_Add.f
 with_reducible repeat' first | apply hornbeamref04_Sum.mono | apply LeO.refl | apply LeO.none | refine LeO.ite ?_ ?_ | refine LeO.bind ?_ (fun _ => ?_)
def hornbeamref04_Add.T4 : Bool × List (List Nat × List Nat) := (true, [([], []), ([0], [0]), ([1], [1]), ([], []), ([3], [3]), ([4, 2], [4]), ([2, 5], [2, 5]), ([6, 5, 0, 1, 2, 3, 4, 5, 6], [6]), ([7, 0, 1, 2, 3, 4, 5, 6, 7], [])])
def hornbeamref04_Add.B4 : List Nat := [0, 1, 3, 0, 8, 31, 63, 127, 255]
theorem hornbeamref04_Add.tab4 : rtab .any (opsOf Try.f44 4) = hornbeamref04_Add.T4 := by kernel_rfl
theorem hornbeamref04_Add.bits4 : waitsOk hornbeamref04_Add.T4.2 hornbeamref04_Add.B4 = true := by kernel_rfl
set_option maxHeartbeats 8000000 in
set_option maxRecDepth 100000 in
theorem hornbeamref04_Add.calls (k : Nat) (an : Int) (ao : Int) (ak : Int) (al : Int) (r1 : Int) (r2 : Int) (r3 : Int) (w : World) (h : hornbeamref04_Add.f k an ao ak al = some (r1, r2, r3)) :
  Calls Try.prog 44 #[.agg #[.int .u64 an, .int .u64 ao], .agg #[.int .u64 ak, .int .u64 al]] w fun e w' => e = .returned (.tuple #[.agg #[.int .u64 r1, .int .u64 r2], .int .i64 r3]) ∧ Below w.heap.size w w' := by
 have dg := Try.underlying30
 have HB := aaM (Below.refl w.heap.size w)
 have H : ((hornbeamref04_OfWide.f an ao).bind fun au => ((hornbeamref04_OfWide.f ak al).bind fun ap => ((hornbeamref04_Sum.f k au ap).bind fun aa => (if 8 < (aa.length : Int) then (if (rd aa 8) > 0 then (some (0, 0, 6)) else (if 4 ≤ 8 then (if 8 ≤ (aa.length : Int) then ((hornbeamref04_number.f ((aa.take 8).drop 4)).bind fun aj => (if 4 ≤ (aa.length : Int) then ((hornbeamref04_number.f (aa.take 4)).bind fun ah => (some (aj, ah, 0))) else (none))) else (none)) else (none))) else (none))))) = some (r1, r2, r3) := h
 clear h
 replace H := ooB.mp H
 obtain ⟨au, bz, H⟩ := H
 (try dsimp only at H)
 have A3 := aaM bz
 clear bz
 replace H := ooB.mp H
 obtain ⟨ap, b0, H⟩ := H
 (try dsimp only at H)
 have A4 := aaM b0
 clear b0
 replace H := ooB.mp H
 obtain ⟨aa, b1, H⟩ := H
 (try dsimp only at H)
 have A5 := aaM b1
 clear b1
 by_cases c6 : 8 < (aa.length : Int)
 ·rw [if_pos c6] at H
  have c6b0 : decide (8 < (aa.length : Int)) = true := decide_eq_true c6; have c6b1 : decide (8 < aa.length) = true := decide_eq_true (by omega); clear c6
  by_cases c7 : (rd aa 8) > 0
  ·rw [if_pos c7] at H
   have c7b0 : decide (0 < (rd aa 8)) = true := decide_eq_true c7; clear c7; simp only [Option.some.injEq, Prod.mk.injEq] at H; obtain ⟨rfl, rfl, rfl⟩ := H; go_enter Try.func44, Try.ntmps44; (try go_wp2_with (first | ((with_reducible refine gate_dst (N := 2) rfl ?_); refine bxF w HB 2 #[.int .u64 an, .int .u64 ao] 30 ?_; intro a4 hg w8 hb ab HB bl; have ch := bl; clear hb hg) | ((with_reducible refine gate_dst (N := 3) rfl ?_); refine bxF w HB 3 #[.int .u64 ak, .int .u64 al] 30 ?_; intro a5 hg w9 hb ac HB bm; have ci := bm; obtain ⟨cj, ck⟩ := nS hg ab; replace ab := bY hb ab; clear hb hg) | ((with_reducible refine gate_dst (N := 4) rfl ?_); refine bxF w HB 4 #[.int .u64 0, .int .u64 0] 30 ?_; intro bn hg cl hb ae HB bo; have cm := bo; obtain ⟨bf, bg⟩ := nS hg ab; replace ab := bY hb ab; obtain ⟨bh, bi⟩ := nS hg ac; replace ac := bY hb ac; clear hb hg))); replace ab := aaM (bD ab.out); replace ac := aaM (bD ac.out); replace ae := aaM (bD ae.out); replace HB := aaM (lD HB.out); refine start_ (n := 6) (S := fun w' => w'.cell? ⟨a4, 0, none⟩ = some (.int .u64 an) ∧ w'.cell? ⟨a4, 1, none⟩ = some (.int .u64 ao) ∧ w'.cell? ⟨a5, 0, none⟩ = some (.int .u64 ak) ∧ w'.cell? ⟨a5, 1, none⟩ = some (.int .u64 al)) (ds := []) _ (by kernel_rfl) rfl rfl hD (fun hHeld => ?_); generalize cl.drew = dh at ab ac ae HB hHeld ⊢
   refine take_ (i := 0) (N := some 7) (v := ?_) (a' := ?_) (qB 6 1) rfl rfl (by kernel_rfl) (fun _ _ _ h => h) (Or.inl ⟨by rfl, ?_⟩) hHeld ?_ ?_; rotate_left
   ·rintro w' ⟨s0, s1, s2, s3⟩
    go_simp; (with_reducible rfl)
   rotate_left
   ·simp only [Act.put, ssB, ssZ, ssS, i64_w, i32_w]
    rfl
   refine take_ (i := 2) (N := some 9) (v := ?_) (a' := ?_) (qB 6 5) rfl rfl (by kernel_rfl) (fun _ _ _ h => h) (Or.inl ⟨by rfl, ?_⟩) hHeld ?_ ?_; rotate_left
   ·rintro w' ⟨s0, s1, s2, s3⟩
    go_simp; (with_reducible rfl)
   rotate_left
   ·simp only [Act.put, ssB, ssZ, ssS, i64_w, i32_w]
    rfl
   refine one_ (i := 1) (N := some 8) (qB 6 7) rfl rfl (by kernel_rfl) (by decide) (fun K hK => ?_); refine gU Try.func31 #[.agg #[.int .u64 an, .int .u64 ao]] ?_; (with_reducible refine (hornbeamref04_OfWide.calls an ao au _ A3.out).mono ?_); rintro e di ⟨cn, rfl, af, hb⟩; refine ⟨_, rfl, ?_⟩; have ag := aaM (Kd.R_lower af (lZ (lB HB))); replace ab := bY hb ab; replace ac := bY hb ac; replace ae := bY hb ae; replace HB := aaM (lP (lB HB) hb); (try clear hb); (try clear af); refine hK.out _ _ hD (fun hHeld => ?_); clear hK K; refine nU 8 ?_
   refine one_ (i := 3) (N := some 10) (qB 6 15) rfl rfl (by kernel_rfl) (by decide) (fun K hK => ?_); refine gU Try.func31 #[.agg #[.int .u64 ak, .int .u64 al]] ?_; (with_reducible refine (hornbeamref04_OfWide.calls ak al ap _ A4.out).mono ?_); rintro e dj ⟨cp, rfl, af, hb⟩; refine ⟨_, rfl, ?_⟩; have ai := aaM (Kd.R_lower (Kd.R_new' af (Kd.R_lt (rZ ag))) (lZ (lB HB))); replace ag := aaM (Kd.R_elder' (rZ ag) (Kd.R_base af) hb); replace ab := bY hb ab; replace ac := bY hb ac; replace ae := bY hb ae; replace HB := aaM (lP (lB HB) hb); (try clear hb); (try clear af); obtain ⟨cq, cr, b2⟩ := Kd.R_slice ag.out; (first | subst b2 | (injection b2 with aq ay ar; have az := aq.symm; have a0 := ar.symm; clear aq ay ar; subst az; subst a0)); obtain ⟨ct, cu, b3⟩ := Kd.R_slice ai.out; (first | subst b3 | (injection b3 with aq ay ar; have az := aq.symm; have a0 := ar.symm; clear aq ay ar; subst az; subst a0)); refine hK.out _ _ hD (fun hHeld => ?_); clear hK K; refine nU 10 ?_
   refine one_ (i := 4) (N := some 11) (qB 6 31) rfl rfl (by kernel_rfl) (by decide) (fun K hK => ?_); refine gU Try.func57 #[.slice cq au.length cr, .slice ct ap.length cu] ?_; (with_reducible refine (hornbeamref04_Sum.calls k _ _ au _ _ ap aa _ ?side1 ?side2 ?side3 ?side4 A5.out).mono ?_); (case side1 => repeat (first | exact (Kd.R_reads' ag.out).2.2 | (with_reducible refine ccA ?_ _) | (with_reducible refine ccN ?_ _) | (with_reducible refine ccD ?_))); (case side2 => exact (Kd.R_reads' ag.out).2.1); (case side3 => repeat (first | exact (Kd.R_reads' ai.out).2.2 | (with_reducible refine ccA ?_ _) | (with_reducible refine ccN ?_ _) | (with_reducible refine ccD ?_))); (case side4 => exact (Kd.R_reads' ai.out).2.1); rintro e dk ⟨cv, rfl, af, hb⟩; refine ⟨_, rfl, ?_⟩; have am := aaM (Kd.R_lower (Kd.R_new' (Kd.R_new' af (Kd.R_lt (rZ ag))) (Kd.R_lt (rZ ai))) (lZ (lB HB))); replace ag := aaM (Kd.R_elder' (rZ ag) (Kd.R_base af) hb); replace ai := aaM (Kd.R_elder' (rZ ai) (Kd.R_base af) hb); replace ab := bY hb ab; replace ac := bY hb ac; replace ae := bY hb ae; replace HB := aaM (lP (lB HB) hb); (try clear hb); (try clear af); refine hK.out _ _ hD (fun hHeld => ?_); clear hK K; refine nU 11 ?_
   refine pure_ (i := 5) (N := some 6) (v := ?_) (a' := ?_) (qB 6 63) rfl rfl (by kernel_rfl) (fun _ _ _ h => h) (Or.inl ⟨by rfl, ?_⟩) ?_ ?_; rotate_left
   ·intro w'
    go_simp; (with_reducible rfl)
   rotate_left
   ·simp only [Act.put, ssB, ssZ, ssS, i64_w, i32_w]
    rfl
   refine done_ (by kernel_rfl) ?_; obtain ⟨dl, dm, cw⟩ := Kd.R_slice am.out; subst cw; have a1 : 0 ≤ (8 : Int) := (by omega); have a2 : 8 < (aa.length : Int) := of_decide_eq_true (by first | (with_reducible assumption) | assumption); obtain ⟨aw, bp, a7⟩ := Kd.at_int (Kd.R_reads' am.out).2.2 8 a1 a2
   cases bp
   (try simp only [show (8 : Int).toNat = 8 from rfl, Nat.reduceMul, Nat.reduceEqDiff, Go.Addr.add, ↓reduceIte] at a7); have cx : (8 < aa.length) = True := eq_true (by omega); (try rw [show ((8 : Int)).toNat = 8 from rfl] at a7); replace a1 := eq_true a1; replace a2 := eq_true a2; have := bg.out; have := bf.out; have := bi.out; have := bh.out; obtain ⟨_, _, _, _⟩ := bE2 ae.out; (try go_wp2); refine bodyPost_ret (results_ct rfl _ _ bn 30 #[.int .u64 0, .int .u64 0] (0, 0) _ rfl (bZ ae) Try.underlying30 rfl (by kernel_rfl)) rfl ?_
   exact ⟨eE, lB HB⟩
  ·rw [if_neg c7] at H
   have c7b0 : decide (0 < (rd aa 8)) = false := decide_eq_false c7; clear c7
   by_cases a8 : 4 ≤ 8
   ·rw [if_pos a8] at H
    have c21b0 := eq_true a8; have c21b1 : decide (4 ≤ 8) = true := decide_eq_true a8; clear a8
    by_cases a9 : 8 ≤ (aa.length : Int)
    ·rw [if_pos a9] at H
     have c22b0 := eq_true a9; have c22b1 : decide (8 ≤ (aa.length : Int)) = true := decide_eq_true a9; clear a9; obtain ⟨ax, ba⟩ : ∃ y_ : List Int, y_ = ((aa.take 8).drop 4) := ⟨_, rfl⟩
     replace H : ((hornbeamref04_number.f ax).bind fun aj => (if 4 ≤ (aa.length : Int) then ((hornbeamref04_number.f (aa.take 4)).bind fun ah => (some (aj, ah, 0))) else (none))) = some (r1, r2, r3) := by first | (rw [ba]; with_reducible exact H) | (have a3 := (Option.bind_some _ _).symm.trans H; rw [ba]; with_reducible exact a3) | (have a3 := (Option.bind_some _ _).symm.trans H; with_reducible exact a3) | with_reducible exact H | (rw [ba]; exact H) | exact H
     have b4 := aaM ba; clear ba; replace H := ooB.mp H; obtain ⟨aj, b5, H⟩ := H; (try dsimp only at H); have cy := aaM b5; clear b5
     by_cases bb : 4 ≤ (aa.length : Int)
     ·rw [if_pos bb] at H
      have c24b0 := eq_true bb; have c24b1 : decide (4 ≤ (aa.length : Int)) = true := decide_eq_true bb; clear bb; obtain ⟨bc, bd⟩ : ∃ y_ : List Int, y_ = (aa.take 4) := ⟨_, rfl⟩
      replace H : ((hornbeamref04_number.f bc).bind fun ah => (some (aj, ah, 0))) = some (r1, r2, r3) := by first | (rw [bd]; with_reducible exact H) | (have a3 := (Option.bind_some _ _).symm.trans H; rw [bd]; with_reducible exact a3) | (have a3 := (Option.bind_some _ _).symm.trans H; with_reducible exact a3) | with_reducible exact H | (rw [bd]; exact H) | exact H
      have b6 := aaM bd; clear bd; replace H := ooB.mp H; obtain ⟨ah, b7, H⟩ := H; replace H : (some (aj, ah, 0)) = some (r1, r2, r3) := H; have cz := aaM b7; clear b7; simp only [Option.some.injEq, Prod.mk.injEq] at H; obtain ⟨rfl, rfl, rfl⟩ := H; go_enter Try.func44, Try.ntmps44; (try go_wp2_with (first | ((with_reducible refine gate_dst (N := 2) rfl ?_); refine bxF w HB 2 #[.int .u64 an, .int .u64 ao] 30 ?_; intro a4 hg dn hb ab HB bl; have ch := bl; clear hb hg) | ((with_reducible refine gate_dst (N := 3) rfl ?_); refine bxF w HB 3 #[.int .u64 ak, .int .u64 al] 30 ?_; intro a5 hg dp hb ac HB bm; have ci := bm; obtain ⟨cj, ck⟩ := nS hg ab; replace ab := bY hb ab; clear hb hg) | ((with_reducible refine gate_dst (N := 4) rfl ?_); refine bxF w HB 4 #[.int .u64 0, .int .u64 0] 30 ?_; intro bn hg c0 hb ae HB bo; have cm := bo; obtain ⟨bf, bg⟩ := nS hg ab; replace ab := bY hb ab; obtain ⟨bh, bi⟩ := nS hg ac; replace ac := bY hb ac; clear hb hg))); replace ab := aaM (bD ab.out); replace ac := aaM (bD ac.out); replace ae := aaM (bD ae.out); replace HB := aaM (lD HB.out); refine start_ (n := 6) (S := fun w' => w'.cell? ⟨a4, 0, none⟩ = some (.int .u64 an) ∧ w'.cell? ⟨a4, 1, none⟩ = some (.int .u64 ao) ∧ w'.cell? ⟨a5, 0, none⟩ = some (.int .u64 ak) ∧ w'.cell? ⟨a5, 1, none⟩ = some (.int .u64 al)) (ds := []) _ (by kernel_rfl) rfl rfl hD (fun hHeld => ?_)
      generalize c0.drew = dq at ab ac ae HB hHeld ⊢; refine take_ (i := 0) (N := some 7) (v := ?_) (a' := ?_) (qB 6 1) rfl rfl (by kernel_rfl) (fun _ _ _ h => h) (Or.inl ⟨by rfl, ?_⟩) hHeld ?_ ?_; rotate_left
      ·rintro w' ⟨s0, s1, s2, s3⟩
       go_simp; (with_reducible rfl)
      rotate_left
      ·simp only [Act.put, ssB, ssZ, ssS, i64_w, i32_w]
       rfl
      refine take_ (i := 2) (N := some 9) (v := ?_) (a' := ?_) (qB 6 5) rfl rfl (by kernel_rfl) (fun _ _ _ h => h) (Or.inl ⟨by rfl, ?_⟩) hHeld ?_ ?_; rotate_left
      ·rintro w' ⟨s0, s1, s2, s3⟩
       go_simp; (with_reducible rfl)
      rotate_left
      ·simp only [Act.put, ssB, ssZ, ssS, i64_w, i32_w]
       rfl
      refine one_ (i := 1) (N := some 8) (qB 6 7) rfl rfl (by kernel_rfl) (by decide) (fun K hK => ?_); refine gU Try.func31 #[.agg #[.int .u64 an, .int .u64 ao]] ?_; (with_reducible refine (hornbeamref04_OfWide.calls an ao au _ A3.out).mono ?_); rintro e dr ⟨cn, rfl, af, hb⟩; refine ⟨_, rfl, ?_⟩; have ag := aaM (Kd.R_lower af (lZ (lB HB))); replace ab := bY hb ab; replace ac := bY hb ac; replace ae := bY hb ae; replace HB := aaM (lP (lB HB) hb); (try clear hb); (try clear af); refine hK.out _ _ hD (fun hHeld => ?_); clear hK K; refine nU 8 ?_
      refine one_ (i := 3) (N := some 10) (qB 6 15) rfl rfl (by kernel_rfl) (by decide) (fun K hK => ?_); refine gU Try.func31 #[.agg #[.int .u64 ak, .int .u64 al]] ?_; (with_reducible refine (hornbeamref04_OfWide.calls ak al ap _ A4.out).mono ?_); rintro e dt ⟨cp, rfl, af, hb⟩; refine ⟨_, rfl, ?_⟩; have ai := aaM (Kd.R_lower (Kd.R_new' af (Kd.R_lt (rZ ag))) (lZ (lB HB))); replace ag := aaM (Kd.R_elder' (rZ ag) (Kd.R_base af) hb); replace ab := bY hb ab; replace ac := bY hb ac; replace ae := bY hb ae; replace HB := aaM (lP (lB HB) hb); (try clear hb); (try clear af); obtain ⟨c2, c3, b8⟩ := Kd.R_slice ag.out; (first | subst b8 | (injection b8 with aq ay ar; have az := aq.symm; have a0 := ar.symm; clear aq ay ar; subst az; subst a0)); obtain ⟨c4, c5, b9⟩ := Kd.R_slice ai.out; (first | subst b9 | (injection b9 with aq ay ar; have az := aq.symm; have a0 := ar.symm; clear aq ay ar; subst az; subst a0)); refine hK.out _ _ hD (fun hHeld => ?_); clear hK K; refine nU 10 ?_
      refine one_ (i := 4) (N := some 11) (qB 6 31) rfl rfl (by kernel_rfl) (by decide) (fun K hK => ?_); refine gU Try.func57 #[.slice c2 au.length c3, .slice c4 ap.length c5] ?_; (with_reducible refine (hornbeamref04_Sum.calls k _ _ au _ _ ap aa _ ?side1 ?side2 ?side3 ?side4 A5.out).mono ?_); (case side1 => repeat (first | exact (Kd.R_reads' ag.out).2.2 | (with_reducible refine ccA ?_ _) | (with_reducible refine ccN ?_ _) | (with_reducible refine ccD ?_))); (case side2 => exact (Kd.R_reads' ag.out).2.1); (case side3 => repeat (first | exact (Kd.R_reads' ai.out).2.2 | (with_reducible refine ccA ?_ _) | (with_reducible refine ccN ?_ _) | (with_reducible refine ccD ?_))); (case side4 => exact (Kd.R_reads' ai.out).2.1); rintro e c8 ⟨cv, rfl, af, hb⟩; refine ⟨_, rfl, ?_⟩; have am := aaM (Kd.R_lower (Kd.R_new' (Kd.R_new' af (Kd.R_lt (rZ ag))) (Kd.R_lt (rZ ai))) (lZ (lB HB))); replace ag := aaM (Kd.R_elder' (rZ ag) (Kd.R_base af) hb); replace ai := aaM (Kd.R_elder' (rZ ai) (Kd.R_base af) hb); replace ab := bY hb ab; replace ac := bY hb ac; replace ae := bY hb ae; replace HB := aaM (lP (lB HB) hb); (try clear hb); (try clear af); refine hK.out _ _ hD (fun hHeld => ?_); clear hK K; refine nU 11 ?_
      refine pure_ (i := 5) (N := some 6) (v := ?_) (a' := ?_) (qB 6 63) rfl rfl (by kernel_rfl) (fun _ _ _ h => h) (Or.inl ⟨by rfl, ?_⟩) ?_ ?_; rotate_left
      ·intro w'
       go_simp; (with_reducible rfl)
      rotate_left
      ·simp only [Act.put, ssB, ssZ, ssS, i64_w, i32_w]
       rfl
      refine done_ (by kernel_rfl) ?_; obtain ⟨du, av, c9⟩ := Kd.R_slice am.out; subst c9; have a1 : 0 ≤ (8 : Int) := (by omega); have a2 : 8 < (aa.length : Int) := of_decide_eq_true (by first | (with_reducible assumption) | assumption); obtain ⟨aw, bp, a7⟩ := Kd.at_int (Kd.R_reads' am.out).2.2 8 a1 a2
      cases bp
      (try simp only [show (8 : Int).toNat = 8 from rfl, Nat.reduceMul, Nat.reduceEqDiff, Go.Addr.add, ↓reduceIte] at a7); have cx : (8 < aa.length) = True := eq_true (by omega); (try rw [show ((8 : Int)).toNat = 8 from rfl] at a7); replace a1 := eq_true a1; replace a2 := eq_true a2; (try go_wp2); replace ag := aaM (rrD ag.out); replace ai := aaM (rrD ai.out); replace am := aaM (rrD am.out); replace ab := aaM (bD ab.out); replace ac := aaM (bD ac.out); replace ae := aaM (bD ae.out); replace HB := aaM (lD HB.out); have bq : (8 : Int) ≤ ((aa.length : Int) : Int) := of_decide_eq_true (by first | (with_reducible assumption) | assumption); obtain ⟨i037, ca, _, cb, _⟩ := info_parts info28; have hroom37 : aa.length ≤ av := (Kd.R_reads' am.out).2.1; have cc : Kd.C (Kd.int .u64) _ (some aw) aa.length aa := (Kd.R_reads' am.out).2.2; have da : (4 : Int) ≤ (8 : Int) := (by omega); have db := cut_mid (P := Try.prog) 74 28 .i64 .i64 Try.underlying74 ca 1 cb (some aw) aa.length av 4 8 (by omega) da bq hroom37; have be := Kd.C_mid (lo := (4 : Int).toNat) (hi := (8 : Int).toNat) (c := av) cc (by omega) (by omega) hroom37; obtain ⟨cd, bj⟩ : ∃ A1, A1 = (if av = (4 : Int).toNat then (some aw) else ((some aw) : Option Addr).map (·.add ((4 : Int).toNat * 1))) := ⟨_, rfl⟩; obtain ⟨ce, br⟩ : ∃ c1, c1 = av - (4 : Int).toNat := ⟨_, rfl⟩; have bk : ax.length = (8 : Int).toNat - (4 : Int).toNat := (by rw [b4.out, ddD, ddT] <;> omega); rw [show ((aa).take (8 : Int).toNat).drop (4 : Int).toNat = ax from b4.out.symm] at be; replace be : Kd.C (Kd.int .u64) _ cd ax.length ax := (by rw [bj]; exact be); rw [← bk, ← bj, ← br] at db; have bs := aaM be; have dc := aaM (show ax.length ≤ ce from by rw [bk, br]; exact Nat.sub_le_sub_right (Nat.le_trans (by omega) hroom37) _); clear be cc hroom37 ca cb br; have dv := aaM bk; have dw := aaM bj; clear bk bj; have dx := aaM (show 8 ≤ aa.length from by omega); have dy := aaM (show 4 ≤ 8 from by omega); replace bq := eq_true bq; have bt : (4 : Int) ≤ ((aa.length : Int) : Int) := of_decide_eq_true (by first | (with_reducible assumption) | assumption); obtain ⟨i038, cf, _, dd, _⟩ := info_parts info28; have hroom38 : aa.length ≤ av := (Kd.R_reads' am.out).2.1; have cg : Kd.C (Kd.int .u64) _ (some aw) aa.length aa := (Kd.R_reads' am.out).2.2; have de := cut_to (P := Try.prog) 74 28 .i64 Try.underlying74 cf (some aw) aa.length av 4 (by omega) bt hroom38; have bu := Kd.C_take (m := 4) cg (by omega); have bv : bc.length = (4 : Int).toNat := (by rw [b6.out, ddT]; omega); rw [← b6.out] at bu; rw [← bv] at de; have bw := aaM bu; have df := aaM (show bc.length ≤ av from by omega); clear bu cg hroom38 cf dd; have dz := aaM bv; clear bv
      have d0 := aaM (show 4 ≤ aa.length from by omega); replace bt := eq_true bt; refine start_ (n := 9) (S := fun w' => True) (ds := []) #[false, false, false, false, false, false, false, false, false] (by kernel_rfl) rfl rfl trivial (fun hHeld => ?_); refine with_tabW hornbeamref04_Add.tab4 hornbeamref04_Add.bits4 (fun HT_ HW_ => ?_); generalize c8.drew = d1 at ag ai am ab ac ae HB bs bw hHeld ⊢; refine pU 0 17 (qB 9 1) HT_ ?_
      refine pU 1 18 (qB 9 3) HT_ ?_
      refine pU 3 20 (qB 9 11) HT_ ?_
      refine pU 4 21 (qB 9 27) HT_ ?_
      refine oU 2 (some 19) (qB 9 31) HT_ (fun K hK => ?_); refine gU Try.func58 #[.slice cd ax.length ce] ?_; (with_reducible refine (hornbeamref04_number.calls _ _ ax aj _ ?side1 ?side2 cy.out).mono ?_); (case side1 => repeat (first | exact (by repeat (first | (with_reducible exact bs.out) | (with_reducible refine ccA ?_ _) | (with_reducible refine ccN ?_ _) | (with_reducible refine ccD ?_) | exact bs.out)) | (with_reducible refine ccA ?_ _) | (with_reducible refine ccN ?_ _) | (with_reducible refine ccD ?_))); (case side2 => exact dc.out); rintro e w' ⟨rfl, ⟨nd, rfl⟩⟩; refine ⟨_, rfl, ?_⟩; refine hK.out _ _ trivial (fun hHeld => ?_); clear hK K; refine nU 19 ?_
      refine oU 5 (some 22) (qB 9 63) HT_ (fun K hK => ?_); refine gU Try.func58 #[.slice (some aw) bc.length av] ?_; (with_reducible refine (hornbeamref04_number.calls _ _ bc ah _ ?side1 ?side2 cz.out).mono ?_); (case side1 => repeat (first | exact (by repeat (first | (with_reducible exact bw.out) | (with_reducible refine ccA ?_ _) | (with_reducible refine ccN ?_ _) | (with_reducible refine ccD ?_) | exact bw.out)) | (with_reducible refine ccA ?_ _) | (with_reducible refine ccN ?_ _) | (with_reducible refine ccD ?_))); (case side2 => exact df.out); rintro e w' ⟨rfl, ⟨nd, rfl⟩⟩; refine ⟨_, rfl, ?_⟩; refine hK.out _ _ trivial (fun hHeld => ?_); clear hK K; refine nU 22 ?_
      refine pU 6 23 (qB 9 127) HT_ ?_
      refine oU 7 none (qB 9 255) HT_ (fun K hK => ?_); obtain ⟨d2, -, d3, -⟩ := bE2 ae.out; have := bf.out; have := bh.out; have := bg.out; have := bi.out; obtain ⟨-, d4, -, d5⟩ := bE2 ae.out; have := bf.out; have := bh.out; have := bg.out; have := bi.out; refine skip_ (w1 := ?_) (by rfl) rfl ?_ ?_; rotate_left
      ·go_simp
       rfl
      refine hK.out _ _ trivial (fun hHeld => ?_); clear hK K; refine pU 8 5 (qB 9 511) HT_ ?_
      refine done_ (done_of HT_.out (by kernel_rfl)) ?_; (try go_wp2); refine bodyPost_ret (results_ct rfl _ _ bn 30 #[.int .u64 aj, .int .u64 ah] (0, 0) _ rfl (bZ ae) Try.underlying30 rfl (by kernel_rfl)) rfl ?_
      exact ⟨eE, lB HB⟩
     ·rw [if_neg bb] at H
      exact absurd H (by simp)
    ·rw [if_neg a9] at H
     exact absurd H (by simp)
   ·rw [if_neg a8] at H
    exact absurd H (by simp)
 ·rw [if_neg c6] at H
  exact absurd H (by simp)

/-! ### hornbeamref04_Mul: function 59 -/
def hornbeamref04_Mul.f (k : Nat) (a0 : Int) (a1 : Int) : Option (Int × Int) := (hornbeamref04_Digits.f a0).bind fun t471 => ((hornbeamref04_Digits.f a1).bind fun t474 => ((hornbeamref04_Product.f k t471 t474).bind fun t477 => (if 4 ≤ (t477.length : Int) then ((hornbeamref04_number.f (t477.drop 4)).bind fun t484 => ((hornbeamref04_number.f (t477.take 4)).bind fun t489 => (some (t484, t489)))) else (none))))
theorem hornbeamref04_Mul.mono : ∀ a0 a1 k, LeO (hornbeamref04_Mul.f k a0 a1) (hornbeamref04_Mul.f (k + 1) a0 a1) := by
 intro a0 a1 k
 unfold hornbeamref04_Mul.f
 with_reducible repeat' first | apply hornbeamref04_Product.mono | apply LeO.refl | apply LeO.none | refine LeO.ite ?_ ?_ | refine LeO.bind ?_ (fun _ => ?_)
def hornbeamref04_Mul.T2 : Bool × List (List Nat × List Nat) := (true, [([], []), ([0], [0]), ([1], [1]), ([], []), ([3], [3]), ([4, 2], [4]), ([2, 5], [2, 5]), ([6, 5, 0, 1, 2, 3, 4, 5, 6], [6])])
def hornbeamref04_Mul.B2 : List Nat := [0, 1, 3, 0, 8, 31, 63, 127]
theorem hornbeamref04_Mul.tab2 : rtab .any (opsOf Try.f59 2) = hornbeamref04_Mul.T2 := by kernel_rfl
theorem hornbeamref04_Mul.bits2 : waitsOk hornbeamref04_Mul.T2.2 hornbeamref04_Mul.B2 = true := by kernel_rfl
set_option maxHeartbeats 8000000 in
set_option maxRecDepth 100000 in
theorem hornbeamref04_Mul.calls (k : Nat) (a0 : Int) (a1 : Int) (r1 : Int) (r2 : Int) (w : World) (h : hornbeamref04_Mul.f k a0 a1 = some (r1, r2)) :
  Calls Try.prog 59 #[.int .u64 a0, .int .u64 a1] w fun e w' => e = .returned (.agg #[.int .u64 r1, .int .u64 r2]) ∧ Below w.heap.size w w' := by
 have b7 := Try.underlying30
 have HB := aaM (Below.refl w.heap.size w)
 have H : ((hornbeamref04_Digits.f a0).bind fun am => ((hornbeamref04_Digits.f a1).bind fun aj => ((hornbeamref04_Product.f k am aj).bind fun aa => (if 4 ≤ (aa.length : Int) then ((hornbeamref04_number.f (aa.drop 4)).bind fun ac => ((hornbeamref04_number.f (aa.take 4)).bind fun ab => (some (ac, ab)))) else (none))))) = some (r1, r2) := h
 clear h
 replace H := ooB.mp H
 obtain ⟨am, a6, H⟩ := H
 (try dsimp only at H)
 have A3 := aaM a6
 clear a6
 replace H := ooB.mp H
 obtain ⟨aj, a7, H⟩ := H
 (try dsimp only at H)
 have A4 := aaM a7
 clear a7
 replace H := ooB.mp H
 obtain ⟨aa, a8, H⟩ := H
 (try dsimp only at H)
 have A5 := aaM a8
 clear a8
 by_cases c6 : 4 ≤ (aa.length : Int)
 ·rw [if_pos c6] at H
  have c6b0 := eq_true c6; have c6b1 : decide (4 ≤ (aa.length : Int)) = true := decide_eq_true c6; clear c6; obtain ⟨ak, ap⟩ : ∃ y_ : List Int, y_ = (aa.drop 4) := ⟨_, rfl⟩
  replace H : ((hornbeamref04_number.f ak).bind fun ac => ((hornbeamref04_number.f (aa.take 4)).bind fun ab => (some (ac, ab)))) = some (r1, r2) := by first | (rw [ap]; with_reducible exact H) | (have an := (Option.bind_some _ _).symm.trans H; rw [ap]; with_reducible exact an) | (have an := (Option.bind_some _ _).symm.trans H; with_reducible exact an) | with_reducible exact H | (rw [ap]; exact H) | exact H
  have a9 := aaM ap; clear ap; replace H := ooB.mp H; obtain ⟨ac, ba, H⟩ := H; replace H : ((hornbeamref04_number.f (aa.take 4)).bind fun ab => (some (ac, ab))) = some (r1, r2) := H; have A7 := aaM ba; clear ba; have c8b0 := eq_true (of_decide_eq_true (by first | (with_reducible assumption) | assumption) : 4 ≤ (aa.length : Int)); obtain ⟨aq, ar⟩ : ∃ y_ : List Int, y_ = (aa.take 4) := ⟨_, rfl⟩
  replace H : ((hornbeamref04_number.f aq).bind fun ab => (some (ac, ab))) = some (r1, r2) := by first | (rw [ar]; with_reducible exact H) | (have an := (Option.bind_some _ _).symm.trans H; rw [ar]; with_reducible exact an) | (have an := (Option.bind_some _ _).symm.trans H; with_reducible exact an) | with_reducible exact H | (rw [ar]; exact H) | exact H
  have bb := aaM ar; clear ar; replace H := ooB.mp H; obtain ⟨ab, bc, H⟩ := H; (try dsimp only at H); have A9 := aaM bc; clear bc; simp only [Option.some.injEq, Prod.mk.injEq] at H; obtain ⟨rfl, rfl⟩ := H; go_enter Try.func59, Try.ntmps59
  (try go_wp2_with (first | ((with_reducible refine gate_dst (N := 4) rfl ?_); refine bxF w HB 4 #[.int .u64 0, .int .u64 0] 30 ?_; intro bo hg b8 hb af HB bp; have b9 := bp; clear hb hg) | ((with_reducible refine gate_callee (f := 32) rfl ?_); refine gL (some 7) Try.func32 #[.int .u64 a0] ?_; (with_reducible refine (hornbeamref04_Digits.calls a0 am _ A3.out).mono ?_); rintro e ca ⟨cb, rfl, ag, hb⟩; refine ⟨_, rfl, ?_⟩; have ae := aaM (Kd.R_lower ag (lZ (lB HB))); replace af := bY hb af; replace HB := aaM (lP (lB HB) hb); (try clear hb); (try clear ag)) | ((with_reducible refine gate_callee (f := 32) rfl ?_); refine gL (some 9) Try.func32 #[.int .u64 a1] ?_; (with_reducible refine (hornbeamref04_Digits.calls a1 aj _ A4.out).mono ?_); rintro e cc ⟨cd, rfl, ag, hb⟩; refine ⟨_, rfl, ?_⟩; have ah := aaM (Kd.R_lower (Kd.R_new' ag (Kd.R_lt (rZ ae))) (lZ (lB HB))); replace ae := aaM (Kd.R_elder' (rZ ae) (Kd.R_base ag) hb); replace af := bY hb af; replace HB := aaM (lP (lB HB) hb); (try clear hb); (try clear ag); obtain ⟨bq, br, bs⟩ := Kd.R_slice ae.out; subst bs; obtain ⟨bt, bu, bv⟩ := Kd.R_slice ah.out; subst bv) | ((with_reducible refine gate_callee (f := 30) rfl ?_); refine gL (some 10) Try.func30 #[.slice bq am.length br, .slice bt aj.length bu] ?_; (with_reducible refine (hornbeamref04_Product.calls k _ _ am _ _ aj aa _ ?side1 ?side2 ?side3 ?side4 A5.out).mono ?_); (case side1 => repeat (first | exact (Kd.R_reads' ae.out).2.2 | (with_reducible refine ccA ?_ _) | (with_reducible refine ccN ?_ _) | (with_reducible refine ccD ?_))); (case side2 => exact (Kd.R_reads' ae.out).2.1); (case side3 => repeat (first | exact (Kd.R_reads' ah.out).2.2 | (with_reducible refine ccA ?_ _) | (with_reducible refine ccN ?_ _) | (with_reducible refine ccD ?_))); (case side4 => exact (Kd.R_reads' ah.out).2.1); rintro e bw ⟨ce, rfl, ag, hb⟩; refine ⟨_, rfl, ?_⟩; have al := aaM (Kd.R_lower (Kd.R_new' (Kd.R_new' ag (Kd.R_lt (rZ ae))) (Kd.R_lt (rZ ah))) (lZ (lB HB))); replace ae := aaM (Kd.R_elder' (rZ ae) (Kd.R_base ag) hb); replace ah := aaM (Kd.R_elder' (rZ ah) (Kd.R_base ag) hb); replace af := bY hb af; replace HB := aaM (lP (lB HB) hb); (try clear hb); (try clear ag))))
  replace ae := aaM (rrD ae.out); replace ah := aaM (rrD ah.out); replace al := aaM (rrD al.out); replace af := aaM (bD af.out); replace HB := aaM (lD HB.out); obtain ⟨ao, ai, be⟩ := Kd.R_slice al.out; (first | subst be | (injection be with bf bz bg; have b0 := bf.symm; have b1 := bg.symm; clear bf bz bg; subst b0; subst b1)); have ax : (4 : Int) ≤ ((aa.length : Int) : Int) := of_decide_eq_true (by first | (with_reducible assumption) | assumption); obtain ⟨i017, bh, _, bi, _⟩ := info_parts info28; have hroom17 : aa.length ≤ ai := (Kd.R_reads' al.out).2.1; have bj : Kd.C (Kd.int .u64) _ ao aa.length aa := (Kd.R_reads' al.out).2.2; have b2 := cut_from (P := Try.prog) 74 28 .i64 Try.underlying74 bh 1 bi ao aa.length ai 4 (by omega) ax; have au := Kd.C_drop (m := (4 : Int).toNat) (c := ai) bj (by omega) hroom17; obtain ⟨bk, av⟩ : ∃ A1, A1 = (if ai = (4 : Int).toNat then ao else (ao : Option Addr).map (·.add ((4 : Int).toNat * 1))) := ⟨_, rfl⟩; obtain ⟨bl, ay⟩ : ∃ c1, c1 = ai - (4 : Int).toNat := ⟨_, rfl⟩; have aw : ak.length = aa.length - (4 : Int).toNat := (by rw [a9.out, ddD] <;> omega); rw [show (aa).drop (4 : Int).toNat = ak from a9.out.symm] at au; replace au : Kd.C (Kd.int .u64) _ bk ak.length ak := (by rw [av]; exact au); rw [← aw, ← av, ← ay] at b2; have az := aaM au; have b3 := aaM (show ak.length ≤ bl from by rw [aw, ay]; exact Nat.sub_le_sub_right hroom17 _); clear au bj hroom17 bh bi ay; have cf := aaM aw; have cg := aaM av; clear aw av; have ch := aaM (show 4 ≤ aa.length from by omega); replace ax := eq_true ax; have a2 : (4 : Int) ≤ ((aa.length : Int) : Int) := of_decide_eq_true (by first | (with_reducible assumption) | assumption); obtain ⟨i019, bm, _, b4, _⟩ := info_parts info28; have hroom19 : aa.length ≤ ai := (Kd.R_reads' al.out).2.1; have bn : Kd.C (Kd.int .u64) _ ao aa.length aa := (Kd.R_reads' al.out).2.2; have b5 := cut_to (P := Try.prog) 74 28 .i64 Try.underlying74 bm ao aa.length ai 4 (by omega) a2 hroom19; have a3 := Kd.C_take (m := 4) bn (by omega); have a4 : aq.length = (4 : Int).toNat := (by rw [bb.out, ddT]; omega); rw [← bb.out] at a3; rw [← a4] at b5; have a5 := aaM a3; have b6 := aaM (show aq.length ≤ ai from by omega); clear a3 bn hroom19 bm b4; have ci := aaM a4; clear a4; have cj := aaM (show 4 ≤ aa.length from by omega); replace a2 := eq_true a2; refine start_ (n := 8) (S := fun w' => True) (ds := []) #[false, false, false, false, false, false, false, false] (by kernel_rfl) rfl rfl trivial (fun hHeld => ?_); refine with_tabW hornbeamref04_Mul.tab2 hornbeamref04_Mul.bits2 (fun HT_ HW_ => ?_); generalize bw.drew = ck at ae ah al af HB az a5 hHeld ⊢
  refine pU 0 11 (qB 8 1) HT_ ?_
  refine pU 1 12 (qB 8 3) HT_ ?_
  refine pU 3 14 (qB 8 11) HT_ ?_
  refine pU 4 15 (qB 8 27) HT_ ?_
  refine oU 2 (some 13) (qB 8 31) HT_ (fun K hK => ?_); refine gU Try.func58 #[.slice bk ak.length bl] ?_; (with_reducible refine (hornbeamref04_number.calls _ _ ak ac _ ?side1 ?side2 A7.out).mono ?_); (case side1 => repeat (first | exact (by repeat (first | (with_reducible exact az.out) | (with_reducible refine ccA ?_ _) | (with_reducible refine ccN ?_ _) | (with_reducible refine ccD ?_) | exact az.out)) | (with_reducible refine ccA ?_ _) | (with_reducible refine ccN ?_ _) | (with_reducible refine ccD ?_))); (case side2 => exact b3.out); rintro e w' ⟨rfl, ⟨nd, rfl⟩⟩; refine ⟨_, rfl, ?_⟩; refine hK.out _ _ trivial (fun hHeld => ?_); clear hK K; refine nU 13 ?_
  refine oU 5 (some 16) (qB 8 63) HT_ (fun K hK => ?_); refine gU Try.func58 #[.slice ao aq.length ai] ?_; (with_reducible refine (hornbeamref04_number.calls _ _ aq ab _ ?side1 ?side2 A9.out).mono ?_); (case side1 => repeat (first | exact (by repeat (first | (with_reducible exact a5.out) | (with_reducible refine ccA ?_ _) | (with_reducible refine ccN ?_ _) | (with_reducible refine ccD ?_) | exact a5.out)) | (with_reducible refine ccA ?_ _) | (with_reducible refine ccN ?_ _) | (with_reducible refine ccD ?_))); (case side2 => exact b6.out); rintro e w' ⟨rfl, ⟨nd, rfl⟩⟩; refine ⟨_, rfl, ?_⟩; refine hK.out _ _ trivial (fun hHeld => ?_); clear hK K; refine nU 16 ?_
  refine pU 6 17 (qB 8 127) HT_ ?_
  refine oU 7 none (qB 8 255) HT_ (fun K hK => ?_); obtain ⟨cl, cm, cn, cp⟩ := bE2 af.out; refine skip_ (w1 := ?_) (by rfl) rfl ?_ ?_; rotate_left
  ·go_simp
   rfl
  refine hK.out _ _ trivial (fun hHeld => ?_); clear hK K; refine done_ (done_of HT_.out (by kernel_rfl)) ?_; (try go_wp2); refine bodyPost_ret (results_cell_row rfl _ _ bo 30 #[.int .u64 ac, .int .u64 ab] (0, 0) _ rfl (bZ af) Try.underlying30 rfl (by kernel_rfl)) rfl ?_
  exact ⟨eE, lB HB⟩
 ·rw [if_neg c6] at H
  exact absurd H (by simp)

/-! ### hornbeamref14_Squares: function 43 -/
def hornbeamref14_Squares.l0 : Nat → List Int → Int → Int → Int → Option (Int × Int)
 | 0, _, _, _, _ => none
 | k + 1, x0, x4, x492000, x492001 => if x4 < (x0.length : Int) then (if 0 ≤ x4 then ((hornbeamref04_Mul.f k (IntKind.u64.wrap (rd x0 x4)) (IntKind.u64.wrap (rd x0 x4))).bind fun bt494 => ((hornbeamref04_Add.f k x492000 x492001 bt494.1 bt494.2).bind fun bt496 => (hornbeamref14_Squares.l0 k x0 (wrap64 (x4 + 1)) bt496.1 bt496.2.1))) else (none)) else (some (x492000, x492001))
def hornbeamref14_Squares.f (k : Nat) (l0 : List Int) : Option (Int × Int) := hornbeamref14_Squares.l0 k l0 0 0 0
theorem hornbeamref14_Squares.mono_l : ∀ k, (∀ y0 y1 y2 y3, LeO (hornbeamref14_Squares.l0 k y0 y1 y2 y3) (hornbeamref14_Squares.l0 (k + 1) y0 y1 y2 y3))
 | 0 => fun _ _ _ _ r h => by simp [hornbeamref14_Squares.l0] at h
 | k + 1 => by
  have ih0 := hornbeamref14_Squares.mono_l k
  ·intro y0 y1 y2 y3
   unfold hornbeamref14_Squares.l0
   with_reducible repeat' first | apply ih0 | apply hornbeamref04_Add.mono | apply hornbeamref04_Mul.mono | apply LeO.refl | apply LeO.none | refine LeO.ite ?_ ?_ | refine LeO.bind ?_ (fun _ => ?_)
theorem hornbeamref14_Squares.mono : ∀ a0 k, LeO (hornbeamref14_Squares.f k a0) (hornbeamref14_Squares.f (k + 1) a0) := by
 intro a0 k
 have ih0 := hornbeamref14_Squares.mono_l k
 unfold hornbeamref14_Squares.f
 with_reducible repeat' first | apply ih0 | apply hornbeamref04_Add.mono | apply hornbeamref04_Mul.mono | apply LeO.refl | apply LeO.none | refine LeO.ite ?_ ?_ | refine LeO.bind ?_ (fun _ => ?_)
def hornbeamref14_Squares.T5 : Bool × List (List Nat × List Nat) := (true, [([], []), ([], []), ([], []), ([1, 2], [1, 2]), ([3], [3]), ([4], [4]), ([], []), ([], []), ([6, 7], [6, 7]), ([8], [8]), ([9], [9]), ([5, 10], [5, 10]), ([0, 11, 11], [0, 11]), ([12], [12]), ([13], [13]), ([13], [13]), ([14, 12, 0, 1, 2, 3, 4, 5, 6, 7, 8, 9, 10, 11, 12, 13, 14], [14])])
def hornbeamref14_Squares.B5 : List Nat := [0, 0, 0, 6, 14, 30, 0, 0, 192, 448, 960, 2046, 4095, 8191, 16383, 16383, 32767]
theorem hornbeamref14_Squares.tab5 : rtab .any (opsOf Try.f43 5) = hornbeamref14_Squares.T5 := by kernel_rfl
theorem hornbeamref14_Squares.bits5 : waitsOk hornbeamref14_Squares.T5.2 hornbeamref14_Squares.B5 = true := by kernel_rfl
set_option maxHeartbeats 8000000 in
set_option maxRecDepth 100000 in
theorem hornbeamref14_Squares.calls (k : Nat) (A0 : Option Addr) (c0 : Nat) (l0 : List Int) (r1 : Int) (r2 : Int) (w : World) (ay : Kd.C (Kd.int .i64) w A0 l0.length l0) (az : l0.length ≤ c0) (h : hornbeamref14_Squares.f k l0 = some (r1, r2)) :
  Calls Try.prog 43 #[.slice A0 l0.length c0] w fun e w' => e = .returned (.agg #[.int .u64 r1, .int .u64 r2]) ∧ Below w.heap.size w w' := by
 have bh := Try.underlying30
 have a0 := aaM ay
 have bi := aaM az
 clear ay az
 have HB := aaM (Below.refl w.heap.size w)
 have H : (hornbeamref14_Squares.l0 k l0 0 0 0) = some (r1, r2) := h
 clear h
 have H' := aaM H
 clear H
 go_enter Try.func43, Try.ntmps43
 go_wp2_with (first | ((with_reducible refine gate_dst (N := 2) rfl ?_); refine bxF w HB 2 #[.int .u64 0, .int .u64 0] 30 ?_; intro a1 hg w2 hb ac HB a6; have bj := a6; clear hb hg) | ((with_reducible refine gate_dst (N := 3) rfl ?_); refine bxF w HB 3 #[.int .u64 0, .int .u64 0] 30 ?_; intro ao hg w3 hb ab HB a7; have bk := a7; obtain ⟨ak, al⟩ := nS hg ac; replace ac := bY hb ac; clear hb hg; have := al.out; have := ak.out; obtain ⟨a8, a9, ba, bb⟩ := bE2 ab.out))
 go_loopg [4] k (fun kq v4 w' => ∃ (aa : Int) (ae : Int) (af : Int), v4 = .int .i64 aa ∧ Aside0 (hornbeamref14_Squares.l0 kq l0 aa ae af = some (r1, r2)) ∧ Aside0 (kq ≤ k) ∧ Aside0 (w'.heap[a1]? = some (.cells #[.int .u64 0, .int .u64 0] 30 (0, 0))) ∧ Aside0 (w'.heap[ao]? = some (.cells #[.int .u64 ae, .int .u64 af] 30 (0, 0))) ∧ Aside0 (Below w.heap.size w w'))
 case atStart => exact ⟨(0), (0), (0), (eF), H', ⟨Nat.le_refl _⟩, ⟨bZ ac⟩, ⟨bZ ab⟩, ⟨lB HB⟩⟩
 case round =>
  clear H'; (try clear a8); (try clear a9); (try clear ba); (try clear bb); obtain ⟨aa, ae, af, rfl, HA, a2, ac, ab, HB⟩ := hrel
  cases gk with
  | zero => exact absurd HA.out (by simp [hornbeamref14_Squares.l0])
  | succ k1 =>
   have H := HA.out; clear HA; simp only [hornbeamref14_Squares.l0] at H
   by_cases c6 : aa < (l0.length : Int)
   ·rw [if_pos c6] at H
    have c6b0 : decide (aa < (l0.length : Int)) = true := decide_eq_true c6; clear c6
    by_cases c7 : 0 ≤ aa
    ·rw [if_pos c7] at H
     have c7b0 : decide (0 ≤ aa) = true := decide_eq_true c7; clear c7; replace H := ooB.mp H; obtain ⟨⟨am, an⟩, a3, H⟩ := H; replace H : ((hornbeamref04_Add.f k1 ae af am an).bind fun a4 => (hornbeamref14_Squares.l0 k1 l0 (wrap64 (aa + 1)) a4.1 a4.2.1)) = some (r1, r2) := H; have A8 := aaM a3; clear a3; replace H := ooB.mp H; obtain ⟨⟨ap, aq, bc⟩, a5, H⟩ := H; (try dsimp only at H); have A9 := aaM a5; clear a5; have H' := aaM H; clear H; (try go_wp2); replace ac := aaM (bD ac.out); replace ab := aaM (bD ab.out); replace HB := aaM (lD HB.out); have ar : 0 ≤ (aa : Int) := of_decide_eq_true (by first | (with_reducible assumption) | assumption); have au : aa < (l0.length : Int) := of_decide_eq_true (by first | (with_reducible assumption) | assumption); obtain ⟨av, bd, ai⟩ := Kd.at_int a0.out aa ar au; have ag := ai
     cases bd
     replace ai := (HB.out.cell (World.block_lt_of_cell? w _ ai)).trans ai; replace ar := eq_true ar; replace au := eq_true au; have aw : 0 ≤ (aa : Int) := of_decide_eq_true (by first | (with_reducible assumption) | assumption); have ax : aa < (l0.length : Int) := of_decide_eq_true (by first | (with_reducible assumption) | assumption); obtain ⟨be, bf, aj⟩ := Kd.at_int a0.out aa aw ax; have ah := aj; obtain rfl : av = be := (by injection bf); replace aj := (HB.out.cell (World.block_lt_of_cell? w _ aj)).trans aj; replace aw := eq_true aw; replace ax := eq_true ax; refine start_ (n := 17) (S := fun w' => w'.cell? ⟨ao, 0, none⟩ = some (.int .u64 ae) ∧ w'.cell? ⟨ao, 1, none⟩ = some (.int .u64 af) ∧ w'.cell? (av.add (aa).toNat) = some (.int .i64 (rd l0 aa)) ∧ w'.cell? (av.add (aa).toNat) = some (.int .i64 (rd l0 aa))) (ds := [16]) #[false, false, false, false, false, false, false, false, false, false, false, false, false, false, false, false, false] (by kernel_rfl) rfl rfl ⟨(bC ab.out 0).trans rfl, (bC ab.out 1).trans rfl, ((HB.out.cell (World.block_lt_of_cell? w _ ag)).trans ag), ((HB.out.cell (World.block_lt_of_cell? w _ ah)).trans ah)⟩ (fun hHeld => ?_); refine with_tabW hornbeamref14_Squares.tab5 hornbeamref14_Squares.bits5 (fun HT_ HW_ => ?_); generalize wr.drew = bl at ac ab HB ai aj hHeld ⊢; refine pU 1 14 (qB 17 2) HT_ ?_
     refine pU 2 15 (qB 17 6) HT_ ?_
     refine pU 3 16 (qB 17 14) HT_ ?_
     refine pU 6 19 (qB 17 78) HT_ ?_
     refine pU 7 20 (qB 17 206) HT_ ?_
     refine pU 8 21 (qB 17 462) HT_ ?_
     refine tU 0 13 (qB 17 463) HT_ HW_ hHeld ?_
     refine tU 4 17 (qB 17 479) HT_ HW_ hHeld ?_
     refine pU 5 18 (qB 17 511) HT_ ?_
     refine tU 9 22 (qB 17 1023) HT_ HW_ hHeld ?_
     refine pU 10 23 (qB 17 2047) HT_ ?_
     refine oU 11 (some 24) (qB 17 4095) HT_ (fun K hK => ?_); refine gU Try.func59 #[.int .u64 (IntKind.u64.wrap (rd l0 aa)), .int .u64 (IntKind.u64.wrap (rd l0 aa))] ?_; (with_reducible refine (hornbeamref04_Mul.calls k1 (IntKind.u64.wrap (rd l0 aa)) (IntKind.u64.wrap (rd l0 aa)) am an _ A8.out).mono ?_); rintro e bm ⟨rfl, hb⟩; refine ⟨_, rfl, ?_⟩; replace ac := bY hb ac; replace ab := bY hb ab; replace HB := aaM (lP (lB HB) hb); (try clear hb); refine hK.out _ _ ⟨(bC ab.out 0).trans rfl, (bC ab.out 1).trans rfl, ((HB.out.cell (World.block_lt_of_cell? w _ ag)).trans ag), ((HB.out.cell (World.block_lt_of_cell? w _ ah)).trans ah)⟩ (fun hHeld => ?_); clear hK K; refine nU 24 ?_
     refine oU 12 (some 25) (qB 17 8191) HT_ (fun K hK => ?_); refine gU Try.func44 #[.agg #[.int .u64 ae, .int .u64 af], .agg #[.int .u64 am, .int .u64 an]] ?_; (with_reducible refine (hornbeamref04_Add.calls k1 ae af am an ap aq bc _ A9.out).mono ?_); rintro e bn ⟨rfl, hb⟩; refine ⟨_, rfl, ?_⟩; replace ac := bY hb ac; replace ab := bY hb ab; replace HB := aaM (lP (lB HB) hb); (try clear hb); refine hK.out _ _ ⟨(bC ab.out 0).trans rfl, (bC ab.out 1).trans rfl, ((HB.out.cell (World.block_lt_of_cell? w _ ag)).trans ag), ((HB.out.cell (World.block_lt_of_cell? w _ ah)).trans ah)⟩ (fun hHeld => ?_); clear hK K; refine nU 25 ?_
     refine pU 13 12 (qB 17 16383) HT_ ?_
     refine pU 14 26 (qB 17 32767) HT_ ?_
     refine pU 15 27 (qB 17 65535) HT_ ?_
     refine last_ (i := 16) (N := none) #[true, true, true, true, true, true, true, true, true, true, true, true, true, true, true, true, true] rfl rfl (one_of HT_.out (by kernel_rfl)) (by decide) (fun K hK => ?_); obtain ⟨bo, -, bp, -⟩ := bE2 ab.out; have := ak.out; have := al.out; obtain ⟨-, bq, -, br⟩ := bE2 ab.out; have := ak.out; have := al.out; refine skip_ (w1 := ?_) (by rfl) rfl ?_ ?_; rotate_left
     ·go_simp
      rfl
     refine hK.out _ _ ?_; clear hK K; refine done_ (done_of HT_.out (by kernel_rfl)) ?_; (try go_wp2)
     go_roundg k1
     case measure => have := a2.out; omega
     case rel => exact ⟨(wrap64 (aa + 1)), (ap), (aq), (eF), H', ⟨by have := a2.out; omega⟩, ⟨bZ ac⟩, ⟨bZ ab⟩, ⟨lB HB⟩⟩
    ·rw [if_neg c7] at H
     exact absurd H (by simp)
   ·rw [if_neg c6] at H
    have c6b0 : decide (aa < (l0.length : Int)) = false := decide_eq_false c6; clear c6; simp only [Option.some.injEq, Prod.mk.injEq] at H; obtain ⟨rfl, rfl⟩ := H; have := al.out; have := ak.out; obtain ⟨_, _, _, _⟩ := bE2 ab.out; obtain ⟨_, _, _, _⟩ := bE2 ac.out; go_wp2; refine bodyPost_ret (results_cell_row rfl _ _ a1 30 #[.int .u64 ae, .int .u64 af] (0, 0) _ rfl (bZ ac) Try.underlying30 rfl (by kernel_rfl)) rfl ?_
    exact ⟨eE, lB HB⟩

/-! ### hornbeamref14_Score: function 23 -/
def hornbeamref14_Score.j0 : Nat → List Int → List Int → Bool → Option (Int × Int × Int)
 | 0, _, _, _ => none
 | k + 1, x0, x1, x33 => if x33 = true then (some (0, 0, 0)) else ((hornbeamref14_Squares.f k x0).bind fun bt504 => ((hornbeamref14_Total.f k x1).bind fun t506 => ((hornbeamref04_Times.f k bt504.1 bt504.2 t506).bind fun bt507 => ((hornbeamref14_Squares.f k x1).bind fun bt511 => ((hornbeamref14_Total.f k x0).bind fun t513 => ((hornbeamref04_Times.f k bt511.1 bt511.2 t513).bind fun bt514 => ((hornbeamref04_Add.f k bt507.2.1 bt507.2.2 bt514.2.1 bt514.2.2).bind fun bt518 => ((hornbeamref14_Total.f k x0).bind fun t522 => ((hornbeamref14_Total.f k x1).bind fun t523 => (some (bt518.1, bt518.2.1, IntKind.u64.wrap (t522 * t523))))))))))))
def hornbeamref14_Score.f (k : Nat) (l0 : List Int) (l1 : List Int) : Option (Int × Int × Int) := (hornbeamref14_May.f k l0).bind fun t500 => (if t500 = true then ((hornbeamref14_May.f k l1).bind fun t501 => (if t501 = true then (if (l0.length : Int) = (l1.length : Int) then ((hornbeamref14_Total.f k l0).bind fun t502 => (if t502 = 0 then (hornbeamref14_Score.j0 k l0 l1 true) else ((hornbeamref14_Total.f k l1).bind fun t503 => (hornbeamref14_Score.j0 k l0 l1 (t503 == 0))))) else (hornbeamref14_Score.j0 k l0 l1 true)) else (hornbeamref14_Score.j0 k l0 l1 true))) else (hornbeamref14_Score.j0 k l0 l1 true))
theorem hornbeamref14_Score.mono_l : ∀ k, (∀ y0 y1 y2, LeO (hornbeamref14_Score.j0 k y0 y1 y2) (hornbeamref14_Score.j0 (k + 1) y0 y1 y2))
 | 0 => fun _ _ _ r h => by simp [hornbeamref14_Score.j0] at h
 | k + 1 => by
  have ih0 := hornbeamref14_Score.mono_l k
  ·intro y0 y1 y2
   unfold hornbeamref14_Score.j0
   with_reducible repeat' first | apply ih0 | apply hornbeamref04_Add.mono | apply hornbeamref04_Times.mono | apply hornbeamref14_May.mono | apply hornbeamref14_Squares.mono | apply hornbeamref14_Total.mono | apply LeO.refl | apply LeO.none | refine LeO.ite ?_ ?_ | refine LeO.bind ?_ (fun _ => ?_)
theorem hornbeamref14_Score.mono : ∀ a0 a1 k, LeO (hornbeamref14_Score.f k a0 a1) (hornbeamref14_Score.f (k + 1) a0 a1) := by
 intro a0 a1 k
 have ih0 := hornbeamref14_Score.mono_l k
 unfold hornbeamref14_Score.f
 with_reducible repeat' first | apply ih0 | apply hornbeamref04_Add.mono | apply hornbeamref04_Times.mono | apply hornbeamref14_May.mono | apply hornbeamref14_Squares.mono | apply hornbeamref14_Total.mono | apply LeO.refl | apply LeO.none | refine LeO.ite ?_ ?_ | refine LeO.bind ?_ (fun _ => ?_)
def hornbeamref14_Score.T6 : Bool × List (List Nat × List Nat) := (true, [([], []), ([], []), ([1], [1]), ([], []), ([3, 2], [3]), ([2, 4], [2, 4]), ([0, 5], [0, 5]), ([6, 4, 0, 1, 2, 3, 4, 5, 6], [6])])
def hornbeamref14_Score.B6 : List Nat := [0, 0, 2, 0, 14, 30, 63, 127]
theorem hornbeamref14_Score.tab6 : rtab .any (opsOf Try.f23 6) = hornbeamref14_Score.T6 := by kernel_rfl
theorem hornbeamref14_Score.bits6 : waitsOk hornbeamref14_Score.T6.2 hornbeamref14_Score.B6 = true := by kernel_rfl
set_option maxHeartbeats 8000000 in
set_option maxRecDepth 100000 in
theorem hornbeamref14_Score.calls (k : Nat) (A0 : Option Addr) (c0 : Nat) (l0 : List Int) (A1 : Option Addr) (c1 : Nat) (l1 : List Int) (r1 : Int) (r2 : Int) (r3 : Int) (w : World) (bw : Kd.C (Kd.int .i64) w A0 l0.length l0) (bz : l0.length ≤ c0) (b0 : Kd.C (Kd.int .i64) w A1 l1.length l1) (b1 : l1.length ≤ c1) (h : hornbeamref14_Score.f k l0 l1 = some (r1, r2, r3)) :
  Calls Try.prog 23 #[.slice A0 l0.length c0, .slice A1 l1.length c1] w fun e w' => e = .returned (.agg #[.int .u64 r1, .int .u64 r2, .int .u64 r3]) ∧ Below w.heap.size w w' := by
 have dk := Try.underlying32
 have dl := Try.underlying87
 have dm := Try.underlying30
 have au := aaM bw
 have av := aaM bz
 clear bw bz
 have ay := aaM b0
 have az := aaM b1
 clear b0 b1
 have HB := aaM (Below.refl w.heap.size w)
 have H : ((hornbeamref14_May.f k l0).bind fun bh => (if bh = true then ((hornbeamref14_May.f k l1).bind fun a0 => (if a0 = true then (if (l0.length : Int) = (l1.length : Int) then ((hornbeamref14_Total.f k l0).bind fun ah => (if ah = 0 then (hornbeamref14_Score.j0 k l0 l1 true) else ((hornbeamref14_Total.f k l1).bind fun aj => (hornbeamref14_Score.j0 k l0 l1 (aj == 0))))) else (hornbeamref14_Score.j0 k l0 l1 true)) else (hornbeamref14_Score.j0 k l0 l1 true))) else (hornbeamref14_Score.j0 k l0 l1 true))) = some (r1, r2, r3) := h
 clear h
 have bs := aaM H
 clear H
 go_enter Try.func23, Try.ntmps23
 go_upto_region 1 with (first | ((with_reducible refine gate_dst (N := 4) rfl ?_); (try (refine gate_guard (by rfl) ?_; dsimp only)); refine bxF w HB 4 #[.int .u64 0, .int .u64 0, .int .u64 0] 32 ?_; intro a1 hg w4 hb ab HB ci; have dn := ci; clear hb hg))
 (try simp only [Act.put, ssB, ssZ, ssS])
 go_cut [33] (fun cj wc => ∃ (kq : Nat) (bi : Bool), cj = .bool bi ∧ Aside0 (hornbeamref14_Score.j0 kq l0 l1 bi = some (r1, r2, r3)) ∧ Aside0 (kq ≤ k) ∧ Aside0 (wc.heap[a1]? = some (.cells #[.int .u64 0, .int .u64 0, .int .u64 0] 32 (0, 0))) ∧ Aside0 (Below w.heap.size w wc))
 case first =>
  have H := bs.out; clear bs; replace H := ooB.mp H; obtain ⟨bh, b2, H⟩ := H; (try dsimp only at H); have A5 := aaM b2; clear b2
  by_cases c6 : bh = true
  ·subst c6
   have H1 : ((hornbeamref14_May.f k l1).bind fun a0 => (if a0 = true then (if (l0.length : Int) = (l1.length : Int) then ((hornbeamref14_Total.f k l0).bind fun ah => (if ah = 0 then (hornbeamref14_Score.j0 k l0 l1 true) else ((hornbeamref14_Total.f k l1).bind fun aj => (hornbeamref14_Score.j0 k l0 l1 (aj == 0))))) else (hornbeamref14_Score.j0 k l0 l1 true)) else (hornbeamref14_Score.j0 k l0 l1 true))) = some (r1, r2, r3) := by rw [if_pos rfl] at H; exact H
   clear H; have H := H1; clear H1; replace H := ooB.mp H; obtain ⟨a0, b3, H⟩ := H; (try dsimp only at H); have A7 := aaM b3; clear b3
   by_cases c8 : a0 = true
   ·subst c8
    have H1 : (if (l0.length : Int) = (l1.length : Int) then ((hornbeamref14_Total.f k l0).bind fun ah => (if ah = 0 then (hornbeamref14_Score.j0 k l0 l1 true) else ((hornbeamref14_Total.f k l1).bind fun aj => (hornbeamref14_Score.j0 k l0 l1 (aj == 0))))) else (hornbeamref14_Score.j0 k l0 l1 true)) = some (r1, r2, r3) := by rw [if_pos rfl] at H; exact H
    clear H; have H := H1; clear H1
    by_cases c9 : (l0.length : Int) = (l1.length : Int)
    ·rw [if_pos c9] at H
     have c9b0 : ((l0.length : Int) == (l1.length : Int)) = true := beq_iff_eq.mpr c9; have c9b1 : ((l0.length : Int) != (l1.length : Int)) = false := bne_eq_false_iff_eq.mpr c9
     have c9b2 : (l0.length == l1.length) = true := by first | simpa using c9 | (simp at c9 ⊢; omega)
     clear c9; (first | rw [c9b0] | (simp only [i64_w, i32_w]; rw [c9b0]) | skip); replace H := ooB.mp H; obtain ⟨ah, b4, H⟩ := H; (try dsimp only at H); have b5 := aaM b4; clear b4
     by_cases a2 : ah = 0
     ·rw [if_pos a2] at H
      have c11b0 : (ah == 0) = true := beq_iff_eq.mpr a2; have c11b1 : (ah != 0) = false := bne_eq_false_iff_eq.mpr a2; clear a2; have H' := aaM H; clear H
      go_wp2_with (first | ((with_reducible refine gate_callee (f := 41) rfl ?_); refine gL (some 10) Try.func41 #[.slice A0 l0.length c0] ?_; (with_reducible refine (hornbeamref14_May.calls k _ _ l0 true _ ?side1 ?side2 A5.out).mono ?_); (case side1 => exact cZ (ccB au.out HB.out)); (case side2 => exact av.out); rintro e w' ⟨rfl, ⟨nd, rfl⟩⟩; refine ⟨_, rfl, ?_⟩) | (go_at_call 41; (with_reducible refine (hornbeamref14_May.calls k _ _ l1 true _ ?side1 ?side2 A7.out).mono ?_); (case side1 => exact cZ (ccB ay.out (lB HB))); (case side2 => exact az.out); rintro e w' ⟨rfl, ⟨nd, rfl⟩⟩) | (go_at_call 25; (with_reducible refine (hornbeamref14_Total.calls k _ _ l0 ah _ ?side1 ?side2 b5.out).mono ?_); (case side1 => exact cZ (ccB au.out (lB HB))); (case side2 => exact av.out); rintro e w' ⟨rfl, ⟨nd, rfl⟩⟩))
      go_meet
      case rel => exact ⟨_, (true), (eF), H', ⟨by first | omega | exact Nat.le_refl _⟩, ⟨bZ ab⟩, ⟨lB HB⟩⟩
     ·rw [if_neg a2] at H
      have c11b0 : (ah == 0) = false := beq_eq_false_iff_ne.mpr a2; have c11b1 : (ah != 0) = true := bne_iff_ne.mpr a2; replace H := ooB.mp H; obtain ⟨aj, b6, H⟩ := H; (try dsimp only at H); have ck := aaM b6; clear b6; have H' := aaM H; clear H
      go_wp2_with (first | ((with_reducible refine gate_callee (f := 41) rfl ?_); refine gL (some 10) Try.func41 #[.slice A0 l0.length c0] ?_; (with_reducible refine (hornbeamref14_May.calls k _ _ l0 true _ ?side1 ?side2 A5.out).mono ?_); (case side1 => exact cZ (ccB au.out HB.out)); (case side2 => exact av.out); rintro e w' ⟨rfl, ⟨nd, rfl⟩⟩; refine ⟨_, rfl, ?_⟩) | (go_at_call 41; (with_reducible refine (hornbeamref14_May.calls k _ _ l1 true _ ?side1 ?side2 A7.out).mono ?_); (case side1 => exact cZ (ccB ay.out (lB HB))); (case side2 => exact az.out); rintro e w' ⟨rfl, ⟨nd, rfl⟩⟩) | (go_at_call 25; (with_reducible refine (hornbeamref14_Total.calls k _ _ l0 ah _ ?side1 ?side2 b5.out).mono ?_); (case side1 => exact cZ (ccB au.out (lB HB))); (case side2 => exact av.out); rintro e w' ⟨rfl, ⟨nd, rfl⟩⟩) | (go_at_call 25; (with_reducible refine (hornbeamref14_Total.calls k _ _ l1 aj _ ?side1 ?side2 ck.out).mono ?_); (case side1 => exact cZ (ccB ay.out (lB HB))); (case side2 => exact az.out); rintro e w' ⟨rfl, ⟨nd, rfl⟩⟩))
      go_meet
      case rel => exact ⟨_, ((aj == 0)), (eF), H', ⟨by first | omega | exact Nat.le_refl _⟩, ⟨bZ ab⟩, ⟨lB HB⟩⟩
    ·rw [if_neg c9] at H
     have c9b0 : ((l0.length : Int) == (l1.length : Int)) = false := beq_eq_false_iff_ne.mpr c9; have c9b1 : ((l0.length : Int) != (l1.length : Int)) = true := bne_iff_ne.mpr c9
     have c9b2 : (l0.length == l1.length) = false := by first | simpa using c9 | (simp at c9 ⊢; omega)
     (first | rw [c9b0] | (simp only [i64_w, i32_w]; rw [c9b0]) | skip); have H' := aaM H; clear H
     go_wp2_with (first | ((with_reducible refine gate_callee (f := 41) rfl ?_); refine gL (some 10) Try.func41 #[.slice A0 l0.length c0] ?_; (with_reducible refine (hornbeamref14_May.calls k _ _ l0 true _ ?side1 ?side2 A5.out).mono ?_); (case side1 => exact cZ (ccB au.out HB.out)); (case side2 => exact av.out); rintro e w' ⟨rfl, ⟨nd, rfl⟩⟩; refine ⟨_, rfl, ?_⟩) | (go_at_call 41; (with_reducible refine (hornbeamref14_May.calls k _ _ l1 true _ ?side1 ?side2 A7.out).mono ?_); (case side1 => exact cZ (ccB ay.out (lB HB))); (case side2 => exact az.out); rintro e w' ⟨rfl, ⟨nd, rfl⟩⟩))
     go_meet
     case rel => exact ⟨_, (true), (eF), H', ⟨by first | omega | exact Nat.le_refl _⟩, ⟨bZ ab⟩, ⟨lB HB⟩⟩
   ·replace c8 := Bool.eq_false_iff.mpr c8
    subst c8
    have H1 : (hornbeamref14_Score.j0 k l0 l1 true) = some (r1, r2, r3) := by rw [if_neg (show ¬ (false = true) by decide)] at H; exact H
    clear H; have H := H1; clear H1; have H' := aaM H; clear H
    go_wp2_with (first | ((with_reducible refine gate_callee (f := 41) rfl ?_); refine gL (some 10) Try.func41 #[.slice A0 l0.length c0] ?_; (with_reducible refine (hornbeamref14_May.calls k _ _ l0 true _ ?side1 ?side2 A5.out).mono ?_); (case side1 => exact cZ (ccB au.out HB.out)); (case side2 => exact av.out); rintro e w' ⟨rfl, ⟨nd, rfl⟩⟩; refine ⟨_, rfl, ?_⟩) | (go_at_call 41; (with_reducible refine (hornbeamref14_May.calls k _ _ l1 false _ ?side1 ?side2 A7.out).mono ?_); (case side1 => exact cZ (ccB ay.out (lB HB))); (case side2 => exact az.out); rintro e w' ⟨rfl, ⟨nd, rfl⟩⟩))
    go_meet
    case rel => exact ⟨_, (true), (eF), H', ⟨by first | omega | exact Nat.le_refl _⟩, ⟨bZ ab⟩, ⟨lB HB⟩⟩
  ·replace c6 := Bool.eq_false_iff.mpr c6
   subst c6
   have H1 : (hornbeamref14_Score.j0 k l0 l1 true) = some (r1, r2, r3) := by rw [if_neg (show ¬ (false = true) by decide)] at H; exact H
   clear H; have H := H1; clear H1; have H' := aaM H; clear H
   go_wp2_with (first | ((with_reducible refine gate_callee (f := 41) rfl ?_); refine gL (some 10) Try.func41 #[.slice A0 l0.length c0] ?_; (with_reducible refine (hornbeamref14_May.calls k _ _ l0 false _ ?side1 ?side2 A5.out).mono ?_); (case side1 => exact cZ (ccB au.out HB.out)); (case side2 => exact av.out); rintro e w' ⟨rfl, ⟨nd, rfl⟩⟩; refine ⟨_, rfl, ?_⟩))
   go_meet
   case rel => exact ⟨_, (true), (eF), H', ⟨by first | omega | exact Nat.le_refl _⟩, ⟨bZ ab⟩, ⟨lB HB⟩⟩
 case rest =>
  clear bs; (try clear c1); obtain ⟨kq, bi, rfl, HA, dp, ab, HB⟩ := hcut
  cases kq with
  | zero => exact absurd HA.out (by simp [hornbeamref14_Score.j0])
  | succ aa =>
   have H := HA.out; clear HA; simp only [hornbeamref14_Score.j0] at H
   by_cases bj : bi = true
   ·subst bj
    have H1 : (some (0, 0, 0)) = some (r1, r2, r3) := by rw [if_pos rfl] at H; exact H
    clear H; have H := H1; clear H1; simp only [Option.some.injEq, Prod.mk.injEq] at H; obtain ⟨rfl, rfl, rfl⟩ := H; obtain ⟨_, _, _, _, _, _⟩ := bE3 ab.out; go_wp2; refine bodyPost_ret (results_cell_row rfl _ _ a1 32 #[.int .u64 0, .int .u64 0, .int .u64 0] (0, 0) _ rfl (bZ ab) Try.underlying32 rfl (by kernel_rfl)) rfl ?_
    exact ⟨eE, lB HB⟩
   ·replace bj := Bool.eq_false_iff.mpr bj
    subst bj
    have H1 : ((hornbeamref14_Squares.f aa l0).bind fun b7 => ((hornbeamref14_Total.f aa l1).bind fun a3 => ((hornbeamref04_Times.f aa b7.1 b7.2 a3).bind fun a4 => ((hornbeamref14_Squares.f aa l1).bind fun ap => ((hornbeamref14_Total.f aa l0).bind fun al => ((hornbeamref04_Times.f aa ap.1 ap.2 al).bind fun ai => ((hornbeamref04_Add.f aa a4.2.1 a4.2.2 ai.2.1 ai.2.2).bind fun af => ((hornbeamref14_Total.f aa l0).bind fun ag => ((hornbeamref14_Total.f aa l1).bind fun ae => (some (af.1, af.2.1, IntKind.u64.wrap (ag * ae)))))))))))) = some (r1, r2, r3) := by rw [if_neg (show ¬ (false = true) by decide)] at H; exact H
    clear H; have H := H1; clear H1; replace H := ooB.mp H; obtain ⟨⟨bb, bc⟩, b8, H⟩ := H; replace H : ((hornbeamref14_Total.f aa l1).bind fun a3 => ((hornbeamref04_Times.f aa bb bc a3).bind fun a4 => ((hornbeamref14_Squares.f aa l1).bind fun ap => ((hornbeamref14_Total.f aa l0).bind fun al => ((hornbeamref04_Times.f aa ap.1 ap.2 al).bind fun ai => ((hornbeamref04_Add.f aa a4.2.1 a4.2.2 ai.2.1 ai.2.2).bind fun af => ((hornbeamref14_Total.f aa l0).bind fun ag => ((hornbeamref14_Total.f aa l1).bind fun ae => (some (af.1, af.2.1, IntKind.u64.wrap (ag * ae))))))))))) = some (r1, r2, r3) := H; have cl := aaM b8; clear b8; replace H := ooB.mp H; obtain ⟨a3, b9, H⟩ := H; replace H : ((hornbeamref04_Times.f aa bb bc a3).bind fun a4 => ((hornbeamref14_Squares.f aa l1).bind fun ap => ((hornbeamref14_Total.f aa l0).bind fun al => ((hornbeamref04_Times.f aa ap.1 ap.2 al).bind fun ai => ((hornbeamref04_Add.f aa a4.2.1 a4.2.2 ai.2.1 ai.2.2).bind fun af => ((hornbeamref14_Total.f aa l0).bind fun ag => ((hornbeamref14_Total.f aa l1).bind fun ae => (some (af.1, af.2.1, IntKind.u64.wrap (ag * ae)))))))))) = some (r1, r2, r3) := H; have cm := aaM b9; clear b9; replace H := ooB.mp H; obtain ⟨⟨bd, aq, ar⟩, ca, H⟩ := H; replace H : ((hornbeamref14_Squares.f aa l1).bind fun ap => ((hornbeamref14_Total.f aa l0).bind fun al => ((hornbeamref04_Times.f aa ap.1 ap.2 al).bind fun ai => ((hornbeamref04_Add.f aa aq ar ai.2.1 ai.2.2).bind fun af => ((hornbeamref14_Total.f aa l0).bind fun ag => ((hornbeamref14_Total.f aa l1).bind fun ae => (some (af.1, af.2.1, IntKind.u64.wrap (ag * ae))))))))) = some (r1, r2, r3) := H; have cn := aaM ca; clear ca; replace H := ooB.mp H; obtain ⟨⟨be, bf⟩, cb, H⟩ := H; replace H : ((hornbeamref14_Total.f aa l0).bind fun al => ((hornbeamref04_Times.f aa be bf al).bind fun ai => ((hornbeamref04_Add.f aa aq ar ai.2.1 ai.2.2).bind fun af => ((hornbeamref14_Total.f aa l0).bind fun ag => ((hornbeamref14_Total.f aa l1).bind fun ae => (some (af.1, af.2.1, IntKind.u64.wrap (ag * ae)))))))) = some (r1, r2, r3) := H; have cp := aaM cb; clear cb; replace H := ooB.mp H; obtain ⟨al, cc, H⟩ := H; replace H : ((hornbeamref04_Times.f aa be bf al).bind fun ai => ((hornbeamref04_Add.f aa aq ar ai.2.1 ai.2.2).bind fun af => ((hornbeamref14_Total.f aa l0).bind fun ag => ((hornbeamref14_Total.f aa l1).bind fun ae => (some (af.1, af.2.1, IntKind.u64.wrap (ag * ae))))))) = some (r1, r2, r3) := H; have cq := aaM cc; clear cc; replace H := ooB.mp H; obtain ⟨⟨bt, a6, a7⟩, cd, H⟩ := H
    replace H : ((hornbeamref04_Add.f aa aq ar a6 a7).bind fun af => ((hornbeamref14_Total.f aa l0).bind fun ag => ((hornbeamref14_Total.f aa l1).bind fun ae => (some (af.1, af.2.1, IntKind.u64.wrap (ag * ae)))))) = some (r1, r2, r3) := H; have cr := aaM cd; clear cd; replace H := ooB.mp H; obtain ⟨⟨am, an, ct⟩, ce, H⟩ := H; replace H : ((hornbeamref14_Total.f aa l0).bind fun ag => ((hornbeamref14_Total.f aa l1).bind fun ae => (some (am, an, IntKind.u64.wrap (ag * ae))))) = some (r1, r2, r3) := H; have cu := aaM ce; clear ce; replace H := ooB.mp H; obtain ⟨ag, cf, H⟩ := H; replace H : ((hornbeamref14_Total.f aa l1).bind fun ae => (some (am, an, IntKind.u64.wrap (ag * ae)))) = some (r1, r2, r3) := H; have cv := aaM cf; clear cf; replace H := ooB.mp H; obtain ⟨ae, cg, H⟩ := H; (try dsimp only at H); have cw := aaM cg; clear cg; simp only [Option.some.injEq, Prod.mk.injEq] at H; obtain ⟨rfl, rfl, rfl⟩ := H
    (try go_wp2_with (first | ((with_reducible refine gate_callee (f := 43) rfl ?_); refine gL (some 36) Try.func43 #[.slice A0 l0.length c0] ?_; (with_reducible refine (hornbeamref14_Squares.calls aa _ _ l0 bb bc _ ?side1 ?side2 cl.out).mono ?_); (case side1 => exact cZ (ccB au.out HB.out)); (case side2 => exact av.out); rintro e bg ⟨rfl, hb⟩; refine ⟨_, rfl, ?_⟩; replace ab := bY hb ab; replace HB := aaM (lP (lB HB) hb); (try clear hb)) | ((with_reducible refine gate_callee (f := 25) rfl ?_); refine gL (some 38) Try.func25 #[.slice A1 l1.length c1] ?_; (with_reducible refine (hornbeamref14_Total.calls aa _ _ l1 a3 _ ?side1 ?side2 cm.out).mono ?_); (case side1 => exact cZ (ccB ay.out HB.out)); (case side2 => exact az.out); rintro e w' ⟨rfl, ⟨nd, rfl⟩⟩; refine ⟨_, rfl, ?_⟩; (try (rw [drewN_self bg]; generalize hq_ : World.drewN bg _ = bg; have aw : Aside0 (bg.heap[a1]? = some (.cells #[.int .u64 0, .int .u64 0, .int .u64 0] 32 (0, 0))) := ⟨by rw [← hq_]; exact (bZ ab)⟩; have ax : Aside0 (Below w.heap.size w bg) := ⟨by rw [← hq_]; exact (lB HB)⟩; clear ab HB hq_; have ab := aw; have HB := ax; clear aw ax; obtain ⟨cx, cy, cz, c3, c5, c7⟩ := bE3 ab.out))) | ((with_reducible refine gate_callee (f := 42) rfl ?_); refine gL (some 39) Try.func42 #[.agg #[.int .u64 bb, .int .u64 bc], .int .u64 a3] ?_; (with_reducible refine (hornbeamref04_Times.calls aa bb bc a3 bd aq ar _ cn.out).mono ?_); rintro e dq ⟨rfl, hb⟩; refine ⟨_, rfl, ?_⟩; replace ab := bY hb ab; replace HB := aaM (lP (lB HB) hb); (try clear hb)) | ((with_reducible refine gate_dst (N := 5) rfl ?_); (try (refine gate_guard (by rfl) ?_; dsimp only)); refine bxF w HB 5 #[.int .u64 0, .int .u64 0, .int .u64 0] 87 ?_; intro bl hg dr hb ac HB da; have dt := da; obtain ⟨bm, bn⟩ := nS hg ab; replace ab := bY hb ab; clear hb hg; have := bn.out; have := bm.out; obtain ⟨_, _, _, _, _, _⟩ := bE3 ac.out) | ((with_reducible refine gate_callee (f := 43) rfl ?_); refine gL (some 41) Try.func43 #[.slice A1 l1.length c1] ?_; (with_reducible refine (hornbeamref14_Squares.calls aa _ _ l1 be bf _ ?side1 ?side2 cp.out).mono ?_); (case side1 => exact ccB ay.out (lB HB)); (case side2 => exact az.out); rintro e a8 ⟨rfl, hb⟩; refine ⟨_, rfl, ?_⟩; replace ab := aaM (bB (g := a1) (o := .cells #[.int .u64 0, .int .u64 0, .int .u64 0] 32 (0, 0)) (bZ ab) hb); replace ac := aaM (bB (g := bl) (o := .cells #[.int .u64 bd, .int .u64 aq, .int .u64 ar] 87 (0, 0)) (bZ ac) hb); replace HB := aaM (lP (lB HB) hb); (try clear hb)) | ((with_reducible refine gate_callee (f := 25) rfl ?_); refine gL (some 43) Try.func25 #[.slice A0 l0.length c0] ?_; (with_reducible refine (hornbeamref14_Total.calls aa _ _ l0 al _ ?side1 ?side2 cq.out).mono ?_); (case side1 => exact cZ (ccB au.out HB.out)); (case side2 => exact av.out); rintro e w' ⟨rfl, ⟨nd, rfl⟩⟩; refine ⟨_, rfl, ?_⟩; (try (rw [drewN_self a8]; generalize hq_ : World.drewN a8 _ = a8; have aw : Aside0 (a8.heap[a1]? = some (.cells #[.int .u64 0, .int .u64 0, .int .u64 0] 32 (0, 0))) := ⟨by rw [← hq_]; exact (bZ ab)⟩; have ax : Aside0 (a8.heap[bl]? = some (.cells #[.int .u64 bd, .int .u64 aq, .int .u64 ar] 87 (0, 0))) := ⟨by rw [← hq_]; exact (bZ ac)⟩; have a9 : Aside0 (Below w.heap.size w a8) := ⟨by rw [← hq_]; exact (lB HB)⟩; clear ab ac HB hq_; have ab := aw; have ac := ax; have HB := a9; clear aw ax a9; obtain ⟨cx, cy, cz, c3, c5, c7⟩ := bE3 ab.out; obtain ⟨_, _, _, _, _, _⟩ := bE3 ac.out))) | ((with_reducible refine gate_callee (f := 42) rfl ?_); refine gL (some 44) Try.func42 #[.agg #[.int .u64 be, .int .u64 bf], .int .u64 al] ?_; (with_reducible refine (hornbeamref04_Times.calls aa be bf al bt a6 a7 _ cr.out).mono ?_); rintro e du ⟨rfl, hb⟩; refine ⟨_, rfl, ?_⟩; replace ab := bY hb ab; replace ac := bY hb ac; replace HB := aaM (lP (lB HB) hb); (try clear hb)) | ((with_reducible refine gate_dst (N := 6) rfl ?_); (try (refine gate_guard (by rfl) ?_; dsimp only)); refine bxF w HB 6 #[.int .u64 0, .int .u64 0, .int .u64 0] 87 ?_; intro ch hg dv hb ao HB db; have dw := db; obtain ⟨bo, bp⟩ := nS hg ab; replace ab := bY hb ab; obtain ⟨dc, dd⟩ := nS hg ac; replace ac := bY hb ac; clear hb hg; have := bp.out; have := bo.out; have := dd.out; have := dc.out; obtain ⟨_, _, _, _, _, _⟩ := bE3 ao.out; obtain ⟨_, _, _, _, _, _⟩ := bE3 ac.out) | ((with_reducible refine gate_callee (f := 44) rfl ?_); refine gL (some 56) Try.func44 #[.agg #[.int .u64 aq, .int .u64 ar], .agg #[.int .u64 a6, .int .u64 a7]] ?_; (with_reducible refine (hornbeamref04_Add.calls aa aq ar a6 a7 am an ct _ cu.out).mono ?_); rintro e dx ⟨rfl, hb⟩; refine ⟨_, rfl, ?_⟩; replace ab := aaM (bB (g := a1) (o := .cells #[.int .u64 0, .int .u64 0, .int .u64 0] 32 (0, 0)) (bZ ab) hb); replace ac := aaM (bB (g := bl) (o := .cells #[.int .u64 bd, .int .u64 aq, .int .u64 ar] 87 (0, 0)) (bZ ac) hb); replace ao := aaM (bB (g := ch) (o := .cells #[.int .u64 bt, .int .u64 a6, .int .u64 a7] 87 (0, 0)) (bZ ao) hb); replace HB := aaM (lP (lB HB) hb); (try clear hb)) | ((with_reducible refine gate_dst (N := 7) rfl ?_); (try (refine gate_guard (by rfl) ?_; dsimp only)); refine bxF w HB 7 #[.int .u64 0, .int .u64 0] 30 ?_; intro ak hg ba hb a5 HB de; have dy := de; obtain ⟨bq, br⟩ := nS hg ab; replace ab := bY hb ab; obtain ⟨df, dg⟩ := nS hg ac; replace ac := bY hb ac; obtain ⟨dh, di⟩ := nS hg ao; replace ao := bY hb ao; clear hb hg; have := br.out; have := bq.out; have := dg.out; have := df.out; have := di.out; have := dh.out; obtain ⟨_, _, _, _⟩ := bE2 a5.out)))
    have aw : Aside0 (((ba.setCell ⟨ak, 0, none⟩ (.int .u64 am)).setCell ⟨ak, 1, none⟩ (.int .u64 an)).heap[a1]? = some (.cells #[.int .u64 0, .int .u64 0, .int .u64 0] 32 (0, 0))) := ⟨bZ ab⟩; have ax : Aside0 (((ba.setCell ⟨ak, 0, none⟩ (.int .u64 am)).setCell ⟨ak, 1, none⟩ (.int .u64 an)).heap[bl]? = some (.cells #[.int .u64 bd, .int .u64 aq, .int .u64 ar] 87 (0, 0))) := ⟨bZ ac⟩; have a9 : Aside0 (((ba.setCell ⟨ak, 0, none⟩ (.int .u64 am)).setCell ⟨ak, 1, none⟩ (.int .u64 an)).heap[ch]? = some (.cells #[.int .u64 bt, .int .u64 a6, .int .u64 a7] 87 (0, 0))) := ⟨bZ ao⟩; have bu : Aside0 (((ba.setCell ⟨ak, 0, none⟩ (.int .u64 am)).setCell ⟨ak, 1, none⟩ (.int .u64 an)).heap[ak]? = some (.cells #[.int .u64 am, .int .u64 an] 30 (0, 0))) := ⟨bZ a5⟩; have bv : Aside0 (Below w.heap.size w ((ba.setCell ⟨ak, 0, none⟩ (.int .u64 am)).setCell ⟨ak, 1, none⟩ (.int .u64 an))) := ⟨lB HB⟩; (try clear ab); (try clear ac); (try clear ao); (try clear a5); (try clear HB); generalize ((ba.setCell ⟨ak, 0, none⟩ (.int .u64 am)).setCell ⟨ak, 1, none⟩ (.int .u64 an)) = dj at aw ax a9 bu bv ⊢; have ab := aw; have ac := ax; have ao := a9; have a5 := bu; have HB := bv; clear aw ax a9 bu bv; replace ab := aaM (bD ab.out); replace ac := aaM (bD ac.out); replace ao := aaM (bD ao.out)
    replace a5 := aaM (bD a5.out); replace HB := aaM (lD HB.out); refine start_ (n := 8) (S := fun w' => w'.cell? ⟨ak, 0, none⟩ = some (.int .u64 am) ∧ w'.cell? ⟨ak, 1, none⟩ = some (.int .u64 an)) (ds := []) _ (by kernel_rfl) rfl rfl hD (fun hHeld => ?_); refine with_tabW hornbeamref14_Score.tab6 hornbeamref14_Score.bits6 (fun HT_ HW_ => ?_); generalize dj.drew = dz at ab ac ao a5 HB hHeld ⊢; refine pU 1 60 (qB 8 2) HT_ ?_
    refine pU 3 62 (qB 8 10) HT_ ?_
    refine tU 0 59 (qB 8 11) HT_ HW_ hHeld ?_
    refine oU 2 (some 61) (qB 8 15) HT_ (fun K hK => ?_); refine gU Try.func25 #[.slice A0 l0.length c0] ?_; (with_reducible refine (hornbeamref14_Total.calls aa _ _ l0 ag _ ?side1 ?side2 cv.out).mono ?_); (case side1 => exact cZ (ccB au.out HB.out)); (case side2 => exact av.out); rintro e w' ⟨rfl, ⟨nd, rfl⟩⟩; refine ⟨_, rfl, ?_⟩; refine hK.out _ _ hD (fun hHeld => ?_); clear hK K; refine nU 61 ?_
    refine oU 4 (some 63) (qB 8 31) HT_ (fun K hK => ?_); refine gU Try.func25 #[.slice A1 l1.length c1] ?_; (with_reducible refine (hornbeamref14_Total.calls aa _ _ l1 ae _ ?side1 ?side2 cw.out).mono ?_); (case side1 => exact cZ (ccB ay.out (lB HB))); (case side2 => exact az.out); rintro e w' ⟨rfl, ⟨nd, rfl⟩⟩; refine ⟨_, rfl, ?_⟩; refine hK.out _ _ hD (fun hHeld => ?_); clear hK K; refine nU 63 ?_
    refine pU 5 64 (qB 8 63) HT_ ?_
    refine pU 6 65 (qB 8 127) HT_ ?_
    refine oU 7 none (qB 8 255) HT_ (fun K hK => ?_); obtain ⟨d0, -, -, d1, -, -⟩ := bE3 ab.out; have := bn.out; have := bp.out; have := br.out; have := bm.out; have := bo.out; have := bq.out; obtain ⟨-, d2, -, -, d3, -⟩ := bE3 ab.out; have := bn.out; have := bp.out; have := br.out; have := bm.out; have := bo.out; have := bq.out; obtain ⟨-, -, d4, -, -, d5⟩ := bE3 ab.out; have := bn.out; have := bp.out; have := br.out; have := bm.out; have := bo.out; have := bq.out; refine skip_ (w1 := ?_) (by rfl) rfl ?_ ?_; rotate_left
    ·go_simp
     rfl
    refine hK.out _ _ (cH hHeld) (fun hHeld => ?_); clear hK K; refine done_ (done_of HT_.out (by kernel_rfl)) ?_; (try go_wp2); refine bodyPost_ret (results_cell_row rfl _ _ a1 32 #[.int .u64 am, .int .u64 an, .int .u64 (IntKind.u64.wrap (ag * ae))] (0, 0) _ rfl (bZ ab) Try.underlying32 rfl (by kernel_rfl)) rfl ?_
    exact ⟨eE, lB HB⟩

/-! ### hornbeamref14_Alone: function 24 -/
def hornbeamref14_Alone.j0 : Nat → List Int → Bool → Option (Int × Int × Int)
 | 0, _, _ => none
 | k + 1, x0, x10 => if x10 = true then (some (0, 0, 0)) else ((hornbeamref14_Squares.f k x0).bind fun bt527 => ((hornbeamref14_Total.f k x0).bind fun t529 => (some (bt527.1, bt527.2, t529))))
def hornbeamref14_Alone.f (k : Nat) (l0 : List Int) : Option (Int × Int × Int) := (hornbeamref14_May.f k l0).bind fun t525 => (if t525 = true then ((hornbeamref14_Total.f k l0).bind fun t526 => (hornbeamref14_Alone.j0 k l0 (t526 == 0))) else (hornbeamref14_Alone.j0 k l0 true))
theorem hornbeamref14_Alone.mono_l : ∀ k, (∀ y0 y1, LeO (hornbeamref14_Alone.j0 k y0 y1) (hornbeamref14_Alone.j0 (k + 1) y0 y1))
 | 0 => fun _ _ r h => by simp [hornbeamref14_Alone.j0] at h
 | k + 1 => by
  have ih0 := hornbeamref14_Alone.mono_l k
  ·intro y0 y1
   unfold hornbeamref14_Alone.j0
   with_reducible repeat' first | apply ih0 | apply hornbeamref14_May.mono | apply hornbeamref14_Squares.mono | apply hornbeamref14_Total.mono | apply LeO.refl | apply LeO.none | refine LeO.ite ?_ ?_ | refine LeO.bind ?_ (fun _ => ?_)
theorem hornbeamref14_Alone.mono : ∀ a0 k, LeO (hornbeamref14_Alone.f k a0) (hornbeamref14_Alone.f (k + 1) a0) := by
 intro a0 k
 have ih0 := hornbeamref14_Alone.mono_l k
 unfold hornbeamref14_Alone.f
 with_reducible repeat' first | apply ih0 | apply hornbeamref14_May.mono | apply hornbeamref14_Squares.mono | apply hornbeamref14_Total.mono | apply LeO.refl | apply LeO.none | refine LeO.ite ?_ ?_ | refine LeO.bind ?_ (fun _ => ?_)
set_option maxHeartbeats 8000000 in
set_option maxRecDepth 100000 in
theorem hornbeamref14_Alone.calls (k : Nat) (A0 : Option Addr) (c0 : Nat) (l0 : List Int) (r1 : Int) (r2 : Int) (r3 : Int) (w : World) (ao : Kd.C (Kd.int .i64) w A0 l0.length l0) (ap : l0.length ≤ c0) (h : hornbeamref14_Alone.f k l0 = some (r1, r2, r3)) :
  Calls Try.prog 24 #[.slice A0 l0.length c0] w fun e w' => e = .returned (.agg #[.int .u64 r1, .int .u64 r2, .int .u64 r3]) ∧ Below w.heap.size w w' := by
 have a2 := Try.underlying32
 have ae := aaM ao
 have af := aaM ap
 clear ao ap
 have HB := aaM (Below.refl w.heap.size w)
 have H : ((hornbeamref14_May.f k l0).bind fun ai => (if ai = true then ((hornbeamref14_Total.f k l0).bind fun ab => (hornbeamref14_Alone.j0 k l0 (ab == 0))) else (hornbeamref14_Alone.j0 k l0 true))) = some (r1, r2, r3) := h
 clear h
 have an := aaM H
 clear H
 go_enter Try.func24, Try.ntmps24
 go_upto_region 1 with (first | ((with_reducible refine gate_dst (N := 2) rfl ?_); refine bxF w HB 2 #[.int .u64 0, .int .u64 0, .int .u64 0] 32 ?_; intro aj hg w3 hb aa HB az; have a3 := az; clear hb hg))
 (try simp only [Act.put, ssB, ssZ, ssS])
 go_cut [10] (fun a0 wc => ∃ (kq : Nat) (ak : Bool), a0 = .bool ak ∧ Aside0 (hornbeamref14_Alone.j0 kq l0 ak = some (r1, r2, r3)) ∧ Aside0 (kq ≤ k) ∧ Aside0 (wc.heap[aj]? = some (.cells #[.int .u64 0, .int .u64 0, .int .u64 0] 32 (0, 0))) ∧ Aside0 (Below w.heap.size w wc))
 case first =>
  have H := an.out; clear an; replace H := ooB.mp H; obtain ⟨ai, aq, H⟩ := H; (try dsimp only at H); have A4 := aaM aq; clear aq
  by_cases c5 : ai = true
  ·subst c5
   have H1 : ((hornbeamref14_Total.f k l0).bind fun ab => (hornbeamref14_Alone.j0 k l0 (ab == 0))) = some (r1, r2, r3) := by rw [if_pos rfl] at H; exact H
   clear H; have H := H1; clear H1; replace H := ooB.mp H; obtain ⟨ab, ar, H⟩ := H; (try dsimp only at H); have A6 := aaM ar; clear ar; have H' := aaM H; clear H
   go_wp2_with (first | ((with_reducible refine gate_callee (f := 41) rfl ?_); refine gL (some 4) Try.func41 #[.slice A0 l0.length c0] ?_; (with_reducible refine (hornbeamref14_May.calls k _ _ l0 true _ ?side1 ?side2 A4.out).mono ?_); (case side1 => exact cZ (ccB ae.out HB.out)); (case side2 => exact af.out); rintro e w' ⟨rfl, ⟨nd, rfl⟩⟩; refine ⟨_, rfl, ?_⟩) | (go_at_call 25; (with_reducible refine (hornbeamref14_Total.calls k _ _ l0 ab _ ?side1 ?side2 A6.out).mono ?_); (case side1 => exact cZ (ccB ae.out (lB HB))); (case side2 => exact af.out); rintro e w' ⟨rfl, ⟨nd, rfl⟩⟩))
   go_meet
   case rel => exact ⟨_, ((ab == 0)), (eF), H', ⟨by first | omega | exact Nat.le_refl _⟩, ⟨bZ aa⟩, ⟨lB HB⟩⟩
  ·replace c5 := Bool.eq_false_iff.mpr c5
   subst c5
   have H1 : (hornbeamref14_Alone.j0 k l0 true) = some (r1, r2, r3) := by rw [if_neg (show ¬ (false = true) by decide)] at H; exact H
   clear H; have H := H1; clear H1; have H' := aaM H; clear H
   go_wp2_with (first | ((with_reducible refine gate_callee (f := 41) rfl ?_); refine gL (some 4) Try.func41 #[.slice A0 l0.length c0] ?_; (with_reducible refine (hornbeamref14_May.calls k _ _ l0 false _ ?side1 ?side2 A4.out).mono ?_); (case side1 => exact cZ (ccB ae.out HB.out)); (case side2 => exact af.out); rintro e w' ⟨rfl, ⟨nd, rfl⟩⟩; refine ⟨_, rfl, ?_⟩))
   go_meet
   case rel => exact ⟨_, (true), (eF), H', ⟨by first | omega | exact Nat.le_refl _⟩, ⟨bZ aa⟩, ⟨lB HB⟩⟩
 case rest =>
  clear an; obtain ⟨kq, ak, rfl, HA, a4, aa, HB⟩ := hcut
  cases kq with
  | zero => exact absurd HA.out (by simp [hornbeamref14_Alone.j0])
  | succ ag =>
   have H := HA.out; clear HA; simp only [hornbeamref14_Alone.j0] at H
   by_cases c7 : ak = true
   ·subst c7
    have H1 : (some (0, 0, 0)) = some (r1, r2, r3) := by rw [if_pos rfl] at H; exact H
    clear H; have H := H1; clear H1; simp only [Option.some.injEq, Prod.mk.injEq] at H; obtain ⟨rfl, rfl, rfl⟩ := H; obtain ⟨_, _, _, _, _, _⟩ := bE3 aa.out; go_wp2; refine bodyPost_ret (results_cell_row rfl _ _ aj 32 #[.int .u64 0, .int .u64 0, .int .u64 0] (0, 0) _ rfl (bZ aa) Try.underlying32 rfl (by kernel_rfl)) rfl ?_
    exact ⟨eE, lB HB⟩
   ·replace c7 := Bool.eq_false_iff.mpr c7
    subst c7
    have H1 : ((hornbeamref14_Squares.f ag l0).bind fun au => ((hornbeamref14_Total.f ag l0).bind fun ac => (some (au.1, au.2, ac)))) = some (r1, r2, r3) := by rw [if_neg (show ¬ (false = true) by decide)] at H; exact H
    clear H; have H := H1; clear H1; replace H := ooB.mp H; obtain ⟨⟨al, am⟩, av, H⟩ := H; replace H : ((hornbeamref14_Total.f ag l0).bind fun ac => (some (al, am, ac))) = some (r1, r2, r3) := H; have A9 := aaM av; clear av; replace H := ooB.mp H; obtain ⟨ac, aw, H⟩ := H; (try dsimp only at H); have a1 := aaM aw; clear aw; simp only [Option.some.injEq, Prod.mk.injEq] at H; obtain ⟨rfl, rfl, rfl⟩ := H
    go_wp2_with (first | ((with_reducible refine gate_callee (f := 43) rfl ?_); refine gL (some 13) Try.func43 #[.slice A0 l0.length c0] ?_; (with_reducible refine (hornbeamref14_Squares.calls ag _ _ l0 al am _ ?side1 ?side2 A9.out).mono ?_); (case side1 => exact cZ (ccB ae.out HB.out)); (case side2 => exact af.out); rintro e ah ⟨rfl, hb⟩; refine ⟨_, rfl, ?_⟩; replace aa := bY hb aa; replace HB := aaM (lP (lB HB) hb); (try clear hb)) | ((with_reducible refine gate_callee (f := 25) rfl ?_); refine gL (some 15) Try.func25 #[.slice A0 l0.length c0] ?_; (with_reducible refine (hornbeamref14_Total.calls ag _ _ l0 ac _ ?side1 ?side2 a1.out).mono ?_); (case side1 => exact cZ (ccB ae.out HB.out)); (case side2 => exact af.out); rintro e w' ⟨rfl, ⟨nd, rfl⟩⟩; refine ⟨_, rfl, ?_⟩; (try (rw [drewN_self ah]; generalize hq_ : World.drewN ah _ = ah; have ax : Aside0 (ah.heap[aj]? = some (.cells #[.int .u64 0, .int .u64 0, .int .u64 0] 32 (0, 0))) := ⟨by rw [← hq_]; exact (bZ aa)⟩; have ay : Aside0 (Below w.heap.size w ah) := ⟨by rw [← hq_]; exact (lB HB)⟩; clear aa HB hq_; have aa := ax; have HB := ay; clear ax ay; obtain ⟨_, _, _, _, _, _⟩ := bE3 aa.out)); obtain ⟨_, _, _, _, _, _⟩ := bE3 aa.out))
    refine bodyPost_ret (results_cell_row rfl _ _ aj 32 #[.int .u64 al, .int .u64 am, .int .u64 ac] (0, 0) _ rfl (bZ aa) Try.underlying32 rfl (by kernel_rfl)) rfl ?_
    exact ⟨eE, lB HB⟩

/-! ### hornbeamref15_square: function 47 -/
def hornbeamref15_square.f (k : Nat) (a0 : Int) : Option (Int × Int) := (hornbeamref04_Size.f a0).bind fun t531 => ((hornbeamref04_Size.f a0).bind fun t532 => ((hornbeamref04_Mul.f k t531 t532).bind fun bt533 => (some (bt533.1, bt533.2))))
theorem hornbeamref15_square.mono : ∀ a0 k, LeO (hornbeamref15_square.f k a0) (hornbeamref15_square.f (k + 1) a0) := by
 intro a0 k
 unfold hornbeamref15_square.f
 with_reducible repeat' first | apply hornbeamref04_Mul.mono | apply LeO.refl | apply LeO.none | refine LeO.ite ?_ ?_ | refine LeO.bind ?_ (fun _ => ?_)
set_option maxHeartbeats 8000000 in
set_option maxRecDepth 100000 in
theorem hornbeamref15_square.calls (k : Nat) (a0 : Int) (r1 : Int) (r2 : Int) (w : World) (h : hornbeamref15_square.f k a0 = some (r1, r2)) :
  Calls Try.prog 47 #[.int .i64 a0] w fun e w' => e = .returned (.agg #[.int .u64 r1, .int .u64 r2]) ∧ Below w.heap.size w w' := by
 have au := Try.underlying30
 have HB := aaM (Below.refl w.heap.size w)
 have H : ((hornbeamref04_Size.f a0).bind fun ab => ((hornbeamref04_Size.f a0).bind fun ae => ((hornbeamref04_Mul.f k ab ae).bind fun ac => (some (ac.1, ac.2))))) = some (r1, r2) := h
 clear h
 replace H := ooB.mp H
 obtain ⟨ab, ak, H⟩ := H
 (try dsimp only at H)
 have A2 := aaM ak
 clear ak
 replace H := ooB.mp H
 obtain ⟨ae, al, H⟩ := H
 (try dsimp only at H)
 have A3 := aaM al
 obtain rfl : ab = ae := Option.some.inj (A2.out.symm.trans A3.out)
 clear al
 replace H := ooB.mp H
 obtain ⟨⟨ah, ai⟩, am, H⟩ := H
 (try dsimp only at H)
 have A4 := aaM am
 clear am
 simp only [Option.some.injEq, Prod.mk.injEq] at H
 obtain ⟨rfl, rfl⟩ := H
 go_enter Try.func47, Try.ntmps47
 go_wp2_with (first | ((with_reducible refine gate_dst (N := 2) rfl ?_); refine bxF w HB 2 #[.int .u64 0, .int .u64 0] 30 ?_; intro aj hg w5 hb aa HB an; have av := an; clear hb hg) | ((with_reducible refine gate_callee (f := 55) rfl ?_); refine gL (some 4) Try.func55 #[.int .i64 a0] ?_; (with_reducible refine (hornbeamref04_Size.calls a0 ab _ A2.out).mono ?_); rintro e w' ⟨rfl, ⟨nd, rfl⟩⟩; refine ⟨_, rfl, ?_⟩; (try (rw [drewN_self w5]; generalize hq_ : World.drewN w5 _ = w5; have af : Aside0 (w5.heap[aj]? = some (.cells #[.int .u64 0, .int .u64 0] 30 (0, 0))) := ⟨by rw [← hq_]; exact (bZ aa)⟩; have ag : Aside0 (Below w.heap.size w w5) := ⟨by rw [← hq_]; exact (lB HB)⟩; clear aa HB hq_; have aa := af; have HB := ag; clear af ag; obtain ⟨ao, ap, aq, ar⟩ := bE2 aa.out))) | ((with_reducible refine gate_callee (f := 55) rfl ?_); refine gL (some 6) Try.func55 #[.int .i64 a0] ?_; (with_reducible refine (hornbeamref04_Size.calls a0 ab _ A3.out).mono ?_); rintro e w' ⟨rfl, ⟨nd, rfl⟩⟩; refine ⟨_, rfl, ?_⟩; (try (rw [drewN_self w5]; generalize hq_ : World.drewN w5 _ = w5; have af : Aside0 (w5.heap[aj]? = some (.cells #[.int .u64 0, .int .u64 0] 30 (0, 0))) := ⟨by rw [← hq_]; exact (bZ aa)⟩; have ag : Aside0 (Below w.heap.size w w5) := ⟨by rw [← hq_]; exact (lB HB)⟩; clear aa HB hq_; have aa := af; have HB := ag; clear af ag; obtain ⟨ao, ap, aq, ar⟩ := bE2 aa.out))) | ((with_reducible refine gate_callee (f := 59) rfl ?_); refine gL (some 7) Try.func59 #[.int .u64 ab, .int .u64 ab] ?_; (with_reducible refine (hornbeamref04_Mul.calls k ab ab ah ai _ A4.out).mono ?_); rintro e w6 ⟨rfl, hb⟩; refine ⟨_, rfl, ?_⟩; replace aa := bY hb aa; replace HB := aaM (lP (lB HB) hb); (try clear hb); obtain ⟨_, _, _, _⟩ := bE2 aa.out))
 refine bodyPost_ret (results_cell_row rfl _ _ aj 30 #[.int .u64 ah, .int .u64 ai] (0, 0) _ rfl (bZ aa) Try.underlying30 rfl (by kernel_rfl)) rfl ?_
 exact ⟨eE, lB HB⟩

/-! ### hornbeamref04_Cmp: function 60 -/
def hornbeamref04_Cmp.f (k : Nat) (a0_0 : Int) (a0_1 : Int) (a1_0 : Int) (a1_1 : Int) : Option (Int) := (hornbeamref04_OfWide.f a0_0 a0_1).bind fun t537 => ((hornbeamref04_OfWide.f a1_0 a1_1).bind fun t540 => ((hornbeamref04_Compare.f k t537 t540).bind fun t543 => (some t543)))
theorem hornbeamref04_Cmp.mono : ∀ a0 a1 a2 a3 k, LeO (hornbeamref04_Cmp.f k a0 a1 a2 a3) (hornbeamref04_Cmp.f (k + 1) a0 a1 a2 a3) := by
 intro a0 a1 a2 a3 k
 unfold hornbeamref04_Cmp.f
 with_reducible repeat' first | apply hornbeamref04_Compare.mono | apply LeO.refl | apply LeO.none | refine LeO.ite ?_ ?_ | refine LeO.bind ?_ (fun _ => ?_)
set_option maxHeartbeats 8000000 in
set_option maxRecDepth 100000 in
theorem hornbeamref04_Cmp.calls (k : Nat) (ag : Int) (ah : Int) (ab : Int) (ac : Int) (r : Int) (w : World) (h : hornbeamref04_Cmp.f k ag ah ab ac = some r) :
  Calls Try.prog 60 #[.agg #[.int .u64 ag, .int .u64 ah], .agg #[.int .u64 ab, .int .u64 ac]] w fun e w' => e = .returned (.int .i64 r) ∧ Below w.heap.size w w' := by
 have a8 := Try.underlying30
 have HB := aaM (Below.refl w.heap.size w)
 have H : ((hornbeamref04_OfWide.f ag ah).bind fun ai => ((hornbeamref04_OfWide.f ab ac).bind fun ae => ((hornbeamref04_Compare.f k ai ae).bind fun af => (some af)))) = some r := h
 clear h
 replace H := ooB.mp H
 obtain ⟨ai, au, H⟩ := H
 (try dsimp only at H)
 have A3 := aaM au
 clear au
 replace H := ooB.mp H
 obtain ⟨ae, av, H⟩ := H
 (try dsimp only at H)
 have A4 := aaM av
 clear av
 replace H := ooB.mp H
 obtain ⟨af, aw, H⟩ := H
 (try dsimp only at H)
 have A5 := aaM aw
 clear aw
 obtain rfl := Option.some.inj H
 go_enter Try.func60, Try.ntmps60
 try go_wp2_with (first | ((with_reducible refine gate_dst (N := 2) rfl ?_); refine bxF w HB 2 #[.int .u64 ag, .int .u64 ah] 30 ?_; intro ax hg w6 hb aa HB a1; have a9 := a1; clear hb hg) | ((with_reducible refine gate_dst (N := 3) rfl ?_); refine bxF w HB 3 #[.int .u64 ab, .int .u64 ac] 30 ?_; intro ay hg w7 hb aj HB a2; have ba := a2; obtain ⟨bb, bc⟩ := nS hg aa; replace aa := bY hb aa; clear hb hg))
 replace aa := aaM (bD aa.out)
 replace aj := aaM (bD aj.out)
 replace HB := aaM (lD HB.out)
 refine start_ (n := 6) (S := fun w' => w'.cell? ⟨ax, 0, none⟩ = some (.int .u64 ag) ∧ w'.cell? ⟨ax, 1, none⟩ = some (.int .u64 ah) ∧ w'.cell? ⟨ay, 0, none⟩ = some (.int .u64 ab) ∧ w'.cell? ⟨ay, 1, none⟩ = some (.int .u64 ac)) (ds := []) _ (by kernel_rfl) rfl rfl hD (fun hHeld => ?_)
 generalize w7.drew = w8 at aa aj HB hHeld ⊢
 refine take_ (i := 0) (N := some 5) (v := ?_) (a' := ?_) (qB 6 1) rfl rfl (by kernel_rfl) (fun _ _ _ h => h) (Or.inl ⟨by rfl, ?_⟩) hHeld ?_ ?_
 rotate_left
 ·rintro w' ⟨s0, s1, s2, s3⟩
  go_simp; (with_reducible rfl)
 rotate_left
 ·simp only [Act.put, ssB, ssZ, ssS, i64_w, i32_w]
  rfl
 refine take_ (i := 2) (N := some 7) (v := ?_) (a' := ?_) (qB 6 5) rfl rfl (by kernel_rfl) (fun _ _ _ h => h) (Or.inl ⟨by rfl, ?_⟩) hHeld ?_ ?_
 rotate_left
 ·rintro w' ⟨s0, s1, s2, s3⟩
  go_simp; (with_reducible rfl)
 rotate_left
 ·simp only [Act.put, ssB, ssZ, ssS, i64_w, i32_w]
  rfl
 refine one_ (i := 1) (N := some 6) (qB 6 7) rfl rfl (by kernel_rfl) (by decide) (fun K hK => ?_)
 refine gU Try.func31 #[.agg #[.int .u64 ag, .int .u64 ah]] ?_
 with_reducible refine (hornbeamref04_OfWide.calls ag ah ai _ A3.out).mono ?_
 rintro e w9 ⟨bd, rfl, ak, hb⟩
 refine ⟨_, rfl, ?_⟩
 have al := aaM (Kd.R_lower ak (lZ (lB HB)))
 replace aa := bY hb aa
 replace aj := bY hb aj
 replace HB := aaM (lP (lB HB) hb)
 (try clear hb)
 
 
 
 (try clear ak)
 refine hK.out _ _ hD (fun hHeld => ?_)
 clear hK K
 refine nU 6 ?_
 refine one_ (i := 3) (N := some 8) (qB 6 15) rfl rfl (by kernel_rfl) (by decide) (fun K hK => ?_)
 refine gU Try.func31 #[.agg #[.int .u64 ab, .int .u64 ac]] ?_
 with_reducible refine (hornbeamref04_OfWide.calls ab ac ae _ A4.out).mono ?_
 rintro e be ⟨bf, rfl, ak, hb⟩
 refine ⟨_, rfl, ?_⟩
 have ao := aaM (Kd.R_lower (Kd.R_new' ak (Kd.R_lt (rZ al))) (lZ (lB HB)))
 replace al := aaM (Kd.R_elder' (rZ al) (Kd.R_base ak) hb)
 replace aa := bY hb aa
 replace aj := bY hb aj
 replace HB := aaM (lP (lB HB) hb)
 (try clear hb)
 
 
 
 (try clear ak)
 obtain ⟨a4, a5, az⟩ := Kd.R_slice al.out
 (first | subst az | (injection az with am ap an; have aq := am.symm; have ar := an.symm; clear am ap an; subst aq; subst ar))
 obtain ⟨a6, a7, a0⟩ := Kd.R_slice ao.out
 (first | subst a0 | (injection a0 with am ap an; have aq := am.symm; have ar := an.symm; clear am ap an; subst aq; subst ar))
 refine hK.out _ _ hD (fun hHeld => ?_)
 clear hK K
 refine nU 8 ?_
 refine one_ (i := 4) (N := some 9) (qB 6 31) rfl rfl (by kernel_rfl) (by decide) (fun K hK => ?_)
 refine gU Try.func29 #[.slice a4 ai.length a5, .slice a6 ae.length a7] ?_
 with_reducible refine (hornbeamref04_Compare.calls k _ _ ai _ _ ae af _ ?side1 ?side2 ?side3 ?side4 A5.out).mono ?_
 (case side1 => repeat (first | exact (Kd.R_reads' al.out).2.2 | (with_reducible refine ccA ?_ _) | (with_reducible refine ccN ?_ _) | (with_reducible refine ccD ?_)))
 (case side2 => exact (Kd.R_reads' al.out).2.1)
 (case side3 => repeat (first | exact (Kd.R_reads' ao.out).2.2 | (with_reducible refine ccA ?_ _) | (with_reducible refine ccN ?_ _) | (with_reducible refine ccD ?_)))
 (case side4 => exact (Kd.R_reads' ao.out).2.1)
 rintro e w' ⟨rfl, ⟨nd, rfl⟩⟩
 refine ⟨_, rfl, ?_⟩
 refine hK.out _ _ hD (fun hHeld => ?_)
 clear hK K
 refine nU 9 ?_
 refine pure_ (i := 5) (N := some 4) (v := ?_) (a' := ?_) (qB 6 63) rfl rfl (by kernel_rfl) (fun _ _ _ h => h) (Or.inl ⟨by rfl, ?_⟩) ?_ ?_
 rotate_left
 ·intro w'
  go_simp; (with_reducible rfl)
 rotate_left
 ·simp only [Act.put, ssB, ssZ, ssS, i64_w, i32_w]
  rfl
 refine done_ (by kernel_rfl) ?_
 try go_wp2
 all_goals (go_ret; exact ⟨by first | rfl | (simp [errW_none, errW_some] <;> rfl) | (simp [*, errW_none, errW_some] <;> rfl) | (simp_all; done), lB HB⟩)

end Go.Proofs.Ytancajnbjmcamaa.QSplitBest
