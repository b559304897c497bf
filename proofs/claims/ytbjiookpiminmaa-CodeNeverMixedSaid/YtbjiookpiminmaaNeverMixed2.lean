/- Words and contracts for the claim's theorem, part 2 (joined by program out of the texts of this claim's proof; what it does not use is struck). -/
import Derived.Test.YtbjiookpiminmaaNeverMixed1
set_option linter.unusedVariables false
set_option linter.unusedSimpArgs false
set_option linter.unusedSectionVars false
set_option maxHeartbeats 8000000
set_option maxRecDepth 1000000
section
namespace Go.Proofs.Ytbjiookpiminmaa.PCode
open Go.RowKit Go.Proofs.YtbjiookpiminmaaW.PrintWords Go.Proofs.YtbjiookpiminmaaW.PrintLast Go.Proofs.YtbjiookpiminmaaW.PrintMore
attribute [local go_sem] max2_int min2_int max_two min_two max_three min_three max_four min_four   -- for this text's walks alone
def code_CheckPolar.l0 : Nat → Int → List Int → Int → Int → Int → List Int → Option (Int)
 | 0, _, _, _, _, _, _ => none
 | k + 1, x4, x23, x24, x25, x158000, x158001 => if x25 < x24 then (if 0 ≤ x25 then (if x25 < (x23.length : Int) then (if 0 ≤ x158000 then ((code_within.f (rd x23 x25) 0 (wrap64 ((shl .i64 1 x158000) - 1))).bind fun t166 => ((code_unless.f t166 2).bind fun t167 => ((code_unless.f (decide ((rd x23 x25) > x4)) 9).bind fun t168 => ((code_first.f k (([t167, t168] : List Int))).bind fun t172 => (if t172 = 0 then (code_CheckPolar.l0 k (rd x23 x25) x23 x24 (wrap64 (x25 + 1)) x158000 x158001) else (some t172)))))) else (none)) else (none)) else (none)) else (some 0)
def code_CheckPolar.f (k : Nat) (a0_0 : Int) (l0_1 : List Int) : Option (Int) := (code_isPower.f a0_0).bind fun t158 => ((code_unless.f t158 2).bind fun t159 => ((code_unless.f (decide ((l0_1.length : Int) > 0)) 10).bind fun t160 => ((code_first.f k (([t159, t160] : List Int))).bind fun t164 => (if t164 = 0 then (code_CheckPolar.l0 k (-1) l0_1 (l0_1.length : Int) 0 a0_0 l0_1) else (some t164)))))
def code_CheckPolar.T1 : Bool × List (List Nat × List Nat) := (true, [([], []), ([0], [0]), ([1], [1]), ([2, 2], [2]), ([], []), ([4], [4]), ([5], [5]), ([6], [6]), ([7, 3], [7]), ([3, 8], [3, 8]), ([9, 8], [9]), ([10, 10, 0, 1, 2, 3, 4, 5, 6, 7, 8, 9, 10], [10])])
def code_CheckPolar.B1 : List Nat := [0, 1, 3, 7, 0, 16, 48, 112, 255, 511, 1023, 2047]
theorem code_CheckPolar.tab1 : rtab .any (opsOf Try.f140 1) = code_CheckPolar.T1 := by kernel_rfl
theorem code_CheckPolar.bits1 : waitsOk code_CheckPolar.T1.2 code_CheckPolar.B1 = true := by kernel_rfl
theorem code_CheckPolar.calls (k : Nat) (a0_0 : Int) (A0_1 : Option Addr) (c0_1 : Nat) (l0_1 : List Int) (r : Int) (w : World) (hr0_1 : Kd.C (Kd.int .i64) w A0_1 l0_1.length l0_1) (hc0_1 : l0_1.length ≤ c0_1) (h : code_CheckPolar.f k a0_0 l0_1 = some r) :
  Calls Try.prog 140 #[.agg #[.int .i64 a0_0, .slice A0_1 l0_1.length c0_1]] w fun e w' => e = .returned (.int .i64 r) ∧ Below w.heap.size w w' := by
 have hu72 := Try.underlying72
 have HR0_1 := dH hr0_1
 have HC0_1 := dH hc0_1
 clear hr0_1 hc0_1
 have HB := dH (Below.refl w.heap.size w)
 have H : ((code_isPower.f a0_0).bind fun t158 => ((code_unless.f t158 2).bind fun t159 => ((code_unless.f (decide ((l0_1.length : Int) > 0)) 10).bind fun t160 => ((code_first.f k (([t159, t160] : List Int))).bind fun t164 => (if t164 = 0 then (code_CheckPolar.l0 k (-1) l0_1 (l0_1.length : Int) 0 a0_0 l0_1) else (some t164)))))) = some r := h
 clear h
 replace H := dF.mp H
 obtain ⟨t158, A20, H⟩ := H
 replace H : ((code_unless.f t158 2).bind fun t159 => ((code_unless.f (decide ((l0_1.length : Int) > 0)) 10).bind fun t160 => ((code_first.f k (([t159, t160] : List Int))).bind fun t164 => (if t164 = 0 then (code_CheckPolar.l0 k (-1) l0_1 (l0_1.length : Int) 0 a0_0 l0_1) else (some t164))))) = some r := H
 have A2 := dH A20
 clear A20
 replace H := dF.mp H
 obtain ⟨t159, A30, H⟩ := H
 replace H : ((code_unless.f (decide ((l0_1.length : Int) > 0)) 10).bind fun t160 => ((code_first.f k (([t159, t160] : List Int))).bind fun t164 => (if t164 = 0 then (code_CheckPolar.l0 k (-1) l0_1 (l0_1.length : Int) 0 a0_0 l0_1) else (some t164)))) = some r := H
 have A3 := dH A30
 clear A30
 replace H := dF.mp H
 obtain ⟨t160, A40, H⟩ := H
 replace H : ((code_first.f k (([t159, t160] : List Int))).bind fun t164 => (if t164 = 0 then (code_CheckPolar.l0 k (-1) l0_1 (l0_1.length : Int) 0 a0_0 l0_1) else (some t164))) = some r := H
 have A4 := dH A40
 clear A40
 obtain ⟨y161, hy161⟩ : ∃ y_ : List Int, y_ = (([t159, t160] : List Int)) := ⟨_, rfl⟩
 replace H : ((code_first.f k y161).bind fun t164 => (if t164 = 0 then (code_CheckPolar.l0 k (-1) l0_1 (l0_1.length : Int) 0 a0_0 l0_1) else (some t164))) = some r := by first | (rw [hy161]; with_reducible exact H) | (have H2_ := (Option.bind_some _ _).symm.trans H; rw [hy161]; with_reducible exact H2_) | (have H2_ := (Option.bind_some _ _).symm.trans H; with_reducible exact H2_) | with_reducible exact H | (rw [hy161]; exact H) | exact H
 have Ny161 := dH hy161
 clear hy161
 replace H := dF.mp H
 obtain ⟨t164, A50, H⟩ := H
 replace H : (if t164 = 0 then (code_CheckPolar.l0 k (-1) l0_1 (l0_1.length : Int) 0 a0_0 l0_1) else (some t164)) = some r := H
 have A5 := dH A50
 clear A50
 by_cases c6 : t164 = 0
 ·
  rw [if_pos c6] at H
  have c6b0 : (t164 == 0) = true := beq_iff_eq.mpr c6
  have c6b1 : (t164 != 0) = false := bne_eq_false_iff_eq.mpr c6
  clear c6
  have H' := dH H
  clear H
  go_enter Try.func140, Try.ntmps140
  try go_wp2_with (first | ((with_reducible refine bg (N := 1) rfl ?_); refine bI ?hg (N := 1) ?hd (cs := #[.int .i64 a0_0, .slice A0_1 l0_1.length c0_1]) (t := 72) ?hr ?_; (case hd => rfl); (case hg => rfl); (case hr => first | (go_simp; done) | (go_simp; rfl)); intro gb157 hg w7 hbox hb; have n0_ := dH (aM (by repeat (first | (with_reducible first | exact HB.out | apply ak | apply ah | apply aj) | exact HB.out)) hb); have n1_ := dH (hbox); have n2_ := dH ((by rw [hg]; exact (aK (by repeat (first | (with_reducible first | exact HB.out | apply ak | apply ah | apply aj) | exact HB.out))) : w.heap.size ≤ gb157)); have n3_ := dH ((by rw [hg]; exact (aK (by repeat (first | (with_reducible first | exact HB.out | apply ak | apply ah | apply aj) | exact HB.out))) : w.heap.size ≤ gb157)); clear HB; have HB := n0_; have BK157 := n1_; have GW157 := n2_; have GE157 := n3_; clear n0_ n1_ n2_ n3_; clear hb hbox hg))
  have n0_ := dH (aC BK157.out)
  have n1_ := dH (aj HB.out)
  clear BK157
  clear HB
  have BK157 := n0_
  have HB := n1_
  clear n0_ n1_
  refine b_ (n := 12) (S := fun w' => w'.cell? ⟨gb157, 0, none⟩ = some (.int .i64 a0_0) ∧ w'.cell? ⟨gb157, 1, none⟩ = some (.slice A0_1 l0_1.length c0_1)) (ds := []) (dG 12 0) (by kernel_rfl) rfl rfl ⟨(ay BK157.out 0).trans rfl, (ay BK157.out 1).trans rfl⟩ (fun hHeld => ?_); refine bZ code_CheckPolar.tab1 code_CheckPolar.bits1 (fun HT_ HW_ => ?_)
  generalize w7.drew = w8 at BK157 HB hHeld ⊢
  refine aV (i := 0) (N := some 8) (v := ?_) (a' := ?_) (dG 12 1) rfl rfl (aU HT_.out (by kernel_rfl)) (fun _ _ _ h => h) (Or.inl ⟨by rfl, ?_⟩) ?_ ?_
  rotate_left
  ·
   intro w'
   go_simp
   with_reducible rfl
  rotate_left
  ·
   simp only [Act.put, cO, cZ, d9, aG, aH]
   rfl
  refine aV (i := 4) (N := some 12) (v := ?_) (a' := ?_) (dG 12 17) rfl rfl (aU HT_.out (by kernel_rfl)) (fun _ _ _ h => h) (Or.inl ⟨by rfl, ?_⟩) ?_ ?_
  rotate_left
  ·
   intro w'
   go_simp
   with_reducible rfl
  rotate_left
  ·
   simp only [Act.put, cO, cZ, d9, aG, aH]
   rfl
  refine bK (i := 1) (N := some 9) (v := ?_) (a' := ?_) (dG 12 19) rfl rfl (bD HT_.out HW_.out (by kernel_rfl)) (fun _ _ _ h => h) (Or.inl ⟨by rfl, ?_⟩) hHeld ?_ ?_
  rotate_left
  ·
   rintro w' ⟨s0, s1⟩
   go_simp
   with_reducible rfl
  rotate_left
  ·
   simp only [Act.put, cO, cZ, d9, aG, aH]
   rfl
  refine bK (i := 5) (N := some 13) (v := ?_) (a' := ?_) (dG 12 51) rfl rfl (bD HT_.out HW_.out (by kernel_rfl)) (fun _ _ _ h => h) (Or.inl ⟨by rfl, ?_⟩) hHeld ?_ ?_
  rotate_left
  ·
   rintro w' ⟨s0, s1⟩
   go_simp
   with_reducible rfl
  rotate_left
  ·
   simp only [Act.put, cO, cZ, d9, aG, aH]
   rfl
  refine aV (i := 6) (N := some 14) (v := ?_) (a' := ?_) (dG 12 115) rfl rfl (aU HT_.out (by kernel_rfl)) (fun _ _ _ h => h) (Or.inl ⟨by rfl, ?_⟩) ?_ ?_
  rotate_left
  ·
   intro w'
   go_simp
   with_reducible rfl
  rotate_left
  ·
   simp only [Act.put, cO, cZ, d9, aG, aH]
   rfl
  refine aV (i := 7) (N := some 15) (v := ?_) (a' := ?_) (dG 12 243) rfl rfl (aU HT_.out (by kernel_rfl)) (fun _ _ _ h => h) (Or.inl ⟨by rfl, ?_⟩) ?_ ?_
  rotate_left
  ·
   intro w'
   go_simp
   with_reducible rfl
  rotate_left
  ·
   simp only [Act.put, cO, cZ, d9, aG, aH]
   rfl
  refine bR (i := 2) (N := some 10) (dG 12 247) rfl rfl (bB HT_.out (by kernel_rfl)) (by decide) (fun K hK => ?_)
  refine bQ Try.func212 (by kernel_rfl) rfl #[.int .i64 a0_0] (by rfl) rfl rfl (by (try simp only [dh, dn, dw]); first | done | rfl | (simp only [dx, dz]; rfl) | (simp only [gt_iff_lt, dA]; rfl) | (simp [Act.eval]; done) | (simp [Act.eval, *]; done)) ?_
  with_reducible refine (code_isPower.calls a0_0 t158 _ A2.out).mono ?_
  rintro e w' ⟨rfl, ⟨nd, rfl⟩⟩
  refine ⟨_, rfl, ?_⟩
  refine hK.out _ _ ⟨(ay BK157.out 0).trans rfl, (ay BK157.out 1).trans rfl⟩ (fun hHeld => ?_)
  clear hK K
  refine bG (a' := ?_) ?_ ?_
  rotate_left
  ·
   show Act.put _ (some 10) _ = _
   simp only [Act.put, cO, cZ, d9, aG, aH]
   rfl
  refine bR (i := 3) (N := some 11) (dG 12 255) rfl rfl (bB HT_.out (by kernel_rfl)) (by decide) (fun K hK => ?_)
  refine bQ Try.func74 (by kernel_rfl) rfl #[.bool t158, .int .i64 2] (by rfl) rfl rfl (by (try simp only [dh, dn, dw]); first | done | rfl | (simp only [dx, dz]; rfl) | (simp only [gt_iff_lt, dA]; rfl) | (simp [Act.eval]; done) | (simp [Act.eval, *]; done)) ?_
  with_reducible refine (code_unless.calls t158 2 t159 _ A3.out).mono ?_
  rintro e w' ⟨rfl, ⟨nd, rfl⟩⟩
  refine ⟨_, rfl, ?_⟩
  refine hK.out _ _ ⟨(ay BK157.out 0).trans rfl, (ay BK157.out 1).trans rfl⟩ (fun hHeld => ?_)
  clear hK K
  refine bG (a' := ?_) ?_ ?_
  rotate_left
  ·
   show Act.put _ (some 11) _ = _
   simp only [Act.put, cO, cZ, d9, aG, aH]
   rfl
  refine bR (i := 8) (N := some 16) (dG 12 511) rfl rfl (bB HT_.out (by kernel_rfl)) (by decide) (fun K hK => ?_)
  refine bQ Try.func74 (by kernel_rfl) rfl #[.bool (decide ((l0_1.length : Int) > 0)), .int .i64 10] (by rfl) rfl rfl (by (try simp only [dh, dn, dw]); first | done | rfl | (simp only [dx, dz]; rfl) | (simp only [gt_iff_lt, dA]; rfl) | (simp [Act.eval]; done) | (simp [Act.eval, *]; done)) ?_
  with_reducible refine (code_unless.calls (decide ((l0_1.length : Int) > 0)) 10 t160 _ A4.out).mono ?_
  rintro e w' ⟨rfl, ⟨nd, rfl⟩⟩
  refine ⟨_, rfl, ?_⟩
  refine hK.out _ _ ⟨(ay BK157.out 0).trans rfl, (ay BK157.out 1).trans rfl⟩ (fun hHeld => ?_)
  clear hK K
  refine bG (a' := ?_) ?_ ?_
  rotate_left
  ·
   show Act.put _ (some 16) _ = _
   simp only [Act.put, cO, cZ, d9, aG, aH]
   rfl
  refine bR (i := 9) (N := some 17) (dG 12 1023) rfl rfl (bB HT_.out (by kernel_rfl)) (by decide) (fun K hK => ?_)
  refine Kd.R_lit_step (Kd.int .i64) _ 29 ?hg (N := 17) ?hd (xs := ([t159, t160] : List Int)) (inner := [.int .i64 t159, .int .i64 t160]) (ok := fun _ => True) (okp := fun _ => True) ?hr ?hp (fun _ hk => hk) trivial (Below.refl _ _) (Nat.le_refl _) (by simp) ?_; (case hd => rfl); (case hg => rfl); (case hr => first | (go_simp; done) | (go_simp; rfl)); (case hp => exact (Reps.one (show Kd.M (Kd.int .i64) _ _ _ t159 [.int .i64 t159] from rfl) (Reps.one (show Kd.M (Kd.int .i64) _ _ _ t160 [.int .i64 t160] from rfl) (Reps.none _ _))))
  intro v162 w9 ho10 hb hg_ hnew_
  clear hg_ hnew_
  (first | rw [← Ny161.out] at ho10 | (simp only [Int.reduceToNat] at ho10; rw [← Ny161.out] at ho10))
  have n0_ := dH (Kd.bP ho10 (aK (by repeat (first | (with_reducible first | exact HB.out | apply ak | apply ah | apply aj | refine aA ?_ GE157.out) | exact HB.out))))
  have n1_ := dH (aQ (g := gb157) (o := .cells #[.int .i64 a0_0, .slice A0_1 l0_1.length c0_1] 72 (0, 0)) (by (with_reducible repeat (first | refine av ?_ _ | refine aC ?_ | refine au ?_ _)); exact BK157.out) hb)
  have n2_ := dH (aM (by repeat (first | (with_reducible first | exact HB.out | apply ak | apply ah | apply aj | refine aA ?_ GE157.out) | exact HB.out)) hb)
  clear BK157
  clear HB
  have HO163 := n0_
  have BK157 := n1_
  have HB := n2_
  clear n0_ n1_ n2_
  clear hb ho10
  obtain ⟨Ao11, co11, eo11⟩ := Kd.bN HO163.out
  (first | subst eo11 | (injection eo11 with f1_ f2_ f3_; have f4_ := f1_.symm; have f5_ := f3_.symm; clear f1_ f2_ f3_; subst f4_; subst f5_))
  refine hK.out _ _ ⟨(ay BK157.out 0).trans rfl, (ay BK157.out 1).trans rfl⟩ (fun hHeld => ?_)
  clear hK K
  refine bG (a' := ?_) ?_ ?_
  rotate_left
  ·
   show Act.put _ (some 17) _ = _
   simp only [Act.put, cO, cZ, d9, aG, aH]
   rfl
  refine bR (i := 10) (N := some 18) (dG 12 2047) rfl rfl (bB HT_.out (by kernel_rfl)) (by decide) (fun K hK => ?_)
  refine bQ Try.func72 (by kernel_rfl) rfl #[.slice Ao11 y161.length co11] (by rfl) rfl rfl (by (try simp only [dh, dn, dw]); first | done | rfl | (simp only [dx, dz]; rfl) | (simp only [gt_iff_lt, dA]; rfl) | (simp [Act.eval]; done) | (simp [Act.eval, *]; done)) ?_
  with_reducible refine (code_first.calls k _ _ y161 t164 _ ?side1 ?side2 A5.out).mono ?_
  (case side1 => repeat (first | exact (Kd.aZ HO163.out).2.2 | (with_reducible refine Kd.bA ?_ _) | (with_reducible refine Kd.bC ?_ _) | (with_reducible refine Kd.bJ ?_)))
  (case side2 => exact (Kd.aZ HO163.out).2.1)
  rintro e w' ⟨rfl, ⟨nd, rfl⟩⟩
  refine ⟨_, rfl, ?_⟩
  refine hK.out _ _ ⟨(ay BK157.out 0).trans rfl, (ay BK157.out 1).trans rfl⟩ (fun hHeld => ?_)
  clear hK K
  refine bG (a' := ?_) ?_ ?_
  rotate_left
  ·
   show Act.put _ (some 18) _ = _
   simp only [Act.put, cO, cZ, d9, aG, aH]
   rfl
  refine aV (i := 11) (N := some 3) (v := ?_) (a' := ?_) (dG 12 4095) rfl rfl (aU HT_.out (by kernel_rfl)) (fun _ _ _ h => h) (Or.inl ⟨by rfl, ?_⟩) ?_ ?_
  rotate_left
  ·
   intro w'
   go_simp
   with_reducible rfl
  rotate_left
  ·
   simp only [Act.put, cO, cZ, d9, aG, aH]
   rfl
  refine done_ (cK HT_.out (by kernel_rfl)) ?_
  have hcz12_0 : w9.cell? ⟨gb157, 0, none⟩ = some (.int .i64 a0_0) := (ay BK157.out 0).trans rfl
  have hcz12_1 : w9.cell? ⟨gb157, 1, none⟩ = some (.slice A0_1 l0_1.length c0_1) := (ay BK157.out 1).trans rfl
  have hfz12_0 := aD BK157.out 0
  have hfz12_1 := aD BK157.out 1
  try go_wp2
  go_loopg [4, 25] k (fun kq v4 v25 w' => ∃ (x4_1 : Int) (x25_1 : Int), v4 = .int .i64 x4_1 ∧ v25 = .int .i64 x25_1 ∧ Aside0 (code_CheckPolar.l0 kq x4_1 l0_1 (l0_1.length : Int) x25_1 a0_0 l0_1 = some r) ∧ Aside0 (kq ≤ k) ∧ Aside0 (w'.heap[gb157]? = some (.cells #[.int .i64 a0_0, (.slice A0_1 l0_1.length c0_1)] 72 (0, 0))) ∧ Aside0 (Below w.heap.size w w'))
  case atStart => exact ⟨((-1)), (0), (by first | rfl | (simp; done) | (simp [*]; done)), (by first | rfl | (simp; done) | (simp [*]; done)), H', ⟨Nat.le_refl _⟩, ⟨by (with_reducible repeat (first | refine av ?_ _ | refine aC ?_ | refine au ?_ _)); exact BK157.out⟩, ⟨by repeat (first | (with_reducible first | exact HB.out | apply ak | apply ah | apply aj | refine aA ?_ GE157.out) | exact HB.out)⟩⟩
  case round =>
   clear H'
   try clear c1
   try clear c2
   try clear p2
   try clear c6
   try clear c6b0
   try clear c6b1
   try clear c7
   try clear hcz12_0
   try clear hcz12_1
   try clear hfz12_0
   try clear hfz12_1
   obtain ⟨x4_1, x25_1, rfl, rfl, HA, HK1, BK157, HB⟩ := hrel
   cases gk with
   | zero => exact absurd HA.out (by simp [code_CheckPolar.l0])
   | succ k1 =>
    have H := HA.out
    clear HA
    simp only [code_CheckPolar.l0] at H
    by_cases c13 : x25_1 < (l0_1.length : Int)
    ·
     rw [if_pos c13] at H
     have c13b0 : decide (x25_1 < (l0_1.length : Int)) = true := decide_eq_true c13
     clear c13
     by_cases c14 : 0 ≤ x25_1
     ·
      rw [if_pos c14] at H
      have c14b0 : decide (0 ≤ x25_1) = true := decide_eq_true c14
      clear c14
      by_cases c15 : x25_1 < (l0_1.length : Int)
      ·
       rw [if_pos c15] at H
       have c15b0 : decide (x25_1 < (l0_1.length : Int)) = true := decide_eq_true c15
       clear c15
       by_cases c16 : 0 ≤ a0_0
       ·
        rw [if_pos c16] at H
        have c16b0 := eq_true c16
        have c16b1 : decide (0 ≤ a0_0) = true := decide_eq_true c16
        clear c16
        obtain ⟨ji17, hji17⟩ : ∃ j_ : Int, (shl .i64 1 a0_0) = j_ := ⟨_, rfl⟩
        replace H : ((code_within.f (rd l0_1 x25_1) 0 (wrap64 ((ji17) - 1))).bind fun t166 => ((code_unless.f t166 2).bind fun t167 => ((code_unless.f (decide ((rd l0_1 x25_1) > x4_1)) 9).bind fun t168 => ((code_first.f k1 (([t167, t168] : List Int))).bind fun t172 => (if t172 = 0 then (code_CheckPolar.l0 k1 (rd l0_1 x25_1) l0_1 (l0_1.length : Int) (wrap64 (x25_1 + 1)) a0_0 l0_1) else (some t172)))))) = some r := by first | (rw [hji17] at H; exact H) | (simp only [hji17] at H ⊢; exact H)
        have hji17_ : (IntKind.i64.wrap (1 * 2 ^ min a0_0.toNat 64)) = ji17 := hji17
        have hji17z : a0_0 ≤ 64 → (IntKind.i64.wrap (1 * 2 ^ a0_0.toNat)) = ji17 := shl_small hji17
        have hji17u : (IntKind.i64.wrap (2 ^ min a0_0.toNat 64)) = ji17 := by have h_ := hji17_; rw [Int.one_mul] at h_; exact h_
        have hji17v : a0_0 ≤ 64 → (IntKind.i64.wrap (2 ^ a0_0.toNat)) = ji17 := fun hle_ => by have h_ := hji17z hle_; rw [Int.one_mul] at h_; exact h_
        have hji17y : (wrap64 (1 * 2 ^ min a0_0.toNat 64)) = ji17 := (aG _).symm.trans hji17_
        have hji17x : a0_0 ≤ 64 → (wrap64 (1 * 2 ^ a0_0.toNat)) = ji17 := fun h_ => (aG _).symm.trans (hji17z h_)
        replace H := dF.mp H
        obtain ⟨t166, A180, H⟩ := H
        replace H : ((code_unless.f t166 2).bind fun t167 => ((code_unless.f (decide ((rd l0_1 x25_1) > x4_1)) 9).bind fun t168 => ((code_first.f k1 (([t167, t168] : List Int))).bind fun t172 => (if t172 = 0 then (code_CheckPolar.l0 k1 (rd l0_1 x25_1) l0_1 (l0_1.length : Int) (wrap64 (x25_1 + 1)) a0_0 l0_1) else (some t172))))) = some r := H
        have A18 := dH A180
        clear A180
        replace H := dF.mp H
        obtain ⟨t167, A190, H⟩ := H
        replace H : ((code_unless.f (decide ((rd l0_1 x25_1) > x4_1)) 9).bind fun t168 => ((code_first.f k1 (([t167, t168] : List Int))).bind fun t172 => (if t172 = 0 then (code_CheckPolar.l0 k1 (rd l0_1 x25_1) l0_1 (l0_1.length : Int) (wrap64 (x25_1 + 1)) a0_0 l0_1) else (some t172)))) = some r := H
        have A19 := dH A190
        clear A190
        replace H := dF.mp H
        obtain ⟨t168, A200, H⟩ := H
        replace H : ((code_first.f k1 (([t167, t168] : List Int))).bind fun t172 => (if t172 = 0 then (code_CheckPolar.l0 k1 (rd l0_1 x25_1) l0_1 (l0_1.length : Int) (wrap64 (x25_1 + 1)) a0_0 l0_1) else (some t172))) = some r := H
        have A20 := dH A200
        clear A200
        obtain ⟨y169, hy169⟩ : ∃ y_ : List Int, y_ = (([t167, t168] : List Int)) := ⟨_, rfl⟩
        replace H : ((code_first.f k1 y169).bind fun t172 => (if t172 = 0 then (code_CheckPolar.l0 k1 (rd l0_1 x25_1) l0_1 (l0_1.length : Int) (wrap64 (x25_1 + 1)) a0_0 l0_1) else (some t172))) = some r := by first | (rw [hy169]; with_reducible exact H) | (have H2_ := (Option.bind_some _ _).symm.trans H; rw [hy169]; with_reducible exact H2_) | (have H2_ := (Option.bind_some _ _).symm.trans H; with_reducible exact H2_) | with_reducible exact H | (rw [hy169]; exact H) | exact H
        have Ny169 := dH hy169
        clear hy169
        replace H := dF.mp H
        obtain ⟨t172, A210, H⟩ := H
        replace H : (if t172 = 0 then (code_CheckPolar.l0 k1 (rd l0_1 x25_1) l0_1 (l0_1.length : Int) (wrap64 (x25_1 + 1)) a0_0 l0_1) else (some t172)) = some r := H
        have A21 := dH A210
        clear A210
        by_cases c22 : t172 = 0
        ·
         rw [if_pos c22] at H
         have c22b0 : (t172 == 0) = true := beq_iff_eq.mpr c22
         have c22b1 : (t172 != 0) = false := bne_eq_false_iff_eq.mpr c22
         clear c22
         have H' := dH H
         clear H
         have p165 : 0 ≤ (x25_1 : Int) := dD (by first | (with_reducible assumption) | assumption)
         have q165 : x25_1 < (l0_1.length : Int) := dD (by first | (with_reducible assumption) | assumption)
         obtain ⟨ad165, e165, hx165_0⟩ := Kd.bX HR0_1.out x25_1 p165 q165
         cases e165
         replace hx165_0 := (HB.out.cell (dB w _ hx165_0)).trans hx165_0
         replace p165 := eq_true p165
         replace q165 := eq_true q165
         have hcz23_0 : wr.cell? ⟨gb157, 0, none⟩ = some (.int .i64 a0_0) := (ay BK157.out 0).trans rfl
         have hcz23_1 : wr.cell? ⟨gb157, 1, none⟩ = some (.slice (some ad165) l0_1.length c0_1) := (ay BK157.out 1).trans rfl
         have hfz23_0 := aD BK157.out 0
         have hfz23_1 := aD BK157.out 1
         go_wp2_with (first | ((with_reducible refine aT (f := 69) rfl ?_); refine bq (some 34) rfl rfl Try.func69 (by kernel_rfl) rfl #[.int .i64 (rd l0_1 x25_1), .int .i64 0, .int .i64 (wrap64 ((ji17) - 1))] rfl (by (try simp only [dh, dn, dw]); first | done | (simp only [hji17]; rfl) | rfl | (simp only [dx, dz]; rfl) | (simp only [gt_iff_lt, dA]; rfl) | (simp [Act.eval]; done) | (simp [Act.eval, *]; done)) ?_; (with_reducible refine (code_within.calls (rd l0_1 x25_1) 0 (wrap64 ((ji17) - 1)) t166 _ A18.out).mono ?_); rintro e w' ⟨rfl, ⟨nd, rfl⟩⟩; refine ⟨_, rfl, ?_⟩) | ((with_reducible refine aT (f := 74) rfl ?_); refine bq (some 35) rfl rfl Try.func74 (by kernel_rfl) rfl #[.bool t166, .int .i64 2] rfl (by (try simp only [dh, dn, dw]); first | done | rfl | (simp only [dx, dz]; rfl) | (simp only [gt_iff_lt, dA]; rfl) | (simp [Act.eval]; done) | (simp [Act.eval, *]; done)) ?_; (with_reducible refine (code_unless.calls t166 2 t167 _ A19.out).mono ?_); rintro e w' ⟨rfl, ⟨nd, rfl⟩⟩; refine ⟨_, rfl, ?_⟩) | ((with_reducible refine aT (f := 74) rfl ?_); refine bq (some 39) rfl rfl Try.func74 (by kernel_rfl) rfl #[.bool (decide ((rd l0_1 x25_1) > x4_1)), .int .i64 9] rfl (by (try simp only [dh, dn, dw]); first | done | rfl | (simp only [dx, dz]; rfl) | (simp only [gt_iff_lt, dA]; rfl) | (simp [Act.eval]; done) | (simp [Act.eval, *]; done)) ?_; (with_reducible refine (code_unless.calls (decide ((rd l0_1 x25_1) > x4_1)) 9 t168 _ A20.out).mono ?_); rintro e w' ⟨rfl, ⟨nd, rfl⟩⟩; refine ⟨_, rfl, ?_⟩) | ((with_reducible refine bg (N := 40) rfl ?_); refine Kd.R_lit (Kd.int .i64) _ 29 ?hg (N := 40) ?hd (xs := ([t167, t168] : List Int)) (inner := [.int .i64 t167, .int .i64 t168]) (ok := fun _ => True) (okp := fun _ => True) ?hr ?hp (fun _ hk => hk) trivial (Below.refl _ _) (Nat.le_refl _) (by simp) ?_; (case hd => rfl); (case hg => rfl); (case hr => first | (go_simp; done) | (go_simp; rfl)); (case hp => exact (Reps.one (show Kd.M (Kd.int .i64) _ _ _ t167 [.int .i64 t167] from rfl) (Reps.one (show Kd.M (Kd.int .i64) _ _ _ t168 [.int .i64 t168] from rfl) (Reps.none _ _)))); intro v170 w24 ho25 hb hg_ hnew_; clear hg_ hnew_; (first | rw [← Ny169.out] at ho25 | (simp only [Int.reduceToNat] at ho25; rw [← Ny169.out] at ho25)); have n0_ := dH (Kd.bP ho25 (aK (by repeat (first | (with_reducible first | exact HB.out | apply ak | apply ah | apply aj | refine aA ?_ GE157.out) | exact HB.out)))); have n1_ := dH (aQ (g := gb157) (o := .cells #[.int .i64 a0_0, .slice (some ad165) l0_1.length c0_1] 72 (0, 0)) (by (with_reducible repeat (first | refine av ?_ _ | refine aC ?_ | refine au ?_ _)); exact BK157.out) hb); have n2_ := dH (aM (by repeat (first | (with_reducible first | exact HB.out | apply ak | apply ah | apply aj | refine aA ?_ GE157.out) | exact HB.out)) hb); clear BK157; clear HB; have HO171 := n0_; have BK157 := n1_; have HB := n2_; clear n0_ n1_ n2_; clear hb ho25; obtain ⟨Ao26, co26, eo26⟩ := Kd.bN HO171.out; subst eo26) | ((with_reducible refine aT (f := 72) rfl ?_); refine bq (some 41) rfl rfl Try.func72 (by kernel_rfl) rfl #[.slice Ao26 y169.length co26] rfl (by (try simp only [dh, dn, dw]); first | done | rfl | (simp only [dx, dz]; rfl) | (simp only [gt_iff_lt, dA]; rfl) | (simp [Act.eval]; done) | (simp [Act.eval, *]; done)) ?_; (with_reducible refine (code_first.calls k1 _ _ y169 t172 _ ?side1 ?side2 A21.out).mono ?_); (case side1 => repeat (first | exact (Kd.aZ HO171.out).2.2 | (with_reducible refine Kd.bA ?_ _) | (with_reducible refine Kd.bC ?_ _) | (with_reducible refine Kd.bJ ?_))); (case side2 => exact (Kd.aZ HO171.out).2.1); rintro e w' ⟨rfl, ⟨nd, rfl⟩⟩; refine ⟨_, rfl, ?_⟩))
         go_roundg k1
         case measure => have := HK1.out; omega
         case rel => exact ⟨(rd l0_1 x25_1), (wrap64 (x25_1 + 1)), (by first | rfl | (simp; done) | (simp [*]; done)), (by first | rfl | (simp; done) | (simp [*]; done)), H', ⟨by have := HK1.out; omega⟩, ⟨by (with_reducible repeat (first | refine av ?_ _ | refine aC ?_ | refine au ?_ _)); exact BK157.out⟩, ⟨by repeat (first | (with_reducible first | exact HB.out | apply ak | apply ah | apply aj | refine aA ?_ GE157.out) | exact HB.out)⟩⟩
        ·
         rw [if_neg c22] at H
         have c22b0 : (t172 == 0) = false := beq_eq_false_iff_ne.mpr c22
         have c22b1 : (t172 != 0) = true := bne_iff_ne.mpr c22
         obtain rfl := Option.some.inj H
         have p165 : 0 ≤ (x25_1 : Int) := dD (by first | (with_reducible assumption) | assumption)
         have q165 : x25_1 < (l0_1.length : Int) := dD (by first | (with_reducible assumption) | assumption)
         obtain ⟨ad165, e165, hx165_0⟩ := Kd.bX HR0_1.out x25_1 p165 q165
         cases e165
         replace hx165_0 := (HB.out.cell (dB w _ hx165_0)).trans hx165_0
         replace p165 := eq_true p165
         replace q165 := eq_true q165
         have hcz27_0 : wr.cell? ⟨gb157, 0, none⟩ = some (.int .i64 a0_0) := (ay BK157.out 0).trans rfl
         have hcz27_1 : wr.cell? ⟨gb157, 1, none⟩ = some (.slice (some ad165) l0_1.length c0_1) := (ay BK157.out 1).trans rfl
         have hfz27_0 := aD BK157.out 0
         have hfz27_1 := aD BK157.out 1
         go_wp2_with (first | ((with_reducible refine aT (f := 69) rfl ?_); refine bq (some 34) rfl rfl Try.func69 (by kernel_rfl) rfl #[.int .i64 (rd l0_1 x25_1), .int .i64 0, .int .i64 (wrap64 ((ji17) - 1))] rfl (by (try simp only [dh, dn, dw]); first | done | (simp only [hji17]; rfl) | rfl | (simp only [dx, dz]; rfl) | (simp only [gt_iff_lt, dA]; rfl) | (simp [Act.eval]; done) | (simp [Act.eval, *]; done)) ?_; (with_reducible refine (code_within.calls (rd l0_1 x25_1) 0 (wrap64 ((ji17) - 1)) t166 _ A18.out).mono ?_); rintro e w' ⟨rfl, ⟨nd, rfl⟩⟩; refine ⟨_, rfl, ?_⟩) | ((with_reducible refine aT (f := 74) rfl ?_); refine bq (some 35) rfl rfl Try.func74 (by kernel_rfl) rfl #[.bool t166, .int .i64 2] rfl (by (try simp only [dh, dn, dw]); first | done | rfl | (simp only [dx, dz]; rfl) | (simp only [gt_iff_lt, dA]; rfl) | (simp [Act.eval]; done) | (simp [Act.eval, *]; done)) ?_; (with_reducible refine (code_unless.calls t166 2 t167 _ A19.out).mono ?_); rintro e w' ⟨rfl, ⟨nd, rfl⟩⟩; refine ⟨_, rfl, ?_⟩) | ((with_reducible refine aT (f := 74) rfl ?_); refine bq (some 39) rfl rfl Try.func74 (by kernel_rfl) rfl #[.bool (decide ((rd l0_1 x25_1) > x4_1)), .int .i64 9] rfl (by (try simp only [dh, dn, dw]); first | done | rfl | (simp only [dx, dz]; rfl) | (simp only [gt_iff_lt, dA]; rfl) | (simp [Act.eval]; done) | (simp [Act.eval, *]; done)) ?_; (with_reducible refine (code_unless.calls (decide ((rd l0_1 x25_1) > x4_1)) 9 t168 _ A20.out).mono ?_); rintro e w' ⟨rfl, ⟨nd, rfl⟩⟩; refine ⟨_, rfl, ?_⟩) | ((with_reducible refine bg (N := 40) rfl ?_); refine Kd.R_lit (Kd.int .i64) _ 29 ?hg (N := 40) ?hd (xs := ([t167, t168] : List Int)) (inner := [.int .i64 t167, .int .i64 t168]) (ok := fun _ => True) (okp := fun _ => True) ?hr ?hp (fun _ hk => hk) trivial (Below.refl _ _) (Nat.le_refl _) (by simp) ?_; (case hd => rfl); (case hg => rfl); (case hr => first | (go_simp; done) | (go_simp; rfl)); (case hp => exact (Reps.one (show Kd.M (Kd.int .i64) _ _ _ t167 [.int .i64 t167] from rfl) (Reps.one (show Kd.M (Kd.int .i64) _ _ _ t168 [.int .i64 t168] from rfl) (Reps.none _ _)))); intro v170 w28 ho29 hb hg_ hnew_; clear hg_ hnew_; (first | rw [← Ny169.out] at ho29 | (simp only [Int.reduceToNat] at ho29; rw [← Ny169.out] at ho29)); have n0_ := dH (Kd.bP ho29 (aK (by repeat (first | (with_reducible first | exact HB.out | apply ak | apply ah | apply aj | refine aA ?_ GE157.out) | exact HB.out)))); have n1_ := dH (aQ (g := gb157) (o := .cells #[.int .i64 a0_0, .slice (some ad165) l0_1.length c0_1] 72 (0, 0)) (by (with_reducible repeat (first | refine av ?_ _ | refine aC ?_ | refine au ?_ _)); exact BK157.out) hb); have n2_ := dH (aM (by repeat (first | (with_reducible first | exact HB.out | apply ak | apply ah | apply aj | refine aA ?_ GE157.out) | exact HB.out)) hb); clear BK157; clear HB; have HO171 := n0_; have BK157 := n1_; have HB := n2_; clear n0_ n1_ n2_; clear hb ho29; obtain ⟨Ao30, co30, eo30⟩ := Kd.bN HO171.out; subst eo30) | ((with_reducible refine aT (f := 72) rfl ?_); refine bq (some 41) rfl rfl Try.func72 (by kernel_rfl) rfl #[.slice Ao30 y169.length co30] rfl (by (try simp only [dh, dn, dw]); first | done | rfl | (simp only [dx, dz]; rfl) | (simp only [gt_iff_lt, dA]; rfl) | (simp [Act.eval]; done) | (simp [Act.eval, *]; done)) ?_; (with_reducible refine (code_first.calls k1 _ _ y169 t172 _ ?side1 ?side2 A21.out).mono ?_); (case side1 => repeat (first | exact (Kd.aZ HO171.out).2.2 | (with_reducible refine Kd.bA ?_ _) | (with_reducible refine Kd.bC ?_ _) | (with_reducible refine Kd.bJ ?_))); (case side2 => exact (Kd.aZ HO171.out).2.1); rintro e w' ⟨rfl, ⟨nd, rfl⟩⟩; refine ⟨_, rfl, ?_⟩))
         go_ret
         exact ⟨by first | rfl | (simp [aX, aY] <;> rfl) | (simp only [← hji17]; first | rfl | (simp [aX, aY] <;> rfl)) | (simp [*, aX, aY] <;> rfl), by repeat (first | (with_reducible first | exact HB.out | apply ak | apply ah | apply aj | refine aA ?_ GE157.out) | exact HB.out)⟩
       ·
        rw [if_neg c16] at H
        exact absurd H (by simp)
      ·
       rw [if_neg c15] at H
       exact absurd H (by simp)
     ·
      rw [if_neg c14] at H
      exact absurd H (by simp)
    ·
     rw [if_neg c13] at H
     have c13b0 : decide (x25_1 < (l0_1.length : Int)) = false := decide_eq_false c13
     clear c13
     obtain rfl := Option.some.inj H
     go_wp2
     go_ret
     exact ⟨by first | rfl | (simp [aX, aY] <;> rfl) | (simp [*, aX, aY] <;> rfl), by repeat (first | (with_reducible first | exact HB.out | apply ak | apply ah | apply aj | refine aA ?_ GE157.out) | exact HB.out)⟩
 ·
  rw [if_neg c6] at H
  have c6b0 : (t164 == 0) = false := beq_eq_false_iff_ne.mpr c6
  have c6b1 : (t164 != 0) = true := bne_iff_ne.mpr c6
  obtain rfl := Option.some.inj H
  go_enter Try.func140, Try.ntmps140
  try go_wp2_with (first | ((with_reducible refine bg (N := 1) rfl ?_); refine bI ?hg (N := 1) ?hd (cs := #[.int .i64 a0_0, .slice A0_1 l0_1.length c0_1]) (t := 72) ?hr ?_; (case hd => rfl); (case hg => rfl); (case hr => first | (go_simp; done) | (go_simp; rfl)); intro gb157 hg w31 hbox hb; have n0_ := dH (aM (by repeat (first | (with_reducible first | exact HB.out | apply ak | apply ah | apply aj) | exact HB.out)) hb); have n1_ := dH (hbox); have n2_ := dH ((by rw [hg]; exact (aK (by repeat (first | (with_reducible first | exact HB.out | apply ak | apply ah | apply aj) | exact HB.out))) : w.heap.size ≤ gb157)); have n3_ := dH ((by rw [hg]; exact (aK (by repeat (first | (with_reducible first | exact HB.out | apply ak | apply ah | apply aj) | exact HB.out))) : w.heap.size ≤ gb157)); clear HB; have HB := n0_; have BK157 := n1_; have GW157 := n2_; have GE157 := n3_; clear n0_ n1_ n2_ n3_; clear hb hbox hg))
  have n0_ := dH (aC BK157.out)
  have n1_ := dH (aj HB.out)
  clear BK157
  clear HB
  have BK157 := n0_
  have HB := n1_
  clear n0_ n1_
  refine b_ (n := 12) (S := fun w' => w'.cell? ⟨gb157, 0, none⟩ = some (.int .i64 a0_0) ∧ w'.cell? ⟨gb157, 1, none⟩ = some (.slice A0_1 l0_1.length c0_1)) (ds := []) (dG 12 0) (by kernel_rfl) rfl rfl ⟨(ay BK157.out 0).trans rfl, (ay BK157.out 1).trans rfl⟩ (fun hHeld => ?_); refine bZ code_CheckPolar.tab1 code_CheckPolar.bits1 (fun HT_ HW_ => ?_)
  generalize w31.drew = w32 at BK157 HB hHeld ⊢
  refine aV (i := 0) (N := some 8) (v := ?_) (a' := ?_) (dG 12 1) rfl rfl (aU HT_.out (by kernel_rfl)) (fun _ _ _ h => h) (Or.inl ⟨by rfl, ?_⟩) ?_ ?_
  rotate_left
  ·
   intro w'
   go_simp
   with_reducible rfl
  rotate_left
  ·
   simp only [Act.put, cO, cZ, d9, aG, aH]
   rfl
  refine aV (i := 4) (N := some 12) (v := ?_) (a' := ?_) (dG 12 17) rfl rfl (aU HT_.out (by kernel_rfl)) (fun _ _ _ h => h) (Or.inl ⟨by rfl, ?_⟩) ?_ ?_
  rotate_left
  ·
   intro w'
   go_simp
   with_reducible rfl
  rotate_left
  ·
   simp only [Act.put, cO, cZ, d9, aG, aH]
   rfl
  refine bK (i := 1) (N := some 9) (v := ?_) (a' := ?_) (dG 12 19) rfl rfl (bD HT_.out HW_.out (by kernel_rfl)) (fun _ _ _ h => h) (Or.inl ⟨by rfl, ?_⟩) hHeld ?_ ?_
  rotate_left
  ·
   rintro w' ⟨s0, s1⟩
   go_simp
   with_reducible rfl
  rotate_left
  ·
   simp only [Act.put, cO, cZ, d9, aG, aH]
   rfl
  refine bK (i := 5) (N := some 13) (v := ?_) (a' := ?_) (dG 12 51) rfl rfl (bD HT_.out HW_.out (by kernel_rfl)) (fun _ _ _ h => h) (Or.inl ⟨by rfl, ?_⟩) hHeld ?_ ?_
  rotate_left
  ·
   rintro w' ⟨s0, s1⟩
   go_simp
   with_reducible rfl
  rotate_left
  ·
   simp only [Act.put, cO, cZ, d9, aG, aH]
   rfl
  refine aV (i := 6) (N := some 14) (v := ?_) (a' := ?_) (dG 12 115) rfl rfl (aU HT_.out (by kernel_rfl)) (fun _ _ _ h => h) (Or.inl ⟨by rfl, ?_⟩) ?_ ?_
  rotate_left
  ·
   intro w'
   go_simp
   with_reducible rfl
  rotate_left
  ·
   simp only [Act.put, cO, cZ, d9, aG, aH]
   rfl
  refine aV (i := 7) (N := some 15) (v := ?_) (a' := ?_) (dG 12 243) rfl rfl (aU HT_.out (by kernel_rfl)) (fun _ _ _ h => h) (Or.inl ⟨by rfl, ?_⟩) ?_ ?_
  rotate_left
  ·
   intro w'
   go_simp
   with_reducible rfl
  rotate_left
  ·
   simp only [Act.put, cO, cZ, d9, aG, aH]
   rfl
  refine bR (i := 2) (N := some 10) (dG 12 247) rfl rfl (bB HT_.out (by kernel_rfl)) (by decide) (fun K hK => ?_)
  refine bQ Try.func212 (by kernel_rfl) rfl #[.int .i64 a0_0] (by rfl) rfl rfl (by (try simp only [dh, dn, dw]); first | done | rfl | (simp only [dx, dz]; rfl) | (simp only [gt_iff_lt, dA]; rfl) | (simp [Act.eval]; done) | (simp [Act.eval, *]; done)) ?_
  with_reducible refine (code_isPower.calls a0_0 t158 _ A2.out).mono ?_
  rintro e w' ⟨rfl, ⟨nd, rfl⟩⟩
  refine ⟨_, rfl, ?_⟩
  refine hK.out _ _ ⟨(ay BK157.out 0).trans rfl, (ay BK157.out 1).trans rfl⟩ (fun hHeld => ?_)
  clear hK K
  refine bG (a' := ?_) ?_ ?_
  rotate_left
  ·
   show Act.put _ (some 10) _ = _
   simp only [Act.put, cO, cZ, d9, aG, aH]
   rfl
  refine bR (i := 3) (N := some 11) (dG 12 255) rfl rfl (bB HT_.out (by kernel_rfl)) (by decide) (fun K hK => ?_)
  refine bQ Try.func74 (by kernel_rfl) rfl #[.bool t158, .int .i64 2] (by rfl) rfl rfl (by (try simp only [dh, dn, dw]); first | done | rfl | (simp only [dx, dz]; rfl) | (simp only [gt_iff_lt, dA]; rfl) | (simp [Act.eval]; done) | (simp [Act.eval, *]; done)) ?_
  with_reducible refine (code_unless.calls t158 2 t159 _ A3.out).mono ?_
  rintro e w' ⟨rfl, ⟨nd, rfl⟩⟩
  refine ⟨_, rfl, ?_⟩
  refine hK.out _ _ ⟨(ay BK157.out 0).trans rfl, (ay BK157.out 1).trans rfl⟩ (fun hHeld => ?_)
  clear hK K
  refine bG (a' := ?_) ?_ ?_
  rotate_left
  ·
   show Act.put _ (some 11) _ = _
   simp only [Act.put, cO, cZ, d9, aG, aH]
   rfl
  refine bR (i := 8) (N := some 16) (dG 12 511) rfl rfl (bB HT_.out (by kernel_rfl)) (by decide) (fun K hK => ?_)
  refine bQ Try.func74 (by kernel_rfl) rfl #[.bool (decide ((l0_1.length : Int) > 0)), .int .i64 10] (by rfl) rfl rfl (by (try simp only [dh, dn, dw]); first | done | rfl | (simp only [dx, dz]; rfl) | (simp only [gt_iff_lt, dA]; rfl) | (simp [Act.eval]; done) | (simp [Act.eval, *]; done)) ?_
  with_reducible refine (code_unless.calls (decide ((l0_1.length : Int) > 0)) 10 t160 _ A4.out).mono ?_
  rintro e w' ⟨rfl, ⟨nd, rfl⟩⟩
  refine ⟨_, rfl, ?_⟩
  refine hK.out _ _ ⟨(ay BK157.out 0).trans rfl, (ay BK157.out 1).trans rfl⟩ (fun hHeld => ?_)
  clear hK K
  refine bG (a' := ?_) ?_ ?_
  rotate_left
  ·
   show Act.put _ (some 16) _ = _
   simp only [Act.put, cO, cZ, d9, aG, aH]
   rfl
  refine bR (i := 9) (N := some 17) (dG 12 1023) rfl rfl (bB HT_.out (by kernel_rfl)) (by decide) (fun K hK => ?_)
  refine Kd.R_lit_step (Kd.int .i64) _ 29 ?hg (N := 17) ?hd (xs := ([t159, t160] : List Int)) (inner := [.int .i64 t159, .int .i64 t160]) (ok := fun _ => True) (okp := fun _ => True) ?hr ?hp (fun _ hk => hk) trivial (Below.refl _ _) (Nat.le_refl _) (by simp) ?_; (case hd => rfl); (case hg => rfl); (case hr => first | (go_simp; done) | (go_simp; rfl)); (case hp => exact (Reps.one (show Kd.M (Kd.int .i64) _ _ _ t159 [.int .i64 t159] from rfl) (Reps.one (show Kd.M (Kd.int .i64) _ _ _ t160 [.int .i64 t160] from rfl) (Reps.none _ _))))
  intro v162 w33 ho34 hb hg_ hnew_
  clear hg_ hnew_
  (first | rw [← Ny161.out] at ho34 | (simp only [Int.reduceToNat] at ho34; rw [← Ny161.out] at ho34))
  have n0_ := dH (Kd.bP ho34 (aK (by repeat (first | (with_reducible first | exact HB.out | apply ak | apply ah | apply aj | refine aA ?_ GE157.out) | exact HB.out))))
  have n1_ := dH (aQ (g := gb157) (o := .cells #[.int .i64 a0_0, .slice A0_1 l0_1.length c0_1] 72 (0, 0)) (by (with_reducible repeat (first | refine av ?_ _ | refine aC ?_ | refine au ?_ _)); exact BK157.out) hb)
  have n2_ := dH (aM (by repeat (first | (with_reducible first | exact HB.out | apply ak | apply ah | apply aj | refine aA ?_ GE157.out) | exact HB.out)) hb)
  clear BK157
  clear HB
  have HO163 := n0_
  have BK157 := n1_
  have HB := n2_
  clear n0_ n1_ n2_
  clear hb ho34
  obtain ⟨Ao35, co35, eo35⟩ := Kd.bN HO163.out
  (first | subst eo35 | (injection eo35 with f1_ f2_ f3_; have f4_ := f1_.symm; have f5_ := f3_.symm; clear f1_ f2_ f3_; subst f4_; subst f5_))
  refine hK.out _ _ ⟨(ay BK157.out 0).trans rfl, (ay BK157.out 1).trans rfl⟩ (fun hHeld => ?_)
  clear hK K
  refine bG (a' := ?_) ?_ ?_
  rotate_left
  ·
   show Act.put _ (some 17) _ = _
   simp only [Act.put, cO, cZ, d9, aG, aH]
   rfl
  refine bR (i := 10) (N := some 18) (dG 12 2047) rfl rfl (bB HT_.out (by kernel_rfl)) (by decide) (fun K hK => ?_)
  refine bQ Try.func72 (by kernel_rfl) rfl #[.slice Ao35 y161.length co35] (by rfl) rfl rfl (by (try simp only [dh, dn, dw]); first | done | rfl | (simp only [dx, dz]; rfl) | (simp only [gt_iff_lt, dA]; rfl) | (simp [Act.eval]; done) | (simp [Act.eval, *]; done)) ?_
  with_reducible refine (code_first.calls k _ _ y161 t164 _ ?side1 ?side2 A5.out).mono ?_
  (case side1 => repeat (first | exact (Kd.aZ HO163.out).2.2 | (with_reducible refine Kd.bA ?_ _) | (with_reducible refine Kd.bC ?_ _) | (with_reducible refine Kd.bJ ?_)))
  (case side2 => exact (Kd.aZ HO163.out).2.1)
  rintro e w' ⟨rfl, ⟨nd, rfl⟩⟩
  refine ⟨_, rfl, ?_⟩
  refine hK.out _ _ ⟨(ay BK157.out 0).trans rfl, (ay BK157.out 1).trans rfl⟩ (fun hHeld => ?_)
  clear hK K
  refine bG (a' := ?_) ?_ ?_
  rotate_left
  ·
   show Act.put _ (some 18) _ = _
   simp only [Act.put, cO, cZ, d9, aG, aH]
   rfl
  refine aV (i := 11) (N := some 3) (v := ?_) (a' := ?_) (dG 12 4095) rfl rfl (aU HT_.out (by kernel_rfl)) (fun _ _ _ h => h) (Or.inl ⟨by rfl, ?_⟩) ?_ ?_
  rotate_left
  ·
   intro w'
   go_simp
   with_reducible rfl
  rotate_left
  ·
   simp only [Act.put, cO, cZ, d9, aG, aH]
   rfl
  refine done_ (cK HT_.out (by kernel_rfl)) ?_
  try go_wp2
  go_ret
  exact ⟨by first | rfl | (simp [aX, aY] <;> rfl) | (simp [*, aX, aY] <;> rfl), by repeat (first | (with_reducible first | exact HB.out | apply ak | apply ah | apply aj | refine aA ?_ GE157.out) | exact HB.out)⟩
def downtiltlaw02_Polar.f  : Option (Int × List Int) := some (2, (([1, 2, 3] : List Int)))
theorem downtiltlaw02_Polar.calls  (r1 : Int) (r2 : List Int) (w : World) (h : downtiltlaw02_Polar.f  = some (r1, r2)) :
  Calls Try.prog 65 #[] w fun e w' => ∃ v1_ : Value, e = .returned (.agg #[.int .i64 r1, v1_]) ∧ Kd.R (Kd.int .i64) 3 w' w.heap.size (fun _ => True) v1_ r2 ∧ Below w.heap.size w w' := by
 have hu72 := Try.underlying72
 have HB := dH (Below.refl w.heap.size w)
 have H : (some (2, (([1, 2, 3] : List Int)))) = some (r1, r2) := h
 clear h
 obtain ⟨y185, hy185⟩ : ∃ y_ : List Int, y_ = (([1, 2, 3] : List Int)) := ⟨_, rfl⟩
 replace H : (some (2, y185)) = some (r1, r2) := by first | (rw [hy185]; with_reducible exact H) | (have H2_ := (Option.bind_some _ _).symm.trans H; rw [hy185]; with_reducible exact H2_) | (have H2_ := (Option.bind_some _ _).symm.trans H; with_reducible exact H2_) | with_reducible exact H | (rw [hy185]; exact H) | exact H
 have Ny185 := dH hy185
 clear hy185
 simp only [Option.some.injEq, Prod.mk.injEq] at H
 obtain ⟨rfl, rfl⟩ := H
 go_enter Try.func65, Try.ntmps65
 go_wp2_with (first | ((with_reducible refine bg (N := 0) rfl ?_); refine bI ?hg (N := 0) ?hd (cs := #[.int .i64 0, .slice none 0 0]) (t := 72) ?hr ?_; (case hd => rfl); (case hg => rfl); (case hr => first | (go_simp; done) | (go_simp; rfl)); intro gb184 hg w1 hbox hb; have n0_ := dH (aM (by repeat (first | (with_reducible first | exact HB.out | apply ak | apply ah | apply aj) | exact HB.out)) hb); have n1_ := dH (hbox); have n2_ := dH ((by rw [hg]; exact (aK (by repeat (first | (with_reducible first | exact HB.out | apply ak | apply ah | apply aj) | exact HB.out))) : w.heap.size ≤ gb184)); have n3_ := dH ((by rw [hg]; exact (aK (by repeat (first | (with_reducible first | exact HB.out | apply ak | apply ah | apply aj) | exact HB.out))) : w.heap.size ≤ gb184)); clear HB; have HB := n0_; have BK184 := n1_; have GW184 := n2_; have GE184 := n3_; clear n0_ n1_ n2_ n3_; clear hb hbox hg) | ((with_reducible refine bg (N := 1) rfl ?_); refine Kd.R_lit (Kd.int .i64) _ 3 ?hg (N := 1) ?hd (xs := ([1, 2, 3] : List Int)) (inner := [.int .i64 1, .int .i64 2, .int .i64 3]) (ok := fun _ => True) (okp := fun _ => True) ?hr ?hp (fun _ hk => hk) trivial (Below.refl _ _) (Nat.le_refl _) (by simp) ?_; (case hd => rfl); (case hg => rfl); (case hr => first | (go_simp; done) | (go_simp; rfl)); (case hp => exact (Reps.one (show Kd.M (Kd.int .i64) _ _ _ 1 [.int .i64 1] from rfl) (Reps.one (show Kd.M (Kd.int .i64) _ _ _ 2 [.int .i64 2] from rfl) (Reps.one (show Kd.M (Kd.int .i64) _ _ _ 3 [.int .i64 3] from rfl) (Reps.none _ _))))); intro v186 w2 ho3 hb hg_ hnew_; clear hg_ hnew_; (first | rw [← Ny185.out] at ho3 | (simp only [Int.reduceToNat] at ho3; rw [← Ny185.out] at ho3)); have n0_ := dH (Kd.bP ho3 (aK (by repeat (first | (with_reducible first | exact HB.out | apply ak | apply ah | apply aj | refine aA ?_ GE184.out) | exact HB.out)))); have n1_ := dH (aQ (g := gb184) (o := .cells #[.int .i64 0, .slice none 0 0] 72 (0, 0)) (by (with_reducible repeat (first | refine av ?_ _ | refine aC ?_ | refine au ?_ _)); exact BK184.out) hb); have n2_ := dH (aM (by repeat (first | (with_reducible first | exact HB.out | apply ak | apply ah | apply aj | refine aA ?_ GE184.out) | exact HB.out)) hb); clear BK184; clear HB; have HO187 := n0_; have BK184 := n1_; have HB := n2_; clear n0_ n1_ n2_; clear hb ho3; obtain ⟨Ao4, co4, eo4⟩ := Kd.bN HO187.out; subst eo4; have hcz5_0 : w2.cell? ⟨gb184, 0, none⟩ = some (.int .i64 0) := (ay BK184.out 0).trans rfl; have hcz5_1 : w2.cell? ⟨gb184, 1, none⟩ = some (.slice none 0 0) := (ay BK184.out 1).trans rfl; have hfz5_0 := aD BK184.out 0; have hfz5_1 := aD BK184.out 1))
 refine bodyPost_ret (results_cell_row rfl _ _ gb184 72 #[.int .i64 2, .slice Ao4 y185.length co4] (0, 0) _ rfl (by (with_reducible repeat (first | refine av ?_ _ | refine aC ?_ | refine au ?_ _)); refine bL (cs := #[.int .i64 2, .slice none 0 0]) ?_ 1 _ rfl; (with_reducible repeat (first | refine av ?_ _ | refine aC ?_ | refine au ?_ _)); refine bL (cs := #[.int .i64 0, .slice none 0 0]) ?_ 0 _ rfl; (with_reducible repeat (first | refine av ?_ _ | refine aC ?_ | refine au ?_ _)); exact BK184.out) Try.underlying72 rfl (by kernel_rfl)) rfl ?_
 exact ⟨_, by first | rfl | (simp [aX, aY] <;> rfl) | (simp [*, aX, aY] <;> rfl), by (with_reducible repeat (first | apply Kd.aI | apply Kd.aJ | apply Kd.aN)); exact Kd.bM (Kd.bV (p := ⟨gb184, 1, none⟩) (Kd.bV (p := ⟨gb184, 0, none⟩) (Kd.bU HO187.out BK184.out (by decide)) (fun _ hk => hk.2) (.int .i64 2)) (fun _ hk => hk.2) (.slice Ao4 y185.length co4)) (fun _ hk => trivial), by repeat (first | (with_reducible first | exact HB.out | apply ak | apply ah | apply aj | refine aA ?_ GE184.out) | exact HB.out)⟩
def code_size.f (a0 : Int) : Option (Int) := some (mx a0 (wrap64 (-a0)))
theorem code_size.calls (a0 : Int) (r : Int) (w : World) (h : code_size.f a0 = some r) :
  Calls Try.prog 198 #[.int .i64 a0] w fun e w' => e = .returned (.int .i64 r) ∧ Below w.heap.size w w' := by
 have HB := dH (Below.refl w.heap.size w)
 have H : (some (mx a0 (wrap64 (-a0)))) = some r := h
 clear h
 obtain ⟨ji2, hji2⟩ : ∃ j_ : Int, (mx a0 (wrap64 (-a0))) = j_ := ⟨_, rfl⟩
 replace H : (some ji2) = some r := by first | (rw [hji2] at H; exact H) | (simp only [hji2] at H ⊢; exact H)
 have hji2_ : (if a0 < (wrap64 (-a0)) then (wrap64 (-a0)) else a0) = ji2 := hji2
 obtain rfl := Option.some.inj H
 go_enter Try.func198, Try.ntmps198
 go_wp2
 go_ret
 exact ⟨by first | rfl | (simp [aX, aY] <;> rfl) | (simp only [← hji2]; first | rfl | (simp [aX, aY] <;> rfl)) | (simp [*, aX, aY] <;> rfl), by repeat (first | (with_reducible first | exact HB.out | apply ak | apply ah | apply aj) | exact HB.out)⟩
def cmp_Compare_int.f (a0 : Int) (a1 : Int) : Option (Int) := (cmp_isNaN_int.f a0).bind fun t188 => ((cmp_isNaN_int.f a1).bind fun t189 => (if t188 = true then (if t189 = true then (some 0) else (some (-1))) else (if t189 = true then (some 1) else (if a0 < a1 then (some (-1)) else (if a0 > a1 then (some 1) else (some 0))))))
theorem cmp_Compare_int.calls (a0 : Int) (a1 : Int) (r : Int) (w : World) (h : cmp_Compare_int.f a0 a1 = some r) :
  Calls Try.prog 240 #[.int .i64 a0, .int .i64 a1] w fun e w' => e = .returned (.int .i64 r) ∧ Drawn0 w w' := by
 have H : ((cmp_isNaN_int.f a0).bind fun t188 => ((cmp_isNaN_int.f a1).bind fun t189 => (if t188 = true then (if t189 = true then (some 0) else (some (-1))) else (if t189 = true then (some 1) else (if a0 < a1 then (some (-1)) else (if a0 > a1 then (some 1) else (some 0))))))) = some r := h
 clear h
 replace H := dF.mp H
 obtain ⟨t188, A30, H⟩ := H
 replace H : ((cmp_isNaN_int.f a1).bind fun t189 => (if t188 = true then (if t189 = true then (some 0) else (some (-1))) else (if t189 = true then (some 1) else (if a0 < a1 then (some (-1)) else (if a0 > a1 then (some 1) else (some 0)))))) = some r := H
 have A3 := dH A30
 clear A30
 replace H := dF.mp H
 obtain ⟨t189, A40, H⟩ := H
 replace H : (if t188 = true then (if t189 = true then (some 0) else (some (-1))) else (if t189 = true then (some 1) else (if a0 < a1 then (some (-1)) else (if a0 > a1 then (some 1) else (some 0))))) = some r := H
 have A4 := dH A40
 clear A40
 by_cases c5 : t188 = true
 ·
  subst c5
  have H1 : (if t189 = true then (some 0) else (some (-1))) = some r := by rw [if_pos rfl] at H; exact H
  clear H
  have H := H1
  clear H1
  by_cases c6 : t189 = true
  ·
   subst c6
   have H1 : (some 0) = some r := by rw [if_pos rfl] at H; exact H
   clear H
   have H := H1
   clear H1
   obtain rfl := Option.some.inj H
   go_enter Try.func240, Try.ntmps240
   go_wp2_with (first | ((with_reducible refine aT (f := 249) rfl ?_); refine bq (some 8) rfl rfl Try.func249 (by kernel_rfl) rfl #[.int .i64 a0] rfl (by (try simp only [dh, dn, dw]); first | done | rfl | (simp only [dx, dz]; rfl) | (simp only [gt_iff_lt, dA]; rfl) | (simp [Act.eval]; done) | (simp [Act.eval, *]; done)) ?_; (with_reducible refine (cmp_isNaN_int.calls a0 true _ A3.out).mono ?_); rintro e w' ⟨rfl, ⟨nd, rfl⟩⟩; refine ⟨_, rfl, ?_⟩) | ((with_reducible refine aT (f := 249) rfl ?_); refine bq (some 10) rfl rfl Try.func249 (by kernel_rfl) rfl #[.int .i64 a1] rfl (by (try simp only [dh, dn, dw]); first | done | rfl | (simp only [dx, dz]; rfl) | (simp only [gt_iff_lt, dA]; rfl) | (simp [Act.eval]; done) | (simp [Act.eval, *]; done)) ?_; (with_reducible refine (cmp_isNaN_int.calls a1 true _ A4.out).mono ?_); rintro e w' ⟨rfl, ⟨nd, rfl⟩⟩; refine ⟨_, rfl, ?_⟩))
   go_ret
   exact ⟨by first | rfl | (simp; done) | (simp [*]; done), by repeat (first | exact Drawn0.refl _ | apply Drawn0.step)⟩
  ·
   replace c6 := Bool.eq_false_iff.mpr c6
   subst c6
   have H1 : (some (-1)) = some r := by rw [if_neg (show ¬ (false = true) by decide)] at H; exact H
   clear H
   have H := H1
   clear H1
   obtain rfl := Option.some.inj H
   go_enter Try.func240, Try.ntmps240
   go_wp2_with (first | ((with_reducible refine aT (f := 249) rfl ?_); refine bq (some 8) rfl rfl Try.func249 (by kernel_rfl) rfl #[.int .i64 a0] rfl (by (try simp only [dh, dn, dw]); first | done | rfl | (simp only [dx, dz]; rfl) | (simp only [gt_iff_lt, dA]; rfl) | (simp [Act.eval]; done) | (simp [Act.eval, *]; done)) ?_; (with_reducible refine (cmp_isNaN_int.calls a0 true _ A3.out).mono ?_); rintro e w' ⟨rfl, ⟨nd, rfl⟩⟩; refine ⟨_, rfl, ?_⟩) | ((with_reducible refine aT (f := 249) rfl ?_); refine bq (some 10) rfl rfl Try.func249 (by kernel_rfl) rfl #[.int .i64 a1] rfl (by (try simp only [dh, dn, dw]); first | done | rfl | (simp only [dx, dz]; rfl) | (simp only [gt_iff_lt, dA]; rfl) | (simp [Act.eval]; done) | (simp [Act.eval, *]; done)) ?_; (with_reducible refine (cmp_isNaN_int.calls a1 false _ A4.out).mono ?_); rintro e w' ⟨rfl, ⟨nd, rfl⟩⟩; refine ⟨_, rfl, ?_⟩))
   go_ret
   exact ⟨by first | rfl | (simp; done) | (simp [*]; done), by repeat (first | exact Drawn0.refl _ | apply Drawn0.step)⟩
 ·
  replace c5 := Bool.eq_false_iff.mpr c5
  subst c5
  have H1 : (if t189 = true then (some 1) else (if a0 < a1 then (some (-1)) else (if a0 > a1 then (some 1) else (some 0)))) = some r := by rw [if_neg (show ¬ (false = true) by decide)] at H; exact H
  clear H
  have H := H1
  clear H1
  by_cases c7 : t189 = true
  ·
   subst c7
   have H1 : (some 1) = some r := by rw [if_pos rfl] at H; exact H
   clear H
   have H := H1
   clear H1
   obtain rfl := Option.some.inj H
   go_enter Try.func240, Try.ntmps240
   go_wp2_with (first | ((with_reducible refine aT (f := 249) rfl ?_); refine bq (some 8) rfl rfl Try.func249 (by kernel_rfl) rfl #[.int .i64 a0] rfl (by (try simp only [dh, dn, dw]); first | done | rfl | (simp only [dx, dz]; rfl) | (simp only [gt_iff_lt, dA]; rfl) | (simp [Act.eval]; done) | (simp [Act.eval, *]; done)) ?_; (with_reducible refine (cmp_isNaN_int.calls a0 false _ A3.out).mono ?_); rintro e w' ⟨rfl, ⟨nd, rfl⟩⟩; refine ⟨_, rfl, ?_⟩) | ((with_reducible refine aT (f := 249) rfl ?_); refine bq (some 10) rfl rfl Try.func249 (by kernel_rfl) rfl #[.int .i64 a1] rfl (by (try simp only [dh, dn, dw]); first | done | rfl | (simp only [dx, dz]; rfl) | (simp only [gt_iff_lt, dA]; rfl) | (simp [Act.eval]; done) | (simp [Act.eval, *]; done)) ?_; (with_reducible refine (cmp_isNaN_int.calls a1 true _ A4.out).mono ?_); rintro e w' ⟨rfl, ⟨nd, rfl⟩⟩; refine ⟨_, rfl, ?_⟩))
   go_ret
   exact ⟨by first | rfl | (simp; done) | (simp [*]; done), by repeat (first | exact Drawn0.refl _ | apply Drawn0.step)⟩
  ·
   replace c7 := Bool.eq_false_iff.mpr c7
   subst c7
   have H1 : (if a0 < a1 then (some (-1)) else (if a0 > a1 then (some 1) else (some 0))) = some r := by rw [if_neg (show ¬ (false = true) by decide)] at H; exact H
   clear H
   have H := H1
   clear H1
   by_cases c8 : a0 < a1
   ·
    rw [if_pos c8] at H
    have c8b0 : decide (a0 < a1) = true := decide_eq_true c8
    clear c8
    obtain rfl := Option.some.inj H
    go_enter Try.func240, Try.ntmps240
    go_wp2_with (first | ((with_reducible refine aT (f := 249) rfl ?_); refine bq (some 8) rfl rfl Try.func249 (by kernel_rfl) rfl #[.int .i64 a0] rfl (by (try simp only [dh, dn, dw]); first | done | rfl | (simp only [dx, dz]; rfl) | (simp only [gt_iff_lt, dA]; rfl) | (simp [Act.eval]; done) | (simp [Act.eval, *]; done)) ?_; (with_reducible refine (cmp_isNaN_int.calls a0 false _ A3.out).mono ?_); rintro e w' ⟨rfl, ⟨nd, rfl⟩⟩; refine ⟨_, rfl, ?_⟩) | ((with_reducible refine aT (f := 249) rfl ?_); refine bq (some 10) rfl rfl Try.func249 (by kernel_rfl) rfl #[.int .i64 a1] rfl (by (try simp only [dh, dn, dw]); first | done | rfl | (simp only [dx, dz]; rfl) | (simp only [gt_iff_lt, dA]; rfl) | (simp [Act.eval]; done) | (simp [Act.eval, *]; done)) ?_; (with_reducible refine (cmp_isNaN_int.calls a1 false _ A4.out).mono ?_); rintro e w' ⟨rfl, ⟨nd, rfl⟩⟩; refine ⟨_, rfl, ?_⟩))
    go_ret
    exact ⟨by first | rfl | (simp; done) | (simp [*]; done), by repeat (first | exact Drawn0.refl _ | apply Drawn0.step)⟩
   ·
    rw [if_neg c8] at H
    have c8b0 : decide (a0 < a1) = false := decide_eq_false c8
    clear c8
    by_cases c9 : a0 > a1
    ·
     rw [if_pos c9] at H
     have c9b0 : decide (a1 < a0) = true := decide_eq_true c9
     clear c9
     obtain rfl := Option.some.inj H
     go_enter Try.func240, Try.ntmps240
     go_wp2_with (first | ((with_reducible refine aT (f := 249) rfl ?_); refine bq (some 8) rfl rfl Try.func249 (by kernel_rfl) rfl #[.int .i64 a0] rfl (by (try simp only [dh, dn, dw]); first | done | rfl | (simp only [dx, dz]; rfl) | (simp only [gt_iff_lt, dA]; rfl) | (simp [Act.eval]; done) | (simp [Act.eval, *]; done)) ?_; (with_reducible refine (cmp_isNaN_int.calls a0 false _ A3.out).mono ?_); rintro e w' ⟨rfl, ⟨nd, rfl⟩⟩; refine ⟨_, rfl, ?_⟩) | ((with_reducible refine aT (f := 249) rfl ?_); refine bq (some 10) rfl rfl Try.func249 (by kernel_rfl) rfl #[.int .i64 a1] rfl (by (try simp only [dh, dn, dw]); first | done | rfl | (simp only [dx, dz]; rfl) | (simp only [gt_iff_lt, dA]; rfl) | (simp [Act.eval]; done) | (simp [Act.eval, *]; done)) ?_; (with_reducible refine (cmp_isNaN_int.calls a1 false _ A4.out).mono ?_); rintro e w' ⟨rfl, ⟨nd, rfl⟩⟩; refine ⟨_, rfl, ?_⟩))
     go_ret
     exact ⟨by first | rfl | (simp; done) | (simp [*]; done), by repeat (first | exact Drawn0.refl _ | apply Drawn0.step)⟩
    ·
     rw [if_neg c9] at H
     have c9b0 : decide (a1 < a0) = false := decide_eq_false c9
     clear c9
     obtain rfl := Option.some.inj H
     go_enter Try.func240, Try.ntmps240
     go_wp2_with (first | ((with_reducible refine aT (f := 249) rfl ?_); refine bq (some 8) rfl rfl Try.func249 (by kernel_rfl) rfl #[.int .i64 a0] rfl (by (try simp only [dh, dn, dw]); first | done | rfl | (simp only [dx, dz]; rfl) | (simp only [gt_iff_lt, dA]; rfl) | (simp [Act.eval]; done) | (simp [Act.eval, *]; done)) ?_; (with_reducible refine (cmp_isNaN_int.calls a0 false _ A3.out).mono ?_); rintro e w' ⟨rfl, ⟨nd, rfl⟩⟩; refine ⟨_, rfl, ?_⟩) | ((with_reducible refine aT (f := 249) rfl ?_); refine bq (some 10) rfl rfl Try.func249 (by kernel_rfl) rfl #[.int .i64 a1] rfl (by (try simp only [dh, dn, dw]); first | done | rfl | (simp only [dx, dz]; rfl) | (simp only [gt_iff_lt, dA]; rfl) | (simp [Act.eval]; done) | (simp [Act.eval, *]; done)) ?_; (with_reducible refine (cmp_isNaN_int.calls a1 false _ A4.out).mono ?_); rintro e w' ⟨rfl, ⟨nd, rfl⟩⟩; refine ⟨_, rfl, ?_⟩))
     go_ret
     exact ⟨by first | rfl | (simp; done) | (simp [*]; done), by repeat (first | exact Drawn0.refl _ | apply Drawn0.step)⟩
def code_sign.f (a0 : Int) : Option (Int) := (cmp_Compare_int.f a0 0).bind fun t190 => (some t190)
theorem code_sign.calls (a0 : Int) (r : Int) (w : World) (h : code_sign.f a0 = some r) :
  Calls Try.prog 199 #[.int .i64 a0] w fun e w' => e = .returned (.int .i64 r) ∧ Drawn0 w w' := by
 have H : ((cmp_Compare_int.f a0 0).bind fun t190 => (some t190)) = some r := h
 clear h
 replace H := dF.mp H
 obtain ⟨t190, A20, H⟩ := H
 replace H : (some t190) = some r := H
 have A2 := dH A20
 clear A20
 obtain rfl := Option.some.inj H
 go_enter Try.func199, Try.ntmps199
 go_wp2_with (first | ((with_reducible refine aT (f := 240) rfl ?_); refine bq (some 4) rfl rfl Try.func240 (by kernel_rfl) rfl #[.int .i64 a0, .int .i64 0] rfl (by (try simp only [dh, dn, dw]); first | done | rfl | (simp only [dx, dz]; rfl) | (simp only [gt_iff_lt, dA]; rfl) | (simp [Act.eval]; done) | (simp [Act.eval, *]; done)) ?_; (with_reducible refine (cmp_Compare_int.calls a0 0 t190 _ A2.out).mono ?_); rintro e w' ⟨rfl, ⟨nd, rfl⟩⟩; refine ⟨_, rfl, ?_⟩))
 go_ret
 exact ⟨by first | rfl | (simp; done) | (simp [*]; done), by repeat (first | exact Drawn0.refl _ | apply Drawn0.step)⟩
def code_isVersion.f (a0 : Int) : Option (Bool) := (code_within.f a0 0 3).bind fun t201 => (some t201)
theorem code_isVersion.calls (a0 : Int) (r : Bool) (w : World) (h : code_isVersion.f a0 = some r) :
  Calls Try.prog 76 #[.int .i64 a0] w fun e w' => e = .returned (.bool r) ∧ Drawn0 w w' := by
 have H : ((code_within.f a0 0 3).bind fun t201 => (some t201)) = some r := h
 clear h
 replace H := dF.mp H
 obtain ⟨t201, A20, H⟩ := H
 replace H : (some t201) = some r := H
 have A2 := dH A20
 clear A20
 obtain rfl := Option.some.inj H
 go_enter Try.func76, Try.ntmps76
 go_wp2_with (first | ((with_reducible refine aT (f := 69) rfl ?_); refine bq (some 4) rfl rfl Try.func69 (by kernel_rfl) rfl #[.int .i64 a0, .int .i64 0, .int .i64 3] rfl (by (try simp only [dh, dn, dw]); first | done | rfl | (simp only [dx, dz]; rfl) | (simp only [gt_iff_lt, dA]; rfl) | (simp [Act.eval]; done) | (simp [Act.eval, *]; done)) ?_; (with_reducible refine (code_within.calls a0 0 3 t201 _ A2.out).mono ?_); rintro e w' ⟨rfl, ⟨nd, rfl⟩⟩; refine ⟨_, rfl, ?_⟩))
 go_ret
 exact ⟨by first | rfl | (simp; done) | (simp [*]; done), by repeat (first | exact Drawn0.refl _ | apply Drawn0.step)⟩
def code_isCount.f (a0 : Int) : Option (Bool) := (code_within.f a0 1 400).bind fun t202 => (some t202)
theorem code_isCount.calls (a0 : Int) (r : Bool) (w : World) (h : code_isCount.f a0 = some r) :
  Calls Try.prog 141 #[.int .i64 a0] w fun e w' => e = .returned (.bool r) ∧ Drawn0 w w' := by
 have H : ((code_within.f a0 1 400).bind fun t202 => (some t202)) = some r := h
 clear h
 replace H := dF.mp H
 obtain ⟨t202, A20, H⟩ := H
 replace H : (some t202) = some r := H
 have A2 := dH A20
 clear A20
 obtain rfl := Option.some.inj H
 go_enter Try.func141, Try.ntmps141
 go_wp2_with (first | ((with_reducible refine aT (f := 69) rfl ?_); refine bq (some 4) rfl rfl Try.func69 (by kernel_rfl) rfl #[.int .i64 a0, .int .i64 1, .int .i64 400] rfl (by (try simp only [dh, dn, dw]); first | done | rfl | (simp only [dx, dz]; rfl) | (simp only [gt_iff_lt, dA]; rfl) | (simp [Act.eval]; done) | (simp [Act.eval, *]; done)) ?_; (with_reducible refine (code_within.calls a0 1 400 t202 _ A2.out).mono ?_); rintro e w' ⟨rfl, ⟨nd, rfl⟩⟩; refine ⟨_, rfl, ?_⟩))
 go_ret
 exact ⟨by first | rfl | (simp; done) | (simp [*]; done), by repeat (first | exact Drawn0.refl _ | apply Drawn0.step)⟩
def downtiltbase_Within.f (a0 : Int) (a1 : Int) (a2 : Int) : Option (Bool) := if a1 ≤ a0 then (some (decide (a0 ≤ a2))) else (some false)
theorem downtiltbase_Within.calls (a0 : Int) (a1 : Int) (a2 : Int) (r : Bool) (w : World) (h : downtiltbase_Within.f a0 a1 a2 = some r) :
  Calls Try.prog 9 #[.int .i64 a0, .int .i64 a1, .int .i64 a2] w fun e w' => e = .returned (.bool r) ∧ Drawn0 w w' := by
 have H : (if a1 ≤ a0 then (some (decide (a0 ≤ a2))) else (some false)) = some r := h
 clear h
 by_cases c4 : a1 ≤ a0
 ·
  rw [if_pos c4] at H
  have c4b0 : decide (a1 ≤ a0) = true := decide_eq_true c4
  clear c4
  obtain rfl := Option.some.inj H
  go_enter Try.func9, Try.ntmps9
  go_wp2
  go_ret
  exact ⟨by first | rfl | (simp; done) | (simp [*]; done), by repeat (first | exact Drawn0.refl _ | apply Drawn0.step)⟩
 ·
  rw [if_neg c4] at H
  have c4b0 : decide (a1 ≤ a0) = false := decide_eq_false c4
  clear c4
  obtain rfl := Option.some.inj H
  go_enter Try.func9, Try.ntmps9
  go_wp2
  go_ret
  exact ⟨by first | rfl | (simp; done) | (simp [*]; done), by repeat (first | exact Drawn0.refl _ | apply Drawn0.step)⟩
def code_isLength.f (a0 : Int) : Option (Bool) := (code_within.f a0 1 200).bind fun t269 => (some t269)
theorem code_isLength.calls (a0 : Int) (r : Bool) (w : World) (h : code_isLength.f a0 = some r) :
  Calls Try.prog 68 #[.int .i64 a0] w fun e w' => e = .returned (.bool r) ∧ Drawn0 w w' := by
 have H : ((code_within.f a0 1 200).bind fun t269 => (some t269)) = some r := h
 clear h
 replace H := dF.mp H
 obtain ⟨t269, A20, H⟩ := H
 replace H : (some t269) = some r := H
 have A2 := dH A20
 clear A20
 obtain rfl := Option.some.inj H
 go_enter Try.func68, Try.ntmps68
 go_wp2_with (first | ((with_reducible refine aT (f := 69) rfl ?_); refine bq (some 4) rfl rfl Try.func69 (by kernel_rfl) rfl #[.int .i64 a0, .int .i64 1, .int .i64 200] rfl (by (try simp only [dh, dn, dw]); first | done | rfl | (simp only [dx, dz]; rfl) | (simp only [gt_iff_lt, dA]; rfl) | (simp [Act.eval]; done) | (simp [Act.eval, *]; done)) ?_; (with_reducible refine (code_within.calls a0 1 200 t269 _ A2.out).mono ?_); rintro e w' ⟨rfl, ⟨nd, rfl⟩⟩; refine ⟨_, rfl, ?_⟩))
 go_ret
 exact ⟨by first | rfl | (simp; done) | (simp [*]; done), by repeat (first | exact Drawn0.refl _ | apply Drawn0.step)⟩
end Go.Proofs.Ytbjiookpiminmaa.PCode
end
section
namespace Go.Proofs.Ytbjiookpiminmaa.PCode
open Go.RowKit Go.Proofs.YtbjiookpiminmaaW.PrintWords Go.Proofs.YtbjiookpiminmaaW.PrintLast Go.Proofs.YtbjiookpiminmaaW.PrintMore
attribute [local go_sem] max2_int min2_int max_two min_two max_three min_three max_four min_four   -- for this text's walks alone
mutual
def code_Begin.j0 : Nat → Int → Int → Bool → Option (Int × (List (S42)) × Int)
 | 0, _, _, _ => none
 | k + 1, x0, x1, x14 => if x14 = true then (some (0, ([] : List (S42)), 2)) else (code_Begin.l0 k x0 x1 0 x0 ([] : List (S42)))
def code_Begin.l0 : Nat → Int → Int → Int → Int → List (S42) → Option (Int × (List (S42)) × Int)
 | 0, _, _, _, _, _ => none
 | k + 1, x0, x18, x19, x274000, x274001 => if x19 < x18 then (if 0 ≤ x0 then (if (x0 : Int).toNat ≤ 35184372088832 then (if x274001.length < 3518437208883 then (code_Begin.l0 k x0 x18 (wrap64 (x19 + 1)) x274000 (x274001 ++ [(⟨(-1), 0, (List.replicate (x0 : Int).toNat 0)⟩ : S42)])) else (none)) else (none)) else (none)) else (some (x274000, x274001, 0))
end
def code_Begin.f (k : Nat) (a0 : Int) (a1 : Int) : Option (Int × (List (S42)) × Int) := (code_isLength.f a0).bind fun t271 => (if t271 = true then ((code_within.f a1 1 8).bind fun t272 => (code_Begin.j0 k a0 a1 (!t272))) else (code_Begin.j0 k a0 a1 true))
def code_Begin.T6 : Bool × List (List Nat × List Nat) := (true, [([], []), ([0], [0]), ([], []), ([2, 2], [2]), ([3], [3]), ([4], [4]), ([1, 5], [1, 5]), ([0, 1, 2, 3, 4, 5, 6], []), ([7, 6, 6, 0, 1, 2, 3, 4, 5, 6], [6, 7])])
def code_Begin.B6 : List Nat := [0, 1, 0, 4, 12, 28, 63, 127, 255]
theorem code_Begin.tab6 : rtab .any (opsOf Try.f10 6) = code_Begin.T6 := by kernel_rfl
theorem code_Begin.bits6 : waitsOk code_Begin.T6.2 code_Begin.B6 = true := by kernel_rfl
theorem code_Begin.calls (k : Nat) (a0 : Int) (a1 : Int) (r1 : Int) (r2 : List (S42)) (r3 : Int) (w : World) (h : code_Begin.f k a0 a1 = some (r1, r2, r3)) :
  Calls Try.prog 10 #[.int .i64 a0, .int .i64 a1] w fun e w' => ∃ v1_ : Value, e = .returned (.tuple #[.agg #[.int .i64 r1, v1_], .int .i64 r3]) ∧ Kd.S k42 42 w' w.heap.size (fun _ => True) v1_ r2 ∧ Below w.heap.size w w' := by
 have hu28 := Try.underlying28
 have hu42 := Try.underlying42
 have HB := dH (Below.refl w.heap.size w)
 have H : ((code_isLength.f a0).bind fun t271 => (if t271 = true then ((code_within.f a1 1 8).bind fun t272 => (code_Begin.j0 k a0 a1 (!t272))) else (code_Begin.j0 k a0 a1 true))) = some (r1, r2, r3) := h
 clear h
 have HC3 := dH H
 clear H
 go_enter Try.func10, Try.ntmps10
 go_upto_region 1 with (first | ((with_reducible refine bg (N := 4) rfl ?_); refine bI ?hg (N := 4) ?hd (cs := #[.int .i64 0, .slice none 0 0]) (t := 28) ?hr ?_; (case hd => rfl); (case hg => rfl); (case hr => first | (go_simp; done) | (go_simp; rfl)); intro gb270 hg w4 hbox hb; have n0_ := dH (aM (by repeat (first | (with_reducible first | exact HB.out | apply ak | apply ah | apply aj) | exact HB.out)) hb); have n1_ := dH (hbox); have n2_ := dH ((by rw [hg]; exact (aK (by repeat (first | (with_reducible first | exact HB.out | apply ak | apply ah | apply aj) | exact HB.out))) : w.heap.size ≤ gb270)); have n3_ := dH ((by rw [hg]; exact (aK (by repeat (first | (with_reducible first | exact HB.out | apply ak | apply ah | apply aj) | exact HB.out))) : w.heap.size ≤ gb270)); clear HB; have HB := n0_; have BK270 := n1_; have GW270 := n2_; have GE270 := n3_; clear n0_ n1_ n2_ n3_; clear hb hbox hg))
 (try simp only [Act.put, cO, cZ, d9])
 go_cut [14] (fun v14 wc => ∃ (kq : Nat) (x14_2 : Bool), v14 = .bool x14_2 ∧ Aside0 (code_Begin.j0 kq a0 a1 x14_2 = some (r1, r2, r3)) ∧ Aside0 (kq ≤ k) ∧ Aside0 (wc.heap[gb270]? = some (.cells #[.int .i64 0, (.slice none 0 0)] 28 (0, 0))) ∧ Aside0 (Below w.heap.size w wc))
 case first =>
  have H := HC3.out
  clear HC3
  replace H := dF.mp H
  obtain ⟨t271, A50, H⟩ := H
  replace H : (if t271 = true then ((code_within.f a1 1 8).bind fun t272 => (code_Begin.j0 k a0 a1 (!t272))) else (code_Begin.j0 k a0 a1 true)) = some (r1, r2, r3) := H
  have A5 := dH A50
  clear A50
  by_cases c6 : t271 = true
  ·
   subst c6
   have H1 : ((code_within.f a1 1 8).bind fun t272 => (code_Begin.j0 k a0 a1 (!t272))) = some (r1, r2, r3) := by rw [if_pos rfl] at H; exact H
   clear H
   have H := H1
   clear H1
   replace H := dF.mp H
   obtain ⟨t272, A70, H⟩ := H
   replace H : (code_Begin.j0 k a0 a1 (!t272)) = some (r1, r2, r3) := H
   have A7 := dH A70
   clear A70
   have H' := dH H
   clear H
   go_wp2_with (first | ((with_reducible refine aT (f := 68) rfl ?_); refine bq (some 8) rfl rfl Try.func68 (by kernel_rfl) rfl #[.int .i64 a0] rfl (by (try simp only [dh, dn, dw]); first | done | rfl | (simp only [dx, dz]; rfl) | (simp only [gt_iff_lt, dA]; rfl) | (simp [Act.eval]; done) | (simp [Act.eval, *]; done)) ?_; (with_reducible refine (code_isLength.calls a0 true _ A5.out).mono ?_); rintro e w' ⟨rfl, ⟨nd, rfl⟩⟩; refine ⟨_, rfl, ?_⟩) | (go_at_call 69; (with_reducible refine (code_within.calls a1 1 8 t272 _ A7.out).mono ?_); rintro e w' ⟨rfl, ⟨nd, rfl⟩⟩))
   go_meet
   case rel => exact ⟨_, (!t272), (by first | rfl | (simp; done) | (simp [*]; done)), H', ⟨by first | omega | exact Nat.le_refl _⟩, ⟨by (with_reducible repeat (first | refine av ?_ _ | refine aC ?_ | refine au ?_ _)); exact BK270.out⟩, ⟨by repeat (first | (with_reducible first | exact HB.out | apply ak | apply ah | apply aj | refine aA ?_ GE270.out) | exact HB.out)⟩⟩
  ·
   replace c6 := Bool.eq_false_iff.mpr c6
   subst c6
   have H1 : (code_Begin.j0 k a0 a1 true) = some (r1, r2, r3) := by rw [if_neg (show ¬ (false = true) by decide)] at H; exact H
   clear H
   have H := H1
   clear H1
   have H' := dH H
   clear H
   go_wp2_with (first | ((with_reducible refine aT (f := 68) rfl ?_); refine bq (some 8) rfl rfl Try.func68 (by kernel_rfl) rfl #[.int .i64 a0] rfl (by (try simp only [dh, dn, dw]); first | done | rfl | (simp only [dx, dz]; rfl) | (simp only [gt_iff_lt, dA]; rfl) | (simp [Act.eval]; done) | (simp [Act.eval, *]; done)) ?_; (with_reducible refine (code_isLength.calls a0 false _ A5.out).mono ?_); rintro e w' ⟨rfl, ⟨nd, rfl⟩⟩; refine ⟨_, rfl, ?_⟩))
   go_meet
   case rel => exact ⟨_, (true), (by first | rfl | (simp; done) | (simp [*]; done)), H', ⟨by first | omega | exact Nat.le_refl _⟩, ⟨by (with_reducible repeat (first | refine av ?_ _ | refine aC ?_ | refine au ?_ _)); exact BK270.out⟩, ⟨by repeat (first | (with_reducible first | exact HB.out | apply ak | apply ah | apply aj | refine aA ?_ GE270.out) | exact HB.out)⟩⟩
 case rest =>
  clear HC3
  try clear c1
  try clear p2
  try clear c6
  obtain ⟨kq, x14_2, rfl, HA, HJ2, BK270, HB⟩ := hcut
  cases kq with
  | zero => exact absurd HA.out (by simp [code_Begin.j0])
  | succ kj2 =>
   have H := HA.out
   clear HA
   simp only [code_Begin.j0] at H
   by_cases c8 : x14_2 = true
   ·
    subst c8
    have H1 : (some (0, ([] : List (S42)), 2)) = some (r1, r2, r3) := by rw [if_pos rfl] at H; exact H
    clear H
    have H := H1
    clear H1
    simp only [Option.some.injEq, Prod.mk.injEq] at H
    obtain ⟨rfl, rfl, rfl⟩ := H
    have hcz9_0 : wc.cell? ⟨gb270, 0, none⟩ = some (.int .i64 0) := (ay BK270.out 0).trans rfl
    have hcz9_1 : wc.cell? ⟨gb270, 1, none⟩ = some (.slice none 0 0) := (ay BK270.out 1).trans rfl
    have hfz9_0 := aD BK270.out 0
    have hfz9_1 := aD BK270.out 1
    go_wp2
    refine bodyPost_ret (results_ct rfl _ _ gb270 28 #[.int .i64 0, .slice none 0 0] (0, 0) _ rfl (by (with_reducible repeat (first | refine av ?_ _ | refine aC ?_ | refine au ?_ _)); refine bL (cs := #[.int .i64 0, .slice none 0 0]) ?_ 1 _ rfl; (with_reducible repeat (first | refine av ?_ _ | refine aC ?_ | refine au ?_ _)); refine bL (cs := #[.int .i64 0, .slice none 0 0]) ?_ 0 _ rfl; (with_reducible repeat (first | refine av ?_ _ | refine aC ?_ | refine au ?_ _)); exact BK270.out) Try.underlying28 rfl (by kernel_rfl)) rfl ?_
    exact ⟨_, by first | rfl | (simp [aX, aY] <;> rfl) | (simp [*, aX, aY] <;> rfl), by first | exact Kd.S_nil _ _ _ _ _ | exact Kd.N_nil _ _ _ _ _ | exact Kd.V_nil _ _ _ _ _ | exact Kd.Q_nil _ _ _ _ _ | exact Kd.R_nil _ _ _ _ _, by repeat (first | (with_reducible first | exact HB.out | apply ak | apply ah | apply aj | refine aA ?_ GE270.out) | exact HB.out)⟩
   ·
    replace c8 := Bool.eq_false_iff.mpr c8
    subst c8
    have H1 : (code_Begin.l0 kj2 a0 a1 0 a0 ([] : List (S42))) = some (r1, r2, r3) := by rw [if_neg (show ¬ (false = true) by decide)] at H; exact H
    clear H
    have H := H1
    clear H1
    have H' := dH H
    clear H
    go_wp2_with (first | ((with_reducible refine bg (N := 6) rfl ?_); refine bI ?hg (N := 6) ?hd (cs := #[.int .i64 0, .slice none 0 0]) (t := 28) ?hr ?_; (case hd => rfl); (case hg => rfl); (case hr => first | (go_simp; done) | (go_simp; rfl)); intro gb273 hg w10 hbox hb; have n0_ := dH (aQ (g := gb270) (o := .cells #[.int .i64 0, .slice none 0 0] 28 (0, 0)) (by (with_reducible repeat (first | refine av ?_ _ | refine aC ?_ | refine au ?_ _)); exact BK270.out) hb); have n1_ := dH (aM (by repeat (first | (with_reducible first | exact HB.out | apply ak | apply ah | apply aj | refine aA ?_ GE270.out) | exact HB.out)) hb); have n2_ := dH (hbox); have n3_ := dH ((by rw [hg]; exact (aK (by repeat (first | (with_reducible first | exact HB.out | apply ak | apply ah | apply aj | refine aA ?_ GE270.out) | exact HB.out))) : w.heap.size ≤ gb273)); have n4_ := dH ((by rw [hg]; exact (aK (by repeat (first | (with_reducible first | exact HB.out | apply ak | apply ah | apply aj | refine aA ?_ GE270.out) | exact HB.out))) : w.heap.size ≤ gb273)); have n5_ := dH ((by rw [hg]; exact Nat.ne_of_lt (bn (g := gb270) (o := .cells #[.int .i64 0, .slice none 0 0] 28 (0, 0)) (by (with_reducible repeat (first | refine av ?_ _ | refine aC ?_ | refine au ?_ _)); exact BK270.out)) : gb270 ≠ gb273)); have n6_ := dH ((by rw [hg]; exact Nat.ne_of_gt (bn (g := gb270) (o := .cells #[.int .i64 0, .slice none 0 0] 28 (0, 0)) (by (with_reducible repeat (first | refine av ?_ _ | refine aC ?_ | refine au ?_ _)); exact BK270.out)) : gb273 ≠ gb270)); clear BK270; clear HB; have BK270 := n0_; have HB := n1_; have BK273 := n2_; have GW273 := n3_; have GE273 := n4_; have NB270_273 := n5_; have NB273_270 := n6_; clear n0_ n1_ n2_ n3_ n4_ n5_ n6_; clear hb hbox hg; have hnb11 := NB273_270.out; have hnc11 := NB270_273.out; have hcz12_0 : w10.cell? ⟨gb273, 0, none⟩ = some (.int .i64 0) := (ay BK273.out 0).trans rfl; have hcz12_1 : w10.cell? ⟨gb273, 1, none⟩ = some (.slice none 0 0) := (ay BK273.out 1).trans rfl; have hfz12_0 := aD BK273.out 0; have hfz12_1 := aD BK273.out 1))
    go_loopg [19] kj2 (fun kq v19 w' => ∃ (x19_2 : Int) (x274001_2 : List (S42)) (u274001 : Value), v19 = .int .i64 x19_2 ∧ Aside0 (code_Begin.l0 kq a0 a1 x19_2 a0 x274001_2 = some (r1, r2, r3)) ∧ Aside0 (kq ≤ kj2) ∧ Aside0 (Kd.S k42 42 w' w.heap.size (fun _ => True) u274001 x274001_2) ∧ Aside0 (w'.heap[gb270]? = some (.cells #[.int .i64 0, (.slice none 0 0)] 28 (0, 0))) ∧ Aside0 (w'.heap[gb273]? = some (.cells #[.int .i64 a0, u274001] 28 (0, 0))) ∧ Aside0 (Below w.heap.size w w'))
    case atStart => exact ⟨(0), (([] : List (S42))), (.slice none 0 0), (by first | rfl | (simp; done) | (simp [*]; done)), H', ⟨Nat.le_refl _⟩, ⟨by first | exact Kd.S_nil _ _ _ _ _ | exact Kd.N_nil _ _ _ _ _ | exact Kd.V_nil _ _ _ _ _ | exact Kd.Q_nil _ _ _ _ _ | exact Kd.R_nil _ _ _ _ _⟩, ⟨by (with_reducible repeat (first | refine av ?_ _ | refine aC ?_ | refine au ?_ _)); refine aW ?_ NB270_273.out _; (with_reducible repeat (first | refine av ?_ _ | refine aC ?_ | refine au ?_ _)); refine aW ?_ NB270_273.out _; (with_reducible repeat (first | refine av ?_ _ | refine aC ?_ | refine au ?_ _)); exact BK270.out⟩, ⟨by (with_reducible repeat (first | refine av ?_ _ | refine aC ?_ | refine au ?_ _)); refine bL (cs := #[.int .i64 a0, .slice none 0 0]) ?_ 1 _ rfl; (with_reducible repeat (first | refine av ?_ _ | refine aC ?_ | refine au ?_ _)); refine bL (cs := #[.int .i64 0, .slice none 0 0]) ?_ 0 _ rfl; (with_reducible repeat (first | refine av ?_ _ | refine aC ?_ | refine au ?_ _)); exact BK273.out⟩, ⟨by repeat (first | (with_reducible first | exact HB.out | apply ak | apply ah | apply aj | refine aA ?_ GE270.out | refine aA ?_ GE273.out) | exact HB.out)⟩⟩
    case round =>
     clear H'
     try clear c1
     try clear p2
     try clear c6
     try clear c8
     try clear c10
     try clear c11
     try clear hcz12_0
     try clear hcz12_1
     try clear hcz9_0
     try clear hcz9_1
     try clear hfz12_0
     try clear hfz12_1
     try clear hfz9_0
     try clear hfz9_1
     try clear p2
     obtain ⟨x19_2, x274001_2, u274001, rfl, HA, HK2, HO_274001, BK270, BK273, HB⟩ := hrel
     cases gk with
     | zero => exact absurd HA.out (by simp [code_Begin.l0])
     | succ k2 =>
      have H := HA.out
      clear HA
      simp only [code_Begin.l0] at H
      by_cases c13 : x19_2 < a1
      ·
       rw [if_pos c13] at H
       have c13b0 : decide (x19_2 < a1) = true := decide_eq_true c13
       clear c13
       by_cases c14 : 0 ≤ a0
       ·
        rw [if_pos c14] at H
        have c14b0 := eq_true c14
        have c14b1 : decide (0 ≤ a0) = true := decide_eq_true c14
        clear c14
        by_cases c15 : (a0 : Int).toNat ≤ 35184372088832
        ·
         rw [if_pos c15] at H
         have c15b0 := eq_true c15
         have c15b1 : decide ((a0 : Int).toNat ≤ 35184372088832) = true := decide_eq_true c15
         clear c15
         obtain ⟨y274, hy274⟩ : ∃ y_ : List Int, y_ = (List.replicate (a0 : Int).toNat 0) := ⟨_, rfl⟩
         replace H : (if x274001_2.length < 3518437208883 then (code_Begin.l0 k2 a0 a1 (wrap64 (x19_2 + 1)) a0 (x274001_2 ++ [(⟨(-1), 0, y274⟩ : S42)])) else (none)) = some (r1, r2, r3) := by first | (rw [hy274]; with_reducible exact H) | (have H2_ := (Option.bind_some _ _).symm.trans H; rw [hy274]; with_reducible exact H2_) | (have H2_ := (Option.bind_some _ _).symm.trans H; with_reducible exact H2_) | with_reducible exact H | (rw [hy274]; exact H) | exact H
         have Ny274 := dH hy274
         clear hy274
         by_cases c16 : x274001_2.length < 3518437208883
         ·
          rw [if_pos c16] at H
          have LMc16 := dH c16
          clear c16
          obtain ⟨y277, hy277⟩ : ∃ y_ : List (S42), y_ = (x274001_2 ++ [(⟨(-1), 0, y274⟩ : S42)]) := ⟨_, rfl⟩
          replace H : (code_Begin.l0 k2 a0 a1 (wrap64 (x19_2 + 1)) a0 y277) = some (r1, r2, r3) := by first | (rw [hy277]; with_reducible exact H) | (have H2_ := (Option.bind_some _ _).symm.trans H; rw [hy277]; with_reducible exact H2_) | (have H2_ := (Option.bind_some _ _).symm.trans H; with_reducible exact H2_) | with_reducible exact H | (rw [hy277]; exact H) | exact H
          have Ny277 := dH hy277
          clear hy277
          have H' := dH H
          clear H
          try go_wp2
          have n0_ := dH (Kd.S_drew HO_274001.out)
          have n1_ := dH (aC BK270.out)
          have n2_ := dH (aC BK273.out)
          have n3_ := dH (aj HB.out)
          clear HO_274001
          clear BK270
          clear BK273
          clear HB
          have HO_274001 := n0_
          have BK270 := n1_
          have BK273 := n2_
          have HB := n3_
          clear n0_ n1_ n2_ n3_
          refine b_ (n := 9) (S := fun w' => w'.cell? ⟨gb273, 0, none⟩ = some (.int .i64 a0) ∧ w'.cell? ⟨gb273, 1, none⟩ = some (u274001)) (ds := [8]) (dG 9 0) (by kernel_rfl) rfl rfl ⟨(ay BK273.out 0).trans rfl, (ay BK273.out 1).trans rfl⟩ (fun hHeld => ?_); refine bZ code_Begin.tab6 code_Begin.bits6 (fun HT_ HW_ => ?_)
          generalize wr.drew = w17 at HO_274001 BK270 BK273 HB hHeld ⊢
          refine aV (i := 0) (N := some 21) (v := ?_) (a' := ?_) (dG 9 1) rfl rfl (aU HT_.out (by kernel_rfl)) (fun _ _ _ h => h) (Or.inl ⟨by rfl, ?_⟩) ?_ ?_
          rotate_left
          ·
           intro w'
           go_simp
           with_reducible rfl
          rotate_left
          ·
           simp only [Act.put, cO, cZ, d9, aG, aH]
           rfl
          refine aV (i := 2) (N := some 23) (v := ?_) (a' := ?_) (dG 9 5) rfl rfl (aU HT_.out (by kernel_rfl)) (fun _ _ _ h => h) (Or.inl ⟨by rfl, ?_⟩) ?_ ?_
          rotate_left
          ·
           intro w'
           go_simp
           with_reducible rfl
          rotate_left
          ·
           simp only [Act.put, cO, cZ, d9, aG, aH]
           rfl
          refine bK (i := 1) (N := some 22) (v := ?_) (a' := ?_) (dG 9 7) rfl rfl (bD HT_.out HW_.out (by kernel_rfl)) (fun _ _ _ h => h) (Or.inl ⟨by rfl, ?_⟩) hHeld ?_ ?_
          rotate_left
          ·
           rintro w' ⟨s0, s1⟩
           go_simp
           with_reducible rfl
          rotate_left
          ·
           simp only [Act.put, cO, cZ, d9, aG, aH]
           rfl
          refine bR (i := 3) (N := some 24) (dG 9 15) rfl rfl (bB HT_.out (by kernel_rfl)) (by decide) (fun K hK => ?_)
          refine Kd.R_make_step (Kd.int .i64) _ 3 (by rfl) (N := 24) rfl 34 _ _ rfl a0 rfl rfl Try.underlying34 (.int .i64 0) 8 info3 rfl (by decide) (by omega) 0 (ok := fun _ => True) (okp := fun _ => True) rfl (fun _ hk => hk) trivial (dD (by first | (with_reducible assumption) | assumption)) (Nat.le_trans (Nat.mul_le_mul_right _ (dD (by first | (with_reducible assumption) | assumption) : a0.toNat ≤ 35184372088832)) (by omega)) (Below.refl _ _) (Nat.le_refl _) ?_
          intro v275 w18 ho19 hb hg_ hnew_
          clear hg_ hnew_
          (first | rw [← Ny274.out] at ho19 | (simp only [Int.reduceToNat] at ho19; rw [← Ny274.out] at ho19))
          have n0_ := dH (Kd.S_elder' (by (with_reducible repeat (first | apply Kd.S_alloc | apply Kd.S_drewN | apply Kd.S_drew)); exact HO_274001.out) (Kd.bE ho19) hb)
          have n1_ := dH (Kd.bP ho19 (aK (by repeat (first | (with_reducible first | exact HB.out | apply ak | apply ah | apply aj | refine aA ?_ GE270.out | refine aA ?_ GE273.out) | exact HB.out))))
          have n2_ := dH (aQ (g := gb270) (o := .cells #[.int .i64 0, .slice none 0 0] 28 (0, 0)) (by (with_reducible repeat (first | refine av ?_ _ | refine aC ?_ | refine au ?_ _)); exact BK270.out) hb)
          have n3_ := dH (aQ (g := gb273) (o := .cells #[.int .i64 a0, u274001] 28 (0, 0)) (by (with_reducible repeat (first | refine av ?_ _ | refine aC ?_ | refine au ?_ _)); exact BK273.out) hb)
          have n4_ := dH (aM (by repeat (first | (with_reducible first | exact HB.out | apply ak | apply ah | apply aj | refine aA ?_ GE270.out | refine aA ?_ GE273.out) | exact HB.out)) hb)
          clear HO_274001
          clear BK270
          clear BK273
          clear HB
          have HO_274001 := n0_
          have HO276 := n1_
          have BK270 := n2_
          have BK273 := n3_
          have HB := n4_
          clear n0_ n1_ n2_ n3_ n4_
          clear hb ho19
          obtain ⟨Ao20, co20, eo20⟩ := Kd.bN HO276.out
          (first | subst eo20 | (injection eo20 with f1_ f2_ f3_; have f4_ := f1_.symm; have f5_ := f3_.symm; clear f1_ f2_ f3_; subst f4_; subst f5_))
          refine hK.out _ _ ⟨(ay BK273.out 0).trans rfl, (ay BK273.out 1).trans rfl⟩ (fun hHeld => ?_)
          clear hK K
          refine bG (a' := ?_) ?_ ?_
          rotate_left
          ·
           show Act.put _ (some 24) _ = _
           simp only [Act.put, cO, cZ, d9, aG, aH]
           rfl
          refine aV (i := 4) (N := some 25) (v := ?_) (a' := ?_) (dG 9 31) rfl rfl (aU HT_.out (by kernel_rfl)) (fun _ _ _ h => h) (Or.inl ⟨by rfl, ?_⟩) ?_ ?_
          rotate_left
          ·
           intro w'
           go_simp
           with_reducible rfl
          rotate_left
          ·
           simp only [Act.put, cO, cZ, d9, aG, aH]
           rfl
          refine bR (i := 5) (N := some 26) (dG 9 63) rfl rfl (bB HT_.out (by kernel_rfl)) (by decide) (fun K hK => ?_)
          refine value_ (w1 := ?_) (v := ?_) (by rfl) rfl ?_ ?_
          rotate_left 2
          ·
           go_simp
           constructor
           ·
            rfl
           ·
            rfl
          refine hK.out _ _ ⟨(ay (au BK273.out _) 0).trans rfl, (ay (au BK273.out _) 1).trans rfl⟩ (fun hHeld => ?_)
          clear hK K
          refine bG (a' := ?_) ?_ ?_
          rotate_left
          ·
           show Act.put _ (some 26) _ = _
           simp only [Act.put, cO, cZ, d9, aG, aH]
           rfl
          refine bR (i := 6) (N := some 27) (dG 9 127) rfl rfl (bB HT_.out (by kernel_rfl)) (by decide) (fun K hK => ?_)
          refine Kd.S_append_step k42 (w0 := w) w.heap.size (by rfl) (.tmp 22) (.tmp 26) 26 42 (.agg #[(.int .i64 0), (.int .i64 0), (.slice none 0 0)]) 40 rfl Try.underlying26 info42 rfl (by decide) (by omega) u274001 x274001_2 (⟨(-1), 0, y274⟩ : S42) [.int .i64 (-1), .int .i64 0, .slice Ao20 y274.length co20] (fun _ => True) (fun k_ => some k_ = (.slice Ao20 y274.length co20 : Value).ownBlock) rfl rfl ?aP (fun k_ hk_ => ((Kd.bM (ok' := fun k_ => ((fun _ => True)) k_ ∧ some k_ ≠ (u274001 : Value).ownBlock) (Kd.R_apart' (HO276.out) (Kd.S_typed HO_274001.out) (by decide)) (fun k_ hk => ⟨trivial, hk.2⟩))).1 k_ hk_.symm) ?aF ?aO ?aB ?aS ?aL ?_
          (case aP => exact k42_mkM _ _ _ (⟨(-1), 0, y274⟩ : S42) (Kd.bM (Kd.R_tight rfl (Kd.bM (ok' := fun k_ => ((fun _ => True)) k_ ∧ some k_ ≠ (u274001 : Value).ownBlock) (Kd.R_apart' (HO276.out) (Kd.S_typed HO_274001.out) (by decide)) (fun k_ hk => ⟨trivial, hk.2⟩))) (fun _ h_ => h_)))
          (case aB => exact (by repeat (first | (with_reducible first | exact HB.out | apply ak | apply ah | apply aj | refine aA ?_ GE270.out | refine aA ?_ GE273.out) | exact HB.out)))
          (case aF => exact (fun _ _ => trivial))
          (case aO => exact (by (with_reducible repeat (first | apply Kd.S_alloc | apply Kd.S_drewN | apply Kd.S_drew)); exact Kd.S_mono HO_274001.out (fun k_ hk => ⟨trivial, fun e_ => hk.2 e_⟩)))
          (case aS => exact (aK (by repeat (first | (with_reducible first | exact HB.out | apply ak | apply ah | apply aj | refine aA ?_ GE270.out | refine aA ?_ GE273.out) | exact HB.out))))
          (case aL => have := LMc16.out; omega)
          intro v278 w21 ho hb hg hat
          rw [← Ny277.out] at ho
          have n0_ := dH (bY (g := gb270) (o := .cells #[.int .i64 0, .slice none 0 0] 28 (0, 0)) (by (with_reducible repeat (first | refine av ?_ _ | refine aC ?_ | refine au ?_ _)); exact BK270.out) hg (Kd.S_ne HO_274001.out BK270.out (by decide)))
          have n1_ := dH (bY (g := gb273) (o := .cells #[.int .i64 a0, u274001] 28 (0, 0)) (by (with_reducible repeat (first | refine av ?_ _ | refine aC ?_ | refine au ?_ _)); exact BK273.out) hg (Kd.S_ne HO_274001.out BK273.out (by decide)))
          have n2_ := dH (hb)
          have n3_ := dH (ho)
          clear BK270
          clear BK273
          clear HB
          clear HO_274001
          clear HO276
          have BK270 := n0_
          have BK273 := n1_
          have HB := n2_
          have HO279 := n3_
          clear n0_ n1_ n2_ n3_
          clear ho hb hg hat
          obtain ⟨Ao22, co22, eo22⟩ := Kd.S_slice HO279.out
          (first | subst eo22 | (injection eo22 with f1_ f2_ f3_; have f4_ := f1_.symm; have f5_ := f3_.symm; clear f1_ f2_ f3_; subst f4_; subst f5_))
          refine hK.out _ _ ⟨(ay BK273.out 0).trans rfl, (ay BK273.out 1).trans rfl⟩ (fun hHeld => ?_)
          clear hK K
          refine bG (a' := ?_) ?_ ?_
          rotate_left
          ·
           show Act.put _ (some 27) _ = _
           simp only [Act.put, cO, cZ, d9, aG, aH]
           rfl
          refine aV (i := 7) (N := some 28) (v := ?_) (a' := ?_) (dG 9 255) rfl rfl (aU HT_.out (by kernel_rfl)) (fun _ _ _ h => h) (Or.inl ⟨by rfl, ?_⟩) ?_ ?_
          rotate_left
          ·
           intro w'
           go_simp
           with_reducible rfl
          rotate_left
          ·
           simp only [Act.put, cO, cZ, d9, aG, aH]
           rfl
          refine last_ (i := 8) (N := none) (dG 9 511) rfl rfl (bB HT_.out (by kernel_rfl)) (by decide) (fun K hK => ?_)
          have hs23 : w21.cell? ⟨gb273, 1, none⟩ = some (u274001) := (ay BK273.out 1).trans rfl
          have hfs23 := aD BK273.out 1
          have hns23_0 := NB270_273.out
          have hms23_0 := NB273_270.out
          refine skip_ (w1 := ?_) (by rfl) rfl ?_ ?_
          rotate_left
          ·
           go_simp
           rfl
          refine hK.out _ _ ?_
          clear hK K
          refine done_ (cK HT_.out (by kernel_rfl)) ?_
          try go_wp2
          go_roundg k2
          case measure => have := HJ2.out; have := HK2.out; omega
          case rel => exact ⟨(wrap64 (x19_2 + 1)), (y277), (.slice Ao22 y277.length co22), (by first | rfl | (simp; done) | (simp [*]; done)), H', ⟨by have := HJ2.out; have := HK2.out; omega⟩, ⟨by (with_reducible repeat (first | apply Kd.S_alloc | apply Kd.S_drewN | apply Kd.S_drew)); exact Kd.S_mono (Kd.S_far (p := ⟨gb273, 1, none⟩) (Kd.S_types HO279.out BK273.out (by decide)) (fun _ hk => hk.2) (.slice Ao22 y277.length co22)) (fun _ hk => trivial)⟩, ⟨by (with_reducible repeat (first | refine av ?_ _ | refine aC ?_ | refine au ?_ _)); refine aW ?_ NB270_273.out _; (with_reducible repeat (first | refine av ?_ _ | refine aC ?_ | refine au ?_ _)); exact BK270.out⟩, ⟨by (with_reducible repeat (first | refine av ?_ _ | refine aC ?_ | refine au ?_ _)); refine bL (cs := #[.int .i64 a0, u274001]) ?_ 1 _ rfl; (with_reducible repeat (first | refine av ?_ _ | refine aC ?_ | refine au ?_ _)); exact BK273.out⟩, ⟨by repeat (first | (with_reducible first | exact HB.out | apply ak | apply ah | apply aj | refine aA ?_ GE270.out | refine aA ?_ GE273.out) | exact HB.out)⟩⟩
         ·
          rw [if_neg c16] at H
          exact absurd H (by simp)
        ·
         rw [if_neg c15] at H
         exact absurd H (by simp)
       ·
        rw [if_neg c14] at H
        exact absurd H (by simp)
      ·
       rw [if_neg c13] at H
       have c13b0 : decide (x19_2 < a1) = false := decide_eq_false c13
       clear c13
       simp only [Option.some.injEq, Prod.mk.injEq] at H
       obtain ⟨rfl, rfl, rfl⟩ := H
       have hnb24 := NB273_270.out
       have hnc24 := NB270_273.out
       have hcz25_0 : wr.cell? ⟨gb273, 0, none⟩ = some (.int .i64 a0) := (ay BK273.out 0).trans rfl
       have hcz25_1 : wr.cell? ⟨gb273, 1, none⟩ = some (u274001) := (ay BK273.out 1).trans rfl
       have hfz25_0 := aD BK273.out 0
       have hfz25_1 := aD BK273.out 1
       have hcz26_0 : wr.cell? ⟨gb270, 0, none⟩ = some (.int .i64 0) := (ay BK270.out 0).trans rfl
       have hcz26_1 : wr.cell? ⟨gb270, 1, none⟩ = some (.slice none 0 0) := (ay BK270.out 1).trans rfl
       have hfz26_0 := aD BK270.out 0
       have hfz26_1 := aD BK270.out 1
       obtain ⟨Ao27, co27, eo27⟩ := Kd.S_slice HO_274001.out
       subst eo27
       go_wp2
       refine bodyPost_ret (results_ct rfl _ _ gb270 28 #[.int .i64 a0, .slice Ao27 x274001_2.length co27] (0, 0) _ rfl (by (with_reducible repeat (first | refine av ?_ _ | refine aC ?_ | refine au ?_ _)); refine bL (cs := #[.int .i64 a0, .slice none 0 0]) ?_ 1 _ rfl; (with_reducible repeat (first | refine av ?_ _ | refine aC ?_ | refine au ?_ _)); refine bL (cs := #[.int .i64 0, .slice none 0 0]) ?_ 0 _ rfl; (with_reducible repeat (first | refine av ?_ _ | refine aC ?_ | refine au ?_ _)); exact BK270.out) Try.underlying28 rfl (by kernel_rfl)) rfl ?_
       exact ⟨_, by first | rfl | (simp [aX, aY] <;> rfl) | (simp [*, aX, aY] <;> rfl), by (with_reducible repeat (first | apply Kd.S_alloc | apply Kd.S_drewN | apply Kd.S_drew)); exact Kd.S_mono (Kd.S_far (p := ⟨gb270, 1, none⟩) (Kd.S_far (p := ⟨gb270, 0, none⟩) (Kd.S_types HO_274001.out BK270.out (by decide)) (fun _ hk => hk.2) (.int .i64 a0)) (fun _ hk => hk.2) (.slice Ao27 x274001_2.length co27)) (fun _ hk => trivial), by repeat (first | (with_reducible first | exact HB.out | apply ak | apply ah | apply aj | refine aA ?_ GE270.out | refine aA ?_ GE273.out) | exact HB.out)⟩
def downtiltref02_sizedErr.l0 : Nat → List Int → Int → Int → Option (Int)
 | 0, _, _, _ => none
 | k + 1, x0, x2, x7 => if x7 < (x0.length : Int) then (if 0 ≤ x7 then ((downtiltbase_Within.f (rd x0 x7) (wrap64 (-x2)) x2).bind fun t281 => (if t281 = true then (downtiltref02_sizedErr.l0 k x0 x2 (wrap64 (x7 + 1))) else (some 2))) else (none)) else (some 0)
def downtiltref02_sizedErr.f (k : Nat) (l0 : List Int) (a1 : Int) (a2 : Int) : Option (Int) := if (l0.length : Int) = 0 then (some 10) else (if (l0.length : Int) > a1 then (some 8) else (downtiltref02_sizedErr.l0 k l0 a2 0))
theorem downtiltref02_sizedErr.calls (k : Nat) (A0 : Option Addr) (c0 : Nat) (l0 : List Int) (a1 : Int) (a2 : Int) (r : Int) (w : World) (hr0 : Kd.C (Kd.int .i64) w A0 l0.length l0) (hc0 : l0.length ≤ c0) (h : downtiltref02_sizedErr.f k l0 a1 a2 = some r) :
  Calls Try.prog 113 #[.slice A0 l0.length c0, .int .i64 a1, .int .i64 a2] w fun e w' => e = .returned (.int .i64 r) ∧ Drawn0 w w' := by
 have HR0 := dH hr0
 have HC0 := dH hc0
 clear hr0 hc0
 have H : (if (l0.length : Int) = 0 then (some 10) else (if (l0.length : Int) > a1 then (some 8) else (downtiltref02_sizedErr.l0 k l0 a2 0))) = some r := h
 clear h
 by_cases c4 : (l0.length : Int) = 0
 ·
  rw [if_pos c4] at H
  have c4b0 : ((l0.length : Int) == 0) = true := beq_iff_eq.mpr c4
  have c4b1 : ((l0.length : Int) != 0) = false := bne_eq_false_iff_eq.mpr c4
  clear c4
  obtain rfl := Option.some.inj H
  go_enter Try.func113, Try.ntmps113
  go_wp2
  go_ret
  exact ⟨by first | rfl | (simp; done) | (simp [*]; done), by repeat (first | exact Drawn0.refl _ | apply Drawn0.step)⟩
 ·
  rw [if_neg c4] at H
  have c4b0 : ((l0.length : Int) == 0) = false := beq_eq_false_iff_ne.mpr c4
  have c4b1 : ((l0.length : Int) != 0) = true := bne_iff_ne.mpr c4
  have c4b2 : ¬ (l0 = []) := fun h_ => c4 (by rw [h_]; rfl)
  by_cases c5 : (l0.length : Int) > a1
  ·
   rw [if_pos c5] at H
   have c5b0 : decide (a1 < (l0.length : Int)) = true := decide_eq_true c5
   clear c5
   obtain rfl := Option.some.inj H
   go_enter Try.func113, Try.ntmps113
   go_wp2
   go_ret
   exact ⟨by first | rfl | (simp; done) | (simp [*]; done), by repeat (first | exact Drawn0.refl _ | apply Drawn0.step)⟩
  ·
   rw [if_neg c5] at H
   have c5b0 : decide (a1 < (l0.length : Int)) = false := decide_eq_false c5
   clear c5
   have H' := dH H
   clear H
   go_enter Try.func113, Try.ntmps113
   go_wp2
   go_loopg [7] k (fun kq v7 w' => ∃ (x7_1 : Int), v7 = .int .i64 x7_1 ∧ Aside0 (downtiltref02_sizedErr.l0 kq l0 a2 x7_1 = some r) ∧ Aside0 (kq ≤ k) ∧ Drawn0 w w')
   case atStart => exact ⟨(0), (by first | rfl | (simp; done) | (simp [*]; done)), H', ⟨Nat.le_refl _⟩, by repeat (first | exact Drawn0.refl _ | apply Drawn0.step)⟩
   case round =>
    clear H'
    try clear c1
    try clear p2
    try clear c4
    try clear c4b0
    try clear c4b1
    try clear c4b2
    try clear c5
    try clear c5b0
    obtain ⟨x7_1, rfl, HA, HK1, ⟨m1, rfl⟩⟩ := hrel
    cases gk with
    | zero => exact absurd HA.out (by simp [downtiltref02_sizedErr.l0])
    | succ k1 =>
     have H := HA.out
     clear HA
     simp only [downtiltref02_sizedErr.l0] at H
     by_cases c6 : x7_1 < (l0.length : Int)
     ·
      rw [if_pos c6] at H
      have c6b0 : decide (x7_1 < (l0.length : Int)) = true := decide_eq_true c6
      clear c6
      by_cases c7 : 0 ≤ x7_1
      ·
       rw [if_pos c7] at H
       have c7b0 : decide (0 ≤ x7_1) = true := decide_eq_true c7
       clear c7
       replace H := dF.mp H
       obtain ⟨t281, A80, H⟩ := H
       replace H : (if t281 = true then (downtiltref02_sizedErr.l0 k1 l0 a2 (wrap64 (x7_1 + 1))) else (some 2)) = some r := H
       have A8 := dH A80
       clear A80
       by_cases c9 : t281 = true
       ·
        subst c9
        have H1 : (downtiltref02_sizedErr.l0 k1 l0 a2 (wrap64 (x7_1 + 1))) = some r := by rw [if_pos rfl] at H; exact H
        clear H
        have H := H1
        clear H1
        have H' := dH H
        clear H
        have p280 : 0 ≤ (x7_1 : Int) := dD (by first | (with_reducible assumption) | assumption)
        have q280 : x7_1 < (l0.length : Int) := dD (by first | (with_reducible assumption) | assumption)
        obtain ⟨ad280, e280, hx280_0⟩ := Kd.bX HR0.out x7_1 p280 q280
        cases e280
        replace p280 := eq_true p280
        replace q280 := eq_true q280
        go_wp2_with (first | ((with_reducible refine aT (f := 9) rfl ?_); refine bq (some 28) rfl rfl Try.func9 (by kernel_rfl) rfl #[.int .i64 (rd l0 x7_1), .int .i64 (wrap64 (-a2)), .int .i64 a2] rfl (by (try simp only [dh, dn, dw]); first | done | rfl | (simp only [dx, dz]; rfl) | (simp only [gt_iff_lt, dA]; rfl) | (simp [Act.eval]; done) | (simp [Act.eval, *]; done)) ?_; (with_reducible refine (downtiltbase_Within.calls (rd l0 x7_1) (wrap64 (-a2)) a2 true _ A8.out).mono ?_); rintro e w' ⟨rfl, ⟨nd, rfl⟩⟩; refine ⟨_, rfl, ?_⟩))
        go_roundg k1
        case measure => have := HK1.out; omega
        case rel => exact ⟨(wrap64 (x7_1 + 1)), (by first | rfl | (simp; done) | (simp [*]; done)), H', ⟨by have := HK1.out; omega⟩, by repeat (first | exact Drawn0.refl _ | apply Drawn0.step)⟩
       ·
        replace c9 := Bool.eq_false_iff.mpr c9
        subst c9
        have H1 : (some 2) = some r := by rw [if_neg (show ¬ (false = true) by decide)] at H; exact H
        clear H
        have H := H1
        clear H1
        obtain rfl := Option.some.inj H
        have p280 : 0 ≤ (x7_1 : Int) := dD (by first | (with_reducible assumption) | assumption)
        have q280 : x7_1 < (l0.length : Int) := dD (by first | (with_reducible assumption) | assumption)
        obtain ⟨ad280, e280, hx280_0⟩ := Kd.bX HR0.out x7_1 p280 q280
        cases e280
        replace p280 := eq_true p280
        replace q280 := eq_true q280
        go_wp2_with (first | ((with_reducible refine aT (f := 9) rfl ?_); refine bq (some 28) rfl rfl Try.func9 (by kernel_rfl) rfl #[.int .i64 (rd l0 x7_1), .int .i64 (wrap64 (-a2)), .int .i64 a2] rfl (by (try simp only [dh, dn, dw]); first | done | rfl | (simp only [dx, dz]; rfl) | (simp only [gt_iff_lt, dA]; rfl) | (simp [Act.eval]; done) | (simp [Act.eval, *]; done)) ?_; (with_reducible refine (downtiltbase_Within.calls (rd l0 x7_1) (wrap64 (-a2)) a2 false _ A8.out).mono ?_); rintro e w' ⟨rfl, ⟨nd, rfl⟩⟩; refine ⟨_, rfl, ?_⟩))
        go_ret
        exact ⟨by first | rfl | (simp; done) | (simp [*]; done), by repeat (first | exact Drawn0.refl _ | apply Drawn0.step)⟩
      ·
       rw [if_neg c7] at H
       exact absurd H (by simp)
     ·
      rw [if_neg c6] at H
      have c6b0 : decide (x7_1 < (l0.length : Int)) = false := decide_eq_false c6
      clear c6
      obtain rfl := Option.some.inj H
      go_wp2
      go_ret
      exact ⟨by first | rfl | (simp; done) | (simp [*]; done), by repeat (first | exact Drawn0.refl _ | apply Drawn0.step)⟩
def downtiltref02_SumsErr.f (k : Nat) (l0 : List Int) : Option (Int) := (downtiltref02_sizedErr.f k l0 200 1000000000).bind fun t282 => (some t282)
theorem downtiltref02_SumsErr.calls (k : Nat) (A0 : Option Addr) (c0 : Nat) (l0 : List Int) (r : Int) (w : World) (hr0 : Kd.C (Kd.int .i64) w A0 l0.length l0) (hc0 : l0.length ≤ c0) (h : downtiltref02_SumsErr.f k l0 = some r) :
  Calls Try.prog 39 #[.slice A0 l0.length c0] w fun e w' => e = .returned (.int .i64 r) ∧ Drawn0 w w' := by
 have HR0 := dH hr0
 have HC0 := dH hc0
 clear hr0 hc0
 have H : ((downtiltref02_sizedErr.f k l0 200 1000000000).bind fun t282 => (some t282)) = some r := h
 clear h
 replace H := dF.mp H
 obtain ⟨t282, A20, H⟩ := H
 replace H : (some t282) = some r := H
 have A2 := dH A20
 clear A20
 obtain rfl := Option.some.inj H
 go_enter Try.func39, Try.ntmps39
 go_wp2_with (first | ((with_reducible refine aT (f := 113) rfl ?_); refine bq (some 4) rfl rfl Try.func113 (by kernel_rfl) rfl #[.slice A0 l0.length c0, .int .i64 200, .int .i64 1000000000] rfl (by (try simp only [dh, dn, dw]); first | done | rfl | (simp only [dx, dz]; rfl) | (simp only [gt_iff_lt, dA]; rfl) | (simp [Act.eval]; done) | (simp [Act.eval, *]; done)) ?_; (with_reducible refine (downtiltref02_sizedErr.calls k _ _ l0 200 1000000000 t282 _ ?side1 ?side2 A2.out).mono ?_); (case side1 => repeat (first | exact HR0.out | (with_reducible refine Kd.bA ?_ _) | (with_reducible refine Kd.bC ?_ _) | (with_reducible refine Kd.bJ ?_))); (case side2 => exact HC0.out); rintro e w' ⟨rfl, ⟨nd, rfl⟩⟩; refine ⟨_, rfl, ?_⟩))
 go_ret
 exact ⟨by first | rfl | (simp; done) | (simp [*]; done), by repeat (first | exact Drawn0.refl _ | apply Drawn0.step)⟩
def downtiltref02_LengthErr.f (a0 : Int) : Option (Int) := (downtiltbase_Within.f a0 1 200).bind fun t283 => (if t283 = true then (some 0) else (some 2))
theorem downtiltref02_LengthErr.calls (a0 : Int) (r : Int) (w : World) (h : downtiltref02_LengthErr.f a0 = some r) :
  Calls Try.prog 70 #[.int .i64 a0] w fun e w' => e = .returned (.int .i64 r) ∧ Drawn0 w w' := by
 have H : ((downtiltbase_Within.f a0 1 200).bind fun t283 => (if t283 = true then (some 0) else (some 2))) = some r := h
 clear h
 replace H := dF.mp H
 obtain ⟨t283, A20, H⟩ := H
 replace H : (if t283 = true then (some 0) else (some 2)) = some r := H
 have A2 := dH A20
 clear A20
 by_cases c3 : t283 = true
 ·
  subst c3
  have H1 : (some 0) = some r := by rw [if_pos rfl] at H; exact H
  clear H
  have H := H1
  clear H1
  obtain rfl := Option.some.inj H
  go_enter Try.func70, Try.ntmps70
  go_wp2_with (first | ((with_reducible refine aT (f := 9) rfl ?_); refine bq (some 4) rfl rfl Try.func9 (by kernel_rfl) rfl #[.int .i64 a0, .int .i64 1, .int .i64 200] rfl (by (try simp only [dh, dn, dw]); first | done | rfl | (simp only [dx, dz]; rfl) | (simp only [gt_iff_lt, dA]; rfl) | (simp [Act.eval]; done) | (simp [Act.eval, *]; done)) ?_; (with_reducible refine (downtiltbase_Within.calls a0 1 200 true _ A2.out).mono ?_); rintro e w' ⟨rfl, ⟨nd, rfl⟩⟩; refine ⟨_, rfl, ?_⟩))
  go_ret
  exact ⟨by first | rfl | (simp; done) | (simp [*]; done), by repeat (first | exact Drawn0.refl _ | apply Drawn0.step)⟩
 ·
  replace c3 := Bool.eq_false_iff.mpr c3
  subst c3
  have H1 : (some 2) = some r := by rw [if_neg (show ¬ (false = true) by decide)] at H; exact H
  clear H
  have H := H1
  clear H1
  obtain rfl := Option.some.inj H
  go_enter Try.func70, Try.ntmps70
  go_wp2_with (first | ((with_reducible refine aT (f := 9) rfl ?_); refine bq (some 4) rfl rfl Try.func9 (by kernel_rfl) rfl #[.int .i64 a0, .int .i64 1, .int .i64 200] rfl (by (try simp only [dh, dn, dw]); first | done | rfl | (simp only [dx, dz]; rfl) | (simp only [gt_iff_lt, dA]; rfl) | (simp [Act.eval]; done) | (simp [Act.eval, *]; done)) ?_; (with_reducible refine (downtiltbase_Within.calls a0 1 200 false _ A2.out).mono ?_); rintro e w' ⟨rfl, ⟨nd, rfl⟩⟩; refine ⟨_, rfl, ?_⟩))
  go_ret
  exact ⟨by first | rfl | (simp; done) | (simp [*]; done), by repeat (first | exact Drawn0.refl _ | apply Drawn0.step)⟩
end Go.Proofs.Ytbjiookpiminmaa.PCode
end
section
namespace Go.Proofs.Ytbjiookpiminmaa.PCode
open Go.RowKit Go.Proofs.YtbjiookpiminmaaW.PrintWords Go.Proofs.YtbjiookpiminmaaW.PrintLast Go.Proofs.YtbjiookpiminmaaW.PrintMore
attribute [local go_sem] max2_int min2_int max_two min_two max_three min_three max_four min_four   -- for this text's walks alone
mutual
def downtiltref02_BuffersErr.l0 : Nat → Int → Int → List (S42) → Option (Int)
 | 0, _, _, _ => none
 | k + 1, x4, x285000, x285001 => if x4 < (x285001.length : Int) then (if 0 ≤ x4 then ((downtiltbase_Within.f ((rd_T42 x285001 x4).f0) (-1) 1).bind fun t288 => (if t288 = true then ((downtiltbase_Within.f ((rd_T42 x285001 x4).f1) 0 1000000000).bind fun t289 => (downtiltref02_BuffersErr.j1 k x4 (!t289) x285000 x285001 ((rd_T42 x285001 x4).f0) ((rd_T42 x285001 x4).f1) ((rd_T42 x285001 x4).f2))) else (downtiltref02_BuffersErr.j1 k x4 true x285000 x285001 ((rd_T42 x285001 x4).f0) ((rd_T42 x285001 x4).f1) ((rd_T42 x285001 x4).f2)))) else (none)) else (some 0)
def downtiltref02_BuffersErr.j1 : Nat → Int → Bool → Int → List (S42) → Int → Int → List Int → Option (Int)
 | 0, _, _, _, _, _, _, _ => none
 | k + 1, x4, x42, x285000, x285001, x288000, x288001, x288002 => if x42 = true then (some 2) else (if ((x288000 == (-1)) != (x288001 == 0)) = true then (some 22) else (if (x288002.length : Int) = x285000 then ((downtiltref02_SumsErr.f k x288002).bind fun t290 => (if t290 = 0 then (if x288001 = 0 then (if 0 ≤ x285000 then (if (x285000 : Int).toNat ≤ 35184372088832 then ((downtiltbase_Ints.f k x288002 (List.replicate (x285000 : Int).toNat 0)).bind fun t294 => (if t294 = true then (downtiltref02_BuffersErr.l0 k (wrap64 (x4 + 1)) x285000 x285001) else (some 22))) else (none)) else (none)) else (downtiltref02_BuffersErr.l0 k (wrap64 (x4 + 1)) x285000 x285001)) else (some t290))) else (some 10)))
end
def downtiltref02_BuffersErr.f (k : Nat) (a0_0 : Int) (l0_1 : List (S42)) : Option (Int) := (downtiltref02_LengthErr.f a0_0).bind fun t285 => (if t285 = 0 then (if (l0_1.length : Int) = 0 then (some 10) else (if (l0_1.length : Int) > 8 then (some 8) else (downtiltref02_BuffersErr.l0 k 0 a0_0 l0_1))) else (some t285))
def downtiltref02_BuffersErr.T21 : Bool × List (List Nat × List Nat) := (true, [([], []), ([0], [0]), ([1], [1]), ([2], [2]), ([3], [3]), ([4, 3], [3, 4]), ([3], [3]), ([6, 3], [3, 6]), ([7, 7, 3], [3, 7]), ([5, 8, 3, 3], [3, 5, 8]), ([9, 3], [3, 9]), ([3, 10], [3, 10])])
def downtiltref02_BuffersErr.B21 : List Nat := [0, 1, 3, 7, 15, 31, 15, 79, 207, 511, 1023, 2047]
theorem downtiltref02_BuffersErr.tab21 : rtab .any (opsOf Try.f11 21) = downtiltref02_BuffersErr.T21 := by kernel_rfl
theorem downtiltref02_BuffersErr.bits21 : waitsOk downtiltref02_BuffersErr.T21.2 downtiltref02_BuffersErr.B21 = true := by kernel_rfl
theorem downtiltref02_BuffersErr.calls (k : Nat) (a0_0 : Int) (A0_1 : Option Addr) (c0_1 : Nat) (l0_1 : List (S42)) (r : Int) (w : World) (hr0_1 : Kd.C k42 w A0_1 l0_1.length l0_1) (hc0_1 : l0_1.length ≤ c0_1) (h : downtiltref02_BuffersErr.f k a0_0 l0_1 = some r) :
  Calls Try.prog 11 #[.agg #[.int .i64 a0_0, .slice A0_1 l0_1.length c0_1]] w fun e w' => e = .returned (.int .i64 r) ∧ Below w.heap.size w w' := by
 have hu28 := Try.underlying28
 have hu42 := Try.underlying42
 have HR0_1 := dH hr0_1
 have HC0_1 := dH hc0_1
 clear hr0_1 hc0_1
 have HB := dH (Below.refl w.heap.size w)
 have H : ((downtiltref02_LengthErr.f a0_0).bind fun t285 => (if t285 = 0 then (if (l0_1.length : Int) = 0 then (some 10) else (if (l0_1.length : Int) > 8 then (some 8) else (downtiltref02_BuffersErr.l0 k 0 a0_0 l0_1))) else (some t285))) = some r := h
 clear h
 replace H := dF.mp H
 obtain ⟨t285, A20, H⟩ := H
 replace H : (if t285 = 0 then (if (l0_1.length : Int) = 0 then (some 10) else (if (l0_1.length : Int) > 8 then (some 8) else (downtiltref02_BuffersErr.l0 k 0 a0_0 l0_1))) else (some t285)) = some r := H
 have A2 := dH A20
 clear A20
 by_cases c3 : t285 = 0
 ·
  rw [if_pos c3] at H
  have c3b0 : (t285 == 0) = true := beq_iff_eq.mpr c3
  have c3b1 : (t285 != 0) = false := bne_eq_false_iff_eq.mpr c3
  clear c3
  by_cases c4 : (l0_1.length : Int) = 0
  ·
   rw [if_pos c4] at H
   have c4b0 : ((l0_1.length : Int) == 0) = true := beq_iff_eq.mpr c4
   have c4b1 : ((l0_1.length : Int) != 0) = false := bne_eq_false_iff_eq.mpr c4
   clear c4
   obtain rfl := Option.some.inj H
   go_enter Try.func11, Try.ntmps11
   go_wp2_with (first | ((with_reducible refine bg (N := 1) rfl ?_); (try (refine gate_guard (by rfl) ?_; dsimp only)); refine bI ?hg (N := 1) ?hd (cs := #[.int .i64 a0_0, .slice A0_1 l0_1.length c0_1]) (t := 28) ?hr ?_; (case hd => rfl); (case hg => rfl); (case hr => first | (go_simp; done) | (go_simp; rfl)); intro gb284 hg w5 hbox hb; have n0_ := dH (aM (by repeat (first | (with_reducible first | exact HB.out | apply ak | apply ah | apply aj) | exact HB.out)) hb); have n1_ := dH (hbox); have n2_ := dH ((by rw [hg]; exact (aK (by repeat (first | (with_reducible first | exact HB.out | apply ak | apply ah | apply aj) | exact HB.out))) : w.heap.size ≤ gb284)); have n3_ := dH ((by rw [hg]; exact (aK (by repeat (first | (with_reducible first | exact HB.out | apply ak | apply ah | apply aj) | exact HB.out))) : w.heap.size ≤ gb284)); clear HB; have HB := n0_; have BK284 := n1_; have GW284 := n2_; have GE284 := n3_; clear n0_ n1_ n2_ n3_; clear hb hbox hg; have hcz6_0 : w5.cell? ⟨gb284, 0, none⟩ = some (.int .i64 a0_0) := (ay BK284.out 0).trans rfl; have hcz6_1 : w5.cell? ⟨gb284, 1, none⟩ = some (.slice A0_1 l0_1.length c0_1) := (ay BK284.out 1).trans rfl; have hfz6_0 := aD BK284.out 0; have hfz6_1 := aD BK284.out 1) | ((with_reducible refine aT (f := 70) rfl ?_); refine bq (some 9) rfl rfl Try.func70 (by kernel_rfl) rfl #[.int .i64 a0_0] rfl (by (try simp only [dh, dn, dw]); first | done | rfl | (simp only [dx, dz]; rfl) | (simp only [gt_iff_lt, dA]; rfl) | (simp [Act.eval]; done) | (simp [Act.eval, *]; done)) ?_; (with_reducible refine (downtiltref02_LengthErr.calls a0_0 t285 _ A2.out).mono ?_); rintro e w' ⟨rfl, ⟨nd, rfl⟩⟩; refine ⟨_, rfl, ?_⟩))
   go_ret
   exact ⟨by first | rfl | (simp [aX, aY] <;> rfl) | (simp [*, aX, aY] <;> rfl), by repeat (first | (with_reducible first | exact HB.out | apply ak | apply ah | apply aj | refine aA ?_ GE284.out) | exact HB.out)⟩
  ·
   rw [if_neg c4] at H
   have c4b0 : ((l0_1.length : Int) == 0) = false := beq_eq_false_iff_ne.mpr c4
   have c4b1 : ((l0_1.length : Int) != 0) = true := bne_iff_ne.mpr c4
   have c4b2 : ¬ (l0_1 = []) := fun h_ => c4 (by rw [h_]; rfl)
   by_cases c7 : (l0_1.length : Int) > 8
   ·
    rw [if_pos c7] at H
    have c7b0 : decide (8 < (l0_1.length : Int)) = true := decide_eq_true c7
    have c7b1 : decide (8 < l0_1.length) = true := decide_eq_true (by omega)
    clear c7
    obtain rfl := Option.some.inj H
    go_enter Try.func11, Try.ntmps11
    go_wp2_with (first | ((with_reducible refine bg (N := 1) rfl ?_); (try (refine gate_guard (by rfl) ?_; dsimp only)); refine bI ?hg (N := 1) ?hd (cs := #[.int .i64 a0_0, .slice A0_1 l0_1.length c0_1]) (t := 28) ?hr ?_; (case hd => rfl); (case hg => rfl); (case hr => first | (go_simp; done) | (go_simp; rfl)); intro gb284 hg w8 hbox hb; have n0_ := dH (aM (by repeat (first | (with_reducible first | exact HB.out | apply ak | apply ah | apply aj) | exact HB.out)) hb); have n1_ := dH (hbox); have n2_ := dH ((by rw [hg]; exact (aK (by repeat (first | (with_reducible first | exact HB.out | apply ak | apply ah | apply aj) | exact HB.out))) : w.heap.size ≤ gb284)); have n3_ := dH ((by rw [hg]; exact (aK (by repeat (first | (with_reducible first | exact HB.out | apply ak | apply ah | apply aj) | exact HB.out))) : w.heap.size ≤ gb284)); clear HB; have HB := n0_; have BK284 := n1_; have GW284 := n2_; have GE284 := n3_; clear n0_ n1_ n2_ n3_; clear hb hbox hg; have hcz9_0 : w8.cell? ⟨gb284, 0, none⟩ = some (.int .i64 a0_0) := (ay BK284.out 0).trans rfl; have hcz9_1 : w8.cell? ⟨gb284, 1, none⟩ = some (.slice A0_1 l0_1.length c0_1) := (ay BK284.out 1).trans rfl; have hfz9_0 := aD BK284.out 0; have hfz9_1 := aD BK284.out 1) | ((with_reducible refine aT (f := 70) rfl ?_); refine bq (some 9) rfl rfl Try.func70 (by kernel_rfl) rfl #[.int .i64 a0_0] rfl (by (try simp only [dh, dn, dw]); first | done | rfl | (simp only [dx, dz]; rfl) | (simp only [gt_iff_lt, dA]; rfl) | (simp [Act.eval]; done) | (simp [Act.eval, *]; done)) ?_; (with_reducible refine (downtiltref02_LengthErr.calls a0_0 t285 _ A2.out).mono ?_); rintro e w' ⟨rfl, ⟨nd, rfl⟩⟩; refine ⟨_, rfl, ?_⟩))
    go_ret
    exact ⟨by first | rfl | (simp [aX, aY] <;> rfl) | (simp [*, aX, aY] <;> rfl), by repeat (first | (with_reducible first | exact HB.out | apply ak | apply ah | apply aj | refine aA ?_ GE284.out) | exact HB.out)⟩
   ·
    rw [if_neg c7] at H
    have c7b0 : decide (8 < (l0_1.length : Int)) = false := decide_eq_false c7
    have c7b1 : decide (8 < l0_1.length) = false := decide_eq_false (by omega)
    clear c7
    have H' := dH H
    clear H
    go_enter Try.func11, Try.ntmps11
    go_wp2_with (first | ((with_reducible refine bg (N := 1) rfl ?_); (try (refine gate_guard (by rfl) ?_; dsimp only)); refine bI ?hg (N := 1) ?hd (cs := #[.int .i64 a0_0, .slice A0_1 l0_1.length c0_1]) (t := 28) ?hr ?_; (case hd => rfl); (case hg => rfl); (case hr => first | (go_simp; done) | (go_simp; rfl)); intro gb284 hg w10 hbox hb; have n0_ := dH (aM (by repeat (first | (with_reducible first | exact HB.out | apply ak | apply ah | apply aj) | exact HB.out)) hb); have n1_ := dH (hbox); have n2_ := dH ((by rw [hg]; exact (aK (by repeat (first | (with_reducible first | exact HB.out | apply ak | apply ah | apply aj) | exact HB.out))) : w.heap.size ≤ gb284)); have n3_ := dH ((by rw [hg]; exact (aK (by repeat (first | (with_reducible first | exact HB.out | apply ak | apply ah | apply aj) | exact HB.out))) : w.heap.size ≤ gb284)); clear HB; have HB := n0_; have BK284 := n1_; have GW284 := n2_; have GE284 := n3_; clear n0_ n1_ n2_ n3_; clear hb hbox hg; have hcz11_0 : w10.cell? ⟨gb284, 0, none⟩ = some (.int .i64 a0_0) := (ay BK284.out 0).trans rfl; have hcz11_1 : w10.cell? ⟨gb284, 1, none⟩ = some (.slice A0_1 l0_1.length c0_1) := (ay BK284.out 1).trans rfl; have hfz11_0 := aD BK284.out 0; have hfz11_1 := aD BK284.out 1) | ((with_reducible refine aT (f := 70) rfl ?_); refine bq (some 9) rfl rfl Try.func70 (by kernel_rfl) rfl #[.int .i64 a0_0] rfl (by (try simp only [dh, dn, dw]); first | done | rfl | (simp only [dx, dz]; rfl) | (simp only [gt_iff_lt, dA]; rfl) | (simp [Act.eval]; done) | (simp [Act.eval, *]; done)) ?_; (with_reducible refine (downtiltref02_LengthErr.calls a0_0 t285 _ A2.out).mono ?_); rintro e w' ⟨rfl, ⟨nd, rfl⟩⟩; refine ⟨_, rfl, ?_⟩))
    go_loopg [4] k (fun kq v4 w' => ∃ (x4_1 : Int), v4 = .int .i64 x4_1 ∧ Aside0 (downtiltref02_BuffersErr.l0 kq x4_1 a0_0 l0_1 = some r) ∧ Aside0 (kq ≤ k) ∧ Aside0 (w'.heap[gb284]? = some (.cells #[.int .i64 a0_0, (.slice A0_1 l0_1.length c0_1)] 28 (0, 0))) ∧ Aside0 (Below w.heap.size w w'))
    case atStart => exact ⟨(0), (by first | rfl | (simp; done) | (simp [*]; done)), H', ⟨Nat.le_refl _⟩, ⟨by (with_reducible repeat (first | refine av ?_ _ | refine aC ?_ | refine au ?_ _)); exact BK284.out⟩, ⟨by repeat (first | (with_reducible first | exact HB.out | apply ak | apply ah | apply aj | refine aA ?_ GE284.out) | exact HB.out)⟩⟩
    case round =>
     clear H'
     try clear c1
     try clear p2
     try clear c3
     try clear c3b0
     try clear c3b1
     try clear c4
     try clear c4b0
     try clear c4b1
     try clear c4b2
     try clear c7
     try clear c7b0
     try clear c7b1
     try clear c11
     try clear hcz11_0
     try clear hcz11_1
     try clear hcz6_0
     try clear hcz6_1
     try clear hcz9_0
     try clear hcz9_1
     try clear hfz11_0
     try clear hfz11_1
     try clear hfz6_0
     try clear hfz6_1
     try clear hfz9_0
     try clear hfz9_1
     obtain ⟨x4_1, rfl, HA, HK1, BK284, HB⟩ := hrel
     cases gk with
     | zero => exact absurd HA.out (by simp [downtiltref02_BuffersErr.l0])
     | succ k1 =>
      have H := HA.out
      clear HA
      simp only [downtiltref02_BuffersErr.l0] at H
      by_cases c12 : x4_1 < (l0_1.length : Int)
      ·
       rw [if_pos c12] at H
       have c12b0 : decide (x4_1 < (l0_1.length : Int)) = true := decide_eq_true c12
       clear c12
       by_cases c13 : 0 ≤ x4_1
       ·
        rw [if_pos c13] at H
        have c13b0 : decide (0 ≤ x4_1) = true := decide_eq_true c13
        clear c13
        have HC14 := dH H
        clear H
        have hcz15_0 : wr.cell? ⟨gb284, 0, none⟩ = some (.int .i64 a0_0) := (ay BK284.out 0).trans rfl
        have hcz15_1 : wr.cell? ⟨gb284, 1, none⟩ = some (.slice A0_1 l0_1.length c0_1) := (ay BK284.out 1).trans rfl
        have hfz15_0 := aD BK284.out 0
        have hfz15_1 := aD BK284.out 1
        have p286 : 0 ≤ (x4_1 : Int) := dD (by first | (with_reducible assumption) | assumption)
        have q286 : x4_1 < (l0_1.length : Int) := dD (by first | (with_reducible assumption) | assumption)
        obtain ⟨ad286, A286_2, c286_2, e286, hx286_0, hx286_1, hx286_2, hl286_2, hi286_2⟩ := at_T42 HR0_1.out x4_1 p286 q286
        cases e286
        replace hx286_0 := (HB.out.cell (dB w _ hx286_0)).trans hx286_0
        replace hx286_1 := (HB.out.cell (dB w _ hx286_1)).trans hx286_1
        replace hx286_2 := (HB.out.cell (dB w _ hx286_2)).trans hx286_2
        have HR286_2 := dH hi286_2
        have HC286_2 := dH hl286_2
        clear hi286_2 hl286_2
        replace p286 := eq_true p286
        replace q286 := eq_true q286
        go_upto_region 12 with (first | ((with_reducible refine bg (N := 5) rfl ?_); (try (refine gate_guard (by rfl) ?_; dsimp only)); refine bI ?hg (N := 5) ?hd (cs := #[.int .i64 0, .int .i64 0, .slice none 0 0]) (t := 42) ?hr ?_; (case hd => rfl); (case hg => rfl); (case hr => first | (go_simp; done) | (go_simp; rfl)); intro gb287 hg w16 hbox hb; have n0_ := dH (aQ (g := gb284) (o := .cells #[.int .i64 a0_0, .slice (some ad286) l0_1.length c0_1] 28 (0, 0)) (by (with_reducible repeat (first | refine av ?_ _ | refine aC ?_ | refine au ?_ _)); exact BK284.out) hb); have n1_ := dH (aM (by repeat (first | (with_reducible first | exact HB.out | apply ak | apply ah | apply aj | refine aA ?_ GE284.out) | exact HB.out)) hb); have n2_ := dH (hbox); have n3_ := dH ((by rw [hg]; exact (aK (by repeat (first | (with_reducible first | exact HB.out | apply ak | apply ah | apply aj | refine aA ?_ GE284.out) | exact HB.out))) : w.heap.size ≤ gb287)); have n4_ := dH ((by rw [hg]; exact (aK (by repeat (first | (with_reducible first | exact HB.out | apply ak | apply ah | apply aj | refine aA ?_ GE284.out) | exact HB.out))) : w.heap.size ≤ gb287)); have n5_ := dH ((by rw [hg]; exact Nat.ne_of_lt (bn (g := gb284) (o := .cells #[.int .i64 a0_0, .slice (some ad286) l0_1.length c0_1] 28 (0, 0)) (by (with_reducible repeat (first | refine av ?_ _ | refine aC ?_ | refine au ?_ _)); exact BK284.out)) : gb284 ≠ gb287)); have n6_ := dH ((by rw [hg]; exact Nat.ne_of_gt (bn (g := gb284) (o := .cells #[.int .i64 a0_0, .slice (some ad286) l0_1.length c0_1] 28 (0, 0)) (by (with_reducible repeat (first | refine av ?_ _ | refine aC ?_ | refine au ?_ _)); exact BK284.out)) : gb287 ≠ gb284)); clear BK284; clear HB; have BK284 := n0_; have HB := n1_; have BK287 := n2_; have GW287 := n3_; have GE287 := n4_; have NB284_287 := n5_; have NB287_284 := n6_; clear n0_ n1_ n2_ n3_ n4_ n5_ n6_; clear hb hbox hg; have hnb17 := NB287_284.out; have hnc17 := NB284_287.out; have hcz18_0 : w16.cell? ⟨gb287, 0, none⟩ = some (.int .i64 0) := (ay BK287.out 0).trans rfl; have hcz18_1 : w16.cell? ⟨gb287, 1, none⟩ = some (.int .i64 0) := (ay BK287.out 1).trans rfl; have hcz18_2 : w16.cell? ⟨gb287, 2, none⟩ = some (.slice none 0 0) := (ay BK287.out 2).trans rfl; have hfz18_0 := aD BK287.out 0; have hfz18_1 := aD BK287.out 1; have hfz18_2 := aD BK287.out 2))
        (try simp only [Act.put, cO, cZ, d9])
        go_cut [42] (fun v42 wc => ∃ (kq : Nat) (x42_13 : Bool), v42 = .bool x42_13 ∧ Aside0 (downtiltref02_BuffersErr.j1 kq x4_1 x42_13 a0_0 l0_1 ((rd_T42 l0_1 x4_1).f0) ((rd_T42 l0_1 x4_1).f1) ((rd_T42 l0_1 x4_1).f2) = some r) ∧ Aside0 (kq ≤ k1) ∧ Aside0 (wc.heap[gb284]? = some (.cells #[.int .i64 a0_0, (.slice (some ad286) l0_1.length c0_1)] 28 (0, 0))) ∧ Aside0 (wc.heap[gb287]? = some (.cells #[.int .i64 ((rd_T42 l0_1 x4_1).f0), .int .i64 ((rd_T42 l0_1 x4_1).f1), (.slice A286_2 ((rd_T42 l0_1 x4_1).f2).length c286_2)] 42 (0, 0))) ∧ Aside0 (Below w.heap.size w wc))
        case first =>
         have H := HC14.out
         clear HC14
         replace H := dF.mp H
         obtain ⟨t288, A190, H⟩ := H
         replace H : (if t288 = true then ((downtiltbase_Within.f ((rd_T42 l0_1 x4_1).f1) 0 1000000000).bind fun t289 => (downtiltref02_BuffersErr.j1 k1 x4_1 (!t289) a0_0 l0_1 ((rd_T42 l0_1 x4_1).f0) ((rd_T42 l0_1 x4_1).f1) ((rd_T42 l0_1 x4_1).f2))) else (downtiltref02_BuffersErr.j1 k1 x4_1 true a0_0 l0_1 ((rd_T42 l0_1 x4_1).f0) ((rd_T42 l0_1 x4_1).f1) ((rd_T42 l0_1 x4_1).f2))) = some r := H
         have A19 := dH A190
         clear A190
         by_cases c20 : t288 = true
         ·
          subst c20
          have H1 : ((downtiltbase_Within.f ((rd_T42 l0_1 x4_1).f1) 0 1000000000).bind fun t289 => (downtiltref02_BuffersErr.j1 k1 x4_1 (!t289) a0_0 l0_1 ((rd_T42 l0_1 x4_1).f0) ((rd_T42 l0_1 x4_1).f1) ((rd_T42 l0_1 x4_1).f2))) = some r := by rw [if_pos rfl] at H; exact H
          clear H
          have H := H1
          clear H1
          replace H := dF.mp H
          obtain ⟨t289, A210, H⟩ := H
          replace H : (downtiltref02_BuffersErr.j1 k1 x4_1 (!t289) a0_0 l0_1 ((rd_T42 l0_1 x4_1).f0) ((rd_T42 l0_1 x4_1).f1) ((rd_T42 l0_1 x4_1).f2)) = some r := H
          have A21 := dH A210
          clear A210
          have H' := dH H
          clear H
          have hnb22 := NB287_284.out
          have hnc22 := NB284_287.out
          have hcz23_0 : w16.cell? ⟨gb287, 0, none⟩ = some (.int .i64 0) := (ay BK287.out 0).trans rfl
          have hcz23_1 : w16.cell? ⟨gb287, 1, none⟩ = some (.int .i64 0) := (ay BK287.out 1).trans rfl
          have hcz23_2 : w16.cell? ⟨gb287, 2, none⟩ = some (.slice none 0 0) := (ay BK287.out 2).trans rfl
          have hfz23_0 := aD BK287.out 0
          have hfz23_1 := aD BK287.out 1
          have hfz23_2 := aD BK287.out 2
          go_wp2_with (first | ((with_reducible refine aT (f := 9) rfl ?_); refine bq (some 35) rfl rfl Try.func9 (by kernel_rfl) rfl #[.int .i64 ((rd_T42 l0_1 x4_1).f0), .int .i64 (-1), .int .i64 1] rfl (by (try simp only [dh, dn, dw]); first | done | rfl | (simp only [dx, dz]; rfl) | (simp only [gt_iff_lt, dA]; rfl) | (simp [Act.eval]; done) | (simp [Act.eval, *]; done)) ?_; (with_reducible refine (downtiltbase_Within.calls ((rd_T42 l0_1 x4_1).f0) (-1) 1 true _ A19.out).mono ?_); rintro e w' ⟨rfl, ⟨nd, rfl⟩⟩; refine ⟨_, rfl, ?_⟩) | (go_at_call 9; (with_reducible refine (downtiltbase_Within.calls ((rd_T42 l0_1 x4_1).f1) 0 1000000000 t289 _ A21.out).mono ?_); rintro e w' ⟨rfl, ⟨nd, rfl⟩⟩))
          go_meet
          case rel => exact ⟨_, (!t289), (by first | rfl | (simp; done) | (simp [*]; done)), H', ⟨by have := HK1.out; first | omega | exact Nat.le_refl _⟩, ⟨by (with_reducible repeat (first | refine av ?_ _ | refine aC ?_ | refine au ?_ _)); refine aW ?_ NB284_287.out _; (with_reducible repeat (first | refine av ?_ _ | refine aC ?_ | refine au ?_ _)); refine aW ?_ NB284_287.out _; (with_reducible repeat (first | refine av ?_ _ | refine aC ?_ | refine au ?_ _)); refine aW ?_ NB284_287.out _; (with_reducible repeat (first | refine av ?_ _ | refine aC ?_ | refine au ?_ _)); exact BK284.out⟩, ⟨by (with_reducible repeat (first | refine av ?_ _ | refine aC ?_ | refine au ?_ _)); refine bL (cs := #[.int .i64 ((rd_T42 l0_1 x4_1).f0), .int .i64 ((rd_T42 l0_1 x4_1).f1), .slice none 0 0]) ?_ 2 _ rfl; (with_reducible repeat (first | refine av ?_ _ | refine aC ?_ | refine au ?_ _)); refine bL (cs := #[.int .i64 ((rd_T42 l0_1 x4_1).f0), .int .i64 0, .slice none 0 0]) ?_ 1 _ rfl; (with_reducible repeat (first | refine av ?_ _ | refine aC ?_ | refine au ?_ _)); refine bL (cs := #[.int .i64 0, .int .i64 0, .slice none 0 0]) ?_ 0 _ rfl; (with_reducible repeat (first | refine av ?_ _ | refine aC ?_ | refine au ?_ _)); exact BK287.out⟩, ⟨by repeat (first | (with_reducible first | exact HB.out | apply ak | apply ah | apply aj | refine aA ?_ GE284.out | refine aA ?_ GE287.out) | exact HB.out)⟩⟩
         ·
          replace c20 := Bool.eq_false_iff.mpr c20
          subst c20
          have H1 : (downtiltref02_BuffersErr.j1 k1 x4_1 true a0_0 l0_1 ((rd_T42 l0_1 x4_1).f0) ((rd_T42 l0_1 x4_1).f1) ((rd_T42 l0_1 x4_1).f2)) = some r := by rw [if_neg (show ¬ (false = true) by decide)] at H; exact H
          clear H
          have H := H1
          clear H1
          have H' := dH H
          clear H
          have hnb24 := NB287_284.out
          have hnc24 := NB284_287.out
          have hcz25_0 : w16.cell? ⟨gb287, 0, none⟩ = some (.int .i64 0) := (ay BK287.out 0).trans rfl
          have hcz25_1 : w16.cell? ⟨gb287, 1, none⟩ = some (.int .i64 0) := (ay BK287.out 1).trans rfl
          have hcz25_2 : w16.cell? ⟨gb287, 2, none⟩ = some (.slice none 0 0) := (ay BK287.out 2).trans rfl
          have hfz25_0 := aD BK287.out 0
          have hfz25_1 := aD BK287.out 1
          have hfz25_2 := aD BK287.out 2
          go_wp2_with (first | ((with_reducible refine aT (f := 9) rfl ?_); refine bq (some 35) rfl rfl Try.func9 (by kernel_rfl) rfl #[.int .i64 ((rd_T42 l0_1 x4_1).f0), .int .i64 (-1), .int .i64 1] rfl (by (try simp only [dh, dn, dw]); first | done | rfl | (simp only [dx, dz]; rfl) | (simp only [gt_iff_lt, dA]; rfl) | (simp [Act.eval]; done) | (simp [Act.eval, *]; done)) ?_; (with_reducible refine (downtiltbase_Within.calls ((rd_T42 l0_1 x4_1).f0) (-1) 1 false _ A19.out).mono ?_); rintro e w' ⟨rfl, ⟨nd, rfl⟩⟩; refine ⟨_, rfl, ?_⟩))
          go_meet
          case rel => exact ⟨_, (true), (by first | rfl | (simp; done) | (simp [*]; done)), H', ⟨by have := HK1.out; first | omega | exact Nat.le_refl _⟩, ⟨by (with_reducible repeat (first | refine av ?_ _ | refine aC ?_ | refine au ?_ _)); refine aW ?_ NB284_287.out _; (with_reducible repeat (first | refine av ?_ _ | refine aC ?_ | refine au ?_ _)); refine aW ?_ NB284_287.out _; (with_reducible repeat (first | refine av ?_ _ | refine aC ?_ | refine au ?_ _)); refine aW ?_ NB284_287.out _; (with_reducible repeat (first | refine av ?_ _ | refine aC ?_ | refine au ?_ _)); exact BK284.out⟩, ⟨by (with_reducible repeat (first | refine av ?_ _ | refine aC ?_ | refine au ?_ _)); refine bL (cs := #[.int .i64 ((rd_T42 l0_1 x4_1).f0), .int .i64 ((rd_T42 l0_1 x4_1).f1), .slice none 0 0]) ?_ 2 _ rfl; (with_reducible repeat (first | refine av ?_ _ | refine aC ?_ | refine au ?_ _)); refine bL (cs := #[.int .i64 ((rd_T42 l0_1 x4_1).f0), .int .i64 0, .slice none 0 0]) ?_ 1 _ rfl; (with_reducible repeat (first | refine av ?_ _ | refine aC ?_ | refine au ?_ _)); refine bL (cs := #[.int .i64 0, .int .i64 0, .slice none 0 0]) ?_ 0 _ rfl; (with_reducible repeat (first | refine av ?_ _ | refine aC ?_ | refine au ?_ _)); exact BK287.out⟩, ⟨by repeat (first | (with_reducible first | exact HB.out | apply ak | apply ah | apply aj | refine aA ?_ GE284.out | refine aA ?_ GE287.out) | exact HB.out)⟩⟩
        case rest =>
         clear HC14
         try clear c1
         try clear c2
         try clear p2
         try clear q2
         try clear hx2
         try clear c3
         try clear c3b0
         try clear c3b1
         try clear c4
         try clear c4b0
         try clear c4b1
         try clear c4b2
         try clear c7
         try clear c7b0
         try clear c7b1
         try clear c9
         try clear c11
         try clear c12
         try clear c12b0
         try clear c13
         try clear c13b0
         try clear c17
         try clear c20
         try clear c22
         try clear c24
         try clear hcz11_0
         try clear hcz11_1
         try clear hcz15_0
         try clear hcz15_1
         try clear hcz18_0
         try clear hcz18_1
         try clear hcz18_2
         try clear hcz23_0
         try clear hcz23_1
         try clear hcz23_2
         try clear hcz25_0
         try clear hcz25_1
         try clear hcz25_2
         try clear hcz6_0
         try clear hcz6_1
         try clear hcz9_0
         try clear hcz9_1
         try clear hfz11_0
         try clear hfz11_1
         try clear hfz15_0
         try clear hfz15_1
         try clear hfz18_0
         try clear hfz18_1
         try clear hfz18_2
         try clear hfz23_0
         try clear hfz23_1
         try clear hfz23_2
         try clear hfz25_0
         try clear hfz25_1
         try clear hfz25_2
         try clear hfz6_0
         try clear hfz6_1
         try clear hfz9_0
         try clear hfz9_1
         try clear hx286_0
         try clear hx286_1
         try clear hx286_2
         try clear p2
         try clear p286
         try clear q286
         obtain ⟨kq, x42_13, rfl, HA, HJ13, BK284, BK287, HB⟩ := hcut
         cases kq with
         | zero => exact absurd HA.out (by simp [downtiltref02_BuffersErr.j1])
         | succ kj13 =>
          have H := HA.out
          clear HA
          simp only [downtiltref02_BuffersErr.j1] at H
          by_cases c26 : x42_13 = true
          ·
           subst c26
           have H1 : (some 2) = some r := by rw [if_pos rfl] at H; exact H
           clear H
           have H := H1
           clear H1
           obtain rfl := Option.some.inj H
           go_wp2
           go_ret
           exact ⟨by first | rfl | (simp [aX, aY] <;> rfl) | (simp [*, aX, aY] <;> rfl), by repeat (first | (with_reducible first | exact HB.out | apply ak | apply ah | apply aj | refine aA ?_ GE284.out | refine aA ?_ GE287.out) | exact HB.out)⟩
          ·
           replace c26 := Bool.eq_false_iff.mpr c26
           subst c26
           have H1 : (if ((((rd_T42 l0_1 x4_1).f0) == (-1)) != (((rd_T42 l0_1 x4_1).f1) == 0)) = true then (some 22) else (if (((rd_T42 l0_1 x4_1).f2).length : Int) = a0_0 then ((downtiltref02_SumsErr.f kj13 ((rd_T42 l0_1 x4_1).f2)).bind fun t290 => (if t290 = 0 then (if ((rd_T42 l0_1 x4_1).f1) = 0 then (if 0 ≤ a0_0 then (if (a0_0 : Int).toNat ≤ 35184372088832 then ((downtiltbase_Ints.f kj13 ((rd_T42 l0_1 x4_1).f2) (List.replicate (a0_0 : Int).toNat 0)).bind fun t294 => (if t294 = true then (downtiltref02_BuffersErr.l0 kj13 (wrap64 (x4_1 + 1)) a0_0 l0_1) else (some 22))) else (none)) else (none)) else (downtiltref02_BuffersErr.l0 kj13 (wrap64 (x4_1 + 1)) a0_0 l0_1)) else (some t290))) else (some 10))) = some r := by rw [if_neg (show ¬ (false = true) by decide)] at H; exact H
           clear H
           have H := H1
           clear H1
           by_cases c27 : ((((rd_T42 l0_1 x4_1).f0) == (-1)) != (((rd_T42 l0_1 x4_1).f1) == 0)) = true
           ·
            rw [if_pos c27] at H
            have c27b0 : ((((rd_T42 l0_1 x4_1).f0) == (-1)) != (((rd_T42 l0_1 x4_1).f1) == 0)) = true := c27
            (try (have c27b1 : decide ((((rd_T42 l0_1 x4_1).f0) == (-1)) = (((rd_T42 l0_1 x4_1).f1) == 0)) = false := by simpa using c27))
            (try (have c27b2 : ((((rd_T42 l0_1 x4_1).f0) == (-1)) == (((rd_T42 l0_1 x4_1).f1) == 0)) = false := by simpa using c27))
            (try (have c27b3 : ¬ ((((rd_T42 l0_1 x4_1).f0) == (-1)) = (((rd_T42 l0_1 x4_1).f1) == 0)) := by simpa using c27))
            clear c27
            obtain rfl := Option.some.inj H
            have hnb28 := NB287_284.out
            have hnc28 := NB284_287.out
            have hcz29_0 : wc.cell? ⟨gb287, 0, none⟩ = some (.int .i64 ((rd_T42 l0_1 x4_1).f0)) := (ay BK287.out 0).trans rfl
            have hcz29_1 : wc.cell? ⟨gb287, 1, none⟩ = some (.int .i64 ((rd_T42 l0_1 x4_1).f1)) := (ay BK287.out 1).trans rfl
            have hcz29_2 : wc.cell? ⟨gb287, 2, none⟩ = some (.slice A286_2 ((rd_T42 l0_1 x4_1).f2).length c286_2) := (ay BK287.out 2).trans rfl
            have hfz29_0 := aD BK287.out 0
            have hfz29_1 := aD BK287.out 1
            have hfz29_2 := aD BK287.out 2
            go_wp2
            go_ret
            exact ⟨by first | rfl | (simp [aX, aY] <;> rfl) | (simp [*, aX, aY] <;> rfl), by repeat (first | (with_reducible first | exact HB.out | apply ak | apply ah | apply aj | refine aA ?_ GE284.out | refine aA ?_ GE287.out) | exact HB.out)⟩
           ·
            rw [if_neg c27] at H
            have c27b0 : ((((rd_T42 l0_1 x4_1).f0) == (-1)) != (((rd_T42 l0_1 x4_1).f1) == 0)) = false := by simpa using c27
            (try (have c27b1 : decide ((((rd_T42 l0_1 x4_1).f0) == (-1)) = (((rd_T42 l0_1 x4_1).f1) == 0)) = true := by simpa using c27))
            (try (have c27b2 : ((((rd_T42 l0_1 x4_1).f0) == (-1)) == (((rd_T42 l0_1 x4_1).f1) == 0)) = true := by simpa using c27))
            clear c27
            by_cases c30 : (((rd_T42 l0_1 x4_1).f2).length : Int) = a0_0
            ·
             rw [if_pos c30] at H
             have c30b0 : ((((rd_T42 l0_1 x4_1).f2).length : Int) == a0_0) = true := beq_iff_eq.mpr c30
             have c30b1 : ((((rd_T42 l0_1 x4_1).f2).length : Int) != a0_0) = false := bne_eq_false_iff_eq.mpr c30
             clear c30
             replace H := dF.mp H
             obtain ⟨t290, A310, H⟩ := H
             replace H : (if t290 = 0 then (if ((rd_T42 l0_1 x4_1).f1) = 0 then (if 0 ≤ a0_0 then (if (a0_0 : Int).toNat ≤ 35184372088832 then ((downtiltbase_Ints.f kj13 ((rd_T42 l0_1 x4_1).f2) (List.replicate (a0_0 : Int).toNat 0)).bind fun t294 => (if t294 = true then (downtiltref02_BuffersErr.l0 kj13 (wrap64 (x4_1 + 1)) a0_0 l0_1) else (some 22))) else (none)) else (none)) else (downtiltref02_BuffersErr.l0 kj13 (wrap64 (x4_1 + 1)) a0_0 l0_1)) else (some t290)) = some r := H
             have A31 := dH A310
             clear A310
             by_cases c32 : t290 = 0
             ·
              rw [if_pos c32] at H
              have c32b0 : (t290 == 0) = true := beq_iff_eq.mpr c32
              have c32b1 : (t290 != 0) = false := bne_eq_false_iff_eq.mpr c32
              clear c32
              by_cases c33 : ((rd_T42 l0_1 x4_1).f1) = 0
              ·
               rw [if_pos c33] at H
               have c33b0 : (((rd_T42 l0_1 x4_1).f1) == 0) = true := beq_iff_eq.mpr c33
               (try (have c33b0y0t : (((rd_T42 l0_1 x4_1).f0) == (-1)) = true := by have h_ := c27b0; rw [c33b0] at h_; simpa using h_))
               (try (have c33b0y0f : (((rd_T42 l0_1 x4_1).f0) == (-1)) = false := by have h_ := c27b0; rw [c33b0] at h_; simpa using h_))
               (try (have c33b0y1t : (((rd_T42 l0_1 x4_1).f0) == (-1)) = true := by have h_ := c27b0; rw [c33b0] at h_; simpa using h_))
               (try (have c33b0y1f : (((rd_T42 l0_1 x4_1).f0) == (-1)) = false := by have h_ := c27b0; rw [c33b0] at h_; simpa using h_))
               have c33b1 : (((rd_T42 l0_1 x4_1).f1) != 0) = false := bne_eq_false_iff_eq.mpr c33
               clear c33
               by_cases c34 : 0 ≤ a0_0
               ·
                rw [if_pos c34] at H
                have c34b0 := eq_true c34
                have c34b1 : decide (0 ≤ a0_0) = true := decide_eq_true c34
                clear c34
                by_cases c35 : (a0_0 : Int).toNat ≤ 35184372088832
                ·
                 rw [if_pos c35] at H
                 have c35b0 := eq_true c35
                 have c35b1 : decide ((a0_0 : Int).toNat ≤ 35184372088832) = true := decide_eq_true c35
                 clear c35
                 obtain ⟨y291, hy291⟩ : ∃ y_ : List Int, y_ = (List.replicate (a0_0 : Int).toNat 0) := ⟨_, rfl⟩
                 replace H : ((downtiltbase_Ints.f kj13 ((rd_T42 l0_1 x4_1).f2) y291).bind fun t294 => (if t294 = true then (downtiltref02_BuffersErr.l0 kj13 (wrap64 (x4_1 + 1)) a0_0 l0_1) else (some 22))) = some r := by first | (rw [hy291]; with_reducible exact H) | (have H2_ := (Option.bind_some _ _).symm.trans H; rw [hy291]; with_reducible exact H2_) | (have H2_ := (Option.bind_some _ _).symm.trans H; with_reducible exact H2_) | with_reducible exact H | (rw [hy291]; exact H) | exact H
                 have Ny291 := dH hy291
                 clear hy291
                 replace H := dF.mp H
                 obtain ⟨t294, A360, H⟩ := H
                 replace H : (if t294 = true then (downtiltref02_BuffersErr.l0 kj13 (wrap64 (x4_1 + 1)) a0_0 l0_1) else (some 22)) = some r := H
                 have A36 := dH A360
                 clear A360
                 by_cases c37 : t294 = true
                 ·
                  subst c37
                  have H1 : (downtiltref02_BuffersErr.l0 kj13 (wrap64 (x4_1 + 1)) a0_0 l0_1) = some r := by rw [if_pos rfl] at H; exact H
                  clear H
                  have H := H1
                  clear H1
                  have H' := dH H
                  clear H
                  have hnb38 := NB287_284.out
                  have hnc38 := NB284_287.out
                  have hcz39_0 : wc.cell? ⟨gb287, 0, none⟩ = some (.int .i64 ((rd_T42 l0_1 x4_1).f0)) := (ay BK287.out 0).trans rfl
                  have hcz39_1 : wc.cell? ⟨gb287, 1, none⟩ = some (.int .i64 ((rd_T42 l0_1 x4_1).f1)) := (ay BK287.out 1).trans rfl
                  have hcz39_2 : wc.cell? ⟨gb287, 2, none⟩ = some (.slice A286_2 ((rd_T42 l0_1 x4_1).f2).length c286_2) := (ay BK287.out 2).trans rfl
                  have hfz39_0 := aD BK287.out 0
                  have hfz39_1 := aD BK287.out 1
                  have hfz39_2 := aD BK287.out 2
                  have hcz40_0 : wc.cell? ⟨gb284, 0, none⟩ = some (.int .i64 a0_0) := (ay BK284.out 0).trans rfl
                  have hcz40_1 : wc.cell? ⟨gb284, 1, none⟩ = some (.slice (some ad286) l0_1.length c0_1) := (ay BK284.out 1).trans rfl
                  have hfz40_0 := aD BK284.out 0
                  have hfz40_1 := aD BK284.out 1
                  try go_wp2_with (first | ((with_reducible refine aT (f := 39) rfl ?_); refine bq (some 58) rfl rfl Try.func39 (by kernel_rfl) rfl #[.slice A286_2 ((rd_T42 l0_1 x4_1).f2).length c286_2] rfl (by (try simp only [dh, dn, dw]); first | done | rfl | (simp only [dx, dz]; rfl) | (simp only [gt_iff_lt, dA]; rfl) | (simp [Act.eval]; done) | (simp [Act.eval, *]; done)) ?_; (with_reducible refine (downtiltref02_SumsErr.calls kj13 _ _ ((rd_T42 l0_1 x4_1).f2) t290 _ ?side1 ?side2 A31.out).mono ?_); (case side1 => repeat (first | exact (Kd.bF HR286_2.out HB.out) | (with_reducible refine Kd.bA ?_ _) | (with_reducible refine Kd.bC ?_ _) | (with_reducible refine Kd.bJ ?_))); (case side2 => exact HC286_2.out); rintro e w' ⟨rfl, ⟨nd, rfl⟩⟩; refine ⟨_, rfl, ?_⟩))
                  (try (rw [drewN_self wc]; generalize hq_ : World.drewN wc _ = wc; have n0_ : Aside0 (wc.heap[gb284]? = some (.cells #[.int .i64 a0_0, .slice (some ad286) l0_1.length c0_1] 28 (0, 0))) := ⟨by rw [← hq_]; exact (by (with_reducible repeat (first | refine av ?_ _ | refine aC ?_ | refine au ?_ _)); exact BK284.out)⟩; have n1_ : Aside0 (wc.heap[gb287]? = some (.cells #[.int .i64 ((rd_T42 l0_1 x4_1).f0), .int .i64 ((rd_T42 l0_1 x4_1).f1), .slice A286_2 ((rd_T42 l0_1 x4_1).f2).length c286_2] 42 (0, 0))) := ⟨by rw [← hq_]; exact (by (with_reducible repeat (first | refine av ?_ _ | refine aC ?_ | refine au ?_ _)); exact BK287.out)⟩; have n2_ : Aside0 (Below w.heap.size w wc) := ⟨by rw [← hq_]; exact (by repeat (first | (with_reducible first | exact HB.out | apply ak | apply ah | apply aj | refine aA ?_ GE284.out | refine aA ?_ GE287.out) | exact HB.out))⟩; clear BK284 BK287 HB hq_; have BK284 := n0_; have BK287 := n1_; have HB := n2_; clear n0_ n1_ n2_))
                  have n0_ := dH (aC BK284.out)
                  have n1_ := dH (aC BK287.out)
                  have n2_ := dH (aj HB.out)
                  clear BK284
                  clear BK287
                  clear HB
                  have BK284 := n0_
                  have BK287 := n1_
                  have HB := n2_
                  clear n0_ n1_ n2_
                  refine b_ (n := 12) (S := fun w' => w'.cell? ⟨gb287, 0, none⟩ = some (.int .i64 ((rd_T42 l0_1 x4_1).f0)) ∧ w'.cell? ⟨gb287, 1, none⟩ = some (.int .i64 ((rd_T42 l0_1 x4_1).f1)) ∧ w'.cell? ⟨gb287, 2, none⟩ = some (.slice A286_2 ((rd_T42 l0_1 x4_1).f2).length c286_2) ∧ w'.cell? ⟨gb284, 0, none⟩ = some (.int .i64 a0_0) ∧ w'.cell? ⟨gb284, 1, none⟩ = some (.slice (some ad286) l0_1.length c0_1)) (ds := []) (dG 12 0) (by kernel_rfl) rfl rfl ⟨(ay BK287.out 0).trans rfl, (ay BK287.out 1).trans rfl, (ay BK287.out 2).trans rfl, (ay BK284.out 0).trans rfl, (ay BK284.out 1).trans rfl⟩ (fun hHeld => ?_); refine bZ downtiltref02_BuffersErr.tab21 downtiltref02_BuffersErr.bits21 (fun HT_ HW_ => ?_)
                  generalize wc.drew = w41 at BK284 BK287 HB hHeld ⊢
                  refine aV (i := 0) (N := some 62) (v := ?_) (a' := ?_) (dG 12 1) rfl rfl (aU HT_.out (by kernel_rfl)) (fun _ _ _ h => h) (Or.inl ⟨by rfl, ?_⟩) ?_ ?_
                  rotate_left
                  ·
                   intro w'
                   go_simp
                   with_reducible rfl
                  rotate_left
                  ·
                   simp only [Act.put, cO, cZ, d9, aG, aH]
                   rfl
                  refine bK (i := 1) (N := some 63) (v := ?_) (a' := ?_) (dG 12 3) rfl rfl (bD HT_.out HW_.out (by kernel_rfl)) (fun _ _ _ h => h) (Or.inl ⟨by rfl, ?_⟩) hHeld ?_ ?_
                  rotate_left
                  ·
                   rintro w' ⟨s0, s1, s2, s3, s4⟩
                   go_simp
                   with_reducible rfl
                  rotate_left
                  ·
                   simp only [Act.put, cO, cZ, d9, aG, aH]
                   rfl
                  refine aV (i := 2) (N := some 64) (v := ?_) (a' := ?_) (dG 12 7) rfl rfl (aU HT_.out (by kernel_rfl)) (fun _ _ _ h => h) (Or.inl ⟨by rfl, ?_⟩) ?_ ?_
                  rotate_left
                  ·
                   intro w'
                   go_simp
                   with_reducible rfl
                  rotate_left
                  ·
                   simp only [Act.put, cO, cZ, d9, aG, aH]
                   rfl
                  refine aV (i := 3) (N := some 65) (v := ?_) (a' := ?_) (dG 12 15) rfl rfl (aU HT_.out (by kernel_rfl)) (fun _ _ _ h => h) (Or.inl ⟨by rfl, ?_⟩) ?_ ?_
                  rotate_left
                  ·
                   intro w'
                   go_simp
                   with_reducible rfl
                  rotate_left
                  ·
                   simp only [Act.put, cO, cZ, d9, aG, aH]
                   rfl
                  refine aV (i := 4) (N := some 66) (v := ?_) (a' := ?_) (dG 12 31) rfl rfl (aU HT_.out (by kernel_rfl)) (fun _ _ _ h => h) (Or.inl ⟨by rfl, ?_⟩) ?_ ?_
                  rotate_left
                  ·
                   intro w'
                   go_simp
                   with_reducible rfl
                  rotate_left
                  ·
                   simp only [Act.put, cO, cZ, d9, aG, aH]
                   rfl
                  refine aV (i := 6) (N := some 68) (v := ?_) (a' := ?_) (dG 12 95) rfl rfl (aU HT_.out (by kernel_rfl)) (fun _ _ _ h => h) (Or.inl ⟨by rfl, ?_⟩) ?_ ?_
                  rotate_left
                  ·
                   intro w'
                   go_simp
                   with_reducible rfl
                  rotate_left
                  ·
                   simp only [Act.put, cO, cZ, d9, aG, aH]
                   rfl
                  refine bK (i := 5) (N := some 67) (v := ?_) (a' := ?_) (dG 12 127) rfl rfl (bD HT_.out HW_.out (by kernel_rfl)) (fun _ _ _ h => h) (Or.inl ⟨by rfl, ?_⟩) hHeld ?_ ?_
                  rotate_left
                  ·
                   rintro w' ⟨s0, s1, s2, s3, s4⟩
                   go_simp
                   with_reducible rfl
                  rotate_left
                  ·
                   simp only [Act.put, cO, cZ, d9, aG, aH]
                   rfl
                  refine bK (i := 7) (N := some 69) (v := ?_) (a' := ?_) (dG 12 255) rfl rfl (bD HT_.out HW_.out (by kernel_rfl)) (fun _ _ _ h => h) (Or.inl ⟨by rfl, ?_⟩) hHeld ?_ ?_
                  rotate_left
                  ·
                   rintro w' ⟨s0, s1, s2, s3, s4⟩
                   go_simp
                   with_reducible rfl
                  rotate_left
                  ·
                   simp only [Act.put, cO, cZ, d9, aG, aH]
                   rfl
                  refine bR (i := 8) (N := some 70) (dG 12 511) rfl rfl (bB HT_.out (by kernel_rfl)) (by decide) (fun K hK => ?_)
                  refine Kd.R_make_step (Kd.int .i64) _ 3 (by rfl) (N := 70) rfl 34 _ _ rfl a0_0 rfl rfl Try.underlying34 (.int .i64 0) 8 info3 rfl (by decide) (by omega) 0 (ok := fun _ => True) (okp := fun _ => True) rfl (fun _ hk => hk) trivial (dD (by first | (with_reducible assumption) | assumption)) (Nat.le_trans (Nat.mul_le_mul_right _ (dD (by first | (with_reducible assumption) | assumption) : a0_0.toNat ≤ 35184372088832)) (by omega)) (Below.refl _ _) (Nat.le_refl _) ?_
                  intro v292 w42 ho43 hb hg_ hnew_
                  clear hg_ hnew_
                  (first | rw [← Ny291.out] at ho43 | (simp only [Int.reduceToNat] at ho43; rw [← Ny291.out] at ho43))
                  have n0_ := dH (Kd.bP ho43 (aK (by repeat (first | (with_reducible first | exact HB.out | apply ak | apply ah | apply aj | refine aA ?_ GE284.out | refine aA ?_ GE287.out) | exact HB.out))))
                  have n1_ := dH (aQ (g := gb284) (o := .cells #[.int .i64 a0_0, .slice (some ad286) l0_1.length c0_1] 28 (0, 0)) (by (with_reducible repeat (first | refine av ?_ _ | refine aC ?_ | refine au ?_ _)); exact BK284.out) hb)
                  have n2_ := dH (aQ (g := gb287) (o := .cells #[.int .i64 ((rd_T42 l0_1 x4_1).f0), .int .i64 ((rd_T42 l0_1 x4_1).f1), .slice A286_2 ((rd_T42 l0_1 x4_1).f2).length c286_2] 42 (0, 0)) (by (with_reducible repeat (first | refine av ?_ _ | refine aC ?_ | refine au ?_ _)); exact BK287.out) hb)
                  have n3_ := dH (aM (by repeat (first | (with_reducible first | exact HB.out | apply ak | apply ah | apply aj | refine aA ?_ GE284.out | refine aA ?_ GE287.out) | exact HB.out)) hb)
                  clear BK284
                  clear BK287
                  clear HB
                  have HO293 := n0_
                  have BK284 := n1_
                  have BK287 := n2_
                  have HB := n3_
                  clear n0_ n1_ n2_ n3_
                  clear hb ho43
                  obtain ⟨Ao44, co44, eo44⟩ := Kd.bN HO293.out
                  (first | subst eo44 | (injection eo44 with f1_ f2_ f3_; have f4_ := f1_.symm; have f5_ := f3_.symm; clear f1_ f2_ f3_; subst f4_; subst f5_))
                  refine hK.out _ _ ⟨(ay BK287.out 0).trans rfl, (ay BK287.out 1).trans rfl, (ay BK287.out 2).trans rfl, (ay BK284.out 0).trans rfl, (ay BK284.out 1).trans rfl⟩ (fun hHeld => ?_)
                  clear hK K
                  refine bG (a' := ?_) ?_ ?_
                  rotate_left
                  ·
                   show Act.put _ (some 70) _ = _
                   simp only [Act.put, cO, cZ, d9, aG, aH]
                   rfl
                  refine bR (i := 9) (N := some 71) (dG 12 1023) rfl rfl (bB HT_.out (by kernel_rfl)) (by decide) (fun K hK => ?_)
                  refine bQ Try.func16 (by kernel_rfl) rfl #[.slice A286_2 ((rd_T42 l0_1 x4_1).f2).length c286_2, .slice Ao44 y291.length co44] (by rfl) rfl rfl (by (try simp only [dh, dn, dw]); first | done | rfl | (simp only [dx, dz]; rfl) | (simp only [gt_iff_lt, dA]; rfl) | (simp [Act.eval]; done) | (simp [Act.eval, *]; done)) ?_
                  with_reducible refine (downtiltbase_Ints.calls kj13 _ _ ((rd_T42 l0_1 x4_1).f2) _ _ y291 true _ ?side1 ?side2 ?side3 ?side4 A36.out).mono ?_
                  (case side1 => repeat (first | exact (Kd.bF HR286_2.out HB.out) | (with_reducible refine Kd.bA ?_ _) | (with_reducible refine Kd.bC ?_ _) | (with_reducible refine Kd.bJ ?_)))
                  (case side2 => exact HC286_2.out)
                  (case side3 => repeat (first | exact (Kd.aZ HO293.out).2.2 | (with_reducible refine Kd.bA ?_ _) | (with_reducible refine Kd.bC ?_ _) | (with_reducible refine Kd.bJ ?_)))
                  (case side4 => exact (Kd.aZ HO293.out).2.1)
                  rintro e w' ⟨rfl, ⟨nd, rfl⟩⟩
                  refine ⟨_, rfl, ?_⟩
                  refine hK.out _ _ ⟨(ay BK287.out 0).trans rfl, (ay BK287.out 1).trans rfl, (ay BK287.out 2).trans rfl, (ay BK284.out 0).trans rfl, (ay BK284.out 1).trans rfl⟩ (fun hHeld => ?_)
                  clear hK K
                  refine bG (a' := ?_) ?_ ?_
                  rotate_left
                  ·
                   show Act.put _ (some 71) _ = _
                   simp only [Act.put, cO, cZ, d9, aG, aH]
                   rfl
                  refine aV (i := 10) (N := some 72) (v := ?_) (a' := ?_) (dG 12 2047) rfl rfl (aU HT_.out (by kernel_rfl)) (fun _ _ _ h => h) (Or.inl ⟨by rfl, ?_⟩) ?_ ?_
                  rotate_left
                  ·
                   intro w'
                   go_simp
                   with_reducible rfl
                  rotate_left
                  ·
                   simp only [Act.put, cO, cZ, d9, aG, aH]
                   rfl
                  refine aV (i := 11) (N := some 73) (v := ?_) (a' := ?_) (dG 12 4095) rfl rfl (aU HT_.out (by kernel_rfl)) (fun _ _ _ h => h) (Or.inl ⟨by rfl, ?_⟩) ?_ ?_
                  rotate_left
                  ·
                   intro w'
                   go_simp
                   with_reducible rfl
                  rotate_left
                  ·
                   simp only [Act.put, cO, cZ, d9, aG, aH]
                   rfl
                  refine done_ (cK HT_.out (by kernel_rfl)) ?_
                  try go_wp2
                  go_roundg kj13
                  case measure => have := HK1.out; have := HJ13.out; omega
                  case rel => exact ⟨(wrap64 (x4_1 + 1)), (by first | rfl | (simp; done) | (simp [*]; done)), H', ⟨by have := HK1.out; have := HJ13.out; omega⟩, ⟨by (with_reducible repeat (first | refine av ?_ _ | refine aC ?_ | refine au ?_ _)); exact BK284.out⟩, ⟨by repeat (first | (with_reducible first | exact HB.out | apply ak | apply ah | apply aj | refine aA ?_ GE284.out | refine aA ?_ GE287.out) | exact HB.out)⟩⟩
                 ·
                  replace c37 := Bool.eq_false_iff.mpr c37
                  subst c37
                  have H1 : (some 22) = some r := by rw [if_neg (show ¬ (false = true) by decide)] at H; exact H
                  clear H
                  have H := H1
                  clear H1
                  obtain rfl := Option.some.inj H
                  have hnb45 := NB287_284.out
                  have hnc45 := NB284_287.out
                  have hcz46_0 : wc.cell? ⟨gb287, 0, none⟩ = some (.int .i64 ((rd_T42 l0_1 x4_1).f0)) := (ay BK287.out 0).trans rfl
                  have hcz46_1 : wc.cell? ⟨gb287, 1, none⟩ = some (.int .i64 ((rd_T42 l0_1 x4_1).f1)) := (ay BK287.out 1).trans rfl
                  have hcz46_2 : wc.cell? ⟨gb287, 2, none⟩ = some (.slice A286_2 ((rd_T42 l0_1 x4_1).f2).length c286_2) := (ay BK287.out 2).trans rfl
                  have hfz46_0 := aD BK287.out 0
                  have hfz46_1 := aD BK287.out 1
                  have hfz46_2 := aD BK287.out 2
                  have hcz47_0 : wc.cell? ⟨gb284, 0, none⟩ = some (.int .i64 a0_0) := (ay BK284.out 0).trans rfl
                  have hcz47_1 : wc.cell? ⟨gb284, 1, none⟩ = some (.slice (some ad286) l0_1.length c0_1) := (ay BK284.out 1).trans rfl
                  have hfz47_0 := aD BK284.out 0
                  have hfz47_1 := aD BK284.out 1
                  try go_wp2_with (first | ((with_reducible refine aT (f := 39) rfl ?_); refine bq (some 58) rfl rfl Try.func39 (by kernel_rfl) rfl #[.slice A286_2 ((rd_T42 l0_1 x4_1).f2).length c286_2] rfl (by (try simp only [dh, dn, dw]); first | done | rfl | (simp only [dx, dz]; rfl) | (simp only [gt_iff_lt, dA]; rfl) | (simp [Act.eval]; done) | (simp [Act.eval, *]; done)) ?_; (with_reducible refine (downtiltref02_SumsErr.calls kj13 _ _ ((rd_T42 l0_1 x4_1).f2) t290 _ ?side1 ?side2 A31.out).mono ?_); (case side1 => repeat (first | exact (Kd.bF HR286_2.out HB.out) | (with_reducible refine Kd.bA ?_ _) | (with_reducible refine Kd.bC ?_ _) | (with_reducible refine Kd.bJ ?_))); (case side2 => exact HC286_2.out); rintro e w' ⟨rfl, ⟨nd, rfl⟩⟩; refine ⟨_, rfl, ?_⟩))
                  (try (rw [drewN_self wc]; generalize hq_ : World.drewN wc _ = wc; have n0_ : Aside0 (wc.heap[gb284]? = some (.cells #[.int .i64 a0_0, .slice (some ad286) l0_1.length c0_1] 28 (0, 0))) := ⟨by rw [← hq_]; exact (by (with_reducible repeat (first | refine av ?_ _ | refine aC ?_ | refine au ?_ _)); exact BK284.out)⟩; have n1_ : Aside0 (wc.heap[gb287]? = some (.cells #[.int .i64 ((rd_T42 l0_1 x4_1).f0), .int .i64 ((rd_T42 l0_1 x4_1).f1), .slice A286_2 ((rd_T42 l0_1 x4_1).f2).length c286_2] 42 (0, 0))) := ⟨by rw [← hq_]; exact (by (with_reducible repeat (first | refine av ?_ _ | refine aC ?_ | refine au ?_ _)); exact BK287.out)⟩; have n2_ : Aside0 (Below w.heap.size w wc) := ⟨by rw [← hq_]; exact (by repeat (first | (with_reducible first | exact HB.out | apply ak | apply ah | apply aj | refine aA ?_ GE284.out | refine aA ?_ GE287.out) | exact HB.out))⟩; clear BK284 BK287 HB hq_; have BK284 := n0_; have BK287 := n1_; have HB := n2_; clear n0_ n1_ n2_))
                  have n0_ := dH (aC BK284.out)
                  have n1_ := dH (aC BK287.out)
                  have n2_ := dH (aj HB.out)
                  clear BK284
                  clear BK287
                  clear HB
                  have BK284 := n0_
                  have BK287 := n1_
                  have HB := n2_
                  clear n0_ n1_ n2_
                  refine b_ (n := 12) (S := fun w' => w'.cell? ⟨gb287, 0, none⟩ = some (.int .i64 ((rd_T42 l0_1 x4_1).f0)) ∧ w'.cell? ⟨gb287, 1, none⟩ = some (.int .i64 ((rd_T42 l0_1 x4_1).f1)) ∧ w'.cell? ⟨gb287, 2, none⟩ = some (.slice A286_2 ((rd_T42 l0_1 x4_1).f2).length c286_2) ∧ w'.cell? ⟨gb284, 0, none⟩ = some (.int .i64 a0_0) ∧ w'.cell? ⟨gb284, 1, none⟩ = some (.slice (some ad286) l0_1.length c0_1)) (ds := []) (dG 12 0) (by kernel_rfl) rfl rfl ⟨(ay BK287.out 0).trans rfl, (ay BK287.out 1).trans rfl, (ay BK287.out 2).trans rfl, (ay BK284.out 0).trans rfl, (ay BK284.out 1).trans rfl⟩ (fun hHeld => ?_); refine bZ downtiltref02_BuffersErr.tab21 downtiltref02_BuffersErr.bits21 (fun HT_ HW_ => ?_)
                  generalize wc.drew = w48 at BK284 BK287 HB hHeld ⊢
                  refine aV (i := 0) (N := some 62) (v := ?_) (a' := ?_) (dG 12 1) rfl rfl (aU HT_.out (by kernel_rfl)) (fun _ _ _ h => h) (Or.inl ⟨by rfl, ?_⟩) ?_ ?_
                  rotate_left
                  ·
                   intro w'
                   go_simp
                   with_reducible rfl
                  rotate_left
                  ·
                   simp only [Act.put, cO, cZ, d9, aG, aH]
                   rfl
                  refine bK (i := 1) (N := some 63) (v := ?_) (a' := ?_) (dG 12 3) rfl rfl (bD HT_.out HW_.out (by kernel_rfl)) (fun _ _ _ h => h) (Or.inl ⟨by rfl, ?_⟩) hHeld ?_ ?_
                  rotate_left
                  ·
                   rintro w' ⟨s0, s1, s2, s3, s4⟩
                   go_simp
                   with_reducible rfl
                  rotate_left
                  ·
                   simp only [Act.put, cO, cZ, d9, aG, aH]
                   rfl
                  refine aV (i := 2) (N := some 64) (v := ?_) (a' := ?_) (dG 12 7) rfl rfl (aU HT_.out (by kernel_rfl)) (fun _ _ _ h => h) (Or.inl ⟨by rfl, ?_⟩) ?_ ?_
                  rotate_left
                  ·
                   intro w'
                   go_simp
                   with_reducible rfl
                  rotate_left
                  ·
                   simp only [Act.put, cO, cZ, d9, aG, aH]
                   rfl
                  refine aV (i := 3) (N := some 65) (v := ?_) (a' := ?_) (dG 12 15) rfl rfl (aU HT_.out (by kernel_rfl)) (fun _ _ _ h => h) (Or.inl ⟨by rfl, ?_⟩) ?_ ?_
                  rotate_left
                  ·
                   intro w'
                   go_simp
                   with_reducible rfl
                  rotate_left
                  ·
                   simp only [Act.put, cO, cZ, d9, aG, aH]
                   rfl
                  refine aV (i := 4) (N := some 66) (v := ?_) (a' := ?_) (dG 12 31) rfl rfl (aU HT_.out (by kernel_rfl)) (fun _ _ _ h => h) (Or.inl ⟨by rfl, ?_⟩) ?_ ?_
                  rotate_left
                  ·
                   intro w'
                   go_simp
                   with_reducible rfl
                  rotate_left
                  ·
                   simp only [Act.put, cO, cZ, d9, aG, aH]
                   rfl
                  refine aV (i := 6) (N := some 68) (v := ?_) (a' := ?_) (dG 12 95) rfl rfl (aU HT_.out (by kernel_rfl)) (fun _ _ _ h => h) (Or.inl ⟨by rfl, ?_⟩) ?_ ?_
                  rotate_left
                  ·
                   intro w'
                   go_simp
                   with_reducible rfl
                  rotate_left
                  ·
                   simp only [Act.put, cO, cZ, d9, aG, aH]
                   rfl
                  refine bK (i := 5) (N := some 67) (v := ?_) (a' := ?_) (dG 12 127) rfl rfl (bD HT_.out HW_.out (by kernel_rfl)) (fun _ _ _ h => h) (Or.inl ⟨by rfl, ?_⟩) hHeld ?_ ?_
                  rotate_left
                  ·
                   rintro w' ⟨s0, s1, s2, s3, s4⟩
                   go_simp
                   with_reducible rfl
                  rotate_left
                  ·
                   simp only [Act.put, cO, cZ, d9, aG, aH]
                   rfl
                  refine bK (i := 7) (N := some 69) (v := ?_) (a' := ?_) (dG 12 255) rfl rfl (bD HT_.out HW_.out (by kernel_rfl)) (fun _ _ _ h => h) (Or.inl ⟨by rfl, ?_⟩) hHeld ?_ ?_
                  rotate_left
                  ·
                   rintro w' ⟨s0, s1, s2, s3, s4⟩
                   go_simp
                   with_reducible rfl
                  rotate_left
                  ·
                   simp only [Act.put, cO, cZ, d9, aG, aH]
                   rfl
                  refine bR (i := 8) (N := some 70) (dG 12 511) rfl rfl (bB HT_.out (by kernel_rfl)) (by decide) (fun K hK => ?_)
                  refine Kd.R_make_step (Kd.int .i64) _ 3 (by rfl) (N := 70) rfl 34 _ _ rfl a0_0 rfl rfl Try.underlying34 (.int .i64 0) 8 info3 rfl (by decide) (by omega) 0 (ok := fun _ => True) (okp := fun _ => True) rfl (fun _ hk => hk) trivial (dD (by first | (with_reducible assumption) | assumption)) (Nat.le_trans (Nat.mul_le_mul_right _ (dD (by first | (with_reducible assumption) | assumption) : a0_0.toNat ≤ 35184372088832)) (by omega)) (Below.refl _ _) (Nat.le_refl _) ?_
                  intro v292 w49 ho50 hb hg_ hnew_
                  clear hg_ hnew_
                  (first | rw [← Ny291.out] at ho50 | (simp only [Int.reduceToNat] at ho50; rw [← Ny291.out] at ho50))
                  have n0_ := dH (Kd.bP ho50 (aK (by repeat (first | (with_reducible first | exact HB.out | apply ak | apply ah | apply aj | refine aA ?_ GE284.out | refine aA ?_ GE287.out) | exact HB.out))))
                  have n1_ := dH (aQ (g := gb284) (o := .cells #[.int .i64 a0_0, .slice (some ad286) l0_1.length c0_1] 28 (0, 0)) (by (with_reducible repeat (first | refine av ?_ _ | refine aC ?_ | refine au ?_ _)); exact BK284.out) hb)
                  have n2_ := dH (aQ (g := gb287) (o := .cells #[.int .i64 ((rd_T42 l0_1 x4_1).f0), .int .i64 ((rd_T42 l0_1 x4_1).f1), .slice A286_2 ((rd_T42 l0_1 x4_1).f2).length c286_2] 42 (0, 0)) (by (with_reducible repeat (first | refine av ?_ _ | refine aC ?_ | refine au ?_ _)); exact BK287.out) hb)
                  have n3_ := dH (aM (by repeat (first | (with_reducible first | exact HB.out | apply ak | apply ah | apply aj | refine aA ?_ GE284.out | refine aA ?_ GE287.out) | exact HB.out)) hb)
                  clear BK284
                  clear BK287
                  clear HB
                  have HO293 := n0_
                  have BK284 := n1_
                  have BK287 := n2_
                  have HB := n3_
                  clear n0_ n1_ n2_ n3_
                  clear hb ho50
                  obtain ⟨Ao51, co51, eo51⟩ := Kd.bN HO293.out
                  (first | subst eo51 | (injection eo51 with f1_ f2_ f3_; have f4_ := f1_.symm; have f5_ := f3_.symm; clear f1_ f2_ f3_; subst f4_; subst f5_))
                  refine hK.out _ _ ⟨(ay BK287.out 0).trans rfl, (ay BK287.out 1).trans rfl, (ay BK287.out 2).trans rfl, (ay BK284.out 0).trans rfl, (ay BK284.out 1).trans rfl⟩ (fun hHeld => ?_)
                  clear hK K
                  refine bG (a' := ?_) ?_ ?_
                  rotate_left
                  ·
                   show Act.put _ (some 70) _ = _
                   simp only [Act.put, cO, cZ, d9, aG, aH]
                   rfl
                  refine bR (i := 9) (N := some 71) (dG 12 1023) rfl rfl (bB HT_.out (by kernel_rfl)) (by decide) (fun K hK => ?_)
                  refine bQ Try.func16 (by kernel_rfl) rfl #[.slice A286_2 ((rd_T42 l0_1 x4_1).f2).length c286_2, .slice Ao51 y291.length co51] (by rfl) rfl rfl (by (try simp only [dh, dn, dw]); first | done | rfl | (simp only [dx, dz]; rfl) | (simp only [gt_iff_lt, dA]; rfl) | (simp [Act.eval]; done) | (simp [Act.eval, *]; done)) ?_
                  with_reducible refine (downtiltbase_Ints.calls kj13 _ _ ((rd_T42 l0_1 x4_1).f2) _ _ y291 false _ ?side1 ?side2 ?side3 ?side4 A36.out).mono ?_
                  (case side1 => repeat (first | exact (Kd.bF HR286_2.out HB.out) | (with_reducible refine Kd.bA ?_ _) | (with_reducible refine Kd.bC ?_ _) | (with_reducible refine Kd.bJ ?_)))
                  (case side2 => exact HC286_2.out)
                  (case side3 => repeat (first | exact (Kd.aZ HO293.out).2.2 | (with_reducible refine Kd.bA ?_ _) | (with_reducible refine Kd.bC ?_ _) | (with_reducible refine Kd.bJ ?_)))
                  (case side4 => exact (Kd.aZ HO293.out).2.1)
                  rintro e w' ⟨rfl, ⟨nd, rfl⟩⟩
                  refine ⟨_, rfl, ?_⟩
                  refine hK.out _ _ ⟨(ay BK287.out 0).trans rfl, (ay BK287.out 1).trans rfl, (ay BK287.out 2).trans rfl, (ay BK284.out 0).trans rfl, (ay BK284.out 1).trans rfl⟩ (fun hHeld => ?_)
                  clear hK K
                  refine bG (a' := ?_) ?_ ?_
                  rotate_left
                  ·
                   show Act.put _ (some 71) _ = _
                   simp only [Act.put, cO, cZ, d9, aG, aH]
                   rfl
                  refine aV (i := 10) (N := some 72) (v := ?_) (a' := ?_) (dG 12 2047) rfl rfl (aU HT_.out (by kernel_rfl)) (fun _ _ _ h => h) (Or.inl ⟨by rfl, ?_⟩) ?_ ?_
                  rotate_left
                  ·
                   intro w'
                   go_simp
                   with_reducible rfl
                  rotate_left
                  ·
                   simp only [Act.put, cO, cZ, d9, aG, aH]
                   rfl
                  refine aV (i := 11) (N := some 73) (v := ?_) (a' := ?_) (dG 12 4095) rfl rfl (aU HT_.out (by kernel_rfl)) (fun _ _ _ h => h) (Or.inl ⟨by rfl, ?_⟩) ?_ ?_
                  rotate_left
                  ·
                   intro w'
                   go_simp
                   with_reducible rfl
                  rotate_left
                  ·
                   simp only [Act.put, cO, cZ, d9, aG, aH]
                   rfl
                  refine done_ (cK HT_.out (by kernel_rfl)) ?_
                  try go_wp2
                  go_ret
                  exact ⟨by first | rfl | (simp [aX, aY] <;> rfl) | (simp [*, aX, aY] <;> rfl), by repeat (first | (with_reducible first | exact HB.out | apply ak | apply ah | apply aj | refine aA ?_ GE284.out | refine aA ?_ GE287.out) | exact HB.out)⟩
                ·
                 rw [if_neg c35] at H
                 exact absurd H (by simp)
               ·
                rw [if_neg c34] at H
                exact absurd H (by simp)
              ·
               rw [if_neg c33] at H
               have c33b0 : (((rd_T42 l0_1 x4_1).f1) == 0) = false := beq_eq_false_iff_ne.mpr c33
               (try (have c33b0y0t : (((rd_T42 l0_1 x4_1).f0) == (-1)) = true := by have h_ := c27b0; rw [c33b0] at h_; simpa using h_))
               (try (have c33b0y0f : (((rd_T42 l0_1 x4_1).f0) == (-1)) = false := by have h_ := c27b0; rw [c33b0] at h_; simpa using h_))
               (try (have c33b0y1t : (((rd_T42 l0_1 x4_1).f0) == (-1)) = true := by have h_ := c27b0; rw [c33b0] at h_; simpa using h_))
               (try (have c33b0y1f : (((rd_T42 l0_1 x4_1).f0) == (-1)) = false := by have h_ := c27b0; rw [c33b0] at h_; simpa using h_))
               have c33b1 : (((rd_T42 l0_1 x4_1).f1) != 0) = true := bne_iff_ne.mpr c33
               have H' := dH H
               clear H
               have hnb52 := NB287_284.out
               have hnc52 := NB284_287.out
               have hcz53_0 : wc.cell? ⟨gb287, 0, none⟩ = some (.int .i64 ((rd_T42 l0_1 x4_1).f0)) := (ay BK287.out 0).trans rfl
               have hcz53_1 : wc.cell? ⟨gb287, 1, none⟩ = some (.int .i64 ((rd_T42 l0_1 x4_1).f1)) := (ay BK287.out 1).trans rfl
               have hcz53_2 : wc.cell? ⟨gb287, 2, none⟩ = some (.slice A286_2 ((rd_T42 l0_1 x4_1).f2).length c286_2) := (ay BK287.out 2).trans rfl
               have hfz53_0 := aD BK287.out 0
               have hfz53_1 := aD BK287.out 1
               have hfz53_2 := aD BK287.out 2
               have hcz54_0 : wc.cell? ⟨gb284, 0, none⟩ = some (.int .i64 a0_0) := (ay BK284.out 0).trans rfl
               have hcz54_1 : wc.cell? ⟨gb284, 1, none⟩ = some (.slice (some ad286) l0_1.length c0_1) := (ay BK284.out 1).trans rfl
               have hfz54_0 := aD BK284.out 0
               have hfz54_1 := aD BK284.out 1
               try go_wp2_with (first | ((with_reducible refine aT (f := 39) rfl ?_); refine bq (some 58) rfl rfl Try.func39 (by kernel_rfl) rfl #[.slice A286_2 ((rd_T42 l0_1 x4_1).f2).length c286_2] rfl (by (try simp only [dh, dn, dw]); first | done | rfl | (simp only [dx, dz]; rfl) | (simp only [gt_iff_lt, dA]; rfl) | (simp [Act.eval]; done) | (simp [Act.eval, *]; done)) ?_; (with_reducible refine (downtiltref02_SumsErr.calls kj13 _ _ ((rd_T42 l0_1 x4_1).f2) t290 _ ?side1 ?side2 A31.out).mono ?_); (case side1 => repeat (first | exact (Kd.bF HR286_2.out HB.out) | (with_reducible refine Kd.bA ?_ _) | (with_reducible refine Kd.bC ?_ _) | (with_reducible refine Kd.bJ ?_))); (case side2 => exact HC286_2.out); rintro e w' ⟨rfl, ⟨nd, rfl⟩⟩; refine ⟨_, rfl, ?_⟩))
               (try (rw [drewN_self wc]; generalize hq_ : World.drewN wc _ = wc; have n0_ : Aside0 (wc.heap[gb284]? = some (.cells #[.int .i64 a0_0, .slice (some ad286) l0_1.length c0_1] 28 (0, 0))) := ⟨by rw [← hq_]; exact (by (with_reducible repeat (first | refine av ?_ _ | refine aC ?_ | refine au ?_ _)); exact BK284.out)⟩; have n1_ : Aside0 (wc.heap[gb287]? = some (.cells #[.int .i64 ((rd_T42 l0_1 x4_1).f0), .int .i64 ((rd_T42 l0_1 x4_1).f1), .slice A286_2 ((rd_T42 l0_1 x4_1).f2).length c286_2] 42 (0, 0))) := ⟨by rw [← hq_]; exact (by (with_reducible repeat (first | refine av ?_ _ | refine aC ?_ | refine au ?_ _)); exact BK287.out)⟩; have n2_ : Aside0 (Below w.heap.size w wc) := ⟨by rw [← hq_]; exact (by repeat (first | (with_reducible first | exact HB.out | apply ak | apply ah | apply aj | refine aA ?_ GE284.out | refine aA ?_ GE287.out) | exact HB.out))⟩; clear BK284 BK287 HB hq_; have BK284 := n0_; have BK287 := n1_; have HB := n2_; clear n0_ n1_ n2_))
               have n0_ := dH (aC BK284.out)
               have n1_ := dH (aC BK287.out)
               have n2_ := dH (aj HB.out)
               clear BK284
               clear BK287
               clear HB
               have BK284 := n0_
               have BK287 := n1_
               have HB := n2_
               clear n0_ n1_ n2_
               refine b_ (n := 12) (S := fun w' => w'.cell? ⟨gb287, 0, none⟩ = some (.int .i64 ((rd_T42 l0_1 x4_1).f0)) ∧ w'.cell? ⟨gb287, 1, none⟩ = some (.int .i64 ((rd_T42 l0_1 x4_1).f1)) ∧ w'.cell? ⟨gb287, 2, none⟩ = some (.slice A286_2 ((rd_T42 l0_1 x4_1).f2).length c286_2)) (ds := []) (dG 12 0) (by kernel_rfl) rfl rfl ⟨(ay BK287.out 0).trans rfl, (ay BK287.out 1).trans rfl, (ay BK287.out 2).trans rfl⟩ (fun hHeld => ?_); refine bZ downtiltref02_BuffersErr.tab21 downtiltref02_BuffersErr.bits21 (fun HT_ HW_ => ?_)
               generalize wc.drew = w55 at BK284 BK287 HB hHeld ⊢
               refine aV (i := 0) (N := some 62) (v := ?_) (a' := ?_) (dG 12 1) rfl rfl (aU HT_.out (by kernel_rfl)) (fun _ _ _ h => h) (Or.inl ⟨by rfl, ?_⟩) ?_ ?_
               rotate_left
               ·
                intro w'
                go_simp
                with_reducible rfl
               rotate_left
               ·
                simp only [Act.put, cO, cZ, d9, aG, aH]
                rfl
               refine bK (i := 1) (N := some 63) (v := ?_) (a' := ?_) (dG 12 3) rfl rfl (bD HT_.out HW_.out (by kernel_rfl)) (fun _ _ _ h => h) (Or.inl ⟨by rfl, ?_⟩) hHeld ?_ ?_
               rotate_left
               ·
                rintro w' ⟨s0, s1, s2⟩
                go_simp
                with_reducible rfl
               rotate_left
               ·
                simp only [Act.put, cO, cZ, d9, aG, aH]
                rfl
               refine aV (i := 2) (N := some 64) (v := ?_) (a' := ?_) (dG 12 7) rfl rfl (aU HT_.out (by kernel_rfl)) (fun _ _ _ h => h) (Or.inl ⟨by rfl, ?_⟩) ?_ ?_
               rotate_left
               ·
                intro w'
                go_simp
                with_reducible rfl
               rotate_left
               ·
                simp only [Act.put, cO, cZ, d9, aG, aH]
                rfl
               refine aV (i := 3) (N := some 65) (v := ?_) (a' := ?_) (dG 12 15) rfl rfl (aU HT_.out (by kernel_rfl)) (fun _ _ _ h => h) (Or.inl ⟨by rfl, ?_⟩) ?_ ?_
               rotate_left
               ·
                intro w'
                go_simp
                with_reducible rfl
               rotate_left
               ·
                simp only [Act.put, cO, cZ, d9, aG, aH]
                rfl
               refine aV (i := 4) (N := some 66) (v := undef) (a' := ?_) (dG 12 31) rfl rfl (aU HT_.out (by kernel_rfl)) (fun _ _ _ h => h) (Or.inr ⟨by rfl, rfl⟩) ?_ ?_
               rotate_left
               ·
                simp only [Act.put, cO, cZ, d9, aG, aH]
                rfl
               refine aV (i := 5) (N := some 67) (v := undef) (a' := ?_) (dG 12 63) rfl rfl (aU HT_.out (by kernel_rfl)) (fun _ _ _ h => h) (Or.inr ⟨by rfl, rfl⟩) ?_ ?_
               rotate_left
               ·
                simp only [Act.put, cO, cZ, d9, aG, aH]
                rfl
               refine aV (i := 6) (N := some 68) (v := undef) (a' := ?_) (dG 12 127) rfl rfl (aU HT_.out (by kernel_rfl)) (fun _ _ _ h => h) (Or.inr ⟨by rfl, rfl⟩) ?_ ?_
               rotate_left
               ·
                simp only [Act.put, cO, cZ, d9, aG, aH]
                rfl
               refine aV (i := 7) (N := some 69) (v := undef) (a' := ?_) (dG 12 255) rfl rfl (aU HT_.out (by kernel_rfl)) (fun _ _ _ h => h) (Or.inr ⟨by rfl, rfl⟩) ?_ ?_
               rotate_left
               ·
                simp only [Act.put, cO, cZ, d9, aG, aH]
                rfl
               refine aV (i := 8) (N := some 70) (v := undef) (a' := ?_) (dG 12 511) rfl rfl (aU HT_.out (by kernel_rfl)) (fun _ _ _ h => h) (Or.inr ⟨by rfl, rfl⟩) ?_ ?_
               rotate_left
               ·
                simp only [Act.put, cO, cZ, d9, aG, aH]
                rfl
               refine aV (i := 9) (N := some 71) (v := undef) (a' := ?_) (dG 12 1023) rfl rfl (aU HT_.out (by kernel_rfl)) (fun _ _ _ h => h) (Or.inr ⟨by rfl, rfl⟩) ?_ ?_
               rotate_left
               ·
                simp only [Act.put, cO, cZ, d9, aG, aH]
                rfl
               refine aV (i := 10) (N := some 72) (v := undef) (a' := ?_) (dG 12 2047) rfl rfl (aU HT_.out (by kernel_rfl)) (fun _ _ _ h => h) (Or.inr ⟨by rfl, rfl⟩) ?_ ?_
               rotate_left
               ·
                simp only [Act.put, cO, cZ, d9, aG, aH]
                rfl
               refine aV (i := 11) (N := some 73) (v := ?_) (a' := ?_) (dG 12 4095) rfl rfl (aU HT_.out (by kernel_rfl)) (fun _ _ _ h => h) (Or.inl ⟨by rfl, ?_⟩) ?_ ?_
               rotate_left
               ·
                intro w'
                go_simp
                with_reducible rfl
               rotate_left
               ·
                simp only [Act.put, cO, cZ, d9, aG, aH]
                rfl
               refine done_ (cK HT_.out (by kernel_rfl)) ?_
               try go_wp2
               go_roundg kj13
               case measure => have := HK1.out; have := HJ13.out; omega
               case rel => exact ⟨(wrap64 (x4_1 + 1)), (by first | rfl | (simp; done) | (simp [*]; done)), H', ⟨by have := HK1.out; have := HJ13.out; omega⟩, ⟨by (with_reducible repeat (first | refine av ?_ _ | refine aC ?_ | refine au ?_ _)); exact BK284.out⟩, ⟨by repeat (first | (with_reducible first | exact HB.out | apply ak | apply ah | apply aj | refine aA ?_ GE284.out | refine aA ?_ GE287.out) | exact HB.out)⟩⟩
             ·
              rw [if_neg c32] at H
              have c32b0 : (t290 == 0) = false := beq_eq_false_iff_ne.mpr c32
              have c32b1 : (t290 != 0) = true := bne_iff_ne.mpr c32
              obtain rfl := Option.some.inj H
              have hnb56 := NB287_284.out
              have hnc56 := NB284_287.out
              have hcz57_0 : wc.cell? ⟨gb287, 0, none⟩ = some (.int .i64 ((rd_T42 l0_1 x4_1).f0)) := (ay BK287.out 0).trans rfl
              have hcz57_1 : wc.cell? ⟨gb287, 1, none⟩ = some (.int .i64 ((rd_T42 l0_1 x4_1).f1)) := (ay BK287.out 1).trans rfl
              have hcz57_2 : wc.cell? ⟨gb287, 2, none⟩ = some (.slice A286_2 ((rd_T42 l0_1 x4_1).f2).length c286_2) := (ay BK287.out 2).trans rfl
              have hfz57_0 := aD BK287.out 0
              have hfz57_1 := aD BK287.out 1
              have hfz57_2 := aD BK287.out 2
              have hcz58_0 : wc.cell? ⟨gb284, 0, none⟩ = some (.int .i64 a0_0) := (ay BK284.out 0).trans rfl
              have hcz58_1 : wc.cell? ⟨gb284, 1, none⟩ = some (.slice (some ad286) l0_1.length c0_1) := (ay BK284.out 1).trans rfl
              have hfz58_0 := aD BK284.out 0
              have hfz58_1 := aD BK284.out 1
              go_wp2_with (first | ((with_reducible refine aT (f := 39) rfl ?_); refine bq (some 58) rfl rfl Try.func39 (by kernel_rfl) rfl #[.slice A286_2 ((rd_T42 l0_1 x4_1).f2).length c286_2] rfl (by (try simp only [dh, dn, dw]); first | done | rfl | (simp only [dx, dz]; rfl) | (simp only [gt_iff_lt, dA]; rfl) | (simp [Act.eval]; done) | (simp [Act.eval, *]; done)) ?_; (with_reducible refine (downtiltref02_SumsErr.calls kj13 _ _ ((rd_T42 l0_1 x4_1).f2) t290 _ ?side1 ?side2 A31.out).mono ?_); (case side1 => repeat (first | exact (Kd.bF HR286_2.out HB.out) | (with_reducible refine Kd.bA ?_ _) | (with_reducible refine Kd.bC ?_ _) | (with_reducible refine Kd.bJ ?_))); (case side2 => exact HC286_2.out); rintro e w' ⟨rfl, ⟨nd, rfl⟩⟩; refine ⟨_, rfl, ?_⟩))
              go_ret
              exact ⟨by first | rfl | (simp [aX, aY] <;> rfl) | (simp [*, aX, aY] <;> rfl), by repeat (first | (with_reducible first | exact HB.out | apply ak | apply ah | apply aj | refine aA ?_ GE284.out | refine aA ?_ GE287.out) | exact HB.out)⟩
            ·
             rw [if_neg c30] at H
             have c30b0 : ((((rd_T42 l0_1 x4_1).f2).length : Int) == a0_0) = false := beq_eq_false_iff_ne.mpr c30
             have c30b1 : ((((rd_T42 l0_1 x4_1).f2).length : Int) != a0_0) = true := bne_iff_ne.mpr c30
             obtain rfl := Option.some.inj H
             have hnb59 := NB287_284.out
             have hnc59 := NB284_287.out
             have hcz60_0 : wc.cell? ⟨gb287, 0, none⟩ = some (.int .i64 ((rd_T42 l0_1 x4_1).f0)) := (ay BK287.out 0).trans rfl
             have hcz60_1 : wc.cell? ⟨gb287, 1, none⟩ = some (.int .i64 ((rd_T42 l0_1 x4_1).f1)) := (ay BK287.out 1).trans rfl
             have hcz60_2 : wc.cell? ⟨gb287, 2, none⟩ = some (.slice A286_2 ((rd_T42 l0_1 x4_1).f2).length c286_2) := (ay BK287.out 2).trans rfl
             have hfz60_0 := aD BK287.out 0
             have hfz60_1 := aD BK287.out 1
             have hfz60_2 := aD BK287.out 2
             have hcz61_0 : wc.cell? ⟨gb284, 0, none⟩ = some (.int .i64 a0_0) := (ay BK284.out 0).trans rfl
             have hcz61_1 : wc.cell? ⟨gb284, 1, none⟩ = some (.slice (some ad286) l0_1.length c0_1) := (ay BK284.out 1).trans rfl
             have hfz61_0 := aD BK284.out 0
             have hfz61_1 := aD BK284.out 1
             go_wp2
             go_ret
             exact ⟨by first | rfl | (simp [aX, aY] <;> rfl) | (simp [*, aX, aY] <;> rfl), by repeat (first | (with_reducible first | exact HB.out | apply ak | apply ah | apply aj | refine aA ?_ GE284.out | refine aA ?_ GE287.out) | exact HB.out)⟩
       ·
        rw [if_neg c13] at H
        exact absurd H (by simp)
      ·
       rw [if_neg c12] at H
       have c12b0 : decide (x4_1 < (l0_1.length : Int)) = false := decide_eq_false c12
       clear c12
       obtain rfl := Option.some.inj H
       have hcz62_0 : wr.cell? ⟨gb284, 0, none⟩ = some (.int .i64 a0_0) := (ay BK284.out 0).trans rfl
       have hcz62_1 : wr.cell? ⟨gb284, 1, none⟩ = some (.slice A0_1 l0_1.length c0_1) := (ay BK284.out 1).trans rfl
       have hfz62_0 := aD BK284.out 0
       have hfz62_1 := aD BK284.out 1
       go_wp2
       go_ret
       exact ⟨by first | rfl | (simp [aX, aY] <;> rfl) | (simp [*, aX, aY] <;> rfl), by repeat (first | (with_reducible first | exact HB.out | apply ak | apply ah | apply aj | refine aA ?_ GE284.out) | exact HB.out)⟩
 ·
  rw [if_neg c3] at H
  have c3b0 : (t285 == 0) = false := beq_eq_false_iff_ne.mpr c3
  have c3b1 : (t285 != 0) = true := bne_iff_ne.mpr c3
  obtain rfl := Option.some.inj H
  go_enter Try.func11, Try.ntmps11
  go_wp2_with (first | ((with_reducible refine bg (N := 1) rfl ?_); (try (refine gate_guard (by rfl) ?_; dsimp only)); refine bI ?hg (N := 1) ?hd (cs := #[.int .i64 a0_0, .slice A0_1 l0_1.length c0_1]) (t := 28) ?hr ?_; (case hd => rfl); (case hg => rfl); (case hr => first | (go_simp; done) | (go_simp; rfl)); intro gb284 hg w63 hbox hb; have n0_ := dH (aM (by repeat (first | (with_reducible first | exact HB.out | apply ak | apply ah | apply aj) | exact HB.out)) hb); have n1_ := dH (hbox); have n2_ := dH ((by rw [hg]; exact (aK (by repeat (first | (with_reducible first | exact HB.out | apply ak | apply ah | apply aj) | exact HB.out))) : w.heap.size ≤ gb284)); have n3_ := dH ((by rw [hg]; exact (aK (by repeat (first | (with_reducible first | exact HB.out | apply ak | apply ah | apply aj) | exact HB.out))) : w.heap.size ≤ gb284)); clear HB; have HB := n0_; have BK284 := n1_; have GW284 := n2_; have GE284 := n3_; clear n0_ n1_ n2_ n3_; clear hb hbox hg; have hcz64_0 : w63.cell? ⟨gb284, 0, none⟩ = some (.int .i64 a0_0) := (ay BK284.out 0).trans rfl; have hcz64_1 : w63.cell? ⟨gb284, 1, none⟩ = some (.slice A0_1 l0_1.length c0_1) := (ay BK284.out 1).trans rfl; have hfz64_0 := aD BK284.out 0; have hfz64_1 := aD BK284.out 1) | ((with_reducible refine aT (f := 70) rfl ?_); refine bq (some 9) rfl rfl Try.func70 (by kernel_rfl) rfl #[.int .i64 a0_0] rfl (by (try simp only [dh, dn, dw]); first | done | rfl | (simp only [dx, dz]; rfl) | (simp only [gt_iff_lt, dA]; rfl) | (simp [Act.eval]; done) | (simp [Act.eval, *]; done)) ?_; (with_reducible refine (downtiltref02_LengthErr.calls a0_0 t285 _ A2.out).mono ?_); rintro e w' ⟨rfl, ⟨nd, rfl⟩⟩; refine ⟨_, rfl, ?_⟩))
  go_ret
  exact ⟨by first | rfl | (simp [aX, aY] <;> rfl) | (simp [*, aX, aY] <;> rfl), by repeat (first | (with_reducible first | exact HB.out | apply ak | apply ah | apply aj | refine aA ?_ GE284.out) | exact HB.out)⟩
end Go.Proofs.Ytbjiookpiminmaa.PCode
end
