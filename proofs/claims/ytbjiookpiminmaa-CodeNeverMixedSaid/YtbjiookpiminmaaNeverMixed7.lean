/- Words and contracts for the claim's theorem, part 7 (joined by program out of the texts of this claim's proof; what it does not use is struck). -/
import Derived.Test.YtbjiookpiminmaaNeverMixed6
import Derived.Handy
set_option linter.unusedVariables false
set_option linter.unusedSimpArgs false
set_option linter.unusedSectionVars false
set_option maxHeartbeats 8000000
set_option maxRecDepth 1000000
section
namespace Go.Proofs.Ytbjiookpiminmaa.PCode
open Go.RowKit Go.Proofs.YtbjiookpiminmaaW.PrintWords Go.Proofs.YtbjiookpiminmaaW.PrintLast Go.Proofs.YtbjiookpiminmaaW.PrintMore
attribute [local go_sem] max2_int min2_int max_two min_two max_three min_three max_four min_four   -- for this text's walks alone
def code_Remainder.f (k : Nat) (a0_0 : Int) (a0_1 : Int) (l1 : List Int) : Option (List Int × Int) := (code_CheckPoly.f k a0_0 a0_1).bind fun t133 => ((code_bitsErr.f l1).bind fun t134 => ((code_first.f k (([t133, t134] : List Int))).bind fun t138 => (if t138 = 0 then ((code_remainder.f k a0_0 a0_1 l1).bind fun t139 => (some (t139, 0))) else (some (([] : List Int), t138)))))
theorem code_Remainder.calls (k : Nat) (a0_0 : Int) (a0_1 : Int) (A1 : Option Addr) (c1 : Nat) (l1 : List Int) (r1 : List Int) (r2 : Int) (w : World) (hr1 : Kd.C (Kd.int .i64) w A1 l1.length l1) (hc1 : l1.length ≤ c1) (h : code_Remainder.f k a0_0 a0_1 l1 = some (r1, r2)) :
  Calls Try.prog 62 #[.agg #[.int .i64 a0_0, .int .i64 a0_1], .slice A1 l1.length c1] w fun e w' => ∃ v0_ : Value, e = .returned (.tuple #[v0_, .int .i64 r2]) ∧ Kd.R (Kd.int .i64) 3 w' w.heap.size (fun _ => True) v0_ r1 ∧ Below w.heap.size w w' := by
 have hu68 := Try.underlying68
 have HR1 := dH hr1
 have HC1 := dH hc1
 clear hr1 hc1
 have HB := dH (Below.refl w.heap.size w)
 have H : ((code_CheckPoly.f k a0_0 a0_1).bind fun t133 => ((code_bitsErr.f l1).bind fun t134 => ((code_first.f k (([t133, t134] : List Int))).bind fun t138 => (if t138 = 0 then ((code_remainder.f k a0_0 a0_1 l1).bind fun t139 => (some (t139, 0))) else (some (([] : List Int), t138)))))) = some (r1, r2) := h
 clear h
 replace H := dF.mp H
 obtain ⟨t133, A30, H⟩ := H
 replace H : ((code_bitsErr.f l1).bind fun t134 => ((code_first.f k (([t133, t134] : List Int))).bind fun t138 => (if t138 = 0 then ((code_remainder.f k a0_0 a0_1 l1).bind fun t139 => (some (t139, 0))) else (some (([] : List Int), t138))))) = some (r1, r2) := H
 have A3 := dH A30
 clear A30
 replace H := dF.mp H
 obtain ⟨t134, A40, H⟩ := H
 replace H : ((code_first.f k (([t133, t134] : List Int))).bind fun t138 => (if t138 = 0 then ((code_remainder.f k a0_0 a0_1 l1).bind fun t139 => (some (t139, 0))) else (some (([] : List Int), t138)))) = some (r1, r2) := H
 have A4 := dH A40
 clear A40
 obtain ⟨y135, hy135⟩ : ∃ y_ : List Int, y_ = (([t133, t134] : List Int)) := ⟨_, rfl⟩
 replace H : ((code_first.f k y135).bind fun t138 => (if t138 = 0 then ((code_remainder.f k a0_0 a0_1 l1).bind fun t139 => (some (t139, 0))) else (some (([] : List Int), t138)))) = some (r1, r2) := by first | (rw [hy135]; with_reducible exact H) | (have H2_ := (Option.bind_some _ _).symm.trans H; rw [hy135]; with_reducible exact H2_) | (have H2_ := (Option.bind_some _ _).symm.trans H; with_reducible exact H2_) | with_reducible exact H | (rw [hy135]; exact H) | exact H
 have Ny135 := dH hy135
 clear hy135
 replace H := dF.mp H
 obtain ⟨t138, A50, H⟩ := H
 replace H : (if t138 = 0 then ((code_remainder.f k a0_0 a0_1 l1).bind fun t139 => (some (t139, 0))) else (some (([] : List Int), t138))) = some (r1, r2) := H
 have A5 := dH A50
 clear A50
 by_cases c6 : t138 = 0
 ·
  rw [if_pos c6] at H
  have c6b0 : (t138 == 0) = true := beq_iff_eq.mpr c6
  have c6b1 : (t138 != 0) = false := bne_eq_false_iff_eq.mpr c6
  clear c6
  replace H := dF.mp H
  obtain ⟨t139, A70, H⟩ := H
  replace H : (some (t139, 0)) = some (r1, r2) := H
  have A7 := dH A70
  clear A70
  simp only [Option.some.injEq, Prod.mk.injEq] at H
  obtain ⟨rfl, rfl⟩ := H
  go_enter Try.func62, Try.ntmps62
  go_wp2_with (first | ((with_reducible refine bg (N := 2) rfl ?_); refine bI ?hg (N := 2) ?hd (cs := #[.int .i64 a0_0, .int .i64 a0_1]) (t := 68) ?hr ?_; (case hd => rfl); (case hg => rfl); (case hr => first | (go_simp; done) | (go_simp; rfl)); intro gb132 hg w8 hbox hb; have n0_ := dH (aM (by repeat (first | (with_reducible first | exact HB.out | apply ak | apply ah | apply aj) | exact HB.out)) hb); have n1_ := dH (hbox); have n2_ := dH ((by rw [hg]; exact (aK (by repeat (first | (with_reducible first | exact HB.out | apply ak | apply ah | apply aj) | exact HB.out))) : w.heap.size ≤ gb132)); have n3_ := dH ((by rw [hg]; exact (aK (by repeat (first | (with_reducible first | exact HB.out | apply ak | apply ah | apply aj) | exact HB.out))) : w.heap.size ≤ gb132)); clear HB; have HB := n0_; have BK132 := n1_; have GW132 := n2_; have GE132 := n3_; clear n0_ n1_ n2_ n3_; clear hb hbox hg; have hcz9_0 : w8.cell? ⟨gb132, 0, none⟩ = some (.int .i64 a0_0) := (ay BK132.out 0).trans rfl; have hcz9_1 : w8.cell? ⟨gb132, 1, none⟩ = some (.int .i64 a0_1) := (ay BK132.out 1).trans rfl; have hfz9_0 := aD BK132.out 0; have hfz9_1 := aD BK132.out 1) | ((with_reducible refine aT (f := 138) rfl ?_); refine bq (some 8) rfl rfl Try.func138 (by kernel_rfl) rfl #[.agg #[.int .i64 a0_0, .int .i64 a0_1]] rfl (by (try simp only [dh, dn, dw]); first | done | rfl | (simp only [dx, dz]; rfl) | (simp only [gt_iff_lt, dA]; rfl) | (simp [Act.eval]; done) | (simp [Act.eval, *]; done)) ?_; (with_reducible refine (code_CheckPoly.calls k a0_0 a0_1 t133 _ A3.out).mono ?_); rintro e w10 ⟨rfl, hb⟩; refine ⟨_, rfl, ?_⟩; have n0_ := dH (aQ (g := gb132) (o := .cells #[.int .i64 a0_0, .int .i64 a0_1] 68 (0, 0)) (by (with_reducible repeat (first | refine av ?_ _ | refine aC ?_ | refine au ?_ _)); exact BK132.out) hb); have n1_ := dH (aM (by repeat (first | (with_reducible first | exact HB.out | apply ak | apply ah | apply aj | refine aA ?_ GE132.out) | exact HB.out)) hb); clear BK132; clear HB; have BK132 := n0_; have HB := n1_; clear n0_ n1_; (try clear hb); (try clear hb2); (try clear hk); (try clear hi)) | ((with_reducible refine aT (f := 103) rfl ?_); refine bq (some 10) rfl rfl Try.func103 (by kernel_rfl) rfl #[.slice A1 l1.length c1] rfl (by (try simp only [dh, dn, dw]); first | done | rfl | (simp only [dx, dz]; rfl) | (simp only [gt_iff_lt, dA]; rfl) | (simp [Act.eval]; done) | (simp [Act.eval, *]; done)) ?_; (with_reducible refine (code_bitsErr.calls _ _ l1 t134 _ ?side1 ?side2 A4.out).mono ?_); (case side1 => repeat (first | exact (Kd.bF HR1.out HB.out) | (with_reducible refine Kd.bA ?_ _) | (with_reducible refine Kd.bC ?_ _) | (with_reducible refine Kd.bJ ?_))); (case side2 => exact HC1.out); rintro e w11 ⟨rfl, hb⟩; refine ⟨_, rfl, ?_⟩; have n0_ := dH (aQ (g := gb132) (o := .cells #[.int .i64 a0_0, .int .i64 a0_1] 68 (0, 0)) (by (with_reducible repeat (first | refine av ?_ _ | refine aC ?_ | refine au ?_ _)); exact BK132.out) hb); have n1_ := dH (aM (by repeat (first | (with_reducible first | exact HB.out | apply ak | apply ah | apply aj | refine aA ?_ GE132.out) | exact HB.out)) hb); clear BK132; clear HB; have BK132 := n0_; have HB := n1_; clear n0_ n1_; (try clear hb); (try clear hb2); (try clear hk); (try clear hi)) | ((with_reducible refine bg (N := 11) rfl ?_); refine Kd.R_lit (Kd.int .i64) _ 29 ?hg (N := 11) ?hd (xs := ([t133, t134] : List Int)) (inner := [.int .i64 t133, .int .i64 t134]) (ok := fun _ => True) (okp := fun _ => True) ?hr ?hp (fun _ hk => hk) trivial (Below.refl _ _) (Nat.le_refl _) (by simp) ?_; (case hd => rfl); (case hg => rfl); (case hr => first | (go_simp; done) | (go_simp; rfl)); (case hp => exact (Reps.one (show Kd.M (Kd.int .i64) _ _ _ t133 [.int .i64 t133] from rfl) (Reps.one (show Kd.M (Kd.int .i64) _ _ _ t134 [.int .i64 t134] from rfl) (Reps.none _ _)))); intro v136 w12 ho13 hb hg_ hnew_; clear hg_ hnew_; (first | rw [← Ny135.out] at ho13 | (simp only [Int.reduceToNat] at ho13; rw [← Ny135.out] at ho13)); have n0_ := dH (Kd.bP ho13 (aK (by repeat (first | (with_reducible first | exact HB.out | apply ak | apply ah | apply aj | refine aA ?_ GE132.out) | exact HB.out)))); have n1_ := dH (aQ (g := gb132) (o := .cells #[.int .i64 a0_0, .int .i64 a0_1] 68 (0, 0)) (by (with_reducible repeat (first | refine av ?_ _ | refine aC ?_ | refine au ?_ _)); exact BK132.out) hb); have n2_ := dH (aM (by repeat (first | (with_reducible first | exact HB.out | apply ak | apply ah | apply aj | refine aA ?_ GE132.out) | exact HB.out)) hb); clear BK132; clear HB; have HO137 := n0_; have BK132 := n1_; have HB := n2_; clear n0_ n1_ n2_; clear hb ho13; obtain ⟨Ao14, co14, eo14⟩ := Kd.bN HO137.out; subst eo14) | ((with_reducible refine aT (f := 72) rfl ?_); refine bq (some 12) rfl rfl Try.func72 (by kernel_rfl) rfl #[.slice Ao14 y135.length co14] rfl (by (try simp only [dh, dn, dw]); first | done | rfl | (simp only [dx, dz]; rfl) | (simp only [gt_iff_lt, dA]; rfl) | (simp [Act.eval]; done) | (simp [Act.eval, *]; done)) ?_; (with_reducible refine (code_first.calls k _ _ y135 t138 _ ?side1 ?side2 A5.out).mono ?_); (case side1 => repeat (first | exact (Kd.aZ HO137.out).2.2 | (with_reducible refine Kd.bA ?_ _) | (with_reducible refine Kd.bC ?_ _) | (with_reducible refine Kd.bJ ?_))); (case side2 => exact (Kd.aZ HO137.out).2.1); rintro e w' ⟨rfl, ⟨nd, rfl⟩⟩; refine ⟨_, rfl, ?_⟩; have hcz15_0 : w12.cell? ⟨gb132, 0, none⟩ = some (.int .i64 a0_0) := (ay BK132.out 0).trans rfl; have hcz15_1 : w12.cell? ⟨gb132, 1, none⟩ = some (.int .i64 a0_1) := (ay BK132.out 1).trans rfl; have hfz15_0 := aD BK132.out 0; have hfz15_1 := aD BK132.out 1) | ((with_reducible refine aT (f := 139) rfl ?_); refine bq (some 18) rfl rfl Try.func139 (by kernel_rfl) rfl #[.agg #[.int .i64 a0_0, .int .i64 a0_1], .slice A1 l1.length c1] rfl (by (try simp only [dh, dn, dw]); first | done | rfl | (simp only [dx, dz]; rfl) | (simp only [gt_iff_lt, dA]; rfl) | (simp [Act.eval]; done) | (simp [Act.eval, *]; done)) ?_; (with_reducible refine (code_remainder.calls k a0_0 a0_1 _ _ l1 t139 _ ?side1 ?side2 A7.out).mono ?_); (case side1 => repeat (first | exact (Kd.bF HR1.out (by repeat (first | (with_reducible first | exact HB.out | apply ak | apply ah | apply aj | refine aA ?_ GE132.out) | exact HB.out))) | (with_reducible refine Kd.bA ?_ _) | (with_reducible refine Kd.bC ?_ _) | (with_reducible refine Kd.bJ ?_))); (case side2 => exact HC1.out); rintro e w16 ⟨v140, rfl, ho0, hb⟩; refine ⟨_, rfl, ?_⟩; have n0_ := dH (Kd.cu (by (with_reducible repeat (first | apply Kd.aI | apply Kd.aJ | apply Kd.aN)); exact HO137.out) hb); have n1_ := dH (Kd.bP ho0 (aK (by repeat (first | (with_reducible first | exact HB.out | apply ak | apply ah | apply aj | refine aA ?_ GE132.out) | exact HB.out)))); have n2_ := dH (aQ (g := gb132) (o := .cells #[.int .i64 a0_0, .int .i64 a0_1] 68 (0, 0)) (by (with_reducible repeat (first | refine av ?_ _ | refine aC ?_ | refine au ?_ _)); exact BK132.out) hb); have n3_ := dH (aM (by repeat (first | (with_reducible first | exact HB.out | apply ak | apply ah | apply aj | refine aA ?_ GE132.out) | exact HB.out)) hb); clear HO137; clear BK132; clear HB; have HO137 := n0_; have HO141 := n1_; have BK132 := n2_; have HB := n3_; clear n0_ n1_ n2_ n3_; (try clear hb); (try clear hb2); (try clear hk); (try clear hi); (try clear ho0)))
  go_ret2
  exact ⟨_, by first | rfl | (simp [aX, aY] <;> rfl) | (simp [*, aX, aY] <;> rfl), by (with_reducible repeat (first | apply Kd.aI | apply Kd.aJ | apply Kd.aN)); exact HO141.out, by repeat (first | (with_reducible first | exact HB.out | apply ak | apply ah | apply aj | refine aA ?_ GE132.out) | exact HB.out)⟩
 ·
  rw [if_neg c6] at H
  have c6b0 : (t138 == 0) = false := beq_eq_false_iff_ne.mpr c6
  have c6b1 : (t138 != 0) = true := bne_iff_ne.mpr c6
  simp only [Option.some.injEq, Prod.mk.injEq] at H
  obtain ⟨rfl, rfl⟩ := H
  go_enter Try.func62, Try.ntmps62
  go_wp2_with (first | ((with_reducible refine bg (N := 2) rfl ?_); refine bI ?hg (N := 2) ?hd (cs := #[.int .i64 a0_0, .int .i64 a0_1]) (t := 68) ?hr ?_; (case hd => rfl); (case hg => rfl); (case hr => first | (go_simp; done) | (go_simp; rfl)); intro gb132 hg w17 hbox hb; have n0_ := dH (aM (by repeat (first | (with_reducible first | exact HB.out | apply ak | apply ah | apply aj) | exact HB.out)) hb); have n1_ := dH (hbox); have n2_ := dH ((by rw [hg]; exact (aK (by repeat (first | (with_reducible first | exact HB.out | apply ak | apply ah | apply aj) | exact HB.out))) : w.heap.size ≤ gb132)); have n3_ := dH ((by rw [hg]; exact (aK (by repeat (first | (with_reducible first | exact HB.out | apply ak | apply ah | apply aj) | exact HB.out))) : w.heap.size ≤ gb132)); clear HB; have HB := n0_; have BK132 := n1_; have GW132 := n2_; have GE132 := n3_; clear n0_ n1_ n2_ n3_; clear hb hbox hg; have hcz18_0 : w17.cell? ⟨gb132, 0, none⟩ = some (.int .i64 a0_0) := (ay BK132.out 0).trans rfl; have hcz18_1 : w17.cell? ⟨gb132, 1, none⟩ = some (.int .i64 a0_1) := (ay BK132.out 1).trans rfl; have hfz18_0 := aD BK132.out 0; have hfz18_1 := aD BK132.out 1) | ((with_reducible refine aT (f := 138) rfl ?_); refine bq (some 8) rfl rfl Try.func138 (by kernel_rfl) rfl #[.agg #[.int .i64 a0_0, .int .i64 a0_1]] rfl (by (try simp only [dh, dn, dw]); first | done | rfl | (simp only [dx, dz]; rfl) | (simp only [gt_iff_lt, dA]; rfl) | (simp [Act.eval]; done) | (simp [Act.eval, *]; done)) ?_; (with_reducible refine (code_CheckPoly.calls k a0_0 a0_1 t133 _ A3.out).mono ?_); rintro e w19 ⟨rfl, hb⟩; refine ⟨_, rfl, ?_⟩; have n0_ := dH (aQ (g := gb132) (o := .cells #[.int .i64 a0_0, .int .i64 a0_1] 68 (0, 0)) (by (with_reducible repeat (first | refine av ?_ _ | refine aC ?_ | refine au ?_ _)); exact BK132.out) hb); have n1_ := dH (aM (by repeat (first | (with_reducible first | exact HB.out | apply ak | apply ah | apply aj | refine aA ?_ GE132.out) | exact HB.out)) hb); clear BK132; clear HB; have BK132 := n0_; have HB := n1_; clear n0_ n1_; (try clear hb); (try clear hb2); (try clear hk); (try clear hi)) | ((with_reducible refine aT (f := 103) rfl ?_); refine bq (some 10) rfl rfl Try.func103 (by kernel_rfl) rfl #[.slice A1 l1.length c1] rfl (by (try simp only [dh, dn, dw]); first | done | rfl | (simp only [dx, dz]; rfl) | (simp only [gt_iff_lt, dA]; rfl) | (simp [Act.eval]; done) | (simp [Act.eval, *]; done)) ?_; (with_reducible refine (code_bitsErr.calls _ _ l1 t134 _ ?side1 ?side2 A4.out).mono ?_); (case side1 => repeat (first | exact (Kd.bF HR1.out HB.out) | (with_reducible refine Kd.bA ?_ _) | (with_reducible refine Kd.bC ?_ _) | (with_reducible refine Kd.bJ ?_))); (case side2 => exact HC1.out); rintro e w20 ⟨rfl, hb⟩; refine ⟨_, rfl, ?_⟩; have n0_ := dH (aQ (g := gb132) (o := .cells #[.int .i64 a0_0, .int .i64 a0_1] 68 (0, 0)) (by (with_reducible repeat (first | refine av ?_ _ | refine aC ?_ | refine au ?_ _)); exact BK132.out) hb); have n1_ := dH (aM (by repeat (first | (with_reducible first | exact HB.out | apply ak | apply ah | apply aj | refine aA ?_ GE132.out) | exact HB.out)) hb); clear BK132; clear HB; have BK132 := n0_; have HB := n1_; clear n0_ n1_; (try clear hb); (try clear hb2); (try clear hk); (try clear hi)) | ((with_reducible refine bg (N := 11) rfl ?_); refine Kd.R_lit (Kd.int .i64) _ 29 ?hg (N := 11) ?hd (xs := ([t133, t134] : List Int)) (inner := [.int .i64 t133, .int .i64 t134]) (ok := fun _ => True) (okp := fun _ => True) ?hr ?hp (fun _ hk => hk) trivial (Below.refl _ _) (Nat.le_refl _) (by simp) ?_; (case hd => rfl); (case hg => rfl); (case hr => first | (go_simp; done) | (go_simp; rfl)); (case hp => exact (Reps.one (show Kd.M (Kd.int .i64) _ _ _ t133 [.int .i64 t133] from rfl) (Reps.one (show Kd.M (Kd.int .i64) _ _ _ t134 [.int .i64 t134] from rfl) (Reps.none _ _)))); intro v136 w21 ho22 hb hg_ hnew_; clear hg_ hnew_; (first | rw [← Ny135.out] at ho22 | (simp only [Int.reduceToNat] at ho22; rw [← Ny135.out] at ho22)); have n0_ := dH (Kd.bP ho22 (aK (by repeat (first | (with_reducible first | exact HB.out | apply ak | apply ah | apply aj | refine aA ?_ GE132.out) | exact HB.out)))); have n1_ := dH (aQ (g := gb132) (o := .cells #[.int .i64 a0_0, .int .i64 a0_1] 68 (0, 0)) (by (with_reducible repeat (first | refine av ?_ _ | refine aC ?_ | refine au ?_ _)); exact BK132.out) hb); have n2_ := dH (aM (by repeat (first | (with_reducible first | exact HB.out | apply ak | apply ah | apply aj | refine aA ?_ GE132.out) | exact HB.out)) hb); clear BK132; clear HB; have HO137 := n0_; have BK132 := n1_; have HB := n2_; clear n0_ n1_ n2_; clear hb ho22; obtain ⟨Ao23, co23, eo23⟩ := Kd.bN HO137.out; subst eo23) | ((with_reducible refine aT (f := 72) rfl ?_); refine bq (some 12) rfl rfl Try.func72 (by kernel_rfl) rfl #[.slice Ao23 y135.length co23] rfl (by (try simp only [dh, dn, dw]); first | done | rfl | (simp only [dx, dz]; rfl) | (simp only [gt_iff_lt, dA]; rfl) | (simp [Act.eval]; done) | (simp [Act.eval, *]; done)) ?_; (with_reducible refine (code_first.calls k _ _ y135 t138 _ ?side1 ?side2 A5.out).mono ?_); (case side1 => repeat (first | exact (Kd.aZ HO137.out).2.2 | (with_reducible refine Kd.bA ?_ _) | (with_reducible refine Kd.bC ?_ _) | (with_reducible refine Kd.bJ ?_))); (case side2 => exact (Kd.aZ HO137.out).2.1); rintro e w' ⟨rfl, ⟨nd, rfl⟩⟩; refine ⟨_, rfl, ?_⟩))
  go_ret2
  exact ⟨_, by first | rfl | (simp [aX, aY] <;> rfl) | (simp [*, aX, aY] <;> rfl), by first | exact Kd.R_nil _ _ _ _ _ | exact Kd.N_nil _ _ _ _ _ | exact Kd.V_nil _ _ _ _ _ | exact Kd.Q_nil _ _ _ _ _ | exact Kd.S_nil _ _ _ _ _, by repeat (first | (with_reducible first | exact HB.out | apply ak | apply ah | apply aj | refine aA ?_ GE132.out) | exact HB.out)⟩
def code_Encode.f (k : Nat) (a0_0 : Int) (l0_1 : List Int) (l1 : List Int) : Option (List Int × Int) := (code_CheckPolar.f k a0_0 l0_1).bind fun t174 => ((code_bitsErr.f l1).bind fun t175 => ((code_unless.f ((l1.length : Int) == (l0_1.length : Int)) 10).bind fun t176 => ((code_first.f k (([t174, t175, t176] : List Int))).bind fun t180 => (if t180 = 0 then ((code_encode.f k a0_0 l0_1 l1).bind fun t181 => (some (t181, 0))) else (some (([] : List Int), t180))))))
def code_Encode.T1 : Bool × List (List Nat × List Nat) := (true, [([], []), ([0], [0]), ([], []), ([2, 1], [2]), ([], []), ([4], [4]), ([], []), ([6], [6]), ([7], [7]), ([5, 8], [5, 8]), ([9, 3], [9]), ([1, 3, 10], [1, 3, 10]), ([11, 10], [11]), ([12, 12, 0, 1, 2, 3, 4, 5, 6, 7, 8, 9, 10, 11, 12], [12])])
def code_Encode.B1 : List Nat := [0, 1, 0, 7, 0, 16, 0, 64, 192, 496, 1023, 2047, 4095, 8191]
theorem code_Encode.tab1 : rtab .any (opsOf Try.f64 1) = code_Encode.T1 := by kernel_rfl
theorem code_Encode.bits1 : waitsOk code_Encode.T1.2 code_Encode.B1 = true := by kernel_rfl
theorem code_Encode.calls (k : Nat) (a0_0 : Int) (A0_1 : Option Addr) (c0_1 : Nat) (l0_1 : List Int) (A1 : Option Addr) (c1 : Nat) (l1 : List Int) (r1 : List Int) (r2 : Int) (w : World) (hr0_1 : Kd.C (Kd.int .i64) w A0_1 l0_1.length l0_1) (hc0_1 : l0_1.length ≤ c0_1) (hr1 : Kd.C (Kd.int .i64) w A1 l1.length l1) (hc1 : l1.length ≤ c1) (h : code_Encode.f k a0_0 l0_1 l1 = some (r1, r2)) :
  Calls Try.prog 64 #[.agg #[.int .i64 a0_0, .slice A0_1 l0_1.length c0_1], .slice A1 l1.length c1] w fun e w' => ∃ v0_ : Value, e = .returned (.tuple #[v0_, .int .i64 r2]) ∧ Kd.R (Kd.int .i64) 3 w' w.heap.size (fun _ => True) v0_ r1 ∧ Below w.heap.size w w' := by
 have hu72 := Try.underlying72
 have HR0_1 := dH hr0_1
 have HC0_1 := dH hc0_1
 clear hr0_1 hc0_1
 have HR1 := dH hr1
 have HC1 := dH hc1
 clear hr1 hc1
 have HB := dH (Below.refl w.heap.size w)
 have H : ((code_CheckPolar.f k a0_0 l0_1).bind fun t174 => ((code_bitsErr.f l1).bind fun t175 => ((code_unless.f ((l1.length : Int) == (l0_1.length : Int)) 10).bind fun t176 => ((code_first.f k (([t174, t175, t176] : List Int))).bind fun t180 => (if t180 = 0 then ((code_encode.f k a0_0 l0_1 l1).bind fun t181 => (some (t181, 0))) else (some (([] : List Int), t180))))))) = some (r1, r2) := h
 clear h
 replace H := dF.mp H
 obtain ⟨t174, A30, H⟩ := H
 replace H : ((code_bitsErr.f l1).bind fun t175 => ((code_unless.f ((l1.length : Int) == (l0_1.length : Int)) 10).bind fun t176 => ((code_first.f k (([t174, t175, t176] : List Int))).bind fun t180 => (if t180 = 0 then ((code_encode.f k a0_0 l0_1 l1).bind fun t181 => (some (t181, 0))) else (some (([] : List Int), t180)))))) = some (r1, r2) := H
 have A3 := dH A30
 clear A30
 replace H := dF.mp H
 obtain ⟨t175, A40, H⟩ := H
 replace H : ((code_unless.f ((l1.length : Int) == (l0_1.length : Int)) 10).bind fun t176 => ((code_first.f k (([t174, t175, t176] : List Int))).bind fun t180 => (if t180 = 0 then ((code_encode.f k a0_0 l0_1 l1).bind fun t181 => (some (t181, 0))) else (some (([] : List Int), t180))))) = some (r1, r2) := H
 have A4 := dH A40
 clear A40
 replace H := dF.mp H
 obtain ⟨t176, A50, H⟩ := H
 replace H : ((code_first.f k (([t174, t175, t176] : List Int))).bind fun t180 => (if t180 = 0 then ((code_encode.f k a0_0 l0_1 l1).bind fun t181 => (some (t181, 0))) else (some (([] : List Int), t180)))) = some (r1, r2) := H
 have A5 := dH A50
 clear A50
 obtain ⟨y177, hy177⟩ : ∃ y_ : List Int, y_ = (([t174, t175, t176] : List Int)) := ⟨_, rfl⟩
 replace H : ((code_first.f k y177).bind fun t180 => (if t180 = 0 then ((code_encode.f k a0_0 l0_1 l1).bind fun t181 => (some (t181, 0))) else (some (([] : List Int), t180)))) = some (r1, r2) := by first | (rw [hy177]; with_reducible exact H) | (have H2_ := (Option.bind_some _ _).symm.trans H; rw [hy177]; with_reducible exact H2_) | (have H2_ := (Option.bind_some _ _).symm.trans H; with_reducible exact H2_) | with_reducible exact H | (rw [hy177]; exact H) | exact H
 have Ny177 := dH hy177
 clear hy177
 replace H := dF.mp H
 obtain ⟨t180, A60, H⟩ := H
 replace H : (if t180 = 0 then ((code_encode.f k a0_0 l0_1 l1).bind fun t181 => (some (t181, 0))) else (some (([] : List Int), t180))) = some (r1, r2) := H
 have A6 := dH A60
 clear A60
 by_cases c7 : t180 = 0
 ·
  rw [if_pos c7] at H
  have c7b0 : (t180 == 0) = true := beq_iff_eq.mpr c7
  have c7b1 : (t180 != 0) = false := bne_eq_false_iff_eq.mpr c7
  clear c7
  replace H := dF.mp H
  obtain ⟨t181, A80, H⟩ := H
  replace H : (some (t181, 0)) = some (r1, r2) := H
  have A8 := dH A80
  clear A80
  simp only [Option.some.injEq, Prod.mk.injEq] at H
  obtain ⟨rfl, rfl⟩ := H
  go_enter Try.func64, Try.ntmps64
  try go_wp2_with (first | ((with_reducible refine bg (N := 2) rfl ?_); refine bI ?hg (N := 2) ?hd (cs := #[.int .i64 a0_0, .slice A0_1 l0_1.length c0_1]) (t := 72) ?hr ?_; (case hd => rfl); (case hg => rfl); (case hr => first | (go_simp; done) | (go_simp; rfl)); intro gb173 hg w9 hbox hb; have n0_ := dH (aM (by repeat (first | (with_reducible first | exact HB.out | apply ak | apply ah | apply aj) | exact HB.out)) hb); have n1_ := dH (hbox); have n2_ := dH ((by rw [hg]; exact (aK (by repeat (first | (with_reducible first | exact HB.out | apply ak | apply ah | apply aj) | exact HB.out))) : w.heap.size ≤ gb173)); have n3_ := dH ((by rw [hg]; exact (aK (by repeat (first | (with_reducible first | exact HB.out | apply ak | apply ah | apply aj) | exact HB.out))) : w.heap.size ≤ gb173)); clear HB; have HB := n0_; have BK173 := n1_; have GW173 := n2_; have GE173 := n3_; clear n0_ n1_ n2_ n3_; clear hb hbox hg))
  have n0_ := dH (aC BK173.out)
  have n1_ := dH (aj HB.out)
  clear BK173
  clear HB
  have BK173 := n0_
  have HB := n1_
  clear n0_ n1_
  refine b_ (n := 14) (S := fun w' => w'.cell? ⟨gb173, 0, none⟩ = some (.int .i64 a0_0) ∧ w'.cell? ⟨gb173, 1, none⟩ = some (.slice A0_1 l0_1.length c0_1)) (ds := []) (dG 14 0) (by kernel_rfl) rfl rfl ⟨(ay BK173.out 0).trans rfl, (ay BK173.out 1).trans rfl⟩ (fun hHeld => ?_); refine bZ code_Encode.tab1 code_Encode.bits1 (fun HT_ HW_ => ?_)
  generalize w9.drew = w10 at BK173 HB hHeld ⊢
  refine aV (i := 2) (N := some 9) (v := ?_) (a' := ?_) (dG 14 4) rfl rfl (aU HT_.out (by kernel_rfl)) (fun _ _ _ h => h) (Or.inl ⟨by rfl, ?_⟩) ?_ ?_
  rotate_left
  ·
   intro w'
   go_simp
   with_reducible rfl
  rotate_left
  ·
   simp only [Act.put, cO, cZ, d9, aG, aH]
   rfl
  refine aV (i := 4) (N := some 11) (v := ?_) (a' := ?_) (dG 14 20) rfl rfl (aU HT_.out (by kernel_rfl)) (fun _ _ _ h => h) (Or.inl ⟨by rfl, ?_⟩) ?_ ?_
  rotate_left
  ·
   intro w'
   go_simp
   with_reducible rfl
  rotate_left
  ·
   simp only [Act.put, cO, cZ, d9, aG, aH]
   rfl
  refine aV (i := 5) (N := some 12) (v := ?_) (a' := ?_) (dG 14 52) rfl rfl (aU HT_.out (by kernel_rfl)) (fun _ _ _ h => h) (Or.inl ⟨by rfl, ?_⟩) ?_ ?_
  rotate_left
  ·
   intro w'
   go_simp
   with_reducible rfl
  rotate_left
  ·
   simp only [Act.put, cO, cZ, d9, aG, aH]
   rfl
  refine aV (i := 6) (N := some 13) (v := ?_) (a' := ?_) (dG 14 116) rfl rfl (aU HT_.out (by kernel_rfl)) (fun _ _ _ h => h) (Or.inl ⟨by rfl, ?_⟩) ?_ ?_
  rotate_left
  ·
   intro w'
   go_simp
   with_reducible rfl
  rotate_left
  ·
   simp only [Act.put, cO, cZ, d9, aG, aH]
   rfl
  refine bK (i := 0) (N := some 7) (v := ?_) (a' := ?_) (dG 14 117) rfl rfl (bD HT_.out HW_.out (by kernel_rfl)) (fun _ _ _ h => h) (Or.inl ⟨by rfl, ?_⟩) hHeld ?_ ?_
  rotate_left
  ·
   rintro w' ⟨s0, s1⟩
   go_simp
   with_reducible rfl
  rotate_left
  ·
   simp only [Act.put, cO, cZ, d9, aG, aH]
   rfl
  refine bK (i := 7) (N := some 14) (v := ?_) (a' := ?_) (dG 14 245) rfl rfl (bD HT_.out HW_.out (by kernel_rfl)) (fun _ _ _ h => h) (Or.inl ⟨by rfl, ?_⟩) hHeld ?_ ?_
  rotate_left
  ·
   rintro w' ⟨s0, s1⟩
   go_simp
   with_reducible rfl
  rotate_left
  ·
   simp only [Act.put, cO, cZ, d9, aG, aH]
   rfl
  refine aV (i := 8) (N := some 15) (v := ?_) (a' := ?_) (dG 14 501) rfl rfl (aU HT_.out (by kernel_rfl)) (fun _ _ _ h => h) (Or.inl ⟨by rfl, ?_⟩) ?_ ?_
  rotate_left
  ·
   intro w'
   go_simp
   with_reducible rfl
  rotate_left
  ·
   simp only [Act.put, cO, cZ, d9, aG, aH]
   rfl
  refine aV (i := 9) (N := some 16) (v := ?_) (a' := ?_) (dG 14 1013) rfl rfl (aU HT_.out (by kernel_rfl)) (fun _ _ _ h => h) (Or.inl ⟨by rfl, ?_⟩) ?_ ?_
  rotate_left
  ·
   intro w'
   go_simp
   with_reducible rfl
  rotate_left
  ·
   simp only [Act.put, cO, cZ, d9, aG, aH]
   rfl
  refine bR (i := 1) (N := some 8) (dG 14 1015) rfl rfl (bB HT_.out (by kernel_rfl)) (by decide) (fun K hK => ?_)
  refine bQ Try.func140 (by kernel_rfl) rfl #[.agg #[.int .i64 a0_0, .slice A0_1 l0_1.length c0_1]] (by rfl) rfl rfl (by (try simp only [dh, dn, dw]); first | done | rfl | (simp only [dx, dz]; rfl) | (simp only [gt_iff_lt, dA]; rfl) | (simp [Act.eval]; done) | (simp [Act.eval, *]; done)) ?_
  with_reducible refine (code_CheckPolar.calls k a0_0 _ _ l0_1 t174 _ ?side1 ?side2 A3.out).mono ?_
  (case side1 => repeat (first | exact (Kd.bF HR0_1.out HB.out) | (with_reducible refine Kd.bA ?_ _) | (with_reducible refine Kd.bC ?_ _) | (with_reducible refine Kd.bJ ?_)))
  (case side2 => exact HC0_1.out)
  rintro e w11 ⟨rfl, hb⟩
  refine ⟨_, rfl, ?_⟩
  have n0_ := dH (aQ (g := gb173) (o := .cells #[.int .i64 a0_0, .slice A0_1 l0_1.length c0_1] 72 (0, 0)) (by (with_reducible repeat (first | refine av ?_ _ | refine aC ?_ | refine au ?_ _)); exact BK173.out) hb)
  have n1_ := dH (aM (by repeat (first | (with_reducible first | exact HB.out | apply ak | apply ah | apply aj | refine aA ?_ GE173.out) | exact HB.out)) hb)
  clear BK173
  clear HB
  have BK173 := n0_
  have HB := n1_
  clear n0_ n1_
  (try clear hb)
  (try clear hb2)
  (try clear hk)
  (try clear hi)
  refine hK.out _ _ ⟨(ay BK173.out 0).trans rfl, (ay BK173.out 1).trans rfl⟩ (fun hHeld => ?_)
  clear hK K
  refine bG (a' := ?_) ?_ ?_
  rotate_left
  ·
   show Act.put _ (some 8) _ = _
   simp only [Act.put, cO, cZ, d9, aG, aH]
   rfl
  refine bR (i := 3) (N := some 10) (dG 14 1023) rfl rfl (bB HT_.out (by kernel_rfl)) (by decide) (fun K hK => ?_)
  refine bQ Try.func103 (by kernel_rfl) rfl #[.slice A1 l1.length c1] (by rfl) rfl rfl (by (try simp only [dh, dn, dw]); first | done | rfl | (simp only [dx, dz]; rfl) | (simp only [gt_iff_lt, dA]; rfl) | (simp [Act.eval]; done) | (simp [Act.eval, *]; done)) ?_
  with_reducible refine (code_bitsErr.calls _ _ l1 t175 _ ?side1 ?side2 A4.out).mono ?_
  (case side1 => repeat (first | exact (Kd.bF HR1.out HB.out) | (with_reducible refine Kd.bA ?_ _) | (with_reducible refine Kd.bC ?_ _) | (with_reducible refine Kd.bJ ?_)))
  (case side2 => exact HC1.out)
  rintro e w12 ⟨rfl, hb⟩
  refine ⟨_, rfl, ?_⟩
  have n0_ := dH (aQ (g := gb173) (o := .cells #[.int .i64 a0_0, .slice A0_1 l0_1.length c0_1] 72 (0, 0)) (by (with_reducible repeat (first | refine av ?_ _ | refine aC ?_ | refine au ?_ _)); exact BK173.out) hb)
  have n1_ := dH (aM (by repeat (first | (with_reducible first | exact HB.out | apply ak | apply ah | apply aj | refine aA ?_ GE173.out) | exact HB.out)) hb)
  clear BK173
  clear HB
  have BK173 := n0_
  have HB := n1_
  clear n0_ n1_
  (try clear hb)
  (try clear hb2)
  (try clear hk)
  (try clear hi)
  refine hK.out _ _ ⟨(ay BK173.out 0).trans rfl, (ay BK173.out 1).trans rfl⟩ (fun hHeld => ?_)
  clear hK K
  refine bG (a' := ?_) ?_ ?_
  rotate_left
  ·
   show Act.put _ (some 10) _ = _
   simp only [Act.put, cO, cZ, d9, aG, aH]
   rfl
  refine bR (i := 10) (N := some 17) (dG 14 2047) rfl rfl (bB HT_.out (by kernel_rfl)) (by decide) (fun K hK => ?_)
  refine bQ Try.func74 (by kernel_rfl) rfl #[.bool ((l1.length : Int) == (l0_1.length : Int)), .int .i64 10] (by rfl) rfl rfl (by (try simp only [dh, dn, dw]); first | done | rfl | (simp only [dx, dz]; rfl) | (simp only [gt_iff_lt, dA]; rfl) | (simp [Act.eval]; done) | (simp [Act.eval, *]; done)) ?_
  with_reducible refine (code_unless.calls ((l1.length : Int) == (l0_1.length : Int)) 10 t176 _ A5.out).mono ?_
  rintro e w' ⟨rfl, ⟨nd, rfl⟩⟩
  refine ⟨_, rfl, ?_⟩
  refine hK.out _ _ ⟨(ay BK173.out 0).trans rfl, (ay BK173.out 1).trans rfl⟩ (fun hHeld => ?_)
  clear hK K
  refine bG (a' := ?_) ?_ ?_
  rotate_left
  ·
   show Act.put _ (some 17) _ = _
   simp only [Act.put, cO, cZ, d9, aG, aH]
   rfl
  refine bR (i := 11) (N := some 18) (dG 14 4095) rfl rfl (bB HT_.out (by kernel_rfl)) (by decide) (fun K hK => ?_)
  refine Kd.R_lit_step (Kd.int .i64) _ 29 ?hg (N := 18) ?hd (xs := ([t174, t175, t176] : List Int)) (inner := [.int .i64 t174, .int .i64 t175, .int .i64 t176]) (ok := fun _ => True) (okp := fun _ => True) ?hr ?hp (fun _ hk => hk) trivial (Below.refl _ _) (Nat.le_refl _) (by simp) ?_; (case hd => rfl); (case hg => rfl); (case hr => first | (go_simp; done) | (go_simp; rfl)); (case hp => exact (Reps.one (show Kd.M (Kd.int .i64) _ _ _ t174 [.int .i64 t174] from rfl) (Reps.one (show Kd.M (Kd.int .i64) _ _ _ t175 [.int .i64 t175] from rfl) (Reps.one (show Kd.M (Kd.int .i64) _ _ _ t176 [.int .i64 t176] from rfl) (Reps.none _ _)))))
  intro v178 w13 ho14 hb hg_ hnew_
  clear hg_ hnew_
  (first | rw [← Ny177.out] at ho14 | (simp only [Int.reduceToNat] at ho14; rw [← Ny177.out] at ho14))
  have n0_ := dH (Kd.bP ho14 (aK (by repeat (first | (with_reducible first | exact HB.out | apply ak | apply ah | apply aj | refine aA ?_ GE173.out) | exact HB.out))))
  have n1_ := dH (aQ (g := gb173) (o := .cells #[.int .i64 a0_0, .slice A0_1 l0_1.length c0_1] 72 (0, 0)) (by (with_reducible repeat (first | refine av ?_ _ | refine aC ?_ | refine au ?_ _)); exact BK173.out) hb)
  have n2_ := dH (aM (by repeat (first | (with_reducible first | exact HB.out | apply ak | apply ah | apply aj | refine aA ?_ GE173.out) | exact HB.out)) hb)
  clear BK173
  clear HB
  have HO179 := n0_
  have BK173 := n1_
  have HB := n2_
  clear n0_ n1_ n2_
  clear hb ho14
  obtain ⟨Ao15, co15, eo15⟩ := Kd.bN HO179.out
  (first | subst eo15 | (injection eo15 with f1_ f2_ f3_; have f4_ := f1_.symm; have f5_ := f3_.symm; clear f1_ f2_ f3_; subst f4_; subst f5_))
  refine hK.out _ _ ⟨(ay BK173.out 0).trans rfl, (ay BK173.out 1).trans rfl⟩ (fun hHeld => ?_)
  clear hK K
  refine bG (a' := ?_) ?_ ?_
  rotate_left
  ·
   show Act.put _ (some 18) _ = _
   simp only [Act.put, cO, cZ, d9, aG, aH]
   rfl
  refine bR (i := 12) (N := some 19) (dG 14 8191) rfl rfl (bB HT_.out (by kernel_rfl)) (by decide) (fun K hK => ?_)
  refine bQ Try.func72 (by kernel_rfl) rfl #[.slice Ao15 y177.length co15] (by rfl) rfl rfl (by (try simp only [dh, dn, dw]); first | done | rfl | (simp only [dx, dz]; rfl) | (simp only [gt_iff_lt, dA]; rfl) | (simp [Act.eval]; done) | (simp [Act.eval, *]; done)) ?_
  with_reducible refine (code_first.calls k _ _ y177 t180 _ ?side1 ?side2 A6.out).mono ?_
  (case side1 => repeat (first | exact (Kd.aZ HO179.out).2.2 | (with_reducible refine Kd.bA ?_ _) | (with_reducible refine Kd.bC ?_ _) | (with_reducible refine Kd.bJ ?_)))
  (case side2 => exact (Kd.aZ HO179.out).2.1)
  rintro e w' ⟨rfl, ⟨nd, rfl⟩⟩
  refine ⟨_, rfl, ?_⟩
  refine hK.out _ _ ⟨(ay BK173.out 0).trans rfl, (ay BK173.out 1).trans rfl⟩ (fun hHeld => ?_)
  clear hK K
  refine bG (a' := ?_) ?_ ?_
  rotate_left
  ·
   show Act.put _ (some 19) _ = _
   simp only [Act.put, cO, cZ, d9, aG, aH]
   rfl
  refine aV (i := 13) (N := some 6) (v := ?_) (a' := ?_) (dG 14 16383) rfl rfl (aU HT_.out (by kernel_rfl)) (fun _ _ _ h => h) (Or.inl ⟨by rfl, ?_⟩) ?_ ?_
  rotate_left
  ·
   intro w'
   go_simp
   with_reducible rfl
  rotate_left
  ·
   simp only [Act.put, cO, cZ, d9, aG, aH]
   rfl
  refine done_ (cK HT_.out (by kernel_rfl)) ?_
  have hcz16_0 : w13.cell? ⟨gb173, 0, none⟩ = some (.int .i64 a0_0) := (ay BK173.out 0).trans rfl
  have hcz16_1 : w13.cell? ⟨gb173, 1, none⟩ = some (.slice A0_1 l0_1.length c0_1) := (ay BK173.out 1).trans rfl
  have hfz16_0 := aD BK173.out 0
  have hfz16_1 := aD BK173.out 1
  try go_wp2_with (first | ((with_reducible refine aT (f := 111) rfl ?_); refine bq (some 25) rfl rfl Try.func111 (by kernel_rfl) rfl #[.agg #[.int .i64 a0_0, .slice A0_1 l0_1.length c0_1], .slice A1 l1.length c1] rfl (by (try simp only [dh, dn, dw]); first | done | rfl | (simp only [dx, dz]; rfl) | (simp only [gt_iff_lt, dA]; rfl) | (simp [Act.eval]; done) | (simp [Act.eval, *]; done)) ?_; (with_reducible refine (code_encode.calls k a0_0 _ _ l0_1 _ _ l1 t181 _ ?side1 ?side2 ?side3 ?side4 A8.out).mono ?_); (case side1 => repeat (first | exact (Kd.bF HR0_1.out (by repeat (first | (with_reducible first | exact HB.out | apply ak | apply ah | apply aj | refine aA ?_ GE173.out) | exact HB.out))) | (with_reducible refine Kd.bA ?_ _) | (with_reducible refine Kd.bC ?_ _) | (with_reducible refine Kd.bJ ?_))); (case side2 => exact HC0_1.out); (case side3 => repeat (first | exact (Kd.bF HR1.out (by repeat (first | (with_reducible first | exact HB.out | apply ak | apply ah | apply aj | refine aA ?_ GE173.out) | exact HB.out))) | (with_reducible refine Kd.bA ?_ _) | (with_reducible refine Kd.bC ?_ _) | (with_reducible refine Kd.bJ ?_))); (case side4 => exact HC1.out); rintro e w17 ⟨v182, rfl, ho0, hb⟩; refine ⟨_, rfl, ?_⟩; have n0_ := dH (Kd.cu (by (with_reducible repeat (first | apply Kd.aI | apply Kd.aJ | apply Kd.aN)); exact HO179.out) hb); have n1_ := dH (Kd.bP ho0 (aK (by repeat (first | (with_reducible first | exact HB.out | apply ak | apply ah | apply aj | refine aA ?_ GE173.out) | exact HB.out)))); have n2_ := dH (aQ (g := gb173) (o := .cells #[.int .i64 a0_0, .slice A0_1 l0_1.length c0_1] 72 (0, 0)) (by (with_reducible repeat (first | refine av ?_ _ | refine aC ?_ | refine au ?_ _)); exact BK173.out) hb); have n3_ := dH (aM (by repeat (first | (with_reducible first | exact HB.out | apply ak | apply ah | apply aj | refine aA ?_ GE173.out) | exact HB.out)) hb); clear HO179; clear BK173; clear HB; have HO179 := n0_; have HO183 := n1_; have BK173 := n2_; have HB := n3_; clear n0_ n1_ n2_ n3_; (try clear hb); (try clear hb2); (try clear hk); (try clear hi); (try clear ho0)))
  go_ret2
  exact ⟨_, by first | rfl | (simp [aX, aY] <;> rfl) | (simp [*, aX, aY] <;> rfl), by (with_reducible repeat (first | apply Kd.aI | apply Kd.aJ | apply Kd.aN)); exact HO183.out, by repeat (first | (with_reducible first | exact HB.out | apply ak | apply ah | apply aj | refine aA ?_ GE173.out) | exact HB.out)⟩
 ·
  rw [if_neg c7] at H
  have c7b0 : (t180 == 0) = false := beq_eq_false_iff_ne.mpr c7
  have c7b1 : (t180 != 0) = true := bne_iff_ne.mpr c7
  simp only [Option.some.injEq, Prod.mk.injEq] at H
  obtain ⟨rfl, rfl⟩ := H
  go_enter Try.func64, Try.ntmps64
  try go_wp2_with (first | ((with_reducible refine bg (N := 2) rfl ?_); refine bI ?hg (N := 2) ?hd (cs := #[.int .i64 a0_0, .slice A0_1 l0_1.length c0_1]) (t := 72) ?hr ?_; (case hd => rfl); (case hg => rfl); (case hr => first | (go_simp; done) | (go_simp; rfl)); intro gb173 hg w18 hbox hb; have n0_ := dH (aM (by repeat (first | (with_reducible first | exact HB.out | apply ak | apply ah | apply aj) | exact HB.out)) hb); have n1_ := dH (hbox); have n2_ := dH ((by rw [hg]; exact (aK (by repeat (first | (with_reducible first | exact HB.out | apply ak | apply ah | apply aj) | exact HB.out))) : w.heap.size ≤ gb173)); have n3_ := dH ((by rw [hg]; exact (aK (by repeat (first | (with_reducible first | exact HB.out | apply ak | apply ah | apply aj) | exact HB.out))) : w.heap.size ≤ gb173)); clear HB; have HB := n0_; have BK173 := n1_; have GW173 := n2_; have GE173 := n3_; clear n0_ n1_ n2_ n3_; clear hb hbox hg))
  have n0_ := dH (aC BK173.out)
  have n1_ := dH (aj HB.out)
  clear BK173
  clear HB
  have BK173 := n0_
  have HB := n1_
  clear n0_ n1_
  refine b_ (n := 14) (S := fun w' => w'.cell? ⟨gb173, 0, none⟩ = some (.int .i64 a0_0) ∧ w'.cell? ⟨gb173, 1, none⟩ = some (.slice A0_1 l0_1.length c0_1)) (ds := []) (dG 14 0) (by kernel_rfl) rfl rfl ⟨(ay BK173.out 0).trans rfl, (ay BK173.out 1).trans rfl⟩ (fun hHeld => ?_); refine bZ code_Encode.tab1 code_Encode.bits1 (fun HT_ HW_ => ?_)
  generalize w18.drew = w19 at BK173 HB hHeld ⊢
  refine aV (i := 2) (N := some 9) (v := ?_) (a' := ?_) (dG 14 4) rfl rfl (aU HT_.out (by kernel_rfl)) (fun _ _ _ h => h) (Or.inl ⟨by rfl, ?_⟩) ?_ ?_
  rotate_left
  ·
   intro w'
   go_simp
   with_reducible rfl
  rotate_left
  ·
   simp only [Act.put, cO, cZ, d9, aG, aH]
   rfl
  refine aV (i := 4) (N := some 11) (v := ?_) (a' := ?_) (dG 14 20) rfl rfl (aU HT_.out (by kernel_rfl)) (fun _ _ _ h => h) (Or.inl ⟨by rfl, ?_⟩) ?_ ?_
  rotate_left
  ·
   intro w'
   go_simp
   with_reducible rfl
  rotate_left
  ·
   simp only [Act.put, cO, cZ, d9, aG, aH]
   rfl
  refine aV (i := 5) (N := some 12) (v := ?_) (a' := ?_) (dG 14 52) rfl rfl (aU HT_.out (by kernel_rfl)) (fun _ _ _ h => h) (Or.inl ⟨by rfl, ?_⟩) ?_ ?_
  rotate_left
  ·
   intro w'
   go_simp
   with_reducible rfl
  rotate_left
  ·
   simp only [Act.put, cO, cZ, d9, aG, aH]
   rfl
  refine aV (i := 6) (N := some 13) (v := ?_) (a' := ?_) (dG 14 116) rfl rfl (aU HT_.out (by kernel_rfl)) (fun _ _ _ h => h) (Or.inl ⟨by rfl, ?_⟩) ?_ ?_
  rotate_left
  ·
   intro w'
   go_simp
   with_reducible rfl
  rotate_left
  ·
   simp only [Act.put, cO, cZ, d9, aG, aH]
   rfl
  refine bK (i := 0) (N := some 7) (v := ?_) (a' := ?_) (dG 14 117) rfl rfl (bD HT_.out HW_.out (by kernel_rfl)) (fun _ _ _ h => h) (Or.inl ⟨by rfl, ?_⟩) hHeld ?_ ?_
  rotate_left
  ·
   rintro w' ⟨s0, s1⟩
   go_simp
   with_reducible rfl
  rotate_left
  ·
   simp only [Act.put, cO, cZ, d9, aG, aH]
   rfl
  refine bK (i := 7) (N := some 14) (v := ?_) (a' := ?_) (dG 14 245) rfl rfl (bD HT_.out HW_.out (by kernel_rfl)) (fun _ _ _ h => h) (Or.inl ⟨by rfl, ?_⟩) hHeld ?_ ?_
  rotate_left
  ·
   rintro w' ⟨s0, s1⟩
   go_simp
   with_reducible rfl
  rotate_left
  ·
   simp only [Act.put, cO, cZ, d9, aG, aH]
   rfl
  refine aV (i := 8) (N := some 15) (v := ?_) (a' := ?_) (dG 14 501) rfl rfl (aU HT_.out (by kernel_rfl)) (fun _ _ _ h => h) (Or.inl ⟨by rfl, ?_⟩) ?_ ?_
  rotate_left
  ·
   intro w'
   go_simp
   with_reducible rfl
  rotate_left
  ·
   simp only [Act.put, cO, cZ, d9, aG, aH]
   rfl
  refine aV (i := 9) (N := some 16) (v := ?_) (a' := ?_) (dG 14 1013) rfl rfl (aU HT_.out (by kernel_rfl)) (fun _ _ _ h => h) (Or.inl ⟨by rfl, ?_⟩) ?_ ?_
  rotate_left
  ·
   intro w'
   go_simp
   with_reducible rfl
  rotate_left
  ·
   simp only [Act.put, cO, cZ, d9, aG, aH]
   rfl
  refine bR (i := 1) (N := some 8) (dG 14 1015) rfl rfl (bB HT_.out (by kernel_rfl)) (by decide) (fun K hK => ?_)
  refine bQ Try.func140 (by kernel_rfl) rfl #[.agg #[.int .i64 a0_0, .slice A0_1 l0_1.length c0_1]] (by rfl) rfl rfl (by (try simp only [dh, dn, dw]); first | done | rfl | (simp only [dx, dz]; rfl) | (simp only [gt_iff_lt, dA]; rfl) | (simp [Act.eval]; done) | (simp [Act.eval, *]; done)) ?_
  with_reducible refine (code_CheckPolar.calls k a0_0 _ _ l0_1 t174 _ ?side1 ?side2 A3.out).mono ?_
  (case side1 => repeat (first | exact (Kd.bF HR0_1.out HB.out) | (with_reducible refine Kd.bA ?_ _) | (with_reducible refine Kd.bC ?_ _) | (with_reducible refine Kd.bJ ?_)))
  (case side2 => exact HC0_1.out)
  rintro e w20 ⟨rfl, hb⟩
  refine ⟨_, rfl, ?_⟩
  have n0_ := dH (aQ (g := gb173) (o := .cells #[.int .i64 a0_0, .slice A0_1 l0_1.length c0_1] 72 (0, 0)) (by (with_reducible repeat (first | refine av ?_ _ | refine aC ?_ | refine au ?_ _)); exact BK173.out) hb)
  have n1_ := dH (aM (by repeat (first | (with_reducible first | exact HB.out | apply ak | apply ah | apply aj | refine aA ?_ GE173.out) | exact HB.out)) hb)
  clear BK173
  clear HB
  have BK173 := n0_
  have HB := n1_
  clear n0_ n1_
  (try clear hb)
  (try clear hb2)
  (try clear hk)
  (try clear hi)
  refine hK.out _ _ ⟨(ay BK173.out 0).trans rfl, (ay BK173.out 1).trans rfl⟩ (fun hHeld => ?_)
  clear hK K
  refine bG (a' := ?_) ?_ ?_
  rotate_left
  ·
   show Act.put _ (some 8) _ = _
   simp only [Act.put, cO, cZ, d9, aG, aH]
   rfl
  refine bR (i := 3) (N := some 10) (dG 14 1023) rfl rfl (bB HT_.out (by kernel_rfl)) (by decide) (fun K hK => ?_)
  refine bQ Try.func103 (by kernel_rfl) rfl #[.slice A1 l1.length c1] (by rfl) rfl rfl (by (try simp only [dh, dn, dw]); first | done | rfl | (simp only [dx, dz]; rfl) | (simp only [gt_iff_lt, dA]; rfl) | (simp [Act.eval]; done) | (simp [Act.eval, *]; done)) ?_
  with_reducible refine (code_bitsErr.calls _ _ l1 t175 _ ?side1 ?side2 A4.out).mono ?_
  (case side1 => repeat (first | exact (Kd.bF HR1.out HB.out) | (with_reducible refine Kd.bA ?_ _) | (with_reducible refine Kd.bC ?_ _) | (with_reducible refine Kd.bJ ?_)))
  (case side2 => exact HC1.out)
  rintro e w21 ⟨rfl, hb⟩
  refine ⟨_, rfl, ?_⟩
  have n0_ := dH (aQ (g := gb173) (o := .cells #[.int .i64 a0_0, .slice A0_1 l0_1.length c0_1] 72 (0, 0)) (by (with_reducible repeat (first | refine av ?_ _ | refine aC ?_ | refine au ?_ _)); exact BK173.out) hb)
  have n1_ := dH (aM (by repeat (first | (with_reducible first | exact HB.out | apply ak | apply ah | apply aj | refine aA ?_ GE173.out) | exact HB.out)) hb)
  clear BK173
  clear HB
  have BK173 := n0_
  have HB := n1_
  clear n0_ n1_
  (try clear hb)
  (try clear hb2)
  (try clear hk)
  (try clear hi)
  refine hK.out _ _ ⟨(ay BK173.out 0).trans rfl, (ay BK173.out 1).trans rfl⟩ (fun hHeld => ?_)
  clear hK K
  refine bG (a' := ?_) ?_ ?_
  rotate_left
  ·
   show Act.put _ (some 10) _ = _
   simp only [Act.put, cO, cZ, d9, aG, aH]
   rfl
  refine bR (i := 10) (N := some 17) (dG 14 2047) rfl rfl (bB HT_.out (by kernel_rfl)) (by decide) (fun K hK => ?_)
  refine bQ Try.func74 (by kernel_rfl) rfl #[.bool ((l1.length : Int) == (l0_1.length : Int)), .int .i64 10] (by rfl) rfl rfl (by (try simp only [dh, dn, dw]); first | done | rfl | (simp only [dx, dz]; rfl) | (simp only [gt_iff_lt, dA]; rfl) | (simp [Act.eval]; done) | (simp [Act.eval, *]; done)) ?_
  with_reducible refine (code_unless.calls ((l1.length : Int) == (l0_1.length : Int)) 10 t176 _ A5.out).mono ?_
  rintro e w' ⟨rfl, ⟨nd, rfl⟩⟩
  refine ⟨_, rfl, ?_⟩
  refine hK.out _ _ ⟨(ay BK173.out 0).trans rfl, (ay BK173.out 1).trans rfl⟩ (fun hHeld => ?_)
  clear hK K
  refine bG (a' := ?_) ?_ ?_
  rotate_left
  ·
   show Act.put _ (some 17) _ = _
   simp only [Act.put, cO, cZ, d9, aG, aH]
   rfl
  refine bR (i := 11) (N := some 18) (dG 14 4095) rfl rfl (bB HT_.out (by kernel_rfl)) (by decide) (fun K hK => ?_)
  refine Kd.R_lit_step (Kd.int .i64) _ 29 ?hg (N := 18) ?hd (xs := ([t174, t175, t176] : List Int)) (inner := [.int .i64 t174, .int .i64 t175, .int .i64 t176]) (ok := fun _ => True) (okp := fun _ => True) ?hr ?hp (fun _ hk => hk) trivial (Below.refl _ _) (Nat.le_refl _) (by simp) ?_; (case hd => rfl); (case hg => rfl); (case hr => first | (go_simp; done) | (go_simp; rfl)); (case hp => exact (Reps.one (show Kd.M (Kd.int .i64) _ _ _ t174 [.int .i64 t174] from rfl) (Reps.one (show Kd.M (Kd.int .i64) _ _ _ t175 [.int .i64 t175] from rfl) (Reps.one (show Kd.M (Kd.int .i64) _ _ _ t176 [.int .i64 t176] from rfl) (Reps.none _ _)))))
  intro v178 w22 ho23 hb hg_ hnew_
  clear hg_ hnew_
  (first | rw [← Ny177.out] at ho23 | (simp only [Int.reduceToNat] at ho23; rw [← Ny177.out] at ho23))
  have n0_ := dH (Kd.bP ho23 (aK (by repeat (first | (with_reducible first | exact HB.out | apply ak | apply ah | apply aj | refine aA ?_ GE173.out) | exact HB.out))))
  have n1_ := dH (aQ (g := gb173) (o := .cells #[.int .i64 a0_0, .slice A0_1 l0_1.length c0_1] 72 (0, 0)) (by (with_reducible repeat (first | refine av ?_ _ | refine aC ?_ | refine au ?_ _)); exact BK173.out) hb)
  have n2_ := dH (aM (by repeat (first | (with_reducible first | exact HB.out | apply ak | apply ah | apply aj | refine aA ?_ GE173.out) | exact HB.out)) hb)
  clear BK173
  clear HB
  have HO179 := n0_
  have BK173 := n1_
  have HB := n2_
  clear n0_ n1_ n2_
  clear hb ho23
  obtain ⟨Ao24, co24, eo24⟩ := Kd.bN HO179.out
  (first | subst eo24 | (injection eo24 with f1_ f2_ f3_; have f4_ := f1_.symm; have f5_ := f3_.symm; clear f1_ f2_ f3_; subst f4_; subst f5_))
  refine hK.out _ _ ⟨(ay BK173.out 0).trans rfl, (ay BK173.out 1).trans rfl⟩ (fun hHeld => ?_)
  clear hK K
  refine bG (a' := ?_) ?_ ?_
  rotate_left
  ·
   show Act.put _ (some 18) _ = _
   simp only [Act.put, cO, cZ, d9, aG, aH]
   rfl
  refine bR (i := 12) (N := some 19) (dG 14 8191) rfl rfl (bB HT_.out (by kernel_rfl)) (by decide) (fun K hK => ?_)
  refine bQ Try.func72 (by kernel_rfl) rfl #[.slice Ao24 y177.length co24] (by rfl) rfl rfl (by (try simp only [dh, dn, dw]); first | done | rfl | (simp only [dx, dz]; rfl) | (simp only [gt_iff_lt, dA]; rfl) | (simp [Act.eval]; done) | (simp [Act.eval, *]; done)) ?_
  with_reducible refine (code_first.calls k _ _ y177 t180 _ ?side1 ?side2 A6.out).mono ?_
  (case side1 => repeat (first | exact (Kd.aZ HO179.out).2.2 | (with_reducible refine Kd.bA ?_ _) | (with_reducible refine Kd.bC ?_ _) | (with_reducible refine Kd.bJ ?_)))
  (case side2 => exact (Kd.aZ HO179.out).2.1)
  rintro e w' ⟨rfl, ⟨nd, rfl⟩⟩
  refine ⟨_, rfl, ?_⟩
  refine hK.out _ _ ⟨(ay BK173.out 0).trans rfl, (ay BK173.out 1).trans rfl⟩ (fun hHeld => ?_)
  clear hK K
  refine bG (a' := ?_) ?_ ?_
  rotate_left
  ·
   show Act.put _ (some 19) _ = _
   simp only [Act.put, cO, cZ, d9, aG, aH]
   rfl
  refine aV (i := 13) (N := some 6) (v := ?_) (a' := ?_) (dG 14 16383) rfl rfl (aU HT_.out (by kernel_rfl)) (fun _ _ _ h => h) (Or.inl ⟨by rfl, ?_⟩) ?_ ?_
  rotate_left
  ·
   intro w'
   go_simp
   with_reducible rfl
  rotate_left
  ·
   simp only [Act.put, cO, cZ, d9, aG, aH]
   rfl
  refine done_ (cK HT_.out (by kernel_rfl)) ?_
  try go_wp2
  go_ret2
  exact ⟨_, by first | rfl | (simp [aX, aY] <;> rfl) | (simp [*, aX, aY] <;> rfl), by first | exact Kd.R_nil _ _ _ _ _ | exact Kd.N_nil _ _ _ _ _ | exact Kd.V_nil _ _ _ _ _ | exact Kd.Q_nil _ _ _ _ _ | exact Kd.S_nil _ _ _ _ _, by repeat (first | (with_reducible first | exact HB.out | apply ak | apply ah | apply aj | refine aA ?_ GE173.out) | exact HB.out)⟩
def code_Decode.f (k : Nat) (a0_0 : Int) (l0_1 : List Int) (l1 : List Int) : Option (List Int × Int) := (code_CheckPolar.f k a0_0 l0_1).bind fun t192 => ((code_softErr.f l1).bind fun t193 => ((code_first.f k (([t192, t193] : List Int))).bind fun t197 => (if t197 = 0 then (if 0 ≤ a0_0 then (if (l1.length : Int) = (shl .i64 1 a0_0) then ((code_decode.f k a0_0 l0_1 l1).bind fun t198 => (some (t198, 0))) else (some (([] : List Int), 10))) else (none)) else (some (([] : List Int), t197)))))
theorem code_Decode.calls (k : Nat) (a0_0 : Int) (A0_1 : Option Addr) (c0_1 : Nat) (l0_1 : List Int) (A1 : Option Addr) (c1 : Nat) (l1 : List Int) (r1 : List Int) (r2 : Int) (w : World) (hr0_1 : Kd.C (Kd.int .i64) w A0_1 l0_1.length l0_1) (hc0_1 : l0_1.length ≤ c0_1) (hr1 : Kd.C (Kd.int .i64) w A1 l1.length l1) (hc1 : l1.length ≤ c1) (h : code_Decode.f k a0_0 l0_1 l1 = some (r1, r2)) :
  Calls Try.prog 66 #[.agg #[.int .i64 a0_0, .slice A0_1 l0_1.length c0_1], .slice A1 l1.length c1] w fun e w' => ∃ v0_ : Value, e = .returned (.tuple #[v0_, .int .i64 r2]) ∧ Kd.R (Kd.int .i64) 3 w' w.heap.size (fun _ => True) v0_ r1 ∧ Below w.heap.size w w' := by
 have hu72 := Try.underlying72
 have HR0_1 := dH hr0_1
 have HC0_1 := dH hc0_1
 clear hr0_1 hc0_1
 have HR1 := dH hr1
 have HC1 := dH hc1
 clear hr1 hc1
 have HB := dH (Below.refl w.heap.size w)
 have H : ((code_CheckPolar.f k a0_0 l0_1).bind fun t192 => ((code_softErr.f l1).bind fun t193 => ((code_first.f k (([t192, t193] : List Int))).bind fun t197 => (if t197 = 0 then (if 0 ≤ a0_0 then (if (l1.length : Int) = (shl .i64 1 a0_0) then ((code_decode.f k a0_0 l0_1 l1).bind fun t198 => (some (t198, 0))) else (some (([] : List Int), 10))) else (none)) else (some (([] : List Int), t197)))))) = some (r1, r2) := h
 clear h
 replace H := dF.mp H
 obtain ⟨t192, A30, H⟩ := H
 replace H : ((code_softErr.f l1).bind fun t193 => ((code_first.f k (([t192, t193] : List Int))).bind fun t197 => (if t197 = 0 then (if 0 ≤ a0_0 then (if (l1.length : Int) = (shl .i64 1 a0_0) then ((code_decode.f k a0_0 l0_1 l1).bind fun t198 => (some (t198, 0))) else (some (([] : List Int), 10))) else (none)) else (some (([] : List Int), t197))))) = some (r1, r2) := H
 have A3 := dH A30
 clear A30
 replace H := dF.mp H
 obtain ⟨t193, A40, H⟩ := H
 replace H : ((code_first.f k (([t192, t193] : List Int))).bind fun t197 => (if t197 = 0 then (if 0 ≤ a0_0 then (if (l1.length : Int) = (shl .i64 1 a0_0) then ((code_decode.f k a0_0 l0_1 l1).bind fun t198 => (some (t198, 0))) else (some (([] : List Int), 10))) else (none)) else (some (([] : List Int), t197)))) = some (r1, r2) := H
 have A4 := dH A40
 clear A40
 obtain ⟨y194, hy194⟩ : ∃ y_ : List Int, y_ = (([t192, t193] : List Int)) := ⟨_, rfl⟩
 replace H : ((code_first.f k y194).bind fun t197 => (if t197 = 0 then (if 0 ≤ a0_0 then (if (l1.length : Int) = (shl .i64 1 a0_0) then ((code_decode.f k a0_0 l0_1 l1).bind fun t198 => (some (t198, 0))) else (some (([] : List Int), 10))) else (none)) else (some (([] : List Int), t197)))) = some (r1, r2) := by first | (rw [hy194]; with_reducible exact H) | (have H2_ := (Option.bind_some _ _).symm.trans H; rw [hy194]; with_reducible exact H2_) | (have H2_ := (Option.bind_some _ _).symm.trans H; with_reducible exact H2_) | with_reducible exact H | (rw [hy194]; exact H) | exact H
 have Ny194 := dH hy194
 clear hy194
 replace H := dF.mp H
 obtain ⟨t197, A50, H⟩ := H
 replace H : (if t197 = 0 then (if 0 ≤ a0_0 then (if (l1.length : Int) = (shl .i64 1 a0_0) then ((code_decode.f k a0_0 l0_1 l1).bind fun t198 => (some (t198, 0))) else (some (([] : List Int), 10))) else (none)) else (some (([] : List Int), t197))) = some (r1, r2) := H
 have A5 := dH A50
 clear A50
 by_cases c6 : t197 = 0
 ·
  rw [if_pos c6] at H
  have c6b0 : (t197 == 0) = true := beq_iff_eq.mpr c6
  have c6b1 : (t197 != 0) = false := bne_eq_false_iff_eq.mpr c6
  clear c6
  by_cases c7 : 0 ≤ a0_0
  ·
   rw [if_pos c7] at H
   have c7b0 := eq_true c7
   have c7b1 : decide (0 ≤ a0_0) = true := decide_eq_true c7
   clear c7
   obtain ⟨ji8, hji8⟩ : ∃ j_ : Int, (shl .i64 1 a0_0) = j_ := ⟨_, rfl⟩
   replace H : (if (l1.length : Int) = (ji8) then ((code_decode.f k a0_0 l0_1 l1).bind fun t198 => (some (t198, 0))) else (some (([] : List Int), 10))) = some (r1, r2) := by first | (rw [hji8] at H; exact H) | (simp only [hji8] at H ⊢; exact H)
   (try rw [hji8] at A3)
   (try rw [hji8] at A4)
   (try rw [hji8] at A5)
   have hji8_ : (IntKind.i64.wrap (1 * 2 ^ min a0_0.toNat 64)) = ji8 := hji8
   have hji8z : a0_0 ≤ 64 → (IntKind.i64.wrap (1 * 2 ^ a0_0.toNat)) = ji8 := shl_small hji8
   have hji8u : (IntKind.i64.wrap (2 ^ min a0_0.toNat 64)) = ji8 := by have h_ := hji8_; rw [Int.one_mul] at h_; exact h_
   have hji8v : a0_0 ≤ 64 → (IntKind.i64.wrap (2 ^ a0_0.toNat)) = ji8 := fun hle_ => by have h_ := hji8z hle_; rw [Int.one_mul] at h_; exact h_
   have hji8y : (wrap64 (1 * 2 ^ min a0_0.toNat 64)) = ji8 := (aG _).symm.trans hji8_
   have hji8x : a0_0 ≤ 64 → (wrap64 (1 * 2 ^ a0_0.toNat)) = ji8 := fun h_ => (aG _).symm.trans (hji8z h_)
   by_cases c9 : (l1.length : Int) = (ji8)
   ·
    rw [if_pos c9] at H
    have c9b0 : ((l1.length : Int) == (ji8)) = true := beq_iff_eq.mpr c9
    have c9b1 : ((l1.length : Int) != (ji8)) = false := bne_eq_false_iff_eq.mpr c9
    clear c9
    replace H := dF.mp H
    obtain ⟨t198, A100, H⟩ := H
    replace H : (some (t198, 0)) = some (r1, r2) := H
    have A10 := dH A100
    clear A100
    simp only [Option.some.injEq, Prod.mk.injEq] at H
    obtain ⟨rfl, rfl⟩ := H
    go_enter Try.func66, Try.ntmps66
    go_wp2_with (first | ((with_reducible refine bg (N := 2) rfl ?_); refine bI ?hg (N := 2) ?hd (cs := #[.int .i64 a0_0, .slice A0_1 l0_1.length c0_1]) (t := 72) ?hr ?_; (case hd => rfl); (case hg => rfl); (case hr => first | (go_simp; done) | (go_simp; rfl)); intro gb191 hg w11 hbox hb; have n0_ := dH (aM (by repeat (first | (with_reducible first | exact HB.out | apply ak | apply ah | apply aj) | exact HB.out)) hb); have n1_ := dH (hbox); have n2_ := dH ((by rw [hg]; exact (aK (by repeat (first | (with_reducible first | exact HB.out | apply ak | apply ah | apply aj) | exact HB.out))) : w.heap.size ≤ gb191)); have n3_ := dH ((by rw [hg]; exact (aK (by repeat (first | (with_reducible first | exact HB.out | apply ak | apply ah | apply aj) | exact HB.out))) : w.heap.size ≤ gb191)); clear HB; have HB := n0_; have BK191 := n1_; have GW191 := n2_; have GE191 := n3_; clear n0_ n1_ n2_ n3_; clear hb hbox hg; have hcz12_0 : w11.cell? ⟨gb191, 0, none⟩ = some (.int .i64 a0_0) := (ay BK191.out 0).trans rfl; have hcz12_1 : w11.cell? ⟨gb191, 1, none⟩ = some (.slice A0_1 l0_1.length c0_1) := (ay BK191.out 1).trans rfl; have hfz12_0 := aD BK191.out 0; have hfz12_1 := aD BK191.out 1) | ((with_reducible refine aT (f := 140) rfl ?_); refine bq (some 8) rfl rfl Try.func140 (by kernel_rfl) rfl #[.agg #[.int .i64 a0_0, .slice A0_1 l0_1.length c0_1]] rfl (by (try simp only [dh, dn, dw]); first | done | rfl | (simp only [dx, dz]; rfl) | (simp only [gt_iff_lt, dA]; rfl) | (simp [Act.eval]; done) | (simp [Act.eval, *]; done)) ?_; (with_reducible refine (code_CheckPolar.calls k a0_0 _ _ l0_1 t192 _ ?side1 ?side2 A3.out).mono ?_); (case side1 => repeat (first | exact (Kd.bF HR0_1.out HB.out) | (with_reducible refine Kd.bA ?_ _) | (with_reducible refine Kd.bC ?_ _) | (with_reducible refine Kd.bJ ?_))); (case side2 => exact HC0_1.out); rintro e w13 ⟨rfl, hb⟩; refine ⟨_, rfl, ?_⟩; have n0_ := dH (aQ (g := gb191) (o := .cells #[.int .i64 a0_0, .slice A0_1 l0_1.length c0_1] 72 (0, 0)) (by (with_reducible repeat (first | refine av ?_ _ | refine aC ?_ | refine au ?_ _)); exact BK191.out) hb); have n1_ := dH (aM (by repeat (first | (with_reducible first | exact HB.out | apply ak | apply ah | apply aj | refine aA ?_ GE191.out) | exact HB.out)) hb); clear BK191; clear HB; have BK191 := n0_; have HB := n1_; clear n0_ n1_; (try clear hb); (try clear hb2); (try clear hk); (try clear hi)) | ((with_reducible refine aT (f := 77) rfl ?_); refine bq (some 10) rfl rfl Try.func77 (by kernel_rfl) rfl #[.slice A1 l1.length c1] rfl (by (try simp only [dh, dn, dw]); first | done | rfl | (simp only [dx, dz]; rfl) | (simp only [gt_iff_lt, dA]; rfl) | (simp [Act.eval]; done) | (simp [Act.eval, *]; done)) ?_; (with_reducible refine (code_softErr.calls _ _ l1 t193 _ ?side1 ?side2 A4.out).mono ?_); (case side1 => repeat (first | exact (Kd.bF HR1.out HB.out) | (with_reducible refine Kd.bA ?_ _) | (with_reducible refine Kd.bC ?_ _) | (with_reducible refine Kd.bJ ?_))); (case side2 => exact HC1.out); rintro e w14 ⟨rfl, hb⟩; refine ⟨_, rfl, ?_⟩; have n0_ := dH (aQ (g := gb191) (o := .cells #[.int .i64 a0_0, .slice A0_1 l0_1.length c0_1] 72 (0, 0)) (by (with_reducible repeat (first | refine av ?_ _ | refine aC ?_ | refine au ?_ _)); exact BK191.out) hb); have n1_ := dH (aM (by repeat (first | (with_reducible first | exact HB.out | apply ak | apply ah | apply aj | refine aA ?_ GE191.out) | exact HB.out)) hb); clear BK191; clear HB; have BK191 := n0_; have HB := n1_; clear n0_ n1_; (try clear hb); (try clear hb2); (try clear hk); (try clear hi)) | ((with_reducible refine bg (N := 11) rfl ?_); refine Kd.R_lit (Kd.int .i64) _ 29 ?hg (N := 11) ?hd (xs := ([t192, t193] : List Int)) (inner := [.int .i64 t192, .int .i64 t193]) (ok := fun _ => True) (okp := fun _ => True) ?hr ?hp (fun _ hk => hk) trivial (Below.refl _ _) (Nat.le_refl _) (by simp) ?_; (case hd => rfl); (case hg => rfl); (case hr => first | (go_simp; done) | (go_simp; rfl)); (case hp => exact (Reps.one (show Kd.M (Kd.int .i64) _ _ _ t192 [.int .i64 t192] from rfl) (Reps.one (show Kd.M (Kd.int .i64) _ _ _ t193 [.int .i64 t193] from rfl) (Reps.none _ _)))); intro v195 w15 ho16 hb hg_ hnew_; clear hg_ hnew_; (first | rw [← Ny194.out] at ho16 | (simp only [Int.reduceToNat] at ho16; rw [← Ny194.out] at ho16)); have n0_ := dH (Kd.bP ho16 (aK (by repeat (first | (with_reducible first | exact HB.out | apply ak | apply ah | apply aj | refine aA ?_ GE191.out) | exact HB.out)))); have n1_ := dH (aQ (g := gb191) (o := .cells #[.int .i64 a0_0, .slice A0_1 l0_1.length c0_1] 72 (0, 0)) (by (with_reducible repeat (first | refine av ?_ _ | refine aC ?_ | refine au ?_ _)); exact BK191.out) hb); have n2_ := dH (aM (by repeat (first | (with_reducible first | exact HB.out | apply ak | apply ah | apply aj | refine aA ?_ GE191.out) | exact HB.out)) hb); clear BK191; clear HB; have HO196 := n0_; have BK191 := n1_; have HB := n2_; clear n0_ n1_ n2_; clear hb ho16; obtain ⟨Ao17, co17, eo17⟩ := Kd.bN HO196.out; subst eo17) | ((with_reducible refine aT (f := 72) rfl ?_); refine bq (some 12) rfl rfl Try.func72 (by kernel_rfl) rfl #[.slice Ao17 y194.length co17] rfl (by (try simp only [dh, dn, dw]); first | done | rfl | (simp only [dx, dz]; rfl) | (simp only [gt_iff_lt, dA]; rfl) | (simp [Act.eval]; done) | (simp [Act.eval, *]; done)) ?_; (with_reducible refine (code_first.calls k _ _ y194 t197 _ ?side1 ?side2 A5.out).mono ?_); (case side1 => repeat (first | exact (Kd.aZ HO196.out).2.2 | (with_reducible refine Kd.bA ?_ _) | (with_reducible refine Kd.bC ?_ _) | (with_reducible refine Kd.bJ ?_))); (case side2 => exact (Kd.aZ HO196.out).2.1); rintro e w' ⟨rfl, ⟨nd, rfl⟩⟩; refine ⟨_, rfl, ?_⟩; have hcz18_0 : w15.cell? ⟨gb191, 0, none⟩ = some (.int .i64 a0_0) := (ay BK191.out 0).trans rfl; have hcz18_1 : w15.cell? ⟨gb191, 1, none⟩ = some (.slice A0_1 l0_1.length c0_1) := (ay BK191.out 1).trans rfl; have hfz18_0 := aD BK191.out 0; have hfz18_1 := aD BK191.out 1) | ((with_reducible refine aT (f := 115) rfl ?_); refine bq (some 24) rfl rfl Try.func115 (by kernel_rfl) rfl #[.agg #[.int .i64 a0_0, .slice A0_1 l0_1.length c0_1], .slice A1 l1.length c1] rfl (by (try simp only [dh, dn, dw]); first | done | rfl | (simp only [dx, dz]; rfl) | (simp only [gt_iff_lt, dA]; rfl) | (simp [Act.eval]; done) | (simp [Act.eval, *]; done)) ?_; (with_reducible refine (code_decode.calls k a0_0 _ _ l0_1 _ _ l1 t198 _ ?side1 ?side2 ?side3 ?side4 A10.out).mono ?_); (case side1 => repeat (first | exact (Kd.bF HR0_1.out (by repeat (first | (with_reducible first | exact HB.out | apply ak | apply ah | apply aj | refine aA ?_ GE191.out) | exact HB.out))) | (with_reducible refine Kd.bA ?_ _) | (with_reducible refine Kd.bC ?_ _) | (with_reducible refine Kd.bJ ?_))); (case side2 => exact HC0_1.out); (case side3 => repeat (first | exact (Kd.bF HR1.out (by repeat (first | (with_reducible first | exact HB.out | apply ak | apply ah | apply aj | refine aA ?_ GE191.out) | exact HB.out))) | (with_reducible refine Kd.bA ?_ _) | (with_reducible refine Kd.bC ?_ _) | (with_reducible refine Kd.bJ ?_))); (case side4 => exact HC1.out); rintro e w19 ⟨v199, rfl, ho0, hb⟩; refine ⟨_, rfl, ?_⟩; have n0_ := dH (Kd.cu (by (with_reducible repeat (first | apply Kd.aI | apply Kd.aJ | apply Kd.aN)); exact HO196.out) hb); have n1_ := dH (Kd.bP ho0 (aK (by repeat (first | (with_reducible first | exact HB.out | apply ak | apply ah | apply aj | refine aA ?_ GE191.out) | exact HB.out)))); have n2_ := dH (aQ (g := gb191) (o := .cells #[.int .i64 a0_0, .slice A0_1 l0_1.length c0_1] 72 (0, 0)) (by (with_reducible repeat (first | refine av ?_ _ | refine aC ?_ | refine au ?_ _)); exact BK191.out) hb); have n3_ := dH (aM (by repeat (first | (with_reducible first | exact HB.out | apply ak | apply ah | apply aj | refine aA ?_ GE191.out) | exact HB.out)) hb); clear HO196; clear BK191; clear HB; have HO196 := n0_; have HO200 := n1_; have BK191 := n2_; have HB := n3_; clear n0_ n1_ n2_ n3_; (try clear hb); (try clear hb2); (try clear hk); (try clear hi); (try clear ho0)))
    go_ret2
    exact ⟨_, by first | rfl | (simp [aX, aY] <;> rfl) | (simp only [← hji8]; first | rfl | (simp [aX, aY] <;> rfl)) | (simp [*, aX, aY] <;> rfl), by (with_reducible repeat (first | apply Kd.aI | apply Kd.aJ | apply Kd.aN)); exact HO200.out, by repeat (first | (with_reducible first | exact HB.out | apply ak | apply ah | apply aj | refine aA ?_ GE191.out) | exact HB.out)⟩
   ·
    rw [if_neg c9] at H
    have c9b0 : ((l1.length : Int) == (ji8)) = false := beq_eq_false_iff_ne.mpr c9
    have c9b1 : ((l1.length : Int) != (ji8)) = true := bne_iff_ne.mpr c9
    simp only [Option.some.injEq, Prod.mk.injEq] at H
    obtain ⟨rfl, rfl⟩ := H
    go_enter Try.func66, Try.ntmps66
    go_wp2_with (first | ((with_reducible refine bg (N := 2) rfl ?_); refine bI ?hg (N := 2) ?hd (cs := #[.int .i64 a0_0, .slice A0_1 l0_1.length c0_1]) (t := 72) ?hr ?_; (case hd => rfl); (case hg => rfl); (case hr => first | (go_simp; done) | (go_simp; rfl)); intro gb191 hg w20 hbox hb; have n0_ := dH (aM (by repeat (first | (with_reducible first | exact HB.out | apply ak | apply ah | apply aj) | exact HB.out)) hb); have n1_ := dH (hbox); have n2_ := dH ((by rw [hg]; exact (aK (by repeat (first | (with_reducible first | exact HB.out | apply ak | apply ah | apply aj) | exact HB.out))) : w.heap.size ≤ gb191)); have n3_ := dH ((by rw [hg]; exact (aK (by repeat (first | (with_reducible first | exact HB.out | apply ak | apply ah | apply aj) | exact HB.out))) : w.heap.size ≤ gb191)); clear HB; have HB := n0_; have BK191 := n1_; have GW191 := n2_; have GE191 := n3_; clear n0_ n1_ n2_ n3_; clear hb hbox hg; have hcz21_0 : w20.cell? ⟨gb191, 0, none⟩ = some (.int .i64 a0_0) := (ay BK191.out 0).trans rfl; have hcz21_1 : w20.cell? ⟨gb191, 1, none⟩ = some (.slice A0_1 l0_1.length c0_1) := (ay BK191.out 1).trans rfl; have hfz21_0 := aD BK191.out 0; have hfz21_1 := aD BK191.out 1) | ((with_reducible refine aT (f := 140) rfl ?_); refine bq (some 8) rfl rfl Try.func140 (by kernel_rfl) rfl #[.agg #[.int .i64 a0_0, .slice A0_1 l0_1.length c0_1]] rfl (by (try simp only [dh, dn, dw]); first | done | rfl | (simp only [dx, dz]; rfl) | (simp only [gt_iff_lt, dA]; rfl) | (simp [Act.eval]; done) | (simp [Act.eval, *]; done)) ?_; (with_reducible refine (code_CheckPolar.calls k a0_0 _ _ l0_1 t192 _ ?side1 ?side2 A3.out).mono ?_); (case side1 => repeat (first | exact (Kd.bF HR0_1.out HB.out) | (with_reducible refine Kd.bA ?_ _) | (with_reducible refine Kd.bC ?_ _) | (with_reducible refine Kd.bJ ?_))); (case side2 => exact HC0_1.out); rintro e w22 ⟨rfl, hb⟩; refine ⟨_, rfl, ?_⟩; have n0_ := dH (aQ (g := gb191) (o := .cells #[.int .i64 a0_0, .slice A0_1 l0_1.length c0_1] 72 (0, 0)) (by (with_reducible repeat (first | refine av ?_ _ | refine aC ?_ | refine au ?_ _)); exact BK191.out) hb); have n1_ := dH (aM (by repeat (first | (with_reducible first | exact HB.out | apply ak | apply ah | apply aj | refine aA ?_ GE191.out) | exact HB.out)) hb); clear BK191; clear HB; have BK191 := n0_; have HB := n1_; clear n0_ n1_; (try clear hb); (try clear hb2); (try clear hk); (try clear hi)) | ((with_reducible refine aT (f := 77) rfl ?_); refine bq (some 10) rfl rfl Try.func77 (by kernel_rfl) rfl #[.slice A1 l1.length c1] rfl (by (try simp only [dh, dn, dw]); first | done | rfl | (simp only [dx, dz]; rfl) | (simp only [gt_iff_lt, dA]; rfl) | (simp [Act.eval]; done) | (simp [Act.eval, *]; done)) ?_; (with_reducible refine (code_softErr.calls _ _ l1 t193 _ ?side1 ?side2 A4.out).mono ?_); (case side1 => repeat (first | exact (Kd.bF HR1.out HB.out) | (with_reducible refine Kd.bA ?_ _) | (with_reducible refine Kd.bC ?_ _) | (with_reducible refine Kd.bJ ?_))); (case side2 => exact HC1.out); rintro e w23 ⟨rfl, hb⟩; refine ⟨_, rfl, ?_⟩; have n0_ := dH (aQ (g := gb191) (o := .cells #[.int .i64 a0_0, .slice A0_1 l0_1.length c0_1] 72 (0, 0)) (by (with_reducible repeat (first | refine av ?_ _ | refine aC ?_ | refine au ?_ _)); exact BK191.out) hb); have n1_ := dH (aM (by repeat (first | (with_reducible first | exact HB.out | apply ak | apply ah | apply aj | refine aA ?_ GE191.out) | exact HB.out)) hb); clear BK191; clear HB; have BK191 := n0_; have HB := n1_; clear n0_ n1_; (try clear hb); (try clear hb2); (try clear hk); (try clear hi)) | ((with_reducible refine bg (N := 11) rfl ?_); refine Kd.R_lit (Kd.int .i64) _ 29 ?hg (N := 11) ?hd (xs := ([t192, t193] : List Int)) (inner := [.int .i64 t192, .int .i64 t193]) (ok := fun _ => True) (okp := fun _ => True) ?hr ?hp (fun _ hk => hk) trivial (Below.refl _ _) (Nat.le_refl _) (by simp) ?_; (case hd => rfl); (case hg => rfl); (case hr => first | (go_simp; done) | (go_simp; rfl)); (case hp => exact (Reps.one (show Kd.M (Kd.int .i64) _ _ _ t192 [.int .i64 t192] from rfl) (Reps.one (show Kd.M (Kd.int .i64) _ _ _ t193 [.int .i64 t193] from rfl) (Reps.none _ _)))); intro v195 w24 ho25 hb hg_ hnew_; clear hg_ hnew_; (first | rw [← Ny194.out] at ho25 | (simp only [Int.reduceToNat] at ho25; rw [← Ny194.out] at ho25)); have n0_ := dH (Kd.bP ho25 (aK (by repeat (first | (with_reducible first | exact HB.out | apply ak | apply ah | apply aj | refine aA ?_ GE191.out) | exact HB.out)))); have n1_ := dH (aQ (g := gb191) (o := .cells #[.int .i64 a0_0, .slice A0_1 l0_1.length c0_1] 72 (0, 0)) (by (with_reducible repeat (first | refine av ?_ _ | refine aC ?_ | refine au ?_ _)); exact BK191.out) hb); have n2_ := dH (aM (by repeat (first | (with_reducible first | exact HB.out | apply ak | apply ah | apply aj | refine aA ?_ GE191.out) | exact HB.out)) hb); clear BK191; clear HB; have HO196 := n0_; have BK191 := n1_; have HB := n2_; clear n0_ n1_ n2_; clear hb ho25; obtain ⟨Ao26, co26, eo26⟩ := Kd.bN HO196.out; subst eo26) | ((with_reducible refine aT (f := 72) rfl ?_); refine bq (some 12) rfl rfl Try.func72 (by kernel_rfl) rfl #[.slice Ao26 y194.length co26] rfl (by (try simp only [dh, dn, dw]); first | done | rfl | (simp only [dx, dz]; rfl) | (simp only [gt_iff_lt, dA]; rfl) | (simp [Act.eval]; done) | (simp [Act.eval, *]; done)) ?_; (with_reducible refine (code_first.calls k _ _ y194 t197 _ ?side1 ?side2 A5.out).mono ?_); (case side1 => repeat (first | exact (Kd.aZ HO196.out).2.2 | (with_reducible refine Kd.bA ?_ _) | (with_reducible refine Kd.bC ?_ _) | (with_reducible refine Kd.bJ ?_))); (case side2 => exact (Kd.aZ HO196.out).2.1); rintro e w' ⟨rfl, ⟨nd, rfl⟩⟩; refine ⟨_, rfl, ?_⟩; have hcz27_0 : w24.cell? ⟨gb191, 0, none⟩ = some (.int .i64 a0_0) := (ay BK191.out 0).trans rfl; have hcz27_1 : w24.cell? ⟨gb191, 1, none⟩ = some (.slice A0_1 l0_1.length c0_1) := (ay BK191.out 1).trans rfl; have hfz27_0 := aD BK191.out 0; have hfz27_1 := aD BK191.out 1))
    go_ret2
    exact ⟨_, by first | rfl | (simp [aX, aY] <;> rfl) | (simp only [← hji8]; first | rfl | (simp [aX, aY] <;> rfl)) | (simp [*, aX, aY] <;> rfl), by first | exact Kd.R_nil _ _ _ _ _ | exact Kd.N_nil _ _ _ _ _ | exact Kd.V_nil _ _ _ _ _ | exact Kd.Q_nil _ _ _ _ _ | exact Kd.S_nil _ _ _ _ _, by repeat (first | (with_reducible first | exact HB.out | apply ak | apply ah | apply aj | refine aA ?_ GE191.out) | exact HB.out)⟩
  ·
   rw [if_neg c7] at H
   exact absurd H (by simp)
 ·
  rw [if_neg c6] at H
  have c6b0 : (t197 == 0) = false := beq_eq_false_iff_ne.mpr c6
  have c6b1 : (t197 != 0) = true := bne_iff_ne.mpr c6
  simp only [Option.some.injEq, Prod.mk.injEq] at H
  obtain ⟨rfl, rfl⟩ := H
  go_enter Try.func66, Try.ntmps66
  go_wp2_with (first | ((with_reducible refine bg (N := 2) rfl ?_); refine bI ?hg (N := 2) ?hd (cs := #[.int .i64 a0_0, .slice A0_1 l0_1.length c0_1]) (t := 72) ?hr ?_; (case hd => rfl); (case hg => rfl); (case hr => first | (go_simp; done) | (go_simp; rfl)); intro gb191 hg w28 hbox hb; have n0_ := dH (aM (by repeat (first | (with_reducible first | exact HB.out | apply ak | apply ah | apply aj) | exact HB.out)) hb); have n1_ := dH (hbox); have n2_ := dH ((by rw [hg]; exact (aK (by repeat (first | (with_reducible first | exact HB.out | apply ak | apply ah | apply aj) | exact HB.out))) : w.heap.size ≤ gb191)); have n3_ := dH ((by rw [hg]; exact (aK (by repeat (first | (with_reducible first | exact HB.out | apply ak | apply ah | apply aj) | exact HB.out))) : w.heap.size ≤ gb191)); clear HB; have HB := n0_; have BK191 := n1_; have GW191 := n2_; have GE191 := n3_; clear n0_ n1_ n2_ n3_; clear hb hbox hg; have hcz29_0 : w28.cell? ⟨gb191, 0, none⟩ = some (.int .i64 a0_0) := (ay BK191.out 0).trans rfl; have hcz29_1 : w28.cell? ⟨gb191, 1, none⟩ = some (.slice A0_1 l0_1.length c0_1) := (ay BK191.out 1).trans rfl; have hfz29_0 := aD BK191.out 0; have hfz29_1 := aD BK191.out 1) | ((with_reducible refine aT (f := 140) rfl ?_); refine bq (some 8) rfl rfl Try.func140 (by kernel_rfl) rfl #[.agg #[.int .i64 a0_0, .slice A0_1 l0_1.length c0_1]] rfl (by (try simp only [dh, dn, dw]); first | done | rfl | (simp only [dx, dz]; rfl) | (simp only [gt_iff_lt, dA]; rfl) | (simp [Act.eval]; done) | (simp [Act.eval, *]; done)) ?_; (with_reducible refine (code_CheckPolar.calls k a0_0 _ _ l0_1 t192 _ ?side1 ?side2 A3.out).mono ?_); (case side1 => repeat (first | exact (Kd.bF HR0_1.out HB.out) | (with_reducible refine Kd.bA ?_ _) | (with_reducible refine Kd.bC ?_ _) | (with_reducible refine Kd.bJ ?_))); (case side2 => exact HC0_1.out); rintro e w30 ⟨rfl, hb⟩; refine ⟨_, rfl, ?_⟩; have n0_ := dH (aQ (g := gb191) (o := .cells #[.int .i64 a0_0, .slice A0_1 l0_1.length c0_1] 72 (0, 0)) (by (with_reducible repeat (first | refine av ?_ _ | refine aC ?_ | refine au ?_ _)); exact BK191.out) hb); have n1_ := dH (aM (by repeat (first | (with_reducible first | exact HB.out | apply ak | apply ah | apply aj | refine aA ?_ GE191.out) | exact HB.out)) hb); clear BK191; clear HB; have BK191 := n0_; have HB := n1_; clear n0_ n1_; (try clear hb); (try clear hb2); (try clear hk); (try clear hi)) | ((with_reducible refine aT (f := 77) rfl ?_); refine bq (some 10) rfl rfl Try.func77 (by kernel_rfl) rfl #[.slice A1 l1.length c1] rfl (by (try simp only [dh, dn, dw]); first | done | rfl | (simp only [dx, dz]; rfl) | (simp only [gt_iff_lt, dA]; rfl) | (simp [Act.eval]; done) | (simp [Act.eval, *]; done)) ?_; (with_reducible refine (code_softErr.calls _ _ l1 t193 _ ?side1 ?side2 A4.out).mono ?_); (case side1 => repeat (first | exact (Kd.bF HR1.out HB.out) | (with_reducible refine Kd.bA ?_ _) | (with_reducible refine Kd.bC ?_ _) | (with_reducible refine Kd.bJ ?_))); (case side2 => exact HC1.out); rintro e w31 ⟨rfl, hb⟩; refine ⟨_, rfl, ?_⟩; have n0_ := dH (aQ (g := gb191) (o := .cells #[.int .i64 a0_0, .slice A0_1 l0_1.length c0_1] 72 (0, 0)) (by (with_reducible repeat (first | refine av ?_ _ | refine aC ?_ | refine au ?_ _)); exact BK191.out) hb); have n1_ := dH (aM (by repeat (first | (with_reducible first | exact HB.out | apply ak | apply ah | apply aj | refine aA ?_ GE191.out) | exact HB.out)) hb); clear BK191; clear HB; have BK191 := n0_; have HB := n1_; clear n0_ n1_; (try clear hb); (try clear hb2); (try clear hk); (try clear hi)) | ((with_reducible refine bg (N := 11) rfl ?_); refine Kd.R_lit (Kd.int .i64) _ 29 ?hg (N := 11) ?hd (xs := ([t192, t193] : List Int)) (inner := [.int .i64 t192, .int .i64 t193]) (ok := fun _ => True) (okp := fun _ => True) ?hr ?hp (fun _ hk => hk) trivial (Below.refl _ _) (Nat.le_refl _) (by simp) ?_; (case hd => rfl); (case hg => rfl); (case hr => first | (go_simp; done) | (go_simp; rfl)); (case hp => exact (Reps.one (show Kd.M (Kd.int .i64) _ _ _ t192 [.int .i64 t192] from rfl) (Reps.one (show Kd.M (Kd.int .i64) _ _ _ t193 [.int .i64 t193] from rfl) (Reps.none _ _)))); intro v195 w32 ho33 hb hg_ hnew_; clear hg_ hnew_; (first | rw [← Ny194.out] at ho33 | (simp only [Int.reduceToNat] at ho33; rw [← Ny194.out] at ho33)); have n0_ := dH (Kd.bP ho33 (aK (by repeat (first | (with_reducible first | exact HB.out | apply ak | apply ah | apply aj | refine aA ?_ GE191.out) | exact HB.out)))); have n1_ := dH (aQ (g := gb191) (o := .cells #[.int .i64 a0_0, .slice A0_1 l0_1.length c0_1] 72 (0, 0)) (by (with_reducible repeat (first | refine av ?_ _ | refine aC ?_ | refine au ?_ _)); exact BK191.out) hb); have n2_ := dH (aM (by repeat (first | (with_reducible first | exact HB.out | apply ak | apply ah | apply aj | refine aA ?_ GE191.out) | exact HB.out)) hb); clear BK191; clear HB; have HO196 := n0_; have BK191 := n1_; have HB := n2_; clear n0_ n1_ n2_; clear hb ho33; obtain ⟨Ao34, co34, eo34⟩ := Kd.bN HO196.out; subst eo34) | ((with_reducible refine aT (f := 72) rfl ?_); refine bq (some 12) rfl rfl Try.func72 (by kernel_rfl) rfl #[.slice Ao34 y194.length co34] rfl (by (try simp only [dh, dn, dw]); first | done | rfl | (simp only [dx, dz]; rfl) | (simp only [gt_iff_lt, dA]; rfl) | (simp [Act.eval]; done) | (simp [Act.eval, *]; done)) ?_; (with_reducible refine (code_first.calls k _ _ y194 t197 _ ?side1 ?side2 A5.out).mono ?_); (case side1 => repeat (first | exact (Kd.aZ HO196.out).2.2 | (with_reducible refine Kd.bA ?_ _) | (with_reducible refine Kd.bC ?_ _) | (with_reducible refine Kd.bJ ?_))); (case side2 => exact (Kd.aZ HO196.out).2.1); rintro e w' ⟨rfl, ⟨nd, rfl⟩⟩; refine ⟨_, rfl, ?_⟩))
  go_ret2
  exact ⟨_, by first | rfl | (simp [aX, aY] <;> rfl) | (simp [*, aX, aY] <;> rfl), by first | exact Kd.R_nil _ _ _ _ _ | exact Kd.N_nil _ _ _ _ _ | exact Kd.V_nil _ _ _ _ _ | exact Kd.Q_nil _ _ _ _ _ | exact Kd.S_nil _ _ _ _ _, by repeat (first | (with_reducible first | exact HB.out | apply ak | apply ah | apply aj | refine aA ?_ GE191.out) | exact HB.out)⟩
def code_Match.f (k : Nat) (l0 : List Int) (a1 : Int) (a2 : Int) : Option (List Int × Int) := (code_bitsErr.f l0).bind fun t203 => ((code_isVersion.f a1).bind fun t204 => ((code_unless.f t204 15).bind fun t205 => ((code_isCount.f a2).bind fun t206 => ((code_unless.f t206 2).bind fun t207 => ((code_first.f k (([t203, t205, t207] : List Int))).bind fun t211 => (if t211 = 0 then ((code_match.f l0 a1 a2).bind fun t212 => (some (t212, 0))) else (some (([] : List Int), t211))))))))
theorem code_Match.calls (k : Nat) (A0 : Option Addr) (c0 : Nat) (l0 : List Int) (a1 : Int) (a2 : Int) (r1 : List Int) (r2 : Int) (w : World) (hr0 : Kd.C (Kd.int .i64) w A0 l0.length l0) (hc0 : l0.length ≤ c0) (h : code_Match.f k l0 a1 a2 = some (r1, r2)) :
  Calls Try.prog 67 #[.slice A0 l0.length c0, .int .i64 a1, .int .i64 a2] w fun e w' => ∃ v0_ : Value, e = .returned (.tuple #[v0_, .int .i64 r2]) ∧ Kd.R (Kd.int .i64) 3 w' w.heap.size (fun _ => True) v0_ r1 ∧ Below w.heap.size w w' := by
 have HR0 := dH hr0
 have HC0 := dH hc0
 clear hr0 hc0
 have HB := dH (Below.refl w.heap.size w)
 have H : ((code_bitsErr.f l0).bind fun t203 => ((code_isVersion.f a1).bind fun t204 => ((code_unless.f t204 15).bind fun t205 => ((code_isCount.f a2).bind fun t206 => ((code_unless.f t206 2).bind fun t207 => ((code_first.f k (([t203, t205, t207] : List Int))).bind fun t211 => (if t211 = 0 then ((code_match.f l0 a1 a2).bind fun t212 => (some (t212, 0))) else (some (([] : List Int), t211))))))))) = some (r1, r2) := h
 clear h
 replace H := dF.mp H
 obtain ⟨t203, A40, H⟩ := H
 replace H : ((code_isVersion.f a1).bind fun t204 => ((code_unless.f t204 15).bind fun t205 => ((code_isCount.f a2).bind fun t206 => ((code_unless.f t206 2).bind fun t207 => ((code_first.f k (([t203, t205, t207] : List Int))).bind fun t211 => (if t211 = 0 then ((code_match.f l0 a1 a2).bind fun t212 => (some (t212, 0))) else (some (([] : List Int), t211)))))))) = some (r1, r2) := H
 have A4 := dH A40
 clear A40
 replace H := dF.mp H
 obtain ⟨t204, A50, H⟩ := H
 replace H : ((code_unless.f t204 15).bind fun t205 => ((code_isCount.f a2).bind fun t206 => ((code_unless.f t206 2).bind fun t207 => ((code_first.f k (([t203, t205, t207] : List Int))).bind fun t211 => (if t211 = 0 then ((code_match.f l0 a1 a2).bind fun t212 => (some (t212, 0))) else (some (([] : List Int), t211))))))) = some (r1, r2) := H
 have A5 := dH A50
 clear A50
 replace H := dF.mp H
 obtain ⟨t205, A60, H⟩ := H
 replace H : ((code_isCount.f a2).bind fun t206 => ((code_unless.f t206 2).bind fun t207 => ((code_first.f k (([t203, t205, t207] : List Int))).bind fun t211 => (if t211 = 0 then ((code_match.f l0 a1 a2).bind fun t212 => (some (t212, 0))) else (some (([] : List Int), t211)))))) = some (r1, r2) := H
 have A6 := dH A60
 clear A60
 replace H := dF.mp H
 obtain ⟨t206, A70, H⟩ := H
 replace H : ((code_unless.f t206 2).bind fun t207 => ((code_first.f k (([t203, t205, t207] : List Int))).bind fun t211 => (if t211 = 0 then ((code_match.f l0 a1 a2).bind fun t212 => (some (t212, 0))) else (some (([] : List Int), t211))))) = some (r1, r2) := H
 have A7 := dH A70
 clear A70
 replace H := dF.mp H
 obtain ⟨t207, A80, H⟩ := H
 replace H : ((code_first.f k (([t203, t205, t207] : List Int))).bind fun t211 => (if t211 = 0 then ((code_match.f l0 a1 a2).bind fun t212 => (some (t212, 0))) else (some (([] : List Int), t211)))) = some (r1, r2) := H
 have A8 := dH A80
 clear A80
 obtain ⟨y208, hy208⟩ : ∃ y_ : List Int, y_ = (([t203, t205, t207] : List Int)) := ⟨_, rfl⟩
 replace H : ((code_first.f k y208).bind fun t211 => (if t211 = 0 then ((code_match.f l0 a1 a2).bind fun t212 => (some (t212, 0))) else (some (([] : List Int), t211)))) = some (r1, r2) := by first | (rw [hy208]; with_reducible exact H) | (have H2_ := (Option.bind_some _ _).symm.trans H; rw [hy208]; with_reducible exact H2_) | (have H2_ := (Option.bind_some _ _).symm.trans H; with_reducible exact H2_) | with_reducible exact H | (rw [hy208]; exact H) | exact H
 have Ny208 := dH hy208
 clear hy208
 replace H := dF.mp H
 obtain ⟨t211, A90, H⟩ := H
 replace H : (if t211 = 0 then ((code_match.f l0 a1 a2).bind fun t212 => (some (t212, 0))) else (some (([] : List Int), t211))) = some (r1, r2) := H
 have A9 := dH A90
 clear A90
 by_cases c10 : t211 = 0
 ·
  rw [if_pos c10] at H
  have c10b0 : (t211 == 0) = true := beq_iff_eq.mpr c10
  have c10b1 : (t211 != 0) = false := bne_eq_false_iff_eq.mpr c10
  clear c10
  replace H := dF.mp H
  obtain ⟨t212, A110, H⟩ := H
  replace H : (some (t212, 0)) = some (r1, r2) := H
  have A11 := dH A110
  clear A110
  simp only [Option.some.injEq, Prod.mk.injEq] at H
  obtain ⟨rfl, rfl⟩ := H
  go_enter Try.func67, Try.ntmps67
  go_wp2_with (first | ((with_reducible refine aT (f := 103) rfl ?_); refine bq (some 10) rfl rfl Try.func103 (by kernel_rfl) rfl #[.slice A0 l0.length c0] rfl (by (try simp only [dh, dn, dw]); first | done | rfl | (simp only [dx, dz]; rfl) | (simp only [gt_iff_lt, dA]; rfl) | (simp [Act.eval]; done) | (simp [Act.eval, *]; done)) ?_; (with_reducible refine (code_bitsErr.calls _ _ l0 t203 _ ?side1 ?side2 A4.out).mono ?_); (case side1 => repeat (first | exact HR0.out | (with_reducible refine Kd.bA ?_ _) | (with_reducible refine Kd.bC ?_ _) | (with_reducible refine Kd.bJ ?_))); (case side2 => exact HC0.out); rintro e w12 ⟨rfl, hb⟩; refine ⟨_, rfl, ?_⟩; have n0_ := dH (aM (by repeat (first | (with_reducible first | exact HB.out | apply ak | apply ah | apply aj) | exact HB.out)) hb); clear HB; have HB := n0_; clear n0_; (try clear hb); (try clear hb2); (try clear hk); (try clear hi)) | ((with_reducible refine aT (f := 76) rfl ?_); refine bq (some 12) rfl rfl Try.func76 (by kernel_rfl) rfl #[.int .i64 a1] rfl (by (try simp only [dh, dn, dw]); first | done | rfl | (simp only [dx, dz]; rfl) | (simp only [gt_iff_lt, dA]; rfl) | (simp [Act.eval]; done) | (simp [Act.eval, *]; done)) ?_; (with_reducible refine (code_isVersion.calls a1 t204 _ A5.out).mono ?_); rintro e w' ⟨rfl, ⟨nd, rfl⟩⟩; refine ⟨_, rfl, ?_⟩) | ((with_reducible refine aT (f := 74) rfl ?_); refine bq (some 13) rfl rfl Try.func74 (by kernel_rfl) rfl #[.bool t204, .int .i64 15] rfl (by (try simp only [dh, dn, dw]); first | done | rfl | (simp only [dx, dz]; rfl) | (simp only [gt_iff_lt, dA]; rfl) | (simp [Act.eval]; done) | (simp [Act.eval, *]; done)) ?_; (with_reducible refine (code_unless.calls t204 15 t205 _ A6.out).mono ?_); rintro e w' ⟨rfl, ⟨nd, rfl⟩⟩; refine ⟨_, rfl, ?_⟩) | ((with_reducible refine aT (f := 141) rfl ?_); refine bq (some 15) rfl rfl Try.func141 (by kernel_rfl) rfl #[.int .i64 a2] rfl (by (try simp only [dh, dn, dw]); first | done | rfl | (simp only [dx, dz]; rfl) | (simp only [gt_iff_lt, dA]; rfl) | (simp [Act.eval]; done) | (simp [Act.eval, *]; done)) ?_; (with_reducible refine (code_isCount.calls a2 t206 _ A7.out).mono ?_); rintro e w' ⟨rfl, ⟨nd, rfl⟩⟩; refine ⟨_, rfl, ?_⟩) | ((with_reducible refine aT (f := 74) rfl ?_); refine bq (some 16) rfl rfl Try.func74 (by kernel_rfl) rfl #[.bool t206, .int .i64 2] rfl (by (try simp only [dh, dn, dw]); first | done | rfl | (simp only [dx, dz]; rfl) | (simp only [gt_iff_lt, dA]; rfl) | (simp [Act.eval]; done) | (simp [Act.eval, *]; done)) ?_; (with_reducible refine (code_unless.calls t206 2 t207 _ A8.out).mono ?_); rintro e w' ⟨rfl, ⟨nd, rfl⟩⟩; refine ⟨_, rfl, ?_⟩) | ((with_reducible refine bg (N := 17) rfl ?_); refine Kd.R_lit (Kd.int .i64) _ 29 ?hg (N := 17) ?hd (xs := ([t203, t205, t207] : List Int)) (inner := [.int .i64 t203, .int .i64 t205, .int .i64 t207]) (ok := fun _ => True) (okp := fun _ => True) ?hr ?hp (fun _ hk => hk) trivial (Below.refl _ _) (Nat.le_refl _) (by simp) ?_; (case hd => rfl); (case hg => rfl); (case hr => first | (go_simp; done) | (go_simp; rfl)); (case hp => exact (Reps.one (show Kd.M (Kd.int .i64) _ _ _ t203 [.int .i64 t203] from rfl) (Reps.one (show Kd.M (Kd.int .i64) _ _ _ t205 [.int .i64 t205] from rfl) (Reps.one (show Kd.M (Kd.int .i64) _ _ _ t207 [.int .i64 t207] from rfl) (Reps.none _ _))))); intro v209 w13 ho14 hb hg_ hnew_; clear hg_ hnew_; (first | rw [← Ny208.out] at ho14 | (simp only [Int.reduceToNat] at ho14; rw [← Ny208.out] at ho14)); have n0_ := dH (Kd.bP ho14 (aK (by repeat (first | (with_reducible first | exact HB.out | apply ak | apply ah | apply aj) | exact HB.out)))); have n1_ := dH (aM (by repeat (first | (with_reducible first | exact HB.out | apply ak | apply ah | apply aj) | exact HB.out)) hb); clear HB; have HO210 := n0_; have HB := n1_; clear n0_ n1_; clear hb ho14; obtain ⟨Ao15, co15, eo15⟩ := Kd.bN HO210.out; subst eo15) | ((with_reducible refine aT (f := 72) rfl ?_); refine bq (some 18) rfl rfl Try.func72 (by kernel_rfl) rfl #[.slice Ao15 y208.length co15] rfl (by (try simp only [dh, dn, dw]); first | done | rfl | (simp only [dx, dz]; rfl) | (simp only [gt_iff_lt, dA]; rfl) | (simp [Act.eval]; done) | (simp [Act.eval, *]; done)) ?_; (with_reducible refine (code_first.calls k _ _ y208 t211 _ ?side1 ?side2 A9.out).mono ?_); (case side1 => repeat (first | exact (Kd.aZ HO210.out).2.2 | (with_reducible refine Kd.bA ?_ _) | (with_reducible refine Kd.bC ?_ _) | (with_reducible refine Kd.bJ ?_))); (case side2 => exact (Kd.aZ HO210.out).2.1); rintro e w' ⟨rfl, ⟨nd, rfl⟩⟩; refine ⟨_, rfl, ?_⟩) | ((with_reducible refine aT (f := 110) rfl ?_); refine bq (some 25) rfl rfl Try.func110 (by kernel_rfl) rfl #[.slice A0 l0.length c0, .int .i64 a1, .int .i64 a2] rfl (by (try simp only [dh, dn, dw]); first | done | rfl | (simp only [dx, dz]; rfl) | (simp only [gt_iff_lt, dA]; rfl) | (simp [Act.eval]; done) | (simp [Act.eval, *]; done)) ?_; (with_reducible refine (code_match.calls _ _ l0 a1 a2 t212 _ ?side1 ?side2 A11.out).mono ?_); (case side1 => repeat (first | exact (Kd.bF HR0.out (by repeat (first | (with_reducible first | exact HB.out | apply ak | apply ah | apply aj) | exact HB.out))) | (with_reducible refine Kd.bA ?_ _) | (with_reducible refine Kd.bC ?_ _) | (with_reducible refine Kd.bJ ?_))); (case side2 => exact HC0.out); rintro e w16 ⟨v213, rfl, ho0, hb⟩; refine ⟨_, rfl, ?_⟩; have n0_ := dH (Kd.cu (by (with_reducible repeat (first | apply Kd.aI | apply Kd.aJ | apply Kd.aN)); exact HO210.out) hb); have n1_ := dH (Kd.bP ho0 (aK (by repeat (first | (with_reducible first | exact HB.out | apply ak | apply ah | apply aj) | exact HB.out)))); have n2_ := dH (aM (by repeat (first | (with_reducible first | exact HB.out | apply ak | apply ah | apply aj) | exact HB.out)) hb); clear HO210; clear HB; have HO210 := n0_; have HO214 := n1_; have HB := n2_; clear n0_ n1_ n2_; (try clear hb); (try clear hb2); (try clear hk); (try clear hi); (try clear ho0)))
  go_ret2
  exact ⟨_, by first | rfl | (simp [aX, aY] <;> rfl) | (simp [*, aX, aY] <;> rfl), by (with_reducible repeat (first | apply Kd.aI | apply Kd.aJ | apply Kd.aN)); exact HO214.out, by repeat (first | (with_reducible first | exact HB.out | apply ak | apply ah | apply aj) | exact HB.out)⟩
 ·
  rw [if_neg c10] at H
  have c10b0 : (t211 == 0) = false := beq_eq_false_iff_ne.mpr c10
  have c10b1 : (t211 != 0) = true := bne_iff_ne.mpr c10
  simp only [Option.some.injEq, Prod.mk.injEq] at H
  obtain ⟨rfl, rfl⟩ := H
  go_enter Try.func67, Try.ntmps67
  go_wp2_with (first | ((with_reducible refine aT (f := 103) rfl ?_); refine bq (some 10) rfl rfl Try.func103 (by kernel_rfl) rfl #[.slice A0 l0.length c0] rfl (by (try simp only [dh, dn, dw]); first | done | rfl | (simp only [dx, dz]; rfl) | (simp only [gt_iff_lt, dA]; rfl) | (simp [Act.eval]; done) | (simp [Act.eval, *]; done)) ?_; (with_reducible refine (code_bitsErr.calls _ _ l0 t203 _ ?side1 ?side2 A4.out).mono ?_); (case side1 => repeat (first | exact HR0.out | (with_reducible refine Kd.bA ?_ _) | (with_reducible refine Kd.bC ?_ _) | (with_reducible refine Kd.bJ ?_))); (case side2 => exact HC0.out); rintro e w17 ⟨rfl, hb⟩; refine ⟨_, rfl, ?_⟩; have n0_ := dH (aM (by repeat (first | (with_reducible first | exact HB.out | apply ak | apply ah | apply aj) | exact HB.out)) hb); clear HB; have HB := n0_; clear n0_; (try clear hb); (try clear hb2); (try clear hk); (try clear hi)) | ((with_reducible refine aT (f := 76) rfl ?_); refine bq (some 12) rfl rfl Try.func76 (by kernel_rfl) rfl #[.int .i64 a1] rfl (by (try simp only [dh, dn, dw]); first | done | rfl | (simp only [dx, dz]; rfl) | (simp only [gt_iff_lt, dA]; rfl) | (simp [Act.eval]; done) | (simp [Act.eval, *]; done)) ?_; (with_reducible refine (code_isVersion.calls a1 t204 _ A5.out).mono ?_); rintro e w' ⟨rfl, ⟨nd, rfl⟩⟩; refine ⟨_, rfl, ?_⟩) | ((with_reducible refine aT (f := 74) rfl ?_); refine bq (some 13) rfl rfl Try.func74 (by kernel_rfl) rfl #[.bool t204, .int .i64 15] rfl (by (try simp only [dh, dn, dw]); first | done | rfl | (simp only [dx, dz]; rfl) | (simp only [gt_iff_lt, dA]; rfl) | (simp [Act.eval]; done) | (simp [Act.eval, *]; done)) ?_; (with_reducible refine (code_unless.calls t204 15 t205 _ A6.out).mono ?_); rintro e w' ⟨rfl, ⟨nd, rfl⟩⟩; refine ⟨_, rfl, ?_⟩) | ((with_reducible refine aT (f := 141) rfl ?_); refine bq (some 15) rfl rfl Try.func141 (by kernel_rfl) rfl #[.int .i64 a2] rfl (by (try simp only [dh, dn, dw]); first | done | rfl | (simp only [dx, dz]; rfl) | (simp only [gt_iff_lt, dA]; rfl) | (simp [Act.eval]; done) | (simp [Act.eval, *]; done)) ?_; (with_reducible refine (code_isCount.calls a2 t206 _ A7.out).mono ?_); rintro e w' ⟨rfl, ⟨nd, rfl⟩⟩; refine ⟨_, rfl, ?_⟩) | ((with_reducible refine aT (f := 74) rfl ?_); refine bq (some 16) rfl rfl Try.func74 (by kernel_rfl) rfl #[.bool t206, .int .i64 2] rfl (by (try simp only [dh, dn, dw]); first | done | rfl | (simp only [dx, dz]; rfl) | (simp only [gt_iff_lt, dA]; rfl) | (simp [Act.eval]; done) | (simp [Act.eval, *]; done)) ?_; (with_reducible refine (code_unless.calls t206 2 t207 _ A8.out).mono ?_); rintro e w' ⟨rfl, ⟨nd, rfl⟩⟩; refine ⟨_, rfl, ?_⟩) | ((with_reducible refine bg (N := 17) rfl ?_); refine Kd.R_lit (Kd.int .i64) _ 29 ?hg (N := 17) ?hd (xs := ([t203, t205, t207] : List Int)) (inner := [.int .i64 t203, .int .i64 t205, .int .i64 t207]) (ok := fun _ => True) (okp := fun _ => True) ?hr ?hp (fun _ hk => hk) trivial (Below.refl _ _) (Nat.le_refl _) (by simp) ?_; (case hd => rfl); (case hg => rfl); (case hr => first | (go_simp; done) | (go_simp; rfl)); (case hp => exact (Reps.one (show Kd.M (Kd.int .i64) _ _ _ t203 [.int .i64 t203] from rfl) (Reps.one (show Kd.M (Kd.int .i64) _ _ _ t205 [.int .i64 t205] from rfl) (Reps.one (show Kd.M (Kd.int .i64) _ _ _ t207 [.int .i64 t207] from rfl) (Reps.none _ _))))); intro v209 w18 ho19 hb hg_ hnew_; clear hg_ hnew_; (first | rw [← Ny208.out] at ho19 | (simp only [Int.reduceToNat] at ho19; rw [← Ny208.out] at ho19)); have n0_ := dH (Kd.bP ho19 (aK (by repeat (first | (with_reducible first | exact HB.out | apply ak | apply ah | apply aj) | exact HB.out)))); have n1_ := dH (aM (by repeat (first | (with_reducible first | exact HB.out | apply ak | apply ah | apply aj) | exact HB.out)) hb); clear HB; have HO210 := n0_; have HB := n1_; clear n0_ n1_; clear hb ho19; obtain ⟨Ao20, co20, eo20⟩ := Kd.bN HO210.out; subst eo20) | ((with_reducible refine aT (f := 72) rfl ?_); refine bq (some 18) rfl rfl Try.func72 (by kernel_rfl) rfl #[.slice Ao20 y208.length co20] rfl (by (try simp only [dh, dn, dw]); first | done | rfl | (simp only [dx, dz]; rfl) | (simp only [gt_iff_lt, dA]; rfl) | (simp [Act.eval]; done) | (simp [Act.eval, *]; done)) ?_; (with_reducible refine (code_first.calls k _ _ y208 t211 _ ?side1 ?side2 A9.out).mono ?_); (case side1 => repeat (first | exact (Kd.aZ HO210.out).2.2 | (with_reducible refine Kd.bA ?_ _) | (with_reducible refine Kd.bC ?_ _) | (with_reducible refine Kd.bJ ?_))); (case side2 => exact (Kd.aZ HO210.out).2.1); rintro e w' ⟨rfl, ⟨nd, rfl⟩⟩; refine ⟨_, rfl, ?_⟩))
  go_ret2
  exact ⟨_, by first | rfl | (simp [aX, aY] <;> rfl) | (simp [*, aX, aY] <;> rfl), by first | exact Kd.R_nil _ _ _ _ _ | exact Kd.N_nil _ _ _ _ _ | exact Kd.V_nil _ _ _ _ _ | exact Kd.Q_nil _ _ _ _ _ | exact Kd.S_nil _ _ _ _ _, by repeat (first | (with_reducible first | exact HB.out | apply ak | apply ah | apply aj) | exact HB.out)⟩
end Go.Proofs.Ytbjiookpiminmaa.PCode
end
section
namespace Go.Proofs.Ytbjiookpiminmaa.PCode
open Go.RowKit Go.Proofs.YtbjiookpiminmaaW.PrintWords Go.Proofs.YtbjiookpiminmaaW.PrintLast Go.Proofs.YtbjiookpiminmaaW.PrintMore
attribute [local go_sem] max2_int min2_int max_two min_two max_three min_three max_four min_four   -- for this text's walks alone
def downtiltlaw02_awake.f (k : Nat)  : Option (Bool) := (downtiltlaw02_Poly.f).bind fun bt215 => ((code_Remainder.f k bt215.1 bt215.2 (([1] : List Int))).bind fun bt220 => ((downtiltlaw02_Polar.f).bind fun bt224 => ((code_Encode.f k bt224.1 bt224.2 (([1, 0, 1] : List Int))).bind fun bt231 => ((downtiltlaw02_Polar.f).bind fun bt235 => ((code_Decode.f k bt235.1 bt235.2 (([4, 3, (-2), (-5)] : List Int))).bind fun bt242 => ((code_Match.f k (([0, 0, 1, 1, 1] : List Int)) 1 7).bind fun bt249 => (if bt220.2 = 0 then ((downtiltbase_Ints.f k bt220.1 (([0, 1, 1] : List Int))).bind fun t256 => (if t256 = true then (if bt231.2 = 0 then ((downtiltbase_Ints.f k bt231.1 (([0, 0, 1, 1] : List Int))).bind fun t260 => (if t260 = true then (if bt242.2 = 0 then ((downtiltbase_Ints.f k bt242.1 (([1, 0, 1] : List Int))).bind fun t264 => (if t264 = true then (if bt249.2 = 0 then ((downtiltbase_Ints.f k bt249.1 (([0, 1, 1, 1, 0, 0, 1] : List Int))).bind fun t268 => (some t268)) else (none)) else (none))) else (none)) else (none))) else (none)) else (none))) else (none))))))))
theorem downtiltlaw02_awake.calls (k : Nat)  (r : Bool) (w : World) (h : downtiltlaw02_awake.f k  = some r) :
  Calls Try.prog 8 #[] w fun e w' => e = .returned (.bool r) ∧ Below w.heap.size w w' := by
 have HB := dH (Below.refl w.heap.size w)
 have H : ((downtiltlaw02_Poly.f).bind fun bt215 => ((code_Remainder.f k bt215.1 bt215.2 (([1] : List Int))).bind fun bt220 => ((downtiltlaw02_Polar.f).bind fun bt224 => ((code_Encode.f k bt224.1 bt224.2 (([1, 0, 1] : List Int))).bind fun bt231 => ((downtiltlaw02_Polar.f).bind fun bt235 => ((code_Decode.f k bt235.1 bt235.2 (([4, 3, (-2), (-5)] : List Int))).bind fun bt242 => ((code_Match.f k (([0, 0, 1, 1, 1] : List Int)) 1 7).bind fun bt249 => (if bt220.2 = 0 then ((downtiltbase_Ints.f k bt220.1 (([0, 1, 1] : List Int))).bind fun t256 => (if t256 = true then (if bt231.2 = 0 then ((downtiltbase_Ints.f k bt231.1 (([0, 0, 1, 1] : List Int))).bind fun t260 => (if t260 = true then (if bt242.2 = 0 then ((downtiltbase_Ints.f k bt242.1 (([1, 0, 1] : List Int))).bind fun t264 => (if t264 = true then (if bt249.2 = 0 then ((downtiltbase_Ints.f k bt249.1 (([0, 1, 1, 1, 0, 0, 1] : List Int))).bind fun t268 => (some t268)) else (none)) else (none))) else (none)) else (none))) else (none)) else (none))) else (none))))))))) = some r := h
 clear h
 replace H := dF.mp H
 obtain ⟨⟨t215, t216⟩, A10, H⟩ := H
 replace H : ((code_Remainder.f k t215 t216 (([1] : List Int))).bind fun bt220 => ((downtiltlaw02_Polar.f).bind fun bt224 => ((code_Encode.f k bt224.1 bt224.2 (([1, 0, 1] : List Int))).bind fun bt231 => ((downtiltlaw02_Polar.f).bind fun bt235 => ((code_Decode.f k bt235.1 bt235.2 (([4, 3, (-2), (-5)] : List Int))).bind fun bt242 => ((code_Match.f k (([0, 0, 1, 1, 1] : List Int)) 1 7).bind fun bt249 => (if bt220.2 = 0 then ((downtiltbase_Ints.f k bt220.1 (([0, 1, 1] : List Int))).bind fun t256 => (if t256 = true then (if bt231.2 = 0 then ((downtiltbase_Ints.f k bt231.1 (([0, 0, 1, 1] : List Int))).bind fun t260 => (if t260 = true then (if bt242.2 = 0 then ((downtiltbase_Ints.f k bt242.1 (([1, 0, 1] : List Int))).bind fun t264 => (if t264 = true then (if bt249.2 = 0 then ((downtiltbase_Ints.f k bt249.1 (([0, 1, 1, 1, 0, 0, 1] : List Int))).bind fun t268 => (some t268)) else (none)) else (none))) else (none)) else (none))) else (none)) else (none))) else (none)))))))) = some r := H
 have A1 := dH A10
 clear A10
 obtain ⟨y217, hy217⟩ : ∃ y_ : List Int, y_ = (([1] : List Int)) := ⟨_, rfl⟩
 replace H : ((code_Remainder.f k t215 t216 y217).bind fun bt220 => ((downtiltlaw02_Polar.f).bind fun bt224 => ((code_Encode.f k bt224.1 bt224.2 (([1, 0, 1] : List Int))).bind fun bt231 => ((downtiltlaw02_Polar.f).bind fun bt235 => ((code_Decode.f k bt235.1 bt235.2 (([4, 3, (-2), (-5)] : List Int))).bind fun bt242 => ((code_Match.f k (([0, 0, 1, 1, 1] : List Int)) 1 7).bind fun bt249 => (if bt220.2 = 0 then ((downtiltbase_Ints.f k bt220.1 (([0, 1, 1] : List Int))).bind fun t256 => (if t256 = true then (if bt231.2 = 0 then ((downtiltbase_Ints.f k bt231.1 (([0, 0, 1, 1] : List Int))).bind fun t260 => (if t260 = true then (if bt242.2 = 0 then ((downtiltbase_Ints.f k bt242.1 (([1, 0, 1] : List Int))).bind fun t264 => (if t264 = true then (if bt249.2 = 0 then ((downtiltbase_Ints.f k bt249.1 (([0, 1, 1, 1, 0, 0, 1] : List Int))).bind fun t268 => (some t268)) else (none)) else (none))) else (none)) else (none))) else (none)) else (none))) else (none)))))))) = some r := by first | (rw [hy217]; with_reducible exact H) | (have H2_ := (Option.bind_some _ _).symm.trans H; rw [hy217]; with_reducible exact H2_) | (have H2_ := (Option.bind_some _ _).symm.trans H; with_reducible exact H2_) | with_reducible exact H | (rw [hy217]; exact H) | exact H
 have Ny217 := dH hy217
 clear hy217
 replace H := dF.mp H
 obtain ⟨⟨t220, t223⟩, A20, H⟩ := H
 replace H : ((downtiltlaw02_Polar.f).bind fun bt224 => ((code_Encode.f k bt224.1 bt224.2 (([1, 0, 1] : List Int))).bind fun bt231 => ((downtiltlaw02_Polar.f).bind fun bt235 => ((code_Decode.f k bt235.1 bt235.2 (([4, 3, (-2), (-5)] : List Int))).bind fun bt242 => ((code_Match.f k (([0, 0, 1, 1, 1] : List Int)) 1 7).bind fun bt249 => (if t223 = 0 then ((downtiltbase_Ints.f k t220 (([0, 1, 1] : List Int))).bind fun t256 => (if t256 = true then (if bt231.2 = 0 then ((downtiltbase_Ints.f k bt231.1 (([0, 0, 1, 1] : List Int))).bind fun t260 => (if t260 = true then (if bt242.2 = 0 then ((downtiltbase_Ints.f k bt242.1 (([1, 0, 1] : List Int))).bind fun t264 => (if t264 = true then (if bt249.2 = 0 then ((downtiltbase_Ints.f k bt249.1 (([0, 1, 1, 1, 0, 0, 1] : List Int))).bind fun t268 => (some t268)) else (none)) else (none))) else (none)) else (none))) else (none)) else (none))) else (none))))))) = some r := H
 have A2 := dH A20
 clear A20
 replace H := dF.mp H
 obtain ⟨⟨t224, t225⟩, A30, H⟩ := H
 replace H : ((code_Encode.f k t224 t225 (([1, 0, 1] : List Int))).bind fun bt231 => ((downtiltlaw02_Polar.f).bind fun bt235 => ((code_Decode.f k bt235.1 bt235.2 (([4, 3, (-2), (-5)] : List Int))).bind fun bt242 => ((code_Match.f k (([0, 0, 1, 1, 1] : List Int)) 1 7).bind fun bt249 => (if t223 = 0 then ((downtiltbase_Ints.f k t220 (([0, 1, 1] : List Int))).bind fun t256 => (if t256 = true then (if bt231.2 = 0 then ((downtiltbase_Ints.f k bt231.1 (([0, 0, 1, 1] : List Int))).bind fun t260 => (if t260 = true then (if bt242.2 = 0 then ((downtiltbase_Ints.f k bt242.1 (([1, 0, 1] : List Int))).bind fun t264 => (if t264 = true then (if bt249.2 = 0 then ((downtiltbase_Ints.f k bt249.1 (([0, 1, 1, 1, 0, 0, 1] : List Int))).bind fun t268 => (some t268)) else (none)) else (none))) else (none)) else (none))) else (none)) else (none))) else (none)))))) = some r := H
 have A3 := dH A30
 clear A30
 obtain ⟨y228, hy228⟩ : ∃ y_ : List Int, y_ = (([1, 0, 1] : List Int)) := ⟨_, rfl⟩
 replace H : ((code_Encode.f k t224 t225 y228).bind fun bt231 => ((downtiltlaw02_Polar.f).bind fun bt235 => ((code_Decode.f k bt235.1 bt235.2 (([4, 3, (-2), (-5)] : List Int))).bind fun bt242 => ((code_Match.f k (([0, 0, 1, 1, 1] : List Int)) 1 7).bind fun bt249 => (if t223 = 0 then ((downtiltbase_Ints.f k t220 (([0, 1, 1] : List Int))).bind fun t256 => (if t256 = true then (if bt231.2 = 0 then ((downtiltbase_Ints.f k bt231.1 (([0, 0, 1, 1] : List Int))).bind fun t260 => (if t260 = true then (if bt242.2 = 0 then ((downtiltbase_Ints.f k bt242.1 (([1, 0, 1] : List Int))).bind fun t264 => (if t264 = true then (if bt249.2 = 0 then ((downtiltbase_Ints.f k bt249.1 (([0, 1, 1, 1, 0, 0, 1] : List Int))).bind fun t268 => (some t268)) else (none)) else (none))) else (none)) else (none))) else (none)) else (none))) else (none)))))) = some r := by first | (rw [hy228]; with_reducible exact H) | (have H2_ := (Option.bind_some _ _).symm.trans H; rw [hy228]; with_reducible exact H2_) | (have H2_ := (Option.bind_some _ _).symm.trans H; with_reducible exact H2_) | with_reducible exact H | (rw [hy228]; exact H) | exact H
 have Ny228 := dH hy228
 clear hy228
 replace H := dF.mp H
 obtain ⟨⟨t231, t234⟩, A40, H⟩ := H
 replace H : ((downtiltlaw02_Polar.f).bind fun bt235 => ((code_Decode.f k bt235.1 bt235.2 (([4, 3, (-2), (-5)] : List Int))).bind fun bt242 => ((code_Match.f k (([0, 0, 1, 1, 1] : List Int)) 1 7).bind fun bt249 => (if t223 = 0 then ((downtiltbase_Ints.f k t220 (([0, 1, 1] : List Int))).bind fun t256 => (if t256 = true then (if t234 = 0 then ((downtiltbase_Ints.f k t231 (([0, 0, 1, 1] : List Int))).bind fun t260 => (if t260 = true then (if bt242.2 = 0 then ((downtiltbase_Ints.f k bt242.1 (([1, 0, 1] : List Int))).bind fun t264 => (if t264 = true then (if bt249.2 = 0 then ((downtiltbase_Ints.f k bt249.1 (([0, 1, 1, 1, 0, 0, 1] : List Int))).bind fun t268 => (some t268)) else (none)) else (none))) else (none)) else (none))) else (none)) else (none))) else (none))))) = some r := H
 have A4 := dH A40
 clear A40
 replace H := dF.mp H
 obtain ⟨⟨t235, t236⟩, A50, H⟩ := H
 replace H : ((code_Decode.f k t235 t236 (([4, 3, (-2), (-5)] : List Int))).bind fun bt242 => ((code_Match.f k (([0, 0, 1, 1, 1] : List Int)) 1 7).bind fun bt249 => (if t223 = 0 then ((downtiltbase_Ints.f k t220 (([0, 1, 1] : List Int))).bind fun t256 => (if t256 = true then (if t234 = 0 then ((downtiltbase_Ints.f k t231 (([0, 0, 1, 1] : List Int))).bind fun t260 => (if t260 = true then (if bt242.2 = 0 then ((downtiltbase_Ints.f k bt242.1 (([1, 0, 1] : List Int))).bind fun t264 => (if t264 = true then (if bt249.2 = 0 then ((downtiltbase_Ints.f k bt249.1 (([0, 1, 1, 1, 0, 0, 1] : List Int))).bind fun t268 => (some t268)) else (none)) else (none))) else (none)) else (none))) else (none)) else (none))) else (none)))) = some r := H
 have A5 := dH A50
 clear A50
 obtain ⟨y239, hy239⟩ : ∃ y_ : List Int, y_ = (([4, 3, (-2), (-5)] : List Int)) := ⟨_, rfl⟩
 replace H : ((code_Decode.f k t235 t236 y239).bind fun bt242 => ((code_Match.f k (([0, 0, 1, 1, 1] : List Int)) 1 7).bind fun bt249 => (if t223 = 0 then ((downtiltbase_Ints.f k t220 (([0, 1, 1] : List Int))).bind fun t256 => (if t256 = true then (if t234 = 0 then ((downtiltbase_Ints.f k t231 (([0, 0, 1, 1] : List Int))).bind fun t260 => (if t260 = true then (if bt242.2 = 0 then ((downtiltbase_Ints.f k bt242.1 (([1, 0, 1] : List Int))).bind fun t264 => (if t264 = true then (if bt249.2 = 0 then ((downtiltbase_Ints.f k bt249.1 (([0, 1, 1, 1, 0, 0, 1] : List Int))).bind fun t268 => (some t268)) else (none)) else (none))) else (none)) else (none))) else (none)) else (none))) else (none)))) = some r := by first | (rw [hy239]; with_reducible exact H) | (have H2_ := (Option.bind_some _ _).symm.trans H; rw [hy239]; with_reducible exact H2_) | (have H2_ := (Option.bind_some _ _).symm.trans H; with_reducible exact H2_) | with_reducible exact H | (rw [hy239]; exact H) | exact H
 have Ny239 := dH hy239
 clear hy239
 replace H := dF.mp H
 obtain ⟨⟨t242, t245⟩, A60, H⟩ := H
 replace H : ((code_Match.f k (([0, 0, 1, 1, 1] : List Int)) 1 7).bind fun bt249 => (if t223 = 0 then ((downtiltbase_Ints.f k t220 (([0, 1, 1] : List Int))).bind fun t256 => (if t256 = true then (if t234 = 0 then ((downtiltbase_Ints.f k t231 (([0, 0, 1, 1] : List Int))).bind fun t260 => (if t260 = true then (if t245 = 0 then ((downtiltbase_Ints.f k t242 (([1, 0, 1] : List Int))).bind fun t264 => (if t264 = true then (if bt249.2 = 0 then ((downtiltbase_Ints.f k bt249.1 (([0, 1, 1, 1, 0, 0, 1] : List Int))).bind fun t268 => (some t268)) else (none)) else (none))) else (none)) else (none))) else (none)) else (none))) else (none))) = some r := H
 have A6 := dH A60
 clear A60
 obtain ⟨y246, hy246⟩ : ∃ y_ : List Int, y_ = (([0, 0, 1, 1, 1] : List Int)) := ⟨_, rfl⟩
 replace H : ((code_Match.f k y246 1 7).bind fun bt249 => (if t223 = 0 then ((downtiltbase_Ints.f k t220 (([0, 1, 1] : List Int))).bind fun t256 => (if t256 = true then (if t234 = 0 then ((downtiltbase_Ints.f k t231 (([0, 0, 1, 1] : List Int))).bind fun t260 => (if t260 = true then (if t245 = 0 then ((downtiltbase_Ints.f k t242 (([1, 0, 1] : List Int))).bind fun t264 => (if t264 = true then (if bt249.2 = 0 then ((downtiltbase_Ints.f k bt249.1 (([0, 1, 1, 1, 0, 0, 1] : List Int))).bind fun t268 => (some t268)) else (none)) else (none))) else (none)) else (none))) else (none)) else (none))) else (none))) = some r := by first | (rw [hy246]; with_reducible exact H) | (have H2_ := (Option.bind_some _ _).symm.trans H; rw [hy246]; with_reducible exact H2_) | (have H2_ := (Option.bind_some _ _).symm.trans H; with_reducible exact H2_) | with_reducible exact H | (rw [hy246]; exact H) | exact H
 have Ny246 := dH hy246
 clear hy246
 replace H := dF.mp H
 obtain ⟨⟨t249, t250⟩, A70, H⟩ := H
 replace H : (if t223 = 0 then ((downtiltbase_Ints.f k t220 (([0, 1, 1] : List Int))).bind fun t256 => (if t256 = true then (if t234 = 0 then ((downtiltbase_Ints.f k t231 (([0, 0, 1, 1] : List Int))).bind fun t260 => (if t260 = true then (if t245 = 0 then ((downtiltbase_Ints.f k t242 (([1, 0, 1] : List Int))).bind fun t264 => (if t264 = true then (if t250 = 0 then ((downtiltbase_Ints.f k t249 (([0, 1, 1, 1, 0, 0, 1] : List Int))).bind fun t268 => (some t268)) else (none)) else (none))) else (none)) else (none))) else (none)) else (none))) else (none)) = some r := H
 have A7 := dH A70
 clear A70
 by_cases c8 : t223 = 0
 ·
  rw [if_pos c8] at H
  have c8b0 : (t223 == 0) = true := beq_iff_eq.mpr c8
  have c8b1 : (t223 != 0) = false := bne_eq_false_iff_eq.mpr c8
  clear c8
  obtain ⟨y253, hy253⟩ : ∃ y_ : List Int, y_ = (([0, 1, 1] : List Int)) := ⟨_, rfl⟩
  replace H : ((downtiltbase_Ints.f k t220 y253).bind fun t256 => (if t256 = true then (if t234 = 0 then ((downtiltbase_Ints.f k t231 (([0, 0, 1, 1] : List Int))).bind fun t260 => (if t260 = true then (if t245 = 0 then ((downtiltbase_Ints.f k t242 (([1, 0, 1] : List Int))).bind fun t264 => (if t264 = true then (if t250 = 0 then ((downtiltbase_Ints.f k t249 (([0, 1, 1, 1, 0, 0, 1] : List Int))).bind fun t268 => (some t268)) else (none)) else (none))) else (none)) else (none))) else (none)) else (none))) = some r := by first | (rw [hy253]; with_reducible exact H) | (have H2_ := (Option.bind_some _ _).symm.trans H; rw [hy253]; with_reducible exact H2_) | (have H2_ := (Option.bind_some _ _).symm.trans H; with_reducible exact H2_) | with_reducible exact H | (rw [hy253]; exact H) | exact H
  have Ny253 := dH hy253
  clear hy253
  replace H := dF.mp H
  obtain ⟨t256, A90, H⟩ := H
  replace H : (if t256 = true then (if t234 = 0 then ((downtiltbase_Ints.f k t231 (([0, 0, 1, 1] : List Int))).bind fun t260 => (if t260 = true then (if t245 = 0 then ((downtiltbase_Ints.f k t242 (([1, 0, 1] : List Int))).bind fun t264 => (if t264 = true then (if t250 = 0 then ((downtiltbase_Ints.f k t249 (([0, 1, 1, 1, 0, 0, 1] : List Int))).bind fun t268 => (some t268)) else (none)) else (none))) else (none)) else (none))) else (none)) else (none)) = some r := H
  have A9 := dH A90
  clear A90
  by_cases c10 : t256 = true
  ·
   subst c10
   have H1 : (if t234 = 0 then ((downtiltbase_Ints.f k t231 (([0, 0, 1, 1] : List Int))).bind fun t260 => (if t260 = true then (if t245 = 0 then ((downtiltbase_Ints.f k t242 (([1, 0, 1] : List Int))).bind fun t264 => (if t264 = true then (if t250 = 0 then ((downtiltbase_Ints.f k t249 (([0, 1, 1, 1, 0, 0, 1] : List Int))).bind fun t268 => (some t268)) else (none)) else (none))) else (none)) else (none))) else (none)) = some r := by rw [if_pos rfl] at H; exact H
   clear H
   have H := H1
   clear H1
   by_cases c11 : t234 = 0
   ·
    rw [if_pos c11] at H
    have c11b0 : (t234 == 0) = true := beq_iff_eq.mpr c11
    have c11b1 : (t234 != 0) = false := bne_eq_false_iff_eq.mpr c11
    clear c11
    obtain ⟨y257, hy257⟩ : ∃ y_ : List Int, y_ = (([0, 0, 1, 1] : List Int)) := ⟨_, rfl⟩
    replace H : ((downtiltbase_Ints.f k t231 y257).bind fun t260 => (if t260 = true then (if t245 = 0 then ((downtiltbase_Ints.f k t242 (([1, 0, 1] : List Int))).bind fun t264 => (if t264 = true then (if t250 = 0 then ((downtiltbase_Ints.f k t249 (([0, 1, 1, 1, 0, 0, 1] : List Int))).bind fun t268 => (some t268)) else (none)) else (none))) else (none)) else (none))) = some r := by first | (rw [hy257]; with_reducible exact H) | (have H2_ := (Option.bind_some _ _).symm.trans H; rw [hy257]; with_reducible exact H2_) | (have H2_ := (Option.bind_some _ _).symm.trans H; with_reducible exact H2_) | with_reducible exact H | (rw [hy257]; exact H) | exact H
    have Ny257 := dH hy257
    clear hy257
    replace H := dF.mp H
    obtain ⟨t260, A120, H⟩ := H
    replace H : (if t260 = true then (if t245 = 0 then ((downtiltbase_Ints.f k t242 (([1, 0, 1] : List Int))).bind fun t264 => (if t264 = true then (if t250 = 0 then ((downtiltbase_Ints.f k t249 (([0, 1, 1, 1, 0, 0, 1] : List Int))).bind fun t268 => (some t268)) else (none)) else (none))) else (none)) else (none)) = some r := H
    have A12 := dH A120
    clear A120
    by_cases c13 : t260 = true
    ·
     subst c13
     have H1 : (if t245 = 0 then ((downtiltbase_Ints.f k t242 (([1, 0, 1] : List Int))).bind fun t264 => (if t264 = true then (if t250 = 0 then ((downtiltbase_Ints.f k t249 (([0, 1, 1, 1, 0, 0, 1] : List Int))).bind fun t268 => (some t268)) else (none)) else (none))) else (none)) = some r := by rw [if_pos rfl] at H; exact H
     clear H
     have H := H1
     clear H1
     by_cases c14 : t245 = 0
     ·
      rw [if_pos c14] at H
      have c14b0 : (t245 == 0) = true := beq_iff_eq.mpr c14
      have c14b1 : (t245 != 0) = false := bne_eq_false_iff_eq.mpr c14
      clear c14
      obtain ⟨y261, hy261⟩ : ∃ y_ : List Int, y_ = (([1, 0, 1] : List Int)) := ⟨_, rfl⟩
      replace H : ((downtiltbase_Ints.f k t242 y261).bind fun t264 => (if t264 = true then (if t250 = 0 then ((downtiltbase_Ints.f k t249 (([0, 1, 1, 1, 0, 0, 1] : List Int))).bind fun t268 => (some t268)) else (none)) else (none))) = some r := by first | (rw [hy261]; with_reducible exact H) | (have H2_ := (Option.bind_some _ _).symm.trans H; rw [hy261]; with_reducible exact H2_) | (have H2_ := (Option.bind_some _ _).symm.trans H; with_reducible exact H2_) | with_reducible exact H | (rw [hy261]; exact H) | exact H
      have Ny261 := dH hy261
      clear hy261
      replace H := dF.mp H
      obtain ⟨t264, A150, H⟩ := H
      replace H : (if t264 = true then (if t250 = 0 then ((downtiltbase_Ints.f k t249 (([0, 1, 1, 1, 0, 0, 1] : List Int))).bind fun t268 => (some t268)) else (none)) else (none)) = some r := H
      have A15 := dH A150
      clear A150
      by_cases c16 : t264 = true
      ·
       subst c16
       have H1 : (if t250 = 0 then ((downtiltbase_Ints.f k t249 (([0, 1, 1, 1, 0, 0, 1] : List Int))).bind fun t268 => (some t268)) else (none)) = some r := by rw [if_pos rfl] at H; exact H
       clear H
       have H := H1
       clear H1
       by_cases c17 : t250 = 0
       ·
        rw [if_pos c17] at H
        have c17b0 : (t250 == 0) = true := beq_iff_eq.mpr c17
        have c17b1 : (t250 != 0) = false := bne_eq_false_iff_eq.mpr c17
        clear c17
        obtain ⟨y265, hy265⟩ : ∃ y_ : List Int, y_ = (([0, 1, 1, 1, 0, 0, 1] : List Int)) := ⟨_, rfl⟩
        replace H : ((downtiltbase_Ints.f k t249 y265).bind fun t268 => (some t268)) = some r := by first | (rw [hy265]; with_reducible exact H) | (have H2_ := (Option.bind_some _ _).symm.trans H; rw [hy265]; with_reducible exact H2_) | (have H2_ := (Option.bind_some _ _).symm.trans H; with_reducible exact H2_) | with_reducible exact H | (rw [hy265]; exact H) | exact H
        have Ny265 := dH hy265
        clear hy265
        replace H := dF.mp H
        obtain ⟨t268, A180, H⟩ := H
        replace H : (some t268) = some r := H
        have A18 := dH A180
        clear A180
        obtain rfl := Option.some.inj H
        go_enter Try.func8, Try.ntmps8
        go_wp2_with (first | ((with_reducible refine aT (f := 63) rfl ?_); refine bq (some 10) rfl rfl Try.func63 (by kernel_rfl) rfl #[] rfl (by (try simp only [dh, dn, dw]); first | done | rfl | (simp only [dx, dz]; rfl) | (simp only [gt_iff_lt, dA]; rfl) | (simp [Act.eval]; done) | (simp [Act.eval, *]; done)) ?_; (with_reducible refine (downtiltlaw02_Poly.calls  t215 t216 _ A1.out).mono ?_); rintro e w19 ⟨rfl, hb⟩; refine ⟨_, rfl, ?_⟩; have n0_ := dH (aM (by repeat (first | (with_reducible first | exact HB.out | apply ak | apply ah | apply aj) | exact HB.out)) hb); clear HB; have HB := n0_; clear n0_; (try clear hb); (try clear hb2); (try clear hk); (try clear hi)) | ((with_reducible refine bg (N := 11) rfl ?_); (try (refine gate_guard (by rfl) ?_; dsimp only)); refine Kd.R_lit (Kd.int .i64) _ 3 ?hg (N := 11) ?hd (xs := ([1] : List Int)) (inner := [.int .i64 1]) (ok := fun _ => True) (okp := fun _ => True) ?hr ?hp (fun _ hk => hk) trivial (Below.refl _ _) (Nat.le_refl _) (by simp) ?_; (case hd => rfl); (case hg => rfl); (case hr => first | (go_simp; done) | (go_simp; rfl)); (case hp => exact (Reps.one (show Kd.M (Kd.int .i64) _ _ _ 1 [.int .i64 1] from rfl) (Reps.none _ _))); intro v218 w20 ho21 hb hg_ hnew_; clear hg_ hnew_; (first | rw [← Ny217.out] at ho21 | (simp only [Int.reduceToNat] at ho21; rw [← Ny217.out] at ho21)); have n0_ := dH (Kd.bP ho21 (aK (by repeat (first | (with_reducible first | exact HB.out | apply ak | apply ah | apply aj) | exact HB.out)))); have n1_ := dH (aM (by repeat (first | (with_reducible first | exact HB.out | apply ak | apply ah | apply aj) | exact HB.out)) hb); clear HB; have HO219 := n0_; have HB := n1_; clear n0_ n1_; clear hb ho21; obtain ⟨Ao22, co22, eo22⟩ := Kd.bN HO219.out; subst eo22) | ((with_reducible refine aT (f := 62) rfl ?_); refine bq (some 12) rfl rfl Try.func62 (by kernel_rfl) rfl #[.agg #[.int .i64 t215, .int .i64 t216], .slice Ao22 y217.length co22] rfl (by (try simp only [dh, dn, dw]); first | done | rfl | (simp only [dx, dz]; rfl) | (simp only [gt_iff_lt, dA]; rfl) | (simp [Act.eval]; done) | (simp [Act.eval, *]; done)) ?_; (with_reducible refine (code_Remainder.calls k t215 t216 _ _ y217 t220 t223 _ ?side1 ?side2 A2.out).mono ?_); (case side1 => repeat (first | exact (Kd.aZ HO219.out).2.2 | (with_reducible refine Kd.bA ?_ _) | (with_reducible refine Kd.bC ?_ _) | (with_reducible refine Kd.bJ ?_))); (case side2 => exact (Kd.aZ HO219.out).2.1); rintro e w23 ⟨v221, rfl, ho0, hb⟩; refine ⟨_, rfl, ?_⟩; have n0_ := dH (Kd.bf (by (with_reducible repeat (first | apply Kd.aI | apply Kd.aJ | apply Kd.aN)); exact HO219.out) (Kd.bE ho0) hb); have n1_ := dH (Kd.bP (Kd.bH ho0 (Kd.bT (by (with_reducible repeat (first | apply Kd.aI | apply Kd.aJ | apply Kd.aN)); exact HO219.out))) (aK (by repeat (first | (with_reducible first | exact HB.out | apply ak | apply ah | apply aj) | exact HB.out)))); have n2_ := dH (aM (by repeat (first | (with_reducible first | exact HB.out | apply ak | apply ah | apply aj) | exact HB.out)) hb); clear HO219; clear HB; have HO219 := n0_; have HO222 := n1_; have HB := n2_; clear n0_ n1_ n2_; (try clear hb); (try clear hb2); (try clear hk); (try clear hi); (try clear ho0)) | ((with_reducible refine aT (f := 65) rfl ?_); refine bq (some 16) rfl rfl Try.func65 (by kernel_rfl) rfl #[] rfl (by (try simp only [dh, dn, dw]); first | done | rfl | (simp only [dx, dz]; rfl) | (simp only [gt_iff_lt, dA]; rfl) | (simp [Act.eval]; done) | (simp [Act.eval, *]; done)) ?_; (with_reducible refine (downtiltlaw02_Polar.calls  t224 t225 _ A3.out).mono ?_); rintro e w24 ⟨v226, rfl, ho0, hb⟩; refine ⟨_, rfl, ?_⟩; have n0_ := dH (Kd.bf (by (with_reducible repeat (first | apply Kd.aI | apply Kd.aJ | apply Kd.aN)); exact HO219.out) (Kd.bE ho0) hb); have n1_ := dH (Kd.bf (by (with_reducible repeat (first | apply Kd.aI | apply Kd.aJ | apply Kd.aN)); exact HO222.out) (Kd.bE ho0) hb); have n2_ := dH (Kd.bP (Kd.bH (Kd.bH ho0 (Kd.bT (by (with_reducible repeat (first | apply Kd.aI | apply Kd.aJ | apply Kd.aN)); exact HO219.out))) (Kd.bT (by (with_reducible repeat (first | apply Kd.aI | apply Kd.aJ | apply Kd.aN)); exact HO222.out))) (aK (by repeat (first | (with_reducible first | exact HB.out | apply ak | apply ah | apply aj) | exact HB.out)))); have n3_ := dH (aM (by repeat (first | (with_reducible first | exact HB.out | apply ak | apply ah | apply aj) | exact HB.out)) hb); clear HO219; clear HO222; clear HB; have HO219 := n0_; have HO222 := n1_; have HO227 := n2_; have HB := n3_; clear n0_ n1_ n2_ n3_; (try clear hb); (try clear hb2); (try clear hk); (try clear hi); (try clear ho0)) | ((with_reducible refine bg (N := 17) rfl ?_); (try (refine gate_guard (by rfl) ?_; dsimp only)); refine Kd.R_lit (Kd.int .i64) _ 3 ?hg (N := 17) ?hd (xs := ([1, 0, 1] : List Int)) (inner := [.int .i64 1, .int .i64 0, .int .i64 1]) (ok := fun _ => True) (okp := fun _ => True) ?hr ?hp (fun _ hk => hk) trivial (Below.refl _ _) (Nat.le_refl _) (by simp) ?_; (case hd => rfl); (case hg => rfl); (case hr => first | (go_simp; done) | (go_simp; rfl)); (case hp => exact (Reps.one (show Kd.M (Kd.int .i64) _ _ _ 1 [.int .i64 1] from rfl) (Reps.one (show Kd.M (Kd.int .i64) _ _ _ 0 [.int .i64 0] from rfl) (Reps.one (show Kd.M (Kd.int .i64) _ _ _ 1 [.int .i64 1] from rfl) (Reps.none _ _))))); intro v229 w25 ho26 hb hg_ hnew_; clear hg_ hnew_; (first | rw [← Ny228.out] at ho26 | (simp only [Int.reduceToNat] at ho26; rw [← Ny228.out] at ho26)); have n0_ := dH (Kd.bf (by (with_reducible repeat (first | apply Kd.aI | apply Kd.aJ | apply Kd.aN)); exact HO219.out) (Kd.bE ho26) hb); have n1_ := dH (Kd.bf (by (with_reducible repeat (first | apply Kd.aI | apply Kd.aJ | apply Kd.aN)); exact HO222.out) (Kd.bE ho26) hb); have n2_ := dH (Kd.bf (by (with_reducible repeat (first | apply Kd.aI | apply Kd.aJ | apply Kd.aN)); exact HO227.out) (Kd.bE ho26) hb); have n3_ := dH (Kd.bP (Kd.bH (Kd.bH (Kd.bH ho26 (Kd.bT (by (with_reducible repeat (first | apply Kd.aI | apply Kd.aJ | apply Kd.aN)); exact HO219.out))) (Kd.bT (by (with_reducible repeat (first | apply Kd.aI | apply Kd.aJ | apply Kd.aN)); exact HO222.out))) (Kd.bT (by (with_reducible repeat (first | apply Kd.aI | apply Kd.aJ | apply Kd.aN)); exact HO227.out))) (aK (by repeat (first | (with_reducible first | exact HB.out | apply ak | apply ah | apply aj) | exact HB.out)))); have n4_ := dH (aM (by repeat (first | (with_reducible first | exact HB.out | apply ak | apply ah | apply aj) | exact HB.out)) hb); clear HO219; clear HO222; clear HO227; clear HB; have HO219 := n0_; have HO222 := n1_; have HO227 := n2_; have HO230 := n3_; have HB := n4_; clear n0_ n1_ n2_ n3_ n4_; clear hb ho26; obtain ⟨Ao27, co27, eo27⟩ := Kd.bN HO227.out; subst eo27; obtain ⟨Ao28, co28, eo28⟩ := Kd.bN HO230.out; subst eo28) | ((with_reducible refine aT (f := 64) rfl ?_); refine bq (some 18) rfl rfl Try.func64 (by kernel_rfl) rfl #[.agg #[.int .i64 t224, .slice Ao27 t225.length co27], .slice Ao28 y228.length co28] rfl (by (try simp only [dh, dn, dw]); first | done | rfl | (simp only [dx, dz]; rfl) | (simp only [gt_iff_lt, dA]; rfl) | (simp [Act.eval]; done) | (simp [Act.eval, *]; done)) ?_; (with_reducible refine (code_Encode.calls k t224 _ _ t225 _ _ y228 t231 t234 _ ?side1 ?side2 ?side3 ?side4 A4.out).mono ?_); (case side1 => repeat (first | exact (Kd.aZ HO227.out).2.2 | (with_reducible refine Kd.bA ?_ _) | (with_reducible refine Kd.bC ?_ _) | (with_reducible refine Kd.bJ ?_))); (case side2 => exact (Kd.aZ HO227.out).2.1); (case side3 => repeat (first | exact (Kd.aZ HO230.out).2.2 | (with_reducible refine Kd.bA ?_ _) | (with_reducible refine Kd.bC ?_ _) | (with_reducible refine Kd.bJ ?_))); (case side4 => exact (Kd.aZ HO230.out).2.1); rintro e w29 ⟨v232, rfl, ho0, hb⟩; refine ⟨_, rfl, ?_⟩; have n0_ := dH (Kd.bf (by (with_reducible repeat (first | apply Kd.aI | apply Kd.aJ | apply Kd.aN)); exact HO219.out) (Kd.bE ho0) hb); have n1_ := dH (Kd.bf (by (with_reducible repeat (first | apply Kd.aI | apply Kd.aJ | apply Kd.aN)); exact HO222.out) (Kd.bE ho0) hb); have n2_ := dH (Kd.bf (by (with_reducible repeat (first | apply Kd.aI | apply Kd.aJ | apply Kd.aN)); exact HO227.out) (Kd.bE ho0) hb); have n3_ := dH (Kd.bf (by (with_reducible repeat (first | apply Kd.aI | apply Kd.aJ | apply Kd.aN)); exact HO230.out) (Kd.bE ho0) hb); have n4_ := dH (Kd.bP (Kd.bH (Kd.bH (Kd.bH (Kd.bH ho0 (Kd.bT (by (with_reducible repeat (first | apply Kd.aI | apply Kd.aJ | apply Kd.aN)); exact HO219.out))) (Kd.bT (by (with_reducible repeat (first | apply Kd.aI | apply Kd.aJ | apply Kd.aN)); exact HO222.out))) (Kd.bT (by (with_reducible repeat (first | apply Kd.aI | apply Kd.aJ | apply Kd.aN)); exact HO227.out))) (Kd.bT (by (with_reducible repeat (first | apply Kd.aI | apply Kd.aJ | apply Kd.aN)); exact HO230.out))) (aK (by repeat (first | (with_reducible first | exact HB.out | apply ak | apply ah | apply aj) | exact HB.out)))); have n5_ := dH (aM (by repeat (first | (with_reducible first | exact HB.out | apply ak | apply ah | apply aj) | exact HB.out)) hb); clear HO219; clear HO222; clear HO227; clear HO230; clear HB; have HO219 := n0_; have HO222 := n1_; have HO227 := n2_; have HO230 := n3_; have HO233 := n4_; have HB := n5_; clear n0_ n1_ n2_ n3_ n4_ n5_; (try clear hb); (try clear hb2); (try clear hk); (try clear hi); (try clear ho0)) | ((with_reducible refine aT (f := 65) rfl ?_); refine bq (some 22) rfl rfl Try.func65 (by kernel_rfl) rfl #[] rfl (by (try simp only [dh, dn, dw]); first | done | rfl | (simp only [dx, dz]; rfl) | (simp only [gt_iff_lt, dA]; rfl) | (simp [Act.eval]; done) | (simp [Act.eval, *]; done)) ?_; (with_reducible refine (downtiltlaw02_Polar.calls  t235 t236 _ A5.out).mono ?_); rintro e w30 ⟨v237, rfl, ho0, hb⟩; refine ⟨_, rfl, ?_⟩; have n0_ := dH (Kd.bf (by (with_reducible repeat (first | apply Kd.aI | apply Kd.aJ | apply Kd.aN)); exact HO219.out) (Kd.bE ho0) hb); have n1_ := dH (Kd.bf (by (with_reducible repeat (first | apply Kd.aI | apply Kd.aJ | apply Kd.aN)); exact HO222.out) (Kd.bE ho0) hb); have n2_ := dH (Kd.bf (by (with_reducible repeat (first | apply Kd.aI | apply Kd.aJ | apply Kd.aN)); exact HO227.out) (Kd.bE ho0) hb); have n3_ := dH (Kd.bf (by (with_reducible repeat (first | apply Kd.aI | apply Kd.aJ | apply Kd.aN)); exact HO230.out) (Kd.bE ho0) hb); have n4_ := dH (Kd.bf (by (with_reducible repeat (first | apply Kd.aI | apply Kd.aJ | apply Kd.aN)); exact HO233.out) (Kd.bE ho0) hb); have n5_ := dH (Kd.bP (Kd.bH (Kd.bH (Kd.bH (Kd.bH (Kd.bH ho0 (Kd.bT (by (with_reducible repeat (first | apply Kd.aI | apply Kd.aJ | apply Kd.aN)); exact HO219.out))) (Kd.bT (by (with_reducible repeat (first | apply Kd.aI | apply Kd.aJ | apply Kd.aN)); exact HO222.out))) (Kd.bT (by (with_reducible repeat (first | apply Kd.aI | apply Kd.aJ | apply Kd.aN)); exact HO227.out))) (Kd.bT (by (with_reducible repeat (first | apply Kd.aI | apply Kd.aJ | apply Kd.aN)); exact HO230.out))) (Kd.bT (by (with_reducible repeat (first | apply Kd.aI | apply Kd.aJ | apply Kd.aN)); exact HO233.out))) (aK (by repeat (first | (with_reducible first | exact HB.out | apply ak | apply ah | apply aj) | exact HB.out)))); have n6_ := dH (aM (by repeat (first | (with_reducible first | exact HB.out | apply ak | apply ah | apply aj) | exact HB.out)) hb); clear HO219; clear HO222; clear HO227; clear HO230; clear HO233; clear HB; have HO219 := n0_; have HO222 := n1_; have HO227 := n2_; have HO230 := n3_; have HO233 := n4_; have HO238 := n5_; have HB := n6_; clear n0_ n1_ n2_ n3_ n4_ n5_ n6_; (try clear hb); (try clear hb2); (try clear hk); (try clear hi); (try clear ho0)) | ((with_reducible refine bg (N := 23) rfl ?_); (try (refine gate_guard (by rfl) ?_; dsimp only)); refine Kd.R_lit (Kd.int .i64) _ 3 ?hg (N := 23) ?hd (xs := ([4, 3, (-2), (-5)] : List Int)) (inner := [.int .i64 4, .int .i64 3, .int .i64 (-2), .int .i64 (-5)]) (ok := fun _ => True) (okp := fun _ => True) ?hr ?hp (fun _ hk => hk) trivial (Below.refl _ _) (Nat.le_refl _) (by simp) ?_; (case hd => rfl); (case hg => rfl); (case hr => first | (go_simp; done) | (go_simp; rfl)); (case hp => exact (Reps.one (show Kd.M (Kd.int .i64) _ _ _ 4 [.int .i64 4] from rfl) (Reps.one (show Kd.M (Kd.int .i64) _ _ _ 3 [.int .i64 3] from rfl) (Reps.one (show Kd.M (Kd.int .i64) _ _ _ (-2) [.int .i64 (-2)] from rfl) (Reps.one (show Kd.M (Kd.int .i64) _ _ _ (-5) [.int .i64 (-5)] from rfl) (Reps.none _ _)))))); intro v240 w31 ho32 hb hg_ hnew_; clear hg_ hnew_; (first | rw [← Ny239.out] at ho32 | (simp only [Int.reduceToNat] at ho32; rw [← Ny239.out] at ho32)); have n0_ := dH (Kd.bf (by (with_reducible repeat (first | apply Kd.aI | apply Kd.aJ | apply Kd.aN)); exact HO219.out) (Kd.bE ho32) hb); have n1_ := dH (Kd.bf (by (with_reducible repeat (first | apply Kd.aI | apply Kd.aJ | apply Kd.aN)); exact HO222.out) (Kd.bE ho32) hb); have n2_ := dH (Kd.bf (by (with_reducible repeat (first | apply Kd.aI | apply Kd.aJ | apply Kd.aN)); exact HO227.out) (Kd.bE ho32) hb); have n3_ := dH (Kd.bf (by (with_reducible repeat (first | apply Kd.aI | apply Kd.aJ | apply Kd.aN)); exact HO230.out) (Kd.bE ho32) hb); have n4_ := dH (Kd.bf (by (with_reducible repeat (first | apply Kd.aI | apply Kd.aJ | apply Kd.aN)); exact HO233.out) (Kd.bE ho32) hb); have n5_ := dH (Kd.bf (by (with_reducible repeat (first | apply Kd.aI | apply Kd.aJ | apply Kd.aN)); exact HO238.out) (Kd.bE ho32) hb); have n6_ := dH (Kd.bP (Kd.bH (Kd.bH (Kd.bH (Kd.bH (Kd.bH (Kd.bH ho32 (Kd.bT (by (with_reducible repeat (first | apply Kd.aI | apply Kd.aJ | apply Kd.aN)); exact HO219.out))) (Kd.bT (by (with_reducible repeat (first | apply Kd.aI | apply Kd.aJ | apply Kd.aN)); exact HO222.out))) (Kd.bT (by (with_reducible repeat (first | apply Kd.aI | apply Kd.aJ | apply Kd.aN)); exact HO227.out))) (Kd.bT (by (with_reducible repeat (first | apply Kd.aI | apply Kd.aJ | apply Kd.aN)); exact HO230.out))) (Kd.bT (by (with_reducible repeat (first | apply Kd.aI | apply Kd.aJ | apply Kd.aN)); exact HO233.out))) (Kd.bT (by (with_reducible repeat (first | apply Kd.aI | apply Kd.aJ | apply Kd.aN)); exact HO238.out))) (aK (by repeat (first | (with_reducible first | exact HB.out | apply ak | apply ah | apply aj) | exact HB.out)))); have n7_ := dH (aM (by repeat (first | (with_reducible first | exact HB.out | apply ak | apply ah | apply aj) | exact HB.out)) hb); clear HO219; clear HO222; clear HO227; clear HO230; clear HO233; clear HO238; clear HB; have HO219 := n0_; have HO222 := n1_; have HO227 := n2_; have HO230 := n3_; have HO233 := n4_; have HO238 := n5_; have HO241 := n6_; have HB := n7_; clear n0_ n1_ n2_ n3_ n4_ n5_ n6_ n7_; clear hb ho32; obtain ⟨Ao33, co33, eo33⟩ := Kd.bN HO238.out; subst eo33; obtain ⟨Ao34, co34, eo34⟩ := Kd.bN HO241.out; subst eo34) | ((with_reducible refine aT (f := 66) rfl ?_); refine bq (some 24) rfl rfl Try.func66 (by kernel_rfl) rfl #[.agg #[.int .i64 t235, .slice Ao33 t236.length co33], .slice Ao34 y239.length co34] rfl (by (try simp only [dh, dn, dw]); first | done | rfl | (simp only [dx, dz]; rfl) | (simp only [gt_iff_lt, dA]; rfl) | (simp [Act.eval]; done) | (simp [Act.eval, *]; done)) ?_; (with_reducible refine (code_Decode.calls k t235 _ _ t236 _ _ y239 t242 t245 _ ?side1 ?side2 ?side3 ?side4 A6.out).mono ?_); (case side1 => repeat (first | exact (Kd.aZ HO238.out).2.2 | (with_reducible refine Kd.bA ?_ _) | (with_reducible refine Kd.bC ?_ _) | (with_reducible refine Kd.bJ ?_))); (case side2 => exact (Kd.aZ HO238.out).2.1); (case side3 => repeat (first | exact (Kd.aZ HO241.out).2.2 | (with_reducible refine Kd.bA ?_ _) | (with_reducible refine Kd.bC ?_ _) | (with_reducible refine Kd.bJ ?_))); (case side4 => exact (Kd.aZ HO241.out).2.1); rintro e w35 ⟨v243, rfl, ho0, hb⟩; refine ⟨_, rfl, ?_⟩; have n0_ := dH (Kd.bf (by (with_reducible repeat (first | apply Kd.aI | apply Kd.aJ | apply Kd.aN)); exact HO219.out) (Kd.bE ho0) hb); have n1_ := dH (Kd.bf (by (with_reducible repeat (first | apply Kd.aI | apply Kd.aJ | apply Kd.aN)); exact HO222.out) (Kd.bE ho0) hb); have n2_ := dH (Kd.bf (by (with_reducible repeat (first | apply Kd.aI | apply Kd.aJ | apply Kd.aN)); exact HO227.out) (Kd.bE ho0) hb); have n3_ := dH (Kd.bf (by (with_reducible repeat (first | apply Kd.aI | apply Kd.aJ | apply Kd.aN)); exact HO230.out) (Kd.bE ho0) hb); have n4_ := dH (Kd.bf (by (with_reducible repeat (first | apply Kd.aI | apply Kd.aJ | apply Kd.aN)); exact HO233.out) (Kd.bE ho0) hb); have n5_ := dH (Kd.bf (by (with_reducible repeat (first | apply Kd.aI | apply Kd.aJ | apply Kd.aN)); exact HO238.out) (Kd.bE ho0) hb); have n6_ := dH (Kd.bf (by (with_reducible repeat (first | apply Kd.aI | apply Kd.aJ | apply Kd.aN)); exact HO241.out) (Kd.bE ho0) hb); have n7_ := dH (Kd.bP (Kd.bH (Kd.bH (Kd.bH (Kd.bH (Kd.bH (Kd.bH (Kd.bH ho0 (Kd.bT (by (with_reducible repeat (first | apply Kd.aI | apply Kd.aJ | apply Kd.aN)); exact HO219.out))) (Kd.bT (by (with_reducible repeat (first | apply Kd.aI | apply Kd.aJ | apply Kd.aN)); exact HO222.out))) (Kd.bT (by (with_reducible repeat (first | apply Kd.aI | apply Kd.aJ | apply Kd.aN)); exact HO227.out))) (Kd.bT (by (with_reducible repeat (first | apply Kd.aI | apply Kd.aJ | apply Kd.aN)); exact HO230.out))) (Kd.bT (by (with_reducible repeat (first | apply Kd.aI | apply Kd.aJ | apply Kd.aN)); exact HO233.out))) (Kd.bT (by (with_reducible repeat (first | apply Kd.aI | apply Kd.aJ | apply Kd.aN)); exact HO238.out))) (Kd.bT (by (with_reducible repeat (first | apply Kd.aI | apply Kd.aJ | apply Kd.aN)); exact HO241.out))) (aK (by repeat (first | (with_reducible first | exact HB.out | apply ak | apply ah | apply aj) | exact HB.out)))); have n8_ := dH (aM (by repeat (first | (with_reducible first | exact HB.out | apply ak | apply ah | apply aj) | exact HB.out)) hb); clear HO219; clear HO222; clear HO227; clear HO230; clear HO233; clear HO238; clear HO241; clear HB; have HO219 := n0_; have HO222 := n1_; have HO227 := n2_; have HO230 := n3_; have HO233 := n4_; have HO238 := n5_; have HO241 := n6_; have HO244 := n7_; have HB := n8_; clear n0_ n1_ n2_ n3_ n4_ n5_ n6_ n7_ n8_; (try clear hb); (try clear hb2); (try clear hk); (try clear hi); (try clear ho0)) | ((with_reducible refine bg (N := 28) rfl ?_); (try (refine gate_guard (by rfl) ?_; dsimp only)); refine Kd.R_lit (Kd.int .i64) _ 3 ?hg (N := 28) ?hd (xs := ([0, 0, 1, 1, 1] : List Int)) (inner := [.int .i64 0, .int .i64 0, .int .i64 1, .int .i64 1, .int .i64 1]) (ok := fun _ => True) (okp := fun _ => True) ?hr ?hp (fun _ hk => hk) trivial (Below.refl _ _) (Nat.le_refl _) (by simp) ?_; (case hd => rfl); (case hg => rfl); (case hr => first | (go_simp; done) | (go_simp; rfl)); (case hp => exact (Reps.one (show Kd.M (Kd.int .i64) _ _ _ 0 [.int .i64 0] from rfl) (Reps.one (show Kd.M (Kd.int .i64) _ _ _ 0 [.int .i64 0] from rfl) (Reps.one (show Kd.M (Kd.int .i64) _ _ _ 1 [.int .i64 1] from rfl) (Reps.one (show Kd.M (Kd.int .i64) _ _ _ 1 [.int .i64 1] from rfl) (Reps.one (show Kd.M (Kd.int .i64) _ _ _ 1 [.int .i64 1] from rfl) (Reps.none _ _))))))); intro v247 w36 ho37 hb hg_ hnew_; clear hg_ hnew_; (first | rw [← Ny246.out] at ho37 | (simp only [Int.reduceToNat] at ho37; rw [← Ny246.out] at ho37)); have n0_ := dH (Kd.bf (by (with_reducible repeat (first | apply Kd.aI | apply Kd.aJ | apply Kd.aN)); exact HO219.out) (Kd.bE ho37) hb); have n1_ := dH (Kd.bf (by (with_reducible repeat (first | apply Kd.aI | apply Kd.aJ | apply Kd.aN)); exact HO222.out) (Kd.bE ho37) hb); have n2_ := dH (Kd.bf (by (with_reducible repeat (first | apply Kd.aI | apply Kd.aJ | apply Kd.aN)); exact HO227.out) (Kd.bE ho37) hb); have n3_ := dH (Kd.bf (by (with_reducible repeat (first | apply Kd.aI | apply Kd.aJ | apply Kd.aN)); exact HO230.out) (Kd.bE ho37) hb); have n4_ := dH (Kd.bf (by (with_reducible repeat (first | apply Kd.aI | apply Kd.aJ | apply Kd.aN)); exact HO233.out) (Kd.bE ho37) hb); have n5_ := dH (Kd.bf (by (with_reducible repeat (first | apply Kd.aI | apply Kd.aJ | apply Kd.aN)); exact HO238.out) (Kd.bE ho37) hb); have n6_ := dH (Kd.bf (by (with_reducible repeat (first | apply Kd.aI | apply Kd.aJ | apply Kd.aN)); exact HO241.out) (Kd.bE ho37) hb); have n7_ := dH (Kd.bf (by (with_reducible repeat (first | apply Kd.aI | apply Kd.aJ | apply Kd.aN)); exact HO244.out) (Kd.bE ho37) hb); have n8_ := dH (Kd.bP (Kd.bH (Kd.bH (Kd.bH (Kd.bH (Kd.bH (Kd.bH (Kd.bH (Kd.bH ho37 (Kd.bT (by (with_reducible repeat (first | apply Kd.aI | apply Kd.aJ | apply Kd.aN)); exact HO219.out))) (Kd.bT (by (with_reducible repeat (first | apply Kd.aI | apply Kd.aJ | apply Kd.aN)); exact HO222.out))) (Kd.bT (by (with_reducible repeat (first | apply Kd.aI | apply Kd.aJ | apply Kd.aN)); exact HO227.out))) (Kd.bT (by (with_reducible repeat (first | apply Kd.aI | apply Kd.aJ | apply Kd.aN)); exact HO230.out))) (Kd.bT (by (with_reducible repeat (first | apply Kd.aI | apply Kd.aJ | apply Kd.aN)); exact HO233.out))) (Kd.bT (by (with_reducible repeat (first | apply Kd.aI | apply Kd.aJ | apply Kd.aN)); exact HO238.out))) (Kd.bT (by (with_reducible repeat (first | apply Kd.aI | apply Kd.aJ | apply Kd.aN)); exact HO241.out))) (Kd.bT (by (with_reducible repeat (first | apply Kd.aI | apply Kd.aJ | apply Kd.aN)); exact HO244.out))) (aK (by repeat (first | (with_reducible first | exact HB.out | apply ak | apply ah | apply aj) | exact HB.out)))); have n9_ := dH (aM (by repeat (first | (with_reducible first | exact HB.out | apply ak | apply ah | apply aj) | exact HB.out)) hb); clear HO219; clear HO222; clear HO227; clear HO230; clear HO233; clear HO238; clear HO241; clear HO244; clear HB; have HO219 := n0_; have HO222 := n1_; have HO227 := n2_; have HO230 := n3_; have HO233 := n4_; have HO238 := n5_; have HO241 := n6_; have HO244 := n7_; have HO248 := n8_; have HB := n9_; clear n0_ n1_ n2_ n3_ n4_ n5_ n6_ n7_ n8_ n9_; clear hb ho37; obtain ⟨Ao38, co38, eo38⟩ := Kd.bN HO248.out; subst eo38) | ((with_reducible refine aT (f := 67) rfl ?_); refine bq (some 29) rfl rfl Try.func67 (by kernel_rfl) rfl #[.slice Ao38 y246.length co38, .int .i64 1, .int .i64 7] rfl (by (try simp only [dh, dn, dw]); first | done | rfl | (simp only [dx, dz]; rfl) | (simp only [gt_iff_lt, dA]; rfl) | (simp [Act.eval]; done) | (simp [Act.eval, *]; done)) ?_; (with_reducible refine (code_Match.calls k _ _ y246 1 7 t249 t250 _ ?side1 ?side2 A7.out).mono ?_); (case side1 => repeat (first | exact (Kd.aZ HO248.out).2.2 | (with_reducible refine Kd.bA ?_ _) | (with_reducible refine Kd.bC ?_ _) | (with_reducible refine Kd.bJ ?_))); (case side2 => exact (Kd.aZ HO248.out).2.1); rintro e w39 ⟨v251, rfl, ho0, hb⟩; refine ⟨_, rfl, ?_⟩; have n0_ := dH (Kd.bf (by (with_reducible repeat (first | apply Kd.aI | apply Kd.aJ | apply Kd.aN)); exact HO219.out) (Kd.bE ho0) hb); have n1_ := dH (Kd.bf (by (with_reducible repeat (first | apply Kd.aI | apply Kd.aJ | apply Kd.aN)); exact HO222.out) (Kd.bE ho0) hb); have n2_ := dH (Kd.bf (by (with_reducible repeat (first | apply Kd.aI | apply Kd.aJ | apply Kd.aN)); exact HO227.out) (Kd.bE ho0) hb); have n3_ := dH (Kd.bf (by (with_reducible repeat (first | apply Kd.aI | apply Kd.aJ | apply Kd.aN)); exact HO230.out) (Kd.bE ho0) hb); have n4_ := dH (Kd.bf (by (with_reducible repeat (first | apply Kd.aI | apply Kd.aJ | apply Kd.aN)); exact HO233.out) (Kd.bE ho0) hb); have n5_ := dH (Kd.bf (by (with_reducible repeat (first | apply Kd.aI | apply Kd.aJ | apply Kd.aN)); exact HO238.out) (Kd.bE ho0) hb); have n6_ := dH (Kd.bf (by (with_reducible repeat (first | apply Kd.aI | apply Kd.aJ | apply Kd.aN)); exact HO241.out) (Kd.bE ho0) hb); have n7_ := dH (Kd.bf (by (with_reducible repeat (first | apply Kd.aI | apply Kd.aJ | apply Kd.aN)); exact HO244.out) (Kd.bE ho0) hb); have n8_ := dH (Kd.bf (by (with_reducible repeat (first | apply Kd.aI | apply Kd.aJ | apply Kd.aN)); exact HO248.out) (Kd.bE ho0) hb); have n9_ := dH (Kd.bP (Kd.bH (Kd.bH (Kd.bH (Kd.bH (Kd.bH (Kd.bH (Kd.bH (Kd.bH (Kd.bH ho0 (Kd.bT (by (with_reducible repeat (first | apply Kd.aI | apply Kd.aJ | apply Kd.aN)); exact HO219.out))) (Kd.bT (by (with_reducible repeat (first | apply Kd.aI | apply Kd.aJ | apply Kd.aN)); exact HO222.out))) (Kd.bT (by (with_reducible repeat (first | apply Kd.aI | apply Kd.aJ | apply Kd.aN)); exact HO227.out))) (Kd.bT (by (with_reducible repeat (first | apply Kd.aI | apply Kd.aJ | apply Kd.aN)); exact HO230.out))) (Kd.bT (by (with_reducible repeat (first | apply Kd.aI | apply Kd.aJ | apply Kd.aN)); exact HO233.out))) (Kd.bT (by (with_reducible repeat (first | apply Kd.aI | apply Kd.aJ | apply Kd.aN)); exact HO238.out))) (Kd.bT (by (with_reducible repeat (first | apply Kd.aI | apply Kd.aJ | apply Kd.aN)); exact HO241.out))) (Kd.bT (by (with_reducible repeat (first | apply Kd.aI | apply Kd.aJ | apply Kd.aN)); exact HO244.out))) (Kd.bT (by (with_reducible repeat (first | apply Kd.aI | apply Kd.aJ | apply Kd.aN)); exact HO248.out))) (aK (by repeat (first | (with_reducible first | exact HB.out | apply ak | apply ah | apply aj) | exact HB.out)))); have n10_ := dH (aM (by repeat (first | (with_reducible first | exact HB.out | apply ak | apply ah | apply aj) | exact HB.out)) hb); clear HO219; clear HO222; clear HO227; clear HO230; clear HO233; clear HO238; clear HO241; clear HO244; clear HO248; clear HB; have HO219 := n0_; have HO222 := n1_; have HO227 := n2_; have HO230 := n3_; have HO233 := n4_; have HO238 := n5_; have HO241 := n6_; have HO244 := n7_; have HO248 := n8_; have HO252 := n9_; have HB := n10_; clear n0_ n1_ n2_ n3_ n4_ n5_ n6_ n7_ n8_ n9_ n10_; (try clear hb); (try clear hb2); (try clear hk); (try clear hi); (try clear ho0)) | ((with_reducible refine bg (N := 36) rfl ?_); (try (refine gate_guard (by rfl) ?_; dsimp only)); refine Kd.R_lit (Kd.int .i64) _ 3 ?hg (N := 36) ?hd (xs := ([0, 1, 1] : List Int)) (inner := [.int .i64 0, .int .i64 1, .int .i64 1]) (ok := fun _ => True) (okp := fun _ => True) ?hr ?hp (fun _ hk => hk) trivial (Below.refl _ _) (Nat.le_refl _) (by simp) ?_; (case hd => rfl); (case hg => rfl); (case hr => first | (go_simp; done) | (go_simp; rfl)); (case hp => exact (Reps.one (show Kd.M (Kd.int .i64) _ _ _ 0 [.int .i64 0] from rfl) (Reps.one (show Kd.M (Kd.int .i64) _ _ _ 1 [.int .i64 1] from rfl) (Reps.one (show Kd.M (Kd.int .i64) _ _ _ 1 [.int .i64 1] from rfl) (Reps.none _ _))))); intro v254 w40 ho41 hb hg_ hnew_; clear hg_ hnew_; (first | rw [← Ny253.out] at ho41 | (simp only [Int.reduceToNat] at ho41; rw [← Ny253.out] at ho41)); have n0_ := dH (Kd.bf (by (with_reducible repeat (first | apply Kd.aI | apply Kd.aJ | apply Kd.aN)); exact HO219.out) (Kd.bE ho41) hb); have n1_ := dH (Kd.bf (by (with_reducible repeat (first | apply Kd.aI | apply Kd.aJ | apply Kd.aN)); exact HO222.out) (Kd.bE ho41) hb); have n2_ := dH (Kd.bf (by (with_reducible repeat (first | apply Kd.aI | apply Kd.aJ | apply Kd.aN)); exact HO227.out) (Kd.bE ho41) hb); have n3_ := dH (Kd.bf (by (with_reducible repeat (first | apply Kd.aI | apply Kd.aJ | apply Kd.aN)); exact HO230.out) (Kd.bE ho41) hb); have n4_ := dH (Kd.bf (by (with_reducible repeat (first | apply Kd.aI | apply Kd.aJ | apply Kd.aN)); exact HO233.out) (Kd.bE ho41) hb); have n5_ := dH (Kd.bf (by (with_reducible repeat (first | apply Kd.aI | apply Kd.aJ | apply Kd.aN)); exact HO238.out) (Kd.bE ho41) hb); have n6_ := dH (Kd.bf (by (with_reducible repeat (first | apply Kd.aI | apply Kd.aJ | apply Kd.aN)); exact HO241.out) (Kd.bE ho41) hb); have n7_ := dH (Kd.bf (by (with_reducible repeat (first | apply Kd.aI | apply Kd.aJ | apply Kd.aN)); exact HO244.out) (Kd.bE ho41) hb); have n8_ := dH (Kd.bf (by (with_reducible repeat (first | apply Kd.aI | apply Kd.aJ | apply Kd.aN)); exact HO248.out) (Kd.bE ho41) hb); have n9_ := dH (Kd.bf (by (with_reducible repeat (first | apply Kd.aI | apply Kd.aJ | apply Kd.aN)); exact HO252.out) (Kd.bE ho41) hb); have n10_ := dH (Kd.bP (Kd.bH (Kd.bH (Kd.bH (Kd.bH (Kd.bH (Kd.bH (Kd.bH (Kd.bH (Kd.bH (Kd.bH ho41 (Kd.bT (by (with_reducible repeat (first | apply Kd.aI | apply Kd.aJ | apply Kd.aN)); exact HO219.out))) (Kd.bT (by (with_reducible repeat (first | apply Kd.aI | apply Kd.aJ | apply Kd.aN)); exact HO222.out))) (Kd.bT (by (with_reducible repeat (first | apply Kd.aI | apply Kd.aJ | apply Kd.aN)); exact HO227.out))) (Kd.bT (by (with_reducible repeat (first | apply Kd.aI | apply Kd.aJ | apply Kd.aN)); exact HO230.out))) (Kd.bT (by (with_reducible repeat (first | apply Kd.aI | apply Kd.aJ | apply Kd.aN)); exact HO233.out))) (Kd.bT (by (with_reducible repeat (first | apply Kd.aI | apply Kd.aJ | apply Kd.aN)); exact HO238.out))) (Kd.bT (by (with_reducible repeat (first | apply Kd.aI | apply Kd.aJ | apply Kd.aN)); exact HO241.out))) (Kd.bT (by (with_reducible repeat (first | apply Kd.aI | apply Kd.aJ | apply Kd.aN)); exact HO244.out))) (Kd.bT (by (with_reducible repeat (first | apply Kd.aI | apply Kd.aJ | apply Kd.aN)); exact HO248.out))) (Kd.bT (by (with_reducible repeat (first | apply Kd.aI | apply Kd.aJ | apply Kd.aN)); exact HO252.out))) (aK (by repeat (first | (with_reducible first | exact HB.out | apply ak | apply ah | apply aj) | exact HB.out)))); have n11_ := dH (aM (by repeat (first | (with_reducible first | exact HB.out | apply ak | apply ah | apply aj) | exact HB.out)) hb); clear HO219; clear HO222; clear HO227; clear HO230; clear HO233; clear HO238; clear HO241; clear HO244; clear HO248; clear HO252; clear HB; have HO219 := n0_; have HO222 := n1_; have HO227 := n2_; have HO230 := n3_; have HO233 := n4_; have HO238 := n5_; have HO241 := n6_; have HO244 := n7_; have HO248 := n8_; have HO252 := n9_; have HO255 := n10_; have HB := n11_; clear n0_ n1_ n2_ n3_ n4_ n5_ n6_ n7_ n8_ n9_ n10_ n11_; clear hb ho41; obtain ⟨Ao42, co42, eo42⟩ := Kd.bN HO222.out; subst eo42; obtain ⟨Ao43, co43, eo43⟩ := Kd.bN HO255.out; subst eo43) | (go_at_call 16; (with_reducible refine (downtiltbase_Ints.calls k _ _ t220 _ _ y253 true _ ?side1 ?side2 ?side3 ?side4 A9.out).mono ?_); (case side1 => repeat (first | exact (Kd.aZ HO222.out).2.2 | (with_reducible refine Kd.bA ?_ _) | (with_reducible refine Kd.bC ?_ _) | (with_reducible refine Kd.bJ ?_))); (case side2 => exact (Kd.aZ HO222.out).2.1); (case side3 => repeat (first | exact (Kd.aZ HO255.out).2.2 | (with_reducible refine Kd.bA ?_ _) | (with_reducible refine Kd.bC ?_ _) | (with_reducible refine Kd.bJ ?_))); (case side4 => exact (Kd.aZ HO255.out).2.1); rintro e w' ⟨rfl, ⟨nd, rfl⟩⟩) | ((with_reducible refine bg (N := 45) rfl ?_); (try (refine gate_guard (by rfl) ?_; dsimp only)); refine Kd.R_lit (Kd.int .i64) _ 3 ?hg (N := 45) ?hd (xs := ([0, 0, 1, 1] : List Int)) (inner := [.int .i64 0, .int .i64 0, .int .i64 1, .int .i64 1]) (ok := fun _ => True) (okp := fun _ => True) ?hr ?hp (fun _ hk => hk) trivial (Below.refl _ _) (Nat.le_refl _) (by simp) ?_; (case hd => rfl); (case hg => rfl); (case hr => first | (go_simp; done) | (go_simp; rfl)); (case hp => exact (Reps.one (show Kd.M (Kd.int .i64) _ _ _ 0 [.int .i64 0] from rfl) (Reps.one (show Kd.M (Kd.int .i64) _ _ _ 0 [.int .i64 0] from rfl) (Reps.one (show Kd.M (Kd.int .i64) _ _ _ 1 [.int .i64 1] from rfl) (Reps.one (show Kd.M (Kd.int .i64) _ _ _ 1 [.int .i64 1] from rfl) (Reps.none _ _)))))); intro v258 w44 ho45 hb hg_ hnew_; clear hg_ hnew_; (first | rw [← Ny257.out] at ho45 | (simp only [Int.reduceToNat] at ho45; rw [← Ny257.out] at ho45)); have n0_ := dH (Kd.bf (by (with_reducible repeat (first | apply Kd.aI | apply Kd.aJ | apply Kd.aN)); exact HO219.out) (Kd.bE ho45) hb); have n1_ := dH (Kd.bf (by (with_reducible repeat (first | apply Kd.aI | apply Kd.aJ | apply Kd.aN)); exact HO222.out) (Kd.bE ho45) hb); have n2_ := dH (Kd.bf (by (with_reducible repeat (first | apply Kd.aI | apply Kd.aJ | apply Kd.aN)); exact HO227.out) (Kd.bE ho45) hb); have n3_ := dH (Kd.bf (by (with_reducible repeat (first | apply Kd.aI | apply Kd.aJ | apply Kd.aN)); exact HO230.out) (Kd.bE ho45) hb); have n4_ := dH (Kd.bf (by (with_reducible repeat (first | apply Kd.aI | apply Kd.aJ | apply Kd.aN)); exact HO233.out) (Kd.bE ho45) hb); have n5_ := dH (Kd.bf (by (with_reducible repeat (first | apply Kd.aI | apply Kd.aJ | apply Kd.aN)); exact HO238.out) (Kd.bE ho45) hb); have n6_ := dH (Kd.bf (by (with_reducible repeat (first | apply Kd.aI | apply Kd.aJ | apply Kd.aN)); exact HO241.out) (Kd.bE ho45) hb); have n7_ := dH (Kd.bf (by (with_reducible repeat (first | apply Kd.aI | apply Kd.aJ | apply Kd.aN)); exact HO244.out) (Kd.bE ho45) hb); have n8_ := dH (Kd.bf (by (with_reducible repeat (first | apply Kd.aI | apply Kd.aJ | apply Kd.aN)); exact HO248.out) (Kd.bE ho45) hb); have n9_ := dH (Kd.bf (by (with_reducible repeat (first | apply Kd.aI | apply Kd.aJ | apply Kd.aN)); exact HO252.out) (Kd.bE ho45) hb); have n10_ := dH (Kd.bf (by (with_reducible repeat (first | apply Kd.aI | apply Kd.aJ | apply Kd.aN)); exact HO255.out) (Kd.bE ho45) hb); have n11_ := dH (Kd.bP (Kd.bH (Kd.bH (Kd.bH (Kd.bH (Kd.bH (Kd.bH (Kd.bH (Kd.bH (Kd.bH (Kd.bH (Kd.bH ho45 (Kd.bT (by (with_reducible repeat (first | apply Kd.aI | apply Kd.aJ | apply Kd.aN)); exact HO219.out))) (Kd.bT (by (with_reducible repeat (first | apply Kd.aI | apply Kd.aJ | apply Kd.aN)); exact HO222.out))) (Kd.bT (by (with_reducible repeat (first | apply Kd.aI | apply Kd.aJ | apply Kd.aN)); exact HO227.out))) (Kd.bT (by (with_reducible repeat (first | apply Kd.aI | apply Kd.aJ | apply Kd.aN)); exact HO230.out))) (Kd.bT (by (with_reducible repeat (first | apply Kd.aI | apply Kd.aJ | apply Kd.aN)); exact HO233.out))) (Kd.bT (by (with_reducible repeat (first | apply Kd.aI | apply Kd.aJ | apply Kd.aN)); exact HO238.out))) (Kd.bT (by (with_reducible repeat (first | apply Kd.aI | apply Kd.aJ | apply Kd.aN)); exact HO241.out))) (Kd.bT (by (with_reducible repeat (first | apply Kd.aI | apply Kd.aJ | apply Kd.aN)); exact HO244.out))) (Kd.bT (by (with_reducible repeat (first | apply Kd.aI | apply Kd.aJ | apply Kd.aN)); exact HO248.out))) (Kd.bT (by (with_reducible repeat (first | apply Kd.aI | apply Kd.aJ | apply Kd.aN)); exact HO252.out))) (Kd.bT (by (with_reducible repeat (first | apply Kd.aI | apply Kd.aJ | apply Kd.aN)); exact HO255.out))) (aK (by repeat (first | (with_reducible first | exact HB.out | apply ak | apply ah | apply aj) | exact HB.out)))); have n12_ := dH (aM (by repeat (first | (with_reducible first | exact HB.out | apply ak | apply ah | apply aj) | exact HB.out)) hb); clear HO219; clear HO222; clear HO227; clear HO230; clear HO233; clear HO238; clear HO241; clear HO244; clear HO248; clear HO252; clear HO255; clear HB; have HO219 := n0_; have HO222 := n1_; have HO227 := n2_; have HO230 := n3_; have HO233 := n4_; have HO238 := n5_; have HO241 := n6_; have HO244 := n7_; have HO248 := n8_; have HO252 := n9_; have HO255 := n10_; have HO259 := n11_; have HB := n12_; clear n0_ n1_ n2_ n3_ n4_ n5_ n6_ n7_ n8_ n9_ n10_ n11_ n12_; clear hb ho45; obtain ⟨Ao46, co46, eo46⟩ := Kd.bN HO233.out; subst eo46; obtain ⟨Ao47, co47, eo47⟩ := Kd.bN HO259.out; subst eo47) | (go_at_call 16; (with_reducible refine (downtiltbase_Ints.calls k _ _ t231 _ _ y257 true _ ?side1 ?side2 ?side3 ?side4 A12.out).mono ?_); (case side1 => repeat (first | exact (Kd.aZ HO233.out).2.2 | (with_reducible refine Kd.bA ?_ _) | (with_reducible refine Kd.bC ?_ _) | (with_reducible refine Kd.bJ ?_))); (case side2 => exact (Kd.aZ HO233.out).2.1); (case side3 => repeat (first | exact (Kd.aZ HO259.out).2.2 | (with_reducible refine Kd.bA ?_ _) | (with_reducible refine Kd.bC ?_ _) | (with_reducible refine Kd.bJ ?_))); (case side4 => exact (Kd.aZ HO259.out).2.1); rintro e w' ⟨rfl, ⟨nd, rfl⟩⟩) | ((with_reducible refine bg (N := 54) rfl ?_); (try (refine gate_guard (by rfl) ?_; dsimp only)); refine Kd.R_lit (Kd.int .i64) _ 3 ?hg (N := 54) ?hd (xs := ([1, 0, 1] : List Int)) (inner := [.int .i64 1, .int .i64 0, .int .i64 1]) (ok := fun _ => True) (okp := fun _ => True) ?hr ?hp (fun _ hk => hk) trivial (Below.refl _ _) (Nat.le_refl _) (by simp) ?_; (case hd => rfl); (case hg => rfl); (case hr => first | (go_simp; done) | (go_simp; rfl)); (case hp => exact (Reps.one (show Kd.M (Kd.int .i64) _ _ _ 1 [.int .i64 1] from rfl) (Reps.one (show Kd.M (Kd.int .i64) _ _ _ 0 [.int .i64 0] from rfl) (Reps.one (show Kd.M (Kd.int .i64) _ _ _ 1 [.int .i64 1] from rfl) (Reps.none _ _))))); intro v262 w48 ho49 hb hg_ hnew_; clear hg_ hnew_; (first | rw [← Ny261.out] at ho49 | (simp only [Int.reduceToNat] at ho49; rw [← Ny261.out] at ho49)); have n0_ := dH (Kd.bf (by (with_reducible repeat (first | apply Kd.aI | apply Kd.aJ | apply Kd.aN)); exact HO219.out) (Kd.bE ho49) hb); have n1_ := dH (Kd.bf (by (with_reducible repeat (first | apply Kd.aI | apply Kd.aJ | apply Kd.aN)); exact HO222.out) (Kd.bE ho49) hb); have n2_ := dH (Kd.bf (by (with_reducible repeat (first | apply Kd.aI | apply Kd.aJ | apply Kd.aN)); exact HO227.out) (Kd.bE ho49) hb); have n3_ := dH (Kd.bf (by (with_reducible repeat (first | apply Kd.aI | apply Kd.aJ | apply Kd.aN)); exact HO230.out) (Kd.bE ho49) hb); have n4_ := dH (Kd.bf (by (with_reducible repeat (first | apply Kd.aI | apply Kd.aJ | apply Kd.aN)); exact HO233.out) (Kd.bE ho49) hb); have n5_ := dH (Kd.bf (by (with_reducible repeat (first | apply Kd.aI | apply Kd.aJ | apply Kd.aN)); exact HO238.out) (Kd.bE ho49) hb); have n6_ := dH (Kd.bf (by (with_reducible repeat (first | apply Kd.aI | apply Kd.aJ | apply Kd.aN)); exact HO241.out) (Kd.bE ho49) hb); have n7_ := dH (Kd.bf (by (with_reducible repeat (first | apply Kd.aI | apply Kd.aJ | apply Kd.aN)); exact HO244.out) (Kd.bE ho49) hb); have n8_ := dH (Kd.bf (by (with_reducible repeat (first | apply Kd.aI | apply Kd.aJ | apply Kd.aN)); exact HO248.out) (Kd.bE ho49) hb); have n9_ := dH (Kd.bf (by (with_reducible repeat (first | apply Kd.aI | apply Kd.aJ | apply Kd.aN)); exact HO252.out) (Kd.bE ho49) hb); have n10_ := dH (Kd.bf (by (with_reducible repeat (first | apply Kd.aI | apply Kd.aJ | apply Kd.aN)); exact HO255.out) (Kd.bE ho49) hb); have n11_ := dH (Kd.bf (by (with_reducible repeat (first | apply Kd.aI | apply Kd.aJ | apply Kd.aN)); exact HO259.out) (Kd.bE ho49) hb); have n12_ := dH (Kd.bP (Kd.bH (Kd.bH (Kd.bH (Kd.bH (Kd.bH (Kd.bH (Kd.bH (Kd.bH (Kd.bH (Kd.bH (Kd.bH (Kd.bH ho49 (Kd.bT (by (with_reducible repeat (first | apply Kd.aI | apply Kd.aJ | apply Kd.aN)); exact HO219.out))) (Kd.bT (by (with_reducible repeat (first | apply Kd.aI | apply Kd.aJ | apply Kd.aN)); exact HO222.out))) (Kd.bT (by (with_reducible repeat (first | apply Kd.aI | apply Kd.aJ | apply Kd.aN)); exact HO227.out))) (Kd.bT (by (with_reducible repeat (first | apply Kd.aI | apply Kd.aJ | apply Kd.aN)); exact HO230.out))) (Kd.bT (by (with_reducible repeat (first | apply Kd.aI | apply Kd.aJ | apply Kd.aN)); exact HO233.out))) (Kd.bT (by (with_reducible repeat (first | apply Kd.aI | apply Kd.aJ | apply Kd.aN)); exact HO238.out))) (Kd.bT (by (with_reducible repeat (first | apply Kd.aI | apply Kd.aJ | apply Kd.aN)); exact HO241.out))) (Kd.bT (by (with_reducible repeat (first | apply Kd.aI | apply Kd.aJ | apply Kd.aN)); exact HO244.out))) (Kd.bT (by (with_reducible repeat (first | apply Kd.aI | apply Kd.aJ | apply Kd.aN)); exact HO248.out))) (Kd.bT (by (with_reducible repeat (first | apply Kd.aI | apply Kd.aJ | apply Kd.aN)); exact HO252.out))) (Kd.bT (by (with_reducible repeat (first | apply Kd.aI | apply Kd.aJ | apply Kd.aN)); exact HO255.out))) (Kd.bT (by (with_reducible repeat (first | apply Kd.aI | apply Kd.aJ | apply Kd.aN)); exact HO259.out))) (aK (by repeat (first | (with_reducible first | exact HB.out | apply ak | apply ah | apply aj) | exact HB.out)))); have n13_ := dH (aM (by repeat (first | (with_reducible first | exact HB.out | apply ak | apply ah | apply aj) | exact HB.out)) hb); clear HO219; clear HO222; clear HO227; clear HO230; clear HO233; clear HO238; clear HO241; clear HO244; clear HO248; clear HO252; clear HO255; clear HO259; clear HB; have HO219 := n0_; have HO222 := n1_; have HO227 := n2_; have HO230 := n3_; have HO233 := n4_; have HO238 := n5_; have HO241 := n6_; have HO244 := n7_; have HO248 := n8_; have HO252 := n9_; have HO255 := n10_; have HO259 := n11_; have HO263 := n12_; have HB := n13_; clear n0_ n1_ n2_ n3_ n4_ n5_ n6_ n7_ n8_ n9_ n10_ n11_ n12_ n13_; clear hb ho49; obtain ⟨Ao50, co50, eo50⟩ := Kd.bN HO244.out; subst eo50; obtain ⟨Ao51, co51, eo51⟩ := Kd.bN HO263.out; subst eo51) | (go_at_call 16; (with_reducible refine (downtiltbase_Ints.calls k _ _ t242 _ _ y261 true _ ?side1 ?side2 ?side3 ?side4 A15.out).mono ?_); (case side1 => repeat (first | exact (Kd.aZ HO244.out).2.2 | (with_reducible refine Kd.bA ?_ _) | (with_reducible refine Kd.bC ?_ _) | (with_reducible refine Kd.bJ ?_))); (case side2 => exact (Kd.aZ HO244.out).2.1); (case side3 => repeat (first | exact (Kd.aZ HO263.out).2.2 | (with_reducible refine Kd.bA ?_ _) | (with_reducible refine Kd.bC ?_ _) | (with_reducible refine Kd.bJ ?_))); (case side4 => exact (Kd.aZ HO263.out).2.1); rintro e w' ⟨rfl, ⟨nd, rfl⟩⟩) | ((with_reducible refine bg (N := 63) rfl ?_); (try (refine gate_guard (by rfl) ?_; dsimp only)); refine Kd.R_lit (Kd.int .i64) _ 3 ?hg (N := 63) ?hd (xs := ([0, 1, 1, 1, 0, 0, 1] : List Int)) (inner := [.int .i64 0, .int .i64 1, .int .i64 1, .int .i64 1, .int .i64 0, .int .i64 0, .int .i64 1]) (ok := fun _ => True) (okp := fun _ => True) ?hr ?hp (fun _ hk => hk) trivial (Below.refl _ _) (Nat.le_refl _) (by simp) ?_; (case hd => rfl); (case hg => rfl); (case hr => first | (go_simp; done) | (go_simp; rfl)); (case hp => exact (Reps.one (show Kd.M (Kd.int .i64) _ _ _ 0 [.int .i64 0] from rfl) (Reps.one (show Kd.M (Kd.int .i64) _ _ _ 1 [.int .i64 1] from rfl) (Reps.one (show Kd.M (Kd.int .i64) _ _ _ 1 [.int .i64 1] from rfl) (Reps.one (show Kd.M (Kd.int .i64) _ _ _ 1 [.int .i64 1] from rfl) (Reps.one (show Kd.M (Kd.int .i64) _ _ _ 0 [.int .i64 0] from rfl) (Reps.one (show Kd.M (Kd.int .i64) _ _ _ 0 [.int .i64 0] from rfl) (Reps.one (show Kd.M (Kd.int .i64) _ _ _ 1 [.int .i64 1] from rfl) (Reps.none _ _))))))))); intro v266 w52 ho53 hb hg_ hnew_; clear hg_ hnew_; (first | rw [← Ny265.out] at ho53 | (simp only [Int.reduceToNat] at ho53; rw [← Ny265.out] at ho53)); have n0_ := dH (Kd.bf (by (with_reducible repeat (first | apply Kd.aI | apply Kd.aJ | apply Kd.aN)); exact HO219.out) (Kd.bE ho53) hb); have n1_ := dH (Kd.bf (by (with_reducible repeat (first | apply Kd.aI | apply Kd.aJ | apply Kd.aN)); exact HO222.out) (Kd.bE ho53) hb); have n2_ := dH (Kd.bf (by (with_reducible repeat (first | apply Kd.aI | apply Kd.aJ | apply Kd.aN)); exact HO227.out) (Kd.bE ho53) hb); have n3_ := dH (Kd.bf (by (with_reducible repeat (first | apply Kd.aI | apply Kd.aJ | apply Kd.aN)); exact HO230.out) (Kd.bE ho53) hb); have n4_ := dH (Kd.bf (by (with_reducible repeat (first | apply Kd.aI | apply Kd.aJ | apply Kd.aN)); exact HO233.out) (Kd.bE ho53) hb); have n5_ := dH (Kd.bf (by (with_reducible repeat (first | apply Kd.aI | apply Kd.aJ | apply Kd.aN)); exact HO238.out) (Kd.bE ho53) hb); have n6_ := dH (Kd.bf (by (with_reducible repeat (first | apply Kd.aI | apply Kd.aJ | apply Kd.aN)); exact HO241.out) (Kd.bE ho53) hb); have n7_ := dH (Kd.bf (by (with_reducible repeat (first | apply Kd.aI | apply Kd.aJ | apply Kd.aN)); exact HO244.out) (Kd.bE ho53) hb); have n8_ := dH (Kd.bf (by (with_reducible repeat (first | apply Kd.aI | apply Kd.aJ | apply Kd.aN)); exact HO248.out) (Kd.bE ho53) hb); have n9_ := dH (Kd.bf (by (with_reducible repeat (first | apply Kd.aI | apply Kd.aJ | apply Kd.aN)); exact HO252.out) (Kd.bE ho53) hb); have n10_ := dH (Kd.bf (by (with_reducible repeat (first | apply Kd.aI | apply Kd.aJ | apply Kd.aN)); exact HO255.out) (Kd.bE ho53) hb); have n11_ := dH (Kd.bf (by (with_reducible repeat (first | apply Kd.aI | apply Kd.aJ | apply Kd.aN)); exact HO259.out) (Kd.bE ho53) hb); have n12_ := dH (Kd.bf (by (with_reducible repeat (first | apply Kd.aI | apply Kd.aJ | apply Kd.aN)); exact HO263.out) (Kd.bE ho53) hb); have n13_ := dH (Kd.bP (Kd.bH (Kd.bH (Kd.bH (Kd.bH (Kd.bH (Kd.bH (Kd.bH (Kd.bH (Kd.bH (Kd.bH (Kd.bH (Kd.bH (Kd.bH ho53 (Kd.bT (by (with_reducible repeat (first | apply Kd.aI | apply Kd.aJ | apply Kd.aN)); exact HO219.out))) (Kd.bT (by (with_reducible repeat (first | apply Kd.aI | apply Kd.aJ | apply Kd.aN)); exact HO222.out))) (Kd.bT (by (with_reducible repeat (first | apply Kd.aI | apply Kd.aJ | apply Kd.aN)); exact HO227.out))) (Kd.bT (by (with_reducible repeat (first | apply Kd.aI | apply Kd.aJ | apply Kd.aN)); exact HO230.out))) (Kd.bT (by (with_reducible repeat (first | apply Kd.aI | apply Kd.aJ | apply Kd.aN)); exact HO233.out))) (Kd.bT (by (with_reducible repeat (first | apply Kd.aI | apply Kd.aJ | apply Kd.aN)); exact HO238.out))) (Kd.bT (by (with_reducible repeat (first | apply Kd.aI | apply Kd.aJ | apply Kd.aN)); exact HO241.out))) (Kd.bT (by (with_reducible repeat (first | apply Kd.aI | apply Kd.aJ | apply Kd.aN)); exact HO244.out))) (Kd.bT (by (with_reducible repeat (first | apply Kd.aI | apply Kd.aJ | apply Kd.aN)); exact HO248.out))) (Kd.bT (by (with_reducible repeat (first | apply Kd.aI | apply Kd.aJ | apply Kd.aN)); exact HO252.out))) (Kd.bT (by (with_reducible repeat (first | apply Kd.aI | apply Kd.aJ | apply Kd.aN)); exact HO255.out))) (Kd.bT (by (with_reducible repeat (first | apply Kd.aI | apply Kd.aJ | apply Kd.aN)); exact HO259.out))) (Kd.bT (by (with_reducible repeat (first | apply Kd.aI | apply Kd.aJ | apply Kd.aN)); exact HO263.out))) (aK (by repeat (first | (with_reducible first | exact HB.out | apply ak | apply ah | apply aj) | exact HB.out)))); have n14_ := dH (aM (by repeat (first | (with_reducible first | exact HB.out | apply ak | apply ah | apply aj) | exact HB.out)) hb); clear HO219; clear HO222; clear HO227; clear HO230; clear HO233; clear HO238; clear HO241; clear HO244; clear HO248; clear HO252; clear HO255; clear HO259; clear HO263; clear HB; have HO219 := n0_; have HO222 := n1_; have HO227 := n2_; have HO230 := n3_; have HO233 := n4_; have HO238 := n5_; have HO241 := n6_; have HO244 := n7_; have HO248 := n8_; have HO252 := n9_; have HO255 := n10_; have HO259 := n11_; have HO263 := n12_; have HO267 := n13_; have HB := n14_; clear n0_ n1_ n2_ n3_ n4_ n5_ n6_ n7_ n8_ n9_ n10_ n11_ n12_ n13_ n14_; clear hb ho53; obtain ⟨Ao54, co54, eo54⟩ := Kd.bN HO252.out; subst eo54; obtain ⟨Ao55, co55, eo55⟩ := Kd.bN HO267.out; subst eo55) | (go_at_call 16; (with_reducible refine (downtiltbase_Ints.calls k _ _ t249 _ _ y265 t268 _ ?side1 ?side2 ?side3 ?side4 A18.out).mono ?_); (case side1 => repeat (first | exact (Kd.aZ HO252.out).2.2 | (with_reducible refine Kd.bA ?_ _) | (with_reducible refine Kd.bC ?_ _) | (with_reducible refine Kd.bJ ?_))); (case side2 => exact (Kd.aZ HO252.out).2.1); (case side3 => repeat (first | exact (Kd.aZ HO267.out).2.2 | (with_reducible refine Kd.bA ?_ _) | (with_reducible refine Kd.bC ?_ _) | (with_reducible refine Kd.bJ ?_))); (case side4 => exact (Kd.aZ HO267.out).2.1); rintro e w' ⟨rfl, ⟨nd, rfl⟩⟩))
        go_ret
        exact ⟨by first | rfl | (simp [aX, aY] <;> rfl) | (simp [*, aX, aY] <;> rfl), by repeat (first | (with_reducible first | exact HB.out | apply ak | apply ah | apply aj) | exact HB.out)⟩
       ·
        rw [if_neg c17] at H
        exact absurd H (by simp)
      ·
       replace c16 := Bool.eq_false_iff.mpr c16
       subst c16
       have H1 : (none) = some r := by rw [if_neg (show ¬ (false = true) by decide)] at H; exact H
       clear H
       have H := H1
       clear H1
       exact absurd H (by simp)
     ·
      rw [if_neg c14] at H
      exact absurd H (by simp)
    ·
     replace c13 := Bool.eq_false_iff.mpr c13
     subst c13
     have H1 : (none) = some r := by rw [if_neg (show ¬ (false = true) by decide)] at H; exact H
     clear H
     have H := H1
     clear H1
     exact absurd H (by simp)
   ·
    rw [if_neg c11] at H
    exact absurd H (by simp)
  ·
   replace c10 := Bool.eq_false_iff.mpr c10
   subst c10
   have H1 : (none) = some r := by rw [if_neg (show ¬ (false = true) by decide)] at H; exact H
   clear H
   have H := H1
   clear H1
   exact absurd H (by simp)
 ·
  rw [if_neg c8] at H
  exact absurd H (by simp)
end Go.Proofs.Ytbjiookpiminmaa.PCode
end
section
namespace Go.Proofs.Ytbjiookpiminmaa.PCode
open Go.RowKit Go.Proofs.YtbjiookpiminmaaW.PrintWords Go.Proofs.YtbjiookpiminmaaW.PrintLast Go.Proofs.YtbjiookpiminmaaW.PrintMore
theorem awake_ : downtiltlaw02_awake.f 60 = some true := by kernel_rfl
end Go.Proofs.Ytbjiookpiminmaa.PCode
end
section
namespace Go.Proofs.Ytbjiookpiminmaa.PCode
open Go.RowKit Go.Proofs.YtbjiookpiminmaaW.PrintWords Go.Proofs.YtbjiookpiminmaaW.PrintLast Go.Proofs.YtbjiookpiminmaaW.PrintMore
def rowV (L : Nat) (b : Nat) : Value := .slice (some ⟨b, 0, none⟩) L L
structure Mem (W : World) (S T L : Nat) (bl : List Nat) (sums : List (List Int)) (togs : List Int) : Prop where
 hS : W.heap[S]? = some (.cells (bl.map (rowV L)).toArray 34 (0, 0))
 hT : W.heap[T]? = some (.cells (nums .i64 togs).toArray 3 (0, 0))
 n1 : bl.length = sums.length
 n2 : togs.length = sums.length
 hl : ∀ s ∈ sums, s.length = L
 hb : ∀ i (h : i < bl.length) (h' : i < sums.length), W.heap[bl[i]]? = some (.cells (nums .i64 sums[i]).toArray 3 (0, 0))
 nd : (S :: T :: bl).Nodup
section
variable {W W' : World} {S T L : Nat} {bl : List Nat} {sums : List (List Int)} {togs : List Int}
theorem Mem.lt (h : Mem W S T L bl sums togs) : ∀ k ∈ S :: T :: bl, k < W.heap.size := by
 intro k hk
 rcases List.mem_cons.1 hk with rfl | hk
 ·
  exact bn h.hS
 ·
  rcases List.mem_cons.1 hk with rfl | hk
  ·
   exact bn h.hT
  ·
   obtain ⟨i, hi, rfl⟩ := List.getElem_of_mem hk
   exact bn (h.hb i hi (by rw [← h.n1]; exact hi))
theorem Mem.keep (h : Mem W S T L bl sums togs) (hk : ∀ k ∈ S :: T :: bl, W'.heap[k]? = W.heap[k]?) : Mem W' S T L bl sums togs :=
 ⟨(hk _ (by simp)).trans h.hS, (hk _ (by simp)).trans h.hT, h.n1, h.n2, h.hl, fun i h1 h2 => (hk _ (by simp)).trans (h.hb i h1 h2), h.nd⟩
theorem Mem.below (h : Mem W S T L bl sums togs) (hb : Below W.heap.size W W') : Mem W' S T L bl sums togs := h.keep fun k hk => hb.block k (h.lt k hk)
theorem Mem.far (h : Mem W S T L bl sums togs) {g j : Nat} (hg : g ∉ S :: T :: bl) (u : Value) : Mem (W.setCell ⟨g, j, none⟩ u) S T L bl sums togs :=
 h.keep fun k hk => Below.heap_setCell W _ u k (fun e => hg (by have e : k = g := e; exact e ▸ hk))
theorem heap_set {g : Nat} {cs : Array Value} {t : TypeId} (hg : W.heap[g]? = some (.cells cs t (0, 0))) (j : Nat) (u : Value) : (W.setCell ⟨g, j, none⟩ u).heap[g]? = some (.cells (cs.setIfInBounds j u) t (0, 0)) := by
 obtain ⟨hlt, hk⟩ := Array.getElem?_eq_some_iff.1 hg
 show (W.heap.modify g _)[g]? = _
 rw [Array.getElem?_eq_getElem (by rw [Array.size_modify]; exact hlt), Array.getElem_modify_self, hk]
 rfl
theorem Mem.setT (h : Mem W S T L bl sums togs) (i : Nat) (t : Int) : Mem (W.setCell ⟨T, i, none⟩ (.int .i64 t)) S T L bl sums (togs.set i t) := by
 have hnd := h.nd
 simp only [List.nodup_cons, List.mem_cons, not_or] at hnd
 refine ⟨?_, ?_, h.n1, by simpa using h.n2, h.hl, ?_, h.nd⟩
 ·
  exact (Below.heap_setCell W _ _ S (fun e => hnd.1.1 e)).trans h.hS
 ·
  rw [heap_set h.hT]
  simp [nums, List.map_set]
 ·
  intro k h1 h2
  exact (Below.heap_setCell W _ _ _ (fun e => hnd.2.1 (by have e : bl[k] = T := e; exact e ▸ List.getElem_mem h1))).trans (h.hb k h1 h2)
theorem Mem.setS (h : Mem W S T L bl sums togs) (i g : Nat) (hg : g ∉ S :: T :: bl) (s : List Int) (hs : s.length = L) (hh : W.heap[g]? = some (.cells (nums .i64 s).toArray 3 (0, 0))) : Mem (W.setCell ⟨S, i, none⟩ (rowV L g)) S T L (bl.set i g) (sums.set i s) togs := by
 have hnd := h.nd
 simp only [List.nodup_cons, List.mem_cons, not_or] at hnd hg
 refine ⟨?_, ?_, by simpa using h.n1, by simpa using h.n2, ?_, ?_, ?_⟩
 ·
  rw [heap_set h.hS]
  simp [List.map_set]
 ·
  exact (Below.heap_setCell W _ _ T (fun e => hnd.1.1 (Eq.symm e))).trans h.hT
 ·
  intro x hx
  rcases List.mem_or_eq_of_mem_set hx with hx | rfl
  ·
   exact h.hl x hx
  ·
   exact hs
 ·
  intro k h1 h2
  rw [List.length_set] at h1 h2
  have hne : (bl.set i g)[k]'(by simpa using h1) ≠ S := by
   intro e
   have hm : (bl.set i g)[k]'(by simpa using h1) ∈ bl.set i g := List.getElem_mem _
   rcases List.mem_or_eq_of_mem_set hm with hm | hm
   ·
    exact hnd.1.2 (e ▸ hm)
   ·
    exact hg.1 (hm ▸ e)
  refine (Below.heap_setCell W _ _ _ hne).trans ?_
  by_cases hk : i = k
  ·
   subst hk
   rw [List.getElem_set_self, List.getElem_set_self]
   exact hh
  ·
   rw [List.getElem_set_ne hk, List.getElem_set_ne hk]
   exact h.hb k h1 h2
 ·
  simp only [List.nodup_cons, List.mem_cons, not_or]
  refine ⟨⟨hnd.1.1, fun hm => ?_⟩, fun hm => ?_, ?_⟩
  ·
   rcases List.mem_or_eq_of_mem_set hm with hm | rfl
   ·
    exact hnd.1.2 hm
   ·
    exact hg.1 rfl
  ·
   rcases List.mem_or_eq_of_mem_set hm with hm | rfl
   ·
    exact hnd.2.1 hm
   ·
    exact hg.2.1 rfl
  ·
   rw [List.nodup_iff_pairwise_ne, List.pairwise_iff_getElem]
   have hp := List.pairwise_iff_getElem.1 (List.nodup_iff_pairwise_ne.1 hnd.2.2)
   intro a b ha hb hab e
   rw [List.length_set] at ha hb
   by_cases h1 : i = a
   ·
    subst h1
    rw [List.getElem_set_self, List.getElem_set_ne (by omega)] at e
    exact hg.2.2 (e ▸ List.getElem_mem hb)
   ·
    by_cases h2 : i = b
    ·
     subst h2
     rw [List.getElem_set_self, List.getElem_set_ne (by omega)] at e
     exact hg.2.2 (e ▸ List.getElem_mem ha)
    ·
     rw [List.getElem_set_ne h1, List.getElem_set_ne h2] at e
     exact hp a b ha hb hab e
theorem Mem.setB (h : Mem W S T L bl sums togs) (i : Nat) (hi : i < bl.length) (hi' : i < sums.length) (j : Nat) (x : Int) : Mem (W.setCell ⟨bl[i], j, none⟩ (.int .i64 x)) S T L bl (sums.set i (sums[i].set j x)) togs := by
 have hnd := h.nd
 simp only [List.nodup_cons, List.mem_cons, not_or] at hnd
 have hp := List.pairwise_iff_getElem.1 (List.nodup_iff_pairwise_ne.1 hnd.2.2)
 refine ⟨?_, ?_, by simpa using h.n1, by simpa using h.n2, ?_, ?_, h.nd⟩
 ·
  exact (Below.heap_setCell W _ _ S (fun e => hnd.1.2 (by have e : S = bl[i] := e; exact e ▸ List.getElem_mem hi))).trans h.hS
 ·
  exact (Below.heap_setCell W _ _ T (fun e => hnd.2.1 (by have e : T = bl[i] := e; exact e ▸ List.getElem_mem hi))).trans h.hT
 ·
  intro y hy
  rcases List.mem_or_eq_of_mem_set hy with hy | rfl
  ·
   exact h.hl y hy
  ·
   rw [List.length_set]; exact h.hl _ (List.getElem_mem hi')
 ·
  intro k h1 h2
  rw [List.length_set] at h2
  by_cases hk : i = k
  ·
   subst hk
   rw [heap_set (h.hb i hi hi'), List.getElem_set_self]
   simp [nums, List.map_set]
  ·
   rw [List.getElem_set_ne hk]
   refine (Below.heap_setCell W _ _ _ (fun e => ?_)).trans (h.hb k h1 h2)
   have e : bl[k] = bl[i] := e
   rcases Nat.lt_or_gt_of_ne hk with h3 | h3
   ·
    exact hp i k hi h1 h3 e.symm
   ·
    exact hp k i h1 hi h3 e
theorem Mem.cellS (h : Mem W S T L bl sums togs) (i : Nat) (hi : i < bl.length) : W.cell? ⟨S, i, none⟩ = some (rowV L bl[i]) ∧ W.frozen? ⟨S, i, none⟩ = false := by
 refine ⟨(ay h.hS i).trans ?_, aD h.hS i⟩
 simp [hi]
theorem Mem.cellT (h : Mem W S T L bl sums togs) (i : Nat) (hi : i < togs.length) : W.cell? ⟨T, i, none⟩ = some (.int .i64 togs[i]) ∧ W.frozen? ⟨T, i, none⟩ = false := by
 refine ⟨(ay h.hT i).trans ?_, aD h.hT i⟩
 simp [nums, hi]
theorem Mem.cellB (h : Mem W S T L bl sums togs) (i : Nat) (hi : i < bl.length) (hi' : i < sums.length) (j : Nat) (hj : j < L) : W.cell? ⟨bl[i], j, none⟩ = some (.int .i64 (sums[i].getD j 0)) ∧ W.frozen? ⟨bl[i], j, none⟩ = false := by
 have hl := h.hl _ (List.getElem_mem hi')
 refine ⟨(ay (h.hb i hi hi') j).trans ?_, aD (h.hb i hi hi') j⟩
 simp [nums, hl, hj]
theorem Mem.C (h : Mem W S T L bl sums togs) (hL : L ≤ 1000) (i : Nat) (hi : i < bl.length) (hi' : i < sums.length) : (Kd.int .i64).C W (some ⟨bl[i], 0, none⟩) sums[i].length sums[i] := by
 have hl := h.hl _ (List.getElem_mem hi')
 refine Kd.C_of_reads (enc := Value.int .i64) (d := (0 : Int)) (h1 := fun _ => rfl) ⟨rfl, by omega, fun _ => ⟨⟨bl[i], 0, none⟩, rfl, fun j hj => ?_⟩⟩
 have := (h.cellB i hi hi' j (by omega)).1
 rw [add_plain]
 exact this
end
end Go.Proofs.Ytbjiookpiminmaa.PCode
end
section
namespace Go.Proofs.Ytbjiookpiminmaa.PCode
open Go.RowKit Go.Shelf Go.Proofs.YtbjiookpiminmaaW.PrintWords Go.Proofs.YtbjiookpiminmaaW.PrintLast Go.Proofs.YtbjiookpiminmaaW.PrintMore
theorem never_small (b0 b1 : Int) (A1 : Option Addr) (c1 : Nat) (l1 : List S36) (w : World) (hlm : l1.length ≤ 9223372036854775807) (hbad : ¬ ((1 ≤ b0 ∧ b0 ≤ 30) ∧ (1 ≤ b1 ∧ b1 ≤ 8) ∧ l1.length ≤ 12)) :
  Calls Try.prog 3 #[.agg #[.int .i64 b0, .int .i64 b1], .slice A1 l1.length c1] w fun e w' => e = .returned (.bool true) ∧ Below w.heap.size w w' := by
 have hu22 := Try.underlying22
 have HAW := dH awake_
 have HW0 := dH (within_ b0 1 30)
 have HW1 := dH (within_ b1 1 8)
 by_cases h0 : 1 ≤ b0 ∧ b0 ≤ 30
 ·
  rw [decide_eq_true h0] at HW0
  by_cases h1 : 1 ≤ b1 ∧ b1 ≤ 8
  ·
   rw [decide_eq_true h1] at HW1
   have h2 : decide ((l1.length : Int) > 12) = true := decide_eq_true (by omega)
   have h2' : decide (12 < l1.length) = true := decide_eq_true (by omega)
   clear hbad h0 h1
   go_enter Try.func3, Try.ntmps3
   go_wp2_with (first
    | ((with_reducible refine bg (N := 2) rfl ?_); refine bI ?hg (N := 2) ?hd (cs := #[.int .i64 b0, .int .i64 b1]) (t := 22) ?hr ?_; (case hd => rfl); (case hg => rfl); (case hr => first | (go_simp; done) | (go_simp; rfl)); intro gB hgB w1 hbox hb1; have geB : w.heap.size ≤ gB := Nat.le_of_eq hgB.symm; clear hgB)
    | (go_at_call 8; with_reducible refine (downtiltlaw02_awake.calls 60 true _ HAW.out).mono ?_; rintro e w2 ⟨rfl, hb2⟩; replace hbox := aQ hbox hb2; have d0 : w2.cell? ⟨gB, 0, none⟩ = some (.int .i64 b0) := (ay hbox 0).trans rfl; have d1 : w2.cell? ⟨gB, 1, none⟩ = some (.int .i64 b1) := (ay hbox 1).trans rfl; clear hbox)
    | (go_at_call 9; with_reducible refine (downtiltbase_Within.calls b0 1 30 true _ HW0.out).mono ?_; rintro e w3 ⟨rfl, hd⟩; have hb3 := hd.below; replace d0 := (hb3.cell (dB _ _ d0)).trans d0; replace d1 := (hb3.cell (dB _ _ d1)).trans d1; clear hd)
    | (go_at_call 9; with_reducible refine (downtiltbase_Within.calls b1 1 8 true _ HW1.out).mono ?_; rintro e w4 ⟨rfl, hd⟩; have hb4 := hd.below; clear hd))
   go_ret
   exact ⟨rfl, aM (aM (aM hb1 hb2) hb3) hb4⟩
  ·
   rw [decide_eq_false h1] at HW1
   clear hbad h0 h1
   go_enter Try.func3, Try.ntmps3
   go_wp2_with (first
    | ((with_reducible refine bg (N := 2) rfl ?_); refine bI ?hg (N := 2) ?hd (cs := #[.int .i64 b0, .int .i64 b1]) (t := 22) ?hr ?_; (case hd => rfl); (case hg => rfl); (case hr => first | (go_simp; done) | (go_simp; rfl)); intro gB hgB w1 hbox hb1; have geB : w.heap.size ≤ gB := Nat.le_of_eq hgB.symm; clear hgB)
    | (go_at_call 8; with_reducible refine (downtiltlaw02_awake.calls 60 true _ HAW.out).mono ?_; rintro e w2 ⟨rfl, hb2⟩; replace hbox := aQ hbox hb2; have d0 : w2.cell? ⟨gB, 0, none⟩ = some (.int .i64 b0) := (ay hbox 0).trans rfl; have d1 : w2.cell? ⟨gB, 1, none⟩ = some (.int .i64 b1) := (ay hbox 1).trans rfl; clear hbox)
    | (go_at_call 9; with_reducible refine (downtiltbase_Within.calls b0 1 30 true _ HW0.out).mono ?_; rintro e w3 ⟨rfl, hd⟩; have hb3 := hd.below; replace d0 := (hb3.cell (dB _ _ d0)).trans d0; replace d1 := (hb3.cell (dB _ _ d1)).trans d1; clear hd)
    | (go_at_call 9; with_reducible refine (downtiltbase_Within.calls b1 1 8 false _ HW1.out).mono ?_; rintro e w4 ⟨rfl, hd⟩; have hb4 := hd.below; clear hd))
   go_ret
   exact ⟨rfl, aM (aM (aM hb1 hb2) hb3) hb4⟩
 ·
  rw [decide_eq_false h0] at HW0
  clear hbad h0
  go_enter Try.func3, Try.ntmps3
  go_wp2_with (first
   | ((with_reducible refine bg (N := 2) rfl ?_); refine bI ?hg (N := 2) ?hd (cs := #[.int .i64 b0, .int .i64 b1]) (t := 22) ?hr ?_; (case hd => rfl); (case hg => rfl); (case hr => first | (go_simp; done) | (go_simp; rfl)); intro gB hgB w1 hbox hb1; have geB : w.heap.size ≤ gB := Nat.le_of_eq hgB.symm; clear hgB)
   | (go_at_call 8; with_reducible refine (downtiltlaw02_awake.calls 60 true _ HAW.out).mono ?_; rintro e w2 ⟨rfl, hb2⟩; replace hbox := aQ hbox hb2; have d0 : w2.cell? ⟨gB, 0, none⟩ = some (.int .i64 b0) := (ay hbox 0).trans rfl; have d1 : w2.cell? ⟨gB, 1, none⟩ = some (.int .i64 b1) := (ay hbox 1).trans rfl; clear hbox)
   | (go_at_call 9; with_reducible refine (downtiltbase_Within.calls b0 1 30 false _ HW0.out).mono ?_; rintro e w3 ⟨rfl, hd⟩; have hb3 := hd.below; clear hd))
  go_ret
  exact ⟨rfl, aM (aM hb1 hb2) hb3⟩
end Go.Proofs.Ytbjiookpiminmaa.PCode
end
section
namespace Go.Proofs.Ytbjiookpiminmaa.PCode
open Go.RowKit Go.Proofs.YtbjiookpiminmaaW.PrintWords Go.Proofs.YtbjiookpiminmaaW.PrintLast Go.Proofs.YtbjiookpiminmaaW.PrintMore
structure PM (W : World) (S T L n : Nat) (bl : List Nat) : Prop where
 hS : W.heap[S]? = some (.cells (bl.map (rowV L) ++ List.replicate (n - bl.length) (Value.slice none 0 0)).toArray 34 (0, 0))
 hT : W.heap[T]? = some (.cells (List.replicate bl.length (Value.int .i64 (-1)) ++ List.replicate (n - bl.length) (Value.int .i64 0)).toArray 3 (0, 0))
 hb : ∀ k ∈ bl, W.heap[k]? = some (.cells (nums .i64 (List.replicate L 0)).toArray 3 (0, 0))
 nd : (S :: T :: bl).Nodup
variable {W W' : World} {S T L n : Nat} {bl : List Nat}
theorem PM.lt (h : PM W S T L n bl) : ∀ k ∈ S :: T :: bl, k < W.heap.size := by
 intro k hk
 rcases List.mem_cons.1 hk with rfl | hk
 ·
  exact bn h.hS
 ·
  rcases List.mem_cons.1 hk with rfl | hk
  ·
   exact bn h.hT
  ·
   exact bn (h.hb k hk)
theorem PM.keep (h : PM W S T L n bl) (hk : ∀ k ∈ S :: T :: bl, W'.heap[k]? = W.heap[k]?) : PM W' S T L n bl :=
 ⟨(hk _ (by simp)).trans h.hS, (hk _ (by simp)).trans h.hT, fun k h1 => (hk _ (by simp [h1])).trans (h.hb k h1), h.nd⟩
theorem PM.below (h : PM W S T L n bl) (hb : Below W.heap.size W W') : PM W' S T L n bl := h.keep fun k hk => hb.block k (h.lt k hk)
theorem made_nil (n : Nat) : madeCells #[Value.slice none 0 0] n = (List.replicate n (Value.slice none 0 0)).toArray := by
 apply Array.ext
 ·
  simp [madeCells]
 ·
  intro i h1 h2; simp [madeCells, Nat.mod_one]
theorem made_zero (n : Nat) : madeCells #[Value.int .i64 0] n = (List.replicate n (Value.int .i64 0)).toArray := by
 apply Array.ext
 ·
  simp [madeCells]
 ·
  intro i h1 h2; simp [madeCells, Nat.mod_one]
theorem PM.start (hS : W.heap[S]? = some (.cells (madeCells #[.slice none 0 0] n) 34 (0, 0))) (hT : W.heap[T]? = some (.cells (madeCells #[.int .i64 0] n) 3 (0, 0))) (hne : S ≠ T) : PM W S T L n [] := by
 rw [made_nil] at hS
 rw [made_zero] at hT
 exact ⟨by simpa using hS, by simpa using hT, by simp, by simp [hne]⟩
theorem set_mid {α : Type} (xs ys : List α) (y v : α) : (xs ++ y :: ys).set xs.length v = xs ++ v :: ys := by
 rw [List.set_append_right _ _ (Nat.le_refl _)]
 simp
theorem PM.cells (h : PM W S T L n bl) (hi : bl.length < n) : (W.cell? ⟨S, bl.length, none⟩ = some (.slice none 0 0) ∧ W.frozen? ⟨S, bl.length, none⟩ = false) ∧ (W.cell? ⟨T, bl.length, none⟩ = some (.int .i64 0) ∧ W.frozen? ⟨T, bl.length, none⟩ = false) := by
 refine ⟨⟨(ay h.hS _).trans ?_, aD h.hS _⟩, ⟨(ay h.hT _).trans ?_, aD h.hT _⟩⟩
 ·
  obtain ⟨m, hm⟩ : ∃ m, n - bl.length = m + 1 := ⟨n - bl.length - 1, by omega⟩
  rw [hm, List.replicate_succ, List.getElem?_toArray, List.getElem?_append_right (by simp)]
  simp
 ·
  obtain ⟨m, hm⟩ : ∃ m, n - bl.length = m + 1 := ⟨n - bl.length - 1, by omega⟩
  rw [hm, List.replicate_succ, List.getElem?_toArray, List.getElem?_append_right (by simp)]
  simp
theorem PM.step (h : PM W S T L n bl) (hi : bl.length < n) (g : Nat) (hg : g ∉ S :: T :: bl) (hh : W.heap[g]? = some (.cells (madeCells #[.int .i64 0] L) 3 (0, 0))) :
  PM ((W.setCell ⟨S, bl.length, none⟩ (rowV L g)).setCell ⟨T, bl.length, none⟩ (.int .i64 (-1))) S T L n (bl ++ [g]) := by
 have hnd := h.nd
 simp only [List.nodup_cons, List.mem_cons, not_or] at hnd hg
 obtain ⟨m, hm⟩ : ∃ m, n - bl.length = m + 1 := ⟨n - bl.length - 1, by omega⟩
 have hm' : n - (bl ++ [g]).length = m := by simp; omega
 rw [made_zero] at hh
 refine ⟨?_, ?_, ?_, ?_⟩
 ·
  refine (Below.heap_setCell _ _ _ S (fun e => hnd.1.1 e)).trans ?_
  rw [heap_set h.hS, hm', hm, List.replicate_succ]
  simp only [cO]
  have := set_mid (bl.map (rowV L)) (List.replicate m (Value.slice none 0 0)) (Value.slice none 0 0) (rowV L g)
  rw [List.length_map] at this
  rw [this]
  simp
 ·
  have h1 : (W.setCell ⟨S, bl.length, none⟩ (rowV L g)).heap[T]? = _ := (Below.heap_setCell W _ _ T (fun e => hnd.1.1 (Eq.symm e))).trans h.hT
  rw [heap_set h1, hm', hm, List.replicate_succ]
  simp only [cO]
  have := set_mid (List.replicate bl.length (Value.int .i64 (-1))) (List.replicate m (Value.int .i64 0)) (Value.int .i64 0) (.int .i64 (-1))
  rw [List.length_replicate] at this
  rw [this]
  simp [List.replicate_succ', List.append_assoc]
 ·
  intro k hk
  rw [List.mem_append, List.mem_singleton] at hk
  have h1 : k ≠ S := by rintro rfl; rcases hk with hk | hk; exact hnd.1.2 hk; exact hg.1 hk.symm
  have h2 : k ≠ T := by rintro rfl; rcases hk with hk | hk; exact hnd.2.1 hk; exact hg.2.1 hk.symm
  refine (Below.heap_setCell _ _ _ k h2).trans ((Below.heap_setCell _ _ _ k h1).trans ?_)
  rcases hk with hk | rfl
  ·
   exact h.hb k hk
  ·
   rw [hh]; simp [nums]
 ·
  simp only [List.nodup_cons, List.mem_cons, List.mem_append, List.mem_singleton, List.not_mem_nil, or_false, not_or]
  refine ⟨⟨hnd.1.1, hnd.1.2, fun e => hg.1 e.symm⟩, ⟨hnd.2.1, fun e => hg.2.1 e.symm⟩, ?_⟩
  rw [List.nodup_append]
  exact ⟨hnd.2.2, by simp, fun a ha b hb e => hg.2.2 (by rw [List.mem_singleton] at hb; subst hb; exact e ▸ ha)⟩
theorem PM.round (h : PM W S T L n bl) (hi : bl.length < n) : PM (((W.setCell ⟨S, bl.length, none⟩ (rowV L W.heap.size)).setCell ⟨T, bl.length, none⟩ (.int .i64 (-1))).alloc (.cells (madeCells #[.int .i64 0] L) 3)) S T L n (bl ++ [W.heap.size]) := by
 have hS := h.lt S (by simp)
 have hT := h.lt T (by simp)
 have hs := PM.step (W := W.alloc (.cells (madeCells #[.int .i64 0] L) 3)) (h.below (ak (Below.refl _ _) _)) hi W.heap.size (fun hm => by have := h.lt _ hm; omega) (World.alloc_heap_new W _)
 rw [World.setCell_alloc_past _ _ _ _ hS, World.setCell_alloc_past _ _ _ _ (by rw [show (W.setCell ⟨S, bl.length, none⟩ (rowV L W.heap.size)).heap.size = W.heap.size from (by simp [World.setCell])]; exact hT)] at hs
 exact hs
theorem PM.done (h : PM W S T L n bl) (hn : bl.length = n) : Mem W S T L bl (List.replicate n (List.replicate L 0)) (List.replicate n (-1)) := by
 have hS := h.hS
 have hT := h.hT
 rw [hn] at hS hT
 simp at hS hT
 refine ⟨hS, ?_, by simpa using hn, by simp, fun s hs => by rw [List.eq_of_mem_replicate hs]; simp, fun i h1 h2 => ?_, h.nd⟩
 ·
  rw [hT]; simp [nums]
 ·
  rw [h.hb _ (List.getElem_mem h1)]; simp
end Go.Proofs.Ytbjiookpiminmaa.PCode
end
section
namespace Go.Proofs.Ytbjiookpiminmaa.PCode
open Go.RowKit Go.Proofs.YtbjiookpiminmaaW.PrintWords Go.Proofs.YtbjiookpiminmaaW.PrintLast Go.Proofs.YtbjiookpiminmaaW.PrintMore
theorem F_of_S {W : World} {base : Nat} {ok : Nat → Prop} {A : Option Addr} {n c : Nat} {ps : List S42} (h : Kd.S k42 42 W base ok (.slice A n c) ps) : n = ps.length ∧ n ≤ c ∧ Kd.F k42 W (fun k => base ≤ k ∧ k < W.heap.size) A n ps := by
 have hR := Kd.S_R h
 obtain ⟨h1, h2, _⟩ := Kd.aZ hR
 exact ⟨h1, h2, Kd.R_F (Kd.bM (Kd.R_bound hR) (fun k hk => ⟨hk.2.1, hk.2.2.1⟩))⟩
structure NInv (w wr : World) (L n S T gB gb : Nat) (M : Int) (bl : List Nat) (ps : List S42) (A : Option Addr) (c lo hi : Nat) : Prop where
 below : Below w.heap.size w wr
 box : wr.heap[gB]? = some (.cells #[.int .i64 (L : Int), .int .i64 (n : Int)] 22 (0, 0))
 buf : wr.heap[gb]? = some (.cells #[.int .i64 (L : Int), .slice A ps.length c] 28 (0, 0))
 cap : ps.length ≤ c
 len : ps.length = n
 valid : Valid L M ps
 mem : Mem wr S T L bl (ps.map (·.f2)) (ps.map (·.f0))
 foot : Kd.F k42 wr (fun k => lo ≤ k ∧ k < hi) A ps.length ps
 top : hi ≤ wr.heap.size
 apart : ∀ k ∈ gb :: S :: T :: bl, w.heap.size ≤ k ∧ (k < lo ∨ hi ≤ k)
 base : w.heap.size ≤ gB
 nB : gB ∉ gb :: S :: T :: bl
 nb : gb ∉ S :: T :: bl
variable {w wr W' : World} {L n S T gB gb : Nat} {M : Int} {bl : List Nat} {ps : List S42} {A : Option Addr} {c lo hi : Nat}
theorem NInv.later (h : NInv w wr L n S T gB gb M bl ps A c lo hi) (hb : Below wr.heap.size wr W') : NInv w W' L n S T gB gb M bl ps A c lo hi :=
 ⟨aM h.below hb, aQ h.box hb, aQ h.buf hb, h.cap, h.len, h.valid, h.mem.below hb, Kd.F_below h.foot hb, Nat.le_trans h.top hb.size, h.apart, h.base, h.nB, h.nb⟩
end Go.Proofs.Ytbjiookpiminmaa.PCode
end
section
namespace Go.Proofs.Ytbjiookpiminmaa.PCode
open Go.RowKit Go.Shelf Go.Proofs.YtbjiookpiminmaaW.PrintWords Go.Proofs.YtbjiookpiminmaaW.PrintLast Go.Proofs.YtbjiookpiminmaaW.PrintMore
def seqL : Code → Code | .seq a _ => a | c => c
def seqR : Code → Code | .seq _ b => b | c => c
def inner : Code → Code | .block _ c => c | .loop c => c | .scope c => c | c => c
noncomputable def body3 : Code := Try.f3.body.getD .skip
noncomputable def loop2 : Code := inner (seqR (seqL (seqR (seqR (seqR (seqR (seqR (seqR (seqR body3)))))))))
noncomputable def round2 : Code := inner (seqL (seqR (inner loop2)))
noncomputable def tail2 : Code := seqR (seqR (seqR round2))
structure TInv (w wr : World) (L n S T gB gb xb gn : Nat) (x : S36) (p : Nat) (A3 : Option Addr) (c3 : Nat) (bl : List Nat) (sums : List (List Int)) (togs : List Int) (qs : List S42) (Ar : Option Addr) (cr lo hi : Nat) : Prop where
 below : Below w.heap.size w wr
 box : wr.heap[gB]? = some (.cells #[.int .i64 (L : Int), .int .i64 (n : Int)] 22 (0, 0))
 buf : ∃ v : Value, wr.heap[gb]? = some (.cells #[.int .i64 (L : Int), v] 28 (0, 0))
 xbox : wr.heap[xb]? = some (.cells #[.int .i64 (p : Int), .int .i64 x.f1, .int .i64 x.f2, .slice A3 x.f3.length c3] 36 (0, 0))
 nbox : wr.heap[gn]? = some (.cells #[.int .i64 (L : Int), .slice Ar qs.length cr] 28 (0, 0))
 cap : qs.length ≤ cr
 mem : Mem wr S T L bl sums togs
 foot : Kd.F k42 wr (fun k => lo ≤ k ∧ k < hi) Ar qs.length qs
 top : hi ≤ wr.heap.size
 apart : ∀ k ∈ gB :: gb :: xb :: gn :: S :: T :: bl, w.heap.size ≤ k ∧ (k < lo ∨ hi ≤ k)
 nd : (gB :: gb :: xb :: gn :: S :: T :: bl).Nodup
section
variable {w wr W' : World} {L n S T gB gb xb gn : Nat} {x : S36} {p : Nat} {A3 : Option Addr} {c3 : Nat} {bl : List Nat} {sums : List (List Int)} {togs : List Int} {qs : List S42} {Ar : Option Addr} {cr lo hi : Nat}
theorem TInv.later (h : TInv w wr L n S T gB gb xb gn x p A3 c3 bl sums togs qs Ar cr lo hi) (hb : Below wr.heap.size wr W') : TInv w W' L n S T gB gb xb gn x p A3 c3 bl sums togs qs Ar cr lo hi :=
 ⟨aM h.below hb, aQ h.box hb, h.buf.imp fun _ k => aQ k hb, aQ h.xbox hb, aQ h.nbox hb, h.cap, h.mem.below hb, Kd.F_below h.foot hb, Nat.le_trans h.top hb.size, h.apart, h.nd⟩
theorem TInv.nds (h : TInv w wr L n S T gB gb xb gn x p A3 c3 bl sums togs qs Ar cr lo hi) : (gB ∉ S :: T :: bl) ∧ (gb ∉ S :: T :: bl) ∧ (xb ∉ S :: T :: bl) ∧ (gn ∉ S :: T :: bl) ∧ (S :: T :: bl).Nodup := by
 have hn := h.nd
 rw [List.nodup_cons, List.nodup_cons, List.nodup_cons, List.nodup_cons] at hn
 obtain ⟨h1, h2, h3, h4, h5⟩ := hn
 exact ⟨fun hm => h1 (by simp at hm ⊢; simp [hm]), fun hm => h2 (by simp at hm ⊢; simp [hm]), fun hm => h3 (by simp at hm ⊢; simp [hm]), h4, h5⟩
theorem TInv.store (h : TInv w wr L n S T gB gb xb gn x p A3 c3 bl sums togs qs Ar cr lo hi) {g : Nat} (hg : g ∈ S :: T :: bl) (j : Nat) (u : Value) {bl' : List Nat} {sums' : List (List Int)} {togs' : List Int}
  (hm : Mem (wr.setCell ⟨g, j, none⟩ u) S T L bl' sums' togs') (hbl : ∀ k ∈ bl', k ∈ bl ∨ (w.heap.size ≤ k ∧ hi ≤ k ∧ k ∉ [gB, gb, xb, gn])) : TInv w (wr.setCell ⟨g, j, none⟩ u) L n S T gB gb xb gn x p A3 c3 bl' sums' togs' qs Ar cr lo hi := by
 obtain ⟨n1, n2, n3, n4, n5⟩ := h.nds
 have hgw := h.apart g (by simp at hg ⊢; simp [hg])
 have hmem : ∀ k ∈ S :: T :: bl', k ∈ S :: T :: bl ∨ (w.heap.size ≤ k ∧ hi ≤ k ∧ k ∉ [gB, gb, xb, gn]) := by
  intro k hk
  rcases List.mem_cons.1 hk with rfl | hk
  ·
   exact .inl (by simp)
  ·
   rcases List.mem_cons.1 hk with rfl | hk
   ·
    exact .inl (by simp)
   ·
    rcases hbl k hk with h1 | h1
    ·
     exact .inl (by simp [h1])
    ·
     exact .inr h1
 have hne : ∀ k, k ∉ S :: T :: bl → k ≠ g := fun k hk e => hk (e ▸ hg)
 refine ⟨aA h.below hgw.1, aW h.box (hne _ n1) _, h.buf.imp fun _ k => aW k (hne _ n2) _, aW h.xbox (hne _ n3) _, aW h.nbox (hne _ n4) _, h.cap, hm, ?_, ?_, ?_, ?_⟩
 ·
  refine Kd.F_kept h.foot ((Kept.refl wr (fun k => k = g)).setCell (.inl rfl) u) ?_
  rintro k ⟨h1, h2⟩ rfl
  omega
 ·
  have : (wr.setCell ⟨g, j, none⟩ u).heap.size = wr.heap.size := by simp [World.setCell]
  rw [this]; exact h.top
 ·
  intro k hk
  rw [List.mem_cons, List.mem_cons, List.mem_cons, List.mem_cons] at hk
  rcases hk with rfl | rfl | rfl | rfl | hk
  ·
   exact h.apart _ (by simp)
  ·
   exact h.apart _ (by simp)
  ·
   exact h.apart _ (by simp)
  ·
   exact h.apart _ (by simp)
  ·
   rcases hmem k hk with h1 | h1
   ·
    exact h.apart _ (by rw [List.mem_cons, List.mem_cons, List.mem_cons, List.mem_cons]; simp [h1])
   ·
    exact ⟨h1.1, .inr h1.2.1⟩
 ·
  have hn := h.nd
  rw [List.nodup_cons, List.nodup_cons, List.nodup_cons, List.nodup_cons] at hn ⊢
  obtain ⟨k1, k2, k3, k4, k5⟩ := hn
  simp only [List.mem_cons, not_or] at k1 k2 k3 n1 n2 n3 n4
  have key : ∀ k, k ∈ [gB, gb, xb, gn] → k ∉ S :: T :: bl → k ∉ S :: T :: bl' := by
   intro k hk hn hm'
   rcases hmem k hm' with h1 | h1
   ·
    exact hn h1
   ·
    exact h1.2.2 hk
  have q1 := key gB (by simp) (by simp [n1])
  have q2 := key gb (by simp) (by simp [n2])
  have q3 := key xb (by simp) (by simp [n3])
  have q4 := key gn (by simp) (by simp [n4])
  refine ⟨?_, ?_, ?_, q4, hm.nd⟩
  ·
   rw [List.mem_cons, List.mem_cons, List.mem_cons]; exact fun hh => by
    rcases hh with hh | hh | hh | hh
    ·
     exact k1.1 hh
    ·
     exact k1.2.1 hh
    ·
     exact k1.2.2.1 hh
    ·
     exact q1 hh
  ·
   rw [List.mem_cons, List.mem_cons]; exact fun hh => by
    rcases hh with hh | hh | hh
    ·
     exact k2.1 hh
    ·
     exact k2.2.1 hh
    ·
     exact q2 hh
  ·
   rw [List.mem_cons]; exact fun hh => by
    rcases hh with hh | hh
    ·
     exact k3.1 hh
    ·
     exact q3 hh
theorem TInv.close (h : TInv w wr L n S T gB gb xb gn x p A3 c3 bl sums togs qs Ar cr lo hi) (hs : sums = qs.map (·.f2)) (ht : togs = qs.map (·.f0)) (hq : qs.length = n) {M : Int} (hv : Valid L M qs) :
  NInv w ((wr.setCell ⟨gb, 0, none⟩ (.int .i64 (L : Int))).setCell ⟨gb, 1, none⟩ (.slice Ar qs.length cr)) L n S T gB gb M bl qs Ar cr lo hi := by
 obtain ⟨n1, n2, n3, n4, n5⟩ := h.nds
 have hn := h.nd
 rw [List.nodup_cons] at hn
 have hBb : gB ≠ gb := fun e => hn.1 (by simp [e])
 have hgw := h.apart gb (by simp)
 obtain ⟨v, hv0⟩ := h.buf
 refine ⟨aA (aA h.below hgw.1) hgw.1, aW (aW h.box hBb _) hBb _, ?_, h.cap, hq, hv, ?_, ?_, ?_, ?_, (h.apart gB (by simp)).1, ?_, n2⟩
 ·
  have := blk_set (blk_set hv0 0 (.int .i64 (L : Int))) 1 (.slice Ar qs.length cr)
  simpa using this
 ·
  subst hs ht
  exact (h.mem.far n2 _).far n2 _
 ·
  refine Kd.F_kept h.foot (((Kept.refl wr (fun k => k = gb)).setCell (.inl rfl) _).setCell (.inl rfl) _) ?_
  rintro k ⟨h1, h2⟩ rfl
  omega
 ·
  have : ((wr.setCell ⟨gb, 0, none⟩ (.int .i64 (L : Int))).setCell ⟨gb, 1, none⟩ (.slice Ar qs.length cr)).heap.size = wr.heap.size := by simp [World.setCell]
  rw [this]; exact h.top
 ·
  intro k hk
  exact h.apart k (by simp at hk ⊢; rcases hk with h1 | h1 | h1 | h1 <;> simp [h1])
 ·
  simp only [List.mem_cons, not_or] at n1 ⊢
  exact ⟨hBb, n1⟩
end
def baseOf (o : S42) (t : Int) (L : Nat) : List Int := if o.f0 = t then o.f2 else List.replicate L 0
def partOf (o : S42) (x : S36) (L k : Nat) : List Int := (List.range k).foldl (gstep x.f3 L x.f2.toNat) (baseOf o x.f1 L)
theorem partOf_succ (o : S42) (x : S36) (L k : Nat) : partOf o x L (k + 1) = gstep x.f3 L x.f2.toNat (partOf o x L k) k := by
 unfold partOf
 rw [List.range_succ, List.foldl_append]
 rfl
theorem baseOf_length (o : S42) (t : Int) (L : Nat) (h : o.f2.length = L) : (baseOf o t L).length = L := by
 unfold baseOf
 split
 ·
  exact h
 ·
  simp
theorem partOf_length (o : S42) (x : S36) (L : Nat) (h : o.f2.length = L) : ∀ k, (partOf o x L k).length = L
 | 0 => baseOf_length o _ L h
 | k + 1 => by rw [partOf_succ, gstep_length]; exact partOf_length o x L h k
theorem partOf_all (o : S42) (x : S36) (L : Nat) (hL : 1 ≤ L) (M : Int) (hM0 : 0 ≤ M) (hM : M ≤ 900000000) (ho : o.f2.length = L) (hb : ∀ y ∈ o.f2, -M ≤ y ∧ y ≤ M) (hn : x.f3.length ≤ 30) (hs : ∀ y ∈ x.f3, -1000000 ≤ y ∧ y ≤ 1000000) :
  partOf o x L x.f3.length = (newP o x.f1 x.f2 L x.f3).f2 := by
 unfold partOf newP baseOf
 by_cases h : o.f0 = x.f1
 ·
  rw [if_pos h, if_pos h]
  exact (gath_sum x.f3 hs hn x.f2.toNat L hL o.f2 ho M hb hM).1
 ·
  rw [if_neg h, if_neg h]
  rfl
end Go.Proofs.Ytbjiookpiminmaa.PCode
end
