/- Words and contracts for the claim's theorem, part 3 (joined by program out of the texts of this claim's proof; what it does not use is struck). -/
import Derived.Test.YtbjiookpiminmaaNeverMixed2
import Derived.Laws.EntriesVeiled
import Derived.Lib.Hide
import Derived.Lib.SliceRun
import Derived.Shelf.Abstract
set_option linter.unusedVariables false
set_option linter.unusedSimpArgs false
set_option linter.unusedSectionVars false
set_option maxHeartbeats 8000000
set_option maxRecDepth 1000000
section
namespace Go.Proofs.Ytbjiookpiminmaa.PCode
open Go.RowKit Go.Proofs.YtbjiookpiminmaaW.PrintWords Go.Proofs.YtbjiookpiminmaaW.PrintLast Go.Proofs.YtbjiookpiminmaaW.PrintMore
attribute [local go_sem] max2_int min2_int max_two min_two max_three min_three max_four min_four   -- for this text's walks alone
def downtiltref02_SoftErr.f (k : Nat) (l0 : List Int) : Option (Int) := (downtiltref02_sizedErr.f k l0 400 1000000).bind fun t295 => (some t295)
theorem downtiltref02_SoftErr.calls (k : Nat) (A0 : Option Addr) (c0 : Nat) (l0 : List Int) (r : Int) (w : World) (hr0 : Kd.C (Kd.int .i64) w A0 l0.length l0) (hc0 : l0.length ≤ c0) (h : downtiltref02_SoftErr.f k l0 = some r) :
  Calls Try.prog 50 #[.slice A0 l0.length c0] w fun e w' => e = .returned (.int .i64 r) ∧ Drawn0 w w' := by
 have HR0 := dH hr0
 have HC0 := dH hc0
 clear hr0 hc0
 have H : ((downtiltref02_sizedErr.f k l0 400 1000000).bind fun t295 => (some t295)) = some r := h
 clear h
 replace H := dF.mp H
 obtain ⟨t295, A20, H⟩ := H
 replace H : (some t295) = some r := H
 have A2 := dH A20
 clear A20
 obtain rfl := Option.some.inj H
 go_enter Try.func50, Try.ntmps50
 go_wp2_with (first | ((with_reducible refine aT (f := 113) rfl ?_); refine bq (some 4) rfl rfl Try.func113 (by kernel_rfl) rfl #[.slice A0 l0.length c0, .int .i64 400, .int .i64 1000000] rfl (by (try simp only [dh, dn, dw]); first | done | rfl | (simp only [dx, dz]; rfl) | (simp only [gt_iff_lt, dA]; rfl) | (simp [Act.eval]; done) | (simp [Act.eval, *]; done)) ?_; (with_reducible refine (downtiltref02_sizedErr.calls k _ _ l0 400 1000000 t295 _ ?side1 ?side2 A2.out).mono ?_); (case side1 => repeat (first | exact HR0.out | (with_reducible refine Kd.bA ?_ _) | (with_reducible refine Kd.bC ?_ _) | (with_reducible refine Kd.bJ ?_))); (case side2 => exact HC0.out); rintro e w' ⟨rfl, ⟨nd, rfl⟩⟩; refine ⟨_, rfl, ?_⟩))
 go_ret
 exact ⟨by first | rfl | (simp; done) | (simp [*]; done), by repeat (first | exact Drawn0.refl _ | apply Drawn0.step)⟩
def downtiltref02_VersionErr.f (a0 : Int) : Option (Int) := (downtiltbase_Within.f a0 0 3).bind fun t296 => (if t296 = true then (some 0) else (some 15))
theorem downtiltref02_VersionErr.calls (a0 : Int) (r : Int) (w : World) (h : downtiltref02_VersionErr.f a0 = some r) :
  Calls Try.prog 71 #[.int .i64 a0] w fun e w' => e = .returned (.int .i64 r) ∧ Drawn0 w w' := by
 have H : ((downtiltbase_Within.f a0 0 3).bind fun t296 => (if t296 = true then (some 0) else (some 15))) = some r := h
 clear h
 replace H := dF.mp H
 obtain ⟨t296, A20, H⟩ := H
 replace H : (if t296 = true then (some 0) else (some 15)) = some r := H
 have A2 := dH A20
 clear A20
 by_cases c3 : t296 = true
 ·
  subst c3
  have H1 : (some 0) = some r := by rw [if_pos rfl] at H; exact H
  clear H
  have H := H1
  clear H1
  obtain rfl := Option.some.inj H
  go_enter Try.func71, Try.ntmps71
  go_wp2_with (first | ((with_reducible refine aT (f := 9) rfl ?_); refine bq (some 4) rfl rfl Try.func9 (by kernel_rfl) rfl #[.int .i64 a0, .int .i64 0, .int .i64 3] rfl (by (try simp only [dh, dn, dw]); first | done | rfl | (simp only [dx, dz]; rfl) | (simp only [gt_iff_lt, dA]; rfl) | (simp [Act.eval]; done) | (simp [Act.eval, *]; done)) ?_; (with_reducible refine (downtiltbase_Within.calls a0 0 3 true _ A2.out).mono ?_); rintro e w' ⟨rfl, ⟨nd, rfl⟩⟩; refine ⟨_, rfl, ?_⟩))
  go_ret
  exact ⟨by first | rfl | (simp; done) | (simp [*]; done), by repeat (first | exact Drawn0.refl _ | apply Drawn0.step)⟩
 ·
  replace c3 := Bool.eq_false_iff.mpr c3
  subst c3
  have H1 : (some 15) = some r := by rw [if_neg (show ¬ (false = true) by decide)] at H; exact H
  clear H
  have H := H1
  clear H1
  obtain rfl := Option.some.inj H
  go_enter Try.func71, Try.ntmps71
  go_wp2_with (first | ((with_reducible refine aT (f := 9) rfl ?_); refine bq (some 4) rfl rfl Try.func9 (by kernel_rfl) rfl #[.int .i64 a0, .int .i64 0, .int .i64 3] rfl (by (try simp only [dh, dn, dw]); first | done | rfl | (simp only [dx, dz]; rfl) | (simp only [gt_iff_lt, dA]; rfl) | (simp [Act.eval]; done) | (simp [Act.eval, *]; done)) ?_; (with_reducible refine (downtiltbase_Within.calls a0 0 3 false _ A2.out).mono ?_); rintro e w' ⟨rfl, ⟨nd, rfl⟩⟩; refine ⟨_, rfl, ?_⟩))
  go_ret
  exact ⟨by first | rfl | (simp; done) | (simp [*]; done), by repeat (first | exact Drawn0.refl _ | apply Drawn0.step)⟩
def downtiltref02_ReceivedErr.f (k : Nat) (a0_0 : Int) (l0_1 : List (S42)) (a1_0 : Int) (a1_1 : Int) (a1_2 : Int) (l1_3 : List Int) : Option (Int) := (downtiltbase_Within.f a1_0 0 (wrap64 ((l0_1.length : Int) - 1))).bind fun t299 => (if t299 = true then ((downtiltbase_Within.f a1_1 0 1).bind fun t300 => (if t300 = true then ((downtiltref02_VersionErr.f a1_2).bind fun t301 => (if t301 = 0 then ((downtiltref02_SoftErr.f k l1_3).bind fun t302 => (some t302)) else (some t301))) else (some 15))) else (some 6))
theorem downtiltref02_ReceivedErr.calls (k : Nat) (a0_0 : Int) (A0_1 : Option Addr) (c0_1 : Nat) (l0_1 : List (S42)) (a1_0 : Int) (a1_1 : Int) (a1_2 : Int) (A1_3 : Option Addr) (c1_3 : Nat) (l1_3 : List Int) (r : Int) (w : World) (hr0_1 : Kd.C k42 w A0_1 l0_1.length l0_1) (hc0_1 : l0_1.length ≤ c0_1) (hr1_3 : Kd.C (Kd.int .i64) w A1_3 l1_3.length l1_3) (hc1_3 : l1_3.length ≤ c1_3) (h : downtiltref02_ReceivedErr.f k a0_0 l0_1 a1_0 a1_1 a1_2 l1_3 = some r) :
  Calls Try.prog 12 #[.agg #[.int .i64 a0_0, .slice A0_1 l0_1.length c0_1], .agg #[.int .i64 a1_0, .int .i64 a1_1, .int .i64 a1_2, .slice A1_3 l1_3.length c1_3]] w fun e w' => e = .returned (.int .i64 r) ∧ Below w.heap.size w w' := by
 have hu28 := Try.underlying28
 have hu36 := Try.underlying36
 have HR0_1 := dH hr0_1
 have HC0_1 := dH hc0_1
 clear hr0_1 hc0_1
 have HR1_3 := dH hr1_3
 have HC1_3 := dH hc1_3
 clear hr1_3 hc1_3
 have HB := dH (Below.refl w.heap.size w)
 have H : ((downtiltbase_Within.f a1_0 0 (wrap64 ((l0_1.length : Int) - 1))).bind fun t299 => (if t299 = true then ((downtiltbase_Within.f a1_1 0 1).bind fun t300 => (if t300 = true then ((downtiltref02_VersionErr.f a1_2).bind fun t301 => (if t301 = 0 then ((downtiltref02_SoftErr.f k l1_3).bind fun t302 => (some t302)) else (some t301))) else (some 15))) else (some 6))) = some r := h
 clear h
 replace H := dF.mp H
 obtain ⟨t299, A30, H⟩ := H
 replace H : (if t299 = true then ((downtiltbase_Within.f a1_1 0 1).bind fun t300 => (if t300 = true then ((downtiltref02_VersionErr.f a1_2).bind fun t301 => (if t301 = 0 then ((downtiltref02_SoftErr.f k l1_3).bind fun t302 => (some t302)) else (some t301))) else (some 15))) else (some 6)) = some r := H
 have A3 := dH A30
 clear A30
 by_cases c4 : t299 = true
 ·
  subst c4
  have H1 : ((downtiltbase_Within.f a1_1 0 1).bind fun t300 => (if t300 = true then ((downtiltref02_VersionErr.f a1_2).bind fun t301 => (if t301 = 0 then ((downtiltref02_SoftErr.f k l1_3).bind fun t302 => (some t302)) else (some t301))) else (some 15))) = some r := by rw [if_pos rfl] at H; exact H
  clear H
  have H := H1
  clear H1
  replace H := dF.mp H
  obtain ⟨t300, A50, H⟩ := H
  replace H : (if t300 = true then ((downtiltref02_VersionErr.f a1_2).bind fun t301 => (if t301 = 0 then ((downtiltref02_SoftErr.f k l1_3).bind fun t302 => (some t302)) else (some t301))) else (some 15)) = some r := H
  have A5 := dH A50
  clear A50
  by_cases c6 : t300 = true
  ·
   subst c6
   have H1 : ((downtiltref02_VersionErr.f a1_2).bind fun t301 => (if t301 = 0 then ((downtiltref02_SoftErr.f k l1_3).bind fun t302 => (some t302)) else (some t301))) = some r := by rw [if_pos rfl] at H; exact H
   clear H
   have H := H1
   clear H1
   replace H := dF.mp H
   obtain ⟨t301, A70, H⟩ := H
   replace H : (if t301 = 0 then ((downtiltref02_SoftErr.f k l1_3).bind fun t302 => (some t302)) else (some t301)) = some r := H
   have A7 := dH A70
   clear A70
   by_cases c8 : t301 = 0
   ·
    rw [if_pos c8] at H
    have c8b0 : (t301 == 0) = true := beq_iff_eq.mpr c8
    have c8b1 : (t301 != 0) = false := bne_eq_false_iff_eq.mpr c8
    clear c8
    replace H := dF.mp H
    obtain ⟨t302, A90, H⟩ := H
    replace H : (some t302) = some r := H
    have A9 := dH A90
    clear A90
    obtain rfl := Option.some.inj H
    go_enter Try.func12, Try.ntmps12
    go_wp2_with (first | ((with_reducible refine bg (N := 2) rfl ?_); refine bI ?hg (N := 2) ?hd (cs := #[.int .i64 a0_0, .slice A0_1 l0_1.length c0_1]) (t := 28) ?hr ?_; (case hd => rfl); (case hg => rfl); (case hr => first | (go_simp; done) | (go_simp; rfl)); intro gb297 hg w10 hbox hb; have n0_ := dH (aM (by repeat (first | (with_reducible first | exact HB.out | apply ak | apply ah | apply aj) | exact HB.out)) hb); have n1_ := dH (hbox); have n2_ := dH ((by rw [hg]; exact (aK (by repeat (first | (with_reducible first | exact HB.out | apply ak | apply ah | apply aj) | exact HB.out))) : w.heap.size ≤ gb297)); have n3_ := dH ((by rw [hg]; exact (aK (by repeat (first | (with_reducible first | exact HB.out | apply ak | apply ah | apply aj) | exact HB.out))) : w.heap.size ≤ gb297)); clear HB; have HB := n0_; have BK297 := n1_; have GW297 := n2_; have GE297 := n3_; clear n0_ n1_ n2_ n3_; clear hb hbox hg) | ((with_reducible refine bg (N := 3) rfl ?_); refine bI ?hg (N := 3) ?hd (cs := #[.int .i64 a1_0, .int .i64 a1_1, .int .i64 a1_2, .slice A1_3 l1_3.length c1_3]) (t := 36) ?hr ?_; (case hd => rfl); (case hg => rfl); (case hr => first | (go_simp; done) | (go_simp; rfl)); intro gb298 hg w11 hbox hb; have n0_ := dH (aQ (g := gb297) (o := .cells #[.int .i64 a0_0, .slice A0_1 l0_1.length c0_1] 28 (0, 0)) (by (with_reducible repeat (first | refine av ?_ _ | refine aC ?_ | refine au ?_ _)); exact BK297.out) hb); have n1_ := dH (aM (by repeat (first | (with_reducible first | exact HB.out | apply ak | apply ah | apply aj | refine aA ?_ GE297.out) | exact HB.out)) hb); have n2_ := dH (hbox); have n3_ := dH ((by rw [hg]; exact (aK (by repeat (first | (with_reducible first | exact HB.out | apply ak | apply ah | apply aj | refine aA ?_ GE297.out) | exact HB.out))) : w.heap.size ≤ gb298)); have n4_ := dH ((by rw [hg]; exact (aK (by repeat (first | (with_reducible first | exact HB.out | apply ak | apply ah | apply aj | refine aA ?_ GE297.out) | exact HB.out))) : w.heap.size ≤ gb298)); have n5_ := dH ((by rw [hg]; exact Nat.ne_of_lt (bn (g := gb297) (o := .cells #[.int .i64 a0_0, .slice A0_1 l0_1.length c0_1] 28 (0, 0)) (by (with_reducible repeat (first | refine av ?_ _ | refine aC ?_ | refine au ?_ _)); exact BK297.out)) : gb297 ≠ gb298)); have n6_ := dH ((by rw [hg]; exact Nat.ne_of_gt (bn (g := gb297) (o := .cells #[.int .i64 a0_0, .slice A0_1 l0_1.length c0_1] 28 (0, 0)) (by (with_reducible repeat (first | refine av ?_ _ | refine aC ?_ | refine au ?_ _)); exact BK297.out)) : gb298 ≠ gb297)); clear BK297; clear HB; have BK297 := n0_; have HB := n1_; have BK298 := n2_; have GW298 := n3_; have GE298 := n4_; have NB297_298 := n5_; have NB298_297 := n6_; clear n0_ n1_ n2_ n3_ n4_ n5_ n6_; clear hb hbox hg; have hnb12 := NB298_297.out; have hnc12 := NB297_298.out; have hcz13_0 : w11.cell? ⟨gb298, 0, none⟩ = some (.int .i64 a1_0) := (ay BK298.out 0).trans rfl; have hcz13_1 : w11.cell? ⟨gb298, 1, none⟩ = some (.int .i64 a1_1) := (ay BK298.out 1).trans rfl; have hcz13_2 : w11.cell? ⟨gb298, 2, none⟩ = some (.int .i64 a1_2) := (ay BK298.out 2).trans rfl; have hcz13_3 : w11.cell? ⟨gb298, 3, none⟩ = some (.slice A1_3 l1_3.length c1_3) := (ay BK298.out 3).trans rfl; have hfz13_0 := aD BK298.out 0; have hfz13_1 := aD BK298.out 1; have hfz13_2 := aD BK298.out 2; have hfz13_3 := aD BK298.out 3; have hcz14_0 : w11.cell? ⟨gb297, 0, none⟩ = some (.int .i64 a0_0) := (ay BK297.out 0).trans rfl; have hcz14_1 : w11.cell? ⟨gb297, 1, none⟩ = some (.slice A0_1 l0_1.length c0_1) := (ay BK297.out 1).trans rfl; have hfz14_0 := aD BK297.out 0; have hfz14_1 := aD BK297.out 1) | ((with_reducible refine aT (f := 9) rfl ?_); refine bq (some 12) rfl rfl Try.func9 (by kernel_rfl) rfl #[.int .i64 a1_0, .int .i64 0, .int .i64 (wrap64 ((l0_1.length : Int) - 1))] rfl (by (try simp only [dh, dn, dw]); first | done | rfl | (simp only [dx, dz]; rfl) | (simp only [gt_iff_lt, dA]; rfl) | (simp [Act.eval]; done) | (simp [Act.eval, *]; done)) ?_; (with_reducible refine (downtiltbase_Within.calls a1_0 0 (wrap64 ((l0_1.length : Int) - 1)) true _ A3.out).mono ?_); rintro e w' ⟨rfl, ⟨nd, rfl⟩⟩; refine ⟨_, rfl, ?_⟩) | ((with_reducible refine aT (f := 9) rfl ?_); refine bq (some 16) rfl rfl Try.func9 (by kernel_rfl) rfl #[.int .i64 a1_1, .int .i64 0, .int .i64 1] rfl (by (try simp only [dh, dn, dw]); first | done | rfl | (simp only [dx, dz]; rfl) | (simp only [gt_iff_lt, dA]; rfl) | (simp [Act.eval]; done) | (simp [Act.eval, *]; done)) ?_; (with_reducible refine (downtiltbase_Within.calls a1_1 0 1 true _ A5.out).mono ?_); rintro e w' ⟨rfl, ⟨nd, rfl⟩⟩; refine ⟨_, rfl, ?_⟩) | ((with_reducible refine aT (f := 71) rfl ?_); refine bq (some 20) rfl rfl Try.func71 (by kernel_rfl) rfl #[.int .i64 a1_2] rfl (by (try simp only [dh, dn, dw]); first | done | rfl | (simp only [dx, dz]; rfl) | (simp only [gt_iff_lt, dA]; rfl) | (simp [Act.eval]; done) | (simp [Act.eval, *]; done)) ?_; (with_reducible refine (downtiltref02_VersionErr.calls a1_2 t301 _ A7.out).mono ?_); rintro e w' ⟨rfl, ⟨nd, rfl⟩⟩; refine ⟨_, rfl, ?_⟩) | ((with_reducible refine aT (f := 50) rfl ?_); refine bq (some 26) rfl rfl Try.func50 (by kernel_rfl) rfl #[.slice A1_3 l1_3.length c1_3] rfl (by (try simp only [dh, dn, dw]); first | done | rfl | (simp only [dx, dz]; rfl) | (simp only [gt_iff_lt, dA]; rfl) | (simp [Act.eval]; done) | (simp [Act.eval, *]; done)) ?_; (with_reducible refine (downtiltref02_SoftErr.calls k _ _ l1_3 t302 _ ?side1 ?side2 A9.out).mono ?_); (case side1 => repeat (first | exact (Kd.bF HR1_3.out (by repeat (first | (with_reducible first | exact HB.out | apply ak | apply ah | apply aj | refine aA ?_ GE297.out | refine aA ?_ GE298.out) | exact HB.out))) | (with_reducible refine Kd.bA ?_ _) | (with_reducible refine Kd.bC ?_ _) | (with_reducible refine Kd.bJ ?_))); (case side2 => exact HC1_3.out); rintro e w' ⟨rfl, ⟨nd, rfl⟩⟩; refine ⟨_, rfl, ?_⟩))
    go_ret
    exact ⟨by first | rfl | (simp [aX, aY] <;> rfl) | (simp [*, aX, aY] <;> rfl), by repeat (first | (with_reducible first | exact HB.out | apply ak | apply ah | apply aj | refine aA ?_ GE297.out | refine aA ?_ GE298.out) | exact HB.out)⟩
   ·
    rw [if_neg c8] at H
    have c8b0 : (t301 == 0) = false := beq_eq_false_iff_ne.mpr c8
    have c8b1 : (t301 != 0) = true := bne_iff_ne.mpr c8
    obtain rfl := Option.some.inj H
    go_enter Try.func12, Try.ntmps12
    go_wp2_with (first | ((with_reducible refine bg (N := 2) rfl ?_); refine bI ?hg (N := 2) ?hd (cs := #[.int .i64 a0_0, .slice A0_1 l0_1.length c0_1]) (t := 28) ?hr ?_; (case hd => rfl); (case hg => rfl); (case hr => first | (go_simp; done) | (go_simp; rfl)); intro gb297 hg w15 hbox hb; have n0_ := dH (aM (by repeat (first | (with_reducible first | exact HB.out | apply ak | apply ah | apply aj) | exact HB.out)) hb); have n1_ := dH (hbox); have n2_ := dH ((by rw [hg]; exact (aK (by repeat (first | (with_reducible first | exact HB.out | apply ak | apply ah | apply aj) | exact HB.out))) : w.heap.size ≤ gb297)); have n3_ := dH ((by rw [hg]; exact (aK (by repeat (first | (with_reducible first | exact HB.out | apply ak | apply ah | apply aj) | exact HB.out))) : w.heap.size ≤ gb297)); clear HB; have HB := n0_; have BK297 := n1_; have GW297 := n2_; have GE297 := n3_; clear n0_ n1_ n2_ n3_; clear hb hbox hg) | ((with_reducible refine bg (N := 3) rfl ?_); refine bI ?hg (N := 3) ?hd (cs := #[.int .i64 a1_0, .int .i64 a1_1, .int .i64 a1_2, .slice A1_3 l1_3.length c1_3]) (t := 36) ?hr ?_; (case hd => rfl); (case hg => rfl); (case hr => first | (go_simp; done) | (go_simp; rfl)); intro gb298 hg w16 hbox hb; have n0_ := dH (aQ (g := gb297) (o := .cells #[.int .i64 a0_0, .slice A0_1 l0_1.length c0_1] 28 (0, 0)) (by (with_reducible repeat (first | refine av ?_ _ | refine aC ?_ | refine au ?_ _)); exact BK297.out) hb); have n1_ := dH (aM (by repeat (first | (with_reducible first | exact HB.out | apply ak | apply ah | apply aj | refine aA ?_ GE297.out) | exact HB.out)) hb); have n2_ := dH (hbox); have n3_ := dH ((by rw [hg]; exact (aK (by repeat (first | (with_reducible first | exact HB.out | apply ak | apply ah | apply aj | refine aA ?_ GE297.out) | exact HB.out))) : w.heap.size ≤ gb298)); have n4_ := dH ((by rw [hg]; exact (aK (by repeat (first | (with_reducible first | exact HB.out | apply ak | apply ah | apply aj | refine aA ?_ GE297.out) | exact HB.out))) : w.heap.size ≤ gb298)); have n5_ := dH ((by rw [hg]; exact Nat.ne_of_lt (bn (g := gb297) (o := .cells #[.int .i64 a0_0, .slice A0_1 l0_1.length c0_1] 28 (0, 0)) (by (with_reducible repeat (first | refine av ?_ _ | refine aC ?_ | refine au ?_ _)); exact BK297.out)) : gb297 ≠ gb298)); have n6_ := dH ((by rw [hg]; exact Nat.ne_of_gt (bn (g := gb297) (o := .cells #[.int .i64 a0_0, .slice A0_1 l0_1.length c0_1] 28 (0, 0)) (by (with_reducible repeat (first | refine av ?_ _ | refine aC ?_ | refine au ?_ _)); exact BK297.out)) : gb298 ≠ gb297)); clear BK297; clear HB; have BK297 := n0_; have HB := n1_; have BK298 := n2_; have GW298 := n3_; have GE298 := n4_; have NB297_298 := n5_; have NB298_297 := n6_; clear n0_ n1_ n2_ n3_ n4_ n5_ n6_; clear hb hbox hg; have hnb17 := NB298_297.out; have hnc17 := NB297_298.out; have hcz18_0 : w16.cell? ⟨gb298, 0, none⟩ = some (.int .i64 a1_0) := (ay BK298.out 0).trans rfl; have hcz18_1 : w16.cell? ⟨gb298, 1, none⟩ = some (.int .i64 a1_1) := (ay BK298.out 1).trans rfl; have hcz18_2 : w16.cell? ⟨gb298, 2, none⟩ = some (.int .i64 a1_2) := (ay BK298.out 2).trans rfl; have hcz18_3 : w16.cell? ⟨gb298, 3, none⟩ = some (.slice A1_3 l1_3.length c1_3) := (ay BK298.out 3).trans rfl; have hfz18_0 := aD BK298.out 0; have hfz18_1 := aD BK298.out 1; have hfz18_2 := aD BK298.out 2; have hfz18_3 := aD BK298.out 3; have hcz19_0 : w16.cell? ⟨gb297, 0, none⟩ = some (.int .i64 a0_0) := (ay BK297.out 0).trans rfl; have hcz19_1 : w16.cell? ⟨gb297, 1, none⟩ = some (.slice A0_1 l0_1.length c0_1) := (ay BK297.out 1).trans rfl; have hfz19_0 := aD BK297.out 0; have hfz19_1 := aD BK297.out 1) | ((with_reducible refine aT (f := 9) rfl ?_); refine bq (some 12) rfl rfl Try.func9 (by kernel_rfl) rfl #[.int .i64 a1_0, .int .i64 0, .int .i64 (wrap64 ((l0_1.length : Int) - 1))] rfl (by (try simp only [dh, dn, dw]); first | done | rfl | (simp only [dx, dz]; rfl) | (simp only [gt_iff_lt, dA]; rfl) | (simp [Act.eval]; done) | (simp [Act.eval, *]; done)) ?_; (with_reducible refine (downtiltbase_Within.calls a1_0 0 (wrap64 ((l0_1.length : Int) - 1)) true _ A3.out).mono ?_); rintro e w' ⟨rfl, ⟨nd, rfl⟩⟩; refine ⟨_, rfl, ?_⟩) | ((with_reducible refine aT (f := 9) rfl ?_); refine bq (some 16) rfl rfl Try.func9 (by kernel_rfl) rfl #[.int .i64 a1_1, .int .i64 0, .int .i64 1] rfl (by (try simp only [dh, dn, dw]); first | done | rfl | (simp only [dx, dz]; rfl) | (simp only [gt_iff_lt, dA]; rfl) | (simp [Act.eval]; done) | (simp [Act.eval, *]; done)) ?_; (with_reducible refine (downtiltbase_Within.calls a1_1 0 1 true _ A5.out).mono ?_); rintro e w' ⟨rfl, ⟨nd, rfl⟩⟩; refine ⟨_, rfl, ?_⟩) | ((with_reducible refine aT (f := 71) rfl ?_); refine bq (some 20) rfl rfl Try.func71 (by kernel_rfl) rfl #[.int .i64 a1_2] rfl (by (try simp only [dh, dn, dw]); first | done | rfl | (simp only [dx, dz]; rfl) | (simp only [gt_iff_lt, dA]; rfl) | (simp [Act.eval]; done) | (simp [Act.eval, *]; done)) ?_; (with_reducible refine (downtiltref02_VersionErr.calls a1_2 t301 _ A7.out).mono ?_); rintro e w' ⟨rfl, ⟨nd, rfl⟩⟩; refine ⟨_, rfl, ?_⟩))
    go_ret
    exact ⟨by first | rfl | (simp [aX, aY] <;> rfl) | (simp [*, aX, aY] <;> rfl), by repeat (first | (with_reducible first | exact HB.out | apply ak | apply ah | apply aj | refine aA ?_ GE297.out | refine aA ?_ GE298.out) | exact HB.out)⟩
  ·
   replace c6 := Bool.eq_false_iff.mpr c6
   subst c6
   have H1 : (some 15) = some r := by rw [if_neg (show ¬ (false = true) by decide)] at H; exact H
   clear H
   have H := H1
   clear H1
   obtain rfl := Option.some.inj H
   go_enter Try.func12, Try.ntmps12
   go_wp2_with (first | ((with_reducible refine bg (N := 2) rfl ?_); refine bI ?hg (N := 2) ?hd (cs := #[.int .i64 a0_0, .slice A0_1 l0_1.length c0_1]) (t := 28) ?hr ?_; (case hd => rfl); (case hg => rfl); (case hr => first | (go_simp; done) | (go_simp; rfl)); intro gb297 hg w20 hbox hb; have n0_ := dH (aM (by repeat (first | (with_reducible first | exact HB.out | apply ak | apply ah | apply aj) | exact HB.out)) hb); have n1_ := dH (hbox); have n2_ := dH ((by rw [hg]; exact (aK (by repeat (first | (with_reducible first | exact HB.out | apply ak | apply ah | apply aj) | exact HB.out))) : w.heap.size ≤ gb297)); have n3_ := dH ((by rw [hg]; exact (aK (by repeat (first | (with_reducible first | exact HB.out | apply ak | apply ah | apply aj) | exact HB.out))) : w.heap.size ≤ gb297)); clear HB; have HB := n0_; have BK297 := n1_; have GW297 := n2_; have GE297 := n3_; clear n0_ n1_ n2_ n3_; clear hb hbox hg) | ((with_reducible refine bg (N := 3) rfl ?_); refine bI ?hg (N := 3) ?hd (cs := #[.int .i64 a1_0, .int .i64 a1_1, .int .i64 a1_2, .slice A1_3 l1_3.length c1_3]) (t := 36) ?hr ?_; (case hd => rfl); (case hg => rfl); (case hr => first | (go_simp; done) | (go_simp; rfl)); intro gb298 hg w21 hbox hb; have n0_ := dH (aQ (g := gb297) (o := .cells #[.int .i64 a0_0, .slice A0_1 l0_1.length c0_1] 28 (0, 0)) (by (with_reducible repeat (first | refine av ?_ _ | refine aC ?_ | refine au ?_ _)); exact BK297.out) hb); have n1_ := dH (aM (by repeat (first | (with_reducible first | exact HB.out | apply ak | apply ah | apply aj | refine aA ?_ GE297.out) | exact HB.out)) hb); have n2_ := dH (hbox); have n3_ := dH ((by rw [hg]; exact (aK (by repeat (first | (with_reducible first | exact HB.out | apply ak | apply ah | apply aj | refine aA ?_ GE297.out) | exact HB.out))) : w.heap.size ≤ gb298)); have n4_ := dH ((by rw [hg]; exact (aK (by repeat (first | (with_reducible first | exact HB.out | apply ak | apply ah | apply aj | refine aA ?_ GE297.out) | exact HB.out))) : w.heap.size ≤ gb298)); have n5_ := dH ((by rw [hg]; exact Nat.ne_of_lt (bn (g := gb297) (o := .cells #[.int .i64 a0_0, .slice A0_1 l0_1.length c0_1] 28 (0, 0)) (by (with_reducible repeat (first | refine av ?_ _ | refine aC ?_ | refine au ?_ _)); exact BK297.out)) : gb297 ≠ gb298)); have n6_ := dH ((by rw [hg]; exact Nat.ne_of_gt (bn (g := gb297) (o := .cells #[.int .i64 a0_0, .slice A0_1 l0_1.length c0_1] 28 (0, 0)) (by (with_reducible repeat (first | refine av ?_ _ | refine aC ?_ | refine au ?_ _)); exact BK297.out)) : gb298 ≠ gb297)); clear BK297; clear HB; have BK297 := n0_; have HB := n1_; have BK298 := n2_; have GW298 := n3_; have GE298 := n4_; have NB297_298 := n5_; have NB298_297 := n6_; clear n0_ n1_ n2_ n3_ n4_ n5_ n6_; clear hb hbox hg; have hnb22 := NB298_297.out; have hnc22 := NB297_298.out; have hcz23_0 : w21.cell? ⟨gb298, 0, none⟩ = some (.int .i64 a1_0) := (ay BK298.out 0).trans rfl; have hcz23_1 : w21.cell? ⟨gb298, 1, none⟩ = some (.int .i64 a1_1) := (ay BK298.out 1).trans rfl; have hcz23_2 : w21.cell? ⟨gb298, 2, none⟩ = some (.int .i64 a1_2) := (ay BK298.out 2).trans rfl; have hcz23_3 : w21.cell? ⟨gb298, 3, none⟩ = some (.slice A1_3 l1_3.length c1_3) := (ay BK298.out 3).trans rfl; have hfz23_0 := aD BK298.out 0; have hfz23_1 := aD BK298.out 1; have hfz23_2 := aD BK298.out 2; have hfz23_3 := aD BK298.out 3; have hcz24_0 : w21.cell? ⟨gb297, 0, none⟩ = some (.int .i64 a0_0) := (ay BK297.out 0).trans rfl; have hcz24_1 : w21.cell? ⟨gb297, 1, none⟩ = some (.slice A0_1 l0_1.length c0_1) := (ay BK297.out 1).trans rfl; have hfz24_0 := aD BK297.out 0; have hfz24_1 := aD BK297.out 1) | ((with_reducible refine aT (f := 9) rfl ?_); refine bq (some 12) rfl rfl Try.func9 (by kernel_rfl) rfl #[.int .i64 a1_0, .int .i64 0, .int .i64 (wrap64 ((l0_1.length : Int) - 1))] rfl (by (try simp only [dh, dn, dw]); first | done | rfl | (simp only [dx, dz]; rfl) | (simp only [gt_iff_lt, dA]; rfl) | (simp [Act.eval]; done) | (simp [Act.eval, *]; done)) ?_; (with_reducible refine (downtiltbase_Within.calls a1_0 0 (wrap64 ((l0_1.length : Int) - 1)) true _ A3.out).mono ?_); rintro e w' ⟨rfl, ⟨nd, rfl⟩⟩; refine ⟨_, rfl, ?_⟩) | ((with_reducible refine aT (f := 9) rfl ?_); refine bq (some 16) rfl rfl Try.func9 (by kernel_rfl) rfl #[.int .i64 a1_1, .int .i64 0, .int .i64 1] rfl (by (try simp only [dh, dn, dw]); first | done | rfl | (simp only [dx, dz]; rfl) | (simp only [gt_iff_lt, dA]; rfl) | (simp [Act.eval]; done) | (simp [Act.eval, *]; done)) ?_; (with_reducible refine (downtiltbase_Within.calls a1_1 0 1 false _ A5.out).mono ?_); rintro e w' ⟨rfl, ⟨nd, rfl⟩⟩; refine ⟨_, rfl, ?_⟩))
   go_ret
   exact ⟨by first | rfl | (simp [aX, aY] <;> rfl) | (simp [*, aX, aY] <;> rfl), by repeat (first | (with_reducible first | exact HB.out | apply ak | apply ah | apply aj | refine aA ?_ GE297.out | refine aA ?_ GE298.out) | exact HB.out)⟩
 ·
  replace c4 := Bool.eq_false_iff.mpr c4
  subst c4
  have H1 : (some 6) = some r := by rw [if_neg (show ¬ (false = true) by decide)] at H; exact H
  clear H
  have H := H1
  clear H1
  obtain rfl := Option.some.inj H
  go_enter Try.func12, Try.ntmps12
  go_wp2_with (first | ((with_reducible refine bg (N := 2) rfl ?_); refine bI ?hg (N := 2) ?hd (cs := #[.int .i64 a0_0, .slice A0_1 l0_1.length c0_1]) (t := 28) ?hr ?_; (case hd => rfl); (case hg => rfl); (case hr => first | (go_simp; done) | (go_simp; rfl)); intro gb297 hg w25 hbox hb; have n0_ := dH (aM (by repeat (first | (with_reducible first | exact HB.out | apply ak | apply ah | apply aj) | exact HB.out)) hb); have n1_ := dH (hbox); have n2_ := dH ((by rw [hg]; exact (aK (by repeat (first | (with_reducible first | exact HB.out | apply ak | apply ah | apply aj) | exact HB.out))) : w.heap.size ≤ gb297)); have n3_ := dH ((by rw [hg]; exact (aK (by repeat (first | (with_reducible first | exact HB.out | apply ak | apply ah | apply aj) | exact HB.out))) : w.heap.size ≤ gb297)); clear HB; have HB := n0_; have BK297 := n1_; have GW297 := n2_; have GE297 := n3_; clear n0_ n1_ n2_ n3_; clear hb hbox hg) | ((with_reducible refine bg (N := 3) rfl ?_); refine bI ?hg (N := 3) ?hd (cs := #[.int .i64 a1_0, .int .i64 a1_1, .int .i64 a1_2, .slice A1_3 l1_3.length c1_3]) (t := 36) ?hr ?_; (case hd => rfl); (case hg => rfl); (case hr => first | (go_simp; done) | (go_simp; rfl)); intro gb298 hg w26 hbox hb; have n0_ := dH (aQ (g := gb297) (o := .cells #[.int .i64 a0_0, .slice A0_1 l0_1.length c0_1] 28 (0, 0)) (by (with_reducible repeat (first | refine av ?_ _ | refine aC ?_ | refine au ?_ _)); exact BK297.out) hb); have n1_ := dH (aM (by repeat (first | (with_reducible first | exact HB.out | apply ak | apply ah | apply aj | refine aA ?_ GE297.out) | exact HB.out)) hb); have n2_ := dH (hbox); have n3_ := dH ((by rw [hg]; exact (aK (by repeat (first | (with_reducible first | exact HB.out | apply ak | apply ah | apply aj | refine aA ?_ GE297.out) | exact HB.out))) : w.heap.size ≤ gb298)); have n4_ := dH ((by rw [hg]; exact (aK (by repeat (first | (with_reducible first | exact HB.out | apply ak | apply ah | apply aj | refine aA ?_ GE297.out) | exact HB.out))) : w.heap.size ≤ gb298)); have n5_ := dH ((by rw [hg]; exact Nat.ne_of_lt (bn (g := gb297) (o := .cells #[.int .i64 a0_0, .slice A0_1 l0_1.length c0_1] 28 (0, 0)) (by (with_reducible repeat (first | refine av ?_ _ | refine aC ?_ | refine au ?_ _)); exact BK297.out)) : gb297 ≠ gb298)); have n6_ := dH ((by rw [hg]; exact Nat.ne_of_gt (bn (g := gb297) (o := .cells #[.int .i64 a0_0, .slice A0_1 l0_1.length c0_1] 28 (0, 0)) (by (with_reducible repeat (first | refine av ?_ _ | refine aC ?_ | refine au ?_ _)); exact BK297.out)) : gb298 ≠ gb297)); clear BK297; clear HB; have BK297 := n0_; have HB := n1_; have BK298 := n2_; have GW298 := n3_; have GE298 := n4_; have NB297_298 := n5_; have NB298_297 := n6_; clear n0_ n1_ n2_ n3_ n4_ n5_ n6_; clear hb hbox hg; have hnb27 := NB298_297.out; have hnc27 := NB297_298.out; have hcz28_0 : w26.cell? ⟨gb298, 0, none⟩ = some (.int .i64 a1_0) := (ay BK298.out 0).trans rfl; have hcz28_1 : w26.cell? ⟨gb298, 1, none⟩ = some (.int .i64 a1_1) := (ay BK298.out 1).trans rfl; have hcz28_2 : w26.cell? ⟨gb298, 2, none⟩ = some (.int .i64 a1_2) := (ay BK298.out 2).trans rfl; have hcz28_3 : w26.cell? ⟨gb298, 3, none⟩ = some (.slice A1_3 l1_3.length c1_3) := (ay BK298.out 3).trans rfl; have hfz28_0 := aD BK298.out 0; have hfz28_1 := aD BK298.out 1; have hfz28_2 := aD BK298.out 2; have hfz28_3 := aD BK298.out 3; have hcz29_0 : w26.cell? ⟨gb297, 0, none⟩ = some (.int .i64 a0_0) := (ay BK297.out 0).trans rfl; have hcz29_1 : w26.cell? ⟨gb297, 1, none⟩ = some (.slice A0_1 l0_1.length c0_1) := (ay BK297.out 1).trans rfl; have hfz29_0 := aD BK297.out 0; have hfz29_1 := aD BK297.out 1) | ((with_reducible refine aT (f := 9) rfl ?_); refine bq (some 12) rfl rfl Try.func9 (by kernel_rfl) rfl #[.int .i64 a1_0, .int .i64 0, .int .i64 (wrap64 ((l0_1.length : Int) - 1))] rfl (by (try simp only [dh, dn, dw]); first | done | rfl | (simp only [dx, dz]; rfl) | (simp only [gt_iff_lt, dA]; rfl) | (simp [Act.eval]; done) | (simp [Act.eval, *]; done)) ?_; (with_reducible refine (downtiltbase_Within.calls a1_0 0 (wrap64 ((l0_1.length : Int) - 1)) false _ A3.out).mono ?_); rintro e w' ⟨rfl, ⟨nd, rfl⟩⟩; refine ⟨_, rfl, ?_⟩))
  go_ret
  exact ⟨by first | rfl | (simp [aX, aY] <;> rfl) | (simp [*, aX, aY] <;> rfl), by repeat (first | (with_reducible first | exact HB.out | apply ak | apply ah | apply aj | refine aA ?_ GE297.out | refine aA ?_ GE298.out) | exact HB.out)⟩
def downtiltbase_CopyInts.f (l0 : List Int) : Option (List Int) := (some (([] : List Int) : List Int)).bind fun y401 => (if y401.length + l0.length < 17592186044416 then (some (y401 ++ l0)) else (none))
theorem downtiltbase_CopyInts.calls (A0 : Option Addr) (c0 : Nat) (l0 : List Int) (r : List Int) (w : World) (hr0 : Kd.C (Kd.int .i64) w A0 l0.length l0) (hc0 : l0.length ≤ c0) (h : downtiltbase_CopyInts.f l0 = some r) :
  Calls Try.prog 15 #[.slice A0 l0.length c0] w fun e w' => ∃ v0_ : Value, e = .returned (v0_) ∧ Kd.R (Kd.int .i64) 3 w' w.heap.size (fun _ => True) v0_ r ∧ Below w.heap.size w w' := by
 have HR0 := dH hr0
 have HC0 := dH hc0
 clear hr0 hc0
 have HB := dH (Below.refl w.heap.size w)
 have H : ((some (([] : List Int) : List Int)).bind fun y401 => (if y401.length + l0.length < 17592186044416 then (some (y401 ++ l0)) else (none))) = some r := h
 clear h
 obtain ⟨y401, hy401⟩ : ∃ y_ : List Int, y_ = (([] : List Int)) := ⟨_, rfl⟩
 replace H : (if y401.length + l0.length < 17592186044416 then (some (y401 ++ l0)) else (none)) = some r := by first | (rw [hy401]; with_reducible exact H) | (have H2_ := (Option.bind_some _ _).symm.trans H; rw [hy401]; with_reducible exact H2_) | (have H2_ := (Option.bind_some _ _).symm.trans H; with_reducible exact H2_) | with_reducible exact H | (rw [hy401]; exact H) | exact H
 have Ny401 := dH hy401
 clear hy401
 by_cases c2 : y401.length + l0.length < 17592186044416
 ·
  rw [if_pos c2] at H
  have LMc2 := dH c2
  clear c2
  obtain ⟨y404, hy404⟩ : ∃ y_ : List Int, y_ = (y401 ++ l0) := ⟨_, rfl⟩
  replace H : (some y404) = some r := by first | (rw [hy404]; with_reducible exact H) | (have H2_ := (Option.bind_some _ _).symm.trans H; rw [hy404]; with_reducible exact H2_) | (have H2_ := (Option.bind_some _ _).symm.trans H; with_reducible exact H2_) | with_reducible exact H | (rw [hy404]; exact H) | exact H
  have Ny404 := dH hy404
  clear hy404
  obtain rfl := Option.some.inj H
  go_enter Try.func15, Try.ntmps15
  go_wp2_with (first | ((with_reducible refine bg (N := 3) rfl ?_); refine Kd.R_lit (Kd.int .i64) _ 3 ?hg (N := 3) ?hd (xs := ([] : List Int)) (inner := []) (ok := fun _ => True) (okp := fun _ => True) ?hr ?hp (fun _ hk => hk) trivial (Below.refl _ _) (Nat.le_refl _) (by simp) ?_; (case hd => rfl); (case hg => rfl); (case hr => first | (go_simp; done) | (go_simp; rfl)); (case hp => exact (Reps.none _ _)); intro v402 w3 ho4 hb hg_ hnew_; clear hg_ hnew_; (first | rw [← Ny401.out] at ho4 | (simp only [Int.reduceToNat] at ho4; rw [← Ny401.out] at ho4)); have n0_ := dH (Kd.bP ho4 (aK (by repeat (first | (with_reducible first | exact HB.out | apply ak | apply ah | apply aj) | exact HB.out)))); have n1_ := dH (aM (by repeat (first | (with_reducible first | exact HB.out | apply ak | apply ah | apply aj) | exact HB.out)) hb); clear HB; have HO403 := n0_; have HB := n1_; clear n0_ n1_; clear hb ho4) | ((with_reducible refine gate_builtin (b := .append) (xs := #[.tmp 3, .tmp 4]) rfl ?_); at_builtin; refine Kd.R_append_rows (Kd.int .i64) (w0 := w) w.heap.size rfl (.tmp 3) (.tmp 4) 34 3 (.int .i64 0) 8 rfl Try.underlying34 info3 rfl (by decide) (by omega) v402 y401 l0 _ _ _ (fun _ => True) (fun _ => False) rfl rfl ?aO ?aR (fun _ _ h => h) (fun _ h => h.elim) ?aF ?aB ?aS ?aL ?_; (case aR => repeat (first | exact (Kd.bF HR0.out HB.out) | (with_reducible refine Kd.bA ?_ _) | (with_reducible refine Kd.bC ?_ _) | (with_reducible refine Kd.bJ ?_))); (case aB => exact (by repeat (first | (with_reducible first | exact HB.out | apply ak | apply ah | apply aj) | exact HB.out))); (case aF => exact (fun _ _ => trivial)); (case aO => exact (by (with_reducible repeat (first | apply Kd.aI | apply Kd.aJ | apply Kd.aN)); exact HO403.out)); (case aS => exact (aK (by repeat (first | (with_reducible first | exact HB.out | apply ak | apply ah | apply aj) | exact HB.out)))); (case aL => have := LMc2.out; omega); intro v405 w5 ho hb hg hat; rw [← Ny404.out] at ho; have n0_ := dH (hb); have n1_ := dH (ho); clear HB; clear HO403; have HB := n0_; have HO406 := n1_; clear n0_ n1_; clear ho hb hg hat))
  go_ret
  exact ⟨_, by first | rfl | (simp [aX, aY] <;> rfl) | (simp [*, aX, aY] <;> rfl), by (with_reducible repeat (first | apply Kd.aI | apply Kd.aJ | apply Kd.aN)); exact HO406.out, by repeat (first | (with_reducible first | exact HB.out | apply ak | apply ah | apply aj) | exact HB.out)⟩
 ·
  rw [if_neg c2] at H
  exact absurd H (by simp)
def downtiltref02_CopyBuffers.l0 : Nat → Int → Int → List (S42) → Int → List (S42) → Option (Int × (List (S42)))
 | 0, _, _, _, _, _ => none
 | k + 1, x4, x408000, x408001, x410000, x410001 => if x4 < (x408001.length : Int) then (if 0 ≤ x4 then ((downtiltbase_CopyInts.f ((rd_T42 x408001 x4).f2)).bind fun t412 => (if x410001.length < 3518437208883 then (downtiltref02_CopyBuffers.l0 k (wrap64 (x4 + 1)) x408000 x408001 x410000 (x410001 ++ [(⟨(rd_T42 x408001 x4).f0, (rd_T42 x408001 x4).f1, t412⟩ : S42)])) else (none))) else (none)) else (some (x410000, x410001))
def downtiltref02_CopyBuffers.f (k : Nat) (a0_0 : Int) (l0_1 : List (S42)) : Option (Int × (List (S42))) := downtiltref02_CopyBuffers.l0 k 0 a0_0 l0_1 a0_0 ([] : List (S42))
def downtiltref02_CopyBuffers.T6 : Bool × List (List Nat × List Nat) := (true, [([], []), ([0], [0]), ([], []), ([2], [2]), ([], []), ([4], [4]), ([], []), ([6], [6]), ([7], [7]), ([3, 5, 8], [3, 5, 8]), ([9], [9]), ([1, 10, 8], [1, 10]), ([0, 1, 2, 3, 4, 5, 6, 7, 8, 9, 10, 11], []), ([12, 11, 11, 0, 1, 2, 3, 4, 5, 6, 7, 8, 9, 10, 11], [11, 12])])
def downtiltref02_CopyBuffers.B6 : List Nat := [0, 1, 0, 4, 0, 16, 0, 64, 192, 508, 1020, 2047, 4095, 8191]
theorem downtiltref02_CopyBuffers.tab6 : rtab .any (opsOf Try.f14 6) = downtiltref02_CopyBuffers.T6 := by kernel_rfl
theorem downtiltref02_CopyBuffers.bits6 : waitsOk downtiltref02_CopyBuffers.T6.2 downtiltref02_CopyBuffers.B6 = true := by kernel_rfl
theorem downtiltref02_CopyBuffers.calls (k : Nat) (a0_0 : Int) (A0_1 : Option Addr) (c0_1 : Nat) (l0_1 : List (S42)) (r1 : Int) (r2 : List (S42)) (w : World) (hr0_1 : Kd.C k42 w A0_1 l0_1.length l0_1) (hc0_1 : l0_1.length ≤ c0_1) (h : downtiltref02_CopyBuffers.f k a0_0 l0_1 = some (r1, r2)) :
  Calls Try.prog 14 #[.agg #[.int .i64 a0_0, .slice A0_1 l0_1.length c0_1]] w fun e w' => ∃ v1_ : Value, e = .returned (.agg #[.int .i64 r1, v1_]) ∧ Kd.S k42 42 w' w.heap.size (fun _ => True) v1_ r2 ∧ Below w.heap.size w w' := by
 have hu28 := Try.underlying28
 have hu42 := Try.underlying42
 have HR0_1 := dH hr0_1
 have HC0_1 := dH hc0_1
 clear hr0_1 hc0_1
 have HB := dH (Below.refl w.heap.size w)
 have H : (downtiltref02_CopyBuffers.l0 k 0 a0_0 l0_1 a0_0 ([] : List (S42))) = some (r1, r2) := h
 clear h
 have H' := dH H
 clear H
 go_enter Try.func14, Try.ntmps14
 go_wp2_with (first | ((with_reducible refine bg (N := 1) rfl ?_); refine bI ?hg (N := 1) ?hd (cs := #[.int .i64 a0_0, .slice A0_1 l0_1.length c0_1]) (t := 28) ?hr ?_; (case hd => rfl); (case hg => rfl); (case hr => first | (go_simp; done) | (go_simp; rfl)); intro gb407 hg w2 hbox hb; have n0_ := dH (aM (by repeat (first | (with_reducible first | exact HB.out | apply ak | apply ah | apply aj) | exact HB.out)) hb); have n1_ := dH (hbox); have n2_ := dH ((by rw [hg]; exact (aK (by repeat (first | (with_reducible first | exact HB.out | apply ak | apply ah | apply aj) | exact HB.out))) : w.heap.size ≤ gb407)); have n3_ := dH ((by rw [hg]; exact (aK (by repeat (first | (with_reducible first | exact HB.out | apply ak | apply ah | apply aj) | exact HB.out))) : w.heap.size ≤ gb407)); clear HB; have HB := n0_; have BK407 := n1_; have GW407 := n2_; have GE407 := n3_; clear n0_ n1_ n2_ n3_; clear hb hbox hg) | ((with_reducible refine bg (N := 2) rfl ?_); refine bI ?hg (N := 2) ?hd (cs := #[.int .i64 0, .slice none 0 0]) (t := 28) ?hr ?_; (case hd => rfl); (case hg => rfl); (case hr => first | (go_simp; done) | (go_simp; rfl)); intro gb408 hg w3 hbox hb; have n0_ := dH (aQ (g := gb407) (o := .cells #[.int .i64 a0_0, .slice A0_1 l0_1.length c0_1] 28 (0, 0)) (by (with_reducible repeat (first | refine av ?_ _ | refine aC ?_ | refine au ?_ _)); exact BK407.out) hb); have n1_ := dH (aM (by repeat (first | (with_reducible first | exact HB.out | apply ak | apply ah | apply aj | refine aA ?_ GE407.out) | exact HB.out)) hb); have n2_ := dH (hbox); have n3_ := dH ((by rw [hg]; exact (aK (by repeat (first | (with_reducible first | exact HB.out | apply ak | apply ah | apply aj | refine aA ?_ GE407.out) | exact HB.out))) : w.heap.size ≤ gb408)); have n4_ := dH ((by rw [hg]; exact (aK (by repeat (first | (with_reducible first | exact HB.out | apply ak | apply ah | apply aj | refine aA ?_ GE407.out) | exact HB.out))) : w.heap.size ≤ gb408)); have n5_ := dH ((by rw [hg]; exact Nat.ne_of_lt (bn (g := gb407) (o := .cells #[.int .i64 a0_0, .slice A0_1 l0_1.length c0_1] 28 (0, 0)) (by (with_reducible repeat (first | refine av ?_ _ | refine aC ?_ | refine au ?_ _)); exact BK407.out)) : gb407 ≠ gb408)); have n6_ := dH ((by rw [hg]; exact Nat.ne_of_gt (bn (g := gb407) (o := .cells #[.int .i64 a0_0, .slice A0_1 l0_1.length c0_1] 28 (0, 0)) (by (with_reducible repeat (first | refine av ?_ _ | refine aC ?_ | refine au ?_ _)); exact BK407.out)) : gb408 ≠ gb407)); clear BK407; clear HB; have BK407 := n0_; have HB := n1_; have BK408 := n2_; have GW408 := n3_; have GE408 := n4_; have NB407_408 := n5_; have NB408_407 := n6_; clear n0_ n1_ n2_ n3_ n4_ n5_ n6_; clear hb hbox hg; have hnb4 := NB407_408.out; have hnc4 := NB408_407.out; have hcz5_0 : w3.cell? ⟨gb407, 0, none⟩ = some (.int .i64 a0_0) := (ay BK407.out 0).trans rfl; have hcz5_1 : w3.cell? ⟨gb407, 1, none⟩ = some (.slice A0_1 l0_1.length c0_1) := (ay BK407.out 1).trans rfl; have hfz5_0 := aD BK407.out 0; have hfz5_1 := aD BK407.out 1) | ((with_reducible refine bg (N := 3) rfl ?_); refine bI ?hg (N := 3) ?hd (cs := #[.int .i64 0, .slice none 0 0]) (t := 28) ?hr ?_; (case hd => rfl); (case hg => rfl); (case hr => first | (go_simp; done) | (go_simp; rfl)); intro gb409 hg w6 hbox hb; have n0_ := dH (aQ (g := gb407) (o := .cells #[.int .i64 a0_0, .slice A0_1 l0_1.length c0_1] 28 (0, 0)) (by (with_reducible repeat (first | refine av ?_ _ | refine aC ?_ | refine au ?_ _)); exact BK407.out) hb); have n1_ := dH (aQ (g := gb408) (o := .cells #[.int .i64 0, .slice none 0 0] 28 (0, 0)) (by (with_reducible repeat (first | refine av ?_ _ | refine aC ?_ | refine au ?_ _)); exact BK408.out) hb); have n2_ := dH (aM (by repeat (first | (with_reducible first | exact HB.out | apply ak | apply ah | apply aj | refine aA ?_ GE407.out | refine aA ?_ GE408.out) | exact HB.out)) hb); have n3_ := dH (hbox); have n4_ := dH ((by rw [hg]; exact (aK (by repeat (first | (with_reducible first | exact HB.out | apply ak | apply ah | apply aj | refine aA ?_ GE407.out | refine aA ?_ GE408.out) | exact HB.out))) : w.heap.size ≤ gb409)); have n5_ := dH ((by rw [hg]; exact (aK (by repeat (first | (with_reducible first | exact HB.out | apply ak | apply ah | apply aj | refine aA ?_ GE407.out | refine aA ?_ GE408.out) | exact HB.out))) : w.heap.size ≤ gb409)); have n6_ := dH ((by rw [hg]; exact Nat.ne_of_lt (bn (g := gb407) (o := .cells #[.int .i64 a0_0, .slice A0_1 l0_1.length c0_1] 28 (0, 0)) (by (with_reducible repeat (first | refine av ?_ _ | refine aC ?_ | refine au ?_ _)); exact BK407.out)) : gb407 ≠ gb409)); have n7_ := dH ((by rw [hg]; exact Nat.ne_of_gt (bn (g := gb407) (o := .cells #[.int .i64 a0_0, .slice A0_1 l0_1.length c0_1] 28 (0, 0)) (by (with_reducible repeat (first | refine av ?_ _ | refine aC ?_ | refine au ?_ _)); exact BK407.out)) : gb409 ≠ gb407)); have n8_ := dH ((by rw [hg]; exact Nat.ne_of_lt (bn (g := gb408) (o := .cells #[.int .i64 0, .slice none 0 0] 28 (0, 0)) (by (with_reducible repeat (first | refine av ?_ _ | refine aC ?_ | refine au ?_ _)); exact BK408.out)) : gb408 ≠ gb409)); have n9_ := dH ((by rw [hg]; exact Nat.ne_of_gt (bn (g := gb408) (o := .cells #[.int .i64 0, .slice none 0 0] 28 (0, 0)) (by (with_reducible repeat (first | refine av ?_ _ | refine aC ?_ | refine au ?_ _)); exact BK408.out)) : gb409 ≠ gb408)); clear BK407; clear BK408; clear HB; have BK407 := n0_; have BK408 := n1_; have HB := n2_; have BK409 := n3_; have GW409 := n4_; have GE409 := n5_; have NB407_409 := n6_; have NB409_407 := n7_; have NB408_409 := n8_; have NB409_408 := n9_; clear n0_ n1_ n2_ n3_ n4_ n5_ n6_ n7_ n8_ n9_; clear hb hbox hg; have hnb7 := NB409_407.out; have hnc7 := NB407_409.out; have hnb8 := NB409_408.out; have hnc8 := NB408_409.out; have hcz9_0 : w6.cell? ⟨gb409, 0, none⟩ = some (.int .i64 0) := (ay BK409.out 0).trans rfl; have hcz9_1 : w6.cell? ⟨gb409, 1, none⟩ = some (.slice none 0 0) := (ay BK409.out 1).trans rfl; have hfz9_0 := aD BK409.out 0; have hfz9_1 := aD BK409.out 1))
 go_loopg [4] k (fun kq v4 w' => ∃ (x4_1 : Int) (x410001_1 : List (S42)) (u410001 : Value), v4 = .int .i64 x4_1 ∧ Aside0 (downtiltref02_CopyBuffers.l0 kq x4_1 a0_0 l0_1 a0_0 x410001_1 = some (r1, r2)) ∧ Aside0 (kq ≤ k) ∧ Aside0 (Kd.S k42 42 w' w.heap.size (fun _ => True) u410001 x410001_1) ∧ Aside0 (w'.heap[gb407]? = some (.cells #[.int .i64 a0_0, (.slice A0_1 l0_1.length c0_1)] 28 (0, 0))) ∧ Aside0 (w'.heap[gb408]? = some (.cells #[.int .i64 0, (.slice none 0 0)] 28 (0, 0))) ∧ Aside0 (w'.heap[gb409]? = some (.cells #[.int .i64 a0_0, u410001] 28 (0, 0))) ∧ Aside0 (Below w.heap.size w w'))
 case atStart => exact ⟨(0), (([] : List (S42))), (.slice none 0 0), (by first | rfl | (simp; done) | (simp [*]; done)), H', ⟨Nat.le_refl _⟩, ⟨by first | exact Kd.S_nil _ _ _ _ _ | exact Kd.N_nil _ _ _ _ _ | exact Kd.V_nil _ _ _ _ _ | exact Kd.Q_nil _ _ _ _ _ | exact Kd.R_nil _ _ _ _ _⟩, ⟨by (with_reducible repeat (first | refine av ?_ _ | refine aC ?_ | refine au ?_ _)); refine aW ?_ NB407_409.out _; (with_reducible repeat (first | refine av ?_ _ | refine aC ?_ | refine au ?_ _)); refine aW ?_ NB407_409.out _; (with_reducible repeat (first | refine av ?_ _ | refine aC ?_ | refine au ?_ _)); exact BK407.out⟩, ⟨by (with_reducible repeat (first | refine av ?_ _ | refine aC ?_ | refine au ?_ _)); refine aW ?_ NB408_409.out _; (with_reducible repeat (first | refine av ?_ _ | refine aC ?_ | refine au ?_ _)); refine aW ?_ NB408_409.out _; (with_reducible repeat (first | refine av ?_ _ | refine aC ?_ | refine au ?_ _)); exact BK408.out⟩, ⟨by (with_reducible repeat (first | refine av ?_ _ | refine aC ?_ | refine au ?_ _)); refine bL (cs := #[.int .i64 a0_0, .slice none 0 0]) ?_ 1 _ rfl; (with_reducible repeat (first | refine av ?_ _ | refine aC ?_ | refine au ?_ _)); refine bL (cs := #[.int .i64 0, .slice none 0 0]) ?_ 0 _ rfl; (with_reducible repeat (first | refine av ?_ _ | refine aC ?_ | refine au ?_ _)); exact BK409.out⟩, ⟨by repeat (first | (with_reducible first | exact HB.out | apply ak | apply ah | apply aj | refine aA ?_ GE407.out | refine aA ?_ GE408.out | refine aA ?_ GE409.out) | exact HB.out)⟩⟩
 case round =>
  clear H'
  try clear c1
  try clear p2
  try clear c4
  try clear c7
  try clear c8
  try clear hcz5_0
  try clear hcz5_1
  try clear hcz9_0
  try clear hcz9_1
  try clear hfz5_0
  try clear hfz5_1
  try clear hfz9_0
  try clear hfz9_1
  obtain ⟨x4_1, x410001_1, u410001, rfl, HA, HK1, HO_410001, BK407, BK408, BK409, HB⟩ := hrel
  cases gk with
  | zero => exact absurd HA.out (by simp [downtiltref02_CopyBuffers.l0])
  | succ k1 =>
   have H := HA.out
   clear HA
   simp only [downtiltref02_CopyBuffers.l0] at H
   by_cases c10 : x4_1 < (l0_1.length : Int)
   ·
    rw [if_pos c10] at H
    have c10b0 : decide (x4_1 < (l0_1.length : Int)) = true := decide_eq_true c10
    clear c10
    by_cases c11 : 0 ≤ x4_1
    ·
     rw [if_pos c11] at H
     have c11b0 : decide (0 ≤ x4_1) = true := decide_eq_true c11
     clear c11
     replace H := dF.mp H
     obtain ⟨t412, A120, H⟩ := H
     replace H : (if x410001_1.length < 3518437208883 then (downtiltref02_CopyBuffers.l0 k1 (wrap64 (x4_1 + 1)) a0_0 l0_1 a0_0 (x410001_1 ++ [(⟨(rd_T42 l0_1 x4_1).f0, (rd_T42 l0_1 x4_1).f1, t412⟩ : S42)])) else (none)) = some (r1, r2) := H
     have A12 := dH A120
     clear A120
     by_cases c13 : x410001_1.length < 3518437208883
     ·
      rw [if_pos c13] at H
      have LMc13 := dH c13
      clear c13
      obtain ⟨y415, hy415⟩ : ∃ y_ : List (S42), y_ = (x410001_1 ++ [(⟨(rd_T42 l0_1 x4_1).f0, (rd_T42 l0_1 x4_1).f1, t412⟩ : S42)]) := ⟨_, rfl⟩
      replace H : (downtiltref02_CopyBuffers.l0 k1 (wrap64 (x4_1 + 1)) a0_0 l0_1 a0_0 y415) = some (r1, r2) := by first | (rw [hy415]; with_reducible exact H) | (have H2_ := (Option.bind_some _ _).symm.trans H; rw [hy415]; with_reducible exact H2_) | (have H2_ := (Option.bind_some _ _).symm.trans H; with_reducible exact H2_) | with_reducible exact H | (rw [hy415]; exact H) | exact H
      have Ny415 := dH hy415
      clear hy415
      have H' := dH H
      clear H
      have hnb14 := NB407_408.out
      have hnc14 := NB408_407.out
      have hnb15 := NB407_409.out
      have hnc15 := NB409_407.out
      have hcz16_0 : wr.cell? ⟨gb407, 0, none⟩ = some (.int .i64 a0_0) := (ay BK407.out 0).trans rfl
      have hcz16_1 : wr.cell? ⟨gb407, 1, none⟩ = some (.slice A0_1 l0_1.length c0_1) := (ay BK407.out 1).trans rfl
      have hfz16_0 := aD BK407.out 0
      have hfz16_1 := aD BK407.out 1
      have p410 : 0 ≤ (x4_1 : Int) := dD (by first | (with_reducible assumption) | assumption)
      have q410 : x4_1 < (l0_1.length : Int) := dD (by first | (with_reducible assumption) | assumption)
      obtain ⟨ad410, A410_2, c410_2, e410, hx410_0, hx410_1, hx410_2, hl410_2, hi410_2⟩ := at_T42 HR0_1.out x4_1 p410 q410
      cases e410
      replace hx410_0 := (HB.out.cell (dB w _ hx410_0)).trans hx410_0
      replace hx410_1 := (HB.out.cell (dB w _ hx410_1)).trans hx410_1
      replace hx410_2 := (HB.out.cell (dB w _ hx410_2)).trans hx410_2
      have HR410_2 := dH hi410_2
      have HC410_2 := dH hl410_2
      clear hi410_2 hl410_2
      replace p410 := eq_true p410
      replace q410 := eq_true q410
      try go_wp2_with (first | ((with_reducible refine bg (N := 5) rfl ?_); refine bI ?hg (N := 5) ?hd (cs := #[.int .i64 0, .int .i64 0, .slice none 0 0]) (t := 42) ?hr ?_; (case hd => rfl); (case hg => rfl); (case hr => first | (go_simp; done) | (go_simp; rfl)); intro gb411 hg w17 hbox hb; have n0_ := dH (Kd.S_below (Kd.S_elderB (by (with_reducible repeat (first | apply Kd.S_alloc | apply Kd.S_drewN | apply Kd.S_drew)); exact HO_410001.out) gb411 (Nat.le_of_eq hg.symm)) hb); have n1_ := dH (aQ (g := gb407) (o := .cells #[.int .i64 a0_0, .slice (some ad410) l0_1.length c0_1] 28 (0, 0)) (by (with_reducible repeat (first | refine av ?_ _ | refine aC ?_ | refine au ?_ _)); exact BK407.out) hb); have n2_ := dH (aQ (g := gb408) (o := .cells #[.int .i64 0, .slice none 0 0] 28 (0, 0)) (by (with_reducible repeat (first | refine av ?_ _ | refine aC ?_ | refine au ?_ _)); exact BK408.out) hb); have n3_ := dH (aQ (g := gb409) (o := .cells #[.int .i64 a0_0, u410001] 28 (0, 0)) (by (with_reducible repeat (first | refine av ?_ _ | refine aC ?_ | refine au ?_ _)); exact BK409.out) hb); have n4_ := dH (aM (by repeat (first | (with_reducible first | exact HB.out | apply ak | apply ah | apply aj | refine aA ?_ GE407.out | refine aA ?_ GE408.out | refine aA ?_ GE409.out) | exact HB.out)) hb); have n5_ := dH (hbox); have n6_ := dH ((by rw [hg]; exact (aK (by repeat (first | (with_reducible first | exact HB.out | apply ak | apply ah | apply aj | refine aA ?_ GE407.out | refine aA ?_ GE408.out | refine aA ?_ GE409.out) | exact HB.out))) : w.heap.size ≤ gb411)); have n7_ := dH ((by rw [hg]; exact (aK (by repeat (first | (with_reducible first | exact HB.out | apply ak | apply ah | apply aj | refine aA ?_ GE407.out | refine aA ?_ GE408.out | refine aA ?_ GE409.out) | exact HB.out))) : w.heap.size ≤ gb411)); have n8_ := dH ((by rw [hg]; exact Nat.ne_of_lt (bn (g := gb407) (o := .cells #[.int .i64 a0_0, .slice (some ad410) l0_1.length c0_1] 28 (0, 0)) (by (with_reducible repeat (first | refine av ?_ _ | refine aC ?_ | refine au ?_ _)); exact BK407.out)) : gb407 ≠ gb411)); have n9_ := dH ((by rw [hg]; exact Nat.ne_of_gt (bn (g := gb407) (o := .cells #[.int .i64 a0_0, .slice (some ad410) l0_1.length c0_1] 28 (0, 0)) (by (with_reducible repeat (first | refine av ?_ _ | refine aC ?_ | refine au ?_ _)); exact BK407.out)) : gb411 ≠ gb407)); have n10_ := dH ((by rw [hg]; exact Nat.ne_of_lt (bn (g := gb408) (o := .cells #[.int .i64 0, .slice none 0 0] 28 (0, 0)) (by (with_reducible repeat (first | refine av ?_ _ | refine aC ?_ | refine au ?_ _)); exact BK408.out)) : gb408 ≠ gb411)); have n11_ := dH ((by rw [hg]; exact Nat.ne_of_gt (bn (g := gb408) (o := .cells #[.int .i64 0, .slice none 0 0] 28 (0, 0)) (by (with_reducible repeat (first | refine av ?_ _ | refine aC ?_ | refine au ?_ _)); exact BK408.out)) : gb411 ≠ gb408)); have n12_ := dH ((by rw [hg]; exact Nat.ne_of_lt (bn (g := gb409) (o := .cells #[.int .i64 a0_0, u410001] 28 (0, 0)) (by (with_reducible repeat (first | refine av ?_ _ | refine aC ?_ | refine au ?_ _)); exact BK409.out)) : gb409 ≠ gb411)); have n13_ := dH ((by rw [hg]; exact Nat.ne_of_gt (bn (g := gb409) (o := .cells #[.int .i64 a0_0, u410001] 28 (0, 0)) (by (with_reducible repeat (first | refine av ?_ _ | refine aC ?_ | refine au ?_ _)); exact BK409.out)) : gb411 ≠ gb409)); clear HO_410001; clear BK407; clear BK408; clear BK409; clear HB; have HO_410001 := n0_; have BK407 := n1_; have BK408 := n2_; have BK409 := n3_; have HB := n4_; have BK411 := n5_; have GW411 := n6_; have GE411 := n7_; have NB407_411 := n8_; have NB411_407 := n9_; have NB408_411 := n10_; have NB411_408 := n11_; have NB409_411 := n12_; have NB411_409 := n13_; clear n0_ n1_ n2_ n3_ n4_ n5_ n6_ n7_ n8_ n9_ n10_ n11_ n12_ n13_; clear hb hbox hg; have hnb18 := NB411_407.out; have hnc18 := NB407_411.out; have hnb19 := NB411_408.out; have hnc19 := NB408_411.out; have hnb20 := NB411_409.out; have hnc20 := NB409_411.out; have hcz21_0 : w17.cell? ⟨gb411, 0, none⟩ = some (.int .i64 0) := (ay BK411.out 0).trans rfl; have hcz21_1 : w17.cell? ⟨gb411, 1, none⟩ = some (.int .i64 0) := (ay BK411.out 1).trans rfl; have hcz21_2 : w17.cell? ⟨gb411, 2, none⟩ = some (.slice none 0 0) := (ay BK411.out 2).trans rfl; have hfz21_0 := aD BK411.out 0; have hfz21_1 := aD BK411.out 1; have hfz21_2 := aD BK411.out 2))
      have n0_ : Aside0 (Kd.S k42 42 (((w17.setCell ⟨gb411, 0, none⟩ (.int .i64 ((rd_T42 l0_1 x4_1).f0))).setCell ⟨gb411, 1, none⟩ (.int .i64 ((rd_T42 l0_1 x4_1).f1))).setCell ⟨gb411, 2, none⟩ (.slice A410_2 ((rd_T42 l0_1 x4_1).f2).length c410_2)) w.heap.size (fun k_ => k_ ≠ gb411) u410001 x410001_1) := ⟨by (with_reducible repeat (first | apply Kd.S_alloc | apply Kd.S_drewN | apply Kd.S_drew)); exact Kd.S_mono (Kd.S_far (p := ⟨gb411, 2, none⟩) (Kd.S_far (p := ⟨gb411, 1, none⟩) (Kd.S_far (p := ⟨gb411, 0, none⟩) (Kd.S_mono HO_410001.out (fun k_ hk => (⟨hk, hk.2⟩ : _ ∧ k_ ≠ gb411))) (fun _ hk => hk.2) (.int .i64 ((rd_T42 l0_1 x4_1).f0))) (fun _ hk => hk.2) (.int .i64 ((rd_T42 l0_1 x4_1).f1))) (fun _ hk => hk.2) (.slice A410_2 ((rd_T42 l0_1 x4_1).f2).length c410_2)) (fun _ hk => hk.1.2)⟩
      have n1_ : Aside0 ((((w17.setCell ⟨gb411, 0, none⟩ (.int .i64 ((rd_T42 l0_1 x4_1).f0))).setCell ⟨gb411, 1, none⟩ (.int .i64 ((rd_T42 l0_1 x4_1).f1))).setCell ⟨gb411, 2, none⟩ (.slice A410_2 ((rd_T42 l0_1 x4_1).f2).length c410_2)).heap[gb407]? = some (.cells #[.int .i64 a0_0, .slice (some ad410) l0_1.length c0_1] 28 (0, 0))) := ⟨by (with_reducible repeat (first | refine av ?_ _ | refine aC ?_ | refine au ?_ _)); refine aW ?_ NB407_411.out _; (with_reducible repeat (first | refine av ?_ _ | refine aC ?_ | refine au ?_ _)); refine aW ?_ NB407_411.out _; (with_reducible repeat (first | refine av ?_ _ | refine aC ?_ | refine au ?_ _)); refine aW ?_ NB407_411.out _; (with_reducible repeat (first | refine av ?_ _ | refine aC ?_ | refine au ?_ _)); exact BK407.out⟩
      have n2_ : Aside0 ((((w17.setCell ⟨gb411, 0, none⟩ (.int .i64 ((rd_T42 l0_1 x4_1).f0))).setCell ⟨gb411, 1, none⟩ (.int .i64 ((rd_T42 l0_1 x4_1).f1))).setCell ⟨gb411, 2, none⟩ (.slice A410_2 ((rd_T42 l0_1 x4_1).f2).length c410_2)).heap[gb408]? = some (.cells #[.int .i64 0, .slice none 0 0] 28 (0, 0))) := ⟨by (with_reducible repeat (first | refine av ?_ _ | refine aC ?_ | refine au ?_ _)); refine aW ?_ NB408_411.out _; (with_reducible repeat (first | refine av ?_ _ | refine aC ?_ | refine au ?_ _)); refine aW ?_ NB408_411.out _; (with_reducible repeat (first | refine av ?_ _ | refine aC ?_ | refine au ?_ _)); refine aW ?_ NB408_411.out _; (with_reducible repeat (first | refine av ?_ _ | refine aC ?_ | refine au ?_ _)); exact BK408.out⟩
      have n3_ : Aside0 ((((w17.setCell ⟨gb411, 0, none⟩ (.int .i64 ((rd_T42 l0_1 x4_1).f0))).setCell ⟨gb411, 1, none⟩ (.int .i64 ((rd_T42 l0_1 x4_1).f1))).setCell ⟨gb411, 2, none⟩ (.slice A410_2 ((rd_T42 l0_1 x4_1).f2).length c410_2)).heap[gb409]? = some (.cells #[.int .i64 a0_0, u410001] 28 (0, 0))) := ⟨by (with_reducible repeat (first | refine av ?_ _ | refine aC ?_ | refine au ?_ _)); refine aW ?_ NB409_411.out _; (with_reducible repeat (first | refine av ?_ _ | refine aC ?_ | refine au ?_ _)); refine aW ?_ NB409_411.out _; (with_reducible repeat (first | refine av ?_ _ | refine aC ?_ | refine au ?_ _)); refine aW ?_ NB409_411.out _; (with_reducible repeat (first | refine av ?_ _ | refine aC ?_ | refine au ?_ _)); exact BK409.out⟩
      have n4_ : Aside0 ((((w17.setCell ⟨gb411, 0, none⟩ (.int .i64 ((rd_T42 l0_1 x4_1).f0))).setCell ⟨gb411, 1, none⟩ (.int .i64 ((rd_T42 l0_1 x4_1).f1))).setCell ⟨gb411, 2, none⟩ (.slice A410_2 ((rd_T42 l0_1 x4_1).f2).length c410_2)).heap[gb411]? = some (.cells #[.int .i64 ((rd_T42 l0_1 x4_1).f0), .int .i64 ((rd_T42 l0_1 x4_1).f1), .slice A410_2 ((rd_T42 l0_1 x4_1).f2).length c410_2] 42 (0, 0))) := ⟨by (with_reducible repeat (first | refine av ?_ _ | refine aC ?_ | refine au ?_ _)); refine bL (cs := #[.int .i64 ((rd_T42 l0_1 x4_1).f0), .int .i64 ((rd_T42 l0_1 x4_1).f1), .slice none 0 0]) ?_ 2 _ rfl; (with_reducible repeat (first | refine av ?_ _ | refine aC ?_ | refine au ?_ _)); refine bL (cs := #[.int .i64 ((rd_T42 l0_1 x4_1).f0), .int .i64 0, .slice none 0 0]) ?_ 1 _ rfl; (with_reducible repeat (first | refine av ?_ _ | refine aC ?_ | refine au ?_ _)); refine bL (cs := #[.int .i64 0, .int .i64 0, .slice none 0 0]) ?_ 0 _ rfl; (with_reducible repeat (first | refine av ?_ _ | refine aC ?_ | refine au ?_ _)); exact BK411.out⟩
      have n5_ : Aside0 (Below w.heap.size w (((w17.setCell ⟨gb411, 0, none⟩ (.int .i64 ((rd_T42 l0_1 x4_1).f0))).setCell ⟨gb411, 1, none⟩ (.int .i64 ((rd_T42 l0_1 x4_1).f1))).setCell ⟨gb411, 2, none⟩ (.slice A410_2 ((rd_T42 l0_1 x4_1).f2).length c410_2))) := ⟨by repeat (first | (with_reducible first | exact HB.out | apply ak | apply ah | apply aj | refine aA ?_ GE407.out | refine aA ?_ GE408.out | refine aA ?_ GE409.out | refine aA ?_ GE411.out) | exact HB.out)⟩
      (try clear HO_410001)
      (try clear BK407)
      (try clear BK408)
      (try clear BK409)
      (try clear BK411)
      (try clear HB)
      generalize (((w17.setCell ⟨gb411, 0, none⟩ (.int .i64 ((rd_T42 l0_1 x4_1).f0))).setCell ⟨gb411, 1, none⟩ (.int .i64 ((rd_T42 l0_1 x4_1).f1))).setCell ⟨gb411, 2, none⟩ (.slice A410_2 ((rd_T42 l0_1 x4_1).f2).length c410_2)) = w22 at n0_ n1_ n2_ n3_ n4_ n5_ ⊢
      have HO_410001 := n0_
      have BK407 := n1_
      have BK408 := n2_
      have BK409 := n3_
      have BK411 := n4_
      have HB := n5_
      clear n0_ n1_ n2_ n3_ n4_ n5_
      have n0_ := dH (Kd.S_drew HO_410001.out)
      have n1_ := dH (aC BK407.out)
      have n2_ := dH (aC BK408.out)
      have n3_ := dH (aC BK409.out)
      have n4_ := dH (aC BK411.out)
      have n5_ := dH (aj HB.out)
      clear HO_410001
      clear BK407
      clear BK408
      clear BK409
      clear BK411
      clear HB
      have HO_410001 := n0_
      have BK407 := n1_
      have BK408 := n2_
      have BK409 := n3_
      have BK411 := n4_
      have HB := n5_
      clear n0_ n1_ n2_ n3_ n4_ n5_
      refine b_ (n := 14) (S := fun w' => w'.cell? ⟨gb409, 0, none⟩ = some (.int .i64 a0_0) ∧ w'.cell? ⟨gb409, 1, none⟩ = some (u410001) ∧ w'.cell? ⟨gb411, 0, none⟩ = some (.int .i64 ((rd_T42 l0_1 x4_1).f0)) ∧ w'.cell? ⟨gb411, 1, none⟩ = some (.int .i64 ((rd_T42 l0_1 x4_1).f1)) ∧ w'.cell? ⟨gb411, 2, none⟩ = some (.slice A410_2 ((rd_T42 l0_1 x4_1).f2).length c410_2)) (ds := [13]) (dG 14 0) (by kernel_rfl) rfl rfl ⟨(ay BK409.out 0).trans rfl, (ay BK409.out 1).trans rfl, (ay BK411.out 0).trans rfl, (ay BK411.out 1).trans rfl, (ay BK411.out 2).trans rfl⟩ (fun hHeld => ?_); refine bZ downtiltref02_CopyBuffers.tab6 downtiltref02_CopyBuffers.bits6 (fun HT_ HW_ => ?_)
      generalize w22.drew = w23 at HO_410001 BK407 BK408 BK409 BK411 HB hHeld ⊢
      refine aV (i := 0) (N := some 21) (v := ?_) (a' := ?_) (dG 14 1) rfl rfl (aU HT_.out (by kernel_rfl)) (fun _ _ _ h => h) (Or.inl ⟨by rfl, ?_⟩) ?_ ?_
      rotate_left
      ·
       intro w'
       go_simp
       with_reducible rfl
      rotate_left
      ·
       simp only [Act.put, cO, cZ, d9, aG, aH]
       rfl
      refine aV (i := 2) (N := some 23) (v := ?_) (a' := ?_) (dG 14 5) rfl rfl (aU HT_.out (by kernel_rfl)) (fun _ _ _ h => h) (Or.inl ⟨by rfl, ?_⟩) ?_ ?_
      rotate_left
      ·
       intro w'
       go_simp
       with_reducible rfl
      rotate_left
      ·
       simp only [Act.put, cO, cZ, d9, aG, aH]
       rfl
      refine aV (i := 4) (N := some 25) (v := ?_) (a' := ?_) (dG 14 21) rfl rfl (aU HT_.out (by kernel_rfl)) (fun _ _ _ h => h) (Or.inl ⟨by rfl, ?_⟩) ?_ ?_
      rotate_left
      ·
       intro w'
       go_simp
       with_reducible rfl
      rotate_left
      ·
       simp only [Act.put, cO, cZ, d9, aG, aH]
       rfl
      refine aV (i := 6) (N := some 27) (v := ?_) (a' := ?_) (dG 14 85) rfl rfl (aU HT_.out (by kernel_rfl)) (fun _ _ _ h => h) (Or.inl ⟨by rfl, ?_⟩) ?_ ?_
      rotate_left
      ·
       intro w'
       go_simp
       with_reducible rfl
      rotate_left
      ·
       simp only [Act.put, cO, cZ, d9, aG, aH]
       rfl
      refine bK (i := 1) (N := some 22) (v := ?_) (a' := ?_) (dG 14 87) rfl rfl (bD HT_.out HW_.out (by kernel_rfl)) (fun _ _ _ h => h) (Or.inl ⟨by rfl, ?_⟩) hHeld ?_ ?_
      rotate_left
      ·
       rintro w' ⟨s0, s1, s2, s3, s4⟩
       go_simp
       with_reducible rfl
      rotate_left
      ·
       simp only [Act.put, cO, cZ, d9, aG, aH]
       rfl
      refine bK (i := 3) (N := some 24) (v := ?_) (a' := ?_) (dG 14 95) rfl rfl (bD HT_.out HW_.out (by kernel_rfl)) (fun _ _ _ h => h) (Or.inl ⟨by rfl, ?_⟩) hHeld ?_ ?_
      rotate_left
      ·
       rintro w' ⟨s0, s1, s2, s3, s4⟩
       go_simp
       with_reducible rfl
      rotate_left
      ·
       simp only [Act.put, cO, cZ, d9, aG, aH]
       rfl
      refine bK (i := 5) (N := some 26) (v := ?_) (a' := ?_) (dG 14 127) rfl rfl (bD HT_.out HW_.out (by kernel_rfl)) (fun _ _ _ h => h) (Or.inl ⟨by rfl, ?_⟩) hHeld ?_ ?_
      rotate_left
      ·
       rintro w' ⟨s0, s1, s2, s3, s4⟩
       go_simp
       with_reducible rfl
      rotate_left
      ·
       simp only [Act.put, cO, cZ, d9, aG, aH]
       rfl
      refine bK (i := 7) (N := some 28) (v := ?_) (a' := ?_) (dG 14 255) rfl rfl (bD HT_.out HW_.out (by kernel_rfl)) (fun _ _ _ h => h) (Or.inl ⟨by rfl, ?_⟩) hHeld ?_ ?_
      rotate_left
      ·
       rintro w' ⟨s0, s1, s2, s3, s4⟩
       go_simp
       with_reducible rfl
      rotate_left
      ·
       simp only [Act.put, cO, cZ, d9, aG, aH]
       rfl
      refine bR (i := 8) (N := some 29) (dG 14 511) rfl rfl (bB HT_.out (by kernel_rfl)) (by decide) (fun K hK => ?_)
      refine bQ Try.func15 (by kernel_rfl) rfl #[.slice A410_2 ((rd_T42 l0_1 x4_1).f2).length c410_2] (by rfl) rfl rfl (by (try simp only [dh, dn, dw]); first | done | rfl | (simp only [dx, dz]; rfl) | (simp only [gt_iff_lt, dA]; rfl) | (simp [Act.eval]; done) | (simp [Act.eval, *]; done)) ?_
      with_reducible refine (downtiltbase_CopyInts.calls _ _ ((rd_T42 l0_1 x4_1).f2) t412 _ ?side1 ?side2 A12.out).mono ?_
      (case side1 => repeat (first | exact (Kd.bF HR410_2.out HB.out) | (with_reducible refine Kd.bA ?_ _) | (with_reducible refine Kd.bC ?_ _) | (with_reducible refine Kd.bJ ?_)))
      (case side2 => exact HC410_2.out)
      rintro e w24 ⟨v413, rfl, ho0, hb⟩
      refine ⟨_, rfl, ?_⟩
      have n0_ := dH (Kd.S_elder' (by (with_reducible repeat (first | apply Kd.S_alloc | apply Kd.S_drewN | apply Kd.S_drew)); exact HO_410001.out) (Kd.bE ho0) hb)
      have n1_ := dH (Kd.bP ho0 (aK (by repeat (first | (with_reducible first | exact HB.out | apply ak | apply ah | apply aj | refine aA ?_ GE407.out | refine aA ?_ GE408.out | refine aA ?_ GE409.out | refine aA ?_ GE411.out) | exact HB.out))))
      have n2_ := dH (aQ (g := gb407) (o := .cells #[.int .i64 a0_0, .slice (some ad410) l0_1.length c0_1] 28 (0, 0)) (by (with_reducible repeat (first | refine av ?_ _ | refine aC ?_ | refine au ?_ _)); exact BK407.out) hb)
      have n3_ := dH (aQ (g := gb408) (o := .cells #[.int .i64 0, .slice none 0 0] 28 (0, 0)) (by (with_reducible repeat (first | refine av ?_ _ | refine aC ?_ | refine au ?_ _)); exact BK408.out) hb)
      have n4_ := dH (aQ (g := gb409) (o := .cells #[.int .i64 a0_0, u410001] 28 (0, 0)) (by (with_reducible repeat (first | refine av ?_ _ | refine aC ?_ | refine au ?_ _)); exact BK409.out) hb)
      have n5_ := dH (aQ (g := gb411) (o := .cells #[.int .i64 ((rd_T42 l0_1 x4_1).f0), .int .i64 ((rd_T42 l0_1 x4_1).f1), .slice A410_2 ((rd_T42 l0_1 x4_1).f2).length c410_2] 42 (0, 0)) (by (with_reducible repeat (first | refine av ?_ _ | refine aC ?_ | refine au ?_ _)); exact BK411.out) hb)
      have n6_ := dH (aM (by repeat (first | (with_reducible first | exact HB.out | apply ak | apply ah | apply aj | refine aA ?_ GE407.out | refine aA ?_ GE408.out | refine aA ?_ GE409.out | refine aA ?_ GE411.out) | exact HB.out)) hb)
      clear HO_410001
      clear BK407
      clear BK408
      clear BK409
      clear BK411
      clear HB
      have HO_410001 := n0_
      have HO414 := n1_
      have BK407 := n2_
      have BK408 := n3_
      have BK409 := n4_
      have BK411 := n5_
      have HB := n6_
      clear n0_ n1_ n2_ n3_ n4_ n5_ n6_
      (try clear hb)
      (try clear hb2)
      (try clear hk)
      (try clear hi)
      (try clear ho0)
      obtain ⟨Ao25, co25, eo25⟩ := Kd.bN HO414.out
      (first | subst eo25 | (injection eo25 with f1_ f2_ f3_; have f4_ := f1_.symm; have f5_ := f3_.symm; clear f1_ f2_ f3_; subst f4_; subst f5_))
      refine hK.out _ _ ⟨(ay BK409.out 0).trans rfl, (ay BK409.out 1).trans rfl, (ay BK411.out 0).trans rfl, (ay BK411.out 1).trans rfl, (ay BK411.out 2).trans rfl⟩ (fun hHeld => ?_)
      clear hK K
      refine bG (a' := ?_) ?_ ?_
      rotate_left
      ·
       show Act.put _ (some 29) _ = _
       simp only [Act.put, cO, cZ, d9, aG, aH]
       rfl
      refine aV (i := 9) (N := some 30) (v := ?_) (a' := ?_) (dG 14 1023) rfl rfl (aU HT_.out (by kernel_rfl)) (fun _ _ _ h => h) (Or.inl ⟨by rfl, ?_⟩) ?_ ?_
      rotate_left
      ·
       intro w'
       go_simp
       with_reducible rfl
      rotate_left
      ·
       simp only [Act.put, cO, cZ, d9, aG, aH]
       rfl
      refine bR (i := 10) (N := some 31) (dG 14 2047) rfl rfl (bB HT_.out (by kernel_rfl)) (by decide) (fun K hK => ?_)
      refine value_ (w1 := ?_) (v := ?_) (by rfl) rfl ?_ ?_
      rotate_left 2
      ·
       go_simp
       constructor
       ·
        rfl
       ·
        rfl
      refine hK.out _ _ ⟨(ay (au BK409.out _) 0).trans rfl, (ay (au BK409.out _) 1).trans rfl, (ay (au BK411.out _) 0).trans rfl, (ay (au BK411.out _) 1).trans rfl, (ay (au BK411.out _) 2).trans rfl⟩ (fun hHeld => ?_)
      clear hK K
      refine bG (a' := ?_) ?_ ?_
      rotate_left
      ·
       show Act.put _ (some 31) _ = _
       simp only [Act.put, cO, cZ, d9, aG, aH]
       rfl
      refine bR (i := 11) (N := some 32) (dG 14 4095) rfl rfl (bB HT_.out (by kernel_rfl)) (by decide) (fun K hK => ?_)
      refine Kd.S_append_step k42 (w0 := w) w.heap.size (by rfl) (.tmp 22) (.tmp 31) 26 42 (.agg #[(.int .i64 0), (.int .i64 0), (.slice none 0 0)]) 40 rfl Try.underlying26 info42 rfl (by decide) (by omega) u410001 x410001_1 (⟨(rd_T42 l0_1 x4_1).f0, (rd_T42 l0_1 x4_1).f1, t412⟩ : S42) [.int .i64 ((rd_T42 l0_1 x4_1).f0), .int .i64 ((rd_T42 l0_1 x4_1).f1), .slice Ao25 t412.length co25] (fun k_ => k_ ≠ gb411) (fun k_ => some k_ = (.slice Ao25 t412.length co25 : Value).ownBlock) rfl rfl ?aP (fun k_ hk_ => ((Kd.bM (ok' := fun k_ => ((fun k_ => k_ ≠ gb411)) k_ ∧ some k_ ≠ (u410001 : Value).ownBlock) (Kd.bU (Kd.R_apart' (HO414.out) (Kd.S_typed HO_410001.out) (by decide)) BK411.out (by decide)) (fun k_ hk => ⟨hk.2, hk.1.2⟩))).1 k_ hk_.symm) ?aF ?aO ?aB ?aS ?aL ?_
      (case aP => exact k42_mkM _ _ _ (⟨(rd_T42 l0_1 x4_1).f0, (rd_T42 l0_1 x4_1).f1, t412⟩ : S42) (Kd.bM (Kd.R_tight rfl (Kd.bM (ok' := fun k_ => ((fun k_ => k_ ≠ gb411)) k_ ∧ some k_ ≠ (u410001 : Value).ownBlock) (Kd.bU (Kd.R_apart' (HO414.out) (Kd.S_typed HO_410001.out) (by decide)) BK411.out (by decide)) (fun k_ hk => ⟨hk.2, hk.1.2⟩))) (fun _ h_ => h_)))
      (case aB => exact (by repeat (first | (with_reducible first | exact HB.out | apply ak | apply ah | apply aj | refine aA ?_ GE407.out | refine aA ?_ GE408.out | refine aA ?_ GE409.out | refine aA ?_ GE411.out) | exact HB.out)))
      (case aF => exact (fun k_ hk => Kd.freshB (g := gb411) (o := .cells #[.int .i64 ((rd_T42 l0_1 x4_1).f0), .int .i64 ((rd_T42 l0_1 x4_1).f1), .slice A410_2 ((rd_T42 l0_1 x4_1).f2).length c410_2] 42 (0, 0)) (by (with_reducible repeat (first | refine av ?_ _ | refine aC ?_ | refine au ?_ _)); exact BK411.out) k_ hk))
      (case aO => exact (by (with_reducible repeat (first | apply Kd.S_alloc | apply Kd.S_drewN | apply Kd.S_drew)); exact Kd.S_mono HO_410001.out (fun k_ hk => ⟨hk.1, fun e_ => hk.2 e_⟩)))
      (case aS => exact (aK (by repeat (first | (with_reducible first | exact HB.out | apply ak | apply ah | apply aj | refine aA ?_ GE407.out | refine aA ?_ GE408.out | refine aA ?_ GE409.out | refine aA ?_ GE411.out) | exact HB.out))))
      (case aL => have := LMc13.out; omega)
      intro v416 w26 ho hb hg hat
      rw [← Ny415.out] at ho
      have n0_ := dH (bY (g := gb407) (o := .cells #[.int .i64 a0_0, .slice (some ad410) l0_1.length c0_1] 28 (0, 0)) (by (with_reducible repeat (first | refine av ?_ _ | refine aC ?_ | refine au ?_ _)); exact BK407.out) hg (Kd.S_ne HO_410001.out BK407.out (by decide)))
      have n1_ := dH (bY (g := gb408) (o := .cells #[.int .i64 0, .slice none 0 0] 28 (0, 0)) (by (with_reducible repeat (first | refine av ?_ _ | refine aC ?_ | refine au ?_ _)); exact BK408.out) hg (Kd.S_ne HO_410001.out BK408.out (by decide)))
      have n2_ := dH (bY (g := gb409) (o := .cells #[.int .i64 a0_0, u410001] 28 (0, 0)) (by (with_reducible repeat (first | refine av ?_ _ | refine aC ?_ | refine au ?_ _)); exact BK409.out) hg (Kd.S_ne HO_410001.out BK409.out (by decide)))
      have n3_ := dH (bY (g := gb411) (o := .cells #[.int .i64 ((rd_T42 l0_1 x4_1).f0), .int .i64 ((rd_T42 l0_1 x4_1).f1), .slice A410_2 ((rd_T42 l0_1 x4_1).f2).length c410_2] 42 (0, 0)) (by (with_reducible repeat (first | refine av ?_ _ | refine aC ?_ | refine au ?_ _)); exact BK411.out) hg (Kd.S_away HO_410001.out (fun _ hk => hk.1)))
      have n4_ := dH (hb)
      have n5_ := dH (ho)
      clear BK407
      clear BK408
      clear BK409
      clear BK411
      clear HB
      clear HO_410001
      clear HO414
      have BK407 := n0_
      have BK408 := n1_
      have BK409 := n2_
      have BK411 := n3_
      have HB := n4_
      have HO417 := n5_
      clear n0_ n1_ n2_ n3_ n4_ n5_
      clear ho hb hg hat
      obtain ⟨Ao27, co27, eo27⟩ := Kd.S_slice HO417.out
      (first | subst eo27 | (injection eo27 with f1_ f2_ f3_; have f4_ := f1_.symm; have f5_ := f3_.symm; clear f1_ f2_ f3_; subst f4_; subst f5_))
      refine hK.out _ _ ⟨(ay BK409.out 0).trans rfl, (ay BK409.out 1).trans rfl, (ay BK411.out 0).trans rfl, (ay BK411.out 1).trans rfl, (ay BK411.out 2).trans rfl⟩ (fun hHeld => ?_)
      clear hK K
      refine bG (a' := ?_) ?_ ?_
      rotate_left
      ·
       show Act.put _ (some 32) _ = _
       simp only [Act.put, cO, cZ, d9, aG, aH]
       rfl
      refine aV (i := 12) (N := some 33) (v := ?_) (a' := ?_) (dG 14 8191) rfl rfl (aU HT_.out (by kernel_rfl)) (fun _ _ _ h => h) (Or.inl ⟨by rfl, ?_⟩) ?_ ?_
      rotate_left
      ·
       intro w'
       go_simp
       with_reducible rfl
      rotate_left
      ·
       simp only [Act.put, cO, cZ, d9, aG, aH]
       rfl
      refine last_ (i := 13) (N := none) (dG 14 16383) rfl rfl (bB HT_.out (by kernel_rfl)) (by decide) (fun K hK => ?_)
      have hs28 : w26.cell? ⟨gb409, 1, none⟩ = some (u410001) := (ay BK409.out 1).trans rfl
      have hfs28 := aD BK409.out 1
      have hns28_0 := NB407_409.out
      have hns28_1 := NB408_409.out
      have hns28_3 := NB411_409.out
      have hms28_0 := NB409_407.out
      have hms28_1 := NB409_408.out
      have hms28_3 := NB409_411.out
      refine skip_ (w1 := ?_) (by rfl) rfl ?_ ?_
      rotate_left
      ·
       go_simp
       rfl
      refine hK.out _ _ ?_
      clear hK K
      refine done_ (cK HT_.out (by kernel_rfl)) ?_
      try go_wp2
      go_roundg k1
      case measure => have := HK1.out; omega
      case rel => exact ⟨(wrap64 (x4_1 + 1)), (y415), (.slice Ao27 y415.length co27), (by first | rfl | (simp; done) | (simp [*]; done)), H', ⟨by have := HK1.out; omega⟩, ⟨by (with_reducible repeat (first | apply Kd.S_alloc | apply Kd.S_drewN | apply Kd.S_drew)); exact Kd.S_mono (Kd.S_far (p := ⟨gb409, 1, none⟩) (Kd.S_types HO417.out BK409.out (by decide)) (fun _ hk => hk.2) (.slice Ao27 y415.length co27)) (fun _ hk => trivial)⟩, ⟨by (with_reducible repeat (first | refine av ?_ _ | refine aC ?_ | refine au ?_ _)); refine aW ?_ NB407_409.out _; (with_reducible repeat (first | refine av ?_ _ | refine aC ?_ | refine au ?_ _)); exact BK407.out⟩, ⟨by (with_reducible repeat (first | refine av ?_ _ | refine aC ?_ | refine au ?_ _)); refine aW ?_ NB408_409.out _; (with_reducible repeat (first | refine av ?_ _ | refine aC ?_ | refine au ?_ _)); exact BK408.out⟩, ⟨by (with_reducible repeat (first | refine av ?_ _ | refine aC ?_ | refine au ?_ _)); refine bL (cs := #[.int .i64 a0_0, u410001]) ?_ 1 _ rfl; (with_reducible repeat (first | refine av ?_ _ | refine aC ?_ | refine au ?_ _)); exact BK409.out⟩, ⟨by repeat (first | (with_reducible first | exact HB.out | apply ak | apply ah | apply aj | refine aA ?_ GE407.out | refine aA ?_ GE408.out | refine aA ?_ GE409.out | refine aA ?_ GE411.out) | exact HB.out)⟩⟩
     ·
      rw [if_neg c13] at H
      exact absurd H (by simp)
    ·
     rw [if_neg c11] at H
     exact absurd H (by simp)
   ·
    rw [if_neg c10] at H
    have c10b0 : decide (x4_1 < (l0_1.length : Int)) = false := decide_eq_false c10
    clear c10
    simp only [Option.some.injEq, Prod.mk.injEq] at H
    obtain ⟨rfl, rfl⟩ := H
    have hnb29 := NB407_408.out
    have hnc29 := NB408_407.out
    have hnb30 := NB407_409.out
    have hnc30 := NB409_407.out
    have hcz31_0 : wr.cell? ⟨gb407, 0, none⟩ = some (.int .i64 a0_0) := (ay BK407.out 0).trans rfl
    have hcz31_1 : wr.cell? ⟨gb407, 1, none⟩ = some (.slice A0_1 l0_1.length c0_1) := (ay BK407.out 1).trans rfl
    have hfz31_0 := aD BK407.out 0
    have hfz31_1 := aD BK407.out 1
    have hnb32 := NB409_408.out
    have hnc32 := NB408_409.out
    have hcz33_0 : wr.cell? ⟨gb409, 0, none⟩ = some (.int .i64 a0_0) := (ay BK409.out 0).trans rfl
    have hcz33_1 : wr.cell? ⟨gb409, 1, none⟩ = some (u410001) := (ay BK409.out 1).trans rfl
    have hfz33_0 := aD BK409.out 0
    have hfz33_1 := aD BK409.out 1
    have hcz34_0 : wr.cell? ⟨gb408, 0, none⟩ = some (.int .i64 0) := (ay BK408.out 0).trans rfl
    have hcz34_1 : wr.cell? ⟨gb408, 1, none⟩ = some (.slice none 0 0) := (ay BK408.out 1).trans rfl
    have hfz34_0 := aD BK408.out 0
    have hfz34_1 := aD BK408.out 1
    obtain ⟨Ao35, co35, eo35⟩ := Kd.S_slice HO_410001.out
    subst eo35
    go_wp2
    refine bodyPost_ret (results_cell_row rfl _ _ gb408 28 #[.int .i64 a0_0, .slice Ao35 x410001_1.length co35] (0, 0) _ rfl (by (with_reducible repeat (first | refine av ?_ _ | refine aC ?_ | refine au ?_ _)); refine bL (cs := #[.int .i64 a0_0, .slice none 0 0]) ?_ 1 _ rfl; (with_reducible repeat (first | refine av ?_ _ | refine aC ?_ | refine au ?_ _)); refine bL (cs := #[.int .i64 0, .slice none 0 0]) ?_ 0 _ rfl; (with_reducible repeat (first | refine av ?_ _ | refine aC ?_ | refine au ?_ _)); exact BK408.out) Try.underlying28 rfl (by kernel_rfl)) rfl ?_
    exact ⟨_, by first | rfl | (simp [aX, aY] <;> rfl) | (simp [*, aX, aY] <;> rfl), by (with_reducible repeat (first | apply Kd.S_alloc | apply Kd.S_drewN | apply Kd.S_drew)); exact Kd.S_mono (Kd.S_far (p := ⟨gb408, 1, none⟩) (Kd.S_far (p := ⟨gb408, 0, none⟩) (Kd.S_types HO_410001.out BK408.out (by decide)) (fun _ hk => hk.2) (.int .i64 a0_0)) (fun _ hk => hk.2) (.slice Ao35 x410001_1.length co35)) (fun _ hk => trivial), by repeat (first | (with_reducible first | exact HB.out | apply ak | apply ah | apply aj | refine aA ?_ GE407.out | refine aA ?_ GE408.out | refine aA ?_ GE409.out) | exact HB.out)⟩
end Go.Proofs.Ytbjiookpiminmaa.PCode
end
section
namespace Go.Proofs.Ytbjiookpiminmaa.PCode
open Go.RowKit Go.Proofs.YtbjiookpiminmaaW.PrintWords Go.Proofs.YtbjiookpiminmaaW.PrintLast Go.Proofs.YtbjiookpiminmaaW.PrintMore
theorem within_ (a lo hi : Int) : downtiltbase_Within.f a lo hi = some (decide (lo ≤ a ∧ a ≤ hi)) := by
 unfold downtiltbase_Within.f
 by_cases h : lo ≤ a
 ·
  rw [if_pos h]; simp [h]
 ·
  rw [if_neg h]; simp [h]
theorem cwithin_ (a lo hi : Int) : code_within.f a lo hi = some (decide (lo ≤ a ∧ a ≤ hi)) := by
 unfold code_within.f
 by_cases h : lo ≤ a
 ·
  rw [if_pos h]; simp [h]
 ·
  rw [if_neg h]; simp [h]
theorem w1_ (i : Nat) (h : i < 1000000000000) : wrap64 ((i : Int) + 1) = ((i + 1 : Nat) : Int) := by unfold wrap64; omega
theorem rd_at (l : List Int) (i : Nat) (h : i < l.length) : rd l (i : Int) = l[i] := by simp [rd, List.getElem?_eq_getElem h]
theorem rd42_at (l : List S42) (i : Nat) (h : i < l.length) : rd_T42 l (i : Int) = l[i] := by simp [rd_T42, List.getElem?_eq_getElem h]
theorem ints_l0 (l : List Int) (hl : l.length ≤ 1000000000) : ∀ d i k, l.length - i ≤ d → i ≤ l.length → d < k → downtiltbase_Ints.l0 k l l (i : Int) = some true := by
 intro d
 induction d with
 | zero =>
  intro i k h1 h2 h3
  obtain ⟨k, rfl⟩ : ∃ m, k = m + 1 := ⟨k - 1, by omega⟩
  simp only [downtiltbase_Ints.l0]
  rw [if_neg (by omega)]
 | succ d ih =>
  intro i k h1 h2 h3
  obtain ⟨k, rfl⟩ : ∃ m, k = m + 1 := ⟨k - 1, by omega⟩
  simp only [downtiltbase_Ints.l0]
  by_cases hi : i < l.length
  ·
   rw [if_pos (by omega), if_pos (by omega), if_pos (by omega), if_pos trivial, w1_ i (by omega)]
   exact ih (i + 1) k (by omega) (by omega) (by omega)
  ·
   rw [if_neg (by omega)]
theorem ints_ (l : List Int) (hl : l.length ≤ 1000000000) (k : Nat) (hk : l.length < k) : downtiltbase_Ints.f k l l = some true := by
 unfold downtiltbase_Ints.f
 rw [if_pos rfl]
 exact ints_l0 l hl l.length 0 k (by omega) (by omega) hk
theorem sized_l0 (l : List Int) (s : Int) (hs0 : 0 ≤ s) (hs : s ≤ 1000000000000) (hl : l.length ≤ 1000000000) : ∀ d i k, l.length - i ≤ d → i ≤ l.length → d < k → (∀ j (h : j < l.length), j < i → -s ≤ l[j] ∧ l[j] ≤ s) →
  downtiltref02_sizedErr.l0 k l s (i : Int) = some (if ∀ x ∈ l, -s ≤ x ∧ x ≤ s then 0 else 2) := by
 intro d
 have hn : wrap64 (-s) = -s := by unfold wrap64; omega
 have hall : ∀ i, ¬ (i < l.length) → (∀ j (h : j < l.length), j < i → -s ≤ l[j] ∧ l[j] ≤ s) → ∀ x ∈ l, -s ≤ x ∧ x ≤ s := by
  intro i hi h x hx
  obtain ⟨j, hj, rfl⟩ := List.getElem_of_mem hx
  exact h j hj (by omega)
 induction d with
 | zero =>
  intro i k h1 h2 h3 hb
  obtain ⟨k, rfl⟩ : ∃ m, k = m + 1 := ⟨k - 1, by omega⟩
  simp only [downtiltref02_sizedErr.l0]
  rw [if_neg (by omega), if_pos (hall i (by omega) hb)]
 | succ d ih =>
  intro i k h1 h2 h3 hb
  obtain ⟨k, rfl⟩ : ∃ m, k = m + 1 := ⟨k - 1, by omega⟩
  simp only [downtiltref02_sizedErr.l0]
  by_cases hi : i < l.length
  ·
   rw [if_pos (by omega), if_pos (by omega), within_, hn, rd_at l i hi, w1_ i (by omega)]
   simp only [Option.bind_some]
   by_cases hc : -s ≤ l[i] ∧ l[i] ≤ s
   ·
    rw [if_pos (decide_eq_true hc)]
    refine ih (i + 1) k (by omega) (by omega) (by omega) ?_
    intro j hj hji
    rcases Nat.lt_or_ge j i with h | h
    ·
     exact hb j hj h
    ·
     obtain rfl : j = i := by omega
     exact hc
   ·
    rw [if_neg (by simpa using hc), if_neg (fun h => hc (h _ (List.getElem_mem hi)))]
  ·
   rw [if_neg (by omega), if_pos (hall i (by omega) hb)]
def sizedV (most s : Int) (l : List Int) : Int := if (l.length : Int) = 0 then 10 else if (l.length : Int) > most then 8 else if ∀ x ∈ l, -s ≤ x ∧ x ≤ s then 0 else 2
theorem sized_ (l : List Int) (most s : Int) (hs0 : 0 ≤ s) (hs : s ≤ 1000000000000) (hl : l.length ≤ 1000000000) (k : Nat) (hk : l.length < k) : downtiltref02_sizedErr.f k l most s = some (sizedV most s l) := by
 unfold downtiltref02_sizedErr.f sizedV
 split
 ·
  rfl
 ·
  split
  ·
   rfl
  ·
   exact sized_l0 l s hs0 hs hl l.length 0 k (by omega) (by omega) hk (fun _ _ h => absurd h (by omega))
theorem sized_zero {most s : Int} {l : List Int} (h : sizedV most s l = 0) : 0 < l.length ∧ (l.length : Int) ≤ most ∧ ∀ x ∈ l, -s ≤ x ∧ x ≤ s := by
 unfold sizedV at h
 split at h
 ·
  omega
 ·
  split at h
  ·
   omega
  ·
   split at h
   ·
    exact ⟨by omega, by omega, by assumption⟩
   ·
    omega
theorem sized_of {most s : Int} {l : List Int} (h0 : 0 < l.length) (h1 : (l.length : Int) ≤ most) (h2 : ∀ x ∈ l, -s ≤ x ∧ x ≤ s) : sizedV most s l = 0 := by
 unfold sizedV
 rw [if_neg (by omega), if_neg (by omega), if_pos h2]
structure Valid (L : Nat) (M : Int) (ps : List S42) : Prop where
 l1 : 1 ≤ L
 l2 : L ≤ 30
 n1 : 1 ≤ ps.length
 n2 : ps.length ≤ 8
 tog : ∀ p ∈ ps, p.f0 = -1 ∨ p.f0 = 0 ∨ p.f0 = 1
 c1 : ∀ p ∈ ps, 0 ≤ p.f1 ∧ p.f1 ≤ M
 st : ∀ p ∈ ps, (p.f0 = -1 ↔ p.f1 = 0)
 len : ∀ p ∈ ps, p.f2.length = L
 sum : ∀ p ∈ ps, ∀ x ∈ p.f2, -M ≤ x ∧ x ≤ M
 zero : ∀ p ∈ ps, p.f1 = 0 → p.f2 = List.replicate L 0
theorem buffers_l0 {L : Nat} {M : Int} {ps : List S42} (h : Valid L M ps) (hM : M ≤ 1000000000) : ∀ d i k, ps.length - i ≤ d → i ≤ ps.length → 2 * d + 40 < k → downtiltref02_BuffersErr.l0 k (i : Int) (L : Int) ps = some 0 := by
 intro d
 have hn2 := h.n2
 have hl1 := h.l1
 have hl2 := h.l2
 induction d with
 | zero =>
  intro i k h1 h2 h3
  obtain ⟨k, rfl⟩ : ∃ m, k = m + 1 := ⟨k - 1, by omega⟩
  simp only [downtiltref02_BuffersErr.l0]
  rw [if_neg (by omega)]
 | succ d ih =>
  intro i k h1 h2 h3
  obtain ⟨k, rfl⟩ : ∃ m, k = m + 1 + 1 := ⟨k - 2, by omega⟩
  simp only [downtiltref02_BuffersErr.l0]
  by_cases hi : i < ps.length
  ·
   have hm : ps[i] ∈ ps := List.getElem_mem hi
   have t1 := h.tog _ hm
   have t2 := h.c1 _ hm
   have t3 := h.st _ hm
   have t4 := h.len _ hm
   have t5 := h.sum _ hm
   have t6 := h.zero _ hm
   rw [if_pos (by omega), if_pos (by omega), rd42_at ps i hi, within_, within_]
   simp only [Option.bind_some]
   rw [decide_eq_true (show (-1 : Int) ≤ ps[i].f0 ∧ ps[i].f0 ≤ 1 by omega), decide_eq_true (show (0 : Int) ≤ ps[i].f1 ∧ ps[i].f1 ≤ 1000000000 by omega), if_pos rfl]
   simp only [downtiltref02_BuffersErr.j1, Bool.not_true]
   rw [if_neg (by simp)]
   have hb : (ps[i].f0 == -1) = (ps[i].f1 == 0) := by
    by_cases hq : ps[i].f1 = 0
    ·
     rw [t3.2 hq, hq]; rfl
    ·
     rw [beq_eq_false_iff_ne.2 hq, beq_eq_false_iff_ne.2 (fun e => hq (t3.1 e))]
   rw [hb, if_neg (by simp), if_pos (by rw [t4])]
   have hs : downtiltref02_SumsErr.f k ps[i].f2 = some 0 := by
    unfold downtiltref02_SumsErr.f
    rw [sized_ _ _ _ (by omega) (by omega) (by omega) k (by omega), sized_of (by omega) (by omega) (fun x hx => by have := t5 x hx; omega)]
    rfl
   rw [hs]
   simp only [Option.bind_some, if_true]
   by_cases hq : ps[i].f1 = 0
   ·
    rw [if_pos hq, if_pos (by omega), if_pos (by omega), t6 hq, Int.toNat_natCast, ints_ _ (by simp; omega) k (by simp; omega)]
    simp only [Option.bind_some, if_true]
    rw [w1_ i (by omega)]
    exact ih (i + 1) k (by omega) (by omega) (by omega)
   ·
    rw [if_neg hq, w1_ i (by omega)]
    exact ih (i + 1) k (by omega) (by omega) (by omega)
  ·
   rw [if_neg (by omega)]
theorem buffers_ {L : Nat} {M : Int} {ps : List S42} (h : Valid L M ps) (hM : M ≤ 1000000000) (k : Nat) (hk : 100 ≤ k) : downtiltref02_BuffersErr.f k (L : Int) ps = some 0 := by
 have h1 := h.l1
 have h2 := h.l2
 have h3 := h.n1
 have h4 := h.n2
 unfold downtiltref02_BuffersErr.f downtiltref02_LengthErr.f
 rw [within_, decide_eq_true (by omega)]
 simp only [Option.bind_some, if_true]
 rw [if_neg (by omega), if_neg (by omega)]
 exact buffers_l0 h hM ps.length 0 k (by omega) (by omega) (by omega)
theorem begin_l0 (L n : Nat) (hL : L ≤ 30) (hn : n ≤ 8) : ∀ d i k, n - i ≤ d → i ≤ n → d < k → code_Begin.l0 k (L : Int) (n : Int) (i : Int) (L : Int) (List.replicate i ⟨-1, 0, List.replicate L 0⟩) = some ((L : Int), List.replicate n ⟨-1, 0, List.replicate L 0⟩, 0) := by
 intro d
 induction d with
 | zero =>
  intro i k h1 h2 h3
  obtain ⟨k, rfl⟩ : ∃ m, k = m + 1 := ⟨k - 1, by omega⟩
  simp only [code_Begin.l0]
  obtain rfl : i = n := by omega
  rw [if_neg (by omega)]
 | succ d ih =>
  intro i k h1 h2 h3
  obtain ⟨k, rfl⟩ : ∃ m, k = m + 1 := ⟨k - 1, by omega⟩
  simp only [code_Begin.l0]
  by_cases hi : i < n
  ·
   rw [if_pos (by omega), if_pos (by omega), if_pos (by omega), if_pos (by simp; omega), w1_ i (by omega), Int.toNat_natCast, ← List.replicate_succ']
   exact ih (i + 1) k (by omega) (by omega) (by omega)
  ·
   obtain rfl : i = n := by omega
   rw [if_neg (by omega)]
theorem begin_ (L n : Nat) (h1 : 1 ≤ L) (hL : L ≤ 30) (h2 : 1 ≤ n) (hn : n ≤ 8) (k : Nat) (hk : 20 ≤ k) : code_Begin.f k (L : Int) (n : Int) = some ((L : Int), List.replicate n ⟨-1, 0, List.replicate L 0⟩, 0) := by
 unfold code_Begin.f code_isLength.f
 rw [cwithin_, cwithin_, decide_eq_true (by omega), decide_eq_true (by omega)]
 simp only [Option.bind_some, if_true, Bool.not_true]
 obtain ⟨k, rfl⟩ : ∃ m, k = m + 1 := ⟨k - 1, by omega⟩
 simp only [code_Begin.j0]
 rw [if_neg (by simp)]
 exact begin_l0 L n hL hn n 0 k (by omega) (by omega) (by omega)
theorem begin_valid (L n : Nat) (h1 : 1 ≤ L) (hL : L ≤ 30) (h2 : 1 ≤ n) (hn : n ≤ 8) (M : Int) (hM : 0 ≤ M) : Valid L M (List.replicate n ⟨-1, 0, List.replicate L 0⟩) := by
 refine ⟨h1, hL, by simpa using h2, by simpa using hn, ?_, ?_, ?_, ?_, ?_, ?_⟩ <;> intro p hp <;> obtain rfl := List.eq_of_mem_replicate hp
 ·
  simp
 ·
  simp; omega
 ·
  simp
 ·
  simp
 ·
  intro x hx; obtain rfl := List.eq_of_mem_replicate hx; omega
 ·
  simp
theorem copyInts_ (l : List Int) (h : l.length ≤ 1000000000) : downtiltbase_CopyInts.f l = some l := by
 unfold downtiltbase_CopyInts.f
 simp only [Option.bind_some]
 rw [if_pos (by simp; omega)]
 simp
theorem copyBuffers_l0 (L : Int) (ps : List S42) (hn : ps.length ≤ 8) (hl : ∀ p ∈ ps, p.f2.length ≤ 1000000000) : ∀ d i k, ps.length - i ≤ d → i ≤ ps.length → d < k → downtiltref02_CopyBuffers.l0 k (i : Int) L ps L (ps.take i) = some (L, ps) := by
 intro d
 induction d with
 | zero =>
  intro i k h1 h2 h3
  obtain ⟨k, rfl⟩ : ∃ m, k = m + 1 := ⟨k - 1, by omega⟩
  simp only [downtiltref02_CopyBuffers.l0]
  rw [if_neg (by omega), List.take_of_length_le (by omega)]
 | succ d ih =>
  intro i k h1 h2 h3
  obtain ⟨k, rfl⟩ : ∃ m, k = m + 1 := ⟨k - 1, by omega⟩
  simp only [downtiltref02_CopyBuffers.l0]
  by_cases hi : i < ps.length
  ·
   rw [if_pos (by omega), if_pos (by omega), rd42_at ps i hi, copyInts_ _ (hl _ (List.getElem_mem hi))]
   simp only [Option.bind_some]
   rw [if_pos (by rw [dz]; omega), w1_ i (by omega)]
   have := ih (i + 1) k (by omega) (by omega) (by omega)
   rw [List.take_succ_eq_append_getElem hi] at this
   exact this
  ·
   rw [if_neg (by omega), List.take_of_length_le (by omega)]
theorem copyBuffers_ (L : Int) (ps : List S42) (hn : ps.length ≤ 8) (hl : ∀ p ∈ ps, p.f2.length ≤ 1000000000) (k : Nat) (hk : 20 ≤ k) : downtiltref02_CopyBuffers.f k L ps = some (L, ps) := by
 unfold downtiltref02_CopyBuffers.f
 exact copyBuffers_l0 L ps hn hl ps.length 0 k (by omega) (by omega) (by omega)
def receivedV (n : Nat) (p t v : Int) (soft : List Int) : Int := if 0 ≤ p ∧ p ≤ (n : Int) - 1 then (if 0 ≤ t ∧ t ≤ 1 then (if 0 ≤ v ∧ v ≤ 3 then sizedV 400 1000000 soft else 15) else 15) else 6
theorem received_ (L : Int) (ps : List S42) (hn : ps.length ≤ 8) (p t v : Int) (soft : List Int) (hs : soft.length ≤ 30) (k : Nat) (hk : 40 ≤ k) : downtiltref02_ReceivedErr.f k L ps p t v soft = some (receivedV ps.length p t v soft) := by
 unfold downtiltref02_ReceivedErr.f receivedV downtiltref02_VersionErr.f downtiltref02_SoftErr.f
 have hw : wrap64 ((ps.length : Int) - 1) = (ps.length : Int) - 1 := by unfold wrap64; omega
 rw [within_, within_, within_, hw, sized_ _ _ _ (by omega) (by omega) (by omega) k (by omega)]
 simp only [Option.bind_some, decide_eq_true_eq]
 split
 ·
  split
  ·
   split
   ·
    simp
   ·
    simp
  ·
   rfl
 ·
  rfl
theorem received_zero {n : Nat} {p t v : Int} {soft : List Int} (h : receivedV n p t v soft = 0) : (0 ≤ p ∧ p ≤ (n : Int) - 1) ∧ (t = 0 ∨ t = 1) ∧ (0 ≤ v ∧ v ≤ 3) ∧ 0 < soft.length ∧ ∀ x ∈ soft, -1000000 ≤ x ∧ x ≤ 1000000 := by
 unfold receivedV at h
 split at h
 ·
  split at h
  ·
   split at h
   ·
    obtain ⟨h1, _, h3⟩ := sized_zero h
    exact ⟨by assumption, by omega, by assumption, h1, h3⟩
   ·
    omega
  ·
   omega
 ·
  omega
end Go.Proofs.Ytbjiookpiminmaa.PCode
end
section
namespace Go.Proofs.Ytbjiookpiminmaa.PCode
open Go.RowKit Go.Proofs.YtbjiookpiminmaaW.PrintWords Go.Proofs.YtbjiookpiminmaaW.PrintLast Go.Proofs.YtbjiookpiminmaaW.PrintMore
def PredB (g : Nat) (lb : Array Value) (p : Int → Bool) (w : World) : Prop :=
 ∀ (W : World) (x : Int), Below w.heap.size w W → Calls Try.prog g (#[.int .i64 x] ++ lb) W fun e w' => e = .returned (.bool (p x)) ∧ Below W.heap.size W w'
def idxOf (p : Int → Bool) (l : List Int) : Int := match l.findIdx? p with | some i => (i : Int) | none => -1
theorem idxOf_at (p : Int → Bool) (l : List Int) (k : Nat) (hk : k < l.length) (hn : ∀ j, j < k → p (l.getD j 0) = false) (hp : p (l.getD k 0) = true) : idxOf p l = (k : Int) := by
 have h : l.findIdx? p = some k := by
  rw [List.findIdx?_eq_some_iff_getElem]
  refine ⟨hk, by simpa [List.getD_eq_getElem?_getD, List.getElem?_eq_getElem hk] using hp, fun j hj => ?_⟩
  have := hn j hj
  simpa [List.getD_eq_getElem?_getD, List.getElem?_eq_getElem (show j < l.length by omega)] using this
 simp [idxOf, h]
theorem idxOf_none (p : Int → Bool) (l : List Int) (hn : ∀ j, j < l.length → p (l.getD j 0) = false) : idxOf p l = -1 := by
 have h : l.findIdx? p = none := by
  rw [List.findIdx?_eq_none_iff]
  intro x hx
  obtain ⟨j, hj, rfl⟩ := List.getElem_of_mem hx
  have := hn j hj
  simpa [List.getD_eq_getElem?_getD, List.getElem?_eq_getElem hj] using this
 simp [idxOf, h]
theorem idxOf_any (p : Int → Bool) (l : List Int) : decide (0 ≤ idxOf p l) = l.any p := by
 unfold idxOf
 cases h : l.findIdx? p with
 | none =>
  have h' := List.findIdx?_eq_none_iff.1 h
  have : l.any p = false := by rw [List.any_eq_false]; intro x hx; simp [h' x hx]
  rw [this]; rfl
 | some i =>
  rw [List.findIdx?_eq_some_iff_getElem] at h
  obtain ⟨hi, hp, _⟩ := h
  have : l.any p = true := List.any_eq_true.2 ⟨l[i], List.getElem_mem hi, hp⟩
  rw [this]
  exact decide_eq_true (by simp)
theorem rd_getD (l : List Int) (k : Nat) : rd l (k : Int) = l.getD k 0 := rfl
theorem indexFunc_calls (g : Nat) (lb : Array Value) (p : Int → Bool) (eg : ∀ args w, (callFunc g args).run Try.prog w = .ok (.enter g args) w) (A0 : Option Addr) (c0 : Nat) (l0 : List Int) (w : World) (hr0 : Kd.C (Kd.int .i64) w A0 l0.length l0)
  (hp : PredB g lb p w) :
  Calls Try.prog 182 #[.slice A0 l0.length c0, .func (.func g) #[] lb] w fun e w' => e = .returned (.int .i64 (idxOf p l0)) ∧ Below w.heap.size w w' := by
 have HR0 := dH hr0
 have hm : l0.length ≤ 9223372036854775807 := Kd.C_max hr0
 have HP := Lib.hid hp
 clear hr0 hp
 go_enter Try.func182, Try.ntmps182
 go_wp2
 go_loopw [5, 8] (fun _ v8 wr => ∃ k : Nat, k ≤ l0.length ∧ v8 = .int .i64 (k : Int) ∧ Aside0 (∀ j, j < k → p (l0.getD j 0) = false) ∧ Aside0 (Below w.heap.size w wr)) (fun _ v8 _ => l0.length - (intOf v8).toNat)
 case atStart => exact ⟨0, Nat.zero_le _, rfl, ⟨fun j hj => absurd hj (by omega)⟩, ⟨Below.refl _ _⟩⟩
 case round =>
  obtain ⟨k, hk, rfl, HN, HB⟩ := hrel
  by_cases hlt : k < l0.length
  ·
   have hb0 : decide (k < l0.length) = true := decide_eq_true hlt
   have hc := HP.out wr (l0.getD k 0) HB.out
   obtain ⟨ad, e0, hcell⟩ := Kd.bX (Kd.bF HR0.out HB.out) (k : Int) (by omega) (by omega)
   rw [rd_getD, Int.toNat_natCast] at hcell
   subst e0
   generalize hy : l0.getD k 0 = y at hc hcell
   have HY := dH hy
   clear hy
   cases hq : p y with
   | true =>
    rw [hq] at hc
    have HC := Lib.hid hc
    have HQ := dH hq
    clear hc hq
    go_wp2_with (go_at_fn g; refine (HC.out).mono ?_; rintro e w' ⟨rfl, hb⟩)
    go_ret
    refine ⟨?_, bS HB.out HB.out.size hb⟩
    rw [idxOf_at p l0 k hlt HN.out (by rw [HY.out]; exact HQ.out)]
    rfl
   | false =>
    rw [hq] at hc
    have HC := Lib.hid hc
    have HQ := dH hq
    clear hc hq
    go_wp2_with (go_at_fn g; refine (HC.out).mono ?_; rintro e w' ⟨rfl, hb⟩)
    go_roundw
    case rel =>
     refine ⟨k + 1, by omega, by go_num, ⟨fun j hj => ?_⟩, ⟨bS HB.out HB.out.size hb⟩⟩
     by_cases e : j = k
     ·
      subst e
      rw [HY.out]; exact HQ.out
     ·
      exact HN.out j (by omega)
    case measure => simp [intOf]; omega
  ·
   have : k = l0.length := by omega
   subst this
   go_wp2
   go_ret
   exact ⟨by rw [idxOf_none p l0 HN.out]; rfl, HB.out⟩
theorem containsFunc_calls (g : Nat) (lb : Array Value) (p : Int → Bool) (eg : ∀ args w, (callFunc g args).run Try.prog w = .ok (.enter g args) w) (A0 : Option Addr) (c0 : Nat) (l0 : List Int) (w : World) (hr0 : Kd.C (Kd.int .i64) w A0 l0.length l0)
  (hp : PredB g lb p w) :
  Calls Try.prog 117 #[.slice A0 l0.length c0, .func (.func g) #[] lb] w fun e w' => e = .returned (.bool (l0.any p)) ∧ Below w.heap.size w w' := by
 have hi := indexFunc_calls g lb p eg A0 c0 l0 w hr0 hp
 rw [← idxOf_any p l0]
 generalize idxOf p l0 = r at hi ⊢
 have HI := Lib.hid hi
 clear hi hr0 hp
 go_enter Try.func117, Try.ntmps117
 go_wp2_with (go_at_call 182; refine (HI.out).mono ?_; rintro e w' ⟨rfl, hb⟩)
 go_ret
 exact ⟨rfl, hb⟩
end Go.Proofs.Ytbjiookpiminmaa.PCode
end
section
namespace Go.Proofs.Ytbjiookpiminmaa.PCode
open Go.RowKit Go.Proofs.YtbjiookpiminmaaW.PrintWords Go.Proofs.YtbjiookpiminmaaW.PrintLast Go.Proofs.YtbjiookpiminmaaW.PrintMore
def firstNZ : List Int → Int
 | [] => 0
 | x :: r => if x = 0 then firstNZ r else x
def unlessV (b : Bool) (e : Int) : Int := if b = true then 0 else e
theorem unless_f (b : Bool) (e : Int) : code_unless.f b e = some (unlessV b e) := by unfold code_unless.f unlessV; split <;> rfl
theorem first_l0 (l : List Int) (hl : l.length ≤ 9223372036854775807) : ∀ (d i k : Nat), i + d = l.length → d < k → code_first.l0 k l (l.length : Int) (i : Int) = some (firstNZ (l.drop i))
 | 0, i, k, hi, hk => by
  obtain ⟨k, rfl⟩ : ∃ m, k = m + 1 := ⟨k - 1, by omega⟩
  simp only [code_first.l0]
  rw [if_neg (by omega), List.drop_eq_nil_of_le (by omega)]; rfl
 | d + 1, i, k, hi, hk => by
  obtain ⟨k, rfl⟩ : ∃ m, k = m + 1 := ⟨k - 1, by omega⟩
  have hw : wrap64 ((i : Int) + 1) = ((i + 1 : Nat) : Int) := by unfold wrap64; omega
  have hd : l.drop i = l[i]'(by omega) :: l.drop (i + 1) := List.drop_eq_getElem_cons (by omega)
  have hr : rd l (i : Int) = l[i]'(by omega) := by unfold rd; simp [List.getD_eq_getElem?_getD, List.getElem?_eq_getElem (show i < l.length by omega)]
  simp only [code_first.l0]
  rw [if_pos (by omega), if_pos (by omega), if_pos (by omega), hr, hd, hw, first_l0 l hl d (i + 1) k (by omega) (by omega)]
  rw [firstNZ]
  split <;> rfl
theorem first_f (l : List Int) (hl : l.length ≤ 9223372036854775807) : code_first.f (l.length + 1) l = some (firstNZ l) := first_l0 l hl l.length 0 (l.length + 1) (by omega) (by omega)
theorem first_any (A0 : Option Addr) (c0 : Nat) (l0 : List Int) (w : World) (hr0 : Kd.C (Kd.int .i64) w A0 l0.length l0) (hc0 : l0.length ≤ c0) :
  Calls Try.prog 72 #[.slice A0 l0.length c0] w fun e w' => e = .returned (.int .i64 (firstNZ l0)) ∧ Drawn0 w w' :=
 code_first.calls _ A0 c0 l0 _ w hr0 hc0 (first_f l0 (Kd.C_max hr0))
theorem unless_any (b : Bool) (e : Int) (w : World) : Calls Try.prog 74 #[.bool b, .int .i64 e] w fun e' w' => e' = .returned (.int .i64 (unlessV b e)) ∧ Drawn0 w w' :=
 code_unless.calls b e _ w (unless_f b e)
theorem lit_C (W : World) (e : TypeId) (xs : List Int) (h : xs.length ≤ 9223372036854775807) : Kd.C (Kd.int .i64) (W.alloc (.cells (nums .i64 xs).toArray e)) (some ⟨W.heap.size, 0, none⟩) xs.length xs := by
 obtain ⟨A, c, hv, hr⟩ := own_reads (own_lit W W.heap.size e .i64 xs (Nat.le_refl _) h)
 injection hv with h1
 subst h1
 exact Kd.C_of_reads (d := (0 : Int)) (h1 := fun _ => rfl) hr
theorem first3 (a b c : Int) (B n : Nat) (w : World) (hB : w.heap.size = B) :
  Calls Try.prog 72 #[.slice (some ⟨B, 0, none⟩) 3 3] ((w.drewN n).alloc (.cells #[.int .i64 a, .int .i64 b, .int .i64 c] 29)) fun e w' => e = .returned (.int .i64 (firstNZ [a, b, c])) ∧ Below w.heap.size w w' := by
 subst hB
 exact (first_any _ 3 [a, b, c] _ (lit_C (w.drewN n) 29 [a, b, c] (by simp)) (by simp)).mono fun _ _ ⟨he, hd⟩ => ⟨he, bS (ak (ah (Below.refl _ _) n) _) (by simp) hd.below⟩
theorem PredB.later {g : Nat} {lb : Array Value} {p : Int → Bool} {w w1 : World} (h : PredB g lb p w) (hb : Below w.heap.size w w1) : PredB g lb p w1 :=
 fun W x hW => h W x (bS hb hb.size hW)
theorem enters215 : ∀ args w, (callFunc 215 args).run Try.prog w = .ok (.enter 215 args) w := enters_of Try.func215 (by kernel_rfl) rfl
theorem enters216 : ∀ args w, (callFunc 216 args).run Try.prog w = .ok (.enter 216 args) w := enters_of Try.func216 (by kernel_rfl) rfl
theorem enters75 : ∀ args w, (callFunc 75 args).run Try.prog w = .ok (.enter 75 args) w := enters_of Try.func75 (by kernel_rfl) rfl
theorem pred215 (g : Nat) (lb : Array Value) (p : Int → Bool) (eg : ∀ args w, (callFunc g args).run Try.prog w = .ok (.enter g args) w) (B : Nat) (w : World) (hB : B < w.heap.size)
  (hcell : w.cell? ⟨B, 0, none⟩ = some (.func (.func g) #[] lb)) (hp : PredB g lb p w) : PredB 215 #[.pointer (some ⟨B, 0, none⟩)] (fun x => !p x) w := by
 intro W x hb
 have hc : W.cell? ⟨B, 0, none⟩ = some (.func (.func g) #[] lb) := (hb.cell (p := ⟨B, 0, none⟩) hB).trans hcell
 have HC := Lib.hid (hp W x hb)
 clear hp hcell
 show Calls Try.prog 215 #[.int .i64 x, .pointer (some ⟨B, 0, none⟩)] W _
 go_enter Try.func215, Try.ntmps215
 go_wp2_with (go_at_fn g; refine (HC.out).mono ?_; rintro e w' ⟨rfl, hb'⟩)
 go_ret
 exact ⟨rfl, hb'⟩
def isBitB (x : Int) : Bool := x == 0 || x == 1
theorem isBit_f (x : Int) : code_isBit.f x = some (isBitB x) := by
 unfold code_isBit.f isBitB
 by_cases h : x = 0
 ·
  rw [if_pos h]; simp [h]
 ·
  rw [if_neg h]; simp [h]
theorem pred75 (w : World) : PredB 75 #[] isBitB w := fun W x _ => (code_isBit.calls x _ W (isBit_f x)).mono fun _ _ ⟨he, hd⟩ => ⟨he, hd.below⟩
def upToB (m x : Int) : Bool := decide (-m ≤ x) && decide (x ≤ m)
theorem within_f (x a b : Int) : code_within.f x a b = some (decide (a ≤ x) && decide (x ≤ b)) := by
 unfold code_within.f
 by_cases h : a ≤ x
 ·
  rw [if_pos h]; simp [h]
 ·
  rw [if_neg h]; simp [h]
theorem pred216 (m : Int) (h0 : 0 ≤ m) (h1 : m ≤ 1000000000000) (B : Nat) (w : World) (hB : B < w.heap.size) (hcell : w.cell? ⟨B, 0, none⟩ = some (.int .i64 m)) : PredB 216 #[.pointer (some ⟨B, 0, none⟩)] (upToB m) w := by
 intro W x hb
 have hc : W.cell? ⟨B, 0, none⟩ = some (.int .i64 m) := (hb.cell (p := ⟨B, 0, none⟩) hB).trans hcell
 clear hcell
 show Calls Try.prog 216 #[.int .i64 x, .pointer (some ⟨B, 0, none⟩)] W _
 have HC := fun W' => Lib.hid (code_within.calls x (-m) m _ W' (within_f x (-m) m))
 unfold upToB
 generalize (decide (-m ≤ x) && decide (x ≤ m)) = r at HC ⊢
 go_enter Try.func216, Try.ntmps216
 go_wp2_with (go_at_call 69; refine ((HC _).out).mono ?_; rintro e w' ⟨rfl, ⟨nd, rfl⟩⟩)
 go_ret
 exact ⟨rfl, ah (Below.refl _ _) _⟩
def listErrV (most : Int) (p : Int → Bool) (e : Int) (l : List Int) : Int := firstNZ [unlessV (decide ((l.length : Int) > 0)) 10, unlessV (decide ((l.length : Int) ≤ most)) 8, unlessV (!(l.any fun x => !p x)) e]
theorem listErr_any (g : Nat) (lb : Array Value) (p : Int → Bool) (eg : ∀ args w, (callFunc g args).run Try.prog w = .ok (.enter g args) w) (A0 : Option Addr) (c0 : Nat) (l0 : List Int) (most e0 : Int) (w : World) (hr0 : Kd.C (Kd.int .i64) w A0 l0.length l0)
  (hp : PredB g lb p w) :
  Calls Try.prog 143 #[.slice A0 l0.length c0, .int .i64 most, .func (.func g) #[] lb, .int .i64 e0] w fun e w' => e = .returned (.int .i64 (listErrV most p e0 l0)) ∧ Below w.heap.size w w' := by
 have hb0 : Below w.heap.size w (w.alloc (.cells #[.func (.func g) #[] lb] 126)) := ak (Below.refl _ _) _
 have HC := Lib.hid (containsFunc_calls 215 #[.pointer (some ⟨w.heap.size, 0, none⟩)] (fun x => !p x) enters215 A0 c0 l0 (w.alloc (.cells #[.func (.func g) #[] lb] 126)) (Kd.bF hr0 hb0)
  (pred215 g lb p eg w.heap.size _ (by simp) (by simp) (hp.later hb0)))
 have HB0 := dH hb0
 have HL := dH (Kd.C_max hr0)
 unfold listErrV
 generalize (l0.any fun x => !p x) = bad at HC ⊢
 clear hb0 hp hr0
 have hmf : ∀ (fn : Fn) (first cap : Array Value) (w : World), (Instr.makeFunc fn first cap).run Try.prog w = .ok (.func fn first cap) w := fun _ _ _ _ => rfl
 go_enter Try.func143, Try.ntmps143
 go_wp2_with (first
  | (go_at_call 117; refine (HC.out).mono ?_; rintro e w1 ⟨rfl, hb1⟩)
  | (go_at_call 74; refine (unless_any _ _ _).mono ?_; rintro e w' ⟨rfl, ⟨nd, rfl⟩⟩)
  | (go_at_call 72; refine (first3 _ _ _ _ _ _ rfl).mono ?_; rintro e w2 ⟨rfl, hb2⟩))
 go_ret
 refine ⟨by simp, ?_⟩
 exact bS (bS HB0.out HB0.out.size hb1) (Nat.le_trans HB0.out.size hb1.size) hb2
theorem softB_any (m most : Int) (h0 : 0 ≤ m) (h1 : m ≤ 1000000000000) (A0 : Option Addr) (c0 : Nat) (l0 : List Int) (e0 : Int) (w W : World) (hb : Below w.heap.size w W) (hr0 : Kd.C (Kd.int .i64) w A0 l0.length l0) (B : Nat) (hB : B < W.heap.size)
  (hcell : W.cell? ⟨B, 0, none⟩ = some (.int .i64 m)) :
  Calls Try.prog 143 #[.slice A0 l0.length c0, .int .i64 most, .func (.func 216) #[] #[.pointer (some ⟨B, 0, none⟩)], .int .i64 e0] W fun e w' => e = .returned (.int .i64 (listErrV most (upToB m) e0 l0)) ∧ Below W.heap.size W w' :=
 listErr_any 216 _ (upToB m) enters216 A0 c0 l0 most e0 W (Kd.bF hr0 hb) (pred216 m h0 h1 B W hB hcell)
def code_bitsErr.f (l0 : List Int) : Option (Int) := some (listErrV 200 isBitB 15 l0)
theorem code_bitsErr.calls (A0 : Option Addr) (c0 : Nat) (l0 : List Int) (r : Int) (w : World) (hr0 : Kd.C (Kd.int .i64) w A0 l0.length l0) (hc0 : l0.length ≤ c0) (h : code_bitsErr.f l0 = some r) :
  Calls Try.prog 103 #[.slice A0 l0.length c0] w fun e w' => e = .returned (.int .i64 r) ∧ Below w.heap.size w w' := by
 obtain rfl := Option.some.inj h
 have HC := Lib.hid (listErr_any 75 #[] isBitB enters75 A0 c0 l0 200 15 w hr0 (pred75 w))
 clear hr0 hc0 h
 generalize listErrV 200 isBitB 15 l0 = r at HC ⊢
 go_enter Try.func103, Try.ntmps103
 go_wp2_with (go_at_call 143; refine (HC.out).mono ?_; rintro e w1 ⟨rfl, hb1⟩)
 go_ret
 exact ⟨rfl, hb1⟩
def code_softErr.f (l0 : List Int) : Option (Int) := some (listErrV 400 (upToB 1000000) 2 l0)
theorem code_softErr.calls (A0 : Option Addr) (c0 : Nat) (l0 : List Int) (r : Int) (w : World) (hr0 : Kd.C (Kd.int .i64) w A0 l0.length l0) (hc0 : l0.length ≤ c0) (h : code_softErr.f l0 = some r) :
  Calls Try.prog 77 #[.slice A0 l0.length c0] w fun e w' => e = .returned (.int .i64 r) ∧ Below w.heap.size w w' := by
 obtain rfl := Option.some.inj h
 have hb0 : Below w.heap.size w (w.alloc (.cells #[.int .i64 1000000] 3)) := ak (Below.refl _ _) _
 have HC := Lib.hid (softB_any 1000000 400 (by omega) (by omega) A0 c0 l0 2 w _ hb0 hr0 w.heap.size (by simp) (by simp))
 have HB0 := dH hb0
 clear hr0 hc0 h hb0
 generalize listErrV 400 (upToB 1000000) 2 l0 = r at HC ⊢
 have hmf : ∀ (fn : Fn) (first cap : Array Value) (w : World), (Instr.makeFunc fn first cap).run Try.prog w = .ok (.func fn first cap) w := fun _ _ _ _ => rfl
 go_enter Try.func77, Try.ntmps77
 go_wp2_with (first | (go_at_call 143; refine (HC.out).mono ?_; rintro e w1 ⟨rfl, hb1⟩) | go_in)
 go_ret
 exact ⟨rfl, bS HB0.out HB0.out.size hb1⟩
def code_isSum.f (a0 : Int) : Option (Bool) := some (upToB 1000000000 a0)
theorem code_isSum.calls (a0 : Int) (r : Bool) (w : World) (h : code_isSum.f a0 = some r) :
  Calls Try.prog 147 #[.int .i64 a0] w fun e w' => e = .returned (.bool r) ∧ Below w.heap.size w w' := by
 obtain rfl := Option.some.inj h
 have hb0 : Below w.heap.size w (w.alloc (.cells #[.int .i64 1000000000] 3)) := ak (Below.refl _ _) _
 have HC := Lib.hid (pred216 1000000000 (by omega) (by omega) w.heap.size (w.alloc (.cells #[.int .i64 1000000000] 3)) (by simp) (by simp) (w.alloc (.cells #[.int .i64 1000000000] 3)) a0 (Below.refl _ _))
 have HB0 := dH hb0
 clear h hb0
 generalize upToB 1000000000 a0 = r at HC ⊢
 have hmf : ∀ (fn : Fn) (first cap : Array Value) (w : World), (Instr.makeFunc fn first cap).run Try.prog w = .ok (.func fn first cap) w := fun _ _ _ _ => rfl
 go_enter Try.func147, Try.ntmps147
 go_wp2_with (first | (go_at_call 216; refine (HC.out).mono ?_; rintro e w1 ⟨rfl, hb1⟩) | go_in)
 go_ret
 exact ⟨rfl, bS HB0.out HB0.out.size hb1⟩
def slices_Clone_int_int.f (l0 : List Int) : Option (List Int) := if l0.length < 17592186044416 then some l0 else none
theorem slices_Clone_int_int.calls (A0 : Option Addr) (c0 : Nat) (l0 : List Int) (r : List Int) (w : World) (hr0 : Kd.C (Kd.int .i64) w A0 l0.length l0) (hc0 : l0.length ≤ c0) (h : slices_Clone_int_int.f l0 = some r) :
  Calls Try.prog 80 #[.slice A0 l0.length c0] w fun e w' => ∃ v0_ : Value, e = .returned (v0_) ∧ Kd.R (Kd.int .i64) 3 w' w.heap.size (fun _ => True) v0_ r ∧ Below w.heap.size w w' := by
 unfold slices_Clone_int_int.f at h
 split at h
 case isFalse => cases h
 case isTrue hlt =>
 obtain rfl := Option.some.inj h
 have LM := dH hlt
 have HR0 := dH hr0
 have HB := dH (Below.refl w.heap.size w)
 clear h
 cases A0 with
 | none =>
  have h0 : l0 = [] := by
   rcases Nat.eq_zero_or_pos l0.length with h0 | h0
   ·
    exact List.eq_nil_of_length_eq_zero h0
   ·
    obtain ⟨ad, e, _⟩ := Kd.bX hr0 0 (by omega) (by omega)
    cases e
  clear hr0 hlt LM HR0
  subst h0
  have hq : ∀ W : World, (binOp .eql 34 (.slice none 0 c0) (.slice none 0 0)).run Try.prog W = .ok (.bool true) W := fun W => Lib.run_eql_slice_nil W 34 3 none 0 c0 0 0 Try.underlying34
  go_enter Try.func80, Try.ntmps80
  go_wp2
  go_ret
  exact ⟨_, rfl, Kd.R_nil _ _ _ _ _, Below.refl _ _⟩
 | some ad =>
  clear hr0 hlt
  have hq : ∀ W : World, (binOp .eql 34 (.slice (some ad) l0.length c0) (.slice none 0 0)).run Try.prog W = .ok (.bool false) W := fun W => Lib.run_eql_slice_nil W 34 3 (some ad) l0.length c0 0 0 Try.underlying34
  go_enter Try.func80, Try.ntmps80
  go_wp2_with (first | ((with_reducible refine bg (N := 5) rfl ?_); refine Kd.R_lit (Kd.int .i64) _ 3 ?hg (N := 5) ?hd (xs := ([] : List Int)) (inner := []) (ok := fun _ => True) (okp := fun _ => True) ?hr ?hp (fun _ hk => hk) trivial (Below.refl _ _) (Nat.le_refl _) (by simp) ?_; (case hd => rfl); (case hg => rfl); (case hr => first | (go_simp; done) | (go_simp; rfl)); (case hp => exact (Reps.none _ _)); intro v350 w3 ho4 hb hg_ hnew_; clear hg_ hnew_; have n0_ := dH (Kd.bP ho4 (aK HB.out)); have n1_ := dH (aM HB.out hb); clear HB; have HO351 := n0_; have HB := n1_; clear n0_ n1_; clear hb ho4) | ((with_reducible refine gate_builtin (b := .append) (xs := #[.tmp 5, .tmp 6]) rfl ?_); at_builtin; refine Kd.R_append_rows (Kd.int .i64) (w0 := w) w.heap.size rfl (.tmp 5) (.tmp 6) 34 3 (.int .i64 0) 8 rfl Try.underlying34 info3 rfl (by decide) (by omega) v350 [] l0 _ _ _ (fun _ => True) (fun _ => False) rfl rfl ?aO ?aR (fun _ _ h => h) (fun _ h => h.elim) ?aF ?aB ?aS ?aL ?_; (case aR => exact (Kd.bF HR0.out HB.out)); (case aB => exact HB.out); (case aF => exact (fun _ _ => trivial)); (case aO => exact HO351.out); (case aS => exact (aK HB.out)); (case aL => have := LM.out; simp; omega); intro v353 w5 ho hb hg hat; have n0_ := dH (hb); have n1_ := dH (ho); clear HB; clear HO351; have HB := n0_; have HO354 := n1_; clear n0_ n1_; clear ho hb hg hat))
  go_ret
  exact ⟨_, rfl, HO354.out, HB.out⟩
end Go.Proofs.Ytbjiookpiminmaa.PCode
end
section
namespace Go.Proofs.Ytbjiookpiminmaa.PCode
open Go.RowKit Go.Proofs.YtbjiookpiminmaaW.PrintWords Go.Proofs.YtbjiookpiminmaaW.PrintLast Go.Proofs.YtbjiookpiminmaaW.PrintMore
def badSum (x : Int) : Bool := !upToB 1000000000 x
def notNull (x : Int) : Bool := x != 0
theorem predP1 (w : World) : PredB 213 #[] badSum w := fun W x hb => by
 have HC := code_isSum.calls x _ W rfl
 unfold badSum
 have HC := Lib.hid HC
 generalize upToB 1000000000 x = r at HC ⊢
 go_enter Try.func213, Try.ntmps213
 go_wp2_with (first | (go_at_call 147; refine (HC.out).mono ?_; rintro e w1 ⟨rfl, hb1⟩) | go_in)
 go_ret
 exact ⟨rfl, hb1⟩
theorem predC1 (w : World) : PredB 146 #[] badSum w := fun W x hb => by
 have HC := code_isSum.calls x _ W rfl
 unfold badSum
 have HC := Lib.hid HC
 generalize upToB 1000000000 x = r at HC ⊢
 go_enter Try.func146, Try.ntmps146
 go_wp2_with (first | (go_at_call 147; refine (HC.out).mono ?_; rintro e w1 ⟨rfl, hb1⟩) | go_in)
 go_ret
 exact ⟨rfl, hb1⟩
theorem predP2 (w : World) : PredB 214 #[] notNull w := fun W x hb => by
 unfold notNull
 go_enter Try.func214, Try.ntmps214
 go_wp2_with (first | go_in)
 go_ret
 exact ⟨rfl, Below.refl _ _⟩
def slices_ContainsFunc_int_int_at_code_processErr_1.f (l0 : List Int) (_ : Unit) : Option Bool := some (l0.any badSum)
theorem slices_ContainsFunc_int_int_at_code_processErr_1.calls (A0 : Option Addr) (c0 : Nat) (l0 : List Int) (a1 : Unit) (r : Bool) (w : World) (hr0 : Kd.C (Kd.int .i64) w A0 l0.length l0) (hc0 : l0.length ≤ c0) (h : slices_ContainsFunc_int_int_at_code_processErr_1.f l0 a1 = some r) :
  Calls Try.prog 117 #[.slice A0 l0.length c0, .func (.func 213) #[] #[]] w fun e w' => e = .returned (.bool r) ∧ Below w.heap.size w w' := by
 obtain rfl := Option.some.inj h
 exact containsFunc_calls 213 #[] badSum (enters_of Try.func213 (by kernel_rfl) rfl) A0 c0 l0 w hr0 (predP1 w)
def slices_ContainsFunc_int_int_at_code_processErr_2.f (l0 : List Int) (_ : Unit) : Option Bool := some (l0.any notNull)
theorem slices_ContainsFunc_int_int_at_code_processErr_2.calls (A0 : Option Addr) (c0 : Nat) (l0 : List Int) (a1 : Unit) (r : Bool) (w : World) (hr0 : Kd.C (Kd.int .i64) w A0 l0.length l0) (hc0 : l0.length ≤ c0) (h : slices_ContainsFunc_int_int_at_code_processErr_2.f l0 a1 = some r) :
  Calls Try.prog 117 #[.slice A0 l0.length c0, .func (.func 214) #[] #[]] w fun e w' => e = .returned (.bool r) ∧ Below w.heap.size w w' := by
 obtain rfl := Option.some.inj h
 exact containsFunc_calls 214 #[] notNull (enters_of Try.func214 (by kernel_rfl) rfl) A0 c0 l0 w hr0 (predP2 w)
def slices_ContainsFunc_int_int_at_code_combined_1.f (l0 : List Int) (_ : Unit) : Option Bool := some (l0.any badSum)
theorem slices_ContainsFunc_int_int_at_code_combined_1.calls (A0 : Option Addr) (c0 : Nat) (l0 : List Int) (a1 : Unit) (r : Bool) (w : World) (hr0 : Kd.C (Kd.int .i64) w A0 l0.length l0) (hc0 : l0.length ≤ c0) (h : slices_ContainsFunc_int_int_at_code_combined_1.f l0 a1 = some r) :
  Calls Try.prog 117 #[.slice A0 l0.length c0, .func (.func 146) #[] #[]] w fun e w' => e = .returned (.bool r) ∧ Below w.heap.size w w' := by
 obtain rfl := Option.some.inj h
 exact containsFunc_calls 146 #[] badSum (enters_of Try.func146 (by kernel_rfl) rfl) A0 c0 l0 w hr0 (predC1 w)
end Go.Proofs.Ytbjiookpiminmaa.PCode
end
