/- Words and contracts for the claim's theorem, part 4 (joined by program out of the texts of this claim's proof; what it does not use is struck). -/
import Derived.Test.YtbjiookpiminmaaNeverMixed3
import Derived.CallsIn
import Derived.LoopIn
import Derived.LoopNIn
import Derived.OrdersIn
import Derived.OwnWalkIn
import Derived.RangeFuncBound
import Derived.RangeFuncBox
import Derived.RangeFuncCalls
import Derived.RangeFuncLeaves
import Derived.RangeFuncNested
import Derived.Shelf.RegionOpen
import Derived.TacticsIn
import Derived.TacticsInMore
set_option linter.unusedVariables false
set_option linter.unusedSimpArgs false
set_option linter.unusedSectionVars false
set_option maxHeartbeats 8000000
set_option maxRecDepth 1000000
section
namespace Go.Proofs.Ytbjiookpiminmaa.PCode
open Go.RowKit Go.Proofs.YtbjiookpiminmaaW.PrintWords Go.Proofs.YtbjiookpiminmaaW.PrintLast Go.Proofs.YtbjiookpiminmaaW.PrintMore
attribute [local go_sem] max2_int min2_int max_two min_two max_three min_three max_four min_four   -- for this text's walks alone
def code_processErr.f (k : Nat) (a0_0 : Int) (a0_1 : Int) (l0_2 : List Int) (a1 : Int) : Option (Int) := (code_within.f a0_0 (-1) 1).bind fun t304 => (if t304 = true then ((code_within.f a0_1 0 1000000000).bind fun t305 => ((code_unless.f t305 2).bind fun t306 => ((code_unless.f ((a0_0 == (-1)) == (a0_1 == 0)) 22).bind fun t307 => ((code_unless.f ((l0_2.length : Int) == a1) 10).bind fun t308 => ((slices_ContainsFunc_int_int_at_code_processErr_1.f l0_2 ()).bind fun t309 => ((code_unless.f (!t309) 2).bind fun t310 => (if a0_1 = 0 then ((slices_ContainsFunc_int_int_at_code_processErr_2.f l0_2 ()).bind fun t311 => ((code_unless.f (!t311) 22).bind fun t312 => ((code_first.f k (([t306, t307, t308, t310, t312] : List Int))).bind fun t316 => (some t316)))) else ((code_unless.f true 22).bind fun t317 => ((code_first.f k (([t306, t307, t308, t310, t317] : List Int))).bind fun t321 => (some t321)))))))))) else ((code_unless.f false 2).bind fun t322 => ((code_unless.f ((a0_0 == (-1)) == (a0_1 == 0)) 22).bind fun t323 => ((code_unless.f ((l0_2.length : Int) == a1) 10).bind fun t324 => ((slices_ContainsFunc_int_int_at_code_processErr_1.f l0_2 ()).bind fun t325 => ((code_unless.f (!t325) 2).bind fun t326 => (if a0_1 = 0 then ((slices_ContainsFunc_int_int_at_code_processErr_2.f l0_2 ()).bind fun t327 => ((code_unless.f (!t327) 22).bind fun t328 => ((code_first.f k (([t322, t323, t324, t326, t328] : List Int))).bind fun t332 => (some t332)))) else ((code_unless.f true 22).bind fun t333 => ((code_first.f k (([t322, t323, t324, t326, t333] : List Int))).bind fun t337 => (some t337))))))))))
def code_processErr.T2 : Bool × List (List Nat × List Nat) := (true, [([], []), ([0], [0]), ([1], [1]), ([2, 2], [2]), ([3], [3]), ([4, 3], [3, 4]), ([5, 3, 3], [3, 5]), ([3, 6], [3, 6]), ([7, 6], [7]), ([], []), ([9], [9]), ([10], [10]), ([], []), ([11, 12], [11, 12]), ([13, 8], [13]), ([], []), ([15], [15]), ([16], [16]), ([], []), ([17, 18], [17, 18]), ([19, 14], [19]), ([], []), ([21], [21]), ([22, 20], [22]), ([23], [23]), ([24, 23], [24]), ([], []), ([26], [26]), ([27, 25], [27]), ([28], [28]), ([29, 28], [28, 29]), ([30, 28, 28], [28, 30]), ([31, 28], [28, 31]), ([28, 32], [28, 32]), ([33, 31], [33]), ([8, 14, 20, 25, 34], [8, 14, 20, 25, 34]), ([35, 34], [35]), ([36, 36, 0, 1, 2, 3, 4, 5, 6, 7, 8, 9, 10, 11, 12, 13, 14, 15, 16, 17, 18, 19, 20, 21, 22, 23, 24, 25, 26, 27, 28, 29, 30, 31, 32, 33, 34, 35, 36], [36])])
def code_processErr.B2 : List Nat := [0, 1, 3, 7, 15, 31, 63, 127, 255, 0, 512, 1536, 0, 7680, 16383, 0, 32768, 98304, 0, 491520, 1048575, 0, 2097152, 8388607, 16777215, 33554431, 0, 67108864, 268435455, 536870911, 1073741823, 2147483647, 4294967295, 8589934591, 17179869183, 34359738367, 68719476735, 137438953471]
theorem code_processErr.tab2 : rtab .any (opsOf Try.f142 2) = code_processErr.T2 := by kernel_rfl
theorem code_processErr.bits2 : waitsOk code_processErr.T2.2 code_processErr.B2 = true := by kernel_rfl
theorem code_processErr.calls (k : Nat) (a0_0 : Int) (a0_1 : Int) (A0_2 : Option Addr) (c0_2 : Nat) (l0_2 : List Int) (a1 : Int) (r : Int) (w : World) (hr0_2 : Kd.C (Kd.int .i64) w A0_2 l0_2.length l0_2) (hc0_2 : l0_2.length ≤ c0_2) (h : code_processErr.f k a0_0 a0_1 l0_2 a1 = some r) :
  Calls Try.prog 142 #[.agg #[.int .i64 a0_0, .int .i64 a0_1, .slice A0_2 l0_2.length c0_2], .int .i64 a1] w fun e w' => e = .returned (.int .i64 r) ∧ Below w.heap.size w w' := by
 have hu42 := Try.underlying42
 have HR0_2 := dH hr0_2
 have HC0_2 := dH hc0_2
 clear hr0_2 hc0_2
 have HB := dH (Below.refl w.heap.size w)
 have H : ((code_within.f a0_0 (-1) 1).bind fun t304 => (if t304 = true then ((code_within.f a0_1 0 1000000000).bind fun t305 => ((code_unless.f t305 2).bind fun t306 => ((code_unless.f ((a0_0 == (-1)) == (a0_1 == 0)) 22).bind fun t307 => ((code_unless.f ((l0_2.length : Int) == a1) 10).bind fun t308 => ((slices_ContainsFunc_int_int_at_code_processErr_1.f l0_2 ()).bind fun t309 => ((code_unless.f (!t309) 2).bind fun t310 => (if a0_1 = 0 then ((slices_ContainsFunc_int_int_at_code_processErr_2.f l0_2 ()).bind fun t311 => ((code_unless.f (!t311) 22).bind fun t312 => ((code_first.f k (([t306, t307, t308, t310, t312] : List Int))).bind fun t316 => (some t316)))) else ((code_unless.f true 22).bind fun t317 => ((code_first.f k (([t306, t307, t308, t310, t317] : List Int))).bind fun t321 => (some t321)))))))))) else ((code_unless.f false 2).bind fun t322 => ((code_unless.f ((a0_0 == (-1)) == (a0_1 == 0)) 22).bind fun t323 => ((code_unless.f ((l0_2.length : Int) == a1) 10).bind fun t324 => ((slices_ContainsFunc_int_int_at_code_processErr_1.f l0_2 ()).bind fun t325 => ((code_unless.f (!t325) 2).bind fun t326 => (if a0_1 = 0 then ((slices_ContainsFunc_int_int_at_code_processErr_2.f l0_2 ()).bind fun t327 => ((code_unless.f (!t327) 22).bind fun t328 => ((code_first.f k (([t322, t323, t324, t326, t328] : List Int))).bind fun t332 => (some t332)))) else ((code_unless.f true 22).bind fun t333 => ((code_first.f k (([t322, t323, t324, t326, t333] : List Int))).bind fun t337 => (some t337))))))))))) = some r := h
 clear h
 replace H := dF.mp H
 obtain ⟨t304, A30, H⟩ := H
 replace H : (if t304 = true then ((code_within.f a0_1 0 1000000000).bind fun t305 => ((code_unless.f t305 2).bind fun t306 => ((code_unless.f ((a0_0 == (-1)) == (a0_1 == 0)) 22).bind fun t307 => ((code_unless.f ((l0_2.length : Int) == a1) 10).bind fun t308 => ((slices_ContainsFunc_int_int_at_code_processErr_1.f l0_2 ()).bind fun t309 => ((code_unless.f (!t309) 2).bind fun t310 => (if a0_1 = 0 then ((slices_ContainsFunc_int_int_at_code_processErr_2.f l0_2 ()).bind fun t311 => ((code_unless.f (!t311) 22).bind fun t312 => ((code_first.f k (([t306, t307, t308, t310, t312] : List Int))).bind fun t316 => (some t316)))) else ((code_unless.f true 22).bind fun t317 => ((code_first.f k (([t306, t307, t308, t310, t317] : List Int))).bind fun t321 => (some t321)))))))))) else ((code_unless.f false 2).bind fun t322 => ((code_unless.f ((a0_0 == (-1)) == (a0_1 == 0)) 22).bind fun t323 => ((code_unless.f ((l0_2.length : Int) == a1) 10).bind fun t324 => ((slices_ContainsFunc_int_int_at_code_processErr_1.f l0_2 ()).bind fun t325 => ((code_unless.f (!t325) 2).bind fun t326 => (if a0_1 = 0 then ((slices_ContainsFunc_int_int_at_code_processErr_2.f l0_2 ()).bind fun t327 => ((code_unless.f (!t327) 22).bind fun t328 => ((code_first.f k (([t322, t323, t324, t326, t328] : List Int))).bind fun t332 => (some t332)))) else ((code_unless.f true 22).bind fun t333 => ((code_first.f k (([t322, t323, t324, t326, t333] : List Int))).bind fun t337 => (some t337)))))))))) = some r := H
 have A3 := dH A30
 clear A30
 by_cases c4 : t304 = true
 ·
  subst c4
  have H1 : ((code_within.f a0_1 0 1000000000).bind fun t305 => ((code_unless.f t305 2).bind fun t306 => ((code_unless.f ((a0_0 == (-1)) == (a0_1 == 0)) 22).bind fun t307 => ((code_unless.f ((l0_2.length : Int) == a1) 10).bind fun t308 => ((slices_ContainsFunc_int_int_at_code_processErr_1.f l0_2 ()).bind fun t309 => ((code_unless.f (!t309) 2).bind fun t310 => (if a0_1 = 0 then ((slices_ContainsFunc_int_int_at_code_processErr_2.f l0_2 ()).bind fun t311 => ((code_unless.f (!t311) 22).bind fun t312 => ((code_first.f k (([t306, t307, t308, t310, t312] : List Int))).bind fun t316 => (some t316)))) else ((code_unless.f true 22).bind fun t317 => ((code_first.f k (([t306, t307, t308, t310, t317] : List Int))).bind fun t321 => (some t321)))))))))) = some r := by rw [if_pos rfl] at H; exact H
  clear H
  have H := H1
  clear H1
  replace H := dF.mp H
  obtain ⟨t305, A50, H⟩ := H
  replace H : ((code_unless.f t305 2).bind fun t306 => ((code_unless.f ((a0_0 == (-1)) == (a0_1 == 0)) 22).bind fun t307 => ((code_unless.f ((l0_2.length : Int) == a1) 10).bind fun t308 => ((slices_ContainsFunc_int_int_at_code_processErr_1.f l0_2 ()).bind fun t309 => ((code_unless.f (!t309) 2).bind fun t310 => (if a0_1 = 0 then ((slices_ContainsFunc_int_int_at_code_processErr_2.f l0_2 ()).bind fun t311 => ((code_unless.f (!t311) 22).bind fun t312 => ((code_first.f k (([t306, t307, t308, t310, t312] : List Int))).bind fun t316 => (some t316)))) else ((code_unless.f true 22).bind fun t317 => ((code_first.f k (([t306, t307, t308, t310, t317] : List Int))).bind fun t321 => (some t321))))))))) = some r := H
  have A5 := dH A50
  clear A50
  replace H := dF.mp H
  obtain ⟨t306, A60, H⟩ := H
  replace H : ((code_unless.f ((a0_0 == (-1)) == (a0_1 == 0)) 22).bind fun t307 => ((code_unless.f ((l0_2.length : Int) == a1) 10).bind fun t308 => ((slices_ContainsFunc_int_int_at_code_processErr_1.f l0_2 ()).bind fun t309 => ((code_unless.f (!t309) 2).bind fun t310 => (if a0_1 = 0 then ((slices_ContainsFunc_int_int_at_code_processErr_2.f l0_2 ()).bind fun t311 => ((code_unless.f (!t311) 22).bind fun t312 => ((code_first.f k (([t306, t307, t308, t310, t312] : List Int))).bind fun t316 => (some t316)))) else ((code_unless.f true 22).bind fun t317 => ((code_first.f k (([t306, t307, t308, t310, t317] : List Int))).bind fun t321 => (some t321)))))))) = some r := H
  have A6 := dH A60
  clear A60
  replace H := dF.mp H
  obtain ⟨t307, A70, H⟩ := H
  replace H : ((code_unless.f ((l0_2.length : Int) == a1) 10).bind fun t308 => ((slices_ContainsFunc_int_int_at_code_processErr_1.f l0_2 ()).bind fun t309 => ((code_unless.f (!t309) 2).bind fun t310 => (if a0_1 = 0 then ((slices_ContainsFunc_int_int_at_code_processErr_2.f l0_2 ()).bind fun t311 => ((code_unless.f (!t311) 22).bind fun t312 => ((code_first.f k (([t306, t307, t308, t310, t312] : List Int))).bind fun t316 => (some t316)))) else ((code_unless.f true 22).bind fun t317 => ((code_first.f k (([t306, t307, t308, t310, t317] : List Int))).bind fun t321 => (some t321))))))) = some r := H
  have A7 := dH A70
  clear A70
  replace H := dF.mp H
  obtain ⟨t308, A80, H⟩ := H
  replace H : ((slices_ContainsFunc_int_int_at_code_processErr_1.f l0_2 ()).bind fun t309 => ((code_unless.f (!t309) 2).bind fun t310 => (if a0_1 = 0 then ((slices_ContainsFunc_int_int_at_code_processErr_2.f l0_2 ()).bind fun t311 => ((code_unless.f (!t311) 22).bind fun t312 => ((code_first.f k (([t306, t307, t308, t310, t312] : List Int))).bind fun t316 => (some t316)))) else ((code_unless.f true 22).bind fun t317 => ((code_first.f k (([t306, t307, t308, t310, t317] : List Int))).bind fun t321 => (some t321)))))) = some r := H
  have A8 := dH A80
  clear A80
  replace H := dF.mp H
  obtain ⟨t309, A90, H⟩ := H
  replace H : ((code_unless.f (!t309) 2).bind fun t310 => (if a0_1 = 0 then ((slices_ContainsFunc_int_int_at_code_processErr_2.f l0_2 ()).bind fun t311 => ((code_unless.f (!t311) 22).bind fun t312 => ((code_first.f k (([t306, t307, t308, t310, t312] : List Int))).bind fun t316 => (some t316)))) else ((code_unless.f true 22).bind fun t317 => ((code_first.f k (([t306, t307, t308, t310, t317] : List Int))).bind fun t321 => (some t321))))) = some r := H
  have A9 := dH A90
  clear A90
  replace H := dF.mp H
  obtain ⟨t310, A100, H⟩ := H
  replace H : (if a0_1 = 0 then ((slices_ContainsFunc_int_int_at_code_processErr_2.f l0_2 ()).bind fun t311 => ((code_unless.f (!t311) 22).bind fun t312 => ((code_first.f k (([t306, t307, t308, t310, t312] : List Int))).bind fun t316 => (some t316)))) else ((code_unless.f true 22).bind fun t317 => ((code_first.f k (([t306, t307, t308, t310, t317] : List Int))).bind fun t321 => (some t321)))) = some r := H
  have A10 := dH A100
  clear A100
  by_cases c11 : a0_1 = 0
  ·
   rw [if_pos c11] at H
   have c11b0 : (a0_1 == 0) = true := beq_iff_eq.mpr c11
   have c11b1 : (a0_1 != 0) = false := bne_eq_false_iff_eq.mpr c11
   clear c11
   replace H := dF.mp H
   obtain ⟨t311, A120, H⟩ := H
   replace H : ((code_unless.f (!t311) 22).bind fun t312 => ((code_first.f k (([t306, t307, t308, t310, t312] : List Int))).bind fun t316 => (some t316))) = some r := H
   have A12 := dH A120
   clear A120
   replace H := dF.mp H
   obtain ⟨t312, A130, H⟩ := H
   replace H : ((code_first.f k (([t306, t307, t308, t310, t312] : List Int))).bind fun t316 => (some t316)) = some r := H
   have A13 := dH A130
   clear A130
   obtain ⟨y313, hy313⟩ : ∃ y_ : List Int, y_ = (([t306, t307, t308, t310, t312] : List Int)) := ⟨_, rfl⟩
   replace H : ((code_first.f k y313).bind fun t316 => (some t316)) = some r := by first | (rw [hy313]; with_reducible exact H) | (have H2_ := (Option.bind_some _ _).symm.trans H; rw [hy313]; with_reducible exact H2_) | (have H2_ := (Option.bind_some _ _).symm.trans H; with_reducible exact H2_) | with_reducible exact H | (rw [hy313]; exact H) | exact H
   have Ny313 := dH hy313
   clear hy313
   replace H := dF.mp H
   obtain ⟨t316, A140, H⟩ := H
   replace H : (some t316) = some r := H
   have A14 := dH A140
   clear A140
   obtain rfl := Option.some.inj H
   go_enter Try.func142, Try.ntmps142
   try go_wp2_with (first | ((with_reducible refine bg (N := 2) rfl ?_); refine bI ?hg (N := 2) ?hd (cs := #[.int .i64 a0_0, .int .i64 a0_1, .slice A0_2 l0_2.length c0_2]) (t := 42) ?hr ?_; (case hd => rfl); (case hg => rfl); (case hr => first | (go_simp; done) | (go_simp; rfl)); intro gb303 hg w15 hbox hb; have n0_ := dH (aM (by repeat (first | (with_reducible first | exact HB.out | apply ak | apply ah | apply aj) | exact HB.out)) hb); have n1_ := dH (hbox); have n2_ := dH ((by rw [hg]; exact (aK (by repeat (first | (with_reducible first | exact HB.out | apply ak | apply ah | apply aj) | exact HB.out))) : w.heap.size ≤ gb303)); have n3_ := dH ((by rw [hg]; exact (aK (by repeat (first | (with_reducible first | exact HB.out | apply ak | apply ah | apply aj) | exact HB.out))) : w.heap.size ≤ gb303)); clear HB; have HB := n0_; have BK303 := n1_; have GW303 := n2_; have GE303 := n3_; clear n0_ n1_ n2_ n3_; clear hb hbox hg; have hcz16_0 : w15.cell? ⟨gb303, 0, none⟩ = some (.int .i64 a0_0) := (ay BK303.out 0).trans rfl; have hcz16_1 : w15.cell? ⟨gb303, 1, none⟩ = some (.int .i64 a0_1) := (ay BK303.out 1).trans rfl; have hcz16_2 : w15.cell? ⟨gb303, 2, none⟩ = some (.slice A0_2 l0_2.length c0_2) := (ay BK303.out 2).trans rfl; have hfz16_0 := aD BK303.out 0; have hfz16_1 := aD BK303.out 1; have hfz16_2 := aD BK303.out 2))
   have n0_ := dH (aC BK303.out)
   have n1_ := dH (aj HB.out)
   clear BK303
   clear HB
   have BK303 := n0_
   have HB := n1_
   clear n0_ n1_
   refine b_ (n := 38) (S := fun w' => w'.cell? ⟨gb303, 0, none⟩ = some (.int .i64 a0_0) ∧ w'.cell? ⟨gb303, 1, none⟩ = some (.int .i64 a0_1) ∧ w'.cell? ⟨gb303, 2, none⟩ = some (.slice A0_2 l0_2.length c0_2)) (ds := []) (dG 38 0) (by kernel_rfl) rfl rfl ⟨(ay BK303.out 0).trans rfl, (ay BK303.out 1).trans rfl, (ay BK303.out 2).trans rfl⟩ (fun hHeld => ?_); refine bZ code_processErr.tab2 code_processErr.bits2 (fun HT_ HW_ => ?_)
   generalize w15.drew = w17 at BK303 HB hHeld ⊢
   refine aV (i := 0) (N := some 9) (v := ?_) (a' := ?_) (dG 38 1) rfl rfl (aU HT_.out (by kernel_rfl)) (fun _ _ _ h => h) (Or.inl ⟨by rfl, ?_⟩) ?_ ?_
   rotate_left
   ·
    intro w'
    go_simp
    with_reducible rfl
   rotate_left
   ·
    simp only [Act.put, cO, cZ, d9, aG, aH]
    rfl
   refine aV (i := 9) (N := some 18) (v := ?_) (a' := ?_) (dG 38 513) rfl rfl (aU HT_.out (by kernel_rfl)) (fun _ _ _ h => h) (Or.inl ⟨by rfl, ?_⟩) ?_ ?_
   rotate_left
   ·
    intro w'
    go_simp
    with_reducible rfl
   rotate_left
   ·
    simp only [Act.put, cO, cZ, d9, aG, aH]
    rfl
   refine aV (i := 12) (N := some 21) (v := ?_) (a' := ?_) (dG 38 4609) rfl rfl (aU HT_.out (by kernel_rfl)) (fun _ _ _ h => h) (Or.inl ⟨by rfl, ?_⟩) ?_ ?_
   rotate_left
   ·
    intro w'
    go_simp
    with_reducible rfl
   rotate_left
   ·
    simp only [Act.put, cO, cZ, d9, aG, aH]
    rfl
   refine aV (i := 15) (N := some 24) (v := ?_) (a' := ?_) (dG 38 37377) rfl rfl (aU HT_.out (by kernel_rfl)) (fun _ _ _ h => h) (Or.inl ⟨by rfl, ?_⟩) ?_ ?_
   rotate_left
   ·
    intro w'
    go_simp
    with_reducible rfl
   rotate_left
   ·
    simp only [Act.put, cO, cZ, d9, aG, aH]
    rfl
   refine aV (i := 18) (N := some 27) (v := ?_) (a' := ?_) (dG 38 299521) rfl rfl (aU HT_.out (by kernel_rfl)) (fun _ _ _ h => h) (Or.inl ⟨by rfl, ?_⟩) ?_ ?_
   rotate_left
   ·
    intro w'
    go_simp
    with_reducible rfl
   rotate_left
   ·
    simp only [Act.put, cO, cZ, d9, aG, aH]
    rfl
   refine aV (i := 21) (N := some 30) (v := ?_) (a' := ?_) (dG 38 2396673) rfl rfl (aU HT_.out (by kernel_rfl)) (fun _ _ _ h => h) (Or.inl ⟨by rfl, ?_⟩) ?_ ?_
   rotate_left
   ·
    intro w'
    go_simp
    with_reducible rfl
   rotate_left
   ·
    simp only [Act.put, cO, cZ, d9, aG, aH]
    rfl
   refine aV (i := 26) (N := some 35) (v := ?_) (a' := ?_) (dG 38 69505537) rfl rfl (aU HT_.out (by kernel_rfl)) (fun _ _ _ h => h) (Or.inl ⟨by rfl, ?_⟩) ?_ ?_
   rotate_left
   ·
    intro w'
    go_simp
    with_reducible rfl
   rotate_left
   ·
    simp only [Act.put, cO, cZ, d9, aG, aH]
    rfl
   refine aV (i := 27) (N := some 36) (v := ?_) (a' := ?_) (dG 38 203723265) rfl rfl (aU HT_.out (by kernel_rfl)) (fun _ _ _ h => h) (Or.inl ⟨by rfl, ?_⟩) ?_ ?_
   rotate_left
   ·
    intro w'
    go_simp
    with_reducible rfl
   rotate_left
   ·
    simp only [Act.put, cO, cZ, d9, aG, aH]
    rfl
   refine bK (i := 1) (N := some 10) (v := ?_) (a' := ?_) (dG 38 203723267) rfl rfl (bD HT_.out HW_.out (by kernel_rfl)) (fun _ _ _ h => h) (Or.inl ⟨by rfl, ?_⟩) hHeld ?_ ?_
   rotate_left
   ·
    rintro w' ⟨s0, s1, s2⟩
    go_simp
    with_reducible rfl
   rotate_left
   ·
    simp only [Act.put, cO, cZ, d9, aG, aH]
    rfl
   refine bK (i := 10) (N := some 19) (v := ?_) (a' := ?_) (dG 38 203724291) rfl rfl (bD HT_.out HW_.out (by kernel_rfl)) (fun _ _ _ h => h) (Or.inl ⟨by rfl, ?_⟩) hHeld ?_ ?_
   rotate_left
   ·
    rintro w' ⟨s0, s1, s2⟩
    go_simp
    with_reducible rfl
   rotate_left
   ·
    simp only [Act.put, cO, cZ, d9, aG, aH]
    rfl
   refine aV (i := 11) (N := some 20) (v := ?_) (a' := ?_) (dG 38 203726339) rfl rfl (aU HT_.out (by kernel_rfl)) (fun _ _ _ h => h) (Or.inl ⟨by rfl, ?_⟩) ?_ ?_
   rotate_left
   ·
    intro w'
    go_simp
    with_reducible rfl
   rotate_left
   ·
    simp only [Act.put, cO, cZ, d9, aG, aH]
    rfl
   refine aV (i := 13) (N := some 22) (v := ?_) (a' := ?_) (dG 38 203734531) rfl rfl (aU HT_.out (by kernel_rfl)) (fun _ _ _ h => h) (Or.inl ⟨by rfl, ?_⟩) ?_ ?_
   rotate_left
   ·
    intro w'
    go_simp
    with_reducible rfl
   rotate_left
   ·
    simp only [Act.put, cO, cZ, d9, aG, aH]
    rfl
   refine bK (i := 16) (N := some 25) (v := ?_) (a' := ?_) (dG 38 203800067) rfl rfl (bD HT_.out HW_.out (by kernel_rfl)) (fun _ _ _ h => h) (Or.inl ⟨by rfl, ?_⟩) hHeld ?_ ?_
   rotate_left
   ·
    rintro w' ⟨s0, s1, s2⟩
    go_simp
    with_reducible rfl
   rotate_left
   ·
    simp only [Act.put, cO, cZ, d9, aG, aH]
    rfl
   refine aV (i := 17) (N := some 26) (v := ?_) (a' := ?_) (dG 38 203931139) rfl rfl (aU HT_.out (by kernel_rfl)) (fun _ _ _ h => h) (Or.inl ⟨by rfl, ?_⟩) ?_ ?_
   rotate_left
   ·
    intro w'
    go_simp
    with_reducible rfl
   rotate_left
   ·
    simp only [Act.put, cO, cZ, d9, aG, aH]
    rfl
   refine aV (i := 19) (N := some 28) (v := ?_) (a' := ?_) (dG 38 204455427) rfl rfl (aU HT_.out (by kernel_rfl)) (fun _ _ _ h => h) (Or.inl ⟨by rfl, ?_⟩) ?_ ?_
   rotate_left
   ·
    intro w'
    go_simp
    with_reducible rfl
   rotate_left
   ·
    simp only [Act.put, cO, cZ, d9, aG, aH]
    rfl
   refine bK (i := 22) (N := some 31) (v := ?_) (a' := ?_) (dG 38 208649731) rfl rfl (bD HT_.out HW_.out (by kernel_rfl)) (fun _ _ _ h => h) (Or.inl ⟨by rfl, ?_⟩) hHeld ?_ ?_
   rotate_left
   ·
    rintro w' ⟨s0, s1, s2⟩
    go_simp
    with_reducible rfl
   rotate_left
   ·
    simp only [Act.put, cO, cZ, d9, aG, aH]
    rfl
   refine bR (i := 2) (N := some 11) (dG 38 208649735) rfl rfl (bB HT_.out (by kernel_rfl)) (by decide) (fun K hK => ?_)
   refine bQ Try.func69 (by kernel_rfl) rfl #[.int .i64 a0_0, .int .i64 (-1), .int .i64 1] (by rfl) rfl rfl (by (try simp only [dh, dn, dw]); first | done | rfl | (simp only [dx, dz]; rfl) | (simp only [gt_iff_lt, dA]; rfl) | (simp [Act.eval]; done) | (simp [Act.eval, *]; done)) ?_
   with_reducible refine (code_within.calls a0_0 (-1) 1 true _ A3.out).mono ?_
   rintro e w' ⟨rfl, ⟨nd, rfl⟩⟩
   refine ⟨_, rfl, ?_⟩
   refine hK.out _ _ ⟨(ay BK303.out 0).trans rfl, (ay BK303.out 1).trans rfl, (ay BK303.out 2).trans rfl⟩ (fun hHeld => ?_)
   clear hK K
   refine bG (a' := ?_) ?_ ?_
   rotate_left
   ·
    show Act.put _ (some 11) _ = _
    simp only [Act.put, cO, cZ, d9, aG, aH]
    rfl
   refine aV (i := 3) (N := some 12) (v := ?_) (a' := ?_) (dG 38 208649743) rfl rfl (aU HT_.out (by kernel_rfl)) (fun _ _ _ h => h) (Or.inl ⟨by rfl, ?_⟩) ?_ ?_
   rotate_left
   ·
    intro w'
    go_simp
    with_reducible rfl
   rotate_left
   ·
    simp only [Act.put, cO, cZ, d9, aG, aH]
    rfl
   refine aV (i := 4) (N := some 13) (v := ?_) (a' := ?_) (dG 38 208649759) rfl rfl (aU HT_.out (by kernel_rfl)) (fun _ _ _ h => h) (Or.inl ⟨by rfl, ?_⟩) ?_ ?_
   rotate_left
   ·
    intro w'
    go_simp
    with_reducible rfl
   rotate_left
   ·
    simp only [Act.put, cO, cZ, d9, aG, aH]
    rfl
   refine bK (i := 5) (N := some 14) (v := ?_) (a' := ?_) (dG 38 208649791) rfl rfl (bD HT_.out HW_.out (by kernel_rfl)) (fun _ _ _ h => h) (Or.inl ⟨by rfl, ?_⟩) hHeld ?_ ?_
   rotate_left
   ·
    rintro w' ⟨s0, s1, s2⟩
    go_simp
    with_reducible rfl
   rotate_left
   ·
    simp only [Act.put, cO, cZ, d9, aG, aH]
    rfl
   refine bR (i := 6) (N := some 15) (dG 38 208649855) rfl rfl (bB HT_.out (by kernel_rfl)) (by decide) (fun K hK => ?_)
   refine bQ Try.func69 (by kernel_rfl) rfl #[.int .i64 a0_1, .int .i64 0, .int .i64 1000000000] (by rfl) rfl rfl (by (try simp only [dh, dn, dw]); first | done | rfl | (simp only [dx, dz]; rfl) | (simp only [gt_iff_lt, dA]; rfl) | (simp [Act.eval]; done) | (simp [Act.eval, *]; done)) ?_
   with_reducible refine (code_within.calls a0_1 0 1000000000 t305 _ A5.out).mono ?_
   rintro e w' ⟨rfl, ⟨nd, rfl⟩⟩
   refine ⟨_, rfl, ?_⟩
   refine hK.out _ _ ⟨(ay BK303.out 0).trans rfl, (ay BK303.out 1).trans rfl, (ay BK303.out 2).trans rfl⟩ (fun hHeld => ?_)
   clear hK K
   refine bG (a' := ?_) ?_ ?_
   rotate_left
   ·
    show Act.put _ (some 15) _ = _
    simp only [Act.put, cO, cZ, d9, aG, aH]
    rfl
   refine aV (i := 7) (N := some 16) (v := ?_) (a' := ?_) (dG 38 208649983) rfl rfl (aU HT_.out (by kernel_rfl)) (fun _ _ _ h => h) (Or.inl ⟨by rfl, ?_⟩) ?_ ?_
   rotate_left
   ·
    intro w'
    go_simp
    with_reducible rfl
   rotate_left
   ·
    simp only [Act.put, cO, cZ, d9, aG, aH]
    rfl
   refine bR (i := 8) (N := some 17) (dG 38 208650239) rfl rfl (bB HT_.out (by kernel_rfl)) (by decide) (fun K hK => ?_)
   refine bQ Try.func74 (by kernel_rfl) rfl #[.bool t305, .int .i64 2] (by rfl) rfl rfl (by (try simp only [dh, dn, dw]); first | done | rfl | (simp only [dx, dz]; rfl) | (simp only [gt_iff_lt, dA]; rfl) | (simp [Act.eval]; done) | (simp [Act.eval, *]; done)) ?_
   with_reducible refine (code_unless.calls t305 2 t306 _ A6.out).mono ?_
   rintro e w' ⟨rfl, ⟨nd, rfl⟩⟩
   refine ⟨_, rfl, ?_⟩
   refine hK.out _ _ ⟨(ay BK303.out 0).trans rfl, (ay BK303.out 1).trans rfl, (ay BK303.out 2).trans rfl⟩ (fun hHeld => ?_)
   clear hK K
   refine bG (a' := ?_) ?_ ?_
   rotate_left
   ·
    show Act.put _ (some 17) _ = _
    simp only [Act.put, cO, cZ, d9, aG, aH]
    rfl
   refine bR (i := 14) (N := some 23) (dG 38 208666623) rfl rfl (bB HT_.out (by kernel_rfl)) (by decide) (fun K hK => ?_)
   refine bQ Try.func74 (by kernel_rfl) rfl #[.bool ((a0_0 == (-1)) == (a0_1 == 0)), .int .i64 22] (by rfl) rfl rfl (by (try simp only [dh, dn, dw]); first | done | rfl | (simp only [dx, dz]; rfl) | (simp only [gt_iff_lt, dA]; rfl) | (simp [Act.eval]; done) | (simp [Act.eval, *]; done)) ?_
   with_reducible refine (code_unless.calls ((a0_0 == (-1)) == (a0_1 == 0)) 22 t307 _ A7.out).mono ?_
   rintro e w' ⟨rfl, ⟨nd, rfl⟩⟩
   refine ⟨_, rfl, ?_⟩
   refine hK.out _ _ ⟨(ay BK303.out 0).trans rfl, (ay BK303.out 1).trans rfl, (ay BK303.out 2).trans rfl⟩ (fun hHeld => ?_)
   clear hK K
   refine bG (a' := ?_) ?_ ?_
   rotate_left
   ·
    show Act.put _ (some 23) _ = _
    simp only [Act.put, cO, cZ, d9, aG, aH]
    rfl
   refine bR (i := 20) (N := some 29) (dG 38 209715199) rfl rfl (bB HT_.out (by kernel_rfl)) (by decide) (fun K hK => ?_)
   refine bQ Try.func74 (by kernel_rfl) rfl #[.bool ((l0_2.length : Int) == a1), .int .i64 10] (by rfl) rfl rfl (by (try simp only [dh, dn, dw]); first | done | rfl | (simp only [dx, dz]; rfl) | (simp only [gt_iff_lt, dA]; rfl) | (simp [Act.eval]; done) | (simp [Act.eval, *]; done)) ?_
   with_reducible refine (code_unless.calls ((l0_2.length : Int) == a1) 10 t308 _ A8.out).mono ?_
   rintro e w' ⟨rfl, ⟨nd, rfl⟩⟩
   refine ⟨_, rfl, ?_⟩
   refine hK.out _ _ ⟨(ay BK303.out 0).trans rfl, (ay BK303.out 1).trans rfl, (ay BK303.out 2).trans rfl⟩ (fun hHeld => ?_)
   clear hK K
   refine bG (a' := ?_) ?_ ?_
   rotate_left
   ·
    show Act.put _ (some 29) _ = _
    simp only [Act.put, cO, cZ, d9, aG, aH]
    rfl
   refine bR (i := 23) (N := some 32) (dG 38 218103807) rfl rfl (bB HT_.out (by kernel_rfl)) (by decide) (fun K hK => ?_)
   refine bQ Try.func117 (by kernel_rfl) rfl #[.slice A0_2 l0_2.length c0_2, .func (.func 213) #[] #[]] (by rfl) rfl rfl (by (try simp only [dh, dn, dw]); first | done | rfl | (simp only [dx, dz]; rfl) | (simp only [gt_iff_lt, dA]; rfl) | (simp [Act.eval]; done) | (simp [Act.eval, *]; done)) ?_
   with_reducible refine (slices_ContainsFunc_int_int_at_code_processErr_1.calls _ _ l0_2 () t309 _ ?side1 ?side2 A9.out).mono ?_
   (case side1 => repeat (first | exact (Kd.bF HR0_2.out (by repeat (first | (with_reducible first | exact HB.out | apply ak | apply ah | apply aj | refine aA ?_ GE303.out) | exact HB.out))) | (with_reducible refine Kd.bA ?_ _) | (with_reducible refine Kd.bC ?_ _) | (with_reducible refine Kd.bJ ?_)))
   (case side2 => exact HC0_2.out)
   rintro e w18 ⟨rfl, hb⟩
   refine ⟨_, rfl, ?_⟩
   have n0_ := dH (aQ (g := gb303) (o := .cells #[.int .i64 a0_0, .int .i64 a0_1, .slice A0_2 l0_2.length c0_2] 42 (0, 0)) (by (with_reducible repeat (first | refine av ?_ _ | refine aC ?_ | refine au ?_ _)); exact BK303.out) hb)
   have n1_ := dH (aM (by repeat (first | (with_reducible first | exact HB.out | apply ak | apply ah | apply aj | refine aA ?_ GE303.out) | exact HB.out)) hb)
   clear BK303
   clear HB
   have BK303 := n0_
   have HB := n1_
   clear n0_ n1_
   (try clear hb)
   (try clear hb2)
   (try clear hk)
   (try clear hi)
   refine hK.out _ _ ⟨(ay BK303.out 0).trans rfl, (ay BK303.out 1).trans rfl, (ay BK303.out 2).trans rfl⟩ (fun hHeld => ?_)
   clear hK K
   refine bG (a' := ?_) ?_ ?_
   rotate_left
   ·
    show Act.put _ (some 32) _ = _
    simp only [Act.put, cO, cZ, d9, aG, aH]
    rfl
   refine aV (i := 24) (N := some 33) (v := ?_) (a' := ?_) (dG 38 234881023) rfl rfl (aU HT_.out (by kernel_rfl)) (fun _ _ _ h => h) (Or.inl ⟨by rfl, ?_⟩) ?_ ?_
   rotate_left
   ·
    intro w'
    go_simp
    with_reducible rfl
   rotate_left
   ·
    simp only [Act.put, cO, cZ, d9, aG, aH]
    rfl
   refine bR (i := 25) (N := some 34) (dG 38 268435455) rfl rfl (bB HT_.out (by kernel_rfl)) (by decide) (fun K hK => ?_)
   refine bQ Try.func74 (by kernel_rfl) rfl #[.bool (!t309), .int .i64 2] (by rfl) rfl rfl (by (try simp only [dh, dn, dw]); first | done | rfl | (simp only [dx, dz]; rfl) | (simp only [gt_iff_lt, dA]; rfl) | (simp [Act.eval]; done) | (simp [Act.eval, *]; done)) ?_
   with_reducible refine (code_unless.calls (!t309) 2 t310 _ A10.out).mono ?_
   rintro e w' ⟨rfl, ⟨nd, rfl⟩⟩
   refine ⟨_, rfl, ?_⟩
   refine hK.out _ _ ⟨(ay BK303.out 0).trans rfl, (ay BK303.out 1).trans rfl, (ay BK303.out 2).trans rfl⟩ (fun hHeld => ?_)
   clear hK K
   refine bG (a' := ?_) ?_ ?_
   rotate_left
   ·
    show Act.put _ (some 34) _ = _
    simp only [Act.put, cO, cZ, d9, aG, aH]
    rfl
   refine aV (i := 28) (N := some 37) (v := ?_) (a' := ?_) (dG 38 536870911) rfl rfl (aU HT_.out (by kernel_rfl)) (fun _ _ _ h => h) (Or.inl ⟨by rfl, ?_⟩) ?_ ?_
   rotate_left
   ·
    intro w'
    go_simp
    with_reducible rfl
   rotate_left
   ·
    simp only [Act.put, cO, cZ, d9, aG, aH]
    rfl
   refine aV (i := 29) (N := some 38) (v := ?_) (a' := ?_) (dG 38 1073741823) rfl rfl (aU HT_.out (by kernel_rfl)) (fun _ _ _ h => h) (Or.inl ⟨by rfl, ?_⟩) ?_ ?_
   rotate_left
   ·
    intro w'
    go_simp
    with_reducible rfl
   rotate_left
   ·
    simp only [Act.put, cO, cZ, d9, aG, aH]
    rfl
   refine bK (i := 30) (N := some 39) (v := ?_) (a' := ?_) (dG 38 2147483647) rfl rfl (bD HT_.out HW_.out (by kernel_rfl)) (fun _ _ _ h => h) (Or.inl ⟨by rfl, ?_⟩) hHeld ?_ ?_
   rotate_left
   ·
    rintro w' ⟨s0, s1, s2⟩
    go_simp
    with_reducible rfl
   rotate_left
   ·
    simp only [Act.put, cO, cZ, d9, aG, aH]
    rfl
   refine bR (i := 31) (N := some 40) (dG 38 4294967295) rfl rfl (bB HT_.out (by kernel_rfl)) (by decide) (fun K hK => ?_)
   refine bQ Try.func117 (by kernel_rfl) rfl #[.slice A0_2 l0_2.length c0_2, .func (.func 214) #[] #[]] (by rfl) rfl rfl (by (try simp only [dh, dn, dw]); first | done | rfl | (simp only [dx, dz]; rfl) | (simp only [gt_iff_lt, dA]; rfl) | (simp [Act.eval]; done) | (simp [Act.eval, *]; done)) ?_
   with_reducible refine (slices_ContainsFunc_int_int_at_code_processErr_2.calls _ _ l0_2 () t311 _ ?side1 ?side2 A12.out).mono ?_
   (case side1 => repeat (first | exact (Kd.bF HR0_2.out (by repeat (first | (with_reducible first | exact HB.out | apply ak | apply ah | apply aj | refine aA ?_ GE303.out) | exact HB.out))) | (with_reducible refine Kd.bA ?_ _) | (with_reducible refine Kd.bC ?_ _) | (with_reducible refine Kd.bJ ?_)))
   (case side2 => exact HC0_2.out)
   rintro e w19 ⟨rfl, hb⟩
   refine ⟨_, rfl, ?_⟩
   have n0_ := dH (aQ (g := gb303) (o := .cells #[.int .i64 a0_0, .int .i64 a0_1, .slice A0_2 l0_2.length c0_2] 42 (0, 0)) (by (with_reducible repeat (first | refine av ?_ _ | refine aC ?_ | refine au ?_ _)); exact BK303.out) hb)
   have n1_ := dH (aM (by repeat (first | (with_reducible first | exact HB.out | apply ak | apply ah | apply aj | refine aA ?_ GE303.out) | exact HB.out)) hb)
   clear BK303
   clear HB
   have BK303 := n0_
   have HB := n1_
   clear n0_ n1_
   (try clear hb)
   (try clear hb2)
   (try clear hk)
   (try clear hi)
   refine hK.out _ _ ⟨(ay BK303.out 0).trans rfl, (ay BK303.out 1).trans rfl, (ay BK303.out 2).trans rfl⟩ (fun hHeld => ?_)
   clear hK K
   refine bG (a' := ?_) ?_ ?_
   rotate_left
   ·
    show Act.put _ (some 40) _ = _
    simp only [Act.put, cO, cZ, d9, aG, aH]
    rfl
   refine aV (i := 32) (N := some 41) (v := ?_) (a' := ?_) (dG 38 8589934591) rfl rfl (aU HT_.out (by kernel_rfl)) (fun _ _ _ h => h) (Or.inl ⟨by rfl, ?_⟩) ?_ ?_
   rotate_left
   ·
    intro w'
    go_simp
    with_reducible rfl
   rotate_left
   ·
    simp only [Act.put, cO, cZ, d9, aG, aH]
    rfl
   refine aV (i := 33) (N := some 42) (v := ?_) (a' := ?_) (dG 38 17179869183) rfl rfl (aU HT_.out (by kernel_rfl)) (fun _ _ _ h => h) (Or.inl ⟨by rfl, ?_⟩) ?_ ?_
   rotate_left
   ·
    intro w'
    go_simp
    with_reducible rfl
   rotate_left
   ·
    simp only [Act.put, cO, cZ, d9, aG, aH]
    rfl
   refine bR (i := 34) (N := some 43) (dG 38 34359738367) rfl rfl (bB HT_.out (by kernel_rfl)) (by decide) (fun K hK => ?_)
   refine bQ Try.func74 (by kernel_rfl) rfl #[.bool (!t311), .int .i64 22] (by rfl) rfl rfl (by (try simp only [dh, dn, dw]); first | done | rfl | (simp only [dx, dz]; rfl) | (simp only [gt_iff_lt, dA]; rfl) | (simp [Act.eval]; done) | (simp [Act.eval, *]; done)) ?_
   with_reducible refine (code_unless.calls (!t311) 22 t312 _ A13.out).mono ?_
   rintro e w' ⟨rfl, ⟨nd, rfl⟩⟩
   refine ⟨_, rfl, ?_⟩
   refine hK.out _ _ ⟨(ay BK303.out 0).trans rfl, (ay BK303.out 1).trans rfl, (ay BK303.out 2).trans rfl⟩ (fun hHeld => ?_)
   clear hK K
   refine bG (a' := ?_) ?_ ?_
   rotate_left
   ·
    show Act.put _ (some 43) _ = _
    simp only [Act.put, cO, cZ, d9, aG, aH]
    rfl
   refine bR (i := 35) (N := some 44) (dG 38 68719476735) rfl rfl (bB HT_.out (by kernel_rfl)) (by decide) (fun K hK => ?_)
   refine Kd.R_lit_step (Kd.int .i64) _ 29 ?hg (N := 44) ?hd (xs := ([t306, t307, t308, t310, t312] : List Int)) (inner := [.int .i64 t306, .int .i64 t307, .int .i64 t308, .int .i64 t310, .int .i64 t312]) (ok := fun _ => True) (okp := fun _ => True) ?hr ?hp (fun _ hk => hk) trivial (Below.refl _ _) (Nat.le_refl _) (by simp) ?_; (case hd => rfl); (case hg => rfl); (case hr => first | (go_simp; done) | (go_simp; rfl)); (case hp => exact (Reps.one (show Kd.M (Kd.int .i64) _ _ _ t306 [.int .i64 t306] from rfl) (Reps.one (show Kd.M (Kd.int .i64) _ _ _ t307 [.int .i64 t307] from rfl) (Reps.one (show Kd.M (Kd.int .i64) _ _ _ t308 [.int .i64 t308] from rfl) (Reps.one (show Kd.M (Kd.int .i64) _ _ _ t310 [.int .i64 t310] from rfl) (Reps.one (show Kd.M (Kd.int .i64) _ _ _ t312 [.int .i64 t312] from rfl) (Reps.none _ _)))))))
   intro v314 w20 ho21 hb hg_ hnew_
   clear hg_ hnew_
   (first | rw [← Ny313.out] at ho21 | (simp only [Int.reduceToNat] at ho21; rw [← Ny313.out] at ho21))
   have n0_ := dH (Kd.bP ho21 (aK (by repeat (first | (with_reducible first | exact HB.out | apply ak | apply ah | apply aj | refine aA ?_ GE303.out) | exact HB.out))))
   have n1_ := dH (aQ (g := gb303) (o := .cells #[.int .i64 a0_0, .int .i64 a0_1, .slice A0_2 l0_2.length c0_2] 42 (0, 0)) (by (with_reducible repeat (first | refine av ?_ _ | refine aC ?_ | refine au ?_ _)); exact BK303.out) hb)
   have n2_ := dH (aM (by repeat (first | (with_reducible first | exact HB.out | apply ak | apply ah | apply aj | refine aA ?_ GE303.out) | exact HB.out)) hb)
   clear BK303
   clear HB
   have HO315 := n0_
   have BK303 := n1_
   have HB := n2_
   clear n0_ n1_ n2_
   clear hb ho21
   obtain ⟨Ao22, co22, eo22⟩ := Kd.bN HO315.out
   (first | subst eo22 | (injection eo22 with f1_ f2_ f3_; have f4_ := f1_.symm; have f5_ := f3_.symm; clear f1_ f2_ f3_; subst f4_; subst f5_))
   refine hK.out _ _ ⟨(ay BK303.out 0).trans rfl, (ay BK303.out 1).trans rfl, (ay BK303.out 2).trans rfl⟩ (fun hHeld => ?_)
   clear hK K
   refine bG (a' := ?_) ?_ ?_
   rotate_left
   ·
    show Act.put _ (some 44) _ = _
    simp only [Act.put, cO, cZ, d9, aG, aH]
    rfl
   refine bR (i := 36) (N := some 45) (dG 38 137438953471) rfl rfl (bB HT_.out (by kernel_rfl)) (by decide) (fun K hK => ?_)
   refine bQ Try.func72 (by kernel_rfl) rfl #[.slice Ao22 y313.length co22] (by rfl) rfl rfl (by (try simp only [dh, dn, dw]); first | done | rfl | (simp only [dx, dz]; rfl) | (simp only [gt_iff_lt, dA]; rfl) | (simp [Act.eval]; done) | (simp [Act.eval, *]; done)) ?_
   with_reducible refine (code_first.calls k _ _ y313 t316 _ ?side1 ?side2 A14.out).mono ?_
   (case side1 => repeat (first | exact (Kd.aZ HO315.out).2.2 | (with_reducible refine Kd.bA ?_ _) | (with_reducible refine Kd.bC ?_ _) | (with_reducible refine Kd.bJ ?_)))
   (case side2 => exact (Kd.aZ HO315.out).2.1)
   rintro e w' ⟨rfl, ⟨nd, rfl⟩⟩
   refine ⟨_, rfl, ?_⟩
   refine hK.out _ _ ⟨(ay BK303.out 0).trans rfl, (ay BK303.out 1).trans rfl, (ay BK303.out 2).trans rfl⟩ (fun hHeld => ?_)
   clear hK K
   refine bG (a' := ?_) ?_ ?_
   rotate_left
   ·
    show Act.put _ (some 45) _ = _
    simp only [Act.put, cO, cZ, d9, aG, aH]
    rfl
   refine aV (i := 37) (N := some 4) (v := ?_) (a' := ?_) (dG 38 274877906943) rfl rfl (aU HT_.out (by kernel_rfl)) (fun _ _ _ h => h) (Or.inl ⟨by rfl, ?_⟩) ?_ ?_
   rotate_left
   ·
    intro w'
    go_simp
    with_reducible rfl
   rotate_left
   ·
    simp only [Act.put, cO, cZ, d9, aG, aH]
    rfl
   refine done_ (cK HT_.out (by kernel_rfl)) ?_
   try go_wp2
   go_ret
   exact ⟨by first | rfl | (simp [aX, aY] <;> rfl) | (simp [*, aX, aY] <;> rfl), by repeat (first | (with_reducible first | exact HB.out | apply ak | apply ah | apply aj | refine aA ?_ GE303.out) | exact HB.out)⟩
  ·
   rw [if_neg c11] at H
   have c11b0 : (a0_1 == 0) = false := beq_eq_false_iff_ne.mpr c11
   have c11b1 : (a0_1 != 0) = true := bne_iff_ne.mpr c11
   replace H := dF.mp H
   obtain ⟨t317, A230, H⟩ := H
   replace H : ((code_first.f k (([t306, t307, t308, t310, t317] : List Int))).bind fun t321 => (some t321)) = some r := H
   have A23 := dH A230
   clear A230
   obtain ⟨y318, hy318⟩ : ∃ y_ : List Int, y_ = (([t306, t307, t308, t310, t317] : List Int)) := ⟨_, rfl⟩
   replace H : ((code_first.f k y318).bind fun t321 => (some t321)) = some r := by first | (rw [hy318]; with_reducible exact H) | (have H2_ := (Option.bind_some _ _).symm.trans H; rw [hy318]; with_reducible exact H2_) | (have H2_ := (Option.bind_some _ _).symm.trans H; with_reducible exact H2_) | with_reducible exact H | (rw [hy318]; exact H) | exact H
   have Ny318 := dH hy318
   clear hy318
   replace H := dF.mp H
   obtain ⟨t321, A240, H⟩ := H
   replace H : (some t321) = some r := H
   have A24 := dH A240
   clear A240
   obtain rfl := Option.some.inj H
   go_enter Try.func142, Try.ntmps142
   try go_wp2_with (first | ((with_reducible refine bg (N := 2) rfl ?_); refine bI ?hg (N := 2) ?hd (cs := #[.int .i64 a0_0, .int .i64 a0_1, .slice A0_2 l0_2.length c0_2]) (t := 42) ?hr ?_; (case hd => rfl); (case hg => rfl); (case hr => first | (go_simp; done) | (go_simp; rfl)); intro gb303 hg w25 hbox hb; have n0_ := dH (aM (by repeat (first | (with_reducible first | exact HB.out | apply ak | apply ah | apply aj) | exact HB.out)) hb); have n1_ := dH (hbox); have n2_ := dH ((by rw [hg]; exact (aK (by repeat (first | (with_reducible first | exact HB.out | apply ak | apply ah | apply aj) | exact HB.out))) : w.heap.size ≤ gb303)); have n3_ := dH ((by rw [hg]; exact (aK (by repeat (first | (with_reducible first | exact HB.out | apply ak | apply ah | apply aj) | exact HB.out))) : w.heap.size ≤ gb303)); clear HB; have HB := n0_; have BK303 := n1_; have GW303 := n2_; have GE303 := n3_; clear n0_ n1_ n2_ n3_; clear hb hbox hg; have hcz26_0 : w25.cell? ⟨gb303, 0, none⟩ = some (.int .i64 a0_0) := (ay BK303.out 0).trans rfl; have hcz26_1 : w25.cell? ⟨gb303, 1, none⟩ = some (.int .i64 a0_1) := (ay BK303.out 1).trans rfl; have hcz26_2 : w25.cell? ⟨gb303, 2, none⟩ = some (.slice A0_2 l0_2.length c0_2) := (ay BK303.out 2).trans rfl; have hfz26_0 := aD BK303.out 0; have hfz26_1 := aD BK303.out 1; have hfz26_2 := aD BK303.out 2))
   have n0_ := dH (aC BK303.out)
   have n1_ := dH (aj HB.out)
   clear BK303
   clear HB
   have BK303 := n0_
   have HB := n1_
   clear n0_ n1_
   refine b_ (n := 38) (S := fun w' => w'.cell? ⟨gb303, 0, none⟩ = some (.int .i64 a0_0) ∧ w'.cell? ⟨gb303, 1, none⟩ = some (.int .i64 a0_1) ∧ w'.cell? ⟨gb303, 2, none⟩ = some (.slice A0_2 l0_2.length c0_2)) (ds := []) (dG 38 0) (by kernel_rfl) rfl rfl ⟨(ay BK303.out 0).trans rfl, (ay BK303.out 1).trans rfl, (ay BK303.out 2).trans rfl⟩ (fun hHeld => ?_); refine bZ code_processErr.tab2 code_processErr.bits2 (fun HT_ HW_ => ?_)
   generalize w25.drew = w27 at BK303 HB hHeld ⊢
   refine aV (i := 0) (N := some 9) (v := ?_) (a' := ?_) (dG 38 1) rfl rfl (aU HT_.out (by kernel_rfl)) (fun _ _ _ h => h) (Or.inl ⟨by rfl, ?_⟩) ?_ ?_
   rotate_left
   ·
    intro w'
    go_simp
    with_reducible rfl
   rotate_left
   ·
    simp only [Act.put, cO, cZ, d9, aG, aH]
    rfl
   refine aV (i := 9) (N := some 18) (v := ?_) (a' := ?_) (dG 38 513) rfl rfl (aU HT_.out (by kernel_rfl)) (fun _ _ _ h => h) (Or.inl ⟨by rfl, ?_⟩) ?_ ?_
   rotate_left
   ·
    intro w'
    go_simp
    with_reducible rfl
   rotate_left
   ·
    simp only [Act.put, cO, cZ, d9, aG, aH]
    rfl
   refine aV (i := 12) (N := some 21) (v := ?_) (a' := ?_) (dG 38 4609) rfl rfl (aU HT_.out (by kernel_rfl)) (fun _ _ _ h => h) (Or.inl ⟨by rfl, ?_⟩) ?_ ?_
   rotate_left
   ·
    intro w'
    go_simp
    with_reducible rfl
   rotate_left
   ·
    simp only [Act.put, cO, cZ, d9, aG, aH]
    rfl
   refine aV (i := 15) (N := some 24) (v := ?_) (a' := ?_) (dG 38 37377) rfl rfl (aU HT_.out (by kernel_rfl)) (fun _ _ _ h => h) (Or.inl ⟨by rfl, ?_⟩) ?_ ?_
   rotate_left
   ·
    intro w'
    go_simp
    with_reducible rfl
   rotate_left
   ·
    simp only [Act.put, cO, cZ, d9, aG, aH]
    rfl
   refine aV (i := 18) (N := some 27) (v := ?_) (a' := ?_) (dG 38 299521) rfl rfl (aU HT_.out (by kernel_rfl)) (fun _ _ _ h => h) (Or.inl ⟨by rfl, ?_⟩) ?_ ?_
   rotate_left
   ·
    intro w'
    go_simp
    with_reducible rfl
   rotate_left
   ·
    simp only [Act.put, cO, cZ, d9, aG, aH]
    rfl
   refine aV (i := 21) (N := some 30) (v := ?_) (a' := ?_) (dG 38 2396673) rfl rfl (aU HT_.out (by kernel_rfl)) (fun _ _ _ h => h) (Or.inl ⟨by rfl, ?_⟩) ?_ ?_
   rotate_left
   ·
    intro w'
    go_simp
    with_reducible rfl
   rotate_left
   ·
    simp only [Act.put, cO, cZ, d9, aG, aH]
    rfl
   refine aV (i := 26) (N := some 35) (v := ?_) (a' := ?_) (dG 38 69505537) rfl rfl (aU HT_.out (by kernel_rfl)) (fun _ _ _ h => h) (Or.inl ⟨by rfl, ?_⟩) ?_ ?_
   rotate_left
   ·
    intro w'
    go_simp
    with_reducible rfl
   rotate_left
   ·
    simp only [Act.put, cO, cZ, d9, aG, aH]
    rfl
   refine aV (i := 27) (N := some 36) (v := ?_) (a' := ?_) (dG 38 203723265) rfl rfl (aU HT_.out (by kernel_rfl)) (fun _ _ _ h => h) (Or.inl ⟨by rfl, ?_⟩) ?_ ?_
   rotate_left
   ·
    intro w'
    go_simp
    with_reducible rfl
   rotate_left
   ·
    simp only [Act.put, cO, cZ, d9, aG, aH]
    rfl
   refine bK (i := 1) (N := some 10) (v := ?_) (a' := ?_) (dG 38 203723267) rfl rfl (bD HT_.out HW_.out (by kernel_rfl)) (fun _ _ _ h => h) (Or.inl ⟨by rfl, ?_⟩) hHeld ?_ ?_
   rotate_left
   ·
    rintro w' ⟨s0, s1, s2⟩
    go_simp
    with_reducible rfl
   rotate_left
   ·
    simp only [Act.put, cO, cZ, d9, aG, aH]
    rfl
   refine bK (i := 10) (N := some 19) (v := ?_) (a' := ?_) (dG 38 203724291) rfl rfl (bD HT_.out HW_.out (by kernel_rfl)) (fun _ _ _ h => h) (Or.inl ⟨by rfl, ?_⟩) hHeld ?_ ?_
   rotate_left
   ·
    rintro w' ⟨s0, s1, s2⟩
    go_simp
    with_reducible rfl
   rotate_left
   ·
    simp only [Act.put, cO, cZ, d9, aG, aH]
    rfl
   refine aV (i := 11) (N := some 20) (v := ?_) (a' := ?_) (dG 38 203726339) rfl rfl (aU HT_.out (by kernel_rfl)) (fun _ _ _ h => h) (Or.inl ⟨by rfl, ?_⟩) ?_ ?_
   rotate_left
   ·
    intro w'
    go_simp
    with_reducible rfl
   rotate_left
   ·
    simp only [Act.put, cO, cZ, d9, aG, aH]
    rfl
   refine aV (i := 13) (N := some 22) (v := ?_) (a' := ?_) (dG 38 203734531) rfl rfl (aU HT_.out (by kernel_rfl)) (fun _ _ _ h => h) (Or.inl ⟨by rfl, ?_⟩) ?_ ?_
   rotate_left
   ·
    intro w'
    go_simp
    with_reducible rfl
   rotate_left
   ·
    simp only [Act.put, cO, cZ, d9, aG, aH]
    rfl
   refine bK (i := 16) (N := some 25) (v := ?_) (a' := ?_) (dG 38 203800067) rfl rfl (bD HT_.out HW_.out (by kernel_rfl)) (fun _ _ _ h => h) (Or.inl ⟨by rfl, ?_⟩) hHeld ?_ ?_
   rotate_left
   ·
    rintro w' ⟨s0, s1, s2⟩
    go_simp
    with_reducible rfl
   rotate_left
   ·
    simp only [Act.put, cO, cZ, d9, aG, aH]
    rfl
   refine aV (i := 17) (N := some 26) (v := ?_) (a' := ?_) (dG 38 203931139) rfl rfl (aU HT_.out (by kernel_rfl)) (fun _ _ _ h => h) (Or.inl ⟨by rfl, ?_⟩) ?_ ?_
   rotate_left
   ·
    intro w'
    go_simp
    with_reducible rfl
   rotate_left
   ·
    simp only [Act.put, cO, cZ, d9, aG, aH]
    rfl
   refine aV (i := 19) (N := some 28) (v := ?_) (a' := ?_) (dG 38 204455427) rfl rfl (aU HT_.out (by kernel_rfl)) (fun _ _ _ h => h) (Or.inl ⟨by rfl, ?_⟩) ?_ ?_
   rotate_left
   ·
    intro w'
    go_simp
    with_reducible rfl
   rotate_left
   ·
    simp only [Act.put, cO, cZ, d9, aG, aH]
    rfl
   refine bK (i := 22) (N := some 31) (v := ?_) (a' := ?_) (dG 38 208649731) rfl rfl (bD HT_.out HW_.out (by kernel_rfl)) (fun _ _ _ h => h) (Or.inl ⟨by rfl, ?_⟩) hHeld ?_ ?_
   rotate_left
   ·
    rintro w' ⟨s0, s1, s2⟩
    go_simp
    with_reducible rfl
   rotate_left
   ·
    simp only [Act.put, cO, cZ, d9, aG, aH]
    rfl
   refine bR (i := 2) (N := some 11) (dG 38 208649735) rfl rfl (bB HT_.out (by kernel_rfl)) (by decide) (fun K hK => ?_)
   refine bQ Try.func69 (by kernel_rfl) rfl #[.int .i64 a0_0, .int .i64 (-1), .int .i64 1] (by rfl) rfl rfl (by (try simp only [dh, dn, dw]); first | done | rfl | (simp only [dx, dz]; rfl) | (simp only [gt_iff_lt, dA]; rfl) | (simp [Act.eval]; done) | (simp [Act.eval, *]; done)) ?_
   with_reducible refine (code_within.calls a0_0 (-1) 1 true _ A3.out).mono ?_
   rintro e w' ⟨rfl, ⟨nd, rfl⟩⟩
   refine ⟨_, rfl, ?_⟩
   refine hK.out _ _ ⟨(ay BK303.out 0).trans rfl, (ay BK303.out 1).trans rfl, (ay BK303.out 2).trans rfl⟩ (fun hHeld => ?_)
   clear hK K
   refine bG (a' := ?_) ?_ ?_
   rotate_left
   ·
    show Act.put _ (some 11) _ = _
    simp only [Act.put, cO, cZ, d9, aG, aH]
    rfl
   refine aV (i := 3) (N := some 12) (v := ?_) (a' := ?_) (dG 38 208649743) rfl rfl (aU HT_.out (by kernel_rfl)) (fun _ _ _ h => h) (Or.inl ⟨by rfl, ?_⟩) ?_ ?_
   rotate_left
   ·
    intro w'
    go_simp
    with_reducible rfl
   rotate_left
   ·
    simp only [Act.put, cO, cZ, d9, aG, aH]
    rfl
   refine aV (i := 4) (N := some 13) (v := ?_) (a' := ?_) (dG 38 208649759) rfl rfl (aU HT_.out (by kernel_rfl)) (fun _ _ _ h => h) (Or.inl ⟨by rfl, ?_⟩) ?_ ?_
   rotate_left
   ·
    intro w'
    go_simp
    with_reducible rfl
   rotate_left
   ·
    simp only [Act.put, cO, cZ, d9, aG, aH]
    rfl
   refine bK (i := 5) (N := some 14) (v := ?_) (a' := ?_) (dG 38 208649791) rfl rfl (bD HT_.out HW_.out (by kernel_rfl)) (fun _ _ _ h => h) (Or.inl ⟨by rfl, ?_⟩) hHeld ?_ ?_
   rotate_left
   ·
    rintro w' ⟨s0, s1, s2⟩
    go_simp
    with_reducible rfl
   rotate_left
   ·
    simp only [Act.put, cO, cZ, d9, aG, aH]
    rfl
   refine bR (i := 6) (N := some 15) (dG 38 208649855) rfl rfl (bB HT_.out (by kernel_rfl)) (by decide) (fun K hK => ?_)
   refine bQ Try.func69 (by kernel_rfl) rfl #[.int .i64 a0_1, .int .i64 0, .int .i64 1000000000] (by rfl) rfl rfl (by (try simp only [dh, dn, dw]); first | done | rfl | (simp only [dx, dz]; rfl) | (simp only [gt_iff_lt, dA]; rfl) | (simp [Act.eval]; done) | (simp [Act.eval, *]; done)) ?_
   with_reducible refine (code_within.calls a0_1 0 1000000000 t305 _ A5.out).mono ?_
   rintro e w' ⟨rfl, ⟨nd, rfl⟩⟩
   refine ⟨_, rfl, ?_⟩
   refine hK.out _ _ ⟨(ay BK303.out 0).trans rfl, (ay BK303.out 1).trans rfl, (ay BK303.out 2).trans rfl⟩ (fun hHeld => ?_)
   clear hK K
   refine bG (a' := ?_) ?_ ?_
   rotate_left
   ·
    show Act.put _ (some 15) _ = _
    simp only [Act.put, cO, cZ, d9, aG, aH]
    rfl
   refine aV (i := 7) (N := some 16) (v := ?_) (a' := ?_) (dG 38 208649983) rfl rfl (aU HT_.out (by kernel_rfl)) (fun _ _ _ h => h) (Or.inl ⟨by rfl, ?_⟩) ?_ ?_
   rotate_left
   ·
    intro w'
    go_simp
    with_reducible rfl
   rotate_left
   ·
    simp only [Act.put, cO, cZ, d9, aG, aH]
    rfl
   refine bR (i := 8) (N := some 17) (dG 38 208650239) rfl rfl (bB HT_.out (by kernel_rfl)) (by decide) (fun K hK => ?_)
   refine bQ Try.func74 (by kernel_rfl) rfl #[.bool t305, .int .i64 2] (by rfl) rfl rfl (by (try simp only [dh, dn, dw]); first | done | rfl | (simp only [dx, dz]; rfl) | (simp only [gt_iff_lt, dA]; rfl) | (simp [Act.eval]; done) | (simp [Act.eval, *]; done)) ?_
   with_reducible refine (code_unless.calls t305 2 t306 _ A6.out).mono ?_
   rintro e w' ⟨rfl, ⟨nd, rfl⟩⟩
   refine ⟨_, rfl, ?_⟩
   refine hK.out _ _ ⟨(ay BK303.out 0).trans rfl, (ay BK303.out 1).trans rfl, (ay BK303.out 2).trans rfl⟩ (fun hHeld => ?_)
   clear hK K
   refine bG (a' := ?_) ?_ ?_
   rotate_left
   ·
    show Act.put _ (some 17) _ = _
    simp only [Act.put, cO, cZ, d9, aG, aH]
    rfl
   refine bR (i := 14) (N := some 23) (dG 38 208666623) rfl rfl (bB HT_.out (by kernel_rfl)) (by decide) (fun K hK => ?_)
   refine bQ Try.func74 (by kernel_rfl) rfl #[.bool ((a0_0 == (-1)) == (a0_1 == 0)), .int .i64 22] (by rfl) rfl rfl (by (try simp only [dh, dn, dw]); first | done | rfl | (simp only [dx, dz]; rfl) | (simp only [gt_iff_lt, dA]; rfl) | (simp [Act.eval]; done) | (simp [Act.eval, *]; done)) ?_
   with_reducible refine (code_unless.calls ((a0_0 == (-1)) == (a0_1 == 0)) 22 t307 _ A7.out).mono ?_
   rintro e w' ⟨rfl, ⟨nd, rfl⟩⟩
   refine ⟨_, rfl, ?_⟩
   refine hK.out _ _ ⟨(ay BK303.out 0).trans rfl, (ay BK303.out 1).trans rfl, (ay BK303.out 2).trans rfl⟩ (fun hHeld => ?_)
   clear hK K
   refine bG (a' := ?_) ?_ ?_
   rotate_left
   ·
    show Act.put _ (some 23) _ = _
    simp only [Act.put, cO, cZ, d9, aG, aH]
    rfl
   refine bR (i := 20) (N := some 29) (dG 38 209715199) rfl rfl (bB HT_.out (by kernel_rfl)) (by decide) (fun K hK => ?_)
   refine bQ Try.func74 (by kernel_rfl) rfl #[.bool ((l0_2.length : Int) == a1), .int .i64 10] (by rfl) rfl rfl (by (try simp only [dh, dn, dw]); first | done | rfl | (simp only [dx, dz]; rfl) | (simp only [gt_iff_lt, dA]; rfl) | (simp [Act.eval]; done) | (simp [Act.eval, *]; done)) ?_
   with_reducible refine (code_unless.calls ((l0_2.length : Int) == a1) 10 t308 _ A8.out).mono ?_
   rintro e w' ⟨rfl, ⟨nd, rfl⟩⟩
   refine ⟨_, rfl, ?_⟩
   refine hK.out _ _ ⟨(ay BK303.out 0).trans rfl, (ay BK303.out 1).trans rfl, (ay BK303.out 2).trans rfl⟩ (fun hHeld => ?_)
   clear hK K
   refine bG (a' := ?_) ?_ ?_
   rotate_left
   ·
    show Act.put _ (some 29) _ = _
    simp only [Act.put, cO, cZ, d9, aG, aH]
    rfl
   refine bR (i := 23) (N := some 32) (dG 38 218103807) rfl rfl (bB HT_.out (by kernel_rfl)) (by decide) (fun K hK => ?_)
   refine bQ Try.func117 (by kernel_rfl) rfl #[.slice A0_2 l0_2.length c0_2, .func (.func 213) #[] #[]] (by rfl) rfl rfl (by (try simp only [dh, dn, dw]); first | done | rfl | (simp only [dx, dz]; rfl) | (simp only [gt_iff_lt, dA]; rfl) | (simp [Act.eval]; done) | (simp [Act.eval, *]; done)) ?_
   with_reducible refine (slices_ContainsFunc_int_int_at_code_processErr_1.calls _ _ l0_2 () t309 _ ?side1 ?side2 A9.out).mono ?_
   (case side1 => repeat (first | exact (Kd.bF HR0_2.out (by repeat (first | (with_reducible first | exact HB.out | apply ak | apply ah | apply aj | refine aA ?_ GE303.out) | exact HB.out))) | (with_reducible refine Kd.bA ?_ _) | (with_reducible refine Kd.bC ?_ _) | (with_reducible refine Kd.bJ ?_)))
   (case side2 => exact HC0_2.out)
   rintro e w28 ⟨rfl, hb⟩
   refine ⟨_, rfl, ?_⟩
   have n0_ := dH (aQ (g := gb303) (o := .cells #[.int .i64 a0_0, .int .i64 a0_1, .slice A0_2 l0_2.length c0_2] 42 (0, 0)) (by (with_reducible repeat (first | refine av ?_ _ | refine aC ?_ | refine au ?_ _)); exact BK303.out) hb)
   have n1_ := dH (aM (by repeat (first | (with_reducible first | exact HB.out | apply ak | apply ah | apply aj | refine aA ?_ GE303.out) | exact HB.out)) hb)
   clear BK303
   clear HB
   have BK303 := n0_
   have HB := n1_
   clear n0_ n1_
   (try clear hb)
   (try clear hb2)
   (try clear hk)
   (try clear hi)
   refine hK.out _ _ ⟨(ay BK303.out 0).trans rfl, (ay BK303.out 1).trans rfl, (ay BK303.out 2).trans rfl⟩ (fun hHeld => ?_)
   clear hK K
   refine bG (a' := ?_) ?_ ?_
   rotate_left
   ·
    show Act.put _ (some 32) _ = _
    simp only [Act.put, cO, cZ, d9, aG, aH]
    rfl
   refine aV (i := 24) (N := some 33) (v := ?_) (a' := ?_) (dG 38 234881023) rfl rfl (aU HT_.out (by kernel_rfl)) (fun _ _ _ h => h) (Or.inl ⟨by rfl, ?_⟩) ?_ ?_
   rotate_left
   ·
    intro w'
    go_simp
    with_reducible rfl
   rotate_left
   ·
    simp only [Act.put, cO, cZ, d9, aG, aH]
    rfl
   refine bR (i := 25) (N := some 34) (dG 38 268435455) rfl rfl (bB HT_.out (by kernel_rfl)) (by decide) (fun K hK => ?_)
   refine bQ Try.func74 (by kernel_rfl) rfl #[.bool (!t309), .int .i64 2] (by rfl) rfl rfl (by (try simp only [dh, dn, dw]); first | done | rfl | (simp only [dx, dz]; rfl) | (simp only [gt_iff_lt, dA]; rfl) | (simp [Act.eval]; done) | (simp [Act.eval, *]; done)) ?_
   with_reducible refine (code_unless.calls (!t309) 2 t310 _ A10.out).mono ?_
   rintro e w' ⟨rfl, ⟨nd, rfl⟩⟩
   refine ⟨_, rfl, ?_⟩
   refine hK.out _ _ ⟨(ay BK303.out 0).trans rfl, (ay BK303.out 1).trans rfl, (ay BK303.out 2).trans rfl⟩ (fun hHeld => ?_)
   clear hK K
   refine bG (a' := ?_) ?_ ?_
   rotate_left
   ·
    show Act.put _ (some 34) _ = _
    simp only [Act.put, cO, cZ, d9, aG, aH]
    rfl
   refine aV (i := 28) (N := some 37) (v := ?_) (a' := ?_) (dG 38 536870911) rfl rfl (aU HT_.out (by kernel_rfl)) (fun _ _ _ h => h) (Or.inl ⟨by rfl, ?_⟩) ?_ ?_
   rotate_left
   ·
    intro w'
    go_simp
    with_reducible rfl
   rotate_left
   ·
    simp only [Act.put, cO, cZ, d9, aG, aH]
    rfl
   refine aV (i := 29) (N := some 38) (v := undef) (a' := ?_) (dG 38 1073741823) rfl rfl (aU HT_.out (by kernel_rfl)) (fun _ _ _ h => h) (Or.inr ⟨by rfl, rfl⟩) ?_ ?_
   rotate_left
   ·
    simp only [Act.put, cO, cZ, d9, aG, aH]
    rfl
   refine aV (i := 30) (N := some 39) (v := undef) (a' := ?_) (dG 38 2147483647) rfl rfl (aU HT_.out (by kernel_rfl)) (fun _ _ _ h => h) (Or.inr ⟨by rfl, rfl⟩) ?_ ?_
   rotate_left
   ·
    simp only [Act.put, cO, cZ, d9, aG, aH]
    rfl
   refine aV (i := 31) (N := some 40) (v := undef) (a' := ?_) (dG 38 4294967295) rfl rfl (aU HT_.out (by kernel_rfl)) (fun _ _ _ h => h) (Or.inr ⟨by rfl, rfl⟩) ?_ ?_
   rotate_left
   ·
    simp only [Act.put, cO, cZ, d9, aG, aH]
    rfl
   refine aV (i := 32) (N := some 41) (v := undef) (a' := ?_) (dG 38 8589934591) rfl rfl (aU HT_.out (by kernel_rfl)) (fun _ _ _ h => h) (Or.inr ⟨by rfl, rfl⟩) ?_ ?_
   rotate_left
   ·
    simp only [Act.put, cO, cZ, d9, aG, aH]
    rfl
   refine aV (i := 33) (N := some 42) (v := ?_) (a' := ?_) (dG 38 17179869183) rfl rfl (aU HT_.out (by kernel_rfl)) (fun _ _ _ h => h) (Or.inl ⟨by rfl, ?_⟩) ?_ ?_
   rotate_left
   ·
    intro w'
    go_simp
    with_reducible rfl
   rotate_left
   ·
    simp only [Act.put, cO, cZ, d9, aG, aH]
    rfl
   refine bR (i := 34) (N := some 43) (dG 38 34359738367) rfl rfl (bB HT_.out (by kernel_rfl)) (by decide) (fun K hK => ?_)
   refine bQ Try.func74 (by kernel_rfl) rfl #[.bool true, .int .i64 22] (by rfl) rfl rfl (by (try simp only [dh, dn, dw]); first | done | rfl | (simp only [dx, dz]; rfl) | (simp only [gt_iff_lt, dA]; rfl) | (simp [Act.eval]; done) | (simp [Act.eval, *]; done)) ?_
   with_reducible refine (code_unless.calls true 22 t317 _ A23.out).mono ?_
   rintro e w' ⟨rfl, ⟨nd, rfl⟩⟩
   refine ⟨_, rfl, ?_⟩
   refine hK.out _ _ ⟨(ay BK303.out 0).trans rfl, (ay BK303.out 1).trans rfl, (ay BK303.out 2).trans rfl⟩ (fun hHeld => ?_)
   clear hK K
   refine bG (a' := ?_) ?_ ?_
   rotate_left
   ·
    show Act.put _ (some 43) _ = _
    simp only [Act.put, cO, cZ, d9, aG, aH]
    rfl
   refine bR (i := 35) (N := some 44) (dG 38 68719476735) rfl rfl (bB HT_.out (by kernel_rfl)) (by decide) (fun K hK => ?_)
   refine Kd.R_lit_step (Kd.int .i64) _ 29 ?hg (N := 44) ?hd (xs := ([t306, t307, t308, t310, t317] : List Int)) (inner := [.int .i64 t306, .int .i64 t307, .int .i64 t308, .int .i64 t310, .int .i64 t317]) (ok := fun _ => True) (okp := fun _ => True) ?hr ?hp (fun _ hk => hk) trivial (Below.refl _ _) (Nat.le_refl _) (by simp) ?_; (case hd => rfl); (case hg => rfl); (case hr => first | (go_simp; done) | (go_simp; rfl)); (case hp => exact (Reps.one (show Kd.M (Kd.int .i64) _ _ _ t306 [.int .i64 t306] from rfl) (Reps.one (show Kd.M (Kd.int .i64) _ _ _ t307 [.int .i64 t307] from rfl) (Reps.one (show Kd.M (Kd.int .i64) _ _ _ t308 [.int .i64 t308] from rfl) (Reps.one (show Kd.M (Kd.int .i64) _ _ _ t310 [.int .i64 t310] from rfl) (Reps.one (show Kd.M (Kd.int .i64) _ _ _ t317 [.int .i64 t317] from rfl) (Reps.none _ _)))))))
   intro v319 w29 ho30 hb hg_ hnew_
   clear hg_ hnew_
   (first | rw [← Ny318.out] at ho30 | (simp only [Int.reduceToNat] at ho30; rw [← Ny318.out] at ho30))
   have n0_ := dH (Kd.bP ho30 (aK (by repeat (first | (with_reducible first | exact HB.out | apply ak | apply ah | apply aj | refine aA ?_ GE303.out) | exact HB.out))))
   have n1_ := dH (aQ (g := gb303) (o := .cells #[.int .i64 a0_0, .int .i64 a0_1, .slice A0_2 l0_2.length c0_2] 42 (0, 0)) (by (with_reducible repeat (first | refine av ?_ _ | refine aC ?_ | refine au ?_ _)); exact BK303.out) hb)
   have n2_ := dH (aM (by repeat (first | (with_reducible first | exact HB.out | apply ak | apply ah | apply aj | refine aA ?_ GE303.out) | exact HB.out)) hb)
   clear BK303
   clear HB
   have HO320 := n0_
   have BK303 := n1_
   have HB := n2_
   clear n0_ n1_ n2_
   clear hb ho30
   obtain ⟨Ao31, co31, eo31⟩ := Kd.bN HO320.out
   (first | subst eo31 | (injection eo31 with f1_ f2_ f3_; have f4_ := f1_.symm; have f5_ := f3_.symm; clear f1_ f2_ f3_; subst f4_; subst f5_))
   refine hK.out _ _ ⟨(ay BK303.out 0).trans rfl, (ay BK303.out 1).trans rfl, (ay BK303.out 2).trans rfl⟩ (fun hHeld => ?_)
   clear hK K
   refine bG (a' := ?_) ?_ ?_
   rotate_left
   ·
    show Act.put _ (some 44) _ = _
    simp only [Act.put, cO, cZ, d9, aG, aH]
    rfl
   refine bR (i := 36) (N := some 45) (dG 38 137438953471) rfl rfl (bB HT_.out (by kernel_rfl)) (by decide) (fun K hK => ?_)
   refine bQ Try.func72 (by kernel_rfl) rfl #[.slice Ao31 y318.length co31] (by rfl) rfl rfl (by (try simp only [dh, dn, dw]); first | done | rfl | (simp only [dx, dz]; rfl) | (simp only [gt_iff_lt, dA]; rfl) | (simp [Act.eval]; done) | (simp [Act.eval, *]; done)) ?_
   with_reducible refine (code_first.calls k _ _ y318 t321 _ ?side1 ?side2 A24.out).mono ?_
   (case side1 => repeat (first | exact (Kd.aZ HO320.out).2.2 | (with_reducible refine Kd.bA ?_ _) | (with_reducible refine Kd.bC ?_ _) | (with_reducible refine Kd.bJ ?_)))
   (case side2 => exact (Kd.aZ HO320.out).2.1)
   rintro e w' ⟨rfl, ⟨nd, rfl⟩⟩
   refine ⟨_, rfl, ?_⟩
   refine hK.out _ _ ⟨(ay BK303.out 0).trans rfl, (ay BK303.out 1).trans rfl, (ay BK303.out 2).trans rfl⟩ (fun hHeld => ?_)
   clear hK K
   refine bG (a' := ?_) ?_ ?_
   rotate_left
   ·
    show Act.put _ (some 45) _ = _
    simp only [Act.put, cO, cZ, d9, aG, aH]
    rfl
   refine aV (i := 37) (N := some 4) (v := ?_) (a' := ?_) (dG 38 274877906943) rfl rfl (aU HT_.out (by kernel_rfl)) (fun _ _ _ h => h) (Or.inl ⟨by rfl, ?_⟩) ?_ ?_
   rotate_left
   ·
    intro w'
    go_simp
    with_reducible rfl
   rotate_left
   ·
    simp only [Act.put, cO, cZ, d9, aG, aH]
    rfl
   refine done_ (cK HT_.out (by kernel_rfl)) ?_
   try go_wp2
   go_ret
   exact ⟨by first | rfl | (simp [aX, aY] <;> rfl) | (simp [*, aX, aY] <;> rfl), by repeat (first | (with_reducible first | exact HB.out | apply ak | apply ah | apply aj | refine aA ?_ GE303.out) | exact HB.out)⟩
 ·
  replace c4 := Bool.eq_false_iff.mpr c4
  subst c4
  have H1 : ((code_unless.f false 2).bind fun t322 => ((code_unless.f ((a0_0 == (-1)) == (a0_1 == 0)) 22).bind fun t323 => ((code_unless.f ((l0_2.length : Int) == a1) 10).bind fun t324 => ((slices_ContainsFunc_int_int_at_code_processErr_1.f l0_2 ()).bind fun t325 => ((code_unless.f (!t325) 2).bind fun t326 => (if a0_1 = 0 then ((slices_ContainsFunc_int_int_at_code_processErr_2.f l0_2 ()).bind fun t327 => ((code_unless.f (!t327) 22).bind fun t328 => ((code_first.f k (([t322, t323, t324, t326, t328] : List Int))).bind fun t332 => (some t332)))) else ((code_unless.f true 22).bind fun t333 => ((code_first.f k (([t322, t323, t324, t326, t333] : List Int))).bind fun t337 => (some t337))))))))) = some r := by rw [if_neg (show ¬ (false = true) by decide)] at H; exact H
  clear H
  have H := H1
  clear H1
  replace H := dF.mp H
  obtain ⟨t322, A320, H⟩ := H
  replace H : ((code_unless.f ((a0_0 == (-1)) == (a0_1 == 0)) 22).bind fun t323 => ((code_unless.f ((l0_2.length : Int) == a1) 10).bind fun t324 => ((slices_ContainsFunc_int_int_at_code_processErr_1.f l0_2 ()).bind fun t325 => ((code_unless.f (!t325) 2).bind fun t326 => (if a0_1 = 0 then ((slices_ContainsFunc_int_int_at_code_processErr_2.f l0_2 ()).bind fun t327 => ((code_unless.f (!t327) 22).bind fun t328 => ((code_first.f k (([t322, t323, t324, t326, t328] : List Int))).bind fun t332 => (some t332)))) else ((code_unless.f true 22).bind fun t333 => ((code_first.f k (([t322, t323, t324, t326, t333] : List Int))).bind fun t337 => (some t337)))))))) = some r := H
  have A32 := dH A320
  clear A320
  replace H := dF.mp H
  obtain ⟨t323, A330, H⟩ := H
  replace H : ((code_unless.f ((l0_2.length : Int) == a1) 10).bind fun t324 => ((slices_ContainsFunc_int_int_at_code_processErr_1.f l0_2 ()).bind fun t325 => ((code_unless.f (!t325) 2).bind fun t326 => (if a0_1 = 0 then ((slices_ContainsFunc_int_int_at_code_processErr_2.f l0_2 ()).bind fun t327 => ((code_unless.f (!t327) 22).bind fun t328 => ((code_first.f k (([t322, t323, t324, t326, t328] : List Int))).bind fun t332 => (some t332)))) else ((code_unless.f true 22).bind fun t333 => ((code_first.f k (([t322, t323, t324, t326, t333] : List Int))).bind fun t337 => (some t337))))))) = some r := H
  have A33 := dH A330
  clear A330
  replace H := dF.mp H
  obtain ⟨t324, A340, H⟩ := H
  replace H : ((slices_ContainsFunc_int_int_at_code_processErr_1.f l0_2 ()).bind fun t325 => ((code_unless.f (!t325) 2).bind fun t326 => (if a0_1 = 0 then ((slices_ContainsFunc_int_int_at_code_processErr_2.f l0_2 ()).bind fun t327 => ((code_unless.f (!t327) 22).bind fun t328 => ((code_first.f k (([t322, t323, t324, t326, t328] : List Int))).bind fun t332 => (some t332)))) else ((code_unless.f true 22).bind fun t333 => ((code_first.f k (([t322, t323, t324, t326, t333] : List Int))).bind fun t337 => (some t337)))))) = some r := H
  have A34 := dH A340
  clear A340
  replace H := dF.mp H
  obtain ⟨t325, A350, H⟩ := H
  replace H : ((code_unless.f (!t325) 2).bind fun t326 => (if a0_1 = 0 then ((slices_ContainsFunc_int_int_at_code_processErr_2.f l0_2 ()).bind fun t327 => ((code_unless.f (!t327) 22).bind fun t328 => ((code_first.f k (([t322, t323, t324, t326, t328] : List Int))).bind fun t332 => (some t332)))) else ((code_unless.f true 22).bind fun t333 => ((code_first.f k (([t322, t323, t324, t326, t333] : List Int))).bind fun t337 => (some t337))))) = some r := H
  have A35 := dH A350
  clear A350
  replace H := dF.mp H
  obtain ⟨t326, A360, H⟩ := H
  replace H : (if a0_1 = 0 then ((slices_ContainsFunc_int_int_at_code_processErr_2.f l0_2 ()).bind fun t327 => ((code_unless.f (!t327) 22).bind fun t328 => ((code_first.f k (([t322, t323, t324, t326, t328] : List Int))).bind fun t332 => (some t332)))) else ((code_unless.f true 22).bind fun t333 => ((code_first.f k (([t322, t323, t324, t326, t333] : List Int))).bind fun t337 => (some t337)))) = some r := H
  have A36 := dH A360
  clear A360
  by_cases c37 : a0_1 = 0
  ·
   rw [if_pos c37] at H
   have c37b0 : (a0_1 == 0) = true := beq_iff_eq.mpr c37
   have c37b1 : (a0_1 != 0) = false := bne_eq_false_iff_eq.mpr c37
   clear c37
   replace H := dF.mp H
   obtain ⟨t327, A380, H⟩ := H
   replace H : ((code_unless.f (!t327) 22).bind fun t328 => ((code_first.f k (([t322, t323, t324, t326, t328] : List Int))).bind fun t332 => (some t332))) = some r := H
   have A38 := dH A380
   clear A380
   replace H := dF.mp H
   obtain ⟨t328, A390, H⟩ := H
   replace H : ((code_first.f k (([t322, t323, t324, t326, t328] : List Int))).bind fun t332 => (some t332)) = some r := H
   have A39 := dH A390
   clear A390
   obtain ⟨y329, hy329⟩ : ∃ y_ : List Int, y_ = (([t322, t323, t324, t326, t328] : List Int)) := ⟨_, rfl⟩
   replace H : ((code_first.f k y329).bind fun t332 => (some t332)) = some r := by first | (rw [hy329]; with_reducible exact H) | (have H2_ := (Option.bind_some _ _).symm.trans H; rw [hy329]; with_reducible exact H2_) | (have H2_ := (Option.bind_some _ _).symm.trans H; with_reducible exact H2_) | with_reducible exact H | (rw [hy329]; exact H) | exact H
   have Ny329 := dH hy329
   clear hy329
   replace H := dF.mp H
   obtain ⟨t332, A400, H⟩ := H
   replace H : (some t332) = some r := H
   have A40 := dH A400
   clear A400
   obtain rfl := Option.some.inj H
   go_enter Try.func142, Try.ntmps142
   try go_wp2_with (first | ((with_reducible refine bg (N := 2) rfl ?_); refine bI ?hg (N := 2) ?hd (cs := #[.int .i64 a0_0, .int .i64 a0_1, .slice A0_2 l0_2.length c0_2]) (t := 42) ?hr ?_; (case hd => rfl); (case hg => rfl); (case hr => first | (go_simp; done) | (go_simp; rfl)); intro gb303 hg w41 hbox hb; have n0_ := dH (aM (by repeat (first | (with_reducible first | exact HB.out | apply ak | apply ah | apply aj) | exact HB.out)) hb); have n1_ := dH (hbox); have n2_ := dH ((by rw [hg]; exact (aK (by repeat (first | (with_reducible first | exact HB.out | apply ak | apply ah | apply aj) | exact HB.out))) : w.heap.size ≤ gb303)); have n3_ := dH ((by rw [hg]; exact (aK (by repeat (first | (with_reducible first | exact HB.out | apply ak | apply ah | apply aj) | exact HB.out))) : w.heap.size ≤ gb303)); clear HB; have HB := n0_; have BK303 := n1_; have GW303 := n2_; have GE303 := n3_; clear n0_ n1_ n2_ n3_; clear hb hbox hg; have hcz42_0 : w41.cell? ⟨gb303, 0, none⟩ = some (.int .i64 a0_0) := (ay BK303.out 0).trans rfl; have hcz42_1 : w41.cell? ⟨gb303, 1, none⟩ = some (.int .i64 a0_1) := (ay BK303.out 1).trans rfl; have hcz42_2 : w41.cell? ⟨gb303, 2, none⟩ = some (.slice A0_2 l0_2.length c0_2) := (ay BK303.out 2).trans rfl; have hfz42_0 := aD BK303.out 0; have hfz42_1 := aD BK303.out 1; have hfz42_2 := aD BK303.out 2))
   have n0_ := dH (aC BK303.out)
   have n1_ := dH (aj HB.out)
   clear BK303
   clear HB
   have BK303 := n0_
   have HB := n1_
   clear n0_ n1_
   refine b_ (n := 38) (S := fun w' => w'.cell? ⟨gb303, 0, none⟩ = some (.int .i64 a0_0) ∧ w'.cell? ⟨gb303, 1, none⟩ = some (.int .i64 a0_1) ∧ w'.cell? ⟨gb303, 2, none⟩ = some (.slice A0_2 l0_2.length c0_2)) (ds := []) (dG 38 0) (by kernel_rfl) rfl rfl ⟨(ay BK303.out 0).trans rfl, (ay BK303.out 1).trans rfl, (ay BK303.out 2).trans rfl⟩ (fun hHeld => ?_); refine bZ code_processErr.tab2 code_processErr.bits2 (fun HT_ HW_ => ?_)
   generalize w41.drew = w43 at BK303 HB hHeld ⊢
   refine aV (i := 0) (N := some 9) (v := ?_) (a' := ?_) (dG 38 1) rfl rfl (aU HT_.out (by kernel_rfl)) (fun _ _ _ h => h) (Or.inl ⟨by rfl, ?_⟩) ?_ ?_
   rotate_left
   ·
    intro w'
    go_simp
    with_reducible rfl
   rotate_left
   ·
    simp only [Act.put, cO, cZ, d9, aG, aH]
    rfl
   refine aV (i := 9) (N := some 18) (v := ?_) (a' := ?_) (dG 38 513) rfl rfl (aU HT_.out (by kernel_rfl)) (fun _ _ _ h => h) (Or.inl ⟨by rfl, ?_⟩) ?_ ?_
   rotate_left
   ·
    intro w'
    go_simp
    with_reducible rfl
   rotate_left
   ·
    simp only [Act.put, cO, cZ, d9, aG, aH]
    rfl
   refine aV (i := 12) (N := some 21) (v := ?_) (a' := ?_) (dG 38 4609) rfl rfl (aU HT_.out (by kernel_rfl)) (fun _ _ _ h => h) (Or.inl ⟨by rfl, ?_⟩) ?_ ?_
   rotate_left
   ·
    intro w'
    go_simp
    with_reducible rfl
   rotate_left
   ·
    simp only [Act.put, cO, cZ, d9, aG, aH]
    rfl
   refine aV (i := 15) (N := some 24) (v := ?_) (a' := ?_) (dG 38 37377) rfl rfl (aU HT_.out (by kernel_rfl)) (fun _ _ _ h => h) (Or.inl ⟨by rfl, ?_⟩) ?_ ?_
   rotate_left
   ·
    intro w'
    go_simp
    with_reducible rfl
   rotate_left
   ·
    simp only [Act.put, cO, cZ, d9, aG, aH]
    rfl
   refine aV (i := 18) (N := some 27) (v := ?_) (a' := ?_) (dG 38 299521) rfl rfl (aU HT_.out (by kernel_rfl)) (fun _ _ _ h => h) (Or.inl ⟨by rfl, ?_⟩) ?_ ?_
   rotate_left
   ·
    intro w'
    go_simp
    with_reducible rfl
   rotate_left
   ·
    simp only [Act.put, cO, cZ, d9, aG, aH]
    rfl
   refine aV (i := 21) (N := some 30) (v := ?_) (a' := ?_) (dG 38 2396673) rfl rfl (aU HT_.out (by kernel_rfl)) (fun _ _ _ h => h) (Or.inl ⟨by rfl, ?_⟩) ?_ ?_
   rotate_left
   ·
    intro w'
    go_simp
    with_reducible rfl
   rotate_left
   ·
    simp only [Act.put, cO, cZ, d9, aG, aH]
    rfl
   refine aV (i := 26) (N := some 35) (v := ?_) (a' := ?_) (dG 38 69505537) rfl rfl (aU HT_.out (by kernel_rfl)) (fun _ _ _ h => h) (Or.inl ⟨by rfl, ?_⟩) ?_ ?_
   rotate_left
   ·
    intro w'
    go_simp
    with_reducible rfl
   rotate_left
   ·
    simp only [Act.put, cO, cZ, d9, aG, aH]
    rfl
   refine aV (i := 27) (N := some 36) (v := ?_) (a' := ?_) (dG 38 203723265) rfl rfl (aU HT_.out (by kernel_rfl)) (fun _ _ _ h => h) (Or.inl ⟨by rfl, ?_⟩) ?_ ?_
   rotate_left
   ·
    intro w'
    go_simp
    with_reducible rfl
   rotate_left
   ·
    simp only [Act.put, cO, cZ, d9, aG, aH]
    rfl
   refine bK (i := 1) (N := some 10) (v := ?_) (a' := ?_) (dG 38 203723267) rfl rfl (bD HT_.out HW_.out (by kernel_rfl)) (fun _ _ _ h => h) (Or.inl ⟨by rfl, ?_⟩) hHeld ?_ ?_
   rotate_left
   ·
    rintro w' ⟨s0, s1, s2⟩
    go_simp
    with_reducible rfl
   rotate_left
   ·
    simp only [Act.put, cO, cZ, d9, aG, aH]
    rfl
   refine bK (i := 10) (N := some 19) (v := ?_) (a' := ?_) (dG 38 203724291) rfl rfl (bD HT_.out HW_.out (by kernel_rfl)) (fun _ _ _ h => h) (Or.inl ⟨by rfl, ?_⟩) hHeld ?_ ?_
   rotate_left
   ·
    rintro w' ⟨s0, s1, s2⟩
    go_simp
    with_reducible rfl
   rotate_left
   ·
    simp only [Act.put, cO, cZ, d9, aG, aH]
    rfl
   refine aV (i := 11) (N := some 20) (v := ?_) (a' := ?_) (dG 38 203726339) rfl rfl (aU HT_.out (by kernel_rfl)) (fun _ _ _ h => h) (Or.inl ⟨by rfl, ?_⟩) ?_ ?_
   rotate_left
   ·
    intro w'
    go_simp
    with_reducible rfl
   rotate_left
   ·
    simp only [Act.put, cO, cZ, d9, aG, aH]
    rfl
   refine aV (i := 13) (N := some 22) (v := ?_) (a' := ?_) (dG 38 203734531) rfl rfl (aU HT_.out (by kernel_rfl)) (fun _ _ _ h => h) (Or.inl ⟨by rfl, ?_⟩) ?_ ?_
   rotate_left
   ·
    intro w'
    go_simp
    with_reducible rfl
   rotate_left
   ·
    simp only [Act.put, cO, cZ, d9, aG, aH]
    rfl
   refine bK (i := 16) (N := some 25) (v := ?_) (a' := ?_) (dG 38 203800067) rfl rfl (bD HT_.out HW_.out (by kernel_rfl)) (fun _ _ _ h => h) (Or.inl ⟨by rfl, ?_⟩) hHeld ?_ ?_
   rotate_left
   ·
    rintro w' ⟨s0, s1, s2⟩
    go_simp
    with_reducible rfl
   rotate_left
   ·
    simp only [Act.put, cO, cZ, d9, aG, aH]
    rfl
   refine aV (i := 17) (N := some 26) (v := ?_) (a' := ?_) (dG 38 203931139) rfl rfl (aU HT_.out (by kernel_rfl)) (fun _ _ _ h => h) (Or.inl ⟨by rfl, ?_⟩) ?_ ?_
   rotate_left
   ·
    intro w'
    go_simp
    with_reducible rfl
   rotate_left
   ·
    simp only [Act.put, cO, cZ, d9, aG, aH]
    rfl
   refine aV (i := 19) (N := some 28) (v := ?_) (a' := ?_) (dG 38 204455427) rfl rfl (aU HT_.out (by kernel_rfl)) (fun _ _ _ h => h) (Or.inl ⟨by rfl, ?_⟩) ?_ ?_
   rotate_left
   ·
    intro w'
    go_simp
    with_reducible rfl
   rotate_left
   ·
    simp only [Act.put, cO, cZ, d9, aG, aH]
    rfl
   refine bK (i := 22) (N := some 31) (v := ?_) (a' := ?_) (dG 38 208649731) rfl rfl (bD HT_.out HW_.out (by kernel_rfl)) (fun _ _ _ h => h) (Or.inl ⟨by rfl, ?_⟩) hHeld ?_ ?_
   rotate_left
   ·
    rintro w' ⟨s0, s1, s2⟩
    go_simp
    with_reducible rfl
   rotate_left
   ·
    simp only [Act.put, cO, cZ, d9, aG, aH]
    rfl
   refine bR (i := 2) (N := some 11) (dG 38 208649735) rfl rfl (bB HT_.out (by kernel_rfl)) (by decide) (fun K hK => ?_)
   refine bQ Try.func69 (by kernel_rfl) rfl #[.int .i64 a0_0, .int .i64 (-1), .int .i64 1] (by rfl) rfl rfl (by (try simp only [dh, dn, dw]); first | done | rfl | (simp only [dx, dz]; rfl) | (simp only [gt_iff_lt, dA]; rfl) | (simp [Act.eval]; done) | (simp [Act.eval, *]; done)) ?_
   with_reducible refine (code_within.calls a0_0 (-1) 1 false _ A3.out).mono ?_
   rintro e w' ⟨rfl, ⟨nd, rfl⟩⟩
   refine ⟨_, rfl, ?_⟩
   refine hK.out _ _ ⟨(ay BK303.out 0).trans rfl, (ay BK303.out 1).trans rfl, (ay BK303.out 2).trans rfl⟩ (fun hHeld => ?_)
   clear hK K
   refine bG (a' := ?_) ?_ ?_
   rotate_left
   ·
    show Act.put _ (some 11) _ = _
    simp only [Act.put, cO, cZ, d9, aG, aH]
    rfl
   refine aV (i := 3) (N := some 12) (v := ?_) (a' := ?_) (dG 38 208649743) rfl rfl (aU HT_.out (by kernel_rfl)) (fun _ _ _ h => h) (Or.inl ⟨by rfl, ?_⟩) ?_ ?_
   rotate_left
   ·
    intro w'
    go_simp
    with_reducible rfl
   rotate_left
   ·
    simp only [Act.put, cO, cZ, d9, aG, aH]
    rfl
   refine aV (i := 4) (N := some 13) (v := undef) (a' := ?_) (dG 38 208649759) rfl rfl (aU HT_.out (by kernel_rfl)) (fun _ _ _ h => h) (Or.inr ⟨by rfl, rfl⟩) ?_ ?_
   rotate_left
   ·
    simp only [Act.put, cO, cZ, d9, aG, aH]
    rfl
   refine aV (i := 5) (N := some 14) (v := undef) (a' := ?_) (dG 38 208649791) rfl rfl (aU HT_.out (by kernel_rfl)) (fun _ _ _ h => h) (Or.inr ⟨by rfl, rfl⟩) ?_ ?_
   rotate_left
   ·
    simp only [Act.put, cO, cZ, d9, aG, aH]
    rfl
   refine aV (i := 6) (N := some 15) (v := undef) (a' := ?_) (dG 38 208649855) rfl rfl (aU HT_.out (by kernel_rfl)) (fun _ _ _ h => h) (Or.inr ⟨by rfl, rfl⟩) ?_ ?_
   rotate_left
   ·
    simp only [Act.put, cO, cZ, d9, aG, aH]
    rfl
   refine aV (i := 7) (N := some 16) (v := ?_) (a' := ?_) (dG 38 208649983) rfl rfl (aU HT_.out (by kernel_rfl)) (fun _ _ _ h => h) (Or.inl ⟨by rfl, ?_⟩) ?_ ?_
   rotate_left
   ·
    intro w'
    go_simp
    with_reducible rfl
   rotate_left
   ·
    simp only [Act.put, cO, cZ, d9, aG, aH]
    rfl
   refine bR (i := 8) (N := some 17) (dG 38 208650239) rfl rfl (bB HT_.out (by kernel_rfl)) (by decide) (fun K hK => ?_)
   refine bQ Try.func74 (by kernel_rfl) rfl #[.bool false, .int .i64 2] (by rfl) rfl rfl (by (try simp only [dh, dn, dw]); first | done | rfl | (simp only [dx, dz]; rfl) | (simp only [gt_iff_lt, dA]; rfl) | (simp [Act.eval]; done) | (simp [Act.eval, *]; done)) ?_
   with_reducible refine (code_unless.calls false 2 t322 _ A32.out).mono ?_
   rintro e w' ⟨rfl, ⟨nd, rfl⟩⟩
   refine ⟨_, rfl, ?_⟩
   refine hK.out _ _ ⟨(ay BK303.out 0).trans rfl, (ay BK303.out 1).trans rfl, (ay BK303.out 2).trans rfl⟩ (fun hHeld => ?_)
   clear hK K
   refine bG (a' := ?_) ?_ ?_
   rotate_left
   ·
    show Act.put _ (some 17) _ = _
    simp only [Act.put, cO, cZ, d9, aG, aH]
    rfl
   refine bR (i := 14) (N := some 23) (dG 38 208666623) rfl rfl (bB HT_.out (by kernel_rfl)) (by decide) (fun K hK => ?_)
   refine bQ Try.func74 (by kernel_rfl) rfl #[.bool ((a0_0 == (-1)) == (a0_1 == 0)), .int .i64 22] (by rfl) rfl rfl (by (try simp only [dh, dn, dw]); first | done | rfl | (simp only [dx, dz]; rfl) | (simp only [gt_iff_lt, dA]; rfl) | (simp [Act.eval]; done) | (simp [Act.eval, *]; done)) ?_
   with_reducible refine (code_unless.calls ((a0_0 == (-1)) == (a0_1 == 0)) 22 t323 _ A33.out).mono ?_
   rintro e w' ⟨rfl, ⟨nd, rfl⟩⟩
   refine ⟨_, rfl, ?_⟩
   refine hK.out _ _ ⟨(ay BK303.out 0).trans rfl, (ay BK303.out 1).trans rfl, (ay BK303.out 2).trans rfl⟩ (fun hHeld => ?_)
   clear hK K
   refine bG (a' := ?_) ?_ ?_
   rotate_left
   ·
    show Act.put _ (some 23) _ = _
    simp only [Act.put, cO, cZ, d9, aG, aH]
    rfl
   refine bR (i := 20) (N := some 29) (dG 38 209715199) rfl rfl (bB HT_.out (by kernel_rfl)) (by decide) (fun K hK => ?_)
   refine bQ Try.func74 (by kernel_rfl) rfl #[.bool ((l0_2.length : Int) == a1), .int .i64 10] (by rfl) rfl rfl (by (try simp only [dh, dn, dw]); first | done | rfl | (simp only [dx, dz]; rfl) | (simp only [gt_iff_lt, dA]; rfl) | (simp [Act.eval]; done) | (simp [Act.eval, *]; done)) ?_
   with_reducible refine (code_unless.calls ((l0_2.length : Int) == a1) 10 t324 _ A34.out).mono ?_
   rintro e w' ⟨rfl, ⟨nd, rfl⟩⟩
   refine ⟨_, rfl, ?_⟩
   refine hK.out _ _ ⟨(ay BK303.out 0).trans rfl, (ay BK303.out 1).trans rfl, (ay BK303.out 2).trans rfl⟩ (fun hHeld => ?_)
   clear hK K
   refine bG (a' := ?_) ?_ ?_
   rotate_left
   ·
    show Act.put _ (some 29) _ = _
    simp only [Act.put, cO, cZ, d9, aG, aH]
    rfl
   refine bR (i := 23) (N := some 32) (dG 38 218103807) rfl rfl (bB HT_.out (by kernel_rfl)) (by decide) (fun K hK => ?_)
   refine bQ Try.func117 (by kernel_rfl) rfl #[.slice A0_2 l0_2.length c0_2, .func (.func 213) #[] #[]] (by rfl) rfl rfl (by (try simp only [dh, dn, dw]); first | done | rfl | (simp only [dx, dz]; rfl) | (simp only [gt_iff_lt, dA]; rfl) | (simp [Act.eval]; done) | (simp [Act.eval, *]; done)) ?_
   with_reducible refine (slices_ContainsFunc_int_int_at_code_processErr_1.calls _ _ l0_2 () t325 _ ?side1 ?side2 A35.out).mono ?_
   (case side1 => repeat (first | exact (Kd.bF HR0_2.out (by repeat (first | (with_reducible first | exact HB.out | apply ak | apply ah | apply aj | refine aA ?_ GE303.out) | exact HB.out))) | (with_reducible refine Kd.bA ?_ _) | (with_reducible refine Kd.bC ?_ _) | (with_reducible refine Kd.bJ ?_)))
   (case side2 => exact HC0_2.out)
   rintro e w44 ⟨rfl, hb⟩
   refine ⟨_, rfl, ?_⟩
   have n0_ := dH (aQ (g := gb303) (o := .cells #[.int .i64 a0_0, .int .i64 a0_1, .slice A0_2 l0_2.length c0_2] 42 (0, 0)) (by (with_reducible repeat (first | refine av ?_ _ | refine aC ?_ | refine au ?_ _)); exact BK303.out) hb)
   have n1_ := dH (aM (by repeat (first | (with_reducible first | exact HB.out | apply ak | apply ah | apply aj | refine aA ?_ GE303.out) | exact HB.out)) hb)
   clear BK303
   clear HB
   have BK303 := n0_
   have HB := n1_
   clear n0_ n1_
   (try clear hb)
   (try clear hb2)
   (try clear hk)
   (try clear hi)
   refine hK.out _ _ ⟨(ay BK303.out 0).trans rfl, (ay BK303.out 1).trans rfl, (ay BK303.out 2).trans rfl⟩ (fun hHeld => ?_)
   clear hK K
   refine bG (a' := ?_) ?_ ?_
   rotate_left
   ·
    show Act.put _ (some 32) _ = _
    simp only [Act.put, cO, cZ, d9, aG, aH]
    rfl
   refine aV (i := 24) (N := some 33) (v := ?_) (a' := ?_) (dG 38 234881023) rfl rfl (aU HT_.out (by kernel_rfl)) (fun _ _ _ h => h) (Or.inl ⟨by rfl, ?_⟩) ?_ ?_
   rotate_left
   ·
    intro w'
    go_simp
    with_reducible rfl
   rotate_left
   ·
    simp only [Act.put, cO, cZ, d9, aG, aH]
    rfl
   refine bR (i := 25) (N := some 34) (dG 38 268435455) rfl rfl (bB HT_.out (by kernel_rfl)) (by decide) (fun K hK => ?_)
   refine bQ Try.func74 (by kernel_rfl) rfl #[.bool (!t325), .int .i64 2] (by rfl) rfl rfl (by (try simp only [dh, dn, dw]); first | done | rfl | (simp only [dx, dz]; rfl) | (simp only [gt_iff_lt, dA]; rfl) | (simp [Act.eval]; done) | (simp [Act.eval, *]; done)) ?_
   with_reducible refine (code_unless.calls (!t325) 2 t326 _ A36.out).mono ?_
   rintro e w' ⟨rfl, ⟨nd, rfl⟩⟩
   refine ⟨_, rfl, ?_⟩
   refine hK.out _ _ ⟨(ay BK303.out 0).trans rfl, (ay BK303.out 1).trans rfl, (ay BK303.out 2).trans rfl⟩ (fun hHeld => ?_)
   clear hK K
   refine bG (a' := ?_) ?_ ?_
   rotate_left
   ·
    show Act.put _ (some 34) _ = _
    simp only [Act.put, cO, cZ, d9, aG, aH]
    rfl
   refine aV (i := 28) (N := some 37) (v := ?_) (a' := ?_) (dG 38 536870911) rfl rfl (aU HT_.out (by kernel_rfl)) (fun _ _ _ h => h) (Or.inl ⟨by rfl, ?_⟩) ?_ ?_
   rotate_left
   ·
    intro w'
    go_simp
    with_reducible rfl
   rotate_left
   ·
    simp only [Act.put, cO, cZ, d9, aG, aH]
    rfl
   refine aV (i := 29) (N := some 38) (v := ?_) (a' := ?_) (dG 38 1073741823) rfl rfl (aU HT_.out (by kernel_rfl)) (fun _ _ _ h => h) (Or.inl ⟨by rfl, ?_⟩) ?_ ?_
   rotate_left
   ·
    intro w'
    go_simp
    with_reducible rfl
   rotate_left
   ·
    simp only [Act.put, cO, cZ, d9, aG, aH]
    rfl
   refine bK (i := 30) (N := some 39) (v := ?_) (a' := ?_) (dG 38 2147483647) rfl rfl (bD HT_.out HW_.out (by kernel_rfl)) (fun _ _ _ h => h) (Or.inl ⟨by rfl, ?_⟩) hHeld ?_ ?_
   rotate_left
   ·
    rintro w' ⟨s0, s1, s2⟩
    go_simp
    with_reducible rfl
   rotate_left
   ·
    simp only [Act.put, cO, cZ, d9, aG, aH]
    rfl
   refine bR (i := 31) (N := some 40) (dG 38 4294967295) rfl rfl (bB HT_.out (by kernel_rfl)) (by decide) (fun K hK => ?_)
   refine bQ Try.func117 (by kernel_rfl) rfl #[.slice A0_2 l0_2.length c0_2, .func (.func 214) #[] #[]] (by rfl) rfl rfl (by (try simp only [dh, dn, dw]); first | done | rfl | (simp only [dx, dz]; rfl) | (simp only [gt_iff_lt, dA]; rfl) | (simp [Act.eval]; done) | (simp [Act.eval, *]; done)) ?_
   with_reducible refine (slices_ContainsFunc_int_int_at_code_processErr_2.calls _ _ l0_2 () t327 _ ?side1 ?side2 A38.out).mono ?_
   (case side1 => repeat (first | exact (Kd.bF HR0_2.out (by repeat (first | (with_reducible first | exact HB.out | apply ak | apply ah | apply aj | refine aA ?_ GE303.out) | exact HB.out))) | (with_reducible refine Kd.bA ?_ _) | (with_reducible refine Kd.bC ?_ _) | (with_reducible refine Kd.bJ ?_)))
   (case side2 => exact HC0_2.out)
   rintro e w45 ⟨rfl, hb⟩
   refine ⟨_, rfl, ?_⟩
   have n0_ := dH (aQ (g := gb303) (o := .cells #[.int .i64 a0_0, .int .i64 a0_1, .slice A0_2 l0_2.length c0_2] 42 (0, 0)) (by (with_reducible repeat (first | refine av ?_ _ | refine aC ?_ | refine au ?_ _)); exact BK303.out) hb)
   have n1_ := dH (aM (by repeat (first | (with_reducible first | exact HB.out | apply ak | apply ah | apply aj | refine aA ?_ GE303.out) | exact HB.out)) hb)
   clear BK303
   clear HB
   have BK303 := n0_
   have HB := n1_
   clear n0_ n1_
   (try clear hb)
   (try clear hb2)
   (try clear hk)
   (try clear hi)
   refine hK.out _ _ ⟨(ay BK303.out 0).trans rfl, (ay BK303.out 1).trans rfl, (ay BK303.out 2).trans rfl⟩ (fun hHeld => ?_)
   clear hK K
   refine bG (a' := ?_) ?_ ?_
   rotate_left
   ·
    show Act.put _ (some 40) _ = _
    simp only [Act.put, cO, cZ, d9, aG, aH]
    rfl
   refine aV (i := 32) (N := some 41) (v := ?_) (a' := ?_) (dG 38 8589934591) rfl rfl (aU HT_.out (by kernel_rfl)) (fun _ _ _ h => h) (Or.inl ⟨by rfl, ?_⟩) ?_ ?_
   rotate_left
   ·
    intro w'
    go_simp
    with_reducible rfl
   rotate_left
   ·
    simp only [Act.put, cO, cZ, d9, aG, aH]
    rfl
   refine aV (i := 33) (N := some 42) (v := ?_) (a' := ?_) (dG 38 17179869183) rfl rfl (aU HT_.out (by kernel_rfl)) (fun _ _ _ h => h) (Or.inl ⟨by rfl, ?_⟩) ?_ ?_
   rotate_left
   ·
    intro w'
    go_simp
    with_reducible rfl
   rotate_left
   ·
    simp only [Act.put, cO, cZ, d9, aG, aH]
    rfl
   refine bR (i := 34) (N := some 43) (dG 38 34359738367) rfl rfl (bB HT_.out (by kernel_rfl)) (by decide) (fun K hK => ?_)
   refine bQ Try.func74 (by kernel_rfl) rfl #[.bool (!t327), .int .i64 22] (by rfl) rfl rfl (by (try simp only [dh, dn, dw]); first | done | rfl | (simp only [dx, dz]; rfl) | (simp only [gt_iff_lt, dA]; rfl) | (simp [Act.eval]; done) | (simp [Act.eval, *]; done)) ?_
   with_reducible refine (code_unless.calls (!t327) 22 t328 _ A39.out).mono ?_
   rintro e w' ⟨rfl, ⟨nd, rfl⟩⟩
   refine ⟨_, rfl, ?_⟩
   refine hK.out _ _ ⟨(ay BK303.out 0).trans rfl, (ay BK303.out 1).trans rfl, (ay BK303.out 2).trans rfl⟩ (fun hHeld => ?_)
   clear hK K
   refine bG (a' := ?_) ?_ ?_
   rotate_left
   ·
    show Act.put _ (some 43) _ = _
    simp only [Act.put, cO, cZ, d9, aG, aH]
    rfl
   refine bR (i := 35) (N := some 44) (dG 38 68719476735) rfl rfl (bB HT_.out (by kernel_rfl)) (by decide) (fun K hK => ?_)
   refine Kd.R_lit_step (Kd.int .i64) _ 29 ?hg (N := 44) ?hd (xs := ([t322, t323, t324, t326, t328] : List Int)) (inner := [.int .i64 t322, .int .i64 t323, .int .i64 t324, .int .i64 t326, .int .i64 t328]) (ok := fun _ => True) (okp := fun _ => True) ?hr ?hp (fun _ hk => hk) trivial (Below.refl _ _) (Nat.le_refl _) (by simp) ?_; (case hd => rfl); (case hg => rfl); (case hr => first | (go_simp; done) | (go_simp; rfl)); (case hp => exact (Reps.one (show Kd.M (Kd.int .i64) _ _ _ t322 [.int .i64 t322] from rfl) (Reps.one (show Kd.M (Kd.int .i64) _ _ _ t323 [.int .i64 t323] from rfl) (Reps.one (show Kd.M (Kd.int .i64) _ _ _ t324 [.int .i64 t324] from rfl) (Reps.one (show Kd.M (Kd.int .i64) _ _ _ t326 [.int .i64 t326] from rfl) (Reps.one (show Kd.M (Kd.int .i64) _ _ _ t328 [.int .i64 t328] from rfl) (Reps.none _ _)))))))
   intro v330 w46 ho47 hb hg_ hnew_
   clear hg_ hnew_
   (first | rw [← Ny329.out] at ho47 | (simp only [Int.reduceToNat] at ho47; rw [← Ny329.out] at ho47))
   have n0_ := dH (Kd.bP ho47 (aK (by repeat (first | (with_reducible first | exact HB.out | apply ak | apply ah | apply aj | refine aA ?_ GE303.out) | exact HB.out))))
   have n1_ := dH (aQ (g := gb303) (o := .cells #[.int .i64 a0_0, .int .i64 a0_1, .slice A0_2 l0_2.length c0_2] 42 (0, 0)) (by (with_reducible repeat (first | refine av ?_ _ | refine aC ?_ | refine au ?_ _)); exact BK303.out) hb)
   have n2_ := dH (aM (by repeat (first | (with_reducible first | exact HB.out | apply ak | apply ah | apply aj | refine aA ?_ GE303.out) | exact HB.out)) hb)
   clear BK303
   clear HB
   have HO331 := n0_
   have BK303 := n1_
   have HB := n2_
   clear n0_ n1_ n2_
   clear hb ho47
   obtain ⟨Ao48, co48, eo48⟩ := Kd.bN HO331.out
   (first | subst eo48 | (injection eo48 with f1_ f2_ f3_; have f4_ := f1_.symm; have f5_ := f3_.symm; clear f1_ f2_ f3_; subst f4_; subst f5_))
   refine hK.out _ _ ⟨(ay BK303.out 0).trans rfl, (ay BK303.out 1).trans rfl, (ay BK303.out 2).trans rfl⟩ (fun hHeld => ?_)
   clear hK K
   refine bG (a' := ?_) ?_ ?_
   rotate_left
   ·
    show Act.put _ (some 44) _ = _
    simp only [Act.put, cO, cZ, d9, aG, aH]
    rfl
   refine bR (i := 36) (N := some 45) (dG 38 137438953471) rfl rfl (bB HT_.out (by kernel_rfl)) (by decide) (fun K hK => ?_)
   refine bQ Try.func72 (by kernel_rfl) rfl #[.slice Ao48 y329.length co48] (by rfl) rfl rfl (by (try simp only [dh, dn, dw]); first | done | rfl | (simp only [dx, dz]; rfl) | (simp only [gt_iff_lt, dA]; rfl) | (simp [Act.eval]; done) | (simp [Act.eval, *]; done)) ?_
   with_reducible refine (code_first.calls k _ _ y329 t332 _ ?side1 ?side2 A40.out).mono ?_
   (case side1 => repeat (first | exact (Kd.aZ HO331.out).2.2 | (with_reducible refine Kd.bA ?_ _) | (with_reducible refine Kd.bC ?_ _) | (with_reducible refine Kd.bJ ?_)))
   (case side2 => exact (Kd.aZ HO331.out).2.1)
   rintro e w' ⟨rfl, ⟨nd, rfl⟩⟩
   refine ⟨_, rfl, ?_⟩
   refine hK.out _ _ ⟨(ay BK303.out 0).trans rfl, (ay BK303.out 1).trans rfl, (ay BK303.out 2).trans rfl⟩ (fun hHeld => ?_)
   clear hK K
   refine bG (a' := ?_) ?_ ?_
   rotate_left
   ·
    show Act.put _ (some 45) _ = _
    simp only [Act.put, cO, cZ, d9, aG, aH]
    rfl
   refine aV (i := 37) (N := some 4) (v := ?_) (a' := ?_) (dG 38 274877906943) rfl rfl (aU HT_.out (by kernel_rfl)) (fun _ _ _ h => h) (Or.inl ⟨by rfl, ?_⟩) ?_ ?_
   rotate_left
   ·
    intro w'
    go_simp
    with_reducible rfl
   rotate_left
   ·
    simp only [Act.put, cO, cZ, d9, aG, aH]
    rfl
   refine done_ (cK HT_.out (by kernel_rfl)) ?_
   try go_wp2
   go_ret
   exact ⟨by first | rfl | (simp [aX, aY] <;> rfl) | (simp [*, aX, aY] <;> rfl), by repeat (first | (with_reducible first | exact HB.out | apply ak | apply ah | apply aj | refine aA ?_ GE303.out) | exact HB.out)⟩
  ·
   rw [if_neg c37] at H
   have c37b0 : (a0_1 == 0) = false := beq_eq_false_iff_ne.mpr c37
   have c37b1 : (a0_1 != 0) = true := bne_iff_ne.mpr c37
   replace H := dF.mp H
   obtain ⟨t333, A490, H⟩ := H
   replace H : ((code_first.f k (([t322, t323, t324, t326, t333] : List Int))).bind fun t337 => (some t337)) = some r := H
   have A49 := dH A490
   clear A490
   obtain ⟨y334, hy334⟩ : ∃ y_ : List Int, y_ = (([t322, t323, t324, t326, t333] : List Int)) := ⟨_, rfl⟩
   replace H : ((code_first.f k y334).bind fun t337 => (some t337)) = some r := by first | (rw [hy334]; with_reducible exact H) | (have H2_ := (Option.bind_some _ _).symm.trans H; rw [hy334]; with_reducible exact H2_) | (have H2_ := (Option.bind_some _ _).symm.trans H; with_reducible exact H2_) | with_reducible exact H | (rw [hy334]; exact H) | exact H
   have Ny334 := dH hy334
   clear hy334
   replace H := dF.mp H
   obtain ⟨t337, A500, H⟩ := H
   replace H : (some t337) = some r := H
   have A50 := dH A500
   clear A500
   obtain rfl := Option.some.inj H
   go_enter Try.func142, Try.ntmps142
   try go_wp2_with (first | ((with_reducible refine bg (N := 2) rfl ?_); refine bI ?hg (N := 2) ?hd (cs := #[.int .i64 a0_0, .int .i64 a0_1, .slice A0_2 l0_2.length c0_2]) (t := 42) ?hr ?_; (case hd => rfl); (case hg => rfl); (case hr => first | (go_simp; done) | (go_simp; rfl)); intro gb303 hg w51 hbox hb; have n0_ := dH (aM (by repeat (first | (with_reducible first | exact HB.out | apply ak | apply ah | apply aj) | exact HB.out)) hb); have n1_ := dH (hbox); have n2_ := dH ((by rw [hg]; exact (aK (by repeat (first | (with_reducible first | exact HB.out | apply ak | apply ah | apply aj) | exact HB.out))) : w.heap.size ≤ gb303)); have n3_ := dH ((by rw [hg]; exact (aK (by repeat (first | (with_reducible first | exact HB.out | apply ak | apply ah | apply aj) | exact HB.out))) : w.heap.size ≤ gb303)); clear HB; have HB := n0_; have BK303 := n1_; have GW303 := n2_; have GE303 := n3_; clear n0_ n1_ n2_ n3_; clear hb hbox hg; have hcz52_0 : w51.cell? ⟨gb303, 0, none⟩ = some (.int .i64 a0_0) := (ay BK303.out 0).trans rfl; have hcz52_1 : w51.cell? ⟨gb303, 1, none⟩ = some (.int .i64 a0_1) := (ay BK303.out 1).trans rfl; have hcz52_2 : w51.cell? ⟨gb303, 2, none⟩ = some (.slice A0_2 l0_2.length c0_2) := (ay BK303.out 2).trans rfl; have hfz52_0 := aD BK303.out 0; have hfz52_1 := aD BK303.out 1; have hfz52_2 := aD BK303.out 2))
   have n0_ := dH (aC BK303.out)
   have n1_ := dH (aj HB.out)
   clear BK303
   clear HB
   have BK303 := n0_
   have HB := n1_
   clear n0_ n1_
   refine b_ (n := 38) (S := fun w' => w'.cell? ⟨gb303, 0, none⟩ = some (.int .i64 a0_0) ∧ w'.cell? ⟨gb303, 1, none⟩ = some (.int .i64 a0_1) ∧ w'.cell? ⟨gb303, 2, none⟩ = some (.slice A0_2 l0_2.length c0_2)) (ds := []) (dG 38 0) (by kernel_rfl) rfl rfl ⟨(ay BK303.out 0).trans rfl, (ay BK303.out 1).trans rfl, (ay BK303.out 2).trans rfl⟩ (fun hHeld => ?_); refine bZ code_processErr.tab2 code_processErr.bits2 (fun HT_ HW_ => ?_)
   generalize w51.drew = w53 at BK303 HB hHeld ⊢
   refine aV (i := 0) (N := some 9) (v := ?_) (a' := ?_) (dG 38 1) rfl rfl (aU HT_.out (by kernel_rfl)) (fun _ _ _ h => h) (Or.inl ⟨by rfl, ?_⟩) ?_ ?_
   rotate_left
   ·
    intro w'
    go_simp
    with_reducible rfl
   rotate_left
   ·
    simp only [Act.put, cO, cZ, d9, aG, aH]
    rfl
   refine aV (i := 9) (N := some 18) (v := ?_) (a' := ?_) (dG 38 513) rfl rfl (aU HT_.out (by kernel_rfl)) (fun _ _ _ h => h) (Or.inl ⟨by rfl, ?_⟩) ?_ ?_
   rotate_left
   ·
    intro w'
    go_simp
    with_reducible rfl
   rotate_left
   ·
    simp only [Act.put, cO, cZ, d9, aG, aH]
    rfl
   refine aV (i := 12) (N := some 21) (v := ?_) (a' := ?_) (dG 38 4609) rfl rfl (aU HT_.out (by kernel_rfl)) (fun _ _ _ h => h) (Or.inl ⟨by rfl, ?_⟩) ?_ ?_
   rotate_left
   ·
    intro w'
    go_simp
    with_reducible rfl
   rotate_left
   ·
    simp only [Act.put, cO, cZ, d9, aG, aH]
    rfl
   refine aV (i := 15) (N := some 24) (v := ?_) (a' := ?_) (dG 38 37377) rfl rfl (aU HT_.out (by kernel_rfl)) (fun _ _ _ h => h) (Or.inl ⟨by rfl, ?_⟩) ?_ ?_
   rotate_left
   ·
    intro w'
    go_simp
    with_reducible rfl
   rotate_left
   ·
    simp only [Act.put, cO, cZ, d9, aG, aH]
    rfl
   refine aV (i := 18) (N := some 27) (v := ?_) (a' := ?_) (dG 38 299521) rfl rfl (aU HT_.out (by kernel_rfl)) (fun _ _ _ h => h) (Or.inl ⟨by rfl, ?_⟩) ?_ ?_
   rotate_left
   ·
    intro w'
    go_simp
    with_reducible rfl
   rotate_left
   ·
    simp only [Act.put, cO, cZ, d9, aG, aH]
    rfl
   refine aV (i := 21) (N := some 30) (v := ?_) (a' := ?_) (dG 38 2396673) rfl rfl (aU HT_.out (by kernel_rfl)) (fun _ _ _ h => h) (Or.inl ⟨by rfl, ?_⟩) ?_ ?_
   rotate_left
   ·
    intro w'
    go_simp
    with_reducible rfl
   rotate_left
   ·
    simp only [Act.put, cO, cZ, d9, aG, aH]
    rfl
   refine aV (i := 26) (N := some 35) (v := ?_) (a' := ?_) (dG 38 69505537) rfl rfl (aU HT_.out (by kernel_rfl)) (fun _ _ _ h => h) (Or.inl ⟨by rfl, ?_⟩) ?_ ?_
   rotate_left
   ·
    intro w'
    go_simp
    with_reducible rfl
   rotate_left
   ·
    simp only [Act.put, cO, cZ, d9, aG, aH]
    rfl
   refine aV (i := 27) (N := some 36) (v := ?_) (a' := ?_) (dG 38 203723265) rfl rfl (aU HT_.out (by kernel_rfl)) (fun _ _ _ h => h) (Or.inl ⟨by rfl, ?_⟩) ?_ ?_
   rotate_left
   ·
    intro w'
    go_simp
    with_reducible rfl
   rotate_left
   ·
    simp only [Act.put, cO, cZ, d9, aG, aH]
    rfl
   refine bK (i := 1) (N := some 10) (v := ?_) (a' := ?_) (dG 38 203723267) rfl rfl (bD HT_.out HW_.out (by kernel_rfl)) (fun _ _ _ h => h) (Or.inl ⟨by rfl, ?_⟩) hHeld ?_ ?_
   rotate_left
   ·
    rintro w' ⟨s0, s1, s2⟩
    go_simp
    with_reducible rfl
   rotate_left
   ·
    simp only [Act.put, cO, cZ, d9, aG, aH]
    rfl
   refine bK (i := 10) (N := some 19) (v := ?_) (a' := ?_) (dG 38 203724291) rfl rfl (bD HT_.out HW_.out (by kernel_rfl)) (fun _ _ _ h => h) (Or.inl ⟨by rfl, ?_⟩) hHeld ?_ ?_
   rotate_left
   ·
    rintro w' ⟨s0, s1, s2⟩
    go_simp
    with_reducible rfl
   rotate_left
   ·
    simp only [Act.put, cO, cZ, d9, aG, aH]
    rfl
   refine aV (i := 11) (N := some 20) (v := ?_) (a' := ?_) (dG 38 203726339) rfl rfl (aU HT_.out (by kernel_rfl)) (fun _ _ _ h => h) (Or.inl ⟨by rfl, ?_⟩) ?_ ?_
   rotate_left
   ·
    intro w'
    go_simp
    with_reducible rfl
   rotate_left
   ·
    simp only [Act.put, cO, cZ, d9, aG, aH]
    rfl
   refine aV (i := 13) (N := some 22) (v := ?_) (a' := ?_) (dG 38 203734531) rfl rfl (aU HT_.out (by kernel_rfl)) (fun _ _ _ h => h) (Or.inl ⟨by rfl, ?_⟩) ?_ ?_
   rotate_left
   ·
    intro w'
    go_simp
    with_reducible rfl
   rotate_left
   ·
    simp only [Act.put, cO, cZ, d9, aG, aH]
    rfl
   refine bK (i := 16) (N := some 25) (v := ?_) (a' := ?_) (dG 38 203800067) rfl rfl (bD HT_.out HW_.out (by kernel_rfl)) (fun _ _ _ h => h) (Or.inl ⟨by rfl, ?_⟩) hHeld ?_ ?_
   rotate_left
   ·
    rintro w' ⟨s0, s1, s2⟩
    go_simp
    with_reducible rfl
   rotate_left
   ·
    simp only [Act.put, cO, cZ, d9, aG, aH]
    rfl
   refine aV (i := 17) (N := some 26) (v := ?_) (a' := ?_) (dG 38 203931139) rfl rfl (aU HT_.out (by kernel_rfl)) (fun _ _ _ h => h) (Or.inl ⟨by rfl, ?_⟩) ?_ ?_
   rotate_left
   ·
    intro w'
    go_simp
    with_reducible rfl
   rotate_left
   ·
    simp only [Act.put, cO, cZ, d9, aG, aH]
    rfl
   refine aV (i := 19) (N := some 28) (v := ?_) (a' := ?_) (dG 38 204455427) rfl rfl (aU HT_.out (by kernel_rfl)) (fun _ _ _ h => h) (Or.inl ⟨by rfl, ?_⟩) ?_ ?_
   rotate_left
   ·
    intro w'
    go_simp
    with_reducible rfl
   rotate_left
   ·
    simp only [Act.put, cO, cZ, d9, aG, aH]
    rfl
   refine bK (i := 22) (N := some 31) (v := ?_) (a' := ?_) (dG 38 208649731) rfl rfl (bD HT_.out HW_.out (by kernel_rfl)) (fun _ _ _ h => h) (Or.inl ⟨by rfl, ?_⟩) hHeld ?_ ?_
   rotate_left
   ·
    rintro w' ⟨s0, s1, s2⟩
    go_simp
    with_reducible rfl
   rotate_left
   ·
    simp only [Act.put, cO, cZ, d9, aG, aH]
    rfl
   refine bR (i := 2) (N := some 11) (dG 38 208649735) rfl rfl (bB HT_.out (by kernel_rfl)) (by decide) (fun K hK => ?_)
   refine bQ Try.func69 (by kernel_rfl) rfl #[.int .i64 a0_0, .int .i64 (-1), .int .i64 1] (by rfl) rfl rfl (by (try simp only [dh, dn, dw]); first | done | rfl | (simp only [dx, dz]; rfl) | (simp only [gt_iff_lt, dA]; rfl) | (simp [Act.eval]; done) | (simp [Act.eval, *]; done)) ?_
   with_reducible refine (code_within.calls a0_0 (-1) 1 false _ A3.out).mono ?_
   rintro e w' ⟨rfl, ⟨nd, rfl⟩⟩
   refine ⟨_, rfl, ?_⟩
   refine hK.out _ _ ⟨(ay BK303.out 0).trans rfl, (ay BK303.out 1).trans rfl, (ay BK303.out 2).trans rfl⟩ (fun hHeld => ?_)
   clear hK K
   refine bG (a' := ?_) ?_ ?_
   rotate_left
   ·
    show Act.put _ (some 11) _ = _
    simp only [Act.put, cO, cZ, d9, aG, aH]
    rfl
   refine aV (i := 3) (N := some 12) (v := ?_) (a' := ?_) (dG 38 208649743) rfl rfl (aU HT_.out (by kernel_rfl)) (fun _ _ _ h => h) (Or.inl ⟨by rfl, ?_⟩) ?_ ?_
   rotate_left
   ·
    intro w'
    go_simp
    with_reducible rfl
   rotate_left
   ·
    simp only [Act.put, cO, cZ, d9, aG, aH]
    rfl
   refine aV (i := 4) (N := some 13) (v := undef) (a' := ?_) (dG 38 208649759) rfl rfl (aU HT_.out (by kernel_rfl)) (fun _ _ _ h => h) (Or.inr ⟨by rfl, rfl⟩) ?_ ?_
   rotate_left
   ·
    simp only [Act.put, cO, cZ, d9, aG, aH]
    rfl
   refine aV (i := 5) (N := some 14) (v := undef) (a' := ?_) (dG 38 208649791) rfl rfl (aU HT_.out (by kernel_rfl)) (fun _ _ _ h => h) (Or.inr ⟨by rfl, rfl⟩) ?_ ?_
   rotate_left
   ·
    simp only [Act.put, cO, cZ, d9, aG, aH]
    rfl
   refine aV (i := 6) (N := some 15) (v := undef) (a' := ?_) (dG 38 208649855) rfl rfl (aU HT_.out (by kernel_rfl)) (fun _ _ _ h => h) (Or.inr ⟨by rfl, rfl⟩) ?_ ?_
   rotate_left
   ·
    simp only [Act.put, cO, cZ, d9, aG, aH]
    rfl
   refine aV (i := 7) (N := some 16) (v := ?_) (a' := ?_) (dG 38 208649983) rfl rfl (aU HT_.out (by kernel_rfl)) (fun _ _ _ h => h) (Or.inl ⟨by rfl, ?_⟩) ?_ ?_
   rotate_left
   ·
    intro w'
    go_simp
    with_reducible rfl
   rotate_left
   ·
    simp only [Act.put, cO, cZ, d9, aG, aH]
    rfl
   refine bR (i := 8) (N := some 17) (dG 38 208650239) rfl rfl (bB HT_.out (by kernel_rfl)) (by decide) (fun K hK => ?_)
   refine bQ Try.func74 (by kernel_rfl) rfl #[.bool false, .int .i64 2] (by rfl) rfl rfl (by (try simp only [dh, dn, dw]); first | done | rfl | (simp only [dx, dz]; rfl) | (simp only [gt_iff_lt, dA]; rfl) | (simp [Act.eval]; done) | (simp [Act.eval, *]; done)) ?_
   with_reducible refine (code_unless.calls false 2 t322 _ A32.out).mono ?_
   rintro e w' ⟨rfl, ⟨nd, rfl⟩⟩
   refine ⟨_, rfl, ?_⟩
   refine hK.out _ _ ⟨(ay BK303.out 0).trans rfl, (ay BK303.out 1).trans rfl, (ay BK303.out 2).trans rfl⟩ (fun hHeld => ?_)
   clear hK K
   refine bG (a' := ?_) ?_ ?_
   rotate_left
   ·
    show Act.put _ (some 17) _ = _
    simp only [Act.put, cO, cZ, d9, aG, aH]
    rfl
   refine bR (i := 14) (N := some 23) (dG 38 208666623) rfl rfl (bB HT_.out (by kernel_rfl)) (by decide) (fun K hK => ?_)
   refine bQ Try.func74 (by kernel_rfl) rfl #[.bool ((a0_0 == (-1)) == (a0_1 == 0)), .int .i64 22] (by rfl) rfl rfl (by (try simp only [dh, dn, dw]); first | done | rfl | (simp only [dx, dz]; rfl) | (simp only [gt_iff_lt, dA]; rfl) | (simp [Act.eval]; done) | (simp [Act.eval, *]; done)) ?_
   with_reducible refine (code_unless.calls ((a0_0 == (-1)) == (a0_1 == 0)) 22 t323 _ A33.out).mono ?_
   rintro e w' ⟨rfl, ⟨nd, rfl⟩⟩
   refine ⟨_, rfl, ?_⟩
   refine hK.out _ _ ⟨(ay BK303.out 0).trans rfl, (ay BK303.out 1).trans rfl, (ay BK303.out 2).trans rfl⟩ (fun hHeld => ?_)
   clear hK K
   refine bG (a' := ?_) ?_ ?_
   rotate_left
   ·
    show Act.put _ (some 23) _ = _
    simp only [Act.put, cO, cZ, d9, aG, aH]
    rfl
   refine bR (i := 20) (N := some 29) (dG 38 209715199) rfl rfl (bB HT_.out (by kernel_rfl)) (by decide) (fun K hK => ?_)
   refine bQ Try.func74 (by kernel_rfl) rfl #[.bool ((l0_2.length : Int) == a1), .int .i64 10] (by rfl) rfl rfl (by (try simp only [dh, dn, dw]); first | done | rfl | (simp only [dx, dz]; rfl) | (simp only [gt_iff_lt, dA]; rfl) | (simp [Act.eval]; done) | (simp [Act.eval, *]; done)) ?_
   with_reducible refine (code_unless.calls ((l0_2.length : Int) == a1) 10 t324 _ A34.out).mono ?_
   rintro e w' ⟨rfl, ⟨nd, rfl⟩⟩
   refine ⟨_, rfl, ?_⟩
   refine hK.out _ _ ⟨(ay BK303.out 0).trans rfl, (ay BK303.out 1).trans rfl, (ay BK303.out 2).trans rfl⟩ (fun hHeld => ?_)
   clear hK K
   refine bG (a' := ?_) ?_ ?_
   rotate_left
   ·
    show Act.put _ (some 29) _ = _
    simp only [Act.put, cO, cZ, d9, aG, aH]
    rfl
   refine bR (i := 23) (N := some 32) (dG 38 218103807) rfl rfl (bB HT_.out (by kernel_rfl)) (by decide) (fun K hK => ?_)
   refine bQ Try.func117 (by kernel_rfl) rfl #[.slice A0_2 l0_2.length c0_2, .func (.func 213) #[] #[]] (by rfl) rfl rfl (by (try simp only [dh, dn, dw]); first | done | rfl | (simp only [dx, dz]; rfl) | (simp only [gt_iff_lt, dA]; rfl) | (simp [Act.eval]; done) | (simp [Act.eval, *]; done)) ?_
   with_reducible refine (slices_ContainsFunc_int_int_at_code_processErr_1.calls _ _ l0_2 () t325 _ ?side1 ?side2 A35.out).mono ?_
   (case side1 => repeat (first | exact (Kd.bF HR0_2.out (by repeat (first | (with_reducible first | exact HB.out | apply ak | apply ah | apply aj | refine aA ?_ GE303.out) | exact HB.out))) | (with_reducible refine Kd.bA ?_ _) | (with_reducible refine Kd.bC ?_ _) | (with_reducible refine Kd.bJ ?_)))
   (case side2 => exact HC0_2.out)
   rintro e w54 ⟨rfl, hb⟩
   refine ⟨_, rfl, ?_⟩
   have n0_ := dH (aQ (g := gb303) (o := .cells #[.int .i64 a0_0, .int .i64 a0_1, .slice A0_2 l0_2.length c0_2] 42 (0, 0)) (by (with_reducible repeat (first | refine av ?_ _ | refine aC ?_ | refine au ?_ _)); exact BK303.out) hb)
   have n1_ := dH (aM (by repeat (first | (with_reducible first | exact HB.out | apply ak | apply ah | apply aj | refine aA ?_ GE303.out) | exact HB.out)) hb)
   clear BK303
   clear HB
   have BK303 := n0_
   have HB := n1_
   clear n0_ n1_
   (try clear hb)
   (try clear hb2)
   (try clear hk)
   (try clear hi)
   refine hK.out _ _ ⟨(ay BK303.out 0).trans rfl, (ay BK303.out 1).trans rfl, (ay BK303.out 2).trans rfl⟩ (fun hHeld => ?_)
   clear hK K
   refine bG (a' := ?_) ?_ ?_
   rotate_left
   ·
    show Act.put _ (some 32) _ = _
    simp only [Act.put, cO, cZ, d9, aG, aH]
    rfl
   refine aV (i := 24) (N := some 33) (v := ?_) (a' := ?_) (dG 38 234881023) rfl rfl (aU HT_.out (by kernel_rfl)) (fun _ _ _ h => h) (Or.inl ⟨by rfl, ?_⟩) ?_ ?_
   rotate_left
   ·
    intro w'
    go_simp
    with_reducible rfl
   rotate_left
   ·
    simp only [Act.put, cO, cZ, d9, aG, aH]
    rfl
   refine bR (i := 25) (N := some 34) (dG 38 268435455) rfl rfl (bB HT_.out (by kernel_rfl)) (by decide) (fun K hK => ?_)
   refine bQ Try.func74 (by kernel_rfl) rfl #[.bool (!t325), .int .i64 2] (by rfl) rfl rfl (by (try simp only [dh, dn, dw]); first | done | rfl | (simp only [dx, dz]; rfl) | (simp only [gt_iff_lt, dA]; rfl) | (simp [Act.eval]; done) | (simp [Act.eval, *]; done)) ?_
   with_reducible refine (code_unless.calls (!t325) 2 t326 _ A36.out).mono ?_
   rintro e w' ⟨rfl, ⟨nd, rfl⟩⟩
   refine ⟨_, rfl, ?_⟩
   refine hK.out _ _ ⟨(ay BK303.out 0).trans rfl, (ay BK303.out 1).trans rfl, (ay BK303.out 2).trans rfl⟩ (fun hHeld => ?_)
   clear hK K
   refine bG (a' := ?_) ?_ ?_
   rotate_left
   ·
    show Act.put _ (some 34) _ = _
    simp only [Act.put, cO, cZ, d9, aG, aH]
    rfl
   refine aV (i := 28) (N := some 37) (v := ?_) (a' := ?_) (dG 38 536870911) rfl rfl (aU HT_.out (by kernel_rfl)) (fun _ _ _ h => h) (Or.inl ⟨by rfl, ?_⟩) ?_ ?_
   rotate_left
   ·
    intro w'
    go_simp
    with_reducible rfl
   rotate_left
   ·
    simp only [Act.put, cO, cZ, d9, aG, aH]
    rfl
   refine aV (i := 29) (N := some 38) (v := undef) (a' := ?_) (dG 38 1073741823) rfl rfl (aU HT_.out (by kernel_rfl)) (fun _ _ _ h => h) (Or.inr ⟨by rfl, rfl⟩) ?_ ?_
   rotate_left
   ·
    simp only [Act.put, cO, cZ, d9, aG, aH]
    rfl
   refine aV (i := 30) (N := some 39) (v := undef) (a' := ?_) (dG 38 2147483647) rfl rfl (aU HT_.out (by kernel_rfl)) (fun _ _ _ h => h) (Or.inr ⟨by rfl, rfl⟩) ?_ ?_
   rotate_left
   ·
    simp only [Act.put, cO, cZ, d9, aG, aH]
    rfl
   refine aV (i := 31) (N := some 40) (v := undef) (a' := ?_) (dG 38 4294967295) rfl rfl (aU HT_.out (by kernel_rfl)) (fun _ _ _ h => h) (Or.inr ⟨by rfl, rfl⟩) ?_ ?_
   rotate_left
   ·
    simp only [Act.put, cO, cZ, d9, aG, aH]
    rfl
   refine aV (i := 32) (N := some 41) (v := undef) (a' := ?_) (dG 38 8589934591) rfl rfl (aU HT_.out (by kernel_rfl)) (fun _ _ _ h => h) (Or.inr ⟨by rfl, rfl⟩) ?_ ?_
   rotate_left
   ·
    simp only [Act.put, cO, cZ, d9, aG, aH]
    rfl
   refine aV (i := 33) (N := some 42) (v := ?_) (a' := ?_) (dG 38 17179869183) rfl rfl (aU HT_.out (by kernel_rfl)) (fun _ _ _ h => h) (Or.inl ⟨by rfl, ?_⟩) ?_ ?_
   rotate_left
   ·
    intro w'
    go_simp
    with_reducible rfl
   rotate_left
   ·
    simp only [Act.put, cO, cZ, d9, aG, aH]
    rfl
   refine bR (i := 34) (N := some 43) (dG 38 34359738367) rfl rfl (bB HT_.out (by kernel_rfl)) (by decide) (fun K hK => ?_)
   refine bQ Try.func74 (by kernel_rfl) rfl #[.bool true, .int .i64 22] (by rfl) rfl rfl (by (try simp only [dh, dn, dw]); first | done | rfl | (simp only [dx, dz]; rfl) | (simp only [gt_iff_lt, dA]; rfl) | (simp [Act.eval]; done) | (simp [Act.eval, *]; done)) ?_
   with_reducible refine (code_unless.calls true 22 t333 _ A49.out).mono ?_
   rintro e w' ⟨rfl, ⟨nd, rfl⟩⟩
   refine ⟨_, rfl, ?_⟩
   refine hK.out _ _ ⟨(ay BK303.out 0).trans rfl, (ay BK303.out 1).trans rfl, (ay BK303.out 2).trans rfl⟩ (fun hHeld => ?_)
   clear hK K
   refine bG (a' := ?_) ?_ ?_
   rotate_left
   ·
    show Act.put _ (some 43) _ = _
    simp only [Act.put, cO, cZ, d9, aG, aH]
    rfl
   refine bR (i := 35) (N := some 44) (dG 38 68719476735) rfl rfl (bB HT_.out (by kernel_rfl)) (by decide) (fun K hK => ?_)
   refine Kd.R_lit_step (Kd.int .i64) _ 29 ?hg (N := 44) ?hd (xs := ([t322, t323, t324, t326, t333] : List Int)) (inner := [.int .i64 t322, .int .i64 t323, .int .i64 t324, .int .i64 t326, .int .i64 t333]) (ok := fun _ => True) (okp := fun _ => True) ?hr ?hp (fun _ hk => hk) trivial (Below.refl _ _) (Nat.le_refl _) (by simp) ?_; (case hd => rfl); (case hg => rfl); (case hr => first | (go_simp; done) | (go_simp; rfl)); (case hp => exact (Reps.one (show Kd.M (Kd.int .i64) _ _ _ t322 [.int .i64 t322] from rfl) (Reps.one (show Kd.M (Kd.int .i64) _ _ _ t323 [.int .i64 t323] from rfl) (Reps.one (show Kd.M (Kd.int .i64) _ _ _ t324 [.int .i64 t324] from rfl) (Reps.one (show Kd.M (Kd.int .i64) _ _ _ t326 [.int .i64 t326] from rfl) (Reps.one (show Kd.M (Kd.int .i64) _ _ _ t333 [.int .i64 t333] from rfl) (Reps.none _ _)))))))
   intro v335 w55 ho56 hb hg_ hnew_
   clear hg_ hnew_
   (first | rw [← Ny334.out] at ho56 | (simp only [Int.reduceToNat] at ho56; rw [← Ny334.out] at ho56))
   have n0_ := dH (Kd.bP ho56 (aK (by repeat (first | (with_reducible first | exact HB.out | apply ak | apply ah | apply aj | refine aA ?_ GE303.out) | exact HB.out))))
   have n1_ := dH (aQ (g := gb303) (o := .cells #[.int .i64 a0_0, .int .i64 a0_1, .slice A0_2 l0_2.length c0_2] 42 (0, 0)) (by (with_reducible repeat (first | refine av ?_ _ | refine aC ?_ | refine au ?_ _)); exact BK303.out) hb)
   have n2_ := dH (aM (by repeat (first | (with_reducible first | exact HB.out | apply ak | apply ah | apply aj | refine aA ?_ GE303.out) | exact HB.out)) hb)
   clear BK303
   clear HB
   have HO336 := n0_
   have BK303 := n1_
   have HB := n2_
   clear n0_ n1_ n2_
   clear hb ho56
   obtain ⟨Ao57, co57, eo57⟩ := Kd.bN HO336.out
   (first | subst eo57 | (injection eo57 with f1_ f2_ f3_; have f4_ := f1_.symm; have f5_ := f3_.symm; clear f1_ f2_ f3_; subst f4_; subst f5_))
   refine hK.out _ _ ⟨(ay BK303.out 0).trans rfl, (ay BK303.out 1).trans rfl, (ay BK303.out 2).trans rfl⟩ (fun hHeld => ?_)
   clear hK K
   refine bG (a' := ?_) ?_ ?_
   rotate_left
   ·
    show Act.put _ (some 44) _ = _
    simp only [Act.put, cO, cZ, d9, aG, aH]
    rfl
   refine bR (i := 36) (N := some 45) (dG 38 137438953471) rfl rfl (bB HT_.out (by kernel_rfl)) (by decide) (fun K hK => ?_)
   refine bQ Try.func72 (by kernel_rfl) rfl #[.slice Ao57 y334.length co57] (by rfl) rfl rfl (by (try simp only [dh, dn, dw]); first | done | rfl | (simp only [dx, dz]; rfl) | (simp only [gt_iff_lt, dA]; rfl) | (simp [Act.eval]; done) | (simp [Act.eval, *]; done)) ?_
   with_reducible refine (code_first.calls k _ _ y334 t337 _ ?side1 ?side2 A50.out).mono ?_
   (case side1 => repeat (first | exact (Kd.aZ HO336.out).2.2 | (with_reducible refine Kd.bA ?_ _) | (with_reducible refine Kd.bC ?_ _) | (with_reducible refine Kd.bJ ?_)))
   (case side2 => exact (Kd.aZ HO336.out).2.1)
   rintro e w' ⟨rfl, ⟨nd, rfl⟩⟩
   refine ⟨_, rfl, ?_⟩
   refine hK.out _ _ ⟨(ay BK303.out 0).trans rfl, (ay BK303.out 1).trans rfl, (ay BK303.out 2).trans rfl⟩ (fun hHeld => ?_)
   clear hK K
   refine bG (a' := ?_) ?_ ?_
   rotate_left
   ·
    show Act.put _ (some 45) _ = _
    simp only [Act.put, cO, cZ, d9, aG, aH]
    rfl
   refine aV (i := 37) (N := some 4) (v := ?_) (a' := ?_) (dG 38 274877906943) rfl rfl (aU HT_.out (by kernel_rfl)) (fun _ _ _ h => h) (Or.inl ⟨by rfl, ?_⟩) ?_ ?_
   rotate_left
   ·
    intro w'
    go_simp
    with_reducible rfl
   rotate_left
   ·
    simp only [Act.put, cO, cZ, d9, aG, aH]
    rfl
   refine done_ (cK HT_.out (by kernel_rfl)) ?_
   try go_wp2
   go_ret
   exact ⟨by first | rfl | (simp [aX, aY] <;> rfl) | (simp [*, aX, aY] <;> rfl), by repeat (first | (with_reducible first | exact HB.out | apply ak | apply ah | apply aj | refine aA ?_ GE303.out) | exact HB.out)⟩
end Go.Proofs.Ytbjiookpiminmaa.PCode
end
section
namespace Go.Proofs.Ytbjiookpiminmaa.PCode
open Go.RowKit Go.Proofs.YtbjiookpiminmaaW.PrintWords Go.Proofs.YtbjiookpiminmaaW.PrintLast Go.Proofs.YtbjiookpiminmaaW.PrintMore
attribute [local go_sem] max2_int min2_int max_two min_two max_three min_three max_four min_four   -- for this text's walks alone
def code_buffersErr.l0 : Nat → List (S42) → Int → Int → Int → List (S42) → Option (Int)
 | 0, _, _, _, _, _ => none
 | k + 1, x27, x28, x29, x339000, x339001 => if x29 < x28 then (if 0 ≤ x29 then (if x29 < (x27.length : Int) then ((code_processErr.f k ((rd_T42 x27 x29).f0) ((rd_T42 x27 x29).f1) ((rd_T42 x27 x29).f2) x339000).bind fun t349 => (if t349 = 0 then (code_buffersErr.l0 k x27 x28 (wrap64 (x29 + 1)) x339000 x339001) else (some t349))) else (none)) else (none)) else (some 0)
def code_buffersErr.f (k : Nat) (a0_0 : Int) (l0_1 : List (S42)) : Option (Int) := (code_isLength.f a0_0).bind fun t339 => ((code_unless.f t339 2).bind fun t340 => ((code_unless.f (decide ((l0_1.length : Int) > 0)) 10).bind fun t341 => ((code_unless.f (decide ((l0_1.length : Int) ≤ 8)) 8).bind fun t342 => ((code_first.f k (([t340, t341, t342] : List Int))).bind fun t346 => (if t346 = 0 then (code_buffersErr.l0 k l0_1 (l0_1.length : Int) 0 a0_0 l0_1) else (some t346))))))
def code_buffersErr.T1 : Bool × List (List Nat × List Nat) := (true, [([], []), ([0], [0]), ([1], [1]), ([2, 2], [2]), ([], []), ([4], [4]), ([5], [5]), ([6], [6]), ([7, 3], [7]), ([], []), ([9], [9]), ([10], [10]), ([11], [11]), ([12, 8], [12]), ([3, 8, 13], [3, 8, 13]), ([14, 13], [14]), ([15, 15, 0, 1, 2, 3, 4, 5, 6, 7, 8, 9, 10, 11, 12, 13, 14, 15], [15])])
def code_buffersErr.B1 : List Nat := [0, 1, 3, 7, 0, 16, 48, 112, 255, 0, 512, 1536, 3584, 8191, 16383, 32767, 65535]
theorem code_buffersErr.tab1 : rtab .any (opsOf Try.f73 1) = code_buffersErr.T1 := by kernel_rfl
theorem code_buffersErr.bits1 : waitsOk code_buffersErr.T1.2 code_buffersErr.B1 = true := by kernel_rfl
theorem code_buffersErr.calls (k : Nat) (a0_0 : Int) (A0_1 : Option Addr) (c0_1 : Nat) (l0_1 : List (S42)) (r : Int) (w : World) (hr0_1 : Kd.C k42 w A0_1 l0_1.length l0_1) (hc0_1 : l0_1.length ≤ c0_1) (h : code_buffersErr.f k a0_0 l0_1 = some r) :
  Calls Try.prog 73 #[.agg #[.int .i64 a0_0, .slice A0_1 l0_1.length c0_1]] w fun e w' => e = .returned (.int .i64 r) ∧ Below w.heap.size w w' := by
 have hu28 := Try.underlying28
 have hu42 := Try.underlying42
 have HR0_1 := dH hr0_1
 have HC0_1 := dH hc0_1
 clear hr0_1 hc0_1
 have HB := dH (Below.refl w.heap.size w)
 have H : ((code_isLength.f a0_0).bind fun t339 => ((code_unless.f t339 2).bind fun t340 => ((code_unless.f (decide ((l0_1.length : Int) > 0)) 10).bind fun t341 => ((code_unless.f (decide ((l0_1.length : Int) ≤ 8)) 8).bind fun t342 => ((code_first.f k (([t340, t341, t342] : List Int))).bind fun t346 => (if t346 = 0 then (code_buffersErr.l0 k l0_1 (l0_1.length : Int) 0 a0_0 l0_1) else (some t346))))))) = some r := h
 clear h
 replace H := dF.mp H
 obtain ⟨t339, A20, H⟩ := H
 replace H : ((code_unless.f t339 2).bind fun t340 => ((code_unless.f (decide ((l0_1.length : Int) > 0)) 10).bind fun t341 => ((code_unless.f (decide ((l0_1.length : Int) ≤ 8)) 8).bind fun t342 => ((code_first.f k (([t340, t341, t342] : List Int))).bind fun t346 => (if t346 = 0 then (code_buffersErr.l0 k l0_1 (l0_1.length : Int) 0 a0_0 l0_1) else (some t346)))))) = some r := H
 have A2 := dH A20
 clear A20
 replace H := dF.mp H
 obtain ⟨t340, A30, H⟩ := H
 replace H : ((code_unless.f (decide ((l0_1.length : Int) > 0)) 10).bind fun t341 => ((code_unless.f (decide ((l0_1.length : Int) ≤ 8)) 8).bind fun t342 => ((code_first.f k (([t340, t341, t342] : List Int))).bind fun t346 => (if t346 = 0 then (code_buffersErr.l0 k l0_1 (l0_1.length : Int) 0 a0_0 l0_1) else (some t346))))) = some r := H
 have A3 := dH A30
 clear A30
 replace H := dF.mp H
 obtain ⟨t341, A40, H⟩ := H
 replace H : ((code_unless.f (decide ((l0_1.length : Int) ≤ 8)) 8).bind fun t342 => ((code_first.f k (([t340, t341, t342] : List Int))).bind fun t346 => (if t346 = 0 then (code_buffersErr.l0 k l0_1 (l0_1.length : Int) 0 a0_0 l0_1) else (some t346)))) = some r := H
 have A4 := dH A40
 clear A40
 replace H := dF.mp H
 obtain ⟨t342, A50, H⟩ := H
 replace H : ((code_first.f k (([t340, t341, t342] : List Int))).bind fun t346 => (if t346 = 0 then (code_buffersErr.l0 k l0_1 (l0_1.length : Int) 0 a0_0 l0_1) else (some t346))) = some r := H
 have A5 := dH A50
 clear A50
 obtain ⟨y343, hy343⟩ : ∃ y_ : List Int, y_ = (([t340, t341, t342] : List Int)) := ⟨_, rfl⟩
 replace H : ((code_first.f k y343).bind fun t346 => (if t346 = 0 then (code_buffersErr.l0 k l0_1 (l0_1.length : Int) 0 a0_0 l0_1) else (some t346))) = some r := by first | (rw [hy343]; with_reducible exact H) | (have H2_ := (Option.bind_some _ _).symm.trans H; rw [hy343]; with_reducible exact H2_) | (have H2_ := (Option.bind_some _ _).symm.trans H; with_reducible exact H2_) | with_reducible exact H | (rw [hy343]; exact H) | exact H
 have Ny343 := dH hy343
 clear hy343
 replace H := dF.mp H
 obtain ⟨t346, A60, H⟩ := H
 replace H : (if t346 = 0 then (code_buffersErr.l0 k l0_1 (l0_1.length : Int) 0 a0_0 l0_1) else (some t346)) = some r := H
 have A6 := dH A60
 clear A60
 by_cases c7 : t346 = 0
 ·
  rw [if_pos c7] at H
  have c7b0 : (t346 == 0) = true := beq_iff_eq.mpr c7
  have c7b1 : (t346 != 0) = false := bne_eq_false_iff_eq.mpr c7
  clear c7
  have H' := dH H
  clear H
  go_enter Try.func73, Try.ntmps73
  try go_wp2_with (first | ((with_reducible refine bg (N := 1) rfl ?_); refine bI ?hg (N := 1) ?hd (cs := #[.int .i64 a0_0, .slice A0_1 l0_1.length c0_1]) (t := 28) ?hr ?_; (case hd => rfl); (case hg => rfl); (case hr => first | (go_simp; done) | (go_simp; rfl)); intro gb338 hg w8 hbox hb; have n0_ := dH (aM (by repeat (first | (with_reducible first | exact HB.out | apply ak | apply ah | apply aj) | exact HB.out)) hb); have n1_ := dH (hbox); have n2_ := dH ((by rw [hg]; exact (aK (by repeat (first | (with_reducible first | exact HB.out | apply ak | apply ah | apply aj) | exact HB.out))) : w.heap.size ≤ gb338)); have n3_ := dH ((by rw [hg]; exact (aK (by repeat (first | (with_reducible first | exact HB.out | apply ak | apply ah | apply aj) | exact HB.out))) : w.heap.size ≤ gb338)); clear HB; have HB := n0_; have BK338 := n1_; have GW338 := n2_; have GE338 := n3_; clear n0_ n1_ n2_ n3_; clear hb hbox hg))
  have n0_ := dH (aC BK338.out)
  have n1_ := dH (aj HB.out)
  clear BK338
  clear HB
  have BK338 := n0_
  have HB := n1_
  clear n0_ n1_
  refine b_ (n := 17) (S := fun w' => w'.cell? ⟨gb338, 0, none⟩ = some (.int .i64 a0_0) ∧ w'.cell? ⟨gb338, 1, none⟩ = some (.slice A0_1 l0_1.length c0_1)) (ds := []) (dG 17 0) (by kernel_rfl) rfl rfl ⟨(ay BK338.out 0).trans rfl, (ay BK338.out 1).trans rfl⟩ (fun hHeld => ?_); refine bZ code_buffersErr.tab1 code_buffersErr.bits1 (fun HT_ HW_ => ?_)
  generalize w8.drew = w9 at BK338 HB hHeld ⊢
  refine aV (i := 0) (N := some 7) (v := ?_) (a' := ?_) (dG 17 1) rfl rfl (aU HT_.out (by kernel_rfl)) (fun _ _ _ h => h) (Or.inl ⟨by rfl, ?_⟩) ?_ ?_
  rotate_left
  ·
   intro w'
   go_simp
   with_reducible rfl
  rotate_left
  ·
   simp only [Act.put, cO, cZ, d9, aG, aH]
   rfl
  refine aV (i := 4) (N := some 11) (v := ?_) (a' := ?_) (dG 17 17) rfl rfl (aU HT_.out (by kernel_rfl)) (fun _ _ _ h => h) (Or.inl ⟨by rfl, ?_⟩) ?_ ?_
  rotate_left
  ·
   intro w'
   go_simp
   with_reducible rfl
  rotate_left
  ·
   simp only [Act.put, cO, cZ, d9, aG, aH]
   rfl
  refine aV (i := 9) (N := some 16) (v := ?_) (a' := ?_) (dG 17 529) rfl rfl (aU HT_.out (by kernel_rfl)) (fun _ _ _ h => h) (Or.inl ⟨by rfl, ?_⟩) ?_ ?_
  rotate_left
  ·
   intro w'
   go_simp
   with_reducible rfl
  rotate_left
  ·
   simp only [Act.put, cO, cZ, d9, aG, aH]
   rfl
  refine bK (i := 1) (N := some 8) (v := ?_) (a' := ?_) (dG 17 531) rfl rfl (bD HT_.out HW_.out (by kernel_rfl)) (fun _ _ _ h => h) (Or.inl ⟨by rfl, ?_⟩) hHeld ?_ ?_
  rotate_left
  ·
   rintro w' ⟨s0, s1⟩
   go_simp
   with_reducible rfl
  rotate_left
  ·
   simp only [Act.put, cO, cZ, d9, aG, aH]
   rfl
  refine bK (i := 5) (N := some 12) (v := ?_) (a' := ?_) (dG 17 563) rfl rfl (bD HT_.out HW_.out (by kernel_rfl)) (fun _ _ _ h => h) (Or.inl ⟨by rfl, ?_⟩) hHeld ?_ ?_
  rotate_left
  ·
   rintro w' ⟨s0, s1⟩
   go_simp
   with_reducible rfl
  rotate_left
  ·
   simp only [Act.put, cO, cZ, d9, aG, aH]
   rfl
  refine aV (i := 6) (N := some 13) (v := ?_) (a' := ?_) (dG 17 627) rfl rfl (aU HT_.out (by kernel_rfl)) (fun _ _ _ h => h) (Or.inl ⟨by rfl, ?_⟩) ?_ ?_
  rotate_left
  ·
   intro w'
   go_simp
   with_reducible rfl
  rotate_left
  ·
   simp only [Act.put, cO, cZ, d9, aG, aH]
   rfl
  refine aV (i := 7) (N := some 14) (v := ?_) (a' := ?_) (dG 17 755) rfl rfl (aU HT_.out (by kernel_rfl)) (fun _ _ _ h => h) (Or.inl ⟨by rfl, ?_⟩) ?_ ?_
  rotate_left
  ·
   intro w'
   go_simp
   with_reducible rfl
  rotate_left
  ·
   simp only [Act.put, cO, cZ, d9, aG, aH]
   rfl
  refine bK (i := 10) (N := some 17) (v := ?_) (a' := ?_) (dG 17 1779) rfl rfl (bD HT_.out HW_.out (by kernel_rfl)) (fun _ _ _ h => h) (Or.inl ⟨by rfl, ?_⟩) hHeld ?_ ?_
  rotate_left
  ·
   rintro w' ⟨s0, s1⟩
   go_simp
   with_reducible rfl
  rotate_left
  ·
   simp only [Act.put, cO, cZ, d9, aG, aH]
   rfl
  refine aV (i := 11) (N := some 18) (v := ?_) (a' := ?_) (dG 17 3827) rfl rfl (aU HT_.out (by kernel_rfl)) (fun _ _ _ h => h) (Or.inl ⟨by rfl, ?_⟩) ?_ ?_
  rotate_left
  ·
   intro w'
   go_simp
   with_reducible rfl
  rotate_left
  ·
   simp only [Act.put, cO, cZ, d9, aG, aH]
   rfl
  refine aV (i := 12) (N := some 19) (v := ?_) (a' := ?_) (dG 17 7923) rfl rfl (aU HT_.out (by kernel_rfl)) (fun _ _ _ h => h) (Or.inl ⟨by rfl, ?_⟩) ?_ ?_
  rotate_left
  ·
   intro w'
   go_simp
   with_reducible rfl
  rotate_left
  ·
   simp only [Act.put, cO, cZ, d9, aG, aH]
   rfl
  refine bR (i := 2) (N := some 9) (dG 17 7927) rfl rfl (bB HT_.out (by kernel_rfl)) (by decide) (fun K hK => ?_)
  refine bQ Try.func68 (by kernel_rfl) rfl #[.int .i64 a0_0] (by rfl) rfl rfl (by (try simp only [dh, dn, dw]); first | done | rfl | (simp only [dx, dz]; rfl) | (simp only [gt_iff_lt, dA]; rfl) | (simp [Act.eval]; done) | (simp [Act.eval, *]; done)) ?_
  with_reducible refine (code_isLength.calls a0_0 t339 _ A2.out).mono ?_
  rintro e w' ⟨rfl, ⟨nd, rfl⟩⟩
  refine ⟨_, rfl, ?_⟩
  refine hK.out _ _ ⟨(ay BK338.out 0).trans rfl, (ay BK338.out 1).trans rfl⟩ (fun hHeld => ?_)
  clear hK K
  refine bG (a' := ?_) ?_ ?_
  rotate_left
  ·
   show Act.put _ (some 9) _ = _
   simp only [Act.put, cO, cZ, d9, aG, aH]
   rfl
  refine bR (i := 3) (N := some 10) (dG 17 7935) rfl rfl (bB HT_.out (by kernel_rfl)) (by decide) (fun K hK => ?_)
  refine bQ Try.func74 (by kernel_rfl) rfl #[.bool t339, .int .i64 2] (by rfl) rfl rfl (by (try simp only [dh, dn, dw]); first | done | rfl | (simp only [dx, dz]; rfl) | (simp only [gt_iff_lt, dA]; rfl) | (simp [Act.eval]; done) | (simp [Act.eval, *]; done)) ?_
  with_reducible refine (code_unless.calls t339 2 t340 _ A3.out).mono ?_
  rintro e w' ⟨rfl, ⟨nd, rfl⟩⟩
  refine ⟨_, rfl, ?_⟩
  refine hK.out _ _ ⟨(ay BK338.out 0).trans rfl, (ay BK338.out 1).trans rfl⟩ (fun hHeld => ?_)
  clear hK K
  refine bG (a' := ?_) ?_ ?_
  rotate_left
  ·
   show Act.put _ (some 10) _ = _
   simp only [Act.put, cO, cZ, d9, aG, aH]
   rfl
  refine bR (i := 8) (N := some 15) (dG 17 8191) rfl rfl (bB HT_.out (by kernel_rfl)) (by decide) (fun K hK => ?_)
  refine bQ Try.func74 (by kernel_rfl) rfl #[.bool (decide ((l0_1.length : Int) > 0)), .int .i64 10] (by rfl) rfl rfl (by (try simp only [dh, dn, dw]); first | done | rfl | (simp only [dx, dz]; rfl) | (simp only [gt_iff_lt, dA]; rfl) | (simp [Act.eval]; done) | (simp [Act.eval, *]; done)) ?_
  with_reducible refine (code_unless.calls (decide ((l0_1.length : Int) > 0)) 10 t341 _ A4.out).mono ?_
  rintro e w' ⟨rfl, ⟨nd, rfl⟩⟩
  refine ⟨_, rfl, ?_⟩
  refine hK.out _ _ ⟨(ay BK338.out 0).trans rfl, (ay BK338.out 1).trans rfl⟩ (fun hHeld => ?_)
  clear hK K
  refine bG (a' := ?_) ?_ ?_
  rotate_left
  ·
   show Act.put _ (some 15) _ = _
   simp only [Act.put, cO, cZ, d9, aG, aH]
   rfl
  refine bR (i := 13) (N := some 20) (dG 17 16383) rfl rfl (bB HT_.out (by kernel_rfl)) (by decide) (fun K hK => ?_)
  refine bQ Try.func74 (by kernel_rfl) rfl #[.bool (decide ((l0_1.length : Int) ≤ 8)), .int .i64 8] (by rfl) rfl rfl (by (try simp only [dh, dn, dw]); first | done | rfl | (simp only [dx, dz]; rfl) | (simp only [gt_iff_lt, dA]; rfl) | (simp [Act.eval]; done) | (simp [Act.eval, *]; done)) ?_
  with_reducible refine (code_unless.calls (decide ((l0_1.length : Int) ≤ 8)) 8 t342 _ A5.out).mono ?_
  rintro e w' ⟨rfl, ⟨nd, rfl⟩⟩
  refine ⟨_, rfl, ?_⟩
  refine hK.out _ _ ⟨(ay BK338.out 0).trans rfl, (ay BK338.out 1).trans rfl⟩ (fun hHeld => ?_)
  clear hK K
  refine bG (a' := ?_) ?_ ?_
  rotate_left
  ·
   show Act.put _ (some 20) _ = _
   simp only [Act.put, cO, cZ, d9, aG, aH]
   rfl
  refine bR (i := 14) (N := some 21) (dG 17 32767) rfl rfl (bB HT_.out (by kernel_rfl)) (by decide) (fun K hK => ?_)
  refine Kd.R_lit_step (Kd.int .i64) _ 29 ?hg (N := 21) ?hd (xs := ([t340, t341, t342] : List Int)) (inner := [.int .i64 t340, .int .i64 t341, .int .i64 t342]) (ok := fun _ => True) (okp := fun _ => True) ?hr ?hp (fun _ hk => hk) trivial (Below.refl _ _) (Nat.le_refl _) (by simp) ?_; (case hd => rfl); (case hg => rfl); (case hr => first | (go_simp; done) | (go_simp; rfl)); (case hp => exact (Reps.one (show Kd.M (Kd.int .i64) _ _ _ t340 [.int .i64 t340] from rfl) (Reps.one (show Kd.M (Kd.int .i64) _ _ _ t341 [.int .i64 t341] from rfl) (Reps.one (show Kd.M (Kd.int .i64) _ _ _ t342 [.int .i64 t342] from rfl) (Reps.none _ _)))))
  intro v344 w10 ho11 hb hg_ hnew_
  clear hg_ hnew_
  (first | rw [← Ny343.out] at ho11 | (simp only [Int.reduceToNat] at ho11; rw [← Ny343.out] at ho11))
  have n0_ := dH (Kd.bP ho11 (aK (by repeat (first | (with_reducible first | exact HB.out | apply ak | apply ah | apply aj | refine aA ?_ GE338.out) | exact HB.out))))
  have n1_ := dH (aQ (g := gb338) (o := .cells #[.int .i64 a0_0, .slice A0_1 l0_1.length c0_1] 28 (0, 0)) (by (with_reducible repeat (first | refine av ?_ _ | refine aC ?_ | refine au ?_ _)); exact BK338.out) hb)
  have n2_ := dH (aM (by repeat (first | (with_reducible first | exact HB.out | apply ak | apply ah | apply aj | refine aA ?_ GE338.out) | exact HB.out)) hb)
  clear BK338
  clear HB
  have HO345 := n0_
  have BK338 := n1_
  have HB := n2_
  clear n0_ n1_ n2_
  clear hb ho11
  obtain ⟨Ao12, co12, eo12⟩ := Kd.bN HO345.out
  (first | subst eo12 | (injection eo12 with f1_ f2_ f3_; have f4_ := f1_.symm; have f5_ := f3_.symm; clear f1_ f2_ f3_; subst f4_; subst f5_))
  refine hK.out _ _ ⟨(ay BK338.out 0).trans rfl, (ay BK338.out 1).trans rfl⟩ (fun hHeld => ?_)
  clear hK K
  refine bG (a' := ?_) ?_ ?_
  rotate_left
  ·
   show Act.put _ (some 21) _ = _
   simp only [Act.put, cO, cZ, d9, aG, aH]
   rfl
  refine bR (i := 15) (N := some 22) (dG 17 65535) rfl rfl (bB HT_.out (by kernel_rfl)) (by decide) (fun K hK => ?_)
  refine bQ Try.func72 (by kernel_rfl) rfl #[.slice Ao12 y343.length co12] (by rfl) rfl rfl (by (try simp only [dh, dn, dw]); first | done | rfl | (simp only [dx, dz]; rfl) | (simp only [gt_iff_lt, dA]; rfl) | (simp [Act.eval]; done) | (simp [Act.eval, *]; done)) ?_
  with_reducible refine (code_first.calls k _ _ y343 t346 _ ?side1 ?side2 A6.out).mono ?_
  (case side1 => repeat (first | exact (Kd.aZ HO345.out).2.2 | (with_reducible refine Kd.bA ?_ _) | (with_reducible refine Kd.bC ?_ _) | (with_reducible refine Kd.bJ ?_)))
  (case side2 => exact (Kd.aZ HO345.out).2.1)
  rintro e w' ⟨rfl, ⟨nd, rfl⟩⟩
  refine ⟨_, rfl, ?_⟩
  refine hK.out _ _ ⟨(ay BK338.out 0).trans rfl, (ay BK338.out 1).trans rfl⟩ (fun hHeld => ?_)
  clear hK K
  refine bG (a' := ?_) ?_ ?_
  rotate_left
  ·
   show Act.put _ (some 22) _ = _
   simp only [Act.put, cO, cZ, d9, aG, aH]
   rfl
  refine aV (i := 16) (N := some 3) (v := ?_) (a' := ?_) (dG 17 131071) rfl rfl (aU HT_.out (by kernel_rfl)) (fun _ _ _ h => h) (Or.inl ⟨by rfl, ?_⟩) ?_ ?_
  rotate_left
  ·
   intro w'
   go_simp
   with_reducible rfl
  rotate_left
  ·
   simp only [Act.put, cO, cZ, d9, aG, aH]
   rfl
  refine done_ (cK HT_.out (by kernel_rfl)) ?_
  have hcz13_0 : w10.cell? ⟨gb338, 0, none⟩ = some (.int .i64 a0_0) := (ay BK338.out 0).trans rfl
  have hcz13_1 : w10.cell? ⟨gb338, 1, none⟩ = some (.slice A0_1 l0_1.length c0_1) := (ay BK338.out 1).trans rfl
  have hfz13_0 := aD BK338.out 0
  have hfz13_1 := aD BK338.out 1
  try go_wp2
  go_loopg [29] k (fun kq v29 w' => ∃ (x29_1 : Int), v29 = .int .i64 x29_1 ∧ Aside0 (code_buffersErr.l0 kq l0_1 (l0_1.length : Int) x29_1 a0_0 l0_1 = some r) ∧ Aside0 (kq ≤ k) ∧ Aside0 (w'.heap[gb338]? = some (.cells #[.int .i64 a0_0, (.slice A0_1 l0_1.length c0_1)] 28 (0, 0))) ∧ Aside0 (Below w.heap.size w w'))
  case atStart => exact ⟨(0), (by first | rfl | (simp; done) | (simp [*]; done)), H', ⟨Nat.le_refl _⟩, ⟨by (with_reducible repeat (first | refine av ?_ _ | refine aC ?_ | refine au ?_ _)); exact BK338.out⟩, ⟨by repeat (first | (with_reducible first | exact HB.out | apply ak | apply ah | apply aj | refine aA ?_ GE338.out) | exact HB.out)⟩⟩
  case round =>
   clear H'
   try clear p2
   try clear c6
   try clear c7
   try clear c7b0
   try clear c7b1
   try clear hcz13_0
   try clear hcz13_1
   try clear hfz13_0
   try clear hfz13_1
   obtain ⟨x29_1, rfl, HA, HK1, BK338, HB⟩ := hrel
   cases gk with
   | zero => exact absurd HA.out (by simp [code_buffersErr.l0])
   | succ k1 =>
    have H := HA.out
    clear HA
    simp only [code_buffersErr.l0] at H
    by_cases c14 : x29_1 < (l0_1.length : Int)
    ·
     rw [if_pos c14] at H
     have c14b0 : decide (x29_1 < (l0_1.length : Int)) = true := decide_eq_true c14
     clear c14
     by_cases c15 : 0 ≤ x29_1
     ·
      rw [if_pos c15] at H
      have c15b0 : decide (0 ≤ x29_1) = true := decide_eq_true c15
      clear c15
      by_cases c16 : x29_1 < (l0_1.length : Int)
      ·
       rw [if_pos c16] at H
       have c16b0 : decide (x29_1 < (l0_1.length : Int)) = true := decide_eq_true c16
       clear c16
       replace H := dF.mp H
       obtain ⟨t349, A170, H⟩ := H
       replace H : (if t349 = 0 then (code_buffersErr.l0 k1 l0_1 (l0_1.length : Int) (wrap64 (x29_1 + 1)) a0_0 l0_1) else (some t349)) = some r := H
       have A17 := dH A170
       clear A170
       by_cases c18 : t349 = 0
       ·
        rw [if_pos c18] at H
        have c18b0 : (t349 == 0) = true := beq_iff_eq.mpr c18
        have c18b1 : (t349 != 0) = false := bne_eq_false_iff_eq.mpr c18
        clear c18
        have H' := dH H
        clear H
        have p347 : 0 ≤ (x29_1 : Int) := dD (by first | (with_reducible assumption) | assumption)
        have q347 : x29_1 < (l0_1.length : Int) := dD (by first | (with_reducible assumption) | assumption)
        obtain ⟨ad347, A347_2, c347_2, e347, hx347_0, hx347_1, hx347_2, hl347_2, hi347_2⟩ := at_T42 HR0_1.out x29_1 p347 q347
        cases e347
        replace hx347_0 := (HB.out.cell (dB w _ hx347_0)).trans hx347_0
        replace hx347_1 := (HB.out.cell (dB w _ hx347_1)).trans hx347_1
        replace hx347_2 := (HB.out.cell (dB w _ hx347_2)).trans hx347_2
        have HR347_2 := dH hi347_2
        have HC347_2 := dH hl347_2
        clear hi347_2 hl347_2
        replace p347 := eq_true p347
        replace q347 := eq_true q347
        go_wp2_with (first | ((with_reducible refine bg (N := 5) rfl ?_); refine bI ?hg (N := 5) ?hd (cs := #[.int .i64 0, .int .i64 0, .slice none 0 0]) (t := 42) ?hr ?_; (case hd => rfl); (case hg => rfl); (case hr => first | (go_simp; done) | (go_simp; rfl)); intro gb348 hg w19 hbox hb; have n0_ := dH (aQ (g := gb338) (o := .cells #[.int .i64 a0_0, .slice (some ad347) l0_1.length c0_1] 28 (0, 0)) (by (with_reducible repeat (first | refine av ?_ _ | refine aC ?_ | refine au ?_ _)); exact BK338.out) hb); have n1_ := dH (aM (by repeat (first | (with_reducible first | exact HB.out | apply ak | apply ah | apply aj | refine aA ?_ GE338.out) | exact HB.out)) hb); have n2_ := dH (hbox); have n3_ := dH ((by rw [hg]; exact (aK (by repeat (first | (with_reducible first | exact HB.out | apply ak | apply ah | apply aj | refine aA ?_ GE338.out) | exact HB.out))) : w.heap.size ≤ gb348)); have n4_ := dH ((by rw [hg]; exact (aK (by repeat (first | (with_reducible first | exact HB.out | apply ak | apply ah | apply aj | refine aA ?_ GE338.out) | exact HB.out))) : w.heap.size ≤ gb348)); have n5_ := dH ((by rw [hg]; exact Nat.ne_of_lt (bn (g := gb338) (o := .cells #[.int .i64 a0_0, .slice (some ad347) l0_1.length c0_1] 28 (0, 0)) (by (with_reducible repeat (first | refine av ?_ _ | refine aC ?_ | refine au ?_ _)); exact BK338.out)) : gb338 ≠ gb348)); have n6_ := dH ((by rw [hg]; exact Nat.ne_of_gt (bn (g := gb338) (o := .cells #[.int .i64 a0_0, .slice (some ad347) l0_1.length c0_1] 28 (0, 0)) (by (with_reducible repeat (first | refine av ?_ _ | refine aC ?_ | refine au ?_ _)); exact BK338.out)) : gb348 ≠ gb338)); clear BK338; clear HB; have BK338 := n0_; have HB := n1_; have BK348 := n2_; have GW348 := n3_; have GE348 := n4_; have NB338_348 := n5_; have NB348_338 := n6_; clear n0_ n1_ n2_ n3_ n4_ n5_ n6_; clear hb hbox hg; have hnb20 := NB348_338.out; have hnc20 := NB338_348.out; have hcz21_0 : w19.cell? ⟨gb348, 0, none⟩ = some (.int .i64 0) := (ay BK348.out 0).trans rfl; have hcz21_1 : w19.cell? ⟨gb348, 1, none⟩ = some (.int .i64 0) := (ay BK348.out 1).trans rfl; have hcz21_2 : w19.cell? ⟨gb348, 2, none⟩ = some (.slice none 0 0) := (ay BK348.out 2).trans rfl; have hfz21_0 := aD BK348.out 0; have hfz21_1 := aD BK348.out 1; have hfz21_2 := aD BK348.out 2; have hcz22_0 : w19.cell? ⟨gb338, 0, none⟩ = some (.int .i64 a0_0) := (ay BK338.out 0).trans rfl; have hcz22_1 : w19.cell? ⟨gb338, 1, none⟩ = some (.slice (some ad347) l0_1.length c0_1) := (ay BK338.out 1).trans rfl; have hfz22_0 := aD BK338.out 0; have hfz22_1 := aD BK338.out 1) | ((with_reducible refine aT (f := 142) rfl ?_); refine bq (some 36) rfl rfl Try.func142 (by kernel_rfl) rfl #[.agg #[.int .i64 ((rd_T42 l0_1 x29_1).f0), .int .i64 ((rd_T42 l0_1 x29_1).f1), .slice A347_2 ((rd_T42 l0_1 x29_1).f2).length c347_2], .int .i64 a0_0] rfl (by (try simp only [dh, dn, dw]); first | done | rfl | (simp only [dx, dz]; rfl) | (simp only [gt_iff_lt, dA]; rfl) | (simp [Act.eval]; done) | (simp [Act.eval, *]; done)) ?_; (with_reducible refine (code_processErr.calls k1 ((rd_T42 l0_1 x29_1).f0) ((rd_T42 l0_1 x29_1).f1) _ _ ((rd_T42 l0_1 x29_1).f2) a0_0 t349 _ ?side1 ?side2 A17.out).mono ?_); (case side1 => exact Kd.bF HR347_2.out (by repeat (first | (with_reducible first | exact HB.out | apply ak | apply ah | apply aj | refine aA ?_ GE338.out | refine aA ?_ GE348.out) | exact HB.out))); (case side2 => exact HC347_2.out); rintro e w23 ⟨rfl, hb⟩; refine ⟨_, rfl, ?_⟩; have n0_ := dH (aQ (g := gb338) (o := .cells #[.int .i64 a0_0, .slice (some ad347) l0_1.length c0_1] 28 (0, 0)) (by (with_reducible repeat (first | refine av ?_ _ | refine aC ?_ | refine au ?_ _)); refine aW ?_ NB338_348.out _; (with_reducible repeat (first | refine av ?_ _ | refine aC ?_ | refine au ?_ _)); refine aW ?_ NB338_348.out _; (with_reducible repeat (first | refine av ?_ _ | refine aC ?_ | refine au ?_ _)); refine aW ?_ NB338_348.out _; (with_reducible repeat (first | refine av ?_ _ | refine aC ?_ | refine au ?_ _)); exact BK338.out) hb); have n1_ := dH (aQ (g := gb348) (o := .cells #[.int .i64 ((rd_T42 l0_1 x29_1).f0), .int .i64 ((rd_T42 l0_1 x29_1).f1), .slice A347_2 ((rd_T42 l0_1 x29_1).f2).length c347_2] 42 (0, 0)) (by (with_reducible repeat (first | refine av ?_ _ | refine aC ?_ | refine au ?_ _)); refine bL (cs := #[.int .i64 ((rd_T42 l0_1 x29_1).f0), .int .i64 ((rd_T42 l0_1 x29_1).f1), .slice none 0 0]) ?_ 2 _ rfl; (with_reducible repeat (first | refine av ?_ _ | refine aC ?_ | refine au ?_ _)); refine bL (cs := #[.int .i64 ((rd_T42 l0_1 x29_1).f0), .int .i64 0, .slice none 0 0]) ?_ 1 _ rfl; (with_reducible repeat (first | refine av ?_ _ | refine aC ?_ | refine au ?_ _)); refine bL (cs := #[.int .i64 0, .int .i64 0, .slice none 0 0]) ?_ 0 _ rfl; (with_reducible repeat (first | refine av ?_ _ | refine aC ?_ | refine au ?_ _)); exact BK348.out) hb); have n2_ := dH (aM (by repeat (first | (with_reducible first | exact HB.out | apply ak | apply ah | apply aj | refine aA ?_ GE338.out | refine aA ?_ GE348.out) | exact HB.out)) hb); clear BK338; clear BK348; clear HB; have BK338 := n0_; have BK348 := n1_; have HB := n2_; clear n0_ n1_ n2_; (try clear hb); (try clear hb2); (try clear hk); (try clear hi)))
        go_roundg k1
        case measure => have := HK1.out; omega
        case rel => exact ⟨(wrap64 (x29_1 + 1)), (by first | rfl | (simp; done) | (simp [*]; done)), H', ⟨by have := HK1.out; omega⟩, ⟨by (with_reducible repeat (first | refine av ?_ _ | refine aC ?_ | refine au ?_ _)); exact BK338.out⟩, ⟨by repeat (first | (with_reducible first | exact HB.out | apply ak | apply ah | apply aj | refine aA ?_ GE338.out | refine aA ?_ GE348.out) | exact HB.out)⟩⟩
       ·
        rw [if_neg c18] at H
        have c18b0 : (t349 == 0) = false := beq_eq_false_iff_ne.mpr c18
        have c18b1 : (t349 != 0) = true := bne_iff_ne.mpr c18
        obtain rfl := Option.some.inj H
        have p347 : 0 ≤ (x29_1 : Int) := dD (by first | (with_reducible assumption) | assumption)
        have q347 : x29_1 < (l0_1.length : Int) := dD (by first | (with_reducible assumption) | assumption)
        obtain ⟨ad347, A347_2, c347_2, e347, hx347_0, hx347_1, hx347_2, hl347_2, hi347_2⟩ := at_T42 HR0_1.out x29_1 p347 q347
        cases e347
        replace hx347_0 := (HB.out.cell (dB w _ hx347_0)).trans hx347_0
        replace hx347_1 := (HB.out.cell (dB w _ hx347_1)).trans hx347_1
        replace hx347_2 := (HB.out.cell (dB w _ hx347_2)).trans hx347_2
        have HR347_2 := dH hi347_2
        have HC347_2 := dH hl347_2
        clear hi347_2 hl347_2
        replace p347 := eq_true p347
        replace q347 := eq_true q347
        go_wp2_with (first | ((with_reducible refine bg (N := 5) rfl ?_); refine bI ?hg (N := 5) ?hd (cs := #[.int .i64 0, .int .i64 0, .slice none 0 0]) (t := 42) ?hr ?_; (case hd => rfl); (case hg => rfl); (case hr => first | (go_simp; done) | (go_simp; rfl)); intro gb348 hg w24 hbox hb; have n0_ := dH (aQ (g := gb338) (o := .cells #[.int .i64 a0_0, .slice (some ad347) l0_1.length c0_1] 28 (0, 0)) (by (with_reducible repeat (first | refine av ?_ _ | refine aC ?_ | refine au ?_ _)); exact BK338.out) hb); have n1_ := dH (aM (by repeat (first | (with_reducible first | exact HB.out | apply ak | apply ah | apply aj | refine aA ?_ GE338.out) | exact HB.out)) hb); have n2_ := dH (hbox); have n3_ := dH ((by rw [hg]; exact (aK (by repeat (first | (with_reducible first | exact HB.out | apply ak | apply ah | apply aj | refine aA ?_ GE338.out) | exact HB.out))) : w.heap.size ≤ gb348)); have n4_ := dH ((by rw [hg]; exact (aK (by repeat (first | (with_reducible first | exact HB.out | apply ak | apply ah | apply aj | refine aA ?_ GE338.out) | exact HB.out))) : w.heap.size ≤ gb348)); have n5_ := dH ((by rw [hg]; exact Nat.ne_of_lt (bn (g := gb338) (o := .cells #[.int .i64 a0_0, .slice (some ad347) l0_1.length c0_1] 28 (0, 0)) (by (with_reducible repeat (first | refine av ?_ _ | refine aC ?_ | refine au ?_ _)); exact BK338.out)) : gb338 ≠ gb348)); have n6_ := dH ((by rw [hg]; exact Nat.ne_of_gt (bn (g := gb338) (o := .cells #[.int .i64 a0_0, .slice (some ad347) l0_1.length c0_1] 28 (0, 0)) (by (with_reducible repeat (first | refine av ?_ _ | refine aC ?_ | refine au ?_ _)); exact BK338.out)) : gb348 ≠ gb338)); clear BK338; clear HB; have BK338 := n0_; have HB := n1_; have BK348 := n2_; have GW348 := n3_; have GE348 := n4_; have NB338_348 := n5_; have NB348_338 := n6_; clear n0_ n1_ n2_ n3_ n4_ n5_ n6_; clear hb hbox hg; have hnb25 := NB348_338.out; have hnc25 := NB338_348.out; have hcz26_0 : w24.cell? ⟨gb348, 0, none⟩ = some (.int .i64 0) := (ay BK348.out 0).trans rfl; have hcz26_1 : w24.cell? ⟨gb348, 1, none⟩ = some (.int .i64 0) := (ay BK348.out 1).trans rfl; have hcz26_2 : w24.cell? ⟨gb348, 2, none⟩ = some (.slice none 0 0) := (ay BK348.out 2).trans rfl; have hfz26_0 := aD BK348.out 0; have hfz26_1 := aD BK348.out 1; have hfz26_2 := aD BK348.out 2; have hcz27_0 : w24.cell? ⟨gb338, 0, none⟩ = some (.int .i64 a0_0) := (ay BK338.out 0).trans rfl; have hcz27_1 : w24.cell? ⟨gb338, 1, none⟩ = some (.slice (some ad347) l0_1.length c0_1) := (ay BK338.out 1).trans rfl; have hfz27_0 := aD BK338.out 0; have hfz27_1 := aD BK338.out 1) | ((with_reducible refine aT (f := 142) rfl ?_); refine bq (some 36) rfl rfl Try.func142 (by kernel_rfl) rfl #[.agg #[.int .i64 ((rd_T42 l0_1 x29_1).f0), .int .i64 ((rd_T42 l0_1 x29_1).f1), .slice A347_2 ((rd_T42 l0_1 x29_1).f2).length c347_2], .int .i64 a0_0] rfl (by (try simp only [dh, dn, dw]); first | done | rfl | (simp only [dx, dz]; rfl) | (simp only [gt_iff_lt, dA]; rfl) | (simp [Act.eval]; done) | (simp [Act.eval, *]; done)) ?_; (with_reducible refine (code_processErr.calls k1 ((rd_T42 l0_1 x29_1).f0) ((rd_T42 l0_1 x29_1).f1) _ _ ((rd_T42 l0_1 x29_1).f2) a0_0 t349 _ ?side1 ?side2 A17.out).mono ?_); (case side1 => exact Kd.bF HR347_2.out (by repeat (first | (with_reducible first | exact HB.out | apply ak | apply ah | apply aj | refine aA ?_ GE338.out | refine aA ?_ GE348.out) | exact HB.out))); (case side2 => exact HC347_2.out); rintro e w28 ⟨rfl, hb⟩; refine ⟨_, rfl, ?_⟩; have n0_ := dH (aQ (g := gb338) (o := .cells #[.int .i64 a0_0, .slice (some ad347) l0_1.length c0_1] 28 (0, 0)) (by (with_reducible repeat (first | refine av ?_ _ | refine aC ?_ | refine au ?_ _)); refine aW ?_ NB338_348.out _; (with_reducible repeat (first | refine av ?_ _ | refine aC ?_ | refine au ?_ _)); refine aW ?_ NB338_348.out _; (with_reducible repeat (first | refine av ?_ _ | refine aC ?_ | refine au ?_ _)); refine aW ?_ NB338_348.out _; (with_reducible repeat (first | refine av ?_ _ | refine aC ?_ | refine au ?_ _)); exact BK338.out) hb); have n1_ := dH (aQ (g := gb348) (o := .cells #[.int .i64 ((rd_T42 l0_1 x29_1).f0), .int .i64 ((rd_T42 l0_1 x29_1).f1), .slice A347_2 ((rd_T42 l0_1 x29_1).f2).length c347_2] 42 (0, 0)) (by (with_reducible repeat (first | refine av ?_ _ | refine aC ?_ | refine au ?_ _)); refine bL (cs := #[.int .i64 ((rd_T42 l0_1 x29_1).f0), .int .i64 ((rd_T42 l0_1 x29_1).f1), .slice none 0 0]) ?_ 2 _ rfl; (with_reducible repeat (first | refine av ?_ _ | refine aC ?_ | refine au ?_ _)); refine bL (cs := #[.int .i64 ((rd_T42 l0_1 x29_1).f0), .int .i64 0, .slice none 0 0]) ?_ 1 _ rfl; (with_reducible repeat (first | refine av ?_ _ | refine aC ?_ | refine au ?_ _)); refine bL (cs := #[.int .i64 0, .int .i64 0, .slice none 0 0]) ?_ 0 _ rfl; (with_reducible repeat (first | refine av ?_ _ | refine aC ?_ | refine au ?_ _)); exact BK348.out) hb); have n2_ := dH (aM (by repeat (first | (with_reducible first | exact HB.out | apply ak | apply ah | apply aj | refine aA ?_ GE338.out | refine aA ?_ GE348.out) | exact HB.out)) hb); clear BK338; clear BK348; clear HB; have BK338 := n0_; have BK348 := n1_; have HB := n2_; clear n0_ n1_ n2_; (try clear hb); (try clear hb2); (try clear hk); (try clear hi)))
        go_ret
        exact ⟨by first | rfl | (simp [aX, aY] <;> rfl) | (simp [*, aX, aY] <;> rfl), by repeat (first | (with_reducible first | exact HB.out | apply ak | apply ah | apply aj | refine aA ?_ GE338.out | refine aA ?_ GE348.out) | exact HB.out)⟩
      ·
       rw [if_neg c16] at H
       exact absurd H (by simp)
     ·
      rw [if_neg c15] at H
      exact absurd H (by simp)
    ·
     rw [if_neg c14] at H
     have c14b0 : decide (x29_1 < (l0_1.length : Int)) = false := decide_eq_false c14
     clear c14
     obtain rfl := Option.some.inj H
     go_wp2
     go_ret
     exact ⟨by first | rfl | (simp [aX, aY] <;> rfl) | (simp [*, aX, aY] <;> rfl), by repeat (first | (with_reducible first | exact HB.out | apply ak | apply ah | apply aj | refine aA ?_ GE338.out) | exact HB.out)⟩
 ·
  rw [if_neg c7] at H
  have c7b0 : (t346 == 0) = false := beq_eq_false_iff_ne.mpr c7
  have c7b1 : (t346 != 0) = true := bne_iff_ne.mpr c7
  obtain rfl := Option.some.inj H
  go_enter Try.func73, Try.ntmps73
  try go_wp2_with (first | ((with_reducible refine bg (N := 1) rfl ?_); refine bI ?hg (N := 1) ?hd (cs := #[.int .i64 a0_0, .slice A0_1 l0_1.length c0_1]) (t := 28) ?hr ?_; (case hd => rfl); (case hg => rfl); (case hr => first | (go_simp; done) | (go_simp; rfl)); intro gb338 hg w29 hbox hb; have n0_ := dH (aM (by repeat (first | (with_reducible first | exact HB.out | apply ak | apply ah | apply aj) | exact HB.out)) hb); have n1_ := dH (hbox); have n2_ := dH ((by rw [hg]; exact (aK (by repeat (first | (with_reducible first | exact HB.out | apply ak | apply ah | apply aj) | exact HB.out))) : w.heap.size ≤ gb338)); have n3_ := dH ((by rw [hg]; exact (aK (by repeat (first | (with_reducible first | exact HB.out | apply ak | apply ah | apply aj) | exact HB.out))) : w.heap.size ≤ gb338)); clear HB; have HB := n0_; have BK338 := n1_; have GW338 := n2_; have GE338 := n3_; clear n0_ n1_ n2_ n3_; clear hb hbox hg))
  have n0_ := dH (aC BK338.out)
  have n1_ := dH (aj HB.out)
  clear BK338
  clear HB
  have BK338 := n0_
  have HB := n1_
  clear n0_ n1_
  refine b_ (n := 17) (S := fun w' => w'.cell? ⟨gb338, 0, none⟩ = some (.int .i64 a0_0) ∧ w'.cell? ⟨gb338, 1, none⟩ = some (.slice A0_1 l0_1.length c0_1)) (ds := []) (dG 17 0) (by kernel_rfl) rfl rfl ⟨(ay BK338.out 0).trans rfl, (ay BK338.out 1).trans rfl⟩ (fun hHeld => ?_); refine bZ code_buffersErr.tab1 code_buffersErr.bits1 (fun HT_ HW_ => ?_)
  generalize w29.drew = w30 at BK338 HB hHeld ⊢
  refine aV (i := 0) (N := some 7) (v := ?_) (a' := ?_) (dG 17 1) rfl rfl (aU HT_.out (by kernel_rfl)) (fun _ _ _ h => h) (Or.inl ⟨by rfl, ?_⟩) ?_ ?_
  rotate_left
  ·
   intro w'
   go_simp
   with_reducible rfl
  rotate_left
  ·
   simp only [Act.put, cO, cZ, d9, aG, aH]
   rfl
  refine aV (i := 4) (N := some 11) (v := ?_) (a' := ?_) (dG 17 17) rfl rfl (aU HT_.out (by kernel_rfl)) (fun _ _ _ h => h) (Or.inl ⟨by rfl, ?_⟩) ?_ ?_
  rotate_left
  ·
   intro w'
   go_simp
   with_reducible rfl
  rotate_left
  ·
   simp only [Act.put, cO, cZ, d9, aG, aH]
   rfl
  refine aV (i := 9) (N := some 16) (v := ?_) (a' := ?_) (dG 17 529) rfl rfl (aU HT_.out (by kernel_rfl)) (fun _ _ _ h => h) (Or.inl ⟨by rfl, ?_⟩) ?_ ?_
  rotate_left
  ·
   intro w'
   go_simp
   with_reducible rfl
  rotate_left
  ·
   simp only [Act.put, cO, cZ, d9, aG, aH]
   rfl
  refine bK (i := 1) (N := some 8) (v := ?_) (a' := ?_) (dG 17 531) rfl rfl (bD HT_.out HW_.out (by kernel_rfl)) (fun _ _ _ h => h) (Or.inl ⟨by rfl, ?_⟩) hHeld ?_ ?_
  rotate_left
  ·
   rintro w' ⟨s0, s1⟩
   go_simp
   with_reducible rfl
  rotate_left
  ·
   simp only [Act.put, cO, cZ, d9, aG, aH]
   rfl
  refine bK (i := 5) (N := some 12) (v := ?_) (a' := ?_) (dG 17 563) rfl rfl (bD HT_.out HW_.out (by kernel_rfl)) (fun _ _ _ h => h) (Or.inl ⟨by rfl, ?_⟩) hHeld ?_ ?_
  rotate_left
  ·
   rintro w' ⟨s0, s1⟩
   go_simp
   with_reducible rfl
  rotate_left
  ·
   simp only [Act.put, cO, cZ, d9, aG, aH]
   rfl
  refine aV (i := 6) (N := some 13) (v := ?_) (a' := ?_) (dG 17 627) rfl rfl (aU HT_.out (by kernel_rfl)) (fun _ _ _ h => h) (Or.inl ⟨by rfl, ?_⟩) ?_ ?_
  rotate_left
  ·
   intro w'
   go_simp
   with_reducible rfl
  rotate_left
  ·
   simp only [Act.put, cO, cZ, d9, aG, aH]
   rfl
  refine aV (i := 7) (N := some 14) (v := ?_) (a' := ?_) (dG 17 755) rfl rfl (aU HT_.out (by kernel_rfl)) (fun _ _ _ h => h) (Or.inl ⟨by rfl, ?_⟩) ?_ ?_
  rotate_left
  ·
   intro w'
   go_simp
   with_reducible rfl
  rotate_left
  ·
   simp only [Act.put, cO, cZ, d9, aG, aH]
   rfl
  refine bK (i := 10) (N := some 17) (v := ?_) (a' := ?_) (dG 17 1779) rfl rfl (bD HT_.out HW_.out (by kernel_rfl)) (fun _ _ _ h => h) (Or.inl ⟨by rfl, ?_⟩) hHeld ?_ ?_
  rotate_left
  ·
   rintro w' ⟨s0, s1⟩
   go_simp
   with_reducible rfl
  rotate_left
  ·
   simp only [Act.put, cO, cZ, d9, aG, aH]
   rfl
  refine aV (i := 11) (N := some 18) (v := ?_) (a' := ?_) (dG 17 3827) rfl rfl (aU HT_.out (by kernel_rfl)) (fun _ _ _ h => h) (Or.inl ⟨by rfl, ?_⟩) ?_ ?_
  rotate_left
  ·
   intro w'
   go_simp
   with_reducible rfl
  rotate_left
  ·
   simp only [Act.put, cO, cZ, d9, aG, aH]
   rfl
  refine aV (i := 12) (N := some 19) (v := ?_) (a' := ?_) (dG 17 7923) rfl rfl (aU HT_.out (by kernel_rfl)) (fun _ _ _ h => h) (Or.inl ⟨by rfl, ?_⟩) ?_ ?_
  rotate_left
  ·
   intro w'
   go_simp
   with_reducible rfl
  rotate_left
  ·
   simp only [Act.put, cO, cZ, d9, aG, aH]
   rfl
  refine bR (i := 2) (N := some 9) (dG 17 7927) rfl rfl (bB HT_.out (by kernel_rfl)) (by decide) (fun K hK => ?_)
  refine bQ Try.func68 (by kernel_rfl) rfl #[.int .i64 a0_0] (by rfl) rfl rfl (by (try simp only [dh, dn, dw]); first | done | rfl | (simp only [dx, dz]; rfl) | (simp only [gt_iff_lt, dA]; rfl) | (simp [Act.eval]; done) | (simp [Act.eval, *]; done)) ?_
  with_reducible refine (code_isLength.calls a0_0 t339 _ A2.out).mono ?_
  rintro e w' ⟨rfl, ⟨nd, rfl⟩⟩
  refine ⟨_, rfl, ?_⟩
  refine hK.out _ _ ⟨(ay BK338.out 0).trans rfl, (ay BK338.out 1).trans rfl⟩ (fun hHeld => ?_)
  clear hK K
  refine bG (a' := ?_) ?_ ?_
  rotate_left
  ·
   show Act.put _ (some 9) _ = _
   simp only [Act.put, cO, cZ, d9, aG, aH]
   rfl
  refine bR (i := 3) (N := some 10) (dG 17 7935) rfl rfl (bB HT_.out (by kernel_rfl)) (by decide) (fun K hK => ?_)
  refine bQ Try.func74 (by kernel_rfl) rfl #[.bool t339, .int .i64 2] (by rfl) rfl rfl (by (try simp only [dh, dn, dw]); first | done | rfl | (simp only [dx, dz]; rfl) | (simp only [gt_iff_lt, dA]; rfl) | (simp [Act.eval]; done) | (simp [Act.eval, *]; done)) ?_
  with_reducible refine (code_unless.calls t339 2 t340 _ A3.out).mono ?_
  rintro e w' ⟨rfl, ⟨nd, rfl⟩⟩
  refine ⟨_, rfl, ?_⟩
  refine hK.out _ _ ⟨(ay BK338.out 0).trans rfl, (ay BK338.out 1).trans rfl⟩ (fun hHeld => ?_)
  clear hK K
  refine bG (a' := ?_) ?_ ?_
  rotate_left
  ·
   show Act.put _ (some 10) _ = _
   simp only [Act.put, cO, cZ, d9, aG, aH]
   rfl
  refine bR (i := 8) (N := some 15) (dG 17 8191) rfl rfl (bB HT_.out (by kernel_rfl)) (by decide) (fun K hK => ?_)
  refine bQ Try.func74 (by kernel_rfl) rfl #[.bool (decide ((l0_1.length : Int) > 0)), .int .i64 10] (by rfl) rfl rfl (by (try simp only [dh, dn, dw]); first | done | rfl | (simp only [dx, dz]; rfl) | (simp only [gt_iff_lt, dA]; rfl) | (simp [Act.eval]; done) | (simp [Act.eval, *]; done)) ?_
  with_reducible refine (code_unless.calls (decide ((l0_1.length : Int) > 0)) 10 t341 _ A4.out).mono ?_
  rintro e w' ⟨rfl, ⟨nd, rfl⟩⟩
  refine ⟨_, rfl, ?_⟩
  refine hK.out _ _ ⟨(ay BK338.out 0).trans rfl, (ay BK338.out 1).trans rfl⟩ (fun hHeld => ?_)
  clear hK K
  refine bG (a' := ?_) ?_ ?_
  rotate_left
  ·
   show Act.put _ (some 15) _ = _
   simp only [Act.put, cO, cZ, d9, aG, aH]
   rfl
  refine bR (i := 13) (N := some 20) (dG 17 16383) rfl rfl (bB HT_.out (by kernel_rfl)) (by decide) (fun K hK => ?_)
  refine bQ Try.func74 (by kernel_rfl) rfl #[.bool (decide ((l0_1.length : Int) ≤ 8)), .int .i64 8] (by rfl) rfl rfl (by (try simp only [dh, dn, dw]); first | done | rfl | (simp only [dx, dz]; rfl) | (simp only [gt_iff_lt, dA]; rfl) | (simp [Act.eval]; done) | (simp [Act.eval, *]; done)) ?_
  with_reducible refine (code_unless.calls (decide ((l0_1.length : Int) ≤ 8)) 8 t342 _ A5.out).mono ?_
  rintro e w' ⟨rfl, ⟨nd, rfl⟩⟩
  refine ⟨_, rfl, ?_⟩
  refine hK.out _ _ ⟨(ay BK338.out 0).trans rfl, (ay BK338.out 1).trans rfl⟩ (fun hHeld => ?_)
  clear hK K
  refine bG (a' := ?_) ?_ ?_
  rotate_left
  ·
   show Act.put _ (some 20) _ = _
   simp only [Act.put, cO, cZ, d9, aG, aH]
   rfl
  refine bR (i := 14) (N := some 21) (dG 17 32767) rfl rfl (bB HT_.out (by kernel_rfl)) (by decide) (fun K hK => ?_)
  refine Kd.R_lit_step (Kd.int .i64) _ 29 ?hg (N := 21) ?hd (xs := ([t340, t341, t342] : List Int)) (inner := [.int .i64 t340, .int .i64 t341, .int .i64 t342]) (ok := fun _ => True) (okp := fun _ => True) ?hr ?hp (fun _ hk => hk) trivial (Below.refl _ _) (Nat.le_refl _) (by simp) ?_; (case hd => rfl); (case hg => rfl); (case hr => first | (go_simp; done) | (go_simp; rfl)); (case hp => exact (Reps.one (show Kd.M (Kd.int .i64) _ _ _ t340 [.int .i64 t340] from rfl) (Reps.one (show Kd.M (Kd.int .i64) _ _ _ t341 [.int .i64 t341] from rfl) (Reps.one (show Kd.M (Kd.int .i64) _ _ _ t342 [.int .i64 t342] from rfl) (Reps.none _ _)))))
  intro v344 w31 ho32 hb hg_ hnew_
  clear hg_ hnew_
  (first | rw [← Ny343.out] at ho32 | (simp only [Int.reduceToNat] at ho32; rw [← Ny343.out] at ho32))
  have n0_ := dH (Kd.bP ho32 (aK (by repeat (first | (with_reducible first | exact HB.out | apply ak | apply ah | apply aj | refine aA ?_ GE338.out) | exact HB.out))))
  have n1_ := dH (aQ (g := gb338) (o := .cells #[.int .i64 a0_0, .slice A0_1 l0_1.length c0_1] 28 (0, 0)) (by (with_reducible repeat (first | refine av ?_ _ | refine aC ?_ | refine au ?_ _)); exact BK338.out) hb)
  have n2_ := dH (aM (by repeat (first | (with_reducible first | exact HB.out | apply ak | apply ah | apply aj | refine aA ?_ GE338.out) | exact HB.out)) hb)
  clear BK338
  clear HB
  have HO345 := n0_
  have BK338 := n1_
  have HB := n2_
  clear n0_ n1_ n2_
  clear hb ho32
  obtain ⟨Ao33, co33, eo33⟩ := Kd.bN HO345.out
  (first | subst eo33 | (injection eo33 with f1_ f2_ f3_; have f4_ := f1_.symm; have f5_ := f3_.symm; clear f1_ f2_ f3_; subst f4_; subst f5_))
  refine hK.out _ _ ⟨(ay BK338.out 0).trans rfl, (ay BK338.out 1).trans rfl⟩ (fun hHeld => ?_)
  clear hK K
  refine bG (a' := ?_) ?_ ?_
  rotate_left
  ·
   show Act.put _ (some 21) _ = _
   simp only [Act.put, cO, cZ, d9, aG, aH]
   rfl
  refine bR (i := 15) (N := some 22) (dG 17 65535) rfl rfl (bB HT_.out (by kernel_rfl)) (by decide) (fun K hK => ?_)
  refine bQ Try.func72 (by kernel_rfl) rfl #[.slice Ao33 y343.length co33] (by rfl) rfl rfl (by (try simp only [dh, dn, dw]); first | done | rfl | (simp only [dx, dz]; rfl) | (simp only [gt_iff_lt, dA]; rfl) | (simp [Act.eval]; done) | (simp [Act.eval, *]; done)) ?_
  with_reducible refine (code_first.calls k _ _ y343 t346 _ ?side1 ?side2 A6.out).mono ?_
  (case side1 => repeat (first | exact (Kd.aZ HO345.out).2.2 | (with_reducible refine Kd.bA ?_ _) | (with_reducible refine Kd.bC ?_ _) | (with_reducible refine Kd.bJ ?_)))
  (case side2 => exact (Kd.aZ HO345.out).2.1)
  rintro e w' ⟨rfl, ⟨nd, rfl⟩⟩
  refine ⟨_, rfl, ?_⟩
  refine hK.out _ _ ⟨(ay BK338.out 0).trans rfl, (ay BK338.out 1).trans rfl⟩ (fun hHeld => ?_)
  clear hK K
  refine bG (a' := ?_) ?_ ?_
  rotate_left
  ·
   show Act.put _ (some 22) _ = _
   simp only [Act.put, cO, cZ, d9, aG, aH]
   rfl
  refine aV (i := 16) (N := some 3) (v := ?_) (a' := ?_) (dG 17 131071) rfl rfl (aU HT_.out (by kernel_rfl)) (fun _ _ _ h => h) (Or.inl ⟨by rfl, ?_⟩) ?_ ?_
  rotate_left
  ·
   intro w'
   go_simp
   with_reducible rfl
  rotate_left
  ·
   simp only [Act.put, cO, cZ, d9, aG, aH]
   rfl
  refine done_ (cK HT_.out (by kernel_rfl)) ?_
  try go_wp2
  go_ret
  exact ⟨by first | rfl | (simp [aX, aY] <;> rfl) | (simp [*, aX, aY] <;> rfl), by repeat (first | (with_reducible first | exact HB.out | apply ak | apply ah | apply aj | refine aA ?_ GE338.out) | exact HB.out)⟩
def code_combined.l0 : Nat → List Int → List Int → List Int → Int → Int → Option (List Int × Int)
 | 0, _, _, _, _, _ => none
 | k + 1, x1, x6, x9, x10, x11 => if x11 < x10 then (if 0 ≤ x11 then (if x11 < (x9.length : Int) then (if x11 < (x1.length : Int) then (if x6.length < 17592186044416 then (code_combined.l0 k x1 (x6 ++ [wrap64 ((rd x9 x11) + (rd x1 x11))]) x9 x10 (wrap64 (x11 + 1))) else (none)) else (none)) else (none)) else (none)) else ((slices_ContainsFunc_int_int_at_code_combined_1.f x6 ()).bind fun t355 => (if t355 = true then (some (([] : List Int), 8)) else (some (x6, 0))))
def code_combined.f (k : Nat) (l0 : List Int) (l1 : List Int) : Option (List Int × Int) := code_combined.l0 k l1 ([] : List Int) l0 (l0.length : Int) 0
theorem code_combined.calls (k : Nat) (A0 : Option Addr) (c0 : Nat) (l0 : List Int) (A1 : Option Addr) (c1 : Nat) (l1 : List Int) (r1 : List Int) (r2 : Int) (w : World) (hr0 : Kd.C (Kd.int .i64) w A0 l0.length l0) (hc0 : l0.length ≤ c0) (hr1 : Kd.C (Kd.int .i64) w A1 l1.length l1) (hc1 : l1.length ≤ c1) (h : code_combined.f k l0 l1 = some (r1, r2)) :
  Calls Try.prog 79 #[.slice A0 l0.length c0, .slice A1 l1.length c1] w fun e w' => ∃ v0_ : Value, e = .returned (.tuple #[v0_, .int .i64 r2]) ∧ Kd.R (Kd.int .i64) 3 w' w.heap.size (fun _ => True) v0_ r1 ∧ Below w.heap.size w w' := by
 have HR0 := dH hr0
 have HC0 := dH hc0
 clear hr0 hc0
 have HR1 := dH hr1
 have HC1 := dH hc1
 clear hr1 hc1
 have HB := dH (Below.refl w.heap.size w)
 have H : (code_combined.l0 k l1 ([] : List Int) l0 (l0.length : Int) 0) = some (r1, r2) := h
 clear h
 have H' := dH H
 clear H
 go_enter Try.func79, Try.ntmps79
 go_wp2
 go_loopg [6, 11] k (fun kq v6 v11 w' => ∃ (x6_1 : List Int) (x11_1 : Int), v11 = .int .i64 x11_1 ∧ Aside0 (code_combined.l0 kq l1 x6_1 l0 (l0.length : Int) x11_1 = some (r1, r2)) ∧ Aside0 (kq ≤ k) ∧ Aside0 (Kd.R (Kd.int .i64) 3 w' w.heap.size (fun _ => True) v6 x6_1) ∧ Aside0 (Below w.heap.size w w'))
 case atStart => exact ⟨(([] : List Int)), (0), (by first | rfl | (simp; done) | (simp [*]; done)), H', ⟨Nat.le_refl _⟩, ⟨by first | exact Kd.R_nil _ _ _ _ _ | exact Kd.N_nil _ _ _ _ _ | exact Kd.V_nil _ _ _ _ _ | exact Kd.Q_nil _ _ _ _ _ | exact Kd.S_nil _ _ _ _ _⟩, ⟨by repeat (first | (with_reducible first | exact HB.out | apply ak | apply ah | apply aj) | exact HB.out)⟩⟩
 case round =>
  clear H'
  try clear c1
  try clear p2
  obtain ⟨x6_1, x11_1, rfl, HA, HK1, HO_6, HB⟩ := hrel
  cases gk with
  | zero => exact absurd HA.out (by simp [code_combined.l0])
  | succ k1 =>
   have H := HA.out
   clear HA
   simp only [code_combined.l0] at H
   by_cases c3 : x11_1 < (l0.length : Int)
   ·
    rw [if_pos c3] at H
    have c3b0 : decide (x11_1 < (l0.length : Int)) = true := decide_eq_true c3
    clear c3
    by_cases c4 : 0 ≤ x11_1
    ·
     rw [if_pos c4] at H
     have c4b0 : decide (0 ≤ x11_1) = true := decide_eq_true c4
     clear c4
     by_cases c5 : x11_1 < (l0.length : Int)
     ·
      rw [if_pos c5] at H
      have c5b0 : decide (x11_1 < (l0.length : Int)) = true := decide_eq_true c5
      clear c5
      by_cases c6 : x11_1 < (l1.length : Int)
      ·
       rw [if_pos c6] at H
       have c6b0 : decide (x11_1 < (l1.length : Int)) = true := decide_eq_true c6
       clear c6
       by_cases c7 : x6_1.length < 17592186044416
       ·
        rw [if_pos c7] at H
        have LMc7 := dH c7
        clear c7
        obtain ⟨y352, hy352⟩ : ∃ y_ : List Int, y_ = (x6_1 ++ [wrap64 ((rd l0 x11_1) + (rd l1 x11_1))]) := ⟨_, rfl⟩
        replace H : (code_combined.l0 k1 l1 y352 l0 (l0.length : Int) (wrap64 (x11_1 + 1))) = some (r1, r2) := by first | (rw [hy352]; with_reducible exact H) | (have H2_ := (Option.bind_some _ _).symm.trans H; rw [hy352]; with_reducible exact H2_) | (have H2_ := (Option.bind_some _ _).symm.trans H; with_reducible exact H2_) | with_reducible exact H | (rw [hy352]; exact H) | exact H
        have Ny352 := dH hy352
        clear hy352
        have H' := dH H
        clear H
        have p350 : 0 ≤ (x11_1 : Int) := dD (by first | (with_reducible assumption) | assumption)
        have q350 : x11_1 < (l0.length : Int) := dD (by first | (with_reducible assumption) | assumption)
        obtain ⟨ad350, e350, hx350_0⟩ := Kd.bX HR0.out x11_1 p350 q350
        cases e350
        replace hx350_0 := (HB.out.cell (dB w _ hx350_0)).trans hx350_0
        replace p350 := eq_true p350
        replace q350 := eq_true q350
        have p351 : 0 ≤ (x11_1 : Int) := dD (by first | (with_reducible assumption) | assumption)
        have q351 : x11_1 < (l1.length : Int) := dD (by first | (with_reducible assumption) | assumption)
        obtain ⟨ad351, e351, hx351_0⟩ := Kd.bX HR1.out x11_1 p351 q351
        cases e351
        replace hx351_0 := (HB.out.cell (dB w _ hx351_0)).trans hx351_0
        replace p351 := eq_true p351
        replace q351 := eq_true q351
        go_wp2_with (first | ((with_reducible refine gate_builtin (b := .append) (xs := #[.tmp 16, .tmp 23]) rfl ?_); at_builtin; refine Kd.R_append (Kd.int .i64) (w0 := w) w.heap.size rfl (.tmp 16) (.tmp 23) 34 3 (.int .i64 0) 8 rfl Try.underlying34 info3 rfl (by decide) (by omega) u6 x6_1 (wrap64 ((rd l0 x11_1) + (rd l1 x11_1))) [.int .i64 (wrap64 ((rd l0 x11_1) + (rd l1 x11_1)))] (fun _ => True) (fun _ => False) rfl rfl ?aP (fun _ hk => hk.elim) ?aF ?aO ?aB ?aS ?aL ?_; (case aP => exact rfl); (case aB => exact (by repeat (first | (with_reducible first | exact HB.out | apply ak | apply ah | apply aj) | exact HB.out))); (case aF => exact (fun _ _ => trivial)); (case aO => exact (by (with_reducible repeat (first | apply Kd.aI | apply Kd.aJ | apply Kd.aN)); exact HO_6.out)); (case aS => exact (aK (by repeat (first | (with_reducible first | exact HB.out | apply ak | apply ah | apply aj) | exact HB.out)))); (case aL => have := LMc7.out; omega); intro v353 w8 ho hb hg hat; rw [← Ny352.out] at ho; have n0_ := dH (hb); have n1_ := dH (ho); clear HB; clear HO_6; have HB := n0_; have HO354 := n1_; clear n0_ n1_; clear ho hb hg hat))
        go_roundg k1
        case measure => have := HK1.out; omega
        case rel => exact ⟨(y352), (wrap64 (x11_1 + 1)), (by first | rfl | (simp; done) | (simp [*]; done)), H', ⟨by have := HK1.out; omega⟩, ⟨by (with_reducible repeat (first | apply Kd.aI | apply Kd.aJ | apply Kd.aN)); exact HO354.out⟩, ⟨by repeat (first | (with_reducible first | exact HB.out | apply ak | apply ah | apply aj) | exact HB.out)⟩⟩
       ·
        rw [if_neg c7] at H
        exact absurd H (by simp)
      ·
       rw [if_neg c6] at H
       exact absurd H (by simp)
     ·
      rw [if_neg c5] at H
      exact absurd H (by simp)
    ·
     rw [if_neg c4] at H
     exact absurd H (by simp)
   ·
    rw [if_neg c3] at H
    have c3b0 : decide (x11_1 < (l0.length : Int)) = false := decide_eq_false c3
    clear c3
    replace H := dF.mp H
    obtain ⟨t355, A90, H⟩ := H
    replace H : (if t355 = true then (some (([] : List Int), 8)) else (some (x6_1, 0))) = some (r1, r2) := H
    have A9 := dH A90
    clear A90
    by_cases c10 : t355 = true
    ·
     subst c10
     have H1 : (some (([] : List Int), 8)) = some (r1, r2) := by rw [if_pos rfl] at H; exact H
     clear H
     have H := H1
     clear H1
     simp only [Option.some.injEq, Prod.mk.injEq] at H
     obtain ⟨rfl, rfl⟩ := H
     obtain ⟨Ao11, co11, eo11⟩ := Kd.bN HO_6.out
     subst eo11
     go_wp2_with (first | ((with_reducible refine aT (f := 117) rfl ?_); refine bq (some 27) rfl rfl Try.func117 (by kernel_rfl) rfl #[.slice Ao11 x6_1.length co11, .func (.func 146) #[] #[]] rfl (by (try simp only [dh, dn, dw]); first | done | rfl | (simp only [dx, dz]; rfl) | (simp only [gt_iff_lt, dA]; rfl) | (simp [Act.eval]; done) | (simp [Act.eval, *]; done)) ?_; (with_reducible refine (slices_ContainsFunc_int_int_at_code_combined_1.calls _ _ x6_1 () true _ ?side1 ?side2 A9.out).mono ?_); (case side1 => repeat (first | exact (Kd.aZ HO_6.out).2.2 | (with_reducible refine Kd.bA ?_ _) | (with_reducible refine Kd.bC ?_ _) | (with_reducible refine Kd.bJ ?_))); (case side2 => exact (Kd.aZ HO_6.out).2.1); rintro e w12 ⟨rfl, hb⟩; refine ⟨_, rfl, ?_⟩; have n0_ := dH (Kd.cu (by (with_reducible repeat (first | apply Kd.aI | apply Kd.aJ | apply Kd.aN)); exact HO_6.out) hb); have n1_ := dH (aM (by repeat (first | (with_reducible first | exact HB.out | apply ak | apply ah | apply aj) | exact HB.out)) hb); clear HO_6; clear HB; have HO_6 := n0_; have HB := n1_; clear n0_ n1_; (try clear hb); (try clear hb2); (try clear hk); (try clear hi)))
     go_ret2
     exact ⟨_, by first | rfl | (simp [aX, aY] <;> rfl) | (simp [*, aX, aY] <;> rfl), by first | exact Kd.R_nil _ _ _ _ _ | exact Kd.N_nil _ _ _ _ _ | exact Kd.V_nil _ _ _ _ _ | exact Kd.Q_nil _ _ _ _ _ | exact Kd.S_nil _ _ _ _ _, by repeat (first | (with_reducible first | exact HB.out | apply ak | apply ah | apply aj) | exact HB.out)⟩
    ·
     replace c10 := Bool.eq_false_iff.mpr c10
     subst c10
     have H1 : (some (x6_1, 0)) = some (r1, r2) := by rw [if_neg (show ¬ (false = true) by decide)] at H; exact H
     clear H
     have H := H1
     clear H1
     simp only [Option.some.injEq, Prod.mk.injEq] at H
     obtain ⟨rfl, rfl⟩ := H
     obtain ⟨Ao13, co13, eo13⟩ := Kd.bN HO_6.out
     subst eo13
     go_wp2_with (first | ((with_reducible refine aT (f := 117) rfl ?_); refine bq (some 27) rfl rfl Try.func117 (by kernel_rfl) rfl #[.slice Ao13 x6_1.length co13, .func (.func 146) #[] #[]] rfl (by (try simp only [dh, dn, dw]); first | done | rfl | (simp only [dx, dz]; rfl) | (simp only [gt_iff_lt, dA]; rfl) | (simp [Act.eval]; done) | (simp [Act.eval, *]; done)) ?_; (with_reducible refine (slices_ContainsFunc_int_int_at_code_combined_1.calls _ _ x6_1 () false _ ?side1 ?side2 A9.out).mono ?_); (case side1 => repeat (first | exact (Kd.aZ HO_6.out).2.2 | (with_reducible refine Kd.bA ?_ _) | (with_reducible refine Kd.bC ?_ _) | (with_reducible refine Kd.bJ ?_))); (case side2 => exact (Kd.aZ HO_6.out).2.1); rintro e w14 ⟨rfl, hb⟩; refine ⟨_, rfl, ?_⟩; have n0_ := dH (Kd.cu (by (with_reducible repeat (first | apply Kd.aI | apply Kd.aJ | apply Kd.aN)); exact HO_6.out) hb); have n1_ := dH (aM (by repeat (first | (with_reducible first | exact HB.out | apply ak | apply ah | apply aj) | exact HB.out)) hb); clear HO_6; clear HB; have HO_6 := n0_; have HB := n1_; clear n0_ n1_; (try clear hb); (try clear hb2); (try clear hk); (try clear hi)))
     go_ret2
     exact ⟨_, by first | rfl | (simp [aX, aY] <;> rfl) | (simp [*, aX, aY] <;> rfl), by (with_reducible repeat (first | apply Kd.aI | apply Kd.aJ | apply Kd.aN)); exact HO_6.out, by repeat (first | (with_reducible first | exact HB.out | apply ak | apply ah | apply aj) | exact HB.out)⟩
end Go.Proofs.Ytbjiookpiminmaa.PCode
end
section
namespace Go.Proofs.Ytbjiookpiminmaa.Bridge
open Go.Proofs.YtbjiookpiminmaaW.PrintLast
theorem RowsIn_of {l n : Nat} {P : Program} {row : String} {args : Array Value} {w : World} {R : Value → World → Prop} (h : Rows P row args w R) : RowsIn (Fence.wide.inRound l) n P row args w R :=
 fun c cs _ => let ⟨v, w', r, s⟩ := h c cs; ⟨v, w', r, stepsIn_wide.2 s⟩
theorem CallsIn_of {l n : Nat} {P : Program} {f : FuncId} {args : Array Value} {w : World} {R : Ending → World → Prop} (h : Calls P f args w R) : CallsIn (Fence.wide.inRound l) n P f args w R :=
 (callsIn_wide (n := n)).2 h
theorem wpIn_of_wp {l n : Nat} {P : Program} {o : Oper} {a : Act} {w : World} {K : Act → World → Prop} {Q : Exit → Act → World → Prop} (hd : ∀ c, o.op ≠ .defer c)
  (h : o.wp P a w K Q) : o.wpIn (Fence.wide.inRound l) n P a w K Q := by
 refine ⟨fun _ _ => trivial, ?_⟩
 rw [Oper.semAt_eq _ _ _ hd]
 unfold Oper.wp at h
 generalize (execOp a.eval o).run P w = r at h ⊢
 cases r with
 | ok x w' =>
  cases x <;> simp only [Oper.upon, Oper.uponIn] at h ⊢
  case value => exact h
  case skip => exact h
  case defer => exact h
  case enter => exact ⟨fun h0 => by simp [Fence.wide] at h0, CallsIn_of h⟩
  case row => exact ⟨fun h0 => by simp [Fence.wide] at h0, RowsIn_of h⟩
 | halt x w' => cases x <;> simp only [Oper.upon, Oper.uponIn] at h ⊢ <;> exact h
def noDefer (ops : Array Oper) : Bool := ops.all fun o => match o.op with | .defer _ => false | _ => true
theorem noDefer_spec {ops : Array Oper} (h : noDefer ops = true) {i : Nat} {o : Oper} (ho : ops[i]? = some o) : ∀ c, o.op ≠ .defer c := by
 intro c e
 have hm : o ∈ ops := Array.mem_of_getElem? ho
 have := Array.all_eq_true_iff_forall_mem.1 h o hm
 simp [e] at this
theorem anyIn_of_any {l n : Nat} {P : Program} {md : Region.Mode} {ops : Array Oper} {Q : Exit → Act → World → Prop} (hd : noDefer ops = true) (hq : ¬ LetsOut Q) :
  ∀ (fuel : Nat) (listed : Array Bool) (a : Act) (w : World), wpAny P md ops Q fuel listed a w → wpAnyIn (Fence.wide.inRound l) n P md ops Q fuel listed a w
 | 0, _, _, _, h => h
 | fuel + 1, listed, a, w, h => ⟨h.1, fun i hi => by
   have h2 := h.2 i hi
   unfold wpOp at h2
   unfold wpOpIn
   split
   ·
    rename_i ho
    simp only [ho] at h2
    exact anyIn_of_any hd hq fuel _ _ _ h2
   ·
    rename_i o ho
    simp only [ho] at h2
    split
    ·
     rename_i hw
     simp only [hw, if_true] at h2
     rcases h2 with h2 | h2
     ·
      exact Oper.wpIn_mono (fun a w k => anyIn_of_any hd hq fuel _ _ _ k) (wpIn_of_wp (noDefer_spec hd ho) h2)
     ·
      exact absurd h2.2 hq
    ·
     rename_i hw
     simp only [hw] at h2
     exact ⟨fun _ _ => trivial, anyIn_of_any hd hq fuel _ _ _ h2⟩⟩
theorem startIn_ {l n : Nat} {P : Program} {ops : Array Oper} {Q : Exit → Act → World → Prop} {S : World → Prop} {ds : List Nat} {id m : Nat} {a : Act} {w : World} (bs : Array Bool) (hm : P.follows .mixedOrders = true) (hd : noDefer ops = true) (hq : ∀ a w, ¬ Q .outgrown a w) (hn : ops.size = m) (hl : Array.replicate m false = bs) (hS : S w.drew)
  (h : S w.drew → wpAnyLast P .any ops Q S ds m bs a w.drew) : (Code.region id ops true).wpIn (Fence.wide.inRound l) n P Q a w := by
 subst hn
 subst hl
 exact wpIn_region_any hm (anyIn_of_any hd (fun ⟨a, w, k⟩ => hq a w k) _ _ _ _ (wpAny_of_last _ _ _ _ (h hS)))
end Go.Proofs.Ytbjiookpiminmaa.Bridge
end
section
namespace Go.Proofs.Ytbjiookpiminmaa.PCode
open Go.RowKit Go.Shelf Go.Proofs.YtbjiookpiminmaaW.PrintWords Go.Proofs.YtbjiookpiminmaaW.PrintLast Go.Proofs.YtbjiookpiminmaaW.PrintMore Go.Proofs.Ytbjiookpiminmaa.Bridge
attribute [local go_sem] Oper.semAt_some
def placeOf (length version i : Nat) : Nat := (version * length / 4 + i) % length
abbrev encP (length version : Nat) (i : Nat) : Array Value := #[.int .i64 (i : Int), .int .i64 ((placeOf length version i : Nat) : Int)]
def KpR (lo hi : Nat) (W W' : World) : Prop := ∀ i, lo ≤ i → i < hi → W'.heap[i]? = W.heap[i]?
theorem KpR.refl (lo hi : Nat) (W : World) : KpR lo hi W W := fun _ _ _ => rfl
theorem KpR.trans {lo hi : Nat} {A B C : World} (h : KpR lo hi A B) (k : KpR lo hi B C) : KpR lo hi A C := fun i h1 h2 => (k i h1 h2).trans (h i h1 h2)
theorem KpR.cell {lo hi : Nat} {W W' : World} (h : KpR lo hi W W') {b o : Nat} (h1 : lo ≤ b) (h2 : b < hi) : W'.cell? ⟨b, o, none⟩ = W.cell? ⟨b, o, none⟩ := World.cell?_of_block (h b h1 h2)
theorem KpR.putObj {lo hi l : Nat} (W : World) (o' : Obj) (h : hi ≤ l) : KpR lo hi W (W.putObj l o') := fun i _ h2 => World.putObj_heap_other (by omega)
theorem KpR.grown {lo hi : Nat} {W W' : World} {row : Option Nat} (h : W.grownBy W' row) (hs : hi ≤ W.heap.size) (hr : ∀ r, row = some r → r < lo ∨ hi ≤ r) : KpR lo hi W W' := fun i h1 h2 => h.block i (by omega) (fun e => by have := hr i e.symm; omega)
theorem places1_in {β : Type} (en : β → Nat) (L : List β) (l lo hi length version count : Nat) (hL : L.map en = List.range count) (hv : version ≤ 3) (hl1 : 1 ≤ length) (hl2 : length ≤ 1000) (hc : count ≤ 1000) (n : Nat) (hn : 1 ≤ n) (B1 B2 B3 : Nat) (h2 : lo ≤ B2) (h3 : B2 < hi) (J Jx : List β → World → Prop)
  (hY : ∀ pre x W, J pre W → pre.length < count → YieldAt Fence.wide (n - 1) Try.prog l (encP length version (en x)) W fun e W' =>
   (e = .returned (.bool true) ∧ J (pre ++ [x]) W' ∧ KpR lo hi W W') ∨ (e = .returned (.bool false) ∧ Jx (pre ++ [x]) W'))
  (W : World) (c1 : W.cell? ⟨B1, 0, none⟩ = some (.int .i64 (version : Int))) (c2 : W.cell? ⟨B2, 0, none⟩ = some (.int .i64 (length : Int))) (c3 : W.cell? ⟨B3, 0, none⟩ = some (.int .i64 (count : Int))) (h0 : J [] W) :
  CallsIn Fence.wide n Try.prog 217 #[.func (.yield l) #[] #[], .pointer (some ⟨B1, 0, none⟩), .pointer (some ⟨B2, 0, none⟩), .pointer (some ⟨B3, 0, none⟩)] W fun e W' => (∃ v, e = .returned v) ∧
   ((∃ ys, ys = L ∧ J ys W') ∨ (∃ pre, True ∧ Jx pre W')) := by
 have hLl : L.length = count := by have := congrArg List.length hL; simpa using this
 have HL := dH hL
 clear hL
 obtain ⟨m, hm⟩ : ∃ m, version * length = m := ⟨_, rfl⟩
 have hb : m ≤ 3000 := hm ▸ Nat.le_trans (Nat.mul_le_mul hv hl2) (by omega)
 have hw : wrap64 ((version : Int) * (length : Int)) = (m : Int) := by rw [← Int.natCast_mul, hm]; unfold wrap64; omega
 have HM := Lib.hid hm
 clear hm
 refine callsIn_of_wp Try.func217 rfl trivial ?_ rfl
 simp only [Try.ntmps217, List.size_toArray, List.length_cons, List.length_nil, Nat.reduceAdd, Nat.reduceSub, Array.replicate_succ, Array.replicate_zero, List.push_toArray, List.append_toArray, List.nil_append, List.cons_append]
 gi_wp2
 gi_loopw [6, 12] (fun _ v12 wr => ∃ k : Nat, k ≤ count ∧ v12 = .int .i64 (k : Int) ∧ J (L.take k) wr ∧ Aside0 (KpR lo hi W wr)) (fun _ v12 _ => count - (intOf v12).toNat)
 case atStart => exact ⟨0, Nat.zero_le _, rfl, h0, ⟨KpR.refl _ _ _⟩⟩
 case round =>
  obtain ⟨k, hk, rfl, hJk, HB⟩ := hrel
  have d2 : wr.cell? ⟨B2, 0, none⟩ = some (.int .i64 (length : Int)) := (HB.out.cell h2 h3).trans c2
  clear c1 c2 c3
  by_cases hlt : k < count
  ·
   have hkl : k < L.length := by omega
   have hek : en L[k] = k := by
    have h1 : (L.map en)[k]? = some k := by rw [HL.out]; simp [hlt]
    rw [List.getElem?_map, List.getElem?_eq_getElem hkl] at h1
    simpa using h1
   obtain ⟨fn, tmps, assign, body, hy, hR⟩ := hY (L.take k) L[k] wr hJk (by rw [dz]; omega)
   rw [hek] at hy
   clear hek
   have hp : ((placeOf length version k : Nat) : Int) = ((m : Int) / 4 + (k : Int)) % (length : Int) := by
    unfold placeOf; rw [HM.out]; simp
   dsimp only [encP] at hy
   rw [hp] at hy
   clear hp hw
   gi_wp2
   refine hR.mono ?_
   rintro e W3 (⟨rfl, hJ3, hk3⟩ | ⟨rfl, hJx3⟩)
   ·
    gi_wp2
    go_roundw
    case rel => exact ⟨k + 1, by omega, by go_num, by rw [List.take_succ_eq_append_getElem hkl]; exact hJ3, ⟨HB.out.trans hk3⟩⟩
    case measure => simp [intOf]; omega
   ·
    gi_wp2
    refine bodyPost_ret (results_none rfl _ _ _) rfl ?_
    exact ⟨⟨_, rfl⟩, .inr ⟨L.take k ++ [L[k]], trivial, hJx3⟩⟩
  ·
   have : k = count := by omega
   subst this
   gi_wp2
   go_end0
   exact ⟨⟨_, rfl⟩, .inl ⟨_, rfl, by rw [List.take_of_length_le (by omega)] at hJk; exact hJk⟩⟩
theorem places_stops {β : Type} (en : β → Nat) (L : List β) (length version count : Nat) (hL : L.map en = List.range count) (hv : version ≤ 3) (hl1 : 1 ≤ length) (hl2 : length ≤ 1000) (hc : count ≤ 1000) (n : Nat) (hn : 1 ≤ n) (lo hi B1 B2 B3 : Nat) (w : World) (h2 : lo ≤ B2) (h3 : B2 < hi) (b1 : B1 < w.heap.size) (b2 : B2 < w.heap.size) (b3 : B3 < w.heap.size)
  (c1 : w.cell? ⟨B1, 0, none⟩ = some (.int .i64 (version : Int))) (c2 : w.cell? ⟨B2, 0, none⟩ = some (.int .i64 (length : Int))) (c3 : w.cell? ⟨B3, 0, none⟩ = some (.int .i64 (count : Int))) :
  SeqStopsK Fence.wide n Try.prog 217 #[.pointer (some ⟨B1, 0, none⟩), .pointer (some ⟨B2, 0, none⟩), .pointer (some ⟨B3, 0, none⟩)] (fun x => encP length version (en x)) (KpR lo hi) (fun ys => ys = L) (fun _ => True) count w := fun l J Jx W hW _ _ hY h0 =>
 places1_in en L l lo hi length version count hL hv hl1 hl2 hc n hn B1 B2 B3 h2 h3 J Jx hY W ((hW.cell (p := ⟨B1, 0, none⟩) b1).trans c1) ((hW.cell (p := ⟨B2, 0, none⟩) b2).trans c2) ((hW.cell (p := ⟨B3, 0, none⟩) b3).trans c3) h0
theorem places_in (a b c : Int) (n : Nat) (w : World) :
  CallsIn Fence.wide n Try.prog 145 #[.int .i64 a, .int .i64 b, .int .i64 c] w fun e w' => e = .returned (.func (.func 217) #[] #[.pointer (some ⟨w.heap.size + 1, 0, none⟩), .pointer (some ⟨w.heap.size, 0, none⟩), .pointer (some ⟨w.heap.size + 2, 0, none⟩)]) ∧
   w' = ((w.alloc (.cells #[.int .i64 a] 3)).alloc (.cells #[.int .i64 b] 3)).alloc (.cells #[.int .i64 c] 3) := by
 have hmf : ∀ (fn : Fn) (first cap : Array Value) (w : World), (Instr.makeFunc fn first cap).run Try.prog w = .ok (.func fn first cap) w := fun _ _ _ _ => rfl
 refine callsIn_of_wp Try.func145 rfl trivial ?_ rfl
 simp only [Try.ntmps145, List.size_toArray, List.length_cons, List.length_nil, Nat.reduceAdd, Nat.reduceSub, Array.replicate_succ, Array.replicate_zero, List.push_toArray, List.append_toArray, List.nil_append, List.cons_append]
 gi_wp2
 go_ret
 exact ⟨rfl, rfl⟩
theorem box_appended {W w1 : World} {n₀ B : Nat} {t e : TypeId} {size : Nat} {v v' : Value} {k m : Nat} {xs ys : List Value}
  (hv : Boxed W B t v) (hte : t ≠ e) (hrow : W.ownsRow n₀ e size v k xs) (hown' : w1.ownsRow n₀ e size v' m ys) (hgrow : W.grownBy w1 v.ownBlock) :
  Boxed w1 B t v ∧ Boxed (w1.setCell ⟨B, 0, none⟩ v') B t v' ∧ (w1.setCell ⟨B, 0, none⟩ v').ownsRow n₀ e size v' m ys ∧ KeepsOthers W (w1.setCell ⟨B, 0, none⟩ v') ∧ (∀ i, i < n₀ → i < W.heap.size → i ≠ B → (w1.setCell ⟨B, 0, none⟩ v').heap[i]? = W.heap[i]?) := by
 have hv1 : Boxed w1 B t v := hv.kept hgrow (hv.not_row hte hrow)
 refine ⟨hv1, hv1.set v', hown'.kept (grownBy_setCell' w1 B v') (.inr (hv1.not_row hte hown').symm), ?_, ?_⟩
 ·
  refine (KeepsOthers.of_grownBy hgrow fun j o ej hj => ?_).trans (KeepsOthers.setCell _ _ _)
  rcases hrow.2 with ⟨rfl, _⟩ | ⟨g, cap, cur, rfl, _, hgb, _⟩
  ·
   simp [Value.ownBlock] at ej
  ·
   obtain rfl : g = j := by simpa [Value.ownBlock] using ej
   rw [hgb] at hj; cases hj; rfl
 ·
  intro i h1 h2 h3
  refine ((grownBy_setCell' w1 B v').block i (Nat.lt_of_lt_of_le h2 hgrow.size) (fun e => h3 (by cases e; rfl))).trans (hgrow.block i h2 fun ej => ?_)
  rcases hrow.2 with ⟨rfl, _⟩ | ⟨g, cap, cur, rfl, hb, _, _⟩
  ·
   simp [Value.ownBlock] at ej
  ·
   obtain rfl : i = g := by simpa [Value.ownBlock] using ej
   omega
theorem putObj_below {B : Nat} (W : World) (D : Nat) (o : Obj) (h : B ≤ D) : Below B W (W.putObj D o) := ⟨rfl, rfl, rfl, by simp, fun k hk => World.putObj_heap_other (by omega)⟩
theorem cell_alloc {W : World} {a : Addr} {v : Value} (o : Obj) (h : W.cell? a = some v) : (W.alloc o).cell? a = some v := by
 obtain ⟨b, off, f⟩ := a
 have hlt := dB W _ h
 have hb : (W.alloc o).heap[b]? = W.heap[b]? := (World.grownBy_alloc W o none).block b hlt (by simp)
 rw [← h]
 unfold World.cell?
 simp only [hb]
def matchV (l : List Int) (version count : Nat) : List Int := (List.range count).map fun i => l.getD (placeOf l.length version i) 0
def code_match.f (l0 : List Int) (a1 : Int) (a2 : Int) : Option (List Int) :=
 if 0 ≤ a1 ∧ a1 ≤ 3 ∧ 1 ≤ l0.length ∧ l0.length ≤ 1000 ∧ 0 ≤ a2 ∧ a2 ≤ 1000 then some (matchV l0 a1.toNat a2.toNat) else none
theorem match_in (n : Nat) (hn : 3 ≤ n) (A0 : Option Addr) (c0 : Nat) (l0 : List Int) (version count : Nat) (hv : version ≤ 3) (hl1 : 1 ≤ l0.length) (hl2 : l0.length ≤ 1000) (hc : count ≤ 1000) (w : World) (hr0 : Kd.C (Kd.int .i64) w A0 l0.length l0) :
  CallsIn Fence.wide n Try.prog 110 #[.slice A0 l0.length c0, .int .i64 (version : Int), .int .i64 (count : Int)] w fun e w' => ∃ v0_ : Value, e = .returned v0_ ∧ w'.ownsRow w.heap.size 3 1 v0_ (matchV l0 version count).length (nums .i64 (matchV l0 version count)) ∧ Below w.heap.size w w' := by
 have h1 : 1 ≤ n := by omega
 have HR0 := dH hr0
 clear hr0
 obtain ⟨i0, hi, hz0, hz1, hz2⟩ := info_parts info3
 refine callsIn_of_wp_marks Try.func110 rfl trivial ?_ rfl
 simp only [Try.ntmps110, List.size_toArray, List.length_cons, List.length_nil, Nat.reduceAdd, Nat.reduceSub, Array.replicate_succ, Array.replicate_zero, List.push_toArray, List.append_toArray, List.nil_append, List.cons_append]
 gi_wp2_with (refine ⟨trivial, ?_⟩; gi_at_call 145; refine (places_in _ _ _ (n - 1) _).mono ?_; rintro e w' ⟨rfl, rfl⟩)
 have bW := Boxed.new w 34 (.slice A0 l0.length c0)
 have bO := Boxed.new (w.alloc (.cells #[.slice A0 l0.length c0] 34)) 34 (.slice none 0 0)
 rw [World.size_alloc] at bO
 obtain ⟨W0, hW0⟩ : ∃ W0, ((w.alloc (.cells #[.slice A0 l0.length c0] 34)).alloc (.cells #[.slice none 0 0] 34)) = W0 := ⟨_, rfl⟩
 have hs0 : W0.heap.size = w.heap.size + 2 := by rw [← hW0]; simp
 have hB0 : Below w.heap.size w W0 := by rw [← hW0]; exact ak (ak (Below.refl _ _) _) _
 rw [hW0] at bO
 have bW0 : Boxed W0 w.heap.size 34 (.slice A0 l0.length c0) := by rw [← hW0]; exact bW.alloc _
 rw [hW0]
 clear hW0 bW
 have b1 := Boxed.new W0 3 (.int .i64 (l0.length : Int))
 have b2 := Boxed.new (W0.alloc (.cells #[.int .i64 (l0.length : Int)] 3)) 3 (.int .i64 (version : Int))
 have b3 := Boxed.new ((W0.alloc (.cells #[.int .i64 (l0.length : Int)] 3)).alloc (.cells #[.int .i64 (version : Int)] 3)) 3 (.int .i64 (count : Int))
 simp only [World.size_alloc, hs0] at b1 b2 b3
 obtain ⟨W1, hW1⟩ : ∃ W1, (((W0.alloc (.cells #[.int .i64 (l0.length : Int)] 3)).alloc (.cells #[.int .i64 (version : Int)] 3)).alloc (.cells #[.int .i64 (count : Int)] 3)) = W1 := ⟨_, rfl⟩
 have hs1 : W1.heap.size = w.heap.size + 5 := by rw [← hW1]; simp [hs0]
 have hB1 : Below w.heap.size w W1 := by rw [← hW1]; exact ak (ak (ak hB0 _) _) _
 have bW1 : Boxed W1 w.heap.size 34 (.slice A0 l0.length c0) := by rw [← hW1]; exact ((bW0.alloc _).alloc _).alloc _
 have bO1 : Boxed W1 (w.heap.size + 1) 34 (.slice none 0 0) := by rw [← hW1]; exact ((bO.alloc _).alloc _).alloc _
 have c1 : W1.cell? ⟨w.heap.size + 1 + 1, 0, none⟩ = some (.int .i64 (l0.length : Int)) := by rw [← hW1]; exact ((b1.alloc _).alloc _).cell
 have c2 : W1.cell? ⟨w.heap.size + 1 + 1 + 1, 0, none⟩ = some (.int .i64 (version : Int)) := by rw [← hW1]; exact (b2.alloc _).cell
 have c3 : W1.cell? ⟨w.heap.size + 1 + 1 + 2, 0, none⟩ = some (.int .i64 (count : Int)) := by rw [hW1] at b3; exact b3.cell
 rw [hW1]
 clear hW1 b1 b2 b3 bW0 bO hB0 hs0
 refine wpIn_rangeFunc_ownG rfl h1 (gf := 217) (lb := #[.pointer (some ⟨w.heap.size + 1 + 1 + 1, 0, none⟩), .pointer (some ⟨w.heap.size + 1 + 1, 0, none⟩), .pointer (some ⟨w.heap.size + 1 + 1 + 2, 0, none⟩)]) rfl trivial (enters_of Try.func217 (by kernel_rfl) rfl)
  (places_stops (fun x : Nat => x) (List.range count) l0.length version count (List.map_id' _) hv hl1 hl2 hc (n - 1) (by omega) (w.heap.size + 2) (w.heap.size + 5) _ _ _ W1 (by omega) (by omega) (by omega) (by omega) (by omega) c2 c1 c3) KpR.trans (fun W l o o' hl _ _ _ => KpR.putObj W o' (by omega)) (Below.refl _ _) (fun _ => rfl)
  (fun pre W => (∃ v, Boxed W (w.heap.size + 1) 34 v ∧ W.ownsRow (w.heap.size + 5) 3 1 v pre.length ((pre.map fun i => l0.getD (placeOf l0.length version i) 0).map (Value.int .i64)) ∧ True) ∧ (Below w.heap.size w W ∧ W1.heap.size ≤ W.heap.size ∧ Boxed W w.heap.size 34 (.slice A0 l0.length c0)))
  (fun _ _ _ => False)
  (OwnFrom.and (Own.from (holdsRow_own (w.heap.size + 5) (w.heap.size + 1) 34 3 1 (fun pre : List Nat => pre.length) (fun pre => (pre.map fun i => l0.getD (placeOf l0.length version i) 0).map (Value.int .i64)) (fun _ _ => True)) _) ?ownrest)
  (fun _ _ _ _ _ hs _ _ => hs)
  ⟨⟨_, bO1, World.ownsRow_nil _ _ _ _, trivial⟩, hB1, Nat.le_refl _, bW1⟩
  (fun x => { tmps := #[.slice A0 l0.length c0, .int .i64 (version : Int), .int .i64 (count : Int), .pointer (some ⟨w.heap.size, 0, none⟩), undef, undef, .slice none 0 0, .pointer (some ⟨w.heap.size + 1, 0, none⟩), undef, .int .i64 ((placeOf l0.length version x : Nat) : Int), .slice A0 l0.length c0, .int .i64 (l0.length : Int), .int .i64 (version : Int), .int .i64 (count : Int),
   .func (.func 217) #[] #[.pointer (some ⟨w.heap.size + 1 + 1 + 1, 0, none⟩), .pointer (some ⟨w.heap.size + 1 + 1, 0, none⟩), .pointer (some ⟨w.heap.size + 1 + 1 + 2, 0, none⟩)], .int .i64 (x : Int), .int .i64 ((placeOf l0.length version x : Nat) : Int), undef, undef, undef, undef, undef, undef, undef, undef], defers := [] }) ?assign ?body ?done ?stop
 case ownrest =>
  rintro s X Y row ⟨h1, h2, h3⟩ hg hr
  exact ⟨h1.grown hg h1.size (fun k e => Nat.le_trans hB1.size (hr k e).1), Nat.le_trans h2 hg.size, h3.kept hg (fun e => by
   obtain ⟨_, o, ho, hc⟩ := hr _ e.symm
   rw [show X.heap[w.heap.size]? = _ from h3] at ho; cases ho; cases hc)⟩
 case assign =>
  intro l x W K hK
  gi_wp2
  exact hK
 case body =>
  rintro l pre x W ⟨⟨v, hv, hrow, _⟩, hB, hsz, hbW⟩ hlt
  have hc1 := hv.cell
  have hc2 := hbW.cell
  have hmix : Try.prog.follows .mixedOrders = true := by kernel_rfl
  have hx1 : placeOf l0.length version x < l0.length := Nat.mod_lt _ (by omega)
  obtain ⟨ad, e0, hcell⟩ := Kd.bX (Kd.bF HR0.out hB) ((placeOf l0.length version x : Nat) : Int) (by omega) (by omega)
  rw [rd_getD, Int.toNat_natCast] at hcell
  subst e0
  have hy0 : ∃ y, l0.getD (placeOf l0.length version x) 0 = y := ⟨_, rfl⟩
  obtain ⟨y, hy⟩ := hy0
  rw [hy] at hcell
  have HY := Lib.hid hy
  clear hy
  generalize hq : placeOf l0.length version x = q at hcell hx1 ⊢
  have HQ := Lib.hid hq
  clear hq
  gi_wp2
  refine startIn_ (S := fun w' => w'.cell? ⟨w.heap.size + 1, 0, none⟩ = some v ∧ w'.cell? ⟨w.heap.size, 0, none⟩ = some (.slice (some ad) l0.length c0) ∧ w'.cell? (ad.add q) = some (.int .i64 y)) (ds := [6, 7]) (dG 8 0) hmix (by kernel_rfl) ?_ rfl rfl ?_ (fun hHeld => ?_)
  ·
   intro a w h
   exact h
  ·
   exact ⟨hc1, hc2, hcell⟩
  refine bK (i := 0) (N := some 17) (v := ?_) (a' := ?_) (dG 8 1) rfl rfl (by kernel_rfl) (fun _ _ _ h => h) (Or.inl ⟨by rfl, ?_⟩) hHeld ?_ ?_
  rotate_left
  ·
   rintro w' ⟨s0, s1, s2⟩
   go_simp
   with_reducible rfl
  rotate_left
  ·
   simp only [Act.put, cO, cZ, d9, aG, aH]
   rfl
  refine bK (i := 1) (N := some 18) (v := ?_) (a' := ?_) (dG 8 3) rfl rfl (by kernel_rfl) (fun _ _ _ h => h) (Or.inl ⟨by rfl, ?_⟩) hHeld ?_ ?_
  rotate_left
  ·
   rintro w' ⟨s0, s1, s2⟩
   go_simp
   with_reducible rfl
  rotate_left
  ·
   simp only [Act.put, cO, cZ, d9, aG, aH]
   rfl
  refine aV (i := 2) (N := some 19) (v := ?_) (a' := ?_) (dG 8 7) rfl rfl (by kernel_rfl) (fun _ _ _ h => h) (Or.inl ⟨by rfl, ?_⟩) ?_ ?_
  rotate_left
  ·
   intro w'
   go_simp
   with_reducible rfl
  rotate_left
  ·
   simp only [Act.put, cO, cZ, d9, aG, aH]
   rfl
  refine aV (i := 3) (N := some 20) (v := ?_) (a' := ?_) (dG 8 15) rfl rfl (by kernel_rfl) (fun _ _ _ h => h) (Or.inl ⟨by rfl, ?_⟩) ?_ ?_
  rotate_left
  ·
   intro w'
   go_simp
   with_reducible rfl
  rotate_left
  ·
   simp only [Act.put, cO, cZ, d9, aG, aH]
   rfl
  refine bK (i := 4) (N := some 21) (v := ?_) (a' := ?_) (dG 8 31) rfl rfl (by kernel_rfl) (fun _ _ _ h => h) (Or.inl ⟨by rfl, ?_⟩) hHeld ?_ ?_
  rotate_left
  ·
   rintro w' ⟨s0, s1, s2⟩
   go_simp
   with_reducible rfl
  rotate_left
  ·
   simp only [Act.put, cO, cZ, d9, aG, aH]
   rfl
  refine bR (i := 5) (N := some 22) (dG 8 63) rfl rfl (by kernel_rfl) (by decide) (fun K hK => ?_)
  refine value_ (w1 := W.drew.alloc (.cells #[.int .i64 y] 3)) (v := .slice (some ⟨W.heap.size, 0, none⟩) 1 1) (by rfl) rfl ?_ ?_
  ·
   go_simp
  refine hK.out _ _ ⟨cell_alloc _ hHeld.1, cell_alloc _ hHeld.2.1, cell_alloc _ hHeld.2.2⟩ (fun hHeld => ?_)
  clear hK K
  refine bG (a' := ?_) ?_ ?_
  rotate_left
  ·
   show Act.put _ (some 22) _ = _
   simp only [Act.put, cO, cZ, d9, aG, aH]
   rfl
  refine last_ (i := 6) (N := some 23) (dG 8 127) rfl rfl (by kernel_rfl) (by decide) (fun K hK => ?_)
  refine step_append_cells (w0 := W.drew) (W := W.drew) (w.heap.size + 5) (by rfl) (.tmp 17) (.tmp 22) 34 3 (.int .i64 0) 1 8 rfl Try.underlying34 info3 rfl (by decide) (by decide) v pre.length ((pre.map fun i => l0.getD (placeOf l0.length version i) 0).map (Value.int .i64)) [.int .i64 y] rfl rfl rfl (by intro u hu; simp at hu; subst hu; rfl) hrow (Below.refl _ _) (by show _ ≤ W.heap.size; omega) (by omega) ?_
  intro v1 w1 hown hb hg hat
  obtain ⟨hv1, hv2, hrow2, hKO, hbl⟩ := box_appended (W := W.drew) hv (by decide) hrow hown hg
  have hc1' := hv1.cell
  have hf1' := hv1.frozen
  obtain ⟨gA, cA, rfl⟩ := ownsRow_succ hown
  refine hK.out _ _ ?_
  clear hK K
  refine bG (a' := ?_) ?_ ?_
  rotate_left
  ·
   show Act.put _ (some 23) _ = _
   simp only [Act.put, cO, cZ, d9, aG, aH]
   rfl
  refine last_ (i := 7) (N := none) (dG 8 255) rfl rfl (by kernel_rfl) (by decide) (fun K hK => ?_)
  refine skip_ (w1 := w1.setCell ⟨w.heap.size + 1, 0, none⟩ (.slice (some ⟨gA, 0, none⟩) (pre.length + 1) cA)) (by rfl) rfl ?_ ?_
  ·
   go_simp
  refine hK.out _ _ ?_
  clear hK K
  refine done_ (by kernel_rfl) ?_
  refine ⟨((KeepsOthers.drew W).trans hKO).from _, ?_, ⟨⟨_, hv2, ?_, trivial⟩, ?_, ?_, ?_⟩⟩
  ·
   intro i h1 h2
   exact hbl i h2 (by show i < W.heap.size; omega) (by omega)
  ·
   rw [List.length_append, List.length_singleton, List.map_append, List.map_append]
   simp only [dn, dw, HY.out]
   exact hrow2
  ·
   exact ((⟨hB.os, hB.tape, hB.output, hB.size, hB.block⟩ : Below w.heap.size w W.drew).trans (hb.mono (by omega))).setCell (p := ⟨w.heap.size + 1, 0, none⟩) (by show _ ≤ w.heap.size + 1; omega) _
  ·
   exact Nat.le_trans hsz hKO.size
  ·
   exact (hbl _ (by omega) (by show _ < W.heap.size; omega) (by omega)).trans hbW
 case done =>
  rintro D xs W hD rfl ⟨⟨v, hv, hrow, _⟩, hB, hsz, hbW⟩ hDef
  have hc1 := hv.cell
  gi_wp2
  refine ⟨by simp, .inl ⟨_, _, rfl, run_takeDeferred hDef, ?_⟩⟩
  refine ⟨_, results_tmp rfl _ _ _, _, rfl, ?_, hB.trans ((putObj_below W D _ (Nat.le_trans hB1.size hD)))⟩
  have := ownsRow_putObj hrow (.deferred none) hDef rfl
  unfold matchV nums
  rw [List.length_map]
  exact own_weaken this (by omega)
 case stop =>
  rintro D c pre W _ _ h _
  exact h.elim
end Go.Proofs.Ytbjiookpiminmaa.PCode
end
