/- Words and contracts for the claim's theorem, part 5 (joined by program out of the texts of this claim's proof; what it does not use is struck). -/
import Derived.Test.YtbjiookpiminmaaNeverMixed4
set_option linter.unusedVariables false
set_option linter.unusedSimpArgs false
set_option linter.unusedSectionVars false
set_option maxHeartbeats 8000000
set_option maxRecDepth 1000000
section
namespace Go.Proofs.Ytbjiookpiminmaa.PCode
open Go.RowKit Go.Shelf Go.Proofs.YtbjiookpiminmaaW.PrintWords Go.Proofs.YtbjiookpiminmaaW.PrintLast Go.Proofs.YtbjiookpiminmaaW.PrintMore Go.Proofs.Ytbjiookpiminmaa.Bridge
attribute [local go_sem] Oper.semAt_some
def gstep (soft : List Int) (length version : Nat) (acc : List Int) (i : Nat) : List Int := acc.set (placeOf length version i) (wrap64 (acc.getD (placeOf length version i) 0 + soft.getD i 0))
def gatheredV (soft : List Int) (version length : Nat) : List Int := (List.range soft.length).foldl (gstep soft length version) (List.replicate length 0)
def gathF (soft : List Int) (length version : Nat) {n : Nat} (pre : List (Fin n)) : List Int := pre.foldl (fun acc i => gstep soft length version acc i.val) (List.replicate length 0)
theorem gstep_length (soft : List Int) (length version : Nat) (acc : List Int) (i : Nat) : (gstep soft length version acc i).length = acc.length := by simp [gstep]
theorem gathF_snoc (soft : List Int) (length version : Nat) {n : Nat} (pre : List (Fin n)) (x : Fin n) : gathF soft length version (pre ++ [x]) = gstep soft length version (gathF soft length version pre) x.val := by simp [gathF]
theorem gathF_length (soft : List Int) (length version : Nat) {n : Nat} (pre : List (Fin n)) : (gathF soft length version pre).length = length := by
 unfold gathF
 suffices ∀ (p : List (Fin n)) (acc : List Int), (p.foldl (fun acc i => gstep soft length version acc i.val) acc).length = acc.length by rw [this]; simp
 intro p
 induction p with
 | nil => intro acc; rfl
 | cons a p ih => intro acc; rw [List.foldl_cons, ih, gstep_length]
theorem finRange_vals (n : Nat) : (List.finRange n).map Fin.val = List.range n := by
 apply List.ext_getElem
 ·
  simp
 ·
  intro i h1 h2
  simp
theorem gathF_all (soft : List Int) (version length : Nat) : gathF soft length version (List.finRange soft.length) = gatheredV soft version length := by
 unfold gathF gatheredV
 rw [← finRange_vals, List.foldl_map]
def code_gathered.f (l0 : List Int) (a1 : Int) (a2 : Int) : Option (List Int) :=
 if 0 ≤ a1 ∧ a1 ≤ 3 ∧ 1 ≤ a2 ∧ a2 ≤ 1000 ∧ l0.length ≤ 1000 then some (gatheredV l0 a1.toNat a2.toNat) else none
theorem gathered_in (n : Nat) (hn : 3 ≤ n) (A0 : Option Addr) (c0 : Nat) (l0 : List Int) (version length : Nat) (hv : version ≤ 3) (hl1 : 1 ≤ length) (hl2 : length ≤ 1000) (hc : l0.length ≤ 1000) (w : World) (hr0 : Kd.C (Kd.int .i64) w A0 l0.length l0) :
  CallsIn Fence.wide n Try.prog 78 #[.slice A0 l0.length c0, .int .i64 (version : Int), .int .i64 (length : Int)] w fun e w' => ∃ v0_ : Value, e = .returned v0_ ∧ w'.ownsRow w.heap.size 3 1 v0_ (gatheredV l0 version length).length (nums .i64 (gatheredV l0 version length)) ∧ Below w.heap.size w w' := by
 have h1 : 1 ≤ n := by omega
 have HR0 := dH hr0
 clear hr0
 have hmk := print_make (P := Try.prog) 34 3 .i64 8 Try.underlying34 info3 (by decide) length (by omega)
 refine callsIn_of_wp_marks Try.func78 rfl trivial ?_ rfl
 simp only [Try.ntmps78, List.size_toArray, List.length_cons, List.length_nil, Nat.reduceAdd, Nat.reduceSub, Array.replicate_succ, Array.replicate_zero, List.push_toArray, List.append_toArray, List.nil_append, List.cons_append]
 gi_wp2_with (refine ⟨trivial, ?_⟩; gi_at_call 145; refine (places_in _ _ _ (n - 1) _).mono ?_; rintro e w' ⟨rfl, rfl⟩)
 clear hmk
 have bW := Boxed.new w 34 (.slice A0 l0.length c0)
 have hR := own_made (w.alloc (.cells #[.slice A0 l0.length c0] 34)) (w.heap.size + 1) 3 .i64 length (by simp) (by omega)
 have bO := Boxed.new ((w.alloc (.cells #[.slice A0 l0.length c0] 34)).alloc (.cells (madeCells #[.int .i64 0] length) 3)) 34 (.slice (some ⟨w.heap.size + 1, 0, none⟩) length length)
 obtain ⟨Wa, hWa⟩ : ∃ Wa, ((w.alloc (.cells #[.slice A0 l0.length c0] 34)).alloc (.cells (madeCells #[.int .i64 0] length) 3)).alloc (.cells #[.slice (some ⟨w.heap.size + 1, 0, none⟩) length length] 34) = Wa := ⟨_, rfl⟩
 have hsa : Wa.heap.size = w.heap.size + 3 := by rw [← hWa]; simp
 have hBa : Below w.heap.size w Wa := by rw [← hWa]; exact ak (ak (ak (Below.refl _ _) _) _) _
 simp only [World.size_alloc] at hR bO
 have bWa : Boxed Wa w.heap.size 34 (.slice A0 l0.length c0) := by rw [← hWa]; exact (bW.alloc _).alloc _
 have hRa : Wa.ownsRow (w.heap.size + 1) 3 1 (.slice (some ⟨w.heap.size + 1, 0, none⟩) length length) length (nums .i64 (List.replicate length 0)) := by rw [← hWa]; exact hR.alloc _
 have bOa : Boxed Wa (w.heap.size + 2) 34 (.slice (some ⟨w.heap.size + 1, 0, none⟩) length length) := by rw [← hWa]; exact bO
 rw [hWa]
 clear hWa bW hR bO
 have b1 := Boxed.new Wa 3 (.int .i64 (length : Int))
 have b2 := Boxed.new (Wa.alloc (.cells #[.int .i64 (length : Int)] 3)) 3 (.int .i64 (version : Int))
 have b3 := Boxed.new ((Wa.alloc (.cells #[.int .i64 (length : Int)] 3)).alloc (.cells #[.int .i64 (version : Int)] 3)) 3 (.int .i64 (l0.length : Int))
 simp only [World.size_alloc, hsa] at b1 b2 b3
 obtain ⟨W1, hW1⟩ : ∃ W1, (((Wa.alloc (.cells #[.int .i64 (length : Int)] 3)).alloc (.cells #[.int .i64 (version : Int)] 3)).alloc (.cells #[.int .i64 (l0.length : Int)] 3)) = W1 := ⟨_, rfl⟩
 have hs1 : W1.heap.size = w.heap.size + 6 := by rw [← hW1]; simp [hsa]
 have hB1 : Below w.heap.size w W1 := by rw [← hW1]; exact ak (ak (ak hBa _) _) _
 have bW1 : Boxed W1 w.heap.size 34 (.slice A0 l0.length c0) := by rw [← hW1]; exact ((bWa.alloc _).alloc _).alloc _
 have bO1 : Boxed W1 (w.heap.size + 2) 34 (.slice (some ⟨w.heap.size + 1, 0, none⟩) length length) := by rw [← hW1]; exact ((bOa.alloc _).alloc _).alloc _
 have hR1 : W1.ownsRow (w.heap.size + 1) 3 1 (.slice (some ⟨w.heap.size + 1, 0, none⟩) length length) length (nums .i64 (List.replicate length 0)) := by rw [← hW1]; exact ((hRa.alloc _).alloc _).alloc _
 have c1 : W1.cell? ⟨w.heap.size + 1 + 1 + 1, 0, none⟩ = some (.int .i64 (length : Int)) := by rw [← hW1]; exact ((b1.alloc _).alloc _).cell
 have c2 : W1.cell? ⟨w.heap.size + 1 + 1 + 1 + 1, 0, none⟩ = some (.int .i64 (version : Int)) := by rw [← hW1]; exact (b2.alloc _).cell
 have c3 : W1.cell? ⟨w.heap.size + 1 + 1 + 1 + 2, 0, none⟩ = some (.int .i64 (l0.length : Int)) := by rw [hW1] at b3; exact b3.cell
 rw [hW1]
 clear hW1 b1 b2 b3 bWa bOa hRa hBa hsa
 refine wpIn_rangeFunc_ownG rfl h1 (gf := 217) (lb := #[.pointer (some ⟨w.heap.size + 1 + 1 + 1 + 1, 0, none⟩), .pointer (some ⟨w.heap.size + 1 + 1 + 1, 0, none⟩), .pointer (some ⟨w.heap.size + 1 + 1 + 1 + 2, 0, none⟩)]) rfl trivial (enters_of Try.func217 (by kernel_rfl) rfl)
  (places_stops (fun x : Fin l0.length => x.val) (List.finRange l0.length) length version l0.length (finRange_vals _) hv hl1 hl2 hc (n - 1) (by omega) (w.heap.size + 3) (w.heap.size + 6) _ _ _ W1 (by omega) (by omega) (by omega) (by omega) (by omega) c2 c1 c3) KpR.trans (fun W l o o' hl _ _ _ => KpR.putObj W o' (by omega)) (Below.refl _ _) (fun _ => rfl)
  (fun pre W => (∃ v, Boxed W (w.heap.size + 2) 34 v ∧ W.ownsRow (w.heap.size + 1) 3 1 v length (nums .i64 (gathF l0 length version pre)) ∧ v = .slice (some ⟨w.heap.size + 1, 0, none⟩) length length) ∧ (Below w.heap.size w W ∧ W1.heap.size ≤ W.heap.size ∧ Boxed W w.heap.size 34 (.slice A0 l0.length c0)))
  (fun _ _ _ => False)
  (OwnFrom.and (Own.from (holdsRow_own (w.heap.size + 1) (w.heap.size + 2) 34 3 1 (fun pre : List (Fin l0.length) => length) (fun pre => nums .i64 (gathF l0 length version pre)) (fun _ v => v = .slice (some ⟨w.heap.size + 1, 0, none⟩) length length)) _) ?ownrest)
  (fun _ _ _ _ _ hs _ _ => hs)
  ⟨⟨_, bO1, hR1, rfl⟩, hB1, Nat.le_refl _, bW1⟩
  (fun x => { tmps := #[.slice A0 l0.length c0, .int .i64 (version : Int), .int .i64 (length : Int), .pointer (some ⟨w.heap.size, 0, none⟩), undef, undef, .slice none 0 0, .pointer (some ⟨w.heap.size + 1 + 1, 0, none⟩), .int .i64 (x.val : Int), .int .i64 ((placeOf length version x.val : Nat) : Int), .int .i64 (length : Int), .slice (some ⟨w.heap.size + 1, 0, none⟩) length length, .int .i64 (length : Int), .int .i64 (version : Int), .slice A0 l0.length c0, .int .i64 (l0.length : Int),
   .func (.func 217) #[] #[.pointer (some ⟨w.heap.size + 1 + 1 + 1 + 1, 0, none⟩), .pointer (some ⟨w.heap.size + 1 + 1 + 1, 0, none⟩), .pointer (some ⟨w.heap.size + 1 + 1 + 1 + 2, 0, none⟩)], .int .i64 (x.val : Int), .int .i64 ((placeOf length version x.val : Nat) : Int), undef, undef, undef, undef, undef, undef, undef, undef, undef, undef, undef], defers := [] }) ?assign ?body ?done ?stop
 case ownrest =>
  rintro s X Y row ⟨h1, h2, h3⟩ hg hr
  exact ⟨h1.grown hg h1.size (fun k e => Nat.le_trans hB1.size (hr k e).1), Nat.le_trans h2 hg.size, h3.kept hg (fun e => by
   obtain ⟨_, o, ho, hc⟩ := hr _ e.symm
   rw [show X.heap[w.heap.size]? = _ from h3] at ho; cases ho; cases hc)⟩
 case assign =>
  intro l x W K hK
  gi_wp2
  exact hK
 case body =>
  rintro l pre x W ⟨⟨v, hv, hrow, rfl⟩, hB, hsz, hbW⟩ hlt
  have hx0 : x.val < l0.length := x.isLt
  have hc1 := hv.cell
  have hc2 := hbW.cell
  have hmix : Try.prog.follows .mixedOrders = true := by kernel_rfl
  have hx1 : placeOf length version x.val < length := Nat.mod_lt _ (by omega)
  obtain ⟨ad, e0, hcell⟩ := Kd.bX (Kd.bF HR0.out hB) ((x.val : Nat) : Int) (by omega) (by omega)
  rw [rd_getD, Int.toNat_natCast] at hcell
  subst e0
  obtain ⟨z, hz⟩ : ∃ z, l0.getD x.val 0 = z := ⟨_, rfl⟩
  rw [hz] at hcell
  have HZ := Lib.hid hz
  clear hz
  have hcq := hrow.cellAt (placeOf length version x.val) (by omega)
  have hfq := hrow.frozenAt (placeOf length version x.val)
  have hgl := gathF_length l0 length version pre
  rw [nums, List.getElem?_map, List.getElem?_eq_getElem (by omega)] at hcq
  obtain ⟨y, hy⟩ : ∃ y, (gathF l0 length version pre).getD (placeOf length version x.val) 0 = y := ⟨_, rfl⟩
  rw [show (gathF l0 length version pre)[placeOf length version x.val]'(by omega) = y from by rw [← hy, List.getD_eq_getElem?_getD, List.getElem?_eq_getElem (by omega)]; rfl] at hcq
  simp only [Option.map_some] at hcq
  have HG := gathF_snoc l0 length version pre x
  have hst := own_store (k := .i64) hrow ((placeOf length version x.val : Nat) : Int) (wrap64 (y + z))
  rw [show (gathF l0 length version pre).set ((placeOf length version x.val : Nat) : Int).toNat (wrap64 (y + z)) = gathF l0 length version (pre ++ [x]) from by rw [HG]; unfold gstep; rw [hy, HZ.out]; simp, Int.toNat_natCast] at hst
  obtain ⟨hst1, hst2⟩ := hst
  have HST := dH hst1
  have HST2 := dH hst2
  clear hst1 hst2 hgl HG hy
  have hxp : placeOf length version x.val = placeOf length version x.val := rfl
  revert hx1 hcq hfq HST HST2
  generalize placeOf length version x.val = q
  intro hx1 hfq hcq HST HST2
  clear hxp
  gi_wp2
  refine startIn_ (S := fun w' => w'.cell? ⟨w.heap.size + 2, 0, none⟩ = some (.slice (some ⟨w.heap.size + 1, 0, none⟩) length length) ∧ w'.cell? ⟨w.heap.size, 0, none⟩ = some (.slice (some ad) l0.length c0) ∧ w'.cell? (ad.add x.val) = some (.int .i64 z) ∧ w'.cell? ⟨w.heap.size + 1, q, none⟩ = some (.int .i64 y)) (ds := [10]) (dG 11 0) hmix (by kernel_rfl) ?_ rfl rfl ?_ (fun hHeld => ?_)
  ·
   intro a w h
   exact h
  ·
   exact ⟨hc1, hc2, hcell, hcq⟩
  refine bK (i := 0) (N := some 19) (v := ?_) (a' := ?_) (dG 11 1) rfl rfl (by kernel_rfl) (fun _ _ _ h => h) (Or.inl ⟨by rfl, ?_⟩) hHeld ?_ ?_
  rotate_left
  ·
   rintro w' ⟨s0, s1, s2, s3⟩
   go_simp
   with_reducible rfl
  rotate_left
  ·
   simp only [Act.put, cO, cZ, d9, aG, aH]
   rfl
  refine aV (i := 1) (N := some 20) (v := ?_) (a' := ?_) (dG 11 3) rfl rfl (by kernel_rfl) (fun _ _ _ h => h) (Or.inl ⟨by rfl, ?_⟩) ?_ ?_
  rotate_left
  ·
   intro w'
   go_simp
   with_reducible rfl
  rotate_left
  ·
   simp only [Act.put, cO, cZ, d9, aG, aH]
   rfl
  refine aV (i := 2) (N := some 21) (v := ?_) (a' := ?_) (dG 11 7) rfl rfl (by kernel_rfl) (fun _ _ _ h => h) (Or.inl ⟨by rfl, ?_⟩) ?_ ?_
  rotate_left
  ·
   intro w'
   go_simp
   with_reducible rfl
  rotate_left
  ·
   simp only [Act.put, cO, cZ, d9, aG, aH]
   rfl
  refine bK (i := 3) (N := some 22) (v := ?_) (a' := ?_) (dG 11 15) rfl rfl (by kernel_rfl) (fun _ _ _ h => h) (Or.inl ⟨by rfl, ?_⟩) hHeld ?_ ?_
  rotate_left
  ·
   rintro w' ⟨s0, s1, s2, s3⟩
   go_simp
   with_reducible rfl
  rotate_left
  ·
   simp only [Act.put, cO, cZ, d9, aG, aH]
   rfl
  refine bK (i := 4) (N := some 23) (v := ?_) (a' := ?_) (dG 11 31) rfl rfl (by kernel_rfl) (fun _ _ _ h => h) (Or.inl ⟨by rfl, ?_⟩) hHeld ?_ ?_
  rotate_left
  ·
   rintro w' ⟨s0, s1, s2, s3⟩
   go_simp
   with_reducible rfl
  rotate_left
  ·
   simp only [Act.put, cO, cZ, d9, aG, aH]
   rfl
  refine aV (i := 5) (N := some 24) (v := ?_) (a' := ?_) (dG 11 63) rfl rfl (by kernel_rfl) (fun _ _ _ h => h) (Or.inl ⟨by rfl, ?_⟩) ?_ ?_
  rotate_left
  ·
   intro w'
   go_simp
   with_reducible rfl
  rotate_left
  ·
   simp only [Act.put, cO, cZ, d9, aG, aH]
   rfl
  refine aV (i := 6) (N := some 25) (v := ?_) (a' := ?_) (dG 11 127) rfl rfl (by kernel_rfl) (fun _ _ _ h => h) (Or.inl ⟨by rfl, ?_⟩) ?_ ?_
  rotate_left
  ·
   intro w'
   go_simp
   with_reducible rfl
  rotate_left
  ·
   simp only [Act.put, cO, cZ, d9, aG, aH]
   rfl
  refine bK (i := 7) (N := some 26) (v := ?_) (a' := ?_) (dG 11 255) rfl rfl (by kernel_rfl) (fun _ _ _ h => h) (Or.inl ⟨by rfl, ?_⟩) hHeld ?_ ?_
  rotate_left
  ·
   rintro w' ⟨s0, s1, s2, s3⟩
   go_simp
   with_reducible rfl
  rotate_left
  ·
   simp only [Act.put, cO, cZ, d9, aG, aH]
   rfl
  refine aV (i := 8) (N := some 27) (v := ?_) (a' := ?_) (dG 11 511) rfl rfl (by kernel_rfl) (fun _ _ _ h => h) (Or.inl ⟨by rfl, ?_⟩) ?_ ?_
  rotate_left
  ·
   intro w'
   go_simp
   with_reducible rfl
  rotate_left
  ·
   simp only [Act.put, cO, cZ, d9, aG, aH]
   rfl
  refine aV (i := 9) (N := some 28) (v := ?_) (a' := ?_) (dG 11 1023) rfl rfl (by kernel_rfl) (fun _ _ _ h => h) (Or.inl ⟨by rfl, ?_⟩) ?_ ?_
  rotate_left
  ·
   intro w'
   go_simp
   with_reducible rfl
  rotate_left
  ·
   simp only [Act.put, cO, cZ, d9, aG, aH]
   rfl
  refine last_ (i := 10) (N := none) (dG 11 2047) rfl rfl (by kernel_rfl) (by decide) (fun K hK => ?_)
  refine skip_ (w1 := W.drew.setCell ⟨w.heap.size + 1, q, none⟩ (.int .i64 (wrap64 (y + z)))) (by rfl) rfl ?_ ?_
  ·
   go_simp
  refine hK.out _ _ ?_
  clear hK K
  refine done_ (by kernel_rfl) ?_
  have hG : W.grownBy (W.drew.setCell ⟨w.heap.size + 1, q, none⟩ (.int .i64 (wrap64 (y + z)))) (some (w.heap.size + 1)) := ⟨HST2.out.os, HST2.out.tape, HST2.out.output, HST2.out.size, HST2.out.block⟩
  refine ⟨((KeepsOthers.drew W).trans (KeepsOthers.setCell _ _ _)).from _, ?_, ⟨⟨_, hv.kept hG (by simp), HST.out, rfl⟩, ?_, ?_, ?_⟩⟩
  ·
   intro i h1 h2
   exact hG.block i (by omega) (by simp; omega)
  ·
   exact ⟨hB.os, hB.tape, hB.output, Nat.le_trans hB.size hG.size, fun i hi => (hG.block i (Nat.lt_of_lt_of_le hi hB.size) (by simp; omega)).trans (hB.block i hi)⟩
  ·
   exact Nat.le_trans hsz hG.size
  ·
   exact hbW.kept hG (by simp)
 case done =>
  rintro D xs W hD rfl ⟨⟨v, hv, hrow, rfl⟩, hB, hsz, hbW⟩ hDef
  have hc1 := hv.cell
  gi_wp2
  refine ⟨by simp, .inl ⟨_, _, rfl, run_takeDeferred hDef, ?_⟩⟩
  refine ⟨_, results_tmp rfl _ _ _, _, rfl, ?_, hB.trans ((putObj_below W D _ (Nat.le_trans hB1.size hD)))⟩
  have := ownsRow_putObj hrow (.deferred none) hDef rfl
  rw [← gathF_all, gathF_length]
  exact own_weaken this (by omega)
 case stop =>
  rintro D c pre W _ _ h _
  exact h.elim
theorem code_match.calls (A0 : Option Addr) (c0 : Nat) (l0 : List Int) (a1 : Int) (a2 : Int) (r : List Int) (w : World) (hr0 : Kd.C (Kd.int .i64) w A0 l0.length l0) (hc0 : l0.length ≤ c0) (h : code_match.f l0 a1 a2 = some r) :
  Calls Try.prog 110 #[.slice A0 l0.length c0, .int .i64 a1, .int .i64 a2] w fun e w' => ∃ v0_ : Value, e = .returned (v0_) ∧ Kd.R (Kd.int .i64) 3 w' w.heap.size (fun _ => True) v0_ r ∧ Below w.heap.size w w' := by
 unfold code_match.f at h
 split at h
 ·
  rename_i hh
  obtain ⟨h1, h2, h3, h4, h5, h6⟩ := hh
  injection h with h
  subst h
  obtain ⟨x, rfl⟩ : ∃ x : Nat, a1 = (x : Int) := ⟨a1.toNat, by omega⟩
  obtain ⟨y, rfl⟩ : ∃ y : Nat, a2 = (y : Int) := ⟨a2.toNat, by omega⟩
  simp only [Int.toNat_natCast]
  refine ((callsIn_wide (n := 3)).1 (match_in 3 (by omega) A0 c0 l0 x y (by omega) h3 h4 (by omega) w hr0)).mono ?_
  rintro e w' ⟨v0, he, ho, hb⟩
  exact ⟨v0, he, Kd.R_of_own ho (fun _ _ => trivial), hb⟩
 ·
  cases h
theorem code_gathered.calls (A0 : Option Addr) (c0 : Nat) (l0 : List Int) (a1 : Int) (a2 : Int) (r : List Int) (w : World) (hr0 : Kd.C (Kd.int .i64) w A0 l0.length l0) (hc0 : l0.length ≤ c0) (h : code_gathered.f l0 a1 a2 = some r) :
  Calls Try.prog 78 #[.slice A0 l0.length c0, .int .i64 a1, .int .i64 a2] w fun e w' => ∃ v0_ : Value, e = .returned (v0_) ∧ Kd.R (Kd.int .i64) 3 w' w.heap.size (fun _ => True) v0_ r ∧ Below w.heap.size w w' := by
 unfold code_gathered.f at h
 split at h
 ·
  rename_i hh
  obtain ⟨h1, h2, h3, h4, h5⟩ := hh
  injection h with h
  subst h
  obtain ⟨x, rfl⟩ : ∃ x : Nat, a1 = (x : Int) := ⟨a1.toNat, by omega⟩
  obtain ⟨y, rfl⟩ : ∃ y : Nat, a2 = (y : Int) := ⟨a2.toNat, by omega⟩
  simp only [Int.toNat_natCast]
  refine ((callsIn_wide (n := 3)).1 (gathered_in 3 (by omega) A0 c0 l0 x y (by omega) (by omega) (by omega) h5 w hr0)).mono ?_
  rintro e w' ⟨v0, he, ho, hb⟩
  exact ⟨v0, he, Kd.R_of_own ho (fun _ _ => trivial), hb⟩
 ·
  cases h
end Go.Proofs.Ytbjiookpiminmaa.PCode
end
section
namespace Go.Proofs.Ytbjiookpiminmaa.PCode
open Go.RowKit Go.Proofs.YtbjiookpiminmaaW.PrintWords Go.Proofs.YtbjiookpiminmaaW.PrintLast Go.Proofs.YtbjiookpiminmaaW.PrintMore
attribute [local go_sem] max2_int min2_int max_two min_two max_three min_three max_four min_four   -- for this text's walks alone
mutual
def code_Receive.j0 : Nat → Int → List (S42) → Int → Int → Int → List Int → Int → Int → List Int → Option (Int × (List (S42)) × Int)
 | 0, _, _, _, _, _, _, _, _, _ => none
 | k + 1, x357000, x357001, x358000, x358001, x358002, x358003, x375000, x375001, x375002 => code_Receive.l0 k x357001 (x357001.length : Int) 0 x358000 x358001 x358002 x358003 x375000 x375001 x375002 x357000 ([] : List (S42))
def code_Receive.l0 : Nat → List (S42) → Int → Int → Int → Int → Int → List Int → Int → Int → List Int → Int → List (S42) → Option (Int × (List (S42)) × Int)
 | 0, _, _, _, _, _, _, _, _, _, _, _, _ => none
 | k + 1, x88, x89, x90, x358000, x358001, x358002, x358003, x375000, x375001, x375002, x387000, x387001 => if x90 < x89 then (if 0 ≤ x90 then (if x90 < (x88.length : Int) then (if x90 = x358000 then ((slices_Clone_int_int.f x375002).bind fun t389 => (if x387001.length < 3518437208883 then (code_Receive.l0 k x88 x89 (wrap64 (x90 + 1)) x358000 x358001 x358002 x358003 x375000 x375001 x375002 x387000 (x387001 ++ [(⟨x375000, x375001, t389⟩ : S42)])) else (none))) else ((slices_Clone_int_int.f ((rd_T42 x88 x90).f2)).bind fun t395 => (if x387001.length < 3518437208883 then (code_Receive.l0 k x88 x89 (wrap64 (x90 + 1)) x358000 x358001 x358002 x358003 x375000 x375001 x375002 x387000 (x387001 ++ [(⟨(rd_T42 x88 x90).f0, (rd_T42 x88 x90).f1, t395⟩ : S42)])) else (none)))) else (none)) else (none)) else (some (x387000, x387001, 0))
end
def code_Receive.f (k : Nat) (a0_0 : Int) (l0_1 : List (S42)) (a1_0 : Int) (a1_1 : Int) (a1_2 : Int) (l1_3 : List Int) : Option (Int × (List (S42)) × Int) := (code_buffersErr.f k a0_0 l0_1).bind fun t359 => ((code_within.f a1_0 0 (wrap64 ((l0_1.length : Int) - 1))).bind fun t360 => ((code_unless.f t360 6).bind fun t361 => ((code_isBit.f a1_1).bind fun t362 => ((code_unless.f t362 15).bind fun t363 => ((code_isVersion.f a1_2).bind fun t364 => ((code_unless.f t364 15).bind fun t365 => ((code_softErr.f l1_3).bind fun t366 => ((code_first.f k (([t359, t361, t363, t365, t366] : List Int))).bind fun t370 => (if t370 = 0 then ((code_gathered.f l1_3 a1_2 a0_0).bind fun t371 => (if 0 ≤ a1_0 then (if a1_0 < (l0_1.length : Int) then (if ((rd_T42 l0_1 a1_0).f0) = a1_1 then ((code_combined.f k ((rd_T42 l0_1 a1_0).f2) t371).bind fun bt377 => ((code_unless.f (decide ((wrap64 (((rd_T42 l0_1 a1_0).f1) + 1)) ≤ 1000000000)) 8).bind fun t381 => ((code_first.f k (([bt377.2, t381] : List Int))).bind fun t385 => (if t385 = 0 then (code_Receive.j0 k a0_0 l0_1 a1_0 a1_1 a1_2 l1_3 a1_1 (wrap64 (((rd_T42 l0_1 a1_0).f1) + 1)) bt377.1) else (none))))) else (code_Receive.j0 k a0_0 l0_1 a1_0 a1_1 a1_2 l1_3 a1_1 1 t371)) else (none)) else (none))) else (none))))))))))
def code_Receive.T1 : Bool × List (List Nat × List Nat) := (true, [([], []), ([0], [0]), ([], []), ([2], [2]), ([], []), ([4], [4]), ([5], [5]), ([6], [6]), ([3, 7, 1], [3, 7]), ([8, 8], [8]), ([], []), ([10], [10]), ([11, 9], [11]), ([12, 12], [12]), ([], []), ([14], [14]), ([15, 13], [15]), ([16, 16], [16]), ([], []), ([18], [18]), ([19, 17], [19]), ([1, 9, 13, 17, 20], [1, 9, 13, 17, 20]), ([21, 20], [21]), ([22, 22, 0, 1, 2, 3, 4, 5, 6, 7, 8, 9, 10, 11, 12, 13, 14, 15, 16, 17, 18, 19, 20, 21, 22], [22])])
def code_Receive.B1 : List Nat := [0, 1, 0, 4, 0, 16, 48, 112, 255, 511, 0, 1024, 4095, 8191, 0, 16384, 65535, 131071, 0, 262144, 1048575, 2097151, 4194303, 8388607]
theorem code_Receive.tab1 : rtab .any (opsOf Try.f13 1) = code_Receive.T1 := by kernel_rfl
theorem code_Receive.bits1 : waitsOk code_Receive.T1.2 code_Receive.B1 = true := by kernel_rfl
def code_Receive.T4 : Bool × List (List Nat × List Nat) := (true, [([], []), ([0], [0]), ([], []), ([2], [2]), ([], []), ([4], [4]), ([], []), ([6], [6]), ([3, 5, 7], [3, 5, 7]), ([1, 8], [1, 8]), ([], []), ([10, 9, 8, 0, 1, 2, 3, 4, 5, 6, 7, 8, 9, 10], [9, 10])])
def code_Receive.B4 : List Nat := [0, 1, 0, 4, 0, 16, 0, 64, 252, 511, 0, 2047]
theorem code_Receive.tab4 : rtab .any (opsOf Try.f13 4) = code_Receive.T4 := by kernel_rfl
theorem code_Receive.bits4 : waitsOk code_Receive.T4.2 code_Receive.B4 = true := by kernel_rfl
theorem code_Receive.calls (k : Nat) (a0_0 : Int) (A0_1 : Option Addr) (c0_1 : Nat) (l0_1 : List (S42)) (a1_0 : Int) (a1_1 : Int) (a1_2 : Int) (A1_3 : Option Addr) (c1_3 : Nat) (l1_3 : List Int) (r1 : Int) (r2 : List (S42)) (r3 : Int) (w : World) (hr0_1 : Kd.C k42 w A0_1 l0_1.length l0_1) (hc0_1 : l0_1.length ≤ c0_1) (hr1_3 : Kd.C (Kd.int .i64) w A1_3 l1_3.length l1_3) (hc1_3 : l1_3.length ≤ c1_3) (h : code_Receive.f k a0_0 l0_1 a1_0 a1_1 a1_2 l1_3 = some (r1, r2, r3)) :
  Calls Try.prog 13 #[.agg #[.int .i64 a0_0, .slice A0_1 l0_1.length c0_1], .agg #[.int .i64 a1_0, .int .i64 a1_1, .int .i64 a1_2, .slice A1_3 l1_3.length c1_3]] w fun e w' => ∃ v1_ : Value, e = .returned (.tuple #[.agg #[.int .i64 r1, v1_], .int .i64 r3]) ∧ Kd.S k42 42 w' w.heap.size (fun _ => True) v1_ r2 ∧ Below w.heap.size w w' := by
 have hu28 := Try.underlying28
 have hu36 := Try.underlying36
 have hu42 := Try.underlying42
 have HR0_1 := dH hr0_1
 have HC0_1 := dH hc0_1
 clear hr0_1 hc0_1
 have HR1_3 := dH hr1_3
 have HC1_3 := dH hc1_3
 clear hr1_3 hc1_3
 have HB := dH (Below.refl w.heap.size w)
 have H : ((code_buffersErr.f k a0_0 l0_1).bind fun t359 => ((code_within.f a1_0 0 (wrap64 ((l0_1.length : Int) - 1))).bind fun t360 => ((code_unless.f t360 6).bind fun t361 => ((code_isBit.f a1_1).bind fun t362 => ((code_unless.f t362 15).bind fun t363 => ((code_isVersion.f a1_2).bind fun t364 => ((code_unless.f t364 15).bind fun t365 => ((code_softErr.f l1_3).bind fun t366 => ((code_first.f k (([t359, t361, t363, t365, t366] : List Int))).bind fun t370 => (if t370 = 0 then ((code_gathered.f l1_3 a1_2 a0_0).bind fun t371 => (if 0 ≤ a1_0 then (if a1_0 < (l0_1.length : Int) then (if ((rd_T42 l0_1 a1_0).f0) = a1_1 then ((code_combined.f k ((rd_T42 l0_1 a1_0).f2) t371).bind fun bt377 => ((code_unless.f (decide ((wrap64 (((rd_T42 l0_1 a1_0).f1) + 1)) ≤ 1000000000)) 8).bind fun t381 => ((code_first.f k (([bt377.2, t381] : List Int))).bind fun t385 => (if t385 = 0 then (code_Receive.j0 k a0_0 l0_1 a1_0 a1_1 a1_2 l1_3 a1_1 (wrap64 (((rd_T42 l0_1 a1_0).f1) + 1)) bt377.1) else (none))))) else (code_Receive.j0 k a0_0 l0_1 a1_0 a1_1 a1_2 l1_3 a1_1 1 t371)) else (none)) else (none))) else (none))))))))))) = some (r1, r2, r3) := h
 clear h
 replace H := dF.mp H
 obtain ⟨t359, A30, H⟩ := H
 replace H : ((code_within.f a1_0 0 (wrap64 ((l0_1.length : Int) - 1))).bind fun t360 => ((code_unless.f t360 6).bind fun t361 => ((code_isBit.f a1_1).bind fun t362 => ((code_unless.f t362 15).bind fun t363 => ((code_isVersion.f a1_2).bind fun t364 => ((code_unless.f t364 15).bind fun t365 => ((code_softErr.f l1_3).bind fun t366 => ((code_first.f k (([t359, t361, t363, t365, t366] : List Int))).bind fun t370 => (if t370 = 0 then ((code_gathered.f l1_3 a1_2 a0_0).bind fun t371 => (if 0 ≤ a1_0 then (if a1_0 < (l0_1.length : Int) then (if ((rd_T42 l0_1 a1_0).f0) = a1_1 then ((code_combined.f k ((rd_T42 l0_1 a1_0).f2) t371).bind fun bt377 => ((code_unless.f (decide ((wrap64 (((rd_T42 l0_1 a1_0).f1) + 1)) ≤ 1000000000)) 8).bind fun t381 => ((code_first.f k (([bt377.2, t381] : List Int))).bind fun t385 => (if t385 = 0 then (code_Receive.j0 k a0_0 l0_1 a1_0 a1_1 a1_2 l1_3 a1_1 (wrap64 (((rd_T42 l0_1 a1_0).f1) + 1)) bt377.1) else (none))))) else (code_Receive.j0 k a0_0 l0_1 a1_0 a1_1 a1_2 l1_3 a1_1 1 t371)) else (none)) else (none))) else (none)))))))))) = some (r1, r2, r3) := H
 have A3 := dH A30
 clear A30
 replace H := dF.mp H
 obtain ⟨t360, A40, H⟩ := H
 replace H : ((code_unless.f t360 6).bind fun t361 => ((code_isBit.f a1_1).bind fun t362 => ((code_unless.f t362 15).bind fun t363 => ((code_isVersion.f a1_2).bind fun t364 => ((code_unless.f t364 15).bind fun t365 => ((code_softErr.f l1_3).bind fun t366 => ((code_first.f k (([t359, t361, t363, t365, t366] : List Int))).bind fun t370 => (if t370 = 0 then ((code_gathered.f l1_3 a1_2 a0_0).bind fun t371 => (if 0 ≤ a1_0 then (if a1_0 < (l0_1.length : Int) then (if ((rd_T42 l0_1 a1_0).f0) = a1_1 then ((code_combined.f k ((rd_T42 l0_1 a1_0).f2) t371).bind fun bt377 => ((code_unless.f (decide ((wrap64 (((rd_T42 l0_1 a1_0).f1) + 1)) ≤ 1000000000)) 8).bind fun t381 => ((code_first.f k (([bt377.2, t381] : List Int))).bind fun t385 => (if t385 = 0 then (code_Receive.j0 k a0_0 l0_1 a1_0 a1_1 a1_2 l1_3 a1_1 (wrap64 (((rd_T42 l0_1 a1_0).f1) + 1)) bt377.1) else (none))))) else (code_Receive.j0 k a0_0 l0_1 a1_0 a1_1 a1_2 l1_3 a1_1 1 t371)) else (none)) else (none))) else (none))))))))) = some (r1, r2, r3) := H
 have A4 := dH A40
 clear A40
 replace H := dF.mp H
 obtain ⟨t361, A50, H⟩ := H
 replace H : ((code_isBit.f a1_1).bind fun t362 => ((code_unless.f t362 15).bind fun t363 => ((code_isVersion.f a1_2).bind fun t364 => ((code_unless.f t364 15).bind fun t365 => ((code_softErr.f l1_3).bind fun t366 => ((code_first.f k (([t359, t361, t363, t365, t366] : List Int))).bind fun t370 => (if t370 = 0 then ((code_gathered.f l1_3 a1_2 a0_0).bind fun t371 => (if 0 ≤ a1_0 then (if a1_0 < (l0_1.length : Int) then (if ((rd_T42 l0_1 a1_0).f0) = a1_1 then ((code_combined.f k ((rd_T42 l0_1 a1_0).f2) t371).bind fun bt377 => ((code_unless.f (decide ((wrap64 (((rd_T42 l0_1 a1_0).f1) + 1)) ≤ 1000000000)) 8).bind fun t381 => ((code_first.f k (([bt377.2, t381] : List Int))).bind fun t385 => (if t385 = 0 then (code_Receive.j0 k a0_0 l0_1 a1_0 a1_1 a1_2 l1_3 a1_1 (wrap64 (((rd_T42 l0_1 a1_0).f1) + 1)) bt377.1) else (none))))) else (code_Receive.j0 k a0_0 l0_1 a1_0 a1_1 a1_2 l1_3 a1_1 1 t371)) else (none)) else (none))) else (none)))))))) = some (r1, r2, r3) := H
 have A5 := dH A50
 clear A50
 replace H := dF.mp H
 obtain ⟨t362, A60, H⟩ := H
 replace H : ((code_unless.f t362 15).bind fun t363 => ((code_isVersion.f a1_2).bind fun t364 => ((code_unless.f t364 15).bind fun t365 => ((code_softErr.f l1_3).bind fun t366 => ((code_first.f k (([t359, t361, t363, t365, t366] : List Int))).bind fun t370 => (if t370 = 0 then ((code_gathered.f l1_3 a1_2 a0_0).bind fun t371 => (if 0 ≤ a1_0 then (if a1_0 < (l0_1.length : Int) then (if ((rd_T42 l0_1 a1_0).f0) = a1_1 then ((code_combined.f k ((rd_T42 l0_1 a1_0).f2) t371).bind fun bt377 => ((code_unless.f (decide ((wrap64 (((rd_T42 l0_1 a1_0).f1) + 1)) ≤ 1000000000)) 8).bind fun t381 => ((code_first.f k (([bt377.2, t381] : List Int))).bind fun t385 => (if t385 = 0 then (code_Receive.j0 k a0_0 l0_1 a1_0 a1_1 a1_2 l1_3 a1_1 (wrap64 (((rd_T42 l0_1 a1_0).f1) + 1)) bt377.1) else (none))))) else (code_Receive.j0 k a0_0 l0_1 a1_0 a1_1 a1_2 l1_3 a1_1 1 t371)) else (none)) else (none))) else (none))))))) = some (r1, r2, r3) := H
 have A6 := dH A60
 clear A60
 replace H := dF.mp H
 obtain ⟨t363, A70, H⟩ := H
 replace H : ((code_isVersion.f a1_2).bind fun t364 => ((code_unless.f t364 15).bind fun t365 => ((code_softErr.f l1_3).bind fun t366 => ((code_first.f k (([t359, t361, t363, t365, t366] : List Int))).bind fun t370 => (if t370 = 0 then ((code_gathered.f l1_3 a1_2 a0_0).bind fun t371 => (if 0 ≤ a1_0 then (if a1_0 < (l0_1.length : Int) then (if ((rd_T42 l0_1 a1_0).f0) = a1_1 then ((code_combined.f k ((rd_T42 l0_1 a1_0).f2) t371).bind fun bt377 => ((code_unless.f (decide ((wrap64 (((rd_T42 l0_1 a1_0).f1) + 1)) ≤ 1000000000)) 8).bind fun t381 => ((code_first.f k (([bt377.2, t381] : List Int))).bind fun t385 => (if t385 = 0 then (code_Receive.j0 k a0_0 l0_1 a1_0 a1_1 a1_2 l1_3 a1_1 (wrap64 (((rd_T42 l0_1 a1_0).f1) + 1)) bt377.1) else (none))))) else (code_Receive.j0 k a0_0 l0_1 a1_0 a1_1 a1_2 l1_3 a1_1 1 t371)) else (none)) else (none))) else (none)))))) = some (r1, r2, r3) := H
 have A7 := dH A70
 clear A70
 replace H := dF.mp H
 obtain ⟨t364, A80, H⟩ := H
 replace H : ((code_unless.f t364 15).bind fun t365 => ((code_softErr.f l1_3).bind fun t366 => ((code_first.f k (([t359, t361, t363, t365, t366] : List Int))).bind fun t370 => (if t370 = 0 then ((code_gathered.f l1_3 a1_2 a0_0).bind fun t371 => (if 0 ≤ a1_0 then (if a1_0 < (l0_1.length : Int) then (if ((rd_T42 l0_1 a1_0).f0) = a1_1 then ((code_combined.f k ((rd_T42 l0_1 a1_0).f2) t371).bind fun bt377 => ((code_unless.f (decide ((wrap64 (((rd_T42 l0_1 a1_0).f1) + 1)) ≤ 1000000000)) 8).bind fun t381 => ((code_first.f k (([bt377.2, t381] : List Int))).bind fun t385 => (if t385 = 0 then (code_Receive.j0 k a0_0 l0_1 a1_0 a1_1 a1_2 l1_3 a1_1 (wrap64 (((rd_T42 l0_1 a1_0).f1) + 1)) bt377.1) else (none))))) else (code_Receive.j0 k a0_0 l0_1 a1_0 a1_1 a1_2 l1_3 a1_1 1 t371)) else (none)) else (none))) else (none))))) = some (r1, r2, r3) := H
 have A8 := dH A80
 clear A80
 replace H := dF.mp H
 obtain ⟨t365, A90, H⟩ := H
 replace H : ((code_softErr.f l1_3).bind fun t366 => ((code_first.f k (([t359, t361, t363, t365, t366] : List Int))).bind fun t370 => (if t370 = 0 then ((code_gathered.f l1_3 a1_2 a0_0).bind fun t371 => (if 0 ≤ a1_0 then (if a1_0 < (l0_1.length : Int) then (if ((rd_T42 l0_1 a1_0).f0) = a1_1 then ((code_combined.f k ((rd_T42 l0_1 a1_0).f2) t371).bind fun bt377 => ((code_unless.f (decide ((wrap64 (((rd_T42 l0_1 a1_0).f1) + 1)) ≤ 1000000000)) 8).bind fun t381 => ((code_first.f k (([bt377.2, t381] : List Int))).bind fun t385 => (if t385 = 0 then (code_Receive.j0 k a0_0 l0_1 a1_0 a1_1 a1_2 l1_3 a1_1 (wrap64 (((rd_T42 l0_1 a1_0).f1) + 1)) bt377.1) else (none))))) else (code_Receive.j0 k a0_0 l0_1 a1_0 a1_1 a1_2 l1_3 a1_1 1 t371)) else (none)) else (none))) else (none)))) = some (r1, r2, r3) := H
 have A9 := dH A90
 clear A90
 replace H := dF.mp H
 obtain ⟨t366, A100, H⟩ := H
 replace H : ((code_first.f k (([t359, t361, t363, t365, t366] : List Int))).bind fun t370 => (if t370 = 0 then ((code_gathered.f l1_3 a1_2 a0_0).bind fun t371 => (if 0 ≤ a1_0 then (if a1_0 < (l0_1.length : Int) then (if ((rd_T42 l0_1 a1_0).f0) = a1_1 then ((code_combined.f k ((rd_T42 l0_1 a1_0).f2) t371).bind fun bt377 => ((code_unless.f (decide ((wrap64 (((rd_T42 l0_1 a1_0).f1) + 1)) ≤ 1000000000)) 8).bind fun t381 => ((code_first.f k (([bt377.2, t381] : List Int))).bind fun t385 => (if t385 = 0 then (code_Receive.j0 k a0_0 l0_1 a1_0 a1_1 a1_2 l1_3 a1_1 (wrap64 (((rd_T42 l0_1 a1_0).f1) + 1)) bt377.1) else (none))))) else (code_Receive.j0 k a0_0 l0_1 a1_0 a1_1 a1_2 l1_3 a1_1 1 t371)) else (none)) else (none))) else (none))) = some (r1, r2, r3) := H
 have A10 := dH A100
 clear A100
 obtain ⟨y367, hy367⟩ : ∃ y_ : List Int, y_ = (([t359, t361, t363, t365, t366] : List Int)) := ⟨_, rfl⟩
 replace H : ((code_first.f k y367).bind fun t370 => (if t370 = 0 then ((code_gathered.f l1_3 a1_2 a0_0).bind fun t371 => (if 0 ≤ a1_0 then (if a1_0 < (l0_1.length : Int) then (if ((rd_T42 l0_1 a1_0).f0) = a1_1 then ((code_combined.f k ((rd_T42 l0_1 a1_0).f2) t371).bind fun bt377 => ((code_unless.f (decide ((wrap64 (((rd_T42 l0_1 a1_0).f1) + 1)) ≤ 1000000000)) 8).bind fun t381 => ((code_first.f k (([bt377.2, t381] : List Int))).bind fun t385 => (if t385 = 0 then (code_Receive.j0 k a0_0 l0_1 a1_0 a1_1 a1_2 l1_3 a1_1 (wrap64 (((rd_T42 l0_1 a1_0).f1) + 1)) bt377.1) else (none))))) else (code_Receive.j0 k a0_0 l0_1 a1_0 a1_1 a1_2 l1_3 a1_1 1 t371)) else (none)) else (none))) else (none))) = some (r1, r2, r3) := by first | (rw [hy367]; with_reducible exact H) | (have H2_ := (Option.bind_some _ _).symm.trans H; rw [hy367]; with_reducible exact H2_) | (have H2_ := (Option.bind_some _ _).symm.trans H; with_reducible exact H2_) | with_reducible exact H | (rw [hy367]; exact H) | exact H
 have Ny367 := dH hy367
 clear hy367
 replace H := dF.mp H
 obtain ⟨t370, A110, H⟩ := H
 replace H : (if t370 = 0 then ((code_gathered.f l1_3 a1_2 a0_0).bind fun t371 => (if 0 ≤ a1_0 then (if a1_0 < (l0_1.length : Int) then (if ((rd_T42 l0_1 a1_0).f0) = a1_1 then ((code_combined.f k ((rd_T42 l0_1 a1_0).f2) t371).bind fun bt377 => ((code_unless.f (decide ((wrap64 (((rd_T42 l0_1 a1_0).f1) + 1)) ≤ 1000000000)) 8).bind fun t381 => ((code_first.f k (([bt377.2, t381] : List Int))).bind fun t385 => (if t385 = 0 then (code_Receive.j0 k a0_0 l0_1 a1_0 a1_1 a1_2 l1_3 a1_1 (wrap64 (((rd_T42 l0_1 a1_0).f1) + 1)) bt377.1) else (none))))) else (code_Receive.j0 k a0_0 l0_1 a1_0 a1_1 a1_2 l1_3 a1_1 1 t371)) else (none)) else (none))) else (none)) = some (r1, r2, r3) := H
 have A11 := dH A110
 clear A110
 by_cases c12 : t370 = 0
 ·
  rw [if_pos c12] at H
  have c12b0 : (t370 == 0) = true := beq_iff_eq.mpr c12
  have c12b1 : (t370 != 0) = false := bne_eq_false_iff_eq.mpr c12
  clear c12
  replace H := dF.mp H
  obtain ⟨t371, A130, H⟩ := H
  replace H : (if 0 ≤ a1_0 then (if a1_0 < (l0_1.length : Int) then (if ((rd_T42 l0_1 a1_0).f0) = a1_1 then ((code_combined.f k ((rd_T42 l0_1 a1_0).f2) t371).bind fun bt377 => ((code_unless.f (decide ((wrap64 (((rd_T42 l0_1 a1_0).f1) + 1)) ≤ 1000000000)) 8).bind fun t381 => ((code_first.f k (([bt377.2, t381] : List Int))).bind fun t385 => (if t385 = 0 then (code_Receive.j0 k a0_0 l0_1 a1_0 a1_1 a1_2 l1_3 a1_1 (wrap64 (((rd_T42 l0_1 a1_0).f1) + 1)) bt377.1) else (none))))) else (code_Receive.j0 k a0_0 l0_1 a1_0 a1_1 a1_2 l1_3 a1_1 1 t371)) else (none)) else (none)) = some (r1, r2, r3) := H
  have A13 := dH A130
  clear A130
  by_cases c14 : 0 ≤ a1_0
  ·
   rw [if_pos c14] at H
   have c14b0 : decide (0 ≤ a1_0) = true := decide_eq_true c14
   clear c14
   by_cases c15 : a1_0 < (l0_1.length : Int)
   ·
    rw [if_pos c15] at H
    have c15b0 : decide (a1_0 < (l0_1.length : Int)) = true := decide_eq_true c15
    clear c15
    have HC16 := dH H
    clear H
    go_enter Try.func13, Try.ntmps13
    try go_wp2_with (first | ((with_reducible refine bg (N := 2) rfl ?_); refine bI ?hg (N := 2) ?hd (cs := #[.int .i64 a0_0, .slice A0_1 l0_1.length c0_1]) (t := 28) ?hr ?_; (case hd => rfl); (case hg => rfl); (case hr => first | (go_simp; done) | (go_simp; rfl)); intro gb356 hg w17 hbox hb; have n0_ := dH (aM (by repeat (first | (with_reducible first | exact HB.out | apply ak | apply ah | apply aj) | exact HB.out)) hb); have n1_ := dH (hbox); have n2_ := dH ((by rw [hg]; exact (aK (by repeat (first | (with_reducible first | exact HB.out | apply ak | apply ah | apply aj) | exact HB.out))) : w.heap.size ≤ gb356)); have n3_ := dH ((by rw [hg]; exact (aK (by repeat (first | (with_reducible first | exact HB.out | apply ak | apply ah | apply aj) | exact HB.out))) : w.heap.size ≤ gb356)); clear HB; have HB := n0_; have BK356 := n1_; have GW356 := n2_; have GE356 := n3_; clear n0_ n1_ n2_ n3_; clear hb hbox hg) | ((with_reducible refine bg (N := 3) rfl ?_); refine bI ?hg (N := 3) ?hd (cs := #[.int .i64 a1_0, .int .i64 a1_1, .int .i64 a1_2, .slice A1_3 l1_3.length c1_3]) (t := 36) ?hr ?_; (case hd => rfl); (case hg => rfl); (case hr => first | (go_simp; done) | (go_simp; rfl)); intro gb357 hg w18 hbox hb; have n0_ := dH (aQ (g := gb356) (o := .cells #[.int .i64 a0_0, .slice A0_1 l0_1.length c0_1] 28 (0, 0)) (by (with_reducible repeat (first | refine av ?_ _ | refine aC ?_ | refine au ?_ _)); exact BK356.out) hb); have n1_ := dH (aM (by repeat (first | (with_reducible first | exact HB.out | apply ak | apply ah | apply aj | refine aA ?_ GE356.out) | exact HB.out)) hb); have n2_ := dH (hbox); have n3_ := dH ((by rw [hg]; exact (aK (by repeat (first | (with_reducible first | exact HB.out | apply ak | apply ah | apply aj | refine aA ?_ GE356.out) | exact HB.out))) : w.heap.size ≤ gb357)); have n4_ := dH ((by rw [hg]; exact (aK (by repeat (first | (with_reducible first | exact HB.out | apply ak | apply ah | apply aj | refine aA ?_ GE356.out) | exact HB.out))) : w.heap.size ≤ gb357)); have n5_ := dH ((by rw [hg]; exact Nat.ne_of_lt (bn (g := gb356) (o := .cells #[.int .i64 a0_0, .slice A0_1 l0_1.length c0_1] 28 (0, 0)) (by (with_reducible repeat (first | refine av ?_ _ | refine aC ?_ | refine au ?_ _)); exact BK356.out)) : gb356 ≠ gb357)); have n6_ := dH ((by rw [hg]; exact Nat.ne_of_gt (bn (g := gb356) (o := .cells #[.int .i64 a0_0, .slice A0_1 l0_1.length c0_1] 28 (0, 0)) (by (with_reducible repeat (first | refine av ?_ _ | refine aC ?_ | refine au ?_ _)); exact BK356.out)) : gb357 ≠ gb356)); clear BK356; clear HB; have BK356 := n0_; have HB := n1_; have BK357 := n2_; have GW357 := n3_; have GE357 := n4_; have NB356_357 := n5_; have NB357_356 := n6_; clear n0_ n1_ n2_ n3_ n4_ n5_ n6_; clear hb hbox hg) | ((with_reducible refine bg (N := 4) rfl ?_); refine bI ?hg (N := 4) ?hd (cs := #[.int .i64 0, .slice none 0 0]) (t := 28) ?hr ?_; (case hd => rfl); (case hg => rfl); (case hr => first | (go_simp; done) | (go_simp; rfl)); intro gb358 hg w19 hbox hb; have n0_ := dH (aQ (g := gb356) (o := .cells #[.int .i64 a0_0, .slice A0_1 l0_1.length c0_1] 28 (0, 0)) (by (with_reducible repeat (first | refine av ?_ _ | refine aC ?_ | refine au ?_ _)); exact BK356.out) hb); have n1_ := dH (aQ (g := gb357) (o := .cells #[.int .i64 a1_0, .int .i64 a1_1, .int .i64 a1_2, .slice A1_3 l1_3.length c1_3] 36 (0, 0)) (by (with_reducible repeat (first | refine av ?_ _ | refine aC ?_ | refine au ?_ _)); exact BK357.out) hb); have n2_ := dH (aM (by repeat (first | (with_reducible first | exact HB.out | apply ak | apply ah | apply aj | refine aA ?_ GE356.out | refine aA ?_ GE357.out) | exact HB.out)) hb); have n3_ := dH (hbox); have n4_ := dH ((by rw [hg]; exact (aK (by repeat (first | (with_reducible first | exact HB.out | apply ak | apply ah | apply aj | refine aA ?_ GE356.out | refine aA ?_ GE357.out) | exact HB.out))) : w.heap.size ≤ gb358)); have n5_ := dH ((by rw [hg]; exact (aK (by repeat (first | (with_reducible first | exact HB.out | apply ak | apply ah | apply aj | refine aA ?_ GE356.out | refine aA ?_ GE357.out) | exact HB.out))) : w.heap.size ≤ gb358)); have n6_ := dH ((by rw [hg]; exact Nat.ne_of_lt (bn (g := gb356) (o := .cells #[.int .i64 a0_0, .slice A0_1 l0_1.length c0_1] 28 (0, 0)) (by (with_reducible repeat (first | refine av ?_ _ | refine aC ?_ | refine au ?_ _)); exact BK356.out)) : gb356 ≠ gb358)); have n7_ := dH ((by rw [hg]; exact Nat.ne_of_gt (bn (g := gb356) (o := .cells #[.int .i64 a0_0, .slice A0_1 l0_1.length c0_1] 28 (0, 0)) (by (with_reducible repeat (first | refine av ?_ _ | refine aC ?_ | refine au ?_ _)); exact BK356.out)) : gb358 ≠ gb356)); have n8_ := dH ((by rw [hg]; exact Nat.ne_of_lt (bn (g := gb357) (o := .cells #[.int .i64 a1_0, .int .i64 a1_1, .int .i64 a1_2, .slice A1_3 l1_3.length c1_3] 36 (0, 0)) (by (with_reducible repeat (first | refine av ?_ _ | refine aC ?_ | refine au ?_ _)); exact BK357.out)) : gb357 ≠ gb358)); have n9_ := dH ((by rw [hg]; exact Nat.ne_of_gt (bn (g := gb357) (o := .cells #[.int .i64 a1_0, .int .i64 a1_1, .int .i64 a1_2, .slice A1_3 l1_3.length c1_3] 36 (0, 0)) (by (with_reducible repeat (first | refine av ?_ _ | refine aC ?_ | refine au ?_ _)); exact BK357.out)) : gb358 ≠ gb357)); clear BK356; clear BK357; clear HB; have BK356 := n0_; have BK357 := n1_; have HB := n2_; have BK358 := n3_; have GW358 := n4_; have GE358 := n5_; have NB356_358 := n6_; have NB358_356 := n7_; have NB357_358 := n8_; have NB358_357 := n9_; clear n0_ n1_ n2_ n3_ n4_ n5_ n6_ n7_ n8_ n9_; clear hb hbox hg))
    have n0_ := dH (aC BK356.out)
    have n1_ := dH (aC BK357.out)
    have n2_ := dH (aC BK358.out)
    have n3_ := dH (aj HB.out)
    clear BK356
    clear BK357
    clear BK358
    clear HB
    have BK356 := n0_
    have BK357 := n1_
    have BK358 := n2_
    have HB := n3_
    clear n0_ n1_ n2_ n3_
    refine b_ (n := 24) (S := fun w' => w'.cell? ⟨gb356, 0, none⟩ = some (.int .i64 a0_0) ∧ w'.cell? ⟨gb356, 1, none⟩ = some (.slice A0_1 l0_1.length c0_1) ∧ w'.cell? ⟨gb357, 0, none⟩ = some (.int .i64 a1_0) ∧ w'.cell? ⟨gb357, 1, none⟩ = some (.int .i64 a1_1) ∧ w'.cell? ⟨gb357, 2, none⟩ = some (.int .i64 a1_2) ∧ w'.cell? ⟨gb357, 3, none⟩ = some (.slice A1_3 l1_3.length c1_3)) (ds := []) (dG 24 0) (by kernel_rfl) rfl rfl ⟨(ay BK356.out 0).trans rfl, (ay BK356.out 1).trans rfl, (ay BK357.out 0).trans rfl, (ay BK357.out 1).trans rfl, (ay BK357.out 2).trans rfl, (ay BK357.out 3).trans rfl⟩ (fun hHeld => ?_); refine bZ code_Receive.tab1 code_Receive.bits1 (fun HT_ HW_ => ?_)
    generalize w19.drew = w20 at BK356 BK357 BK358 HB hHeld ⊢
    refine aV (i := 2) (N := some 14) (v := ?_) (a' := ?_) (dG 24 4) rfl rfl (aU HT_.out (by kernel_rfl)) (fun _ _ _ h => h) (Or.inl ⟨by rfl, ?_⟩) ?_ ?_
    rotate_left
    ·
     intro w'
     go_simp
     with_reducible rfl
    rotate_left
    ·
     simp only [Act.put, cO, cZ, d9, aG, aH]
     rfl
    refine aV (i := 4) (N := some 16) (v := ?_) (a' := ?_) (dG 24 20) rfl rfl (aU HT_.out (by kernel_rfl)) (fun _ _ _ h => h) (Or.inl ⟨by rfl, ?_⟩) ?_ ?_
    rotate_left
    ·
     intro w'
     go_simp
     with_reducible rfl
    rotate_left
    ·
     simp only [Act.put, cO, cZ, d9, aG, aH]
     rfl
    refine aV (i := 10) (N := some 22) (v := ?_) (a' := ?_) (dG 24 1044) rfl rfl (aU HT_.out (by kernel_rfl)) (fun _ _ _ h => h) (Or.inl ⟨by rfl, ?_⟩) ?_ ?_
    rotate_left
    ·
     intro w'
     go_simp
     with_reducible rfl
    rotate_left
    ·
     simp only [Act.put, cO, cZ, d9, aG, aH]
     rfl
    refine aV (i := 14) (N := some 26) (v := ?_) (a' := ?_) (dG 24 17428) rfl rfl (aU HT_.out (by kernel_rfl)) (fun _ _ _ h => h) (Or.inl ⟨by rfl, ?_⟩) ?_ ?_
    rotate_left
    ·
     intro w'
     go_simp
     with_reducible rfl
    rotate_left
    ·
     simp only [Act.put, cO, cZ, d9, aG, aH]
     rfl
    refine aV (i := 18) (N := some 30) (v := ?_) (a' := ?_) (dG 24 279572) rfl rfl (aU HT_.out (by kernel_rfl)) (fun _ _ _ h => h) (Or.inl ⟨by rfl, ?_⟩) ?_ ?_
    rotate_left
    ·
     intro w'
     go_simp
     with_reducible rfl
    rotate_left
    ·
     simp only [Act.put, cO, cZ, d9, aG, aH]
     rfl
    refine bK (i := 0) (N := some 12) (v := ?_) (a' := ?_) (dG 24 279573) rfl rfl (bD HT_.out HW_.out (by kernel_rfl)) (fun _ _ _ h => h) (Or.inl ⟨by rfl, ?_⟩) hHeld ?_ ?_
    rotate_left
    ·
     rintro w' ⟨s0, s1, s2, s3, s4, s5⟩
     go_simp
     with_reducible rfl
    rotate_left
    ·
     simp only [Act.put, cO, cZ, d9, aG, aH]
     rfl
    refine bK (i := 3) (N := some 15) (v := ?_) (a' := ?_) (dG 24 279581) rfl rfl (bD HT_.out HW_.out (by kernel_rfl)) (fun _ _ _ h => h) (Or.inl ⟨by rfl, ?_⟩) hHeld ?_ ?_
    rotate_left
    ·
     rintro w' ⟨s0, s1, s2, s3, s4, s5⟩
     go_simp
     with_reducible rfl
    rotate_left
    ·
     simp only [Act.put, cO, cZ, d9, aG, aH]
     rfl
    refine bK (i := 5) (N := some 17) (v := ?_) (a' := ?_) (dG 24 279613) rfl rfl (bD HT_.out HW_.out (by kernel_rfl)) (fun _ _ _ h => h) (Or.inl ⟨by rfl, ?_⟩) hHeld ?_ ?_
    rotate_left
    ·
     rintro w' ⟨s0, s1, s2, s3, s4, s5⟩
     go_simp
     with_reducible rfl
    rotate_left
    ·
     simp only [Act.put, cO, cZ, d9, aG, aH]
     rfl
    refine aV (i := 6) (N := some 18) (v := ?_) (a' := ?_) (dG 24 279677) rfl rfl (aU HT_.out (by kernel_rfl)) (fun _ _ _ h => h) (Or.inl ⟨by rfl, ?_⟩) ?_ ?_
    rotate_left
    ·
     intro w'
     go_simp
     with_reducible rfl
    rotate_left
    ·
     simp only [Act.put, cO, cZ, d9, aG, aH]
     rfl
    refine aV (i := 7) (N := some 19) (v := ?_) (a' := ?_) (dG 24 279805) rfl rfl (aU HT_.out (by kernel_rfl)) (fun _ _ _ h => h) (Or.inl ⟨by rfl, ?_⟩) ?_ ?_
    rotate_left
    ·
     intro w'
     go_simp
     with_reducible rfl
    rotate_left
    ·
     simp only [Act.put, cO, cZ, d9, aG, aH]
     rfl
    refine bK (i := 11) (N := some 23) (v := ?_) (a' := ?_) (dG 24 281853) rfl rfl (bD HT_.out HW_.out (by kernel_rfl)) (fun _ _ _ h => h) (Or.inl ⟨by rfl, ?_⟩) hHeld ?_ ?_
    rotate_left
    ·
     rintro w' ⟨s0, s1, s2, s3, s4, s5⟩
     go_simp
     with_reducible rfl
    rotate_left
    ·
     simp only [Act.put, cO, cZ, d9, aG, aH]
     rfl
    refine bK (i := 15) (N := some 27) (v := ?_) (a' := ?_) (dG 24 314621) rfl rfl (bD HT_.out HW_.out (by kernel_rfl)) (fun _ _ _ h => h) (Or.inl ⟨by rfl, ?_⟩) hHeld ?_ ?_
    rotate_left
    ·
     rintro w' ⟨s0, s1, s2, s3, s4, s5⟩
     go_simp
     with_reducible rfl
    rotate_left
    ·
     simp only [Act.put, cO, cZ, d9, aG, aH]
     rfl
    refine bK (i := 19) (N := some 31) (v := ?_) (a' := ?_) (dG 24 838909) rfl rfl (bD HT_.out HW_.out (by kernel_rfl)) (fun _ _ _ h => h) (Or.inl ⟨by rfl, ?_⟩) hHeld ?_ ?_
    rotate_left
    ·
     rintro w' ⟨s0, s1, s2, s3, s4, s5⟩
     go_simp
     with_reducible rfl
    rotate_left
    ·
     simp only [Act.put, cO, cZ, d9, aG, aH]
     rfl
    refine bR (i := 1) (N := some 13) (dG 24 838911) rfl rfl (bB HT_.out (by kernel_rfl)) (by decide) (fun K hK => ?_)
    refine bQ Try.func73 (by kernel_rfl) rfl #[.agg #[.int .i64 a0_0, .slice A0_1 l0_1.length c0_1]] (by rfl) rfl rfl (by (try simp only [dh, dn, dw]); first | done | rfl | (simp only [dx, dz]; rfl) | (simp only [gt_iff_lt, dA]; rfl) | (simp [Act.eval]; done) | (simp [Act.eval, *]; done)) ?_
    with_reducible refine (code_buffersErr.calls k a0_0 _ _ l0_1 t359 _ ?side1 ?side2 A3.out).mono ?_
    (case side1 => repeat (first | exact (Kd.bF HR0_1.out HB.out) | (with_reducible refine Kd.bA ?_ _) | (with_reducible refine Kd.bC ?_ _) | (with_reducible refine Kd.bJ ?_)))
    (case side2 => exact HC0_1.out)
    rintro e w21 ⟨rfl, hb⟩
    refine ⟨_, rfl, ?_⟩
    have n0_ := dH (aQ (g := gb356) (o := .cells #[.int .i64 a0_0, .slice A0_1 l0_1.length c0_1] 28 (0, 0)) (by (with_reducible repeat (first | refine av ?_ _ | refine aC ?_ | refine au ?_ _)); exact BK356.out) hb)
    have n1_ := dH (aQ (g := gb357) (o := .cells #[.int .i64 a1_0, .int .i64 a1_1, .int .i64 a1_2, .slice A1_3 l1_3.length c1_3] 36 (0, 0)) (by (with_reducible repeat (first | refine av ?_ _ | refine aC ?_ | refine au ?_ _)); exact BK357.out) hb)
    have n2_ := dH (aQ (g := gb358) (o := .cells #[.int .i64 0, .slice none 0 0] 28 (0, 0)) (by (with_reducible repeat (first | refine av ?_ _ | refine aC ?_ | refine au ?_ _)); exact BK358.out) hb)
    have n3_ := dH (aM (by repeat (first | (with_reducible first | exact HB.out | apply ak | apply ah | apply aj | refine aA ?_ GE356.out | refine aA ?_ GE357.out | refine aA ?_ GE358.out) | exact HB.out)) hb)
    clear BK356
    clear BK357
    clear BK358
    clear HB
    have BK356 := n0_
    have BK357 := n1_
    have BK358 := n2_
    have HB := n3_
    clear n0_ n1_ n2_ n3_
    (try clear hb)
    (try clear hb2)
    (try clear hk)
    (try clear hi)
    refine hK.out _ _ ⟨(ay BK356.out 0).trans rfl, (ay BK356.out 1).trans rfl, (ay BK357.out 0).trans rfl, (ay BK357.out 1).trans rfl, (ay BK357.out 2).trans rfl, (ay BK357.out 3).trans rfl⟩ (fun hHeld => ?_)
    clear hK K
    refine bG (a' := ?_) ?_ ?_
    rotate_left
    ·
     show Act.put _ (some 13) _ = _
     simp only [Act.put, cO, cZ, d9, aG, aH]
     rfl
    refine bR (i := 8) (N := some 20) (dG 24 839167) rfl rfl (bB HT_.out (by kernel_rfl)) (by decide) (fun K hK => ?_)
    refine bQ Try.func69 (by kernel_rfl) rfl #[.int .i64 a1_0, .int .i64 0, .int .i64 (wrap64 ((l0_1.length : Int) - 1))] (by rfl) rfl rfl (by (try simp only [dh, dn, dw]); first | done | rfl | (simp only [dx, dz]; rfl) | (simp only [gt_iff_lt, dA]; rfl) | (simp [Act.eval]; done) | (simp [Act.eval, *]; done)) ?_
    with_reducible refine (code_within.calls a1_0 0 (wrap64 ((l0_1.length : Int) - 1)) t360 _ A4.out).mono ?_
    rintro e w' ⟨rfl, ⟨nd, rfl⟩⟩
    refine ⟨_, rfl, ?_⟩
    refine hK.out _ _ ⟨(ay BK356.out 0).trans rfl, (ay BK356.out 1).trans rfl, (ay BK357.out 0).trans rfl, (ay BK357.out 1).trans rfl, (ay BK357.out 2).trans rfl, (ay BK357.out 3).trans rfl⟩ (fun hHeld => ?_)
    clear hK K
    refine bG (a' := ?_) ?_ ?_
    rotate_left
    ·
     show Act.put _ (some 20) _ = _
     simp only [Act.put, cO, cZ, d9, aG, aH]
     rfl
    refine bR (i := 9) (N := some 21) (dG 24 839679) rfl rfl (bB HT_.out (by kernel_rfl)) (by decide) (fun K hK => ?_)
    refine bQ Try.func74 (by kernel_rfl) rfl #[.bool t360, .int .i64 6] (by rfl) rfl rfl (by (try simp only [dh, dn, dw]); first | done | rfl | (simp only [dx, dz]; rfl) | (simp only [gt_iff_lt, dA]; rfl) | (simp [Act.eval]; done) | (simp [Act.eval, *]; done)) ?_
    with_reducible refine (code_unless.calls t360 6 t361 _ A5.out).mono ?_
    rintro e w' ⟨rfl, ⟨nd, rfl⟩⟩
    refine ⟨_, rfl, ?_⟩
    refine hK.out _ _ ⟨(ay BK356.out 0).trans rfl, (ay BK356.out 1).trans rfl, (ay BK357.out 0).trans rfl, (ay BK357.out 1).trans rfl, (ay BK357.out 2).trans rfl, (ay BK357.out 3).trans rfl⟩ (fun hHeld => ?_)
    clear hK K
    refine bG (a' := ?_) ?_ ?_
    rotate_left
    ·
     show Act.put _ (some 21) _ = _
     simp only [Act.put, cO, cZ, d9, aG, aH]
     rfl
    refine bR (i := 12) (N := some 24) (dG 24 843775) rfl rfl (bB HT_.out (by kernel_rfl)) (by decide) (fun K hK => ?_)
    refine bQ Try.func75 (by kernel_rfl) rfl #[.int .i64 a1_1] (by rfl) rfl rfl (by (try simp only [dh, dn, dw]); first | done | rfl | (simp only [dx, dz]; rfl) | (simp only [gt_iff_lt, dA]; rfl) | (simp [Act.eval]; done) | (simp [Act.eval, *]; done)) ?_
    with_reducible refine (code_isBit.calls a1_1 t362 _ A6.out).mono ?_
    rintro e w' ⟨rfl, ⟨nd, rfl⟩⟩
    refine ⟨_, rfl, ?_⟩
    refine hK.out _ _ ⟨(ay BK356.out 0).trans rfl, (ay BK356.out 1).trans rfl, (ay BK357.out 0).trans rfl, (ay BK357.out 1).trans rfl, (ay BK357.out 2).trans rfl, (ay BK357.out 3).trans rfl⟩ (fun hHeld => ?_)
    clear hK K
    refine bG (a' := ?_) ?_ ?_
    rotate_left
    ·
     show Act.put _ (some 24) _ = _
     simp only [Act.put, cO, cZ, d9, aG, aH]
     rfl
    refine bR (i := 13) (N := some 25) (dG 24 851967) rfl rfl (bB HT_.out (by kernel_rfl)) (by decide) (fun K hK => ?_)
    refine bQ Try.func74 (by kernel_rfl) rfl #[.bool t362, .int .i64 15] (by rfl) rfl rfl (by (try simp only [dh, dn, dw]); first | done | rfl | (simp only [dx, dz]; rfl) | (simp only [gt_iff_lt, dA]; rfl) | (simp [Act.eval]; done) | (simp [Act.eval, *]; done)) ?_
    with_reducible refine (code_unless.calls t362 15 t363 _ A7.out).mono ?_
    rintro e w' ⟨rfl, ⟨nd, rfl⟩⟩
    refine ⟨_, rfl, ?_⟩
    refine hK.out _ _ ⟨(ay BK356.out 0).trans rfl, (ay BK356.out 1).trans rfl, (ay BK357.out 0).trans rfl, (ay BK357.out 1).trans rfl, (ay BK357.out 2).trans rfl, (ay BK357.out 3).trans rfl⟩ (fun hHeld => ?_)
    clear hK K
    refine bG (a' := ?_) ?_ ?_
    rotate_left
    ·
     show Act.put _ (some 25) _ = _
     simp only [Act.put, cO, cZ, d9, aG, aH]
     rfl
    refine bR (i := 16) (N := some 28) (dG 24 917503) rfl rfl (bB HT_.out (by kernel_rfl)) (by decide) (fun K hK => ?_)
    refine bQ Try.func76 (by kernel_rfl) rfl #[.int .i64 a1_2] (by rfl) rfl rfl (by (try simp only [dh, dn, dw]); first | done | rfl | (simp only [dx, dz]; rfl) | (simp only [gt_iff_lt, dA]; rfl) | (simp [Act.eval]; done) | (simp [Act.eval, *]; done)) ?_
    with_reducible refine (code_isVersion.calls a1_2 t364 _ A8.out).mono ?_
    rintro e w' ⟨rfl, ⟨nd, rfl⟩⟩
    refine ⟨_, rfl, ?_⟩
    refine hK.out _ _ ⟨(ay BK356.out 0).trans rfl, (ay BK356.out 1).trans rfl, (ay BK357.out 0).trans rfl, (ay BK357.out 1).trans rfl, (ay BK357.out 2).trans rfl, (ay BK357.out 3).trans rfl⟩ (fun hHeld => ?_)
    clear hK K
    refine bG (a' := ?_) ?_ ?_
    rotate_left
    ·
     show Act.put _ (some 28) _ = _
     simp only [Act.put, cO, cZ, d9, aG, aH]
     rfl
    refine bR (i := 17) (N := some 29) (dG 24 1048575) rfl rfl (bB HT_.out (by kernel_rfl)) (by decide) (fun K hK => ?_)
    refine bQ Try.func74 (by kernel_rfl) rfl #[.bool t364, .int .i64 15] (by rfl) rfl rfl (by (try simp only [dh, dn, dw]); first | done | rfl | (simp only [dx, dz]; rfl) | (simp only [gt_iff_lt, dA]; rfl) | (simp [Act.eval]; done) | (simp [Act.eval, *]; done)) ?_
    with_reducible refine (code_unless.calls t364 15 t365 _ A9.out).mono ?_
    rintro e w' ⟨rfl, ⟨nd, rfl⟩⟩
    refine ⟨_, rfl, ?_⟩
    refine hK.out _ _ ⟨(ay BK356.out 0).trans rfl, (ay BK356.out 1).trans rfl, (ay BK357.out 0).trans rfl, (ay BK357.out 1).trans rfl, (ay BK357.out 2).trans rfl, (ay BK357.out 3).trans rfl⟩ (fun hHeld => ?_)
    clear hK K
    refine bG (a' := ?_) ?_ ?_
    rotate_left
    ·
     show Act.put _ (some 29) _ = _
     simp only [Act.put, cO, cZ, d9, aG, aH]
     rfl
    refine bR (i := 20) (N := some 32) (dG 24 2097151) rfl rfl (bB HT_.out (by kernel_rfl)) (by decide) (fun K hK => ?_)
    refine bQ Try.func77 (by kernel_rfl) rfl #[.slice A1_3 l1_3.length c1_3] (by rfl) rfl rfl (by (try simp only [dh, dn, dw]); first | done | rfl | (simp only [dx, dz]; rfl) | (simp only [gt_iff_lt, dA]; rfl) | (simp [Act.eval]; done) | (simp [Act.eval, *]; done)) ?_
    with_reducible refine (code_softErr.calls _ _ l1_3 t366 _ ?side1 ?side2 A10.out).mono ?_
    (case side1 => repeat (first | exact (Kd.bF HR1_3.out (by repeat (first | (with_reducible first | exact HB.out | apply ak | apply ah | apply aj | refine aA ?_ GE356.out | refine aA ?_ GE357.out | refine aA ?_ GE358.out) | exact HB.out))) | (with_reducible refine Kd.bA ?_ _) | (with_reducible refine Kd.bC ?_ _) | (with_reducible refine Kd.bJ ?_)))
    (case side2 => exact HC1_3.out)
    rintro e w22 ⟨rfl, hb⟩
    refine ⟨_, rfl, ?_⟩
    have n0_ := dH (aQ (g := gb356) (o := .cells #[.int .i64 a0_0, .slice A0_1 l0_1.length c0_1] 28 (0, 0)) (by (with_reducible repeat (first | refine av ?_ _ | refine aC ?_ | refine au ?_ _)); exact BK356.out) hb)
    have n1_ := dH (aQ (g := gb357) (o := .cells #[.int .i64 a1_0, .int .i64 a1_1, .int .i64 a1_2, .slice A1_3 l1_3.length c1_3] 36 (0, 0)) (by (with_reducible repeat (first | refine av ?_ _ | refine aC ?_ | refine au ?_ _)); exact BK357.out) hb)
    have n2_ := dH (aQ (g := gb358) (o := .cells #[.int .i64 0, .slice none 0 0] 28 (0, 0)) (by (with_reducible repeat (first | refine av ?_ _ | refine aC ?_ | refine au ?_ _)); exact BK358.out) hb)
    have n3_ := dH (aM (by repeat (first | (with_reducible first | exact HB.out | apply ak | apply ah | apply aj | refine aA ?_ GE356.out | refine aA ?_ GE357.out | refine aA ?_ GE358.out) | exact HB.out)) hb)
    clear BK356
    clear BK357
    clear BK358
    clear HB
    have BK356 := n0_
    have BK357 := n1_
    have BK358 := n2_
    have HB := n3_
    clear n0_ n1_ n2_ n3_
    (try clear hb)
    (try clear hb2)
    (try clear hk)
    (try clear hi)
    refine hK.out _ _ ⟨(ay BK356.out 0).trans rfl, (ay BK356.out 1).trans rfl, (ay BK357.out 0).trans rfl, (ay BK357.out 1).trans rfl, (ay BK357.out 2).trans rfl, (ay BK357.out 3).trans rfl⟩ (fun hHeld => ?_)
    clear hK K
    refine bG (a' := ?_) ?_ ?_
    rotate_left
    ·
     show Act.put _ (some 32) _ = _
     simp only [Act.put, cO, cZ, d9, aG, aH]
     rfl
    refine bR (i := 21) (N := some 33) (dG 24 4194303) rfl rfl (bB HT_.out (by kernel_rfl)) (by decide) (fun K hK => ?_)
    refine Kd.R_lit_step (Kd.int .i64) _ 29 ?hg (N := 33) ?hd (xs := ([t359, t361, t363, t365, t366] : List Int)) (inner := [.int .i64 t359, .int .i64 t361, .int .i64 t363, .int .i64 t365, .int .i64 t366]) (ok := fun _ => True) (okp := fun _ => True) ?hr ?hp (fun _ hk => hk) trivial (Below.refl _ _) (Nat.le_refl _) (by simp) ?_; (case hd => rfl); (case hg => rfl); (case hr => first | (go_simp; done) | (go_simp; rfl)); (case hp => exact (Reps.one (show Kd.M (Kd.int .i64) _ _ _ t359 [.int .i64 t359] from rfl) (Reps.one (show Kd.M (Kd.int .i64) _ _ _ t361 [.int .i64 t361] from rfl) (Reps.one (show Kd.M (Kd.int .i64) _ _ _ t363 [.int .i64 t363] from rfl) (Reps.one (show Kd.M (Kd.int .i64) _ _ _ t365 [.int .i64 t365] from rfl) (Reps.one (show Kd.M (Kd.int .i64) _ _ _ t366 [.int .i64 t366] from rfl) (Reps.none _ _)))))))
    intro v368 w23 ho24 hb hg_ hnew_
    clear hg_ hnew_
    (first | rw [← Ny367.out] at ho24 | (simp only [Int.reduceToNat] at ho24; rw [← Ny367.out] at ho24))
    have n0_ := dH (Kd.bP ho24 (aK (by repeat (first | (with_reducible first | exact HB.out | apply ak | apply ah | apply aj | refine aA ?_ GE356.out | refine aA ?_ GE357.out | refine aA ?_ GE358.out) | exact HB.out))))
    have n1_ := dH (aQ (g := gb356) (o := .cells #[.int .i64 a0_0, .slice A0_1 l0_1.length c0_1] 28 (0, 0)) (by (with_reducible repeat (first | refine av ?_ _ | refine aC ?_ | refine au ?_ _)); exact BK356.out) hb)
    have n2_ := dH (aQ (g := gb357) (o := .cells #[.int .i64 a1_0, .int .i64 a1_1, .int .i64 a1_2, .slice A1_3 l1_3.length c1_3] 36 (0, 0)) (by (with_reducible repeat (first | refine av ?_ _ | refine aC ?_ | refine au ?_ _)); exact BK357.out) hb)
    have n3_ := dH (aQ (g := gb358) (o := .cells #[.int .i64 0, .slice none 0 0] 28 (0, 0)) (by (with_reducible repeat (first | refine av ?_ _ | refine aC ?_ | refine au ?_ _)); exact BK358.out) hb)
    have n4_ := dH (aM (by repeat (first | (with_reducible first | exact HB.out | apply ak | apply ah | apply aj | refine aA ?_ GE356.out | refine aA ?_ GE357.out | refine aA ?_ GE358.out) | exact HB.out)) hb)
    clear BK356
    clear BK357
    clear BK358
    clear HB
    have HO369 := n0_
    have BK356 := n1_
    have BK357 := n2_
    have BK358 := n3_
    have HB := n4_
    clear n0_ n1_ n2_ n3_ n4_
    clear hb ho24
    obtain ⟨Ao25, co25, eo25⟩ := Kd.bN HO369.out
    (first | subst eo25 | (injection eo25 with f1_ f2_ f3_; have f4_ := f1_.symm; have f5_ := f3_.symm; clear f1_ f2_ f3_; subst f4_; subst f5_))
    refine hK.out _ _ ⟨(ay BK356.out 0).trans rfl, (ay BK356.out 1).trans rfl, (ay BK357.out 0).trans rfl, (ay BK357.out 1).trans rfl, (ay BK357.out 2).trans rfl, (ay BK357.out 3).trans rfl⟩ (fun hHeld => ?_)
    clear hK K
    refine bG (a' := ?_) ?_ ?_
    rotate_left
    ·
     show Act.put _ (some 33) _ = _
     simp only [Act.put, cO, cZ, d9, aG, aH]
     rfl
    refine bR (i := 22) (N := some 34) (dG 24 8388607) rfl rfl (bB HT_.out (by kernel_rfl)) (by decide) (fun K hK => ?_)
    refine bQ Try.func72 (by kernel_rfl) rfl #[.slice Ao25 y367.length co25] (by rfl) rfl rfl (by (try simp only [dh, dn, dw]); first | done | rfl | (simp only [dx, dz]; rfl) | (simp only [gt_iff_lt, dA]; rfl) | (simp [Act.eval]; done) | (simp [Act.eval, *]; done)) ?_
    with_reducible refine (code_first.calls k _ _ y367 t370 _ ?side1 ?side2 A11.out).mono ?_
    (case side1 => repeat (first | exact (Kd.aZ HO369.out).2.2 | (with_reducible refine Kd.bA ?_ _) | (with_reducible refine Kd.bC ?_ _) | (with_reducible refine Kd.bJ ?_)))
    (case side2 => exact (Kd.aZ HO369.out).2.1)
    rintro e w' ⟨rfl, ⟨nd, rfl⟩⟩
    refine ⟨_, rfl, ?_⟩
    refine hK.out _ _ ⟨(ay BK356.out 0).trans rfl, (ay BK356.out 1).trans rfl, (ay BK357.out 0).trans rfl, (ay BK357.out 1).trans rfl, (ay BK357.out 2).trans rfl, (ay BK357.out 3).trans rfl⟩ (fun hHeld => ?_)
    clear hK K
    refine bG (a' := ?_) ?_ ?_
    rotate_left
    ·
     show Act.put _ (some 34) _ = _
     simp only [Act.put, cO, cZ, d9, aG, aH]
     rfl
    refine aV (i := 23) (N := some 6) (v := ?_) (a' := ?_) (dG 24 16777215) rfl rfl (aU HT_.out (by kernel_rfl)) (fun _ _ _ h => h) (Or.inl ⟨by rfl, ?_⟩) ?_ ?_
    rotate_left
    ·
     intro w'
     go_simp
     with_reducible rfl
    rotate_left
    ·
     simp only [Act.put, cO, cZ, d9, aG, aH]
     rfl
    refine done_ (cK HT_.out (by kernel_rfl)) ?_
    try go_wp2
    (try (rw [drewN_self w23]; generalize hq_ : World.drewN w23 _ = w23; have n0_ : Aside0 (Kd.R (Kd.int .i64) 29 w23 w.heap.size (fun _ => True) (.slice Ao25 y367.length co25) y367) := ⟨by rw [← hq_]; exact (by (with_reducible repeat (first | apply Kd.aI | apply Kd.aJ | apply Kd.aN)); exact HO369.out)⟩; have n1_ : Aside0 (w23.heap[gb356]? = some (.cells #[.int .i64 a0_0, .slice A0_1 l0_1.length c0_1] 28 (0, 0))) := ⟨by rw [← hq_]; exact (by (with_reducible repeat (first | refine av ?_ _ | refine aC ?_ | refine au ?_ _)); exact BK356.out)⟩; have n2_ : Aside0 (w23.heap[gb357]? = some (.cells #[.int .i64 a1_0, .int .i64 a1_1, .int .i64 a1_2, .slice A1_3 l1_3.length c1_3] 36 (0, 0))) := ⟨by rw [← hq_]; exact (by (with_reducible repeat (first | refine av ?_ _ | refine aC ?_ | refine au ?_ _)); exact BK357.out)⟩; have n3_ : Aside0 (w23.heap[gb358]? = some (.cells #[.int .i64 0, .slice none 0 0] 28 (0, 0))) := ⟨by rw [← hq_]; exact (by (with_reducible repeat (first | refine av ?_ _ | refine aC ?_ | refine au ?_ _)); exact BK358.out)⟩; have n4_ : Aside0 (Below w.heap.size w w23) := ⟨by rw [← hq_]; exact (by repeat (first | (with_reducible first | exact HB.out | apply ak | apply ah | apply aj | refine aA ?_ GE356.out | refine aA ?_ GE357.out | refine aA ?_ GE358.out) | exact HB.out))⟩; clear HO369 BK356 BK357 BK358 HB hq_; have HO369 := n0_; have BK356 := n1_; have BK357 := n2_; have BK358 := n3_; have HB := n4_; clear n0_ n1_ n2_ n3_ n4_))
    have n0_ := dH (Kd.aN HO369.out)
    have n1_ := dH (aC BK356.out)
    have n2_ := dH (aC BK357.out)
    have n3_ := dH (aC BK358.out)
    have n4_ := dH (aj HB.out)
    clear HO369
    clear BK356
    clear BK357
    clear BK358
    clear HB
    have HO369 := n0_
    have BK356 := n1_
    have BK357 := n2_
    have BK358 := n3_
    have HB := n4_
    clear n0_ n1_ n2_ n3_ n4_
    refine b_ (n := 12) (S := fun w' => w'.cell? ⟨gb357, 0, none⟩ = some (.int .i64 a1_0) ∧ w'.cell? ⟨gb357, 1, none⟩ = some (.int .i64 a1_1) ∧ w'.cell? ⟨gb357, 2, none⟩ = some (.int .i64 a1_2) ∧ w'.cell? ⟨gb357, 3, none⟩ = some (.slice A1_3 l1_3.length c1_3) ∧ w'.cell? ⟨gb356, 0, none⟩ = some (.int .i64 a0_0) ∧ w'.cell? ⟨gb356, 1, none⟩ = some (.slice A0_1 l0_1.length c0_1)) (ds := []) (dG 12 0) (by kernel_rfl) rfl rfl ⟨(ay BK357.out 0).trans rfl, (ay BK357.out 1).trans rfl, (ay BK357.out 2).trans rfl, (ay BK357.out 3).trans rfl, (ay BK356.out 0).trans rfl, (ay BK356.out 1).trans rfl⟩ (fun hHeld => ?_); refine bZ code_Receive.tab4 code_Receive.bits4 (fun HT_ HW_ => ?_)
    generalize w23.drew = w26 at HO369 BK356 BK357 BK358 HB hHeld ⊢
    refine aV (i := 0) (N := some 39) (v := ?_) (a' := ?_) (dG 12 1) rfl rfl (aU HT_.out (by kernel_rfl)) (fun _ _ _ h => h) (Or.inl ⟨by rfl, ?_⟩) ?_ ?_
    rotate_left
    ·
     intro w'
     go_simp
     with_reducible rfl
    rotate_left
    ·
     simp only [Act.put, cO, cZ, d9, aG, aH]
     rfl
    refine aV (i := 2) (N := some 41) (v := ?_) (a' := ?_) (dG 12 5) rfl rfl (aU HT_.out (by kernel_rfl)) (fun _ _ _ h => h) (Or.inl ⟨by rfl, ?_⟩) ?_ ?_
    rotate_left
    ·
     intro w'
     go_simp
     with_reducible rfl
    rotate_left
    ·
     simp only [Act.put, cO, cZ, d9, aG, aH]
     rfl
    refine aV (i := 4) (N := some 43) (v := ?_) (a' := ?_) (dG 12 21) rfl rfl (aU HT_.out (by kernel_rfl)) (fun _ _ _ h => h) (Or.inl ⟨by rfl, ?_⟩) ?_ ?_
    rotate_left
    ·
     intro w'
     go_simp
     with_reducible rfl
    rotate_left
    ·
     simp only [Act.put, cO, cZ, d9, aG, aH]
     rfl
    refine aV (i := 6) (N := some 45) (v := ?_) (a' := ?_) (dG 12 85) rfl rfl (aU HT_.out (by kernel_rfl)) (fun _ _ _ h => h) (Or.inl ⟨by rfl, ?_⟩) ?_ ?_
    rotate_left
    ·
     intro w'
     go_simp
     with_reducible rfl
    rotate_left
    ·
     simp only [Act.put, cO, cZ, d9, aG, aH]
     rfl
    refine bK (i := 1) (N := some 40) (v := ?_) (a' := ?_) (dG 12 87) rfl rfl (bD HT_.out HW_.out (by kernel_rfl)) (fun _ _ _ h => h) (Or.inl ⟨by rfl, ?_⟩) hHeld ?_ ?_
    rotate_left
    ·
     rintro w' ⟨s0, s1, s2, s3, s4, s5⟩
     go_simp
     with_reducible rfl
    rotate_left
    ·
     simp only [Act.put, cO, cZ, d9, aG, aH]
     rfl
    refine bK (i := 3) (N := some 42) (v := ?_) (a' := ?_) (dG 12 95) rfl rfl (bD HT_.out HW_.out (by kernel_rfl)) (fun _ _ _ h => h) (Or.inl ⟨by rfl, ?_⟩) hHeld ?_ ?_
    rotate_left
    ·
     rintro w' ⟨s0, s1, s2, s3, s4, s5⟩
     go_simp
     with_reducible rfl
    rotate_left
    ·
     simp only [Act.put, cO, cZ, d9, aG, aH]
     rfl
    refine bK (i := 5) (N := some 44) (v := ?_) (a' := ?_) (dG 12 127) rfl rfl (bD HT_.out HW_.out (by kernel_rfl)) (fun _ _ _ h => h) (Or.inl ⟨by rfl, ?_⟩) hHeld ?_ ?_
    rotate_left
    ·
     rintro w' ⟨s0, s1, s2, s3, s4, s5⟩
     go_simp
     with_reducible rfl
    rotate_left
    ·
     simp only [Act.put, cO, cZ, d9, aG, aH]
     rfl
    refine bK (i := 7) (N := some 46) (v := ?_) (a' := ?_) (dG 12 255) rfl rfl (bD HT_.out HW_.out (by kernel_rfl)) (fun _ _ _ h => h) (Or.inl ⟨by rfl, ?_⟩) hHeld ?_ ?_
    rotate_left
    ·
     rintro w' ⟨s0, s1, s2, s3, s4, s5⟩
     go_simp
     with_reducible rfl
    rotate_left
    ·
     simp only [Act.put, cO, cZ, d9, aG, aH]
     rfl
    refine join_ (σ := Value × Nat) 1 (dG 12 2047) (fun s_ => [(47, s_.1), (7, .pointer (some ⟨s_.2, 0, none⟩)), (48, .agg #[.int .i64 a1_1, .int .i64 1, s_.1])]) (fun s_ w' => (w'.cell? ⟨gb357, 0, none⟩ = some (.int .i64 a1_0) ∧ w'.cell? ⟨gb357, 1, none⟩ = some (.int .i64 a1_1) ∧ w'.cell? ⟨gb357, 2, none⟩ = some (.int .i64 a1_2) ∧ w'.cell? ⟨gb357, 3, none⟩ = some (.slice A1_3 l1_3.length c1_3) ∧ w'.cell? ⟨gb356, 0, none⟩ = some (.int .i64 a0_0) ∧ w'.cell? ⟨gb356, 1, none⟩ = some (.slice A0_1 l0_1.length c0_1)) ∧ (Kd.R (Kd.int .i64) 29 w' w.heap.size (fun _ => True) (.slice Ao25 y367.length co25) y367) ∧ (Kd.R (Kd.int .i64) 3 w' w.heap.size (fun _ => True) s_.1 t371) ∧ (w'.heap[gb356]? = some (.cells #[.int .i64 a0_0, .slice A0_1 l0_1.length c0_1] 28 (0, 0))) ∧ (w'.heap[gb357]? = some (.cells #[.int .i64 a1_0, .int .i64 a1_1, .int .i64 a1_2, .slice A1_3 l1_3.length c1_3] 36 (0, 0))) ∧ (w'.heap[gb358]? = some (.cells #[.int .i64 0, .slice none 0 0] 28 (0, 0))) ∧ (w'.heap[s_.2]? = some (.cells #[.int .i64 0, .int .i64 0, .slice none 0 0] 42 (0, 0))) ∧ (w.heap.size ≤ s_.2) ∧ (w.heap.size ≤ s_.2) ∧ (gb356 ≠ s_.2) ∧ (s_.2 ≠ gb356) ∧ (gb357 ≠ s_.2) ∧ (s_.2 ≠ gb357) ∧ (gb358 ≠ s_.2) ∧ (s_.2 ≠ gb358) ∧ (Below w.heap.size w w')) ?_ ?_
    rotate_left
    ·
     intro hCont
     refine two_ (i := 8) (j := 10) (Ni := some 47) (Nj := some 7) (dG 12 511) (dG 12 1279) rfl rfl rfl rfl (two_of HT_.out (by kernel_rfl)) (by decide) (by decide) (fun K hK => ?_) (fun K hK => ?_)
     ·
      skip
      refine bQ Try.func78 (by kernel_rfl) rfl #[.slice A1_3 l1_3.length c1_3, .int .i64 a1_2, .int .i64 a0_0] (by rfl) rfl rfl (by (try simp only [dh, dn, dw]); first | done | rfl | (simp only [dx, dz]; rfl) | (simp only [gt_iff_lt, dA]; rfl) | (simp [Act.eval]; done) | (simp [Act.eval, *]; done)) ?_
      with_reducible refine (code_gathered.calls _ _ l1_3 a1_2 a0_0 t371 _ ?side1 ?side2 A13.out).mono ?_
      (case side1 => repeat (first | exact (Kd.bF HR1_3.out HB.out) | (with_reducible refine Kd.bA ?_ _) | (with_reducible refine Kd.bC ?_ _) | (with_reducible refine Kd.bJ ?_)))
      (case side2 => exact HC1_3.out)
      rintro e w27 ⟨v372, rfl, ho0, hb⟩
      refine ⟨_, rfl, ?_⟩
      have n0_ := dH (Kd.cu (by (with_reducible repeat (first | apply Kd.aI | apply Kd.aJ | apply Kd.aN)); exact HO369.out) hb)
      have n1_ := dH (Kd.bP ho0 (aK (by repeat (first | (with_reducible first | exact HB.out | apply ak | apply ah | apply aj | refine aA ?_ GE356.out | refine aA ?_ GE357.out | refine aA ?_ GE358.out) | exact HB.out))))
      have n2_ := dH (aQ (g := gb356) (o := .cells #[.int .i64 a0_0, .slice A0_1 l0_1.length c0_1] 28 (0, 0)) (by (with_reducible repeat (first | refine av ?_ _ | refine aC ?_ | refine au ?_ _)); exact BK356.out) hb)
      have n3_ := dH (aQ (g := gb357) (o := .cells #[.int .i64 a1_0, .int .i64 a1_1, .int .i64 a1_2, .slice A1_3 l1_3.length c1_3] 36 (0, 0)) (by (with_reducible repeat (first | refine av ?_ _ | refine aC ?_ | refine au ?_ _)); exact BK357.out) hb)
      have n4_ := dH (aQ (g := gb358) (o := .cells #[.int .i64 0, .slice none 0 0] 28 (0, 0)) (by (with_reducible repeat (first | refine av ?_ _ | refine aC ?_ | refine au ?_ _)); exact BK358.out) hb)
      have n5_ := dH (aM (by repeat (first | (with_reducible first | exact HB.out | apply ak | apply ah | apply aj | refine aA ?_ GE356.out | refine aA ?_ GE357.out | refine aA ?_ GE358.out) | exact HB.out)) hb)
      clear HO369
      clear BK356
      clear BK357
      clear BK358
      clear HB
      have HO369 := n0_
      have HO373 := n1_
      have BK356 := n2_
      have BK357 := n3_
      have BK358 := n4_
      have HB := n5_
      clear n0_ n1_ n2_ n3_ n4_ n5_
      (try clear hb)
      (try clear hb2)
      (try clear hk)
      (try clear hi)
      (try clear ho0)
      obtain ⟨Ao28, co28, eo28⟩ := Kd.bN HO373.out
      (first | subst eo28 | (injection eo28 with f1_ f2_ f3_; have f4_ := f1_.symm; have f5_ := f3_.symm; clear f1_ f2_ f3_; subst f4_; subst f5_))
      refine hK.out _ _ ⟨(ay BK357.out 0).trans rfl, (ay BK357.out 1).trans rfl, (ay BK357.out 2).trans rfl, (ay BK357.out 3).trans rfl, (ay BK356.out 0).trans rfl, (ay BK356.out 1).trans rfl⟩ (fun hHeld => ?_)
      clear hK K
      refine bG (a' := ?_) ?_ ?_
      rotate_left
      ·
       show Act.put _ (some 47) _ = _
       simp only [Act.put, cO, cZ, d9, aG, aH]
       rfl
      refine aV (i := 9) (N := some 48) (v := ?_) (a' := ?_) (dG 12 1023) rfl rfl (aU HT_.out (by kernel_rfl)) (fun _ _ _ h => h) (Or.inl ⟨by rfl, ?_⟩) ?_ ?_
      rotate_left
      ·
       intro w'
       go_simp
       with_reducible rfl
      rotate_left
      ·
       simp only [Act.put, cO, cZ, d9, aG, aH]
       rfl
      refine bR (i := 10) (N := some 7) (dG 12 2047) rfl rfl (bB HT_.out (by kernel_rfl)) (by decide) (fun K hK => ?_)
      refine box_step ?hg (N := 7) ?hd (cs := #[.int .i64 0, .int .i64 0, .slice none 0 0]) (t := 42) ?hr ?_; (case hd => rfl); (case hg => rfl); (case hr => first | (go_simp; done) | (go_simp; rfl))
      intro gb374 hg w29 hbox hb
      have n0_ := dH (Kd.cu (by (with_reducible repeat (first | apply Kd.aI | apply Kd.aJ | apply Kd.aN)); exact HO369.out) hb)
      have n1_ := dH (Kd.cu (by (with_reducible repeat (first | apply Kd.aI | apply Kd.aJ | apply Kd.aN)); exact HO373.out) hb)
      have n2_ := dH (aQ (g := gb356) (o := .cells #[.int .i64 a0_0, .slice A0_1 l0_1.length c0_1] 28 (0, 0)) (by (with_reducible repeat (first | refine av ?_ _ | refine aC ?_ | refine au ?_ _)); exact BK356.out) hb)
      have n3_ := dH (aQ (g := gb357) (o := .cells #[.int .i64 a1_0, .int .i64 a1_1, .int .i64 a1_2, .slice A1_3 l1_3.length c1_3] 36 (0, 0)) (by (with_reducible repeat (first | refine av ?_ _ | refine aC ?_ | refine au ?_ _)); exact BK357.out) hb)
      have n4_ := dH (aQ (g := gb358) (o := .cells #[.int .i64 0, .slice none 0 0] 28 (0, 0)) (by (with_reducible repeat (first | refine av ?_ _ | refine aC ?_ | refine au ?_ _)); exact BK358.out) hb)
      have n5_ := dH (aM (by repeat (first | (with_reducible first | exact HB.out | apply ak | apply ah | apply aj | refine aA ?_ GE356.out | refine aA ?_ GE357.out | refine aA ?_ GE358.out) | exact HB.out)) hb)
      have n6_ := dH (hbox)
      have n7_ := dH ((by rw [hg]; exact (aK (by repeat (first | (with_reducible first | exact HB.out | apply ak | apply ah | apply aj | refine aA ?_ GE356.out | refine aA ?_ GE357.out | refine aA ?_ GE358.out) | exact HB.out))) : w.heap.size ≤ gb374))
      have n8_ := dH ((by rw [hg]; exact (aK (by repeat (first | (with_reducible first | exact HB.out | apply ak | apply ah | apply aj | refine aA ?_ GE356.out | refine aA ?_ GE357.out | refine aA ?_ GE358.out) | exact HB.out))) : w.heap.size ≤ gb374))
      have n9_ := dH ((by rw [hg]; exact Nat.ne_of_lt (bn (g := gb356) (o := .cells #[.int .i64 a0_0, .slice A0_1 l0_1.length c0_1] 28 (0, 0)) (by (with_reducible repeat (first | refine av ?_ _ | refine aC ?_ | refine au ?_ _)); exact BK356.out)) : gb356 ≠ gb374))
      have n10_ := dH ((by rw [hg]; exact Nat.ne_of_gt (bn (g := gb356) (o := .cells #[.int .i64 a0_0, .slice A0_1 l0_1.length c0_1] 28 (0, 0)) (by (with_reducible repeat (first | refine av ?_ _ | refine aC ?_ | refine au ?_ _)); exact BK356.out)) : gb374 ≠ gb356))
      have n11_ := dH ((by rw [hg]; exact Nat.ne_of_lt (bn (g := gb357) (o := .cells #[.int .i64 a1_0, .int .i64 a1_1, .int .i64 a1_2, .slice A1_3 l1_3.length c1_3] 36 (0, 0)) (by (with_reducible repeat (first | refine av ?_ _ | refine aC ?_ | refine au ?_ _)); exact BK357.out)) : gb357 ≠ gb374))
      have n12_ := dH ((by rw [hg]; exact Nat.ne_of_gt (bn (g := gb357) (o := .cells #[.int .i64 a1_0, .int .i64 a1_1, .int .i64 a1_2, .slice A1_3 l1_3.length c1_3] 36 (0, 0)) (by (with_reducible repeat (first | refine av ?_ _ | refine aC ?_ | refine au ?_ _)); exact BK357.out)) : gb374 ≠ gb357))
      have n13_ := dH ((by rw [hg]; exact Nat.ne_of_lt (bn (g := gb358) (o := .cells #[.int .i64 0, .slice none 0 0] 28 (0, 0)) (by (with_reducible repeat (first | refine av ?_ _ | refine aC ?_ | refine au ?_ _)); exact BK358.out)) : gb358 ≠ gb374))
      have n14_ := dH ((by rw [hg]; exact Nat.ne_of_gt (bn (g := gb358) (o := .cells #[.int .i64 0, .slice none 0 0] 28 (0, 0)) (by (with_reducible repeat (first | refine av ?_ _ | refine aC ?_ | refine au ?_ _)); exact BK358.out)) : gb374 ≠ gb358))
      clear HO369
      clear HO373
      clear BK356
      clear BK357
      clear BK358
      clear HB
      have HO369 := n0_
      have HO373 := n1_
      have BK356 := n2_
      have BK357 := n3_
      have BK358 := n4_
      have HB := n5_
      have BK374 := n6_
      have GW374 := n7_
      have GE374 := n8_
      have NB356_374 := n9_
      have NB374_356 := n10_
      have NB357_374 := n11_
      have NB374_357 := n12_
      have NB358_374 := n13_
      have NB374_358 := n14_
      clear n0_ n1_ n2_ n3_ n4_ n5_ n6_ n7_ n8_ n9_ n10_ n11_ n12_ n13_ n14_
      clear hb hbox hg
      refine hK.out _ _ ⟨(ay BK357.out 0).trans rfl, (ay BK357.out 1).trans rfl, (ay BK357.out 2).trans rfl, (ay BK357.out 3).trans rfl, (ay BK356.out 0).trans rfl, (ay BK356.out 1).trans rfl⟩ (fun hHeld => ?_)
      clear hK K
      refine bG (a' := ?_) ?_ ?_
      rotate_left
      ·
       show Act.put _ (some 7) _ = _
       simp only [Act.put, cO, cZ, d9, aG, aH]
       rfl
      exact bG (by simp only [putAll, Act.put, cO, cZ, d9]) (hCont (.slice Ao28 t371.length co28, gb374) _ ⟨hHeld, (by (with_reducible repeat (first | apply Kd.aI | apply Kd.aJ | apply Kd.aN)); exact HO369.out), (by (with_reducible repeat (first | apply Kd.aI | apply Kd.aJ | apply Kd.aN)); exact HO373.out), (by (with_reducible repeat (first | refine av ?_ _ | refine aC ?_ | refine au ?_ _)); exact BK356.out), (by (with_reducible repeat (first | refine av ?_ _ | refine aC ?_ | refine au ?_ _)); exact BK357.out), (by (with_reducible repeat (first | refine av ?_ _ | refine aC ?_ | refine au ?_ _)); exact BK358.out), (by (with_reducible repeat (first | refine av ?_ _ | refine aC ?_ | refine au ?_ _)); exact BK374.out), GW374.out, GE374.out, NB356_374.out, NB374_356.out, NB357_374.out, NB374_357.out, NB358_374.out, NB374_358.out, (by repeat (first | (with_reducible first | exact HB.out | apply ak | apply ah | apply aj | refine aA ?_ GE356.out | refine aA ?_ GE357.out | refine aA ?_ GE358.out | refine aA ?_ GE374.out) | exact HB.out))⟩)
     ·
      skip
      refine box_step ?hg (N := 7) ?hd (cs := #[.int .i64 0, .int .i64 0, .slice none 0 0]) (t := 42) ?hr ?_; (case hd => rfl); (case hg => rfl); (case hr => first | (go_simp; done) | (go_simp; rfl))
      intro gb374 hg w27 hbox hb
      have n0_ := dH (Kd.cu (by (with_reducible repeat (first | apply Kd.aI | apply Kd.aJ | apply Kd.aN)); exact HO369.out) hb)
      have n1_ := dH (aQ (g := gb356) (o := .cells #[.int .i64 a0_0, .slice A0_1 l0_1.length c0_1] 28 (0, 0)) (by (with_reducible repeat (first | refine av ?_ _ | refine aC ?_ | refine au ?_ _)); exact BK356.out) hb)
      have n2_ := dH (aQ (g := gb357) (o := .cells #[.int .i64 a1_0, .int .i64 a1_1, .int .i64 a1_2, .slice A1_3 l1_3.length c1_3] 36 (0, 0)) (by (with_reducible repeat (first | refine av ?_ _ | refine aC ?_ | refine au ?_ _)); exact BK357.out) hb)
      have n3_ := dH (aQ (g := gb358) (o := .cells #[.int .i64 0, .slice none 0 0] 28 (0, 0)) (by (with_reducible repeat (first | refine av ?_ _ | refine aC ?_ | refine au ?_ _)); exact BK358.out) hb)
      have n4_ := dH (aM (by repeat (first | (with_reducible first | exact HB.out | apply ak | apply ah | apply aj | refine aA ?_ GE356.out | refine aA ?_ GE357.out | refine aA ?_ GE358.out) | exact HB.out)) hb)
      have n5_ := dH (hbox)
      have n6_ := dH ((by rw [hg]; exact (aK (by repeat (first | (with_reducible first | exact HB.out | apply ak | apply ah | apply aj | refine aA ?_ GE356.out | refine aA ?_ GE357.out | refine aA ?_ GE358.out) | exact HB.out))) : w.heap.size ≤ gb374))
      have n7_ := dH ((by rw [hg]; exact (aK (by repeat (first | (with_reducible first | exact HB.out | apply ak | apply ah | apply aj | refine aA ?_ GE356.out | refine aA ?_ GE357.out | refine aA ?_ GE358.out) | exact HB.out))) : w.heap.size ≤ gb374))
      have n8_ := dH ((by rw [hg]; exact Nat.ne_of_lt (bn (g := gb356) (o := .cells #[.int .i64 a0_0, .slice A0_1 l0_1.length c0_1] 28 (0, 0)) (by (with_reducible repeat (first | refine av ?_ _ | refine aC ?_ | refine au ?_ _)); exact BK356.out)) : gb356 ≠ gb374))
      have n9_ := dH ((by rw [hg]; exact Nat.ne_of_gt (bn (g := gb356) (o := .cells #[.int .i64 a0_0, .slice A0_1 l0_1.length c0_1] 28 (0, 0)) (by (with_reducible repeat (first | refine av ?_ _ | refine aC ?_ | refine au ?_ _)); exact BK356.out)) : gb374 ≠ gb356))
      have n10_ := dH ((by rw [hg]; exact Nat.ne_of_lt (bn (g := gb357) (o := .cells #[.int .i64 a1_0, .int .i64 a1_1, .int .i64 a1_2, .slice A1_3 l1_3.length c1_3] 36 (0, 0)) (by (with_reducible repeat (first | refine av ?_ _ | refine aC ?_ | refine au ?_ _)); exact BK357.out)) : gb357 ≠ gb374))
      have n11_ := dH ((by rw [hg]; exact Nat.ne_of_gt (bn (g := gb357) (o := .cells #[.int .i64 a1_0, .int .i64 a1_1, .int .i64 a1_2, .slice A1_3 l1_3.length c1_3] 36 (0, 0)) (by (with_reducible repeat (first | refine av ?_ _ | refine aC ?_ | refine au ?_ _)); exact BK357.out)) : gb374 ≠ gb357))
      have n12_ := dH ((by rw [hg]; exact Nat.ne_of_lt (bn (g := gb358) (o := .cells #[.int .i64 0, .slice none 0 0] 28 (0, 0)) (by (with_reducible repeat (first | refine av ?_ _ | refine aC ?_ | refine au ?_ _)); exact BK358.out)) : gb358 ≠ gb374))
      have n13_ := dH ((by rw [hg]; exact Nat.ne_of_gt (bn (g := gb358) (o := .cells #[.int .i64 0, .slice none 0 0] 28 (0, 0)) (by (with_reducible repeat (first | refine av ?_ _ | refine aC ?_ | refine au ?_ _)); exact BK358.out)) : gb374 ≠ gb358))
      clear HO369
      clear BK356
      clear BK357
      clear BK358
      clear HB
      have HO369 := n0_
      have BK356 := n1_
      have BK357 := n2_
      have BK358 := n3_
      have HB := n4_
      have BK374 := n5_
      have GW374 := n6_
      have GE374 := n7_
      have NB356_374 := n8_
      have NB374_356 := n9_
      have NB357_374 := n10_
      have NB374_357 := n11_
      have NB358_374 := n12_
      have NB374_358 := n13_
      clear n0_ n1_ n2_ n3_ n4_ n5_ n6_ n7_ n8_ n9_ n10_ n11_ n12_ n13_
      clear hb hbox hg
      refine hK.out _ _ ⟨(ay BK357.out 0).trans rfl, (ay BK357.out 1).trans rfl, (ay BK357.out 2).trans rfl, (ay BK357.out 3).trans rfl, (ay BK356.out 0).trans rfl, (ay BK356.out 1).trans rfl⟩ (fun hHeld => ?_)
      clear hK K
      refine bG (a' := ?_) ?_ ?_
      rotate_left
      ·
       show Act.put _ (some 7) _ = _
       simp only [Act.put, cO, cZ, d9, aG, aH]
       rfl
      refine bR (i := 8) (N := some 47) (dG 12 1535) rfl rfl (bB HT_.out (by kernel_rfl)) (by decide) (fun K hK => ?_)
      refine bQ Try.func78 (by kernel_rfl) rfl #[.slice A1_3 l1_3.length c1_3, .int .i64 a1_2, .int .i64 a0_0] (by rfl) rfl rfl (by (try simp only [dh, dn, dw]); first | done | rfl | (simp only [dx, dz]; rfl) | (simp only [gt_iff_lt, dA]; rfl) | (simp [Act.eval]; done) | (simp [Act.eval, *]; done)) ?_
      with_reducible refine (code_gathered.calls _ _ l1_3 a1_2 a0_0 t371 _ ?side1 ?side2 A13.out).mono ?_
      (case side1 => repeat (first | exact (Kd.bF HR1_3.out HB.out) | (with_reducible refine Kd.bA ?_ _) | (with_reducible refine Kd.bC ?_ _) | (with_reducible refine Kd.bJ ?_)))
      (case side2 => exact HC1_3.out)
      rintro e w28 ⟨v372, rfl, ho0, hb⟩
      refine ⟨_, rfl, ?_⟩
      have n0_ := dH (Kd.cu (by (with_reducible repeat (first | apply Kd.aI | apply Kd.aJ | apply Kd.aN)); exact HO369.out) hb)
      have n1_ := dH (Kd.bP ho0 (aK (by repeat (first | (with_reducible first | exact HB.out | apply ak | apply ah | apply aj | refine aA ?_ GE356.out | refine aA ?_ GE357.out | refine aA ?_ GE358.out | refine aA ?_ GE374.out) | exact HB.out))))
      have n2_ := dH (aQ (g := gb356) (o := .cells #[.int .i64 a0_0, .slice A0_1 l0_1.length c0_1] 28 (0, 0)) (by (with_reducible repeat (first | refine av ?_ _ | refine aC ?_ | refine au ?_ _)); exact BK356.out) hb)
      have n3_ := dH (aQ (g := gb357) (o := .cells #[.int .i64 a1_0, .int .i64 a1_1, .int .i64 a1_2, .slice A1_3 l1_3.length c1_3] 36 (0, 0)) (by (with_reducible repeat (first | refine av ?_ _ | refine aC ?_ | refine au ?_ _)); exact BK357.out) hb)
      have n4_ := dH (aQ (g := gb358) (o := .cells #[.int .i64 0, .slice none 0 0] 28 (0, 0)) (by (with_reducible repeat (first | refine av ?_ _ | refine aC ?_ | refine au ?_ _)); exact BK358.out) hb)
      have n5_ := dH (aQ (g := gb374) (o := .cells #[.int .i64 0, .int .i64 0, .slice none 0 0] 42 (0, 0)) (by (with_reducible repeat (first | refine av ?_ _ | refine aC ?_ | refine au ?_ _)); exact BK374.out) hb)
      have n6_ := dH (aM (by repeat (first | (with_reducible first | exact HB.out | apply ak | apply ah | apply aj | refine aA ?_ GE356.out | refine aA ?_ GE357.out | refine aA ?_ GE358.out | refine aA ?_ GE374.out) | exact HB.out)) hb)
      clear HO369
      clear BK356
      clear BK357
      clear BK358
      clear BK374
      clear HB
      have HO369 := n0_
      have HO373 := n1_
      have BK356 := n2_
      have BK357 := n3_
      have BK358 := n4_
      have BK374 := n5_
      have HB := n6_
      clear n0_ n1_ n2_ n3_ n4_ n5_ n6_
      (try clear hb)
      (try clear hb2)
      (try clear hk)
      (try clear hi)
      (try clear ho0)
      obtain ⟨Ao29, co29, eo29⟩ := Kd.bN HO373.out
      (first | subst eo29 | (injection eo29 with f1_ f2_ f3_; have f4_ := f1_.symm; have f5_ := f3_.symm; clear f1_ f2_ f3_; subst f4_; subst f5_))
      refine hK.out _ _ ⟨(ay BK357.out 0).trans rfl, (ay BK357.out 1).trans rfl, (ay BK357.out 2).trans rfl, (ay BK357.out 3).trans rfl, (ay BK356.out 0).trans rfl, (ay BK356.out 1).trans rfl⟩ (fun hHeld => ?_)
      clear hK K
      refine bG (a' := ?_) ?_ ?_
      rotate_left
      ·
       show Act.put _ (some 47) _ = _
       simp only [Act.put, cO, cZ, d9, aG, aH]
       rfl
      refine aV (i := 9) (N := some 48) (v := ?_) (a' := ?_) (dG 12 2047) rfl rfl (aU HT_.out (by kernel_rfl)) (fun _ _ _ h => h) (Or.inl ⟨by rfl, ?_⟩) ?_ ?_
      rotate_left
      ·
       intro w'
       go_simp
       with_reducible rfl
      rotate_left
      ·
       simp only [Act.put, cO, cZ, d9, aG, aH]
       rfl
      exact bG (by simp only [putAll, Act.put, cO, cZ, d9]) (hCont (.slice Ao29 t371.length co29, gb374) _ ⟨hHeld, (by (with_reducible repeat (first | apply Kd.aI | apply Kd.aJ | apply Kd.aN)); exact HO369.out), (by (with_reducible repeat (first | apply Kd.aI | apply Kd.aJ | apply Kd.aN)); exact HO373.out), (by (with_reducible repeat (first | refine av ?_ _ | refine aC ?_ | refine au ?_ _)); exact BK356.out), (by (with_reducible repeat (first | refine av ?_ _ | refine aC ?_ | refine au ?_ _)); exact BK357.out), (by (with_reducible repeat (first | refine av ?_ _ | refine aC ?_ | refine au ?_ _)); exact BK358.out), (by (with_reducible repeat (first | refine av ?_ _ | refine aC ?_ | refine au ?_ _)); exact BK374.out), GW374.out, GE374.out, NB356_374.out, NB374_356.out, NB357_374.out, NB374_357.out, NB358_374.out, NB374_358.out, (by repeat (first | (with_reducible first | exact HB.out | apply ak | apply ah | apply aj | refine aA ?_ GE356.out | refine aA ?_ GE357.out | refine aA ?_ GE358.out | refine aA ?_ GE374.out) | exact HB.out))⟩)
    rintro ⟨v372, gb374⟩ w30 ⟨hS_, h0_, h1_, h2_, h3_, h4_, h5_, h6_, h7_, h8_, h9_, h10_, h11_, h12_, h13_, h14_⟩
    have n0_ : Aside0 (Kd.R (Kd.int .i64) 29 w30 w.heap.size (fun _ => True) (.slice Ao25 y367.length co25) y367) := ⟨h0_⟩
    have n1_ : Aside0 (Kd.R (Kd.int .i64) 3 w30 w.heap.size (fun _ => True) v372 t371) := ⟨h1_⟩
    have n2_ : Aside0 (w30.heap[gb356]? = some (.cells #[.int .i64 a0_0, .slice A0_1 l0_1.length c0_1] 28 (0, 0))) := ⟨h2_⟩
    have n3_ : Aside0 (w30.heap[gb357]? = some (.cells #[.int .i64 a1_0, .int .i64 a1_1, .int .i64 a1_2, .slice A1_3 l1_3.length c1_3] 36 (0, 0))) := ⟨h3_⟩
    have n4_ : Aside0 (w30.heap[gb358]? = some (.cells #[.int .i64 0, .slice none 0 0] 28 (0, 0))) := ⟨h4_⟩
    have n5_ : Aside0 (w30.heap[gb374]? = some (.cells #[.int .i64 0, .int .i64 0, .slice none 0 0] 42 (0, 0))) := ⟨h5_⟩
    have n6_ : Aside0 (w.heap.size ≤ gb374) := ⟨h6_⟩
    have n7_ : Aside0 (w.heap.size ≤ gb374) := ⟨h7_⟩
    have n8_ : Aside0 (gb356 ≠ gb374) := ⟨h8_⟩
    have n9_ : Aside0 (gb374 ≠ gb356) := ⟨h9_⟩
    have n10_ : Aside0 (gb357 ≠ gb374) := ⟨h10_⟩
    have n11_ : Aside0 (gb374 ≠ gb357) := ⟨h11_⟩
    have n12_ : Aside0 (gb358 ≠ gb374) := ⟨h12_⟩
    have n13_ : Aside0 (gb374 ≠ gb358) := ⟨h13_⟩
    have n14_ : Aside0 (Below w.heap.size w w30) := ⟨h14_⟩
    clear HO369
    clear BK356
    clear BK357
    clear BK358
    clear HB
    clear h0_ h1_ h2_ h3_ h4_ h5_ h6_ h7_ h8_ h9_ h10_ h11_ h12_ h13_ h14_
    have HO369 := n0_
    have HO373 := n1_
    have BK356 := n2_
    have BK357 := n3_
    have BK358 := n4_
    have BK374 := n5_
    have GW374 := n6_
    have GE374 := n7_
    have NB356_374 := n8_
    have NB374_356 := n9_
    have NB357_374 := n10_
    have NB374_357 := n11_
    have NB358_374 := n12_
    have NB374_358 := n13_
    have HB := n14_
    clear n0_ n1_ n2_ n3_ n4_ n5_ n6_ n7_ n8_ n9_ n10_ n11_ n12_ n13_ n14_
    have hHeld : w30.cell? ⟨gb357, 0, none⟩ = some (.int .i64 a1_0) ∧ w30.cell? ⟨gb357, 1, none⟩ = some (.int .i64 a1_1) ∧ w30.cell? ⟨gb357, 2, none⟩ = some (.int .i64 a1_2) ∧ w30.cell? ⟨gb357, 3, none⟩ = some (.slice A1_3 l1_3.length c1_3) ∧ w30.cell? ⟨gb356, 0, none⟩ = some (.int .i64 a0_0) ∧ w30.cell? ⟨gb356, 1, none⟩ = some (.slice A0_1 l0_1.length c0_1) := hS_
    obtain ⟨Ao31, co31, eo31⟩ := Kd.bN HO373.out
    (first | subst eo31 | (injection eo31 with f1_ f2_ f3_; have f4_ := f1_.symm; have f5_ := f3_.symm; clear f1_ f2_ f3_; subst f4_; subst f5_))
    refine bG (a' := ?_) ?_ ?_
    rotate_left
    ·
     simp only [putAll, Act.put, cO, cZ, d9]
     rfl
    refine bR (i := 11) (N := none) (dG 12 4095) rfl rfl (bB HT_.out (by kernel_rfl)) (by decide) (fun K hK => ?_)
    have hs32 : w30.cell? ⟨gb374, 0, none⟩ = some (.int .i64 0) := (ay BK374.out 0).trans rfl
    have hfs32 := aD BK374.out 0
    have hns32_0 := NB356_374.out
    have hns32_1 := NB357_374.out
    have hns32_2 := NB358_374.out
    have hms32_0 := NB374_356.out
    have hms32_1 := NB374_357.out
    have hms32_2 := NB374_358.out
    have hs33 : w30.cell? ⟨gb374, 1, none⟩ = some (.int .i64 0) := (ay BK374.out 1).trans rfl
    have hfs33 := aD BK374.out 1
    have hns33_0 := NB356_374.out
    have hns33_1 := NB357_374.out
    have hns33_2 := NB358_374.out
    have hms33_0 := NB374_356.out
    have hms33_1 := NB374_357.out
    have hms33_2 := NB374_358.out
    have hs34 : w30.cell? ⟨gb374, 2, none⟩ = some (.slice none 0 0) := (ay BK374.out 2).trans rfl
    have hfs34 := aD BK374.out 2
    have hns34_0 := NB356_374.out
    have hns34_1 := NB357_374.out
    have hns34_2 := NB358_374.out
    have hms34_0 := NB374_356.out
    have hms34_1 := NB374_357.out
    have hms34_2 := NB374_358.out
    refine skip_ (w1 := ?_) (by rfl) rfl ?_ ?_
    rotate_left
    ·
     go_simp
     rfl
    refine hK.out _ _ ⟨((cell_far (p := ⟨gb374, _, none⟩) NB357_374.out _).trans (((cell_far (p := ⟨gb374, _, none⟩) NB357_374.out _).trans (((cell_far (p := ⟨gb374, _, none⟩) NB357_374.out _).trans (hHeld.1)))))), ((cell_far (p := ⟨gb374, _, none⟩) NB357_374.out _).trans (((cell_far (p := ⟨gb374, _, none⟩) NB357_374.out _).trans (((cell_far (p := ⟨gb374, _, none⟩) NB357_374.out _).trans (hHeld.2.1)))))), ((cell_far (p := ⟨gb374, _, none⟩) NB357_374.out _).trans (((cell_far (p := ⟨gb374, _, none⟩) NB357_374.out _).trans (((cell_far (p := ⟨gb374, _, none⟩) NB357_374.out _).trans (hHeld.2.2.1)))))), ((cell_far (p := ⟨gb374, _, none⟩) NB357_374.out _).trans (((cell_far (p := ⟨gb374, _, none⟩) NB357_374.out _).trans (((cell_far (p := ⟨gb374, _, none⟩) NB357_374.out _).trans (hHeld.2.2.2.1)))))), ((cell_far (p := ⟨gb374, _, none⟩) NB356_374.out _).trans (((cell_far (p := ⟨gb374, _, none⟩) NB356_374.out _).trans (((cell_far (p := ⟨gb374, _, none⟩) NB356_374.out _).trans (hHeld.2.2.2.2.1)))))), ((cell_far (p := ⟨gb374, _, none⟩) NB356_374.out _).trans (((cell_far (p := ⟨gb374, _, none⟩) NB356_374.out _).trans (((cell_far (p := ⟨gb374, _, none⟩) NB356_374.out _).trans (hHeld.2.2.2.2.2))))))⟩ (fun hHeld => ?_)
    clear hK K
    refine done_ (cK HT_.out (by kernel_rfl)) ?_
    have hnb35 := NB356_357.out
    have hnc35 := NB357_356.out
    have hnb36 := NB356_358.out
    have hnc36 := NB358_356.out
    have hnb37 := NB356_374.out
    have hnc37 := NB374_356.out
    have hcz38_0 : w30.cell? ⟨gb356, 0, none⟩ = some (.int .i64 a0_0) := (ay BK356.out 0).trans rfl
    have hcz38_1 : w30.cell? ⟨gb356, 1, none⟩ = some (.slice A0_1 l0_1.length c0_1) := (ay BK356.out 1).trans rfl
    have hfz38_0 := aD BK356.out 0
    have hfz38_1 := aD BK356.out 1
    have hnb39 := NB357_358.out
    have hnc39 := NB358_357.out
    have hnb40 := NB357_374.out
    have hnc40 := NB374_357.out
    have hcz41_0 : w30.cell? ⟨gb357, 0, none⟩ = some (.int .i64 a1_0) := (ay BK357.out 0).trans rfl
    have hcz41_1 : w30.cell? ⟨gb357, 1, none⟩ = some (.int .i64 a1_1) := (ay BK357.out 1).trans rfl
    have hcz41_2 : w30.cell? ⟨gb357, 2, none⟩ = some (.int .i64 a1_2) := (ay BK357.out 2).trans rfl
    have hcz41_3 : w30.cell? ⟨gb357, 3, none⟩ = some (.slice A1_3 l1_3.length c1_3) := (ay BK357.out 3).trans rfl
    have hfz41_0 := aD BK357.out 0
    have hfz41_1 := aD BK357.out 1
    have hfz41_2 := aD BK357.out 2
    have hfz41_3 := aD BK357.out 3
    have p375 : 0 ≤ (a1_0 : Int) := dD (by first | (with_reducible assumption) | assumption)
    have q375 : a1_0 < (l0_1.length : Int) := dD (by first | (with_reducible assumption) | assumption)
    obtain ⟨ad375, A375_2, c375_2, e375, hx375_0, hx375_1, hx375_2, hl375_2, hi375_2⟩ := at_T42 HR0_1.out a1_0 p375 q375
    cases e375
    have hn375_0 : ad375.block ≠ gb374 := Nat.ne_of_lt (Nat.lt_of_lt_of_le (by have := dB _ _ hx375_0; first | rwa [add_block] at this | exact this) GW374.out)
    have hn375_1 : ad375.block ≠ gb374 := Nat.ne_of_lt (Nat.lt_of_lt_of_le (by have := dB _ _ hx375_0; first | rwa [add_block] at this | exact this) GW374.out)
    have hn375_2 : ad375.block ≠ gb374 := Nat.ne_of_lt (Nat.lt_of_lt_of_le (by have := dB _ _ hx375_0; first | rwa [add_block] at this | exact this) GW374.out)
    replace hx375_0 := (HB.out.cell (dB w _ hx375_0)).trans hx375_0
    replace hx375_1 := (HB.out.cell (dB w _ hx375_1)).trans hx375_1
    replace hx375_2 := (HB.out.cell (dB w _ hx375_2)).trans hx375_2
    have HR375_2 := dH hi375_2
    have HC375_2 := dH hl375_2
    clear hi375_2 hl375_2
    replace hx375_0 := (cell_far (p := ⟨gb374, 0, none⟩) (by first | (rw [add_block]; exact hn375_0) | (show (Addr.add _ _).block ≠ _; rw [add_block]; exact hn375_0) | exact hn375_0) (.int .i64 a1_1)).trans hx375_0
    replace hx375_1 := (cell_far (p := ⟨gb374, 0, none⟩) (by first | (rw [add_block]; exact hn375_0) | (show (Addr.add _ _).block ≠ _; rw [add_block]; exact hn375_0) | exact hn375_0) (.int .i64 a1_1)).trans hx375_1
    replace hx375_2 := (cell_far (p := ⟨gb374, 0, none⟩) (by first | (rw [add_block]; exact hn375_0) | (show (Addr.add _ _).block ≠ _; rw [add_block]; exact hn375_0) | exact hn375_0) (.int .i64 a1_1)).trans hx375_2
    replace hx375_0 := (cell_far (p := ⟨gb374, 1, none⟩) (by first | (rw [add_block]; exact hn375_1) | (show (Addr.add _ _).block ≠ _; rw [add_block]; exact hn375_1) | exact hn375_1) (.int .i64 1)).trans hx375_0
    replace hx375_1 := (cell_far (p := ⟨gb374, 1, none⟩) (by first | (rw [add_block]; exact hn375_1) | (show (Addr.add _ _).block ≠ _; rw [add_block]; exact hn375_1) | exact hn375_1) (.int .i64 1)).trans hx375_1
    replace hx375_2 := (cell_far (p := ⟨gb374, 1, none⟩) (by first | (rw [add_block]; exact hn375_1) | (show (Addr.add _ _).block ≠ _; rw [add_block]; exact hn375_1) | exact hn375_1) (.int .i64 1)).trans hx375_2
    replace hx375_0 := (cell_far (p := ⟨gb374, 2, none⟩) (by first | (rw [add_block]; exact hn375_2) | (show (Addr.add _ _).block ≠ _; rw [add_block]; exact hn375_2) | exact hn375_2) (.slice Ao31 t371.length co31)).trans hx375_0
    replace hx375_1 := (cell_far (p := ⟨gb374, 2, none⟩) (by first | (rw [add_block]; exact hn375_2) | (show (Addr.add _ _).block ≠ _; rw [add_block]; exact hn375_2) | exact hn375_2) (.slice Ao31 t371.length co31)).trans hx375_1
    replace hx375_2 := (cell_far (p := ⟨gb374, 2, none⟩) (by first | (rw [add_block]; exact hn375_2) | (show (Addr.add _ _).block ≠ _; rw [add_block]; exact hn375_2) | exact hn375_2) (.slice Ao31 t371.length co31)).trans hx375_2
    clear hn375_0
    clear hn375_1
    clear hn375_2
    replace p375 := eq_true p375
    replace q375 := eq_true q375
    go_upto_if 59 with (first | ((with_reducible refine bg (N := 8) rfl ?_); refine bI ?hg (N := 8) ?hd (cs := #[.int .i64 0, .int .i64 0, .slice none 0 0]) (t := 42) ?hr ?_; (case hd => rfl); (case hg => rfl); (case hr => first | (go_simp; done) | (go_simp; rfl)); intro gb376 hg w42 hbox hb; have n0_ := dH (Kd.cu (by (with_reducible repeat (first | apply Kd.aI | apply Kd.aJ | apply Kd.aN)); exact (Kd.bM (Kd.bV (p := ⟨gb374, 2, none⟩) (Kd.bV (p := ⟨gb374, 1, none⟩) (Kd.bV (p := ⟨gb374, 0, none⟩) (Kd.bU HO369.out BK374.out (by decide)) (fun _ hk => hk.2) (.int .i64 a1_1)) (fun _ hk => hk.2) (.int .i64 1)) (fun _ hk => hk.2) (.slice Ao31 t371.length co31)) (fun _ h_ => h_.1))) hb); have n1_ := dH (Kd.cu (by (with_reducible repeat (first | apply Kd.aI | apply Kd.aJ | apply Kd.aN)); exact (Kd.bM (Kd.bV (p := ⟨gb374, 2, none⟩) (Kd.bV (p := ⟨gb374, 1, none⟩) (Kd.bV (p := ⟨gb374, 0, none⟩) (Kd.bU HO373.out BK374.out (by decide)) (fun _ hk => hk.2) (.int .i64 a1_1)) (fun _ hk => hk.2) (.int .i64 1)) (fun _ hk => hk.2) (.slice Ao31 t371.length co31)) (fun _ h_ => h_.1))) hb); have n2_ := dH (aQ (g := gb356) (o := .cells #[.int .i64 a0_0, .slice (some ad375) l0_1.length c0_1] 28 (0, 0)) (by (with_reducible repeat (first | refine av ?_ _ | refine aC ?_ | refine au ?_ _)); refine aW ?_ NB356_374.out _; (with_reducible repeat (first | refine av ?_ _ | refine aC ?_ | refine au ?_ _)); refine aW ?_ NB356_374.out _; (with_reducible repeat (first | refine av ?_ _ | refine aC ?_ | refine au ?_ _)); refine aW ?_ NB356_374.out _; (with_reducible repeat (first | refine av ?_ _ | refine aC ?_ | refine au ?_ _)); exact BK356.out) hb); have n3_ := dH (aQ (g := gb357) (o := .cells #[.int .i64 a1_0, .int .i64 a1_1, .int .i64 a1_2, .slice A1_3 l1_3.length c1_3] 36 (0, 0)) (by (with_reducible repeat (first | refine av ?_ _ | refine aC ?_ | refine au ?_ _)); refine aW ?_ NB357_374.out _; (with_reducible repeat (first | refine av ?_ _ | refine aC ?_ | refine au ?_ _)); refine aW ?_ NB357_374.out _; (with_reducible repeat (first | refine av ?_ _ | refine aC ?_ | refine au ?_ _)); refine aW ?_ NB357_374.out _; (with_reducible repeat (first | refine av ?_ _ | refine aC ?_ | refine au ?_ _)); exact BK357.out) hb); have n4_ := dH (aQ (g := gb358) (o := .cells #[.int .i64 0, .slice none 0 0] 28 (0, 0)) (by (with_reducible repeat (first | refine av ?_ _ | refine aC ?_ | refine au ?_ _)); refine aW ?_ NB358_374.out _; (with_reducible repeat (first | refine av ?_ _ | refine aC ?_ | refine au ?_ _)); refine aW ?_ NB358_374.out _; (with_reducible repeat (first | refine av ?_ _ | refine aC ?_ | refine au ?_ _)); refine aW ?_ NB358_374.out _; (with_reducible repeat (first | refine av ?_ _ | refine aC ?_ | refine au ?_ _)); exact BK358.out) hb); have n5_ := dH (aQ (g := gb374) (o := .cells #[.int .i64 a1_1, .int .i64 1, .slice Ao31 t371.length co31] 42 (0, 0)) (by (with_reducible repeat (first | refine av ?_ _ | refine aC ?_ | refine au ?_ _)); refine bL (cs := #[.int .i64 a1_1, .int .i64 1, .slice none 0 0]) ?_ 2 _ rfl; (with_reducible repeat (first | refine av ?_ _ | refine aC ?_ | refine au ?_ _)); refine bL (cs := #[.int .i64 a1_1, .int .i64 0, .slice none 0 0]) ?_ 1 _ rfl; (with_reducible repeat (first | refine av ?_ _ | refine aC ?_ | refine au ?_ _)); refine bL (cs := #[.int .i64 0, .int .i64 0, .slice none 0 0]) ?_ 0 _ rfl; (with_reducible repeat (first | refine av ?_ _ | refine aC ?_ | refine au ?_ _)); exact BK374.out) hb); have n6_ := dH (aM (by repeat (first | (with_reducible first | exact HB.out | apply ak | apply ah | apply aj | refine aA ?_ GE356.out | refine aA ?_ GE357.out | refine aA ?_ GE358.out | refine aA ?_ GE374.out) | exact HB.out)) hb); have n7_ := dH (hbox); have n8_ := dH ((by rw [hg]; exact (aK (by repeat (first | (with_reducible first | exact HB.out | apply ak | apply ah | apply aj | refine aA ?_ GE356.out | refine aA ?_ GE357.out | refine aA ?_ GE358.out | refine aA ?_ GE374.out) | exact HB.out))) : w.heap.size ≤ gb376)); have n9_ := dH ((by rw [hg]; exact (aK (by repeat (first | (with_reducible first | exact HB.out | apply ak | apply ah | apply aj | refine aA ?_ GE356.out | refine aA ?_ GE357.out | refine aA ?_ GE358.out | refine aA ?_ GE374.out) | exact HB.out))) : w.heap.size ≤ gb376)); have n10_ := dH ((by rw [hg]; exact Nat.ne_of_lt (bn (g := gb356) (o := .cells #[.int .i64 a0_0, .slice (some ad375) l0_1.length c0_1] 28 (0, 0)) (by (with_reducible repeat (first | refine av ?_ _ | refine aC ?_ | refine au ?_ _)); refine aW ?_ NB356_374.out _; (with_reducible repeat (first | refine av ?_ _ | refine aC ?_ | refine au ?_ _)); refine aW ?_ NB356_374.out _; (with_reducible repeat (first | refine av ?_ _ | refine aC ?_ | refine au ?_ _)); refine aW ?_ NB356_374.out _; (with_reducible repeat (first | refine av ?_ _ | refine aC ?_ | refine au ?_ _)); exact BK356.out)) : gb356 ≠ gb376)); have n11_ := dH ((by rw [hg]; exact Nat.ne_of_gt (bn (g := gb356) (o := .cells #[.int .i64 a0_0, .slice (some ad375) l0_1.length c0_1] 28 (0, 0)) (by (with_reducible repeat (first | refine av ?_ _ | refine aC ?_ | refine au ?_ _)); refine aW ?_ NB356_374.out _; (with_reducible repeat (first | refine av ?_ _ | refine aC ?_ | refine au ?_ _)); refine aW ?_ NB356_374.out _; (with_reducible repeat (first | refine av ?_ _ | refine aC ?_ | refine au ?_ _)); refine aW ?_ NB356_374.out _; (with_reducible repeat (first | refine av ?_ _ | refine aC ?_ | refine au ?_ _)); exact BK356.out)) : gb376 ≠ gb356)); have n12_ := dH ((by rw [hg]; exact Nat.ne_of_lt (bn (g := gb357) (o := .cells #[.int .i64 a1_0, .int .i64 a1_1, .int .i64 a1_2, .slice A1_3 l1_3.length c1_3] 36 (0, 0)) (by (with_reducible repeat (first | refine av ?_ _ | refine aC ?_ | refine au ?_ _)); refine aW ?_ NB357_374.out _; (with_reducible repeat (first | refine av ?_ _ | refine aC ?_ | refine au ?_ _)); refine aW ?_ NB357_374.out _; (with_reducible repeat (first | refine av ?_ _ | refine aC ?_ | refine au ?_ _)); refine aW ?_ NB357_374.out _; (with_reducible repeat (first | refine av ?_ _ | refine aC ?_ | refine au ?_ _)); exact BK357.out)) : gb357 ≠ gb376)); have n13_ := dH ((by rw [hg]; exact Nat.ne_of_gt (bn (g := gb357) (o := .cells #[.int .i64 a1_0, .int .i64 a1_1, .int .i64 a1_2, .slice A1_3 l1_3.length c1_3] 36 (0, 0)) (by (with_reducible repeat (first | refine av ?_ _ | refine aC ?_ | refine au ?_ _)); refine aW ?_ NB357_374.out _; (with_reducible repeat (first | refine av ?_ _ | refine aC ?_ | refine au ?_ _)); refine aW ?_ NB357_374.out _; (with_reducible repeat (first | refine av ?_ _ | refine aC ?_ | refine au ?_ _)); refine aW ?_ NB357_374.out _; (with_reducible repeat (first | refine av ?_ _ | refine aC ?_ | refine au ?_ _)); exact BK357.out)) : gb376 ≠ gb357)); have n14_ := dH ((by rw [hg]; exact Nat.ne_of_lt (bn (g := gb358) (o := .cells #[.int .i64 0, .slice none 0 0] 28 (0, 0)) (by (with_reducible repeat (first | refine av ?_ _ | refine aC ?_ | refine au ?_ _)); refine aW ?_ NB358_374.out _; (with_reducible repeat (first | refine av ?_ _ | refine aC ?_ | refine au ?_ _)); refine aW ?_ NB358_374.out _; (with_reducible repeat (first | refine av ?_ _ | refine aC ?_ | refine au ?_ _)); refine aW ?_ NB358_374.out _; (with_reducible repeat (first | refine av ?_ _ | refine aC ?_ | refine au ?_ _)); exact BK358.out)) : gb358 ≠ gb376)); have n15_ := dH ((by rw [hg]; exact Nat.ne_of_gt (bn (g := gb358) (o := .cells #[.int .i64 0, .slice none 0 0] 28 (0, 0)) (by (with_reducible repeat (first | refine av ?_ _ | refine aC ?_ | refine au ?_ _)); refine aW ?_ NB358_374.out _; (with_reducible repeat (first | refine av ?_ _ | refine aC ?_ | refine au ?_ _)); refine aW ?_ NB358_374.out _; (with_reducible repeat (first | refine av ?_ _ | refine aC ?_ | refine au ?_ _)); refine aW ?_ NB358_374.out _; (with_reducible repeat (first | refine av ?_ _ | refine aC ?_ | refine au ?_ _)); exact BK358.out)) : gb376 ≠ gb358)); have n16_ := dH ((by rw [hg]; exact Nat.ne_of_lt (bn (g := gb374) (o := .cells #[.int .i64 a1_1, .int .i64 1, .slice Ao31 t371.length co31] 42 (0, 0)) (by (with_reducible repeat (first | refine av ?_ _ | refine aC ?_ | refine au ?_ _)); refine bL (cs := #[.int .i64 a1_1, .int .i64 1, .slice none 0 0]) ?_ 2 _ rfl; (with_reducible repeat (first | refine av ?_ _ | refine aC ?_ | refine au ?_ _)); refine bL (cs := #[.int .i64 a1_1, .int .i64 0, .slice none 0 0]) ?_ 1 _ rfl; (with_reducible repeat (first | refine av ?_ _ | refine aC ?_ | refine au ?_ _)); refine bL (cs := #[.int .i64 0, .int .i64 0, .slice none 0 0]) ?_ 0 _ rfl; (with_reducible repeat (first | refine av ?_ _ | refine aC ?_ | refine au ?_ _)); exact BK374.out)) : gb374 ≠ gb376)); have n17_ := dH ((by rw [hg]; exact Nat.ne_of_gt (bn (g := gb374) (o := .cells #[.int .i64 a1_1, .int .i64 1, .slice Ao31 t371.length co31] 42 (0, 0)) (by (with_reducible repeat (first | refine av ?_ _ | refine aC ?_ | refine au ?_ _)); refine bL (cs := #[.int .i64 a1_1, .int .i64 1, .slice none 0 0]) ?_ 2 _ rfl; (with_reducible repeat (first | refine av ?_ _ | refine aC ?_ | refine au ?_ _)); refine bL (cs := #[.int .i64 a1_1, .int .i64 0, .slice none 0 0]) ?_ 1 _ rfl; (with_reducible repeat (first | refine av ?_ _ | refine aC ?_ | refine au ?_ _)); refine bL (cs := #[.int .i64 0, .int .i64 0, .slice none 0 0]) ?_ 0 _ rfl; (with_reducible repeat (first | refine av ?_ _ | refine aC ?_ | refine au ?_ _)); exact BK374.out)) : gb376 ≠ gb374)); clear HO369; clear HO373; clear BK356; clear BK357; clear BK358; clear BK374; clear HB; have HO369 := n0_; have HO373 := n1_; have BK356 := n2_; have BK357 := n3_; have BK358 := n4_; have BK374 := n5_; have HB := n6_; have BK376 := n7_; have GW376 := n8_; have GE376 := n9_; have NB356_376 := n10_; have NB376_356 := n11_; have NB357_376 := n12_; have NB376_357 := n13_; have NB358_376 := n14_; have NB376_358 := n15_; have NB374_376 := n16_; have NB376_374 := n17_; clear n0_ n1_ n2_ n3_ n4_ n5_ n6_ n7_ n8_ n9_ n10_ n11_ n12_ n13_ n14_ n15_ n16_ n17_; clear hb hbox hg; have hnb43 := NB376_356.out; have hnc43 := NB356_376.out; have hnb44 := NB376_357.out; have hnc44 := NB357_376.out; have hnb45 := NB376_358.out; have hnc45 := NB358_376.out; have hnb46 := NB376_374.out; have hnc46 := NB374_376.out; have hcz47_0 : w42.cell? ⟨gb376, 0, none⟩ = some (.int .i64 0) := (ay BK376.out 0).trans rfl; have hcz47_1 : w42.cell? ⟨gb376, 1, none⟩ = some (.int .i64 0) := (ay BK376.out 1).trans rfl; have hcz47_2 : w42.cell? ⟨gb376, 2, none⟩ = some (.slice none 0 0) := (ay BK376.out 2).trans rfl; have hfz47_0 := aD BK376.out 0; have hfz47_1 := aD BK376.out 1; have hfz47_2 := aD BK376.out 2; have hcz48_0 : w42.cell? ⟨gb357, 0, none⟩ = some (.int .i64 a1_0) := (ay BK357.out 0).trans rfl; have hcz48_1 : w42.cell? ⟨gb357, 1, none⟩ = some (.int .i64 a1_1) := (ay BK357.out 1).trans rfl; have hcz48_2 : w42.cell? ⟨gb357, 2, none⟩ = some (.int .i64 a1_2) := (ay BK357.out 2).trans rfl; have hcz48_3 : w42.cell? ⟨gb357, 3, none⟩ = some (.slice A1_3 l1_3.length c1_3) := (ay BK357.out 3).trans rfl; have hfz48_0 := aD BK357.out 0; have hfz48_1 := aD BK357.out 1; have hfz48_2 := aD BK357.out 2; have hfz48_3 := aD BK357.out 3))
    (try simp only [Act.put, cO, cZ, d9])
    go_cut [] (fun wc => ∃ (kq : Nat) (x359000_15 : Int) (x375001_15 : Int) (x375002_15 : List Int) (u375002 : Value), Aside0 (code_Receive.j0 kq a0_0 l0_1 a1_0 a1_1 a1_2 l1_3 a1_1 x375001_15 x375002_15 = some (r1, r2, r3)) ∧ Aside0 (kq ≤ k) ∧ Aside0 (Kd.R (Kd.int .i64) 3 wc w.heap.size (fun _ => True) u375002 x375002_15) ∧ Aside0 (wc.heap[gb356]? = some (.cells #[.int .i64 a0_0, (.slice (some ad375) l0_1.length c0_1)] 28 (0, 0))) ∧ Aside0 (wc.heap[gb357]? = some (.cells #[.int .i64 a1_0, .int .i64 a1_1, .int .i64 a1_2, (.slice A1_3 l1_3.length c1_3)] 36 (0, 0))) ∧ Aside0 (wc.heap[gb358]? = some (.cells #[.int .i64 x359000_15, (.slice none 0 0)] 28 (0, 0))) ∧ Aside0 (wc.heap[gb374]? = some (.cells #[.int .i64 a1_1, .int .i64 x375001_15, u375002] 42 (0, 0))) ∧ Aside0 (wc.heap[gb376]? = some (.cells #[.int .i64 ((rd_T42 l0_1 a1_0).f0), .int .i64 ((rd_T42 l0_1 a1_0).f1), (.slice A375_2 ((rd_T42 l0_1 a1_0).f2).length c375_2)] 42 (0, 0))) ∧ Aside0 (Below w.heap.size w wc))
    case first =>
     have H := HC16.out
     clear HC16
     by_cases c49 : ((rd_T42 l0_1 a1_0).f0) = a1_1
     ·
      rw [if_pos c49] at H
      have c49b0 : (((rd_T42 l0_1 a1_0).f0) == a1_1) = true := beq_iff_eq.mpr c49
      have c49b1 : (((rd_T42 l0_1 a1_0).f0) != a1_1) = false := bne_eq_false_iff_eq.mpr c49
      clear c49
      (first | rw [c49b0] | (simp only [aG, aH]; rw [c49b0]) | skip)
      replace H := dF.mp H
      obtain ⟨⟨t377, t378⟩, A500, H⟩ := H
      replace H : ((code_unless.f (decide ((wrap64 (((rd_T42 l0_1 a1_0).f1) + 1)) ≤ 1000000000)) 8).bind fun t381 => ((code_first.f k (([t378, t381] : List Int))).bind fun t385 => (if t385 = 0 then (code_Receive.j0 k a0_0 l0_1 a1_0 a1_1 a1_2 l1_3 a1_1 (wrap64 (((rd_T42 l0_1 a1_0).f1) + 1)) t377) else (none)))) = some (r1, r2, r3) := H
      have A50 := dH A500
      clear A500
      replace H := dF.mp H
      obtain ⟨t381, A510, H⟩ := H
      replace H : ((code_first.f k (([t378, t381] : List Int))).bind fun t385 => (if t385 = 0 then (code_Receive.j0 k a0_0 l0_1 a1_0 a1_1 a1_2 l1_3 a1_1 (wrap64 (((rd_T42 l0_1 a1_0).f1) + 1)) t377) else (none))) = some (r1, r2, r3) := H
      have A51 := dH A510
      clear A510
      obtain ⟨y382, hy382⟩ : ∃ y_ : List Int, y_ = (([t378, t381] : List Int)) := ⟨_, rfl⟩
      replace H : ((code_first.f k y382).bind fun t385 => (if t385 = 0 then (code_Receive.j0 k a0_0 l0_1 a1_0 a1_1 a1_2 l1_3 a1_1 (wrap64 (((rd_T42 l0_1 a1_0).f1) + 1)) t377) else (none))) = some (r1, r2, r3) := by first | (rw [hy382]; with_reducible exact H) | (have H2_ := (Option.bind_some _ _).symm.trans H; rw [hy382]; with_reducible exact H2_) | (have H2_ := (Option.bind_some _ _).symm.trans H; with_reducible exact H2_) | with_reducible exact H | (rw [hy382]; exact H) | exact H
      have Ny382 := dH hy382
      clear hy382
      replace H := dF.mp H
      obtain ⟨t385, A520, H⟩ := H
      replace H : (if t385 = 0 then (code_Receive.j0 k a0_0 l0_1 a1_0 a1_1 a1_2 l1_3 a1_1 (wrap64 (((rd_T42 l0_1 a1_0).f1) + 1)) t377) else (none)) = some (r1, r2, r3) := H
      have A52 := dH A520
      clear A520
      by_cases c53 : t385 = 0
      ·
       rw [if_pos c53] at H
       have c53b0 : (t385 == 0) = true := beq_iff_eq.mpr c53
       have c53b1 : (t385 != 0) = false := bne_eq_false_iff_eq.mpr c53
       clear c53
       have H' := dH H
       clear H
       have hnb54 := NB376_356.out
       have hnc54 := NB356_376.out
       have hnb55 := NB376_357.out
       have hnc55 := NB357_376.out
       have hnb56 := NB376_358.out
       have hnc56 := NB358_376.out
       have hnb57 := NB376_374.out
       have hnc57 := NB374_376.out
       have hcz58_0 : w42.cell? ⟨gb376, 0, none⟩ = some (.int .i64 0) := (ay BK376.out 0).trans rfl
       have hcz58_1 : w42.cell? ⟨gb376, 1, none⟩ = some (.int .i64 0) := (ay BK376.out 1).trans rfl
       have hcz58_2 : w42.cell? ⟨gb376, 2, none⟩ = some (.slice none 0 0) := (ay BK376.out 2).trans rfl
       have hfz58_0 := aD BK376.out 0
       have hfz58_1 := aD BK376.out 1
       have hfz58_2 := aD BK376.out 2
       have hnb59 := NB374_356.out
       have hnc59 := NB356_374.out
       have hnb60 := NB374_357.out
       have hnc60 := NB357_374.out
       have hnb61 := NB374_358.out
       have hnc61 := NB358_374.out
       have hcz62_0 : w42.cell? ⟨gb374, 0, none⟩ = some (.int .i64 a1_1) := (ay BK374.out 0).trans rfl
       have hcz62_1 : w42.cell? ⟨gb374, 1, none⟩ = some (.int .i64 1) := (ay BK374.out 1).trans rfl
       have hcz62_2 : w42.cell? ⟨gb374, 2, none⟩ = some (.slice Ao31 t371.length co31) := (ay BK374.out 2).trans rfl
       have hfz62_0 := aD BK374.out 0
       have hfz62_1 := aD BK374.out 1
       have hfz62_2 := aD BK374.out 2
       go_wp2_with (first | ((with_reducible refine aT (f := 79) rfl ?_); refine bq (some 69) rfl rfl Try.func79 (by kernel_rfl) rfl #[.slice A375_2 ((rd_T42 l0_1 a1_0).f2).length c375_2, .slice Ao31 t371.length co31] rfl (by (try simp only [dh, dn, dw]); first | done | rfl | (simp only [dx, dz]; rfl) | (simp only [gt_iff_lt, dA]; rfl) | (simp [Act.eval]; done) | (simp [Act.eval, *]; done)) ?_; (with_reducible refine (code_combined.calls k _ _ ((rd_T42 l0_1 a1_0).f2) _ _ t371 t377 t378 _ ?side1 ?side2 ?side3 ?side4 A50.out).mono ?_); (case side1 => exact Kd.bF HR375_2.out (by repeat (first | (with_reducible first | exact HB.out | apply ak | apply ah | apply aj | refine aA ?_ GE356.out | refine aA ?_ GE357.out | refine aA ?_ GE358.out | refine aA ?_ GE374.out | refine aA ?_ GE376.out) | exact HB.out))); (case side2 => exact HC375_2.out); (case side3 => refine (Kd.aZ (e := 3) (base := w.heap.size) (ok := fun k_ => True) (n := t371.length) (c := co31) ?_).2.2; exact (by (with_reducible repeat (first | apply Kd.aI | apply Kd.aJ | apply Kd.aN)); exact (Kd.bM (Kd.bM (Kd.bV (p := ⟨gb374, 1, none⟩) (Kd.bV (p := ⟨gb376, 2, none⟩) (Kd.bV (p := ⟨gb376, 1, none⟩) (Kd.bV (p := ⟨gb376, 0, none⟩) (Kd.bU (Kd.bU HO373.out BK376.out (by decide)) BK374.out (by decide)) (fun _ hk => hk.1.2) (.int .i64 ((rd_T42 l0_1 a1_0).f0))) (fun _ hk => hk.1.2) (.int .i64 ((rd_T42 l0_1 a1_0).f1))) (fun _ hk => hk.1.2) (.slice A375_2 ((rd_T42 l0_1 a1_0).f2).length c375_2)) (fun _ hk => hk.2) (.int .i64 (wrap64 (((rd_T42 l0_1 a1_0).f1) + 1)))) (fun _ h_ => h_.1)) (fun _ h_ => h_.1)))); (case side4 => exact (Kd.aZ HO373.out).2.1); rintro e w63 ⟨v379, rfl, ho0, hb⟩; refine ⟨_, rfl, ?_⟩; have n0_ := dH (Kd.cu (by (with_reducible repeat (first | apply Kd.aI | apply Kd.aJ | apply Kd.aN)); exact (Kd.bM (Kd.bM (Kd.bV (p := ⟨gb374, 1, none⟩) (Kd.bV (p := ⟨gb376, 2, none⟩) (Kd.bV (p := ⟨gb376, 1, none⟩) (Kd.bV (p := ⟨gb376, 0, none⟩) (Kd.bU (Kd.bU HO369.out BK376.out (by decide)) BK374.out (by decide)) (fun _ hk => hk.1.2) (.int .i64 ((rd_T42 l0_1 a1_0).f0))) (fun _ hk => hk.1.2) (.int .i64 ((rd_T42 l0_1 a1_0).f1))) (fun _ hk => hk.1.2) (.slice A375_2 ((rd_T42 l0_1 a1_0).f2).length c375_2)) (fun _ hk => hk.2) (.int .i64 (wrap64 (((rd_T42 l0_1 a1_0).f1) + 1)))) (fun _ h_ => h_.1)) (fun _ h_ => h_.1))) hb); have n1_ := dH (Kd.bf (by (with_reducible repeat (first | apply Kd.aI | apply Kd.aJ | apply Kd.aN)); exact (Kd.bM (Kd.bM (Kd.bV (p := ⟨gb374, 1, none⟩) (Kd.bV (p := ⟨gb376, 2, none⟩) (Kd.bV (p := ⟨gb376, 1, none⟩) (Kd.bV (p := ⟨gb376, 0, none⟩) (Kd.bU (Kd.bU HO373.out BK376.out (by decide)) BK374.out (by decide)) (fun _ hk => hk.1.2) (.int .i64 ((rd_T42 l0_1 a1_0).f0))) (fun _ hk => hk.1.2) (.int .i64 ((rd_T42 l0_1 a1_0).f1))) (fun _ hk => hk.1.2) (.slice A375_2 ((rd_T42 l0_1 a1_0).f2).length c375_2)) (fun _ hk => hk.2) (.int .i64 (wrap64 (((rd_T42 l0_1 a1_0).f1) + 1)))) (fun _ h_ => h_.1)) (fun _ h_ => h_.1))) (Kd.bE ho0) hb); have n2_ := dH (Kd.bP (Kd.bH ho0 (Kd.bT (by (with_reducible repeat (first | apply Kd.aI | apply Kd.aJ | apply Kd.aN)); exact (Kd.bM (Kd.bM (Kd.bV (p := ⟨gb374, 1, none⟩) (Kd.bV (p := ⟨gb376, 2, none⟩) (Kd.bV (p := ⟨gb376, 1, none⟩) (Kd.bV (p := ⟨gb376, 0, none⟩) (Kd.bU (Kd.bU HO373.out BK376.out (by decide)) BK374.out (by decide)) (fun _ hk => hk.1.2) (.int .i64 ((rd_T42 l0_1 a1_0).f0))) (fun _ hk => hk.1.2) (.int .i64 ((rd_T42 l0_1 a1_0).f1))) (fun _ hk => hk.1.2) (.slice A375_2 ((rd_T42 l0_1 a1_0).f2).length c375_2)) (fun _ hk => hk.2) (.int .i64 (wrap64 (((rd_T42 l0_1 a1_0).f1) + 1)))) (fun _ h_ => h_.1)) (fun _ h_ => h_.1))))) (aK (by repeat (first | (with_reducible first | exact HB.out | apply ak | apply ah | apply aj | refine aA ?_ GE356.out | refine aA ?_ GE357.out | refine aA ?_ GE358.out | refine aA ?_ GE374.out | refine aA ?_ GE376.out) | exact HB.out)))); have n3_ := dH (aQ (g := gb356) (o := .cells #[.int .i64 a0_0, .slice (some ad375) l0_1.length c0_1] 28 (0, 0)) (by (with_reducible repeat (first | refine av ?_ _ | refine aC ?_ | refine au ?_ _)); refine aW ?_ NB356_374.out _; (with_reducible repeat (first | refine av ?_ _ | refine aC ?_ | refine au ?_ _)); refine aW ?_ NB356_376.out _; (with_reducible repeat (first | refine av ?_ _ | refine aC ?_ | refine au ?_ _)); refine aW ?_ NB356_376.out _; (with_reducible repeat (first | refine av ?_ _ | refine aC ?_ | refine au ?_ _)); refine aW ?_ NB356_376.out _; (with_reducible repeat (first | refine av ?_ _ | refine aC ?_ | refine au ?_ _)); exact BK356.out) hb); have n4_ := dH (aQ (g := gb357) (o := .cells #[.int .i64 a1_0, .int .i64 a1_1, .int .i64 a1_2, .slice A1_3 l1_3.length c1_3] 36 (0, 0)) (by (with_reducible repeat (first | refine av ?_ _ | refine aC ?_ | refine au ?_ _)); refine aW ?_ NB357_374.out _; (with_reducible repeat (first | refine av ?_ _ | refine aC ?_ | refine au ?_ _)); refine aW ?_ NB357_376.out _; (with_reducible repeat (first | refine av ?_ _ | refine aC ?_ | refine au ?_ _)); refine aW ?_ NB357_376.out _; (with_reducible repeat (first | refine av ?_ _ | refine aC ?_ | refine au ?_ _)); refine aW ?_ NB357_376.out _; (with_reducible repeat (first | refine av ?_ _ | refine aC ?_ | refine au ?_ _)); exact BK357.out) hb); have n5_ := dH (aQ (g := gb358) (o := .cells #[.int .i64 0, .slice none 0 0] 28 (0, 0)) (by (with_reducible repeat (first | refine av ?_ _ | refine aC ?_ | refine au ?_ _)); refine aW ?_ NB358_374.out _; (with_reducible repeat (first | refine av ?_ _ | refine aC ?_ | refine au ?_ _)); refine aW ?_ NB358_376.out _; (with_reducible repeat (first | refine av ?_ _ | refine aC ?_ | refine au ?_ _)); refine aW ?_ NB358_376.out _; (with_reducible repeat (first | refine av ?_ _ | refine aC ?_ | refine au ?_ _)); refine aW ?_ NB358_376.out _; (with_reducible repeat (first | refine av ?_ _ | refine aC ?_ | refine au ?_ _)); exact BK358.out) hb); have n6_ := dH (aQ (g := gb374) (o := .cells #[.int .i64 a1_1, .int .i64 (wrap64 (((rd_T42 l0_1 a1_0).f1) + 1)), .slice Ao31 t371.length co31] 42 (0, 0)) (by (with_reducible repeat (first | refine av ?_ _ | refine aC ?_ | refine au ?_ _)); refine bL (cs := #[.int .i64 a1_1, .int .i64 1, .slice Ao31 t371.length co31]) ?_ 1 _ rfl; (with_reducible repeat (first | refine av ?_ _ | refine aC ?_ | refine au ?_ _)); refine aW ?_ NB374_376.out _; (with_reducible repeat (first | refine av ?_ _ | refine aC ?_ | refine au ?_ _)); refine aW ?_ NB374_376.out _; (with_reducible repeat (first | refine av ?_ _ | refine aC ?_ | refine au ?_ _)); refine aW ?_ NB374_376.out _; (with_reducible repeat (first | refine av ?_ _ | refine aC ?_ | refine au ?_ _)); exact BK374.out) hb); have n7_ := dH (aQ (g := gb376) (o := .cells #[.int .i64 ((rd_T42 l0_1 a1_0).f0), .int .i64 ((rd_T42 l0_1 a1_0).f1), .slice A375_2 ((rd_T42 l0_1 a1_0).f2).length c375_2] 42 (0, 0)) (by (with_reducible repeat (first | refine av ?_ _ | refine aC ?_ | refine au ?_ _)); refine aW ?_ NB376_374.out _; (with_reducible repeat (first | refine av ?_ _ | refine aC ?_ | refine au ?_ _)); refine bL (cs := #[.int .i64 ((rd_T42 l0_1 a1_0).f0), .int .i64 ((rd_T42 l0_1 a1_0).f1), .slice none 0 0]) ?_ 2 _ rfl; (with_reducible repeat (first | refine av ?_ _ | refine aC ?_ | refine au ?_ _)); refine bL (cs := #[.int .i64 ((rd_T42 l0_1 a1_0).f0), .int .i64 0, .slice none 0 0]) ?_ 1 _ rfl; (with_reducible repeat (first | refine av ?_ _ | refine aC ?_ | refine au ?_ _)); refine bL (cs := #[.int .i64 0, .int .i64 0, .slice none 0 0]) ?_ 0 _ rfl; (with_reducible repeat (first | refine av ?_ _ | refine aC ?_ | refine au ?_ _)); exact BK376.out) hb); have n8_ := dH (aM (by repeat (first | (with_reducible first | exact HB.out | apply ak | apply ah | apply aj | refine aA ?_ GE356.out | refine aA ?_ GE357.out | refine aA ?_ GE358.out | refine aA ?_ GE374.out | refine aA ?_ GE376.out) | exact HB.out)) hb); clear HO369; clear HO373; clear BK356; clear BK357; clear BK358; clear BK374; clear BK376; clear HB; have HO369 := n0_; have HO373 := n1_; have HO380 := n2_; have BK356 := n3_; have BK357 := n4_; have BK358 := n5_; have BK374 := n6_; have BK376 := n7_; have HB := n8_; clear n0_ n1_ n2_ n3_ n4_ n5_ n6_ n7_ n8_; (try clear hb); (try clear hb2); (try clear hk); (try clear hi); (try clear ho0); obtain ⟨Ao64, co64, eo64⟩ := Kd.bN HO380.out; subst eo64; have hcz65_0 : w63.cell? ⟨gb374, 0, none⟩ = some (.int .i64 a1_1) := (ay BK374.out 0).trans rfl; have hcz65_1 : w63.cell? ⟨gb374, 1, none⟩ = some (.int .i64 (wrap64 (((rd_T42 l0_1 a1_0).f1) + 1))) := (ay BK374.out 1).trans rfl; have hcz65_2 : w63.cell? ⟨gb374, 2, none⟩ = some (.slice Ao31 t371.length co31) := (ay BK374.out 2).trans rfl; have hfz65_0 := aD BK374.out 0; have hfz65_1 := aD BK374.out 1; have hfz65_2 := aD BK374.out 2) | ((with_reducible refine aT (f := 74) rfl ?_); refine bq (some 77) rfl rfl Try.func74 (by kernel_rfl) rfl #[.bool (decide ((wrap64 (((rd_T42 l0_1 a1_0).f1) + 1)) ≤ 1000000000)), .int .i64 8] rfl (by (try simp only [dh, dn, dw]); first | done | rfl | (simp only [dx, dz]; rfl) | (simp only [gt_iff_lt, dA]; rfl) | (simp [Act.eval]; done) | (simp [Act.eval, *]; done)) ?_; (with_reducible refine (code_unless.calls (decide ((wrap64 (((rd_T42 l0_1 a1_0).f1) + 1)) ≤ 1000000000)) 8 t381 _ A51.out).mono ?_); rintro e w' ⟨rfl, ⟨nd, rfl⟩⟩; refine ⟨_, rfl, ?_⟩) | ((with_reducible refine bg (N := 78) rfl ?_); refine Kd.R_lit (Kd.int .i64) _ 29 ?hg (N := 78) ?hd (xs := ([t378, t381] : List Int)) (inner := [.int .i64 t378, .int .i64 t381]) (ok := fun _ => True) (okp := fun _ => True) ?hr ?hp (fun _ hk => hk) trivial (Below.refl _ _) (Nat.le_refl _) (by simp) ?_; (case hd => rfl); (case hg => rfl); (case hr => first | (go_simp; done) | (go_simp; rfl)); (case hp => exact (Reps.one (show Kd.M (Kd.int .i64) _ _ _ t378 [.int .i64 t378] from rfl) (Reps.one (show Kd.M (Kd.int .i64) _ _ _ t381 [.int .i64 t381] from rfl) (Reps.none _ _)))); intro v383 w66 ho67 hb hg_ hnew_; clear hg_ hnew_; (first | rw [← Ny382.out] at ho67 | (simp only [Int.reduceToNat] at ho67; rw [← Ny382.out] at ho67)); have n0_ := dH (Kd.bf (by (with_reducible repeat (first | apply Kd.aI | apply Kd.aJ | apply Kd.aN)); exact (Kd.bM (Kd.bV (p := ⟨gb374, 2, none⟩) (Kd.bU HO369.out BK374.out (by decide)) (fun _ hk => hk.2) (.slice Ao64 t377.length co64)) (fun _ h_ => h_.1))) (Kd.bE ho67) hb); have n1_ := dH (Kd.cu (by (with_reducible repeat (first | apply Kd.aI | apply Kd.aJ | apply Kd.aN)); exact (Kd.bM (Kd.bV (p := ⟨gb374, 2, none⟩) (Kd.bU HO373.out BK374.out (by decide)) (fun _ hk => hk.2) (.slice Ao64 t377.length co64)) (fun _ h_ => h_.1))) hb); have n2_ := dH (Kd.cu (by (with_reducible repeat (first | apply Kd.aI | apply Kd.aJ | apply Kd.aN)); exact (Kd.bM (Kd.bV (p := ⟨gb374, 2, none⟩) (Kd.bU HO380.out BK374.out (by decide)) (fun _ hk => hk.2) (.slice Ao64 t377.length co64)) (fun _ h_ => h_.1))) hb); have n3_ := dH (Kd.bP (Kd.bH ho67 (Kd.bT (by (with_reducible repeat (first | apply Kd.aI | apply Kd.aJ | apply Kd.aN)); exact (Kd.bM (Kd.bV (p := ⟨gb374, 2, none⟩) (Kd.bU HO369.out BK374.out (by decide)) (fun _ hk => hk.2) (.slice Ao64 t377.length co64)) (fun _ h_ => h_.1))))) (aK (by repeat (first | (with_reducible first | exact HB.out | apply ak | apply ah | apply aj | refine aA ?_ GE356.out | refine aA ?_ GE357.out | refine aA ?_ GE358.out | refine aA ?_ GE374.out | refine aA ?_ GE376.out) | exact HB.out)))); have n4_ := dH (aQ (g := gb356) (o := .cells #[.int .i64 a0_0, .slice (some ad375) l0_1.length c0_1] 28 (0, 0)) (by (with_reducible repeat (first | refine av ?_ _ | refine aC ?_ | refine au ?_ _)); refine aW ?_ NB356_374.out _; (with_reducible repeat (first | refine av ?_ _ | refine aC ?_ | refine au ?_ _)); exact BK356.out) hb); have n5_ := dH (aQ (g := gb357) (o := .cells #[.int .i64 a1_0, .int .i64 a1_1, .int .i64 a1_2, .slice A1_3 l1_3.length c1_3] 36 (0, 0)) (by (with_reducible repeat (first | refine av ?_ _ | refine aC ?_ | refine au ?_ _)); refine aW ?_ NB357_374.out _; (with_reducible repeat (first | refine av ?_ _ | refine aC ?_ | refine au ?_ _)); exact BK357.out) hb); have n6_ := dH (aQ (g := gb358) (o := .cells #[.int .i64 0, .slice none 0 0] 28 (0, 0)) (by (with_reducible repeat (first | refine av ?_ _ | refine aC ?_ | refine au ?_ _)); refine aW ?_ NB358_374.out _; (with_reducible repeat (first | refine av ?_ _ | refine aC ?_ | refine au ?_ _)); exact BK358.out) hb); have n7_ := dH (aQ (g := gb374) (o := .cells #[.int .i64 a1_1, .int .i64 (wrap64 (((rd_T42 l0_1 a1_0).f1) + 1)), .slice Ao64 t377.length co64] 42 (0, 0)) (by (with_reducible repeat (first | refine av ?_ _ | refine aC ?_ | refine au ?_ _)); refine bL (cs := #[.int .i64 a1_1, .int .i64 (wrap64 (((rd_T42 l0_1 a1_0).f1) + 1)), .slice Ao31 t371.length co31]) ?_ 2 _ rfl; (with_reducible repeat (first | refine av ?_ _ | refine aC ?_ | refine au ?_ _)); exact BK374.out) hb); have n8_ := dH (aQ (g := gb376) (o := .cells #[.int .i64 ((rd_T42 l0_1 a1_0).f0), .int .i64 ((rd_T42 l0_1 a1_0).f1), .slice A375_2 ((rd_T42 l0_1 a1_0).f2).length c375_2] 42 (0, 0)) (by (with_reducible repeat (first | refine av ?_ _ | refine aC ?_ | refine au ?_ _)); refine aW ?_ NB376_374.out _; (with_reducible repeat (first | refine av ?_ _ | refine aC ?_ | refine au ?_ _)); exact BK376.out) hb); have n9_ := dH (aM (by repeat (first | (with_reducible first | exact HB.out | apply ak | apply ah | apply aj | refine aA ?_ GE356.out | refine aA ?_ GE357.out | refine aA ?_ GE358.out | refine aA ?_ GE374.out | refine aA ?_ GE376.out) | exact HB.out)) hb); clear HO369; clear HO373; clear HO380; clear BK356; clear BK357; clear BK358; clear BK374; clear BK376; clear HB; have HO369 := n0_; have HO373 := n1_; have HO380 := n2_; have HO384 := n3_; have BK356 := n4_; have BK357 := n5_; have BK358 := n6_; have BK374 := n7_; have BK376 := n8_; have HB := n9_; clear n0_ n1_ n2_ n3_ n4_ n5_ n6_ n7_ n8_ n9_; clear hb ho67; obtain ⟨Ao68, co68, eo68⟩ := Kd.bN HO384.out; subst eo68) | ((with_reducible refine aT (f := 72) rfl ?_); refine bq (some 79) rfl rfl Try.func72 (by kernel_rfl) rfl #[.slice Ao68 y382.length co68] rfl (by (try simp only [dh, dn, dw]); first | done | rfl | (simp only [dx, dz]; rfl) | (simp only [gt_iff_lt, dA]; rfl) | (simp [Act.eval]; done) | (simp [Act.eval, *]; done)) ?_; (with_reducible refine (code_first.calls k _ _ y382 t385 _ ?side1 ?side2 A52.out).mono ?_); (case side1 => repeat (first | exact (Kd.aZ HO384.out).2.2 | (with_reducible refine Kd.bA ?_ _) | (with_reducible refine Kd.bC ?_ _) | (with_reducible refine Kd.bJ ?_))); (case side2 => exact (Kd.aZ HO384.out).2.1); rintro e w' ⟨rfl, ⟨nd, rfl⟩⟩; refine ⟨_, rfl, ?_⟩))
       go_meet
       case rel => exact ⟨_, (0), (wrap64 (((rd_T42 l0_1 a1_0).f1) + 1)), (t377), (.slice Ao64 t377.length co64), H', ⟨by first | omega | exact Nat.le_refl _⟩, ⟨by (with_reducible repeat (first | apply Kd.aI | apply Kd.aJ | apply Kd.aN)); exact Kd.bM HO380.out (fun _ hk => trivial)⟩, ⟨by (with_reducible repeat (first | refine av ?_ _ | refine aC ?_ | refine au ?_ _)); exact BK356.out⟩, ⟨by (with_reducible repeat (first | refine av ?_ _ | refine aC ?_ | refine au ?_ _)); exact BK357.out⟩, ⟨by (with_reducible repeat (first | refine av ?_ _ | refine aC ?_ | refine au ?_ _)); exact BK358.out⟩, ⟨by (with_reducible repeat (first | refine av ?_ _ | refine aC ?_ | refine au ?_ _)); exact BK374.out⟩, ⟨by (with_reducible repeat (first | refine av ?_ _ | refine aC ?_ | refine au ?_ _)); exact BK376.out⟩, ⟨by repeat (first | (with_reducible first | exact HB.out | apply ak | apply ah | apply aj | refine aA ?_ GE356.out | refine aA ?_ GE357.out | refine aA ?_ GE358.out | refine aA ?_ GE374.out | refine aA ?_ GE376.out) | exact HB.out)⟩⟩
      ·
       rw [if_neg c53] at H
       exact absurd H (by simp)
     ·
      rw [if_neg c49] at H
      have c49b0 : (((rd_T42 l0_1 a1_0).f0) == a1_1) = false := beq_eq_false_iff_ne.mpr c49
      have c49b1 : (((rd_T42 l0_1 a1_0).f0) != a1_1) = true := bne_iff_ne.mpr c49
      (first | rw [c49b0] | (simp only [aG, aH]; rw [c49b0]) | skip)
      have H' := dH H
      clear H
      go_wp2
      go_meet
      case rel => exact ⟨_, (0), (1), (t371), (.slice Ao31 t371.length co31), H', ⟨by first | omega | exact Nat.le_refl _⟩, ⟨by (with_reducible repeat (first | apply Kd.aI | apply Kd.aJ | apply Kd.aN)); exact Kd.bM (Kd.bV (p := ⟨gb376, 2, none⟩) (Kd.bV (p := ⟨gb376, 1, none⟩) (Kd.bV (p := ⟨gb376, 0, none⟩) (Kd.bU HO373.out BK376.out (by decide)) (fun _ hk => hk.2) (.int .i64 ((rd_T42 l0_1 a1_0).f0))) (fun _ hk => hk.2) (.int .i64 ((rd_T42 l0_1 a1_0).f1))) (fun _ hk => hk.2) (.slice A375_2 ((rd_T42 l0_1 a1_0).f2).length c375_2)) (fun _ hk => trivial)⟩, ⟨by (with_reducible repeat (first | refine av ?_ _ | refine aC ?_ | refine au ?_ _)); refine aW ?_ NB356_376.out _; (with_reducible repeat (first | refine av ?_ _ | refine aC ?_ | refine au ?_ _)); refine aW ?_ NB356_376.out _; (with_reducible repeat (first | refine av ?_ _ | refine aC ?_ | refine au ?_ _)); refine aW ?_ NB356_376.out _; (with_reducible repeat (first | refine av ?_ _ | refine aC ?_ | refine au ?_ _)); exact BK356.out⟩, ⟨by (with_reducible repeat (first | refine av ?_ _ | refine aC ?_ | refine au ?_ _)); refine aW ?_ NB357_376.out _; (with_reducible repeat (first | refine av ?_ _ | refine aC ?_ | refine au ?_ _)); refine aW ?_ NB357_376.out _; (with_reducible repeat (first | refine av ?_ _ | refine aC ?_ | refine au ?_ _)); refine aW ?_ NB357_376.out _; (with_reducible repeat (first | refine av ?_ _ | refine aC ?_ | refine au ?_ _)); exact BK357.out⟩, ⟨by (with_reducible repeat (first | refine av ?_ _ | refine aC ?_ | refine au ?_ _)); refine aW ?_ NB358_376.out _; (with_reducible repeat (first | refine av ?_ _ | refine aC ?_ | refine au ?_ _)); refine aW ?_ NB358_376.out _; (with_reducible repeat (first | refine av ?_ _ | refine aC ?_ | refine au ?_ _)); refine aW ?_ NB358_376.out _; (with_reducible repeat (first | refine av ?_ _ | refine aC ?_ | refine au ?_ _)); exact BK358.out⟩, ⟨by (with_reducible repeat (first | refine av ?_ _ | refine aC ?_ | refine au ?_ _)); refine aW ?_ NB374_376.out _; (with_reducible repeat (first | refine av ?_ _ | refine aC ?_ | refine au ?_ _)); refine aW ?_ NB374_376.out _; (with_reducible repeat (first | refine av ?_ _ | refine aC ?_ | refine au ?_ _)); refine aW ?_ NB374_376.out _; (with_reducible repeat (first | refine av ?_ _ | refine aC ?_ | refine au ?_ _)); exact BK374.out⟩, ⟨by (with_reducible repeat (first | refine av ?_ _ | refine aC ?_ | refine au ?_ _)); refine bL (cs := #[.int .i64 ((rd_T42 l0_1 a1_0).f0), .int .i64 ((rd_T42 l0_1 a1_0).f1), .slice none 0 0]) ?_ 2 _ rfl; (with_reducible repeat (first | refine av ?_ _ | refine aC ?_ | refine au ?_ _)); refine bL (cs := #[.int .i64 ((rd_T42 l0_1 a1_0).f0), .int .i64 0, .slice none 0 0]) ?_ 1 _ rfl; (with_reducible repeat (first | refine av ?_ _ | refine aC ?_ | refine au ?_ _)); refine bL (cs := #[.int .i64 0, .int .i64 0, .slice none 0 0]) ?_ 0 _ rfl; (with_reducible repeat (first | refine av ?_ _ | refine aC ?_ | refine au ?_ _)); exact BK376.out⟩, ⟨by repeat (first | (with_reducible first | exact HB.out | apply ak | apply ah | apply aj | refine aA ?_ GE356.out | refine aA ?_ GE357.out | refine aA ?_ GE358.out | refine aA ?_ GE374.out | refine aA ?_ GE376.out) | exact HB.out)⟩⟩
    case rest =>
     clear HC16
     try clear c1
     try clear p2
     try clear c3
     try clear p3
     try clear q3
     try clear hx3
     try clear c4
     try clear c5
     try clear c6
     try clear p6
     try clear c7
     try clear c35
     try clear c36
     try clear c37
     try clear p37
     try clear q37
     try clear hx37
     try clear c39
     try clear c40
     try clear c43
     try clear c44
     try clear c45
     try clear c46
     try clear c49
     try clear c49b0
     try clear c49b1
     try clear c53
     try clear c53b0
     try clear c53b1
     try clear c54
     try clear c55
     try clear c56
     try clear c57
     try clear c59
     try clear c60
     try clear c61
     try clear p64
     try clear hcz38_0
     try clear hcz38_1
     try clear hcz41_0
     try clear hcz41_1
     try clear hcz41_2
     try clear hcz41_3
     try clear hcz47_0
     try clear hcz47_1
     try clear hcz47_2
     try clear hcz48_0
     try clear hcz48_1
     try clear hcz48_2
     try clear hcz48_3
     try clear hcz58_0
     try clear hcz58_1
     try clear hcz58_2
     try clear hcz62_0
     try clear hcz62_1
     try clear hcz62_2
     try clear hcz65_0
     try clear hcz65_1
     try clear hcz65_2
     try clear hfz38_0
     try clear hfz38_1
     try clear hfz41_0
     try clear hfz41_1
     try clear hfz41_2
     try clear hfz41_3
     try clear hfz47_0
     try clear hfz47_1
     try clear hfz47_2
     try clear hfz48_0
     try clear hfz48_1
     try clear hfz48_2
     try clear hfz48_3
     try clear hfz58_0
     try clear hfz58_1
     try clear hfz58_2
     try clear hfz62_0
     try clear hfz62_1
     try clear hfz62_2
     try clear hfz65_0
     try clear hfz65_1
     try clear hfz65_2
     try clear hx375_0
     try clear hx375_1
     try clear hx375_2
     try clear p375
     try clear q375
     obtain ⟨kq, x359000_15, x375001_15, x375002_15, u375002, HA, HJ15, HO_375002, BK356, BK357, BK358, BK374, BK376, HB⟩ := hcut
     cases kq with
     | zero => exact absurd HA.out (by simp [code_Receive.j0])
     | succ kj15 =>
      have H := HA.out
      clear HA
      simp only [code_Receive.j0] at H
      have H' := dH H
      clear H
      have hnb69 := NB356_357.out
      have hnc69 := NB357_356.out
      have hnb70 := NB356_358.out
      have hnc70 := NB358_356.out
      have hnb71 := NB356_374.out
      have hnc71 := NB374_356.out
      have hnb72 := NB356_376.out
      have hnc72 := NB376_356.out
      have hcz73_0 : wc.cell? ⟨gb356, 0, none⟩ = some (.int .i64 a0_0) := (ay BK356.out 0).trans rfl
      have hcz73_1 : wc.cell? ⟨gb356, 1, none⟩ = some (.slice (some ad375) l0_1.length c0_1) := (ay BK356.out 1).trans rfl
      have hfz73_0 := aD BK356.out 0
      have hfz73_1 := aD BK356.out 1
      go_wp2_with (first | ((with_reducible refine bg (N := 9) rfl ?_); refine bI ?hg (N := 9) ?hd (cs := #[.int .i64 0, .slice none 0 0]) (t := 28) ?hr ?_; (case hd => rfl); (case hg => rfl); (case hr => first | (go_simp; done) | (go_simp; rfl)); intro gb386 hg w74 hbox hb; have n0_ := dH (Kd.cu (by (with_reducible repeat (first | apply Kd.aI | apply Kd.aJ | apply Kd.aN)); exact HO_375002.out) hb); have n1_ := dH (aQ (g := gb356) (o := .cells #[.int .i64 a0_0, .slice (some ad375) l0_1.length c0_1] 28 (0, 0)) (by (with_reducible repeat (first | refine av ?_ _ | refine aC ?_ | refine au ?_ _)); exact BK356.out) hb); have n2_ := dH (aQ (g := gb357) (o := .cells #[.int .i64 a1_0, .int .i64 a1_1, .int .i64 a1_2, .slice A1_3 l1_3.length c1_3] 36 (0, 0)) (by (with_reducible repeat (first | refine av ?_ _ | refine aC ?_ | refine au ?_ _)); exact BK357.out) hb); have n3_ := dH (aQ (g := gb358) (o := .cells #[.int .i64 x359000_15, .slice none 0 0] 28 (0, 0)) (by (with_reducible repeat (first | refine av ?_ _ | refine aC ?_ | refine au ?_ _)); exact BK358.out) hb); have n4_ := dH (aQ (g := gb374) (o := .cells #[.int .i64 a1_1, .int .i64 x375001_15, u375002] 42 (0, 0)) (by (with_reducible repeat (first | refine av ?_ _ | refine aC ?_ | refine au ?_ _)); exact BK374.out) hb); have n5_ := dH (aQ (g := gb376) (o := .cells #[.int .i64 ((rd_T42 l0_1 a1_0).f0), .int .i64 ((rd_T42 l0_1 a1_0).f1), .slice A375_2 ((rd_T42 l0_1 a1_0).f2).length c375_2] 42 (0, 0)) (by (with_reducible repeat (first | refine av ?_ _ | refine aC ?_ | refine au ?_ _)); exact BK376.out) hb); have n6_ := dH (aM (by repeat (first | (with_reducible first | exact HB.out | apply ak | apply ah | apply aj | refine aA ?_ GE356.out | refine aA ?_ GE357.out | refine aA ?_ GE358.out | refine aA ?_ GE374.out | refine aA ?_ GE376.out) | exact HB.out)) hb); have n7_ := dH (hbox); have n8_ := dH ((by rw [hg]; exact (aK (by repeat (first | (with_reducible first | exact HB.out | apply ak | apply ah | apply aj | refine aA ?_ GE356.out | refine aA ?_ GE357.out | refine aA ?_ GE358.out | refine aA ?_ GE374.out | refine aA ?_ GE376.out) | exact HB.out))) : w.heap.size ≤ gb386)); have n9_ := dH ((by rw [hg]; exact (aK (by repeat (first | (with_reducible first | exact HB.out | apply ak | apply ah | apply aj | refine aA ?_ GE356.out | refine aA ?_ GE357.out | refine aA ?_ GE358.out | refine aA ?_ GE374.out | refine aA ?_ GE376.out) | exact HB.out))) : w.heap.size ≤ gb386)); have n10_ := dH ((by rw [hg]; exact Nat.ne_of_lt (bn (g := gb356) (o := .cells #[.int .i64 a0_0, .slice (some ad375) l0_1.length c0_1] 28 (0, 0)) (by (with_reducible repeat (first | refine av ?_ _ | refine aC ?_ | refine au ?_ _)); exact BK356.out)) : gb356 ≠ gb386)); have n11_ := dH ((by rw [hg]; exact Nat.ne_of_gt (bn (g := gb356) (o := .cells #[.int .i64 a0_0, .slice (some ad375) l0_1.length c0_1] 28 (0, 0)) (by (with_reducible repeat (first | refine av ?_ _ | refine aC ?_ | refine au ?_ _)); exact BK356.out)) : gb386 ≠ gb356)); have n12_ := dH ((by rw [hg]; exact Nat.ne_of_lt (bn (g := gb357) (o := .cells #[.int .i64 a1_0, .int .i64 a1_1, .int .i64 a1_2, .slice A1_3 l1_3.length c1_3] 36 (0, 0)) (by (with_reducible repeat (first | refine av ?_ _ | refine aC ?_ | refine au ?_ _)); exact BK357.out)) : gb357 ≠ gb386)); have n13_ := dH ((by rw [hg]; exact Nat.ne_of_gt (bn (g := gb357) (o := .cells #[.int .i64 a1_0, .int .i64 a1_1, .int .i64 a1_2, .slice A1_3 l1_3.length c1_3] 36 (0, 0)) (by (with_reducible repeat (first | refine av ?_ _ | refine aC ?_ | refine au ?_ _)); exact BK357.out)) : gb386 ≠ gb357)); have n14_ := dH ((by rw [hg]; exact Nat.ne_of_lt (bn (g := gb358) (o := .cells #[.int .i64 x359000_15, .slice none 0 0] 28 (0, 0)) (by (with_reducible repeat (first | refine av ?_ _ | refine aC ?_ | refine au ?_ _)); exact BK358.out)) : gb358 ≠ gb386)); have n15_ := dH ((by rw [hg]; exact Nat.ne_of_gt (bn (g := gb358) (o := .cells #[.int .i64 x359000_15, .slice none 0 0] 28 (0, 0)) (by (with_reducible repeat (first | refine av ?_ _ | refine aC ?_ | refine au ?_ _)); exact BK358.out)) : gb386 ≠ gb358)); have n16_ := dH ((by rw [hg]; exact Nat.ne_of_lt (bn (g := gb374) (o := .cells #[.int .i64 a1_1, .int .i64 x375001_15, u375002] 42 (0, 0)) (by (with_reducible repeat (first | refine av ?_ _ | refine aC ?_ | refine au ?_ _)); exact BK374.out)) : gb374 ≠ gb386)); have n17_ := dH ((by rw [hg]; exact Nat.ne_of_gt (bn (g := gb374) (o := .cells #[.int .i64 a1_1, .int .i64 x375001_15, u375002] 42 (0, 0)) (by (with_reducible repeat (first | refine av ?_ _ | refine aC ?_ | refine au ?_ _)); exact BK374.out)) : gb386 ≠ gb374)); have n18_ := dH ((by rw [hg]; exact Nat.ne_of_lt (bn (g := gb376) (o := .cells #[.int .i64 ((rd_T42 l0_1 a1_0).f0), .int .i64 ((rd_T42 l0_1 a1_0).f1), .slice A375_2 ((rd_T42 l0_1 a1_0).f2).length c375_2] 42 (0, 0)) (by (with_reducible repeat (first | refine av ?_ _ | refine aC ?_ | refine au ?_ _)); exact BK376.out)) : gb376 ≠ gb386)); have n19_ := dH ((by rw [hg]; exact Nat.ne_of_gt (bn (g := gb376) (o := .cells #[.int .i64 ((rd_T42 l0_1 a1_0).f0), .int .i64 ((rd_T42 l0_1 a1_0).f1), .slice A375_2 ((rd_T42 l0_1 a1_0).f2).length c375_2] 42 (0, 0)) (by (with_reducible repeat (first | refine av ?_ _ | refine aC ?_ | refine au ?_ _)); exact BK376.out)) : gb386 ≠ gb376)); clear HO_375002; clear BK356; clear BK357; clear BK358; clear BK374; clear BK376; clear HB; have HO_375002 := n0_; have BK356 := n1_; have BK357 := n2_; have BK358 := n3_; have BK374 := n4_; have BK376 := n5_; have HB := n6_; have BK386 := n7_; have GW386 := n8_; have GE386 := n9_; have NB356_386 := n10_; have NB386_356 := n11_; have NB357_386 := n12_; have NB386_357 := n13_; have NB358_386 := n14_; have NB386_358 := n15_; have NB374_386 := n16_; have NB386_374 := n17_; have NB376_386 := n18_; have NB386_376 := n19_; clear n0_ n1_ n2_ n3_ n4_ n5_ n6_ n7_ n8_ n9_ n10_ n11_ n12_ n13_ n14_ n15_ n16_ n17_ n18_ n19_; clear hb hbox hg; have hnb75 := NB386_356.out; have hnc75 := NB356_386.out; have hnb76 := NB386_357.out; have hnc76 := NB357_386.out; have hnb77 := NB386_358.out; have hnc77 := NB358_386.out; have hnb78 := NB386_374.out; have hnc78 := NB374_386.out; have hnb79 := NB386_376.out; have hnc79 := NB376_386.out; have hcz80_0 : w74.cell? ⟨gb386, 0, none⟩ = some (.int .i64 0) := (ay BK386.out 0).trans rfl; have hcz80_1 : w74.cell? ⟨gb386, 1, none⟩ = some (.slice none 0 0) := (ay BK386.out 1).trans rfl; have hfz80_0 := aD BK386.out 0; have hfz80_1 := aD BK386.out 1; have hcz81_0 : w74.cell? ⟨gb356, 0, none⟩ = some (.int .i64 a0_0) := (ay BK356.out 0).trans rfl; have hcz81_1 : w74.cell? ⟨gb356, 1, none⟩ = some (.slice (some ad375) l0_1.length c0_1) := (ay BK356.out 1).trans rfl; have hfz81_0 := aD BK356.out 0; have hfz81_1 := aD BK356.out 1))
      go_loopg [90] kj15 (fun kq v90 w' => ∃ (x90_2 : Int) (x387001_2 : List (S42)) (u387001 : Value), v90 = .int .i64 x90_2 ∧ Aside0 (code_Receive.l0 kq l0_1 (l0_1.length : Int) x90_2 a1_0 a1_1 a1_2 l1_3 a1_1 x375001_15 x375002_15 a0_0 x387001_2 = some (r1, r2, r3)) ∧ Aside0 (kq ≤ kj15) ∧ Aside0 (Kd.R (Kd.int .i64) 3 w' w.heap.size (fun _ => True) u375002 x375002_15) ∧ Aside0 (Kd.S k42 42 w' w.heap.size (fun k_ => some k_ ≠ (u375002 : Value).ownBlock ∧ k_ ≠ gb374 ∧ k_ ≠ gb376) u387001 x387001_2) ∧ Aside0 (w'.heap[gb356]? = some (.cells #[.int .i64 a0_0, (.slice (some ad375) l0_1.length c0_1)] 28 (0, 0))) ∧ Aside0 (w'.heap[gb357]? = some (.cells #[.int .i64 a1_0, .int .i64 a1_1, .int .i64 a1_2, (.slice A1_3 l1_3.length c1_3)] 36 (0, 0))) ∧ Aside0 (w'.heap[gb358]? = some (.cells #[.int .i64 x359000_15, (.slice none 0 0)] 28 (0, 0))) ∧ Aside0 (w'.heap[gb374]? = some (.cells #[.int .i64 a1_1, .int .i64 x375001_15, u375002] 42 (0, 0))) ∧ Aside0 (w'.heap[gb376]? = some (.cells #[.int .i64 ((rd_T42 l0_1 a1_0).f0), .int .i64 ((rd_T42 l0_1 a1_0).f1), (.slice A375_2 ((rd_T42 l0_1 a1_0).f2).length c375_2)] 42 (0, 0))) ∧ Aside0 (w'.heap[gb386]? = some (.cells #[.int .i64 a0_0, u387001] 28 (0, 0))) ∧ Aside0 (Below w.heap.size w w'))
      case atStart => exact ⟨(0), (([] : List (S42))), (.slice none 0 0), (by first | rfl | (simp; done) | (simp [*]; done)), H', ⟨Nat.le_refl _⟩, ⟨by (with_reducible repeat (first | apply Kd.aI | apply Kd.aJ | apply Kd.aN)); exact Kd.bM (Kd.bV (p := ⟨gb386, 1, none⟩) (Kd.bV (p := ⟨gb386, 0, none⟩) (Kd.bU HO_375002.out BK386.out (by decide)) (fun _ hk => hk.2) (.int .i64 a0_0)) (fun _ hk => hk.2) (.slice none 0 0)) (fun _ hk => trivial)⟩, ⟨by first | exact Kd.S_nil _ _ _ _ _ | exact Kd.N_nil _ _ _ _ _ | exact Kd.V_nil _ _ _ _ _ | exact Kd.Q_nil _ _ _ _ _ | exact Kd.R_nil _ _ _ _ _⟩, ⟨by (with_reducible repeat (first | refine av ?_ _ | refine aC ?_ | refine au ?_ _)); refine aW ?_ NB356_386.out _; (with_reducible repeat (first | refine av ?_ _ | refine aC ?_ | refine au ?_ _)); refine aW ?_ NB356_386.out _; (with_reducible repeat (first | refine av ?_ _ | refine aC ?_ | refine au ?_ _)); exact BK356.out⟩, ⟨by (with_reducible repeat (first | refine av ?_ _ | refine aC ?_ | refine au ?_ _)); refine aW ?_ NB357_386.out _; (with_reducible repeat (first | refine av ?_ _ | refine aC ?_ | refine au ?_ _)); refine aW ?_ NB357_386.out _; (with_reducible repeat (first | refine av ?_ _ | refine aC ?_ | refine au ?_ _)); exact BK357.out⟩, ⟨by (with_reducible repeat (first | refine av ?_ _ | refine aC ?_ | refine au ?_ _)); refine aW ?_ NB358_386.out _; (with_reducible repeat (first | refine av ?_ _ | refine aC ?_ | refine au ?_ _)); refine aW ?_ NB358_386.out _; (with_reducible repeat (first | refine av ?_ _ | refine aC ?_ | refine au ?_ _)); exact BK358.out⟩, ⟨by (with_reducible repeat (first | refine av ?_ _ | refine aC ?_ | refine au ?_ _)); refine aW ?_ NB374_386.out _; (with_reducible repeat (first | refine av ?_ _ | refine aC ?_ | refine au ?_ _)); refine aW ?_ NB374_386.out _; (with_reducible repeat (first | refine av ?_ _ | refine aC ?_ | refine au ?_ _)); exact BK374.out⟩, ⟨by (with_reducible repeat (first | refine av ?_ _ | refine aC ?_ | refine au ?_ _)); refine aW ?_ NB376_386.out _; (with_reducible repeat (first | refine av ?_ _ | refine aC ?_ | refine au ?_ _)); refine aW ?_ NB376_386.out _; (with_reducible repeat (first | refine av ?_ _ | refine aC ?_ | refine au ?_ _)); exact BK376.out⟩, ⟨by (with_reducible repeat (first | refine av ?_ _ | refine aC ?_ | refine au ?_ _)); refine bL (cs := #[.int .i64 a0_0, .slice none 0 0]) ?_ 1 _ rfl; (with_reducible repeat (first | refine av ?_ _ | refine aC ?_ | refine au ?_ _)); refine bL (cs := #[.int .i64 0, .slice none 0 0]) ?_ 0 _ rfl; (with_reducible repeat (first | refine av ?_ _ | refine aC ?_ | refine au ?_ _)); exact BK386.out⟩, ⟨by repeat (first | (with_reducible first | exact HB.out | apply ak | apply ah | apply aj | refine aA ?_ GE356.out | refine aA ?_ GE357.out | refine aA ?_ GE358.out | refine aA ?_ GE374.out | refine aA ?_ GE376.out | refine aA ?_ GE386.out) | exact HB.out)⟩⟩
      case round =>
       clear H'
       try clear c1
       try clear p2
       try clear c3
       try clear p3
       try clear q3
       try clear hx3
       try clear c4
       try clear c5
       try clear c6
       try clear p6
       try clear c7
       try clear c35
       try clear c36
       try clear c37
       try clear p37
       try clear q37
       try clear hx37
       try clear c39
       try clear c40
       try clear c43
       try clear c44
       try clear c45
       try clear c46
       try clear c49
       try clear c49b0
       try clear c49b1
       try clear c53
       try clear c53b0
       try clear c53b1
       try clear c54
       try clear c55
       try clear c56
       try clear c57
       try clear c59
       try clear c60
       try clear c61
       try clear p64
       try clear c69
       try clear c70
       try clear c71
       try clear c72
       try clear c74
       try clear c75
       try clear c76
       try clear c77
       try clear c78
       try clear c79
       try clear hcz38_0
       try clear hcz38_1
       try clear hcz41_0
       try clear hcz41_1
       try clear hcz41_2
       try clear hcz41_3
       try clear hcz47_0
       try clear hcz47_1
       try clear hcz47_2
       try clear hcz48_0
       try clear hcz48_1
       try clear hcz48_2
       try clear hcz48_3
       try clear hcz58_0
       try clear hcz58_1
       try clear hcz58_2
       try clear hcz62_0
       try clear hcz62_1
       try clear hcz62_2
       try clear hcz65_0
       try clear hcz65_1
       try clear hcz65_2
       try clear hcz73_0
       try clear hcz73_1
       try clear hcz80_0
       try clear hcz80_1
       try clear hcz81_0
       try clear hcz81_1
       try clear hfz38_0
       try clear hfz38_1
       try clear hfz41_0
       try clear hfz41_1
       try clear hfz41_2
       try clear hfz41_3
       try clear hfz47_0
       try clear hfz47_1
       try clear hfz47_2
       try clear hfz48_0
       try clear hfz48_1
       try clear hfz48_2
       try clear hfz48_3
       try clear hfz58_0
       try clear hfz58_1
       try clear hfz58_2
       try clear hfz62_0
       try clear hfz62_1
       try clear hfz62_2
       try clear hfz65_0
       try clear hfz65_1
       try clear hfz65_2
       try clear hfz73_0
       try clear hfz73_1
       try clear hfz80_0
       try clear hfz80_1
       try clear hfz81_0
       try clear hfz81_1
       try clear hx375_0
       try clear hx375_1
       try clear hx375_2
       try clear p2
       try clear p3
       try clear p37
       try clear p375
       try clear p6
       try clear p64
       try clear q3
       try clear q37
       try clear q375
       obtain ⟨x90_2, x387001_2, u387001, rfl, HA, HK2, HO_375002, HO_387001, BK356, BK357, BK358, BK374, BK376, BK386, HB⟩ := hrel
       cases gk with
       | zero => exact absurd HA.out (by simp [code_Receive.l0])
       | succ k2 =>
        have H := HA.out
        clear HA
        simp only [code_Receive.l0] at H
        by_cases c82 : x90_2 < (l0_1.length : Int)
        ·
         rw [if_pos c82] at H
         have c82b0 : decide (x90_2 < (l0_1.length : Int)) = true := decide_eq_true c82
         clear c82
         by_cases c83 : 0 ≤ x90_2
         ·
          rw [if_pos c83] at H
          have c83b0 : decide (0 ≤ x90_2) = true := decide_eq_true c83
          clear c83
          by_cases c84 : x90_2 < (l0_1.length : Int)
          ·
           rw [if_pos c84] at H
           have c84b0 : decide (x90_2 < (l0_1.length : Int)) = true := decide_eq_true c84
           clear c84
           by_cases c85 : x90_2 = a1_0
           ·
            rw [if_pos c85] at H
            have c85b0 : (x90_2 == a1_0) = true := beq_iff_eq.mpr c85
            have c85b1 : (x90_2 != a1_0) = false := bne_eq_false_iff_eq.mpr c85
            clear c85
            replace H := dF.mp H
            obtain ⟨t389, A860, H⟩ := H
            replace H : (if x387001_2.length < 3518437208883 then (code_Receive.l0 k2 l0_1 (l0_1.length : Int) (wrap64 (x90_2 + 1)) a1_0 a1_1 a1_2 l1_3 a1_1 x375001_15 x375002_15 a0_0 (x387001_2 ++ [(⟨a1_1, x375001_15, t389⟩ : S42)])) else (none)) = some (r1, r2, r3) := H
            have A86 := dH A860
            clear A860
            by_cases c87 : x387001_2.length < 3518437208883
            ·
             rw [if_pos c87] at H
             have LMc87 := dH c87
             clear c87
             obtain ⟨y392, hy392⟩ : ∃ y_ : List (S42), y_ = (x387001_2 ++ [(⟨a1_1, x375001_15, t389⟩ : S42)]) := ⟨_, rfl⟩
             replace H : (code_Receive.l0 k2 l0_1 (l0_1.length : Int) (wrap64 (x90_2 + 1)) a1_0 a1_1 a1_2 l1_3 a1_1 x375001_15 x375002_15 a0_0 y392) = some (r1, r2, r3) := by first | (rw [hy392]; with_reducible exact H) | (have H2_ := (Option.bind_some _ _).symm.trans H; rw [hy392]; with_reducible exact H2_) | (have H2_ := (Option.bind_some _ _).symm.trans H; with_reducible exact H2_) | with_reducible exact H | (rw [hy392]; exact H) | exact H
             have Ny392 := dH hy392
             clear hy392
             have H' := dH H
             clear H
             have p387 : 0 ≤ (x90_2 : Int) := dD (by first | (with_reducible assumption) | assumption)
             have q387 : x90_2 < (l0_1.length : Int) := dD (by first | (with_reducible assumption) | assumption)
             obtain ⟨ad387, A387_2, c387_2, e387, hx387_0, hx387_1, hx387_2, hl387_2, hi387_2⟩ := at_T42 HR0_1.out x90_2 p387 q387
             obtain rfl : ad375 = ad387 := (by injection e387)
             replace hx387_0 := (HB.out.cell (dB w _ hx387_0)).trans hx387_0
             replace hx387_1 := (HB.out.cell (dB w _ hx387_1)).trans hx387_1
             replace hx387_2 := (HB.out.cell (dB w _ hx387_2)).trans hx387_2
             have HR387_2 := dH hi387_2
             have HC387_2 := dH hl387_2
             clear hi387_2 hl387_2
             replace p387 := eq_true p387
             replace q387 := eq_true q387
             go_wp2_with (first | ((with_reducible refine bg (N := 11) rfl ?_); refine bI ?hg (N := 11) ?hd (cs := #[.int .i64 0, .int .i64 0, .slice none 0 0]) (t := 42) ?hr ?_; (case hd => rfl); (case hg => rfl); (case hr => first | (go_simp; done) | (go_simp; rfl)); intro gb388 hg w88 hbox hb; have n0_ := dH (Kd.cu (by (with_reducible repeat (first | apply Kd.aI | apply Kd.aJ | apply Kd.aN)); exact HO_375002.out) hb); have n1_ := dH (Kd.S_below (Kd.S_elderB (by (with_reducible repeat (first | apply Kd.S_alloc | apply Kd.S_drewN | apply Kd.S_drew)); exact HO_387001.out) gb388 (Nat.le_of_eq hg.symm)) hb); have n2_ := dH (aQ (g := gb356) (o := .cells #[.int .i64 a0_0, .slice (some ad375) l0_1.length c0_1] 28 (0, 0)) (by (with_reducible repeat (first | refine av ?_ _ | refine aC ?_ | refine au ?_ _)); exact BK356.out) hb); have n3_ := dH (aQ (g := gb357) (o := .cells #[.int .i64 a1_0, .int .i64 a1_1, .int .i64 a1_2, .slice A1_3 l1_3.length c1_3] 36 (0, 0)) (by (with_reducible repeat (first | refine av ?_ _ | refine aC ?_ | refine au ?_ _)); exact BK357.out) hb); have n4_ := dH (aQ (g := gb358) (o := .cells #[.int .i64 x359000_15, .slice none 0 0] 28 (0, 0)) (by (with_reducible repeat (first | refine av ?_ _ | refine aC ?_ | refine au ?_ _)); exact BK358.out) hb); have n5_ := dH (aQ (g := gb374) (o := .cells #[.int .i64 a1_1, .int .i64 x375001_15, u375002] 42 (0, 0)) (by (with_reducible repeat (first | refine av ?_ _ | refine aC ?_ | refine au ?_ _)); exact BK374.out) hb); have n6_ := dH (aQ (g := gb376) (o := .cells #[.int .i64 ((rd_T42 l0_1 a1_0).f0), .int .i64 ((rd_T42 l0_1 a1_0).f1), .slice A375_2 ((rd_T42 l0_1 a1_0).f2).length c375_2] 42 (0, 0)) (by (with_reducible repeat (first | refine av ?_ _ | refine aC ?_ | refine au ?_ _)); exact BK376.out) hb); have n7_ := dH (aQ (g := gb386) (o := .cells #[.int .i64 a0_0, u387001] 28 (0, 0)) (by (with_reducible repeat (first | refine av ?_ _ | refine aC ?_ | refine au ?_ _)); exact BK386.out) hb); have n8_ := dH (aM (by repeat (first | (with_reducible first | exact HB.out | apply ak | apply ah | apply aj | refine aA ?_ GE356.out | refine aA ?_ GE357.out | refine aA ?_ GE358.out | refine aA ?_ GE374.out | refine aA ?_ GE376.out | refine aA ?_ GE386.out) | exact HB.out)) hb); have n9_ := dH (hbox); have n10_ := dH ((by rw [hg]; exact (aK (by repeat (first | (with_reducible first | exact HB.out | apply ak | apply ah | apply aj | refine aA ?_ GE356.out | refine aA ?_ GE357.out | refine aA ?_ GE358.out | refine aA ?_ GE374.out | refine aA ?_ GE376.out | refine aA ?_ GE386.out) | exact HB.out))) : w.heap.size ≤ gb388)); have n11_ := dH ((by rw [hg]; exact (aK (by repeat (first | (with_reducible first | exact HB.out | apply ak | apply ah | apply aj | refine aA ?_ GE356.out | refine aA ?_ GE357.out | refine aA ?_ GE358.out | refine aA ?_ GE374.out | refine aA ?_ GE376.out | refine aA ?_ GE386.out) | exact HB.out))) : w.heap.size ≤ gb388)); have n12_ := dH ((by rw [hg]; exact Nat.ne_of_lt (bn (g := gb356) (o := .cells #[.int .i64 a0_0, .slice (some ad375) l0_1.length c0_1] 28 (0, 0)) (by (with_reducible repeat (first | refine av ?_ _ | refine aC ?_ | refine au ?_ _)); exact BK356.out)) : gb356 ≠ gb388)); have n13_ := dH ((by rw [hg]; exact Nat.ne_of_gt (bn (g := gb356) (o := .cells #[.int .i64 a0_0, .slice (some ad375) l0_1.length c0_1] 28 (0, 0)) (by (with_reducible repeat (first | refine av ?_ _ | refine aC ?_ | refine au ?_ _)); exact BK356.out)) : gb388 ≠ gb356)); have n14_ := dH ((by rw [hg]; exact Nat.ne_of_lt (bn (g := gb357) (o := .cells #[.int .i64 a1_0, .int .i64 a1_1, .int .i64 a1_2, .slice A1_3 l1_3.length c1_3] 36 (0, 0)) (by (with_reducible repeat (first | refine av ?_ _ | refine aC ?_ | refine au ?_ _)); exact BK357.out)) : gb357 ≠ gb388)); have n15_ := dH ((by rw [hg]; exact Nat.ne_of_gt (bn (g := gb357) (o := .cells #[.int .i64 a1_0, .int .i64 a1_1, .int .i64 a1_2, .slice A1_3 l1_3.length c1_3] 36 (0, 0)) (by (with_reducible repeat (first | refine av ?_ _ | refine aC ?_ | refine au ?_ _)); exact BK357.out)) : gb388 ≠ gb357)); have n16_ := dH ((by rw [hg]; exact Nat.ne_of_lt (bn (g := gb358) (o := .cells #[.int .i64 x359000_15, .slice none 0 0] 28 (0, 0)) (by (with_reducible repeat (first | refine av ?_ _ | refine aC ?_ | refine au ?_ _)); exact BK358.out)) : gb358 ≠ gb388)); have n17_ := dH ((by rw [hg]; exact Nat.ne_of_gt (bn (g := gb358) (o := .cells #[.int .i64 x359000_15, .slice none 0 0] 28 (0, 0)) (by (with_reducible repeat (first | refine av ?_ _ | refine aC ?_ | refine au ?_ _)); exact BK358.out)) : gb388 ≠ gb358)); have n18_ := dH ((by rw [hg]; exact Nat.ne_of_lt (bn (g := gb374) (o := .cells #[.int .i64 a1_1, .int .i64 x375001_15, u375002] 42 (0, 0)) (by (with_reducible repeat (first | refine av ?_ _ | refine aC ?_ | refine au ?_ _)); exact BK374.out)) : gb374 ≠ gb388)); have n19_ := dH ((by rw [hg]; exact Nat.ne_of_gt (bn (g := gb374) (o := .cells #[.int .i64 a1_1, .int .i64 x375001_15, u375002] 42 (0, 0)) (by (with_reducible repeat (first | refine av ?_ _ | refine aC ?_ | refine au ?_ _)); exact BK374.out)) : gb388 ≠ gb374)); have n20_ := dH ((by rw [hg]; exact Nat.ne_of_lt (bn (g := gb376) (o := .cells #[.int .i64 ((rd_T42 l0_1 a1_0).f0), .int .i64 ((rd_T42 l0_1 a1_0).f1), .slice A375_2 ((rd_T42 l0_1 a1_0).f2).length c375_2] 42 (0, 0)) (by (with_reducible repeat (first | refine av ?_ _ | refine aC ?_ | refine au ?_ _)); exact BK376.out)) : gb376 ≠ gb388)); have n21_ := dH ((by rw [hg]; exact Nat.ne_of_gt (bn (g := gb376) (o := .cells #[.int .i64 ((rd_T42 l0_1 a1_0).f0), .int .i64 ((rd_T42 l0_1 a1_0).f1), .slice A375_2 ((rd_T42 l0_1 a1_0).f2).length c375_2] 42 (0, 0)) (by (with_reducible repeat (first | refine av ?_ _ | refine aC ?_ | refine au ?_ _)); exact BK376.out)) : gb388 ≠ gb376)); have n22_ := dH ((by rw [hg]; exact Nat.ne_of_lt (bn (g := gb386) (o := .cells #[.int .i64 a0_0, u387001] 28 (0, 0)) (by (with_reducible repeat (first | refine av ?_ _ | refine aC ?_ | refine au ?_ _)); exact BK386.out)) : gb386 ≠ gb388)); have n23_ := dH ((by rw [hg]; exact Nat.ne_of_gt (bn (g := gb386) (o := .cells #[.int .i64 a0_0, u387001] 28 (0, 0)) (by (with_reducible repeat (first | refine av ?_ _ | refine aC ?_ | refine au ?_ _)); exact BK386.out)) : gb388 ≠ gb386)); clear HO_375002; clear HO_387001; clear BK356; clear BK357; clear BK358; clear BK374; clear BK376; clear BK386; clear HB; have HO_375002 := n0_; have HO_387001 := n1_; have BK356 := n2_; have BK357 := n3_; have BK358 := n4_; have BK374 := n5_; have BK376 := n6_; have BK386 := n7_; have HB := n8_; have BK388 := n9_; have GW388 := n10_; have GE388 := n11_; have NB356_388 := n12_; have NB388_356 := n13_; have NB357_388 := n14_; have NB388_357 := n15_; have NB358_388 := n16_; have NB388_358 := n17_; have NB374_388 := n18_; have NB388_374 := n19_; have NB376_388 := n20_; have NB388_376 := n21_; have NB386_388 := n22_; have NB388_386 := n23_; clear n0_ n1_ n2_ n3_ n4_ n5_ n6_ n7_ n8_ n9_ n10_ n11_ n12_ n13_ n14_ n15_ n16_ n17_ n18_ n19_ n20_ n21_ n22_ n23_; clear hb hbox hg; have hnb89 := NB388_356.out; have hnc89 := NB356_388.out; have hnb90 := NB388_357.out; have hnc90 := NB357_388.out; have hnb91 := NB388_358.out; have hnc91 := NB358_388.out; have hnb92 := NB388_374.out; have hnc92 := NB374_388.out; have hnb93 := NB388_376.out; have hnc93 := NB376_388.out; have hnb94 := NB388_386.out; have hnc94 := NB386_388.out; have hcz95_0 : w88.cell? ⟨gb388, 0, none⟩ = some (.int .i64 0) := (ay BK388.out 0).trans rfl; have hcz95_1 : w88.cell? ⟨gb388, 1, none⟩ = some (.int .i64 0) := (ay BK388.out 1).trans rfl; have hcz95_2 : w88.cell? ⟨gb388, 2, none⟩ = some (.slice none 0 0) := (ay BK388.out 2).trans rfl; have hfz95_0 := aD BK388.out 0; have hfz95_1 := aD BK388.out 1; have hfz95_2 := aD BK388.out 2; have hnb96 := NB357_356.out; have hnc96 := NB356_357.out; have hnb97 := NB357_358.out; have hnc97 := NB358_357.out; have hnb98 := NB357_374.out; have hnc98 := NB374_357.out; have hnb99 := NB357_376.out; have hnc99 := NB376_357.out; have hnb100 := NB357_386.out; have hnc100 := NB386_357.out; have hcz101_0 : w88.cell? ⟨gb357, 0, none⟩ = some (.int .i64 a1_0) := (ay BK357.out 0).trans rfl; have hcz101_1 : w88.cell? ⟨gb357, 1, none⟩ = some (.int .i64 a1_1) := (ay BK357.out 1).trans rfl; have hcz101_2 : w88.cell? ⟨gb357, 2, none⟩ = some (.int .i64 a1_2) := (ay BK357.out 2).trans rfl; have hcz101_3 : w88.cell? ⟨gb357, 3, none⟩ = some (.slice A1_3 l1_3.length c1_3) := (ay BK357.out 3).trans rfl; have hfz101_0 := aD BK357.out 0; have hfz101_1 := aD BK357.out 1; have hfz101_2 := aD BK357.out 2; have hfz101_3 := aD BK357.out 3; have hnb102 := NB374_356.out; have hnc102 := NB356_374.out; have hnb103 := NB374_358.out; have hnc103 := NB358_374.out; have hnb104 := NB374_376.out; have hnc104 := NB376_374.out; have hnb105 := NB374_386.out; have hnc105 := NB386_374.out; have hcz106_0 : w88.cell? ⟨gb374, 0, none⟩ = some (.int .i64 a1_1) := (ay BK374.out 0).trans rfl; have hcz106_1 : w88.cell? ⟨gb374, 1, none⟩ = some (.int .i64 x375001_15) := (ay BK374.out 1).trans rfl; have hcz106_2 : w88.cell? ⟨gb374, 2, none⟩ = some (u375002) := (ay BK374.out 2).trans rfl; have hfz106_0 := aD BK374.out 0; have hfz106_1 := aD BK374.out 1; have hfz106_2 := aD BK374.out 2; obtain ⟨Ao107, co107, eo107⟩ := Kd.bN HO_375002.out; subst eo107) | ((with_reducible refine aT (f := 80) rfl ?_); refine bq (some 102) rfl rfl Try.func80 (by kernel_rfl) rfl #[.slice Ao107 x375002_15.length co107] rfl (by (try simp only [dh, dn, dw]); first | done | rfl | (simp only [dx, dz]; rfl) | (simp only [gt_iff_lt, dA]; rfl) | (simp [Act.eval]; done) | (simp [Act.eval, *]; done)) ?_; (with_reducible refine (slices_Clone_int_int.calls _ _ x375002_15 t389 _ ?side1 ?side2 A86.out).mono ?_); (case side1 => refine (Kd.aZ (e := 3) (base := w.heap.size) (ok := fun k_ => True) (n := x375002_15.length) (c := co107) ?_).2.2; exact (by (with_reducible repeat (first | apply Kd.aI | apply Kd.aJ | apply Kd.aN)); exact (Kd.bM (Kd.bV (p := ⟨gb388, 2, none⟩) (Kd.bV (p := ⟨gb388, 1, none⟩) (Kd.bV (p := ⟨gb388, 0, none⟩) (Kd.bV (p := ⟨gb388, 2, none⟩) (Kd.bV (p := ⟨gb388, 1, none⟩) (Kd.bV (p := ⟨gb388, 0, none⟩) (Kd.bU HO_375002.out BK388.out (by decide)) (fun _ hk => hk.2) (.int .i64 ((rd_T42 l0_1 x90_2).f0))) (fun _ hk => hk.2) (.int .i64 ((rd_T42 l0_1 x90_2).f1))) (fun _ hk => hk.2) (.slice A387_2 ((rd_T42 l0_1 x90_2).f2).length c387_2)) (fun _ hk => hk.2) (.int .i64 a1_1)) (fun _ hk => hk.2) (.int .i64 x375001_15)) (fun _ hk => hk.2) (.slice Ao107 x375002_15.length co107)) (fun _ h_ => h_.1)))); (case side2 => exact (Kd.aZ HO_375002.out).2.1); rintro e w108 ⟨v390, rfl, ho0, hb⟩; refine ⟨_, rfl, ?_⟩; have n0_ := dH (Kd.bf (by (with_reducible repeat (first | apply Kd.aI | apply Kd.aJ | apply Kd.aN)); exact (Kd.bM (Kd.bV (p := ⟨gb388, 2, none⟩) (Kd.bV (p := ⟨gb388, 1, none⟩) (Kd.bV (p := ⟨gb388, 0, none⟩) (Kd.bV (p := ⟨gb388, 2, none⟩) (Kd.bV (p := ⟨gb388, 1, none⟩) (Kd.bV (p := ⟨gb388, 0, none⟩) (Kd.bU HO_375002.out BK388.out (by decide)) (fun _ hk => hk.2) (.int .i64 ((rd_T42 l0_1 x90_2).f0))) (fun _ hk => hk.2) (.int .i64 ((rd_T42 l0_1 x90_2).f1))) (fun _ hk => hk.2) (.slice A387_2 ((rd_T42 l0_1 x90_2).f2).length c387_2)) (fun _ hk => hk.2) (.int .i64 a1_1)) (fun _ hk => hk.2) (.int .i64 x375001_15)) (fun _ hk => hk.2) (.slice Ao107 x375002_15.length co107)) (fun _ h_ => h_.1))) (Kd.bE ho0) hb); have n1_ := dH (Kd.S_elder' (by (with_reducible repeat (first | apply Kd.S_alloc | apply Kd.S_drewN | apply Kd.S_drew)); exact (Kd.S_mono (Kd.S_far (p := ⟨gb388, 2, none⟩) (Kd.S_far (p := ⟨gb388, 1, none⟩) (Kd.S_far (p := ⟨gb388, 0, none⟩) (Kd.S_far (p := ⟨gb388, 2, none⟩) (Kd.S_far (p := ⟨gb388, 1, none⟩) (Kd.S_far (p := ⟨gb388, 0, none⟩) (Kd.S_mono HO_387001.out (fun k_ hk => (⟨hk, hk.2⟩ : _ ∧ k_ ≠ gb388))) (fun _ hk => hk.2) (.int .i64 ((rd_T42 l0_1 x90_2).f0))) (fun _ hk => hk.2) (.int .i64 ((rd_T42 l0_1 x90_2).f1))) (fun _ hk => hk.2) (.slice A387_2 ((rd_T42 l0_1 x90_2).f2).length c387_2)) (fun _ hk => hk.2) (.int .i64 a1_1)) (fun _ hk => hk.2) (.int .i64 x375001_15)) (fun _ hk => hk.2) (.slice Ao107 x375002_15.length co107)) (fun _ h_ => h_.1))) (Kd.bE ho0) hb); have n2_ := dH (Kd.bP (Kd.bH ho0 (Kd.bT (by (with_reducible repeat (first | apply Kd.aI | apply Kd.aJ | apply Kd.aN)); exact (Kd.bM (Kd.bV (p := ⟨gb388, 2, none⟩) (Kd.bV (p := ⟨gb388, 1, none⟩) (Kd.bV (p := ⟨gb388, 0, none⟩) (Kd.bV (p := ⟨gb388, 2, none⟩) (Kd.bV (p := ⟨gb388, 1, none⟩) (Kd.bV (p := ⟨gb388, 0, none⟩) (Kd.bU HO_375002.out BK388.out (by decide)) (fun _ hk => hk.2) (.int .i64 ((rd_T42 l0_1 x90_2).f0))) (fun _ hk => hk.2) (.int .i64 ((rd_T42 l0_1 x90_2).f1))) (fun _ hk => hk.2) (.slice A387_2 ((rd_T42 l0_1 x90_2).f2).length c387_2)) (fun _ hk => hk.2) (.int .i64 a1_1)) (fun _ hk => hk.2) (.int .i64 x375001_15)) (fun _ hk => hk.2) (.slice Ao107 x375002_15.length co107)) (fun _ h_ => h_.1))))) (aK (by repeat (first | (with_reducible first | exact HB.out | apply ak | apply ah | apply aj | refine aA ?_ GE356.out | refine aA ?_ GE357.out | refine aA ?_ GE358.out | refine aA ?_ GE374.out | refine aA ?_ GE376.out | refine aA ?_ GE386.out | refine aA ?_ GE388.out) | exact HB.out)))); have n3_ := dH (aQ (g := gb356) (o := .cells #[.int .i64 a0_0, .slice (some ad375) l0_1.length c0_1] 28 (0, 0)) (by (with_reducible repeat (first | refine av ?_ _ | refine aC ?_ | refine au ?_ _)); refine aW ?_ NB356_388.out _; (with_reducible repeat (first | refine av ?_ _ | refine aC ?_ | refine au ?_ _)); refine aW ?_ NB356_388.out _; (with_reducible repeat (first | refine av ?_ _ | refine aC ?_ | refine au ?_ _)); refine aW ?_ NB356_388.out _; (with_reducible repeat (first | refine av ?_ _ | refine aC ?_ | refine au ?_ _)); refine aW ?_ NB356_388.out _; (with_reducible repeat (first | refine av ?_ _ | refine aC ?_ | refine au ?_ _)); refine aW ?_ NB356_388.out _; (with_reducible repeat (first | refine av ?_ _ | refine aC ?_ | refine au ?_ _)); refine aW ?_ NB356_388.out _; (with_reducible repeat (first | refine av ?_ _ | refine aC ?_ | refine au ?_ _)); exact BK356.out) hb); have n4_ := dH (aQ (g := gb357) (o := .cells #[.int .i64 a1_0, .int .i64 a1_1, .int .i64 a1_2, .slice A1_3 l1_3.length c1_3] 36 (0, 0)) (by (with_reducible repeat (first | refine av ?_ _ | refine aC ?_ | refine au ?_ _)); refine aW ?_ NB357_388.out _; (with_reducible repeat (first | refine av ?_ _ | refine aC ?_ | refine au ?_ _)); refine aW ?_ NB357_388.out _; (with_reducible repeat (first | refine av ?_ _ | refine aC ?_ | refine au ?_ _)); refine aW ?_ NB357_388.out _; (with_reducible repeat (first | refine av ?_ _ | refine aC ?_ | refine au ?_ _)); refine aW ?_ NB357_388.out _; (with_reducible repeat (first | refine av ?_ _ | refine aC ?_ | refine au ?_ _)); refine aW ?_ NB357_388.out _; (with_reducible repeat (first | refine av ?_ _ | refine aC ?_ | refine au ?_ _)); refine aW ?_ NB357_388.out _; (with_reducible repeat (first | refine av ?_ _ | refine aC ?_ | refine au ?_ _)); exact BK357.out) hb); have n5_ := dH (aQ (g := gb358) (o := .cells #[.int .i64 x359000_15, .slice none 0 0] 28 (0, 0)) (by (with_reducible repeat (first | refine av ?_ _ | refine aC ?_ | refine au ?_ _)); refine aW ?_ NB358_388.out _; (with_reducible repeat (first | refine av ?_ _ | refine aC ?_ | refine au ?_ _)); refine aW ?_ NB358_388.out _; (with_reducible repeat (first | refine av ?_ _ | refine aC ?_ | refine au ?_ _)); refine aW ?_ NB358_388.out _; (with_reducible repeat (first | refine av ?_ _ | refine aC ?_ | refine au ?_ _)); refine aW ?_ NB358_388.out _; (with_reducible repeat (first | refine av ?_ _ | refine aC ?_ | refine au ?_ _)); refine aW ?_ NB358_388.out _; (with_reducible repeat (first | refine av ?_ _ | refine aC ?_ | refine au ?_ _)); refine aW ?_ NB358_388.out _; (with_reducible repeat (first | refine av ?_ _ | refine aC ?_ | refine au ?_ _)); exact BK358.out) hb); have n6_ := dH (aQ (g := gb374) (o := .cells #[.int .i64 a1_1, .int .i64 x375001_15, .slice Ao107 x375002_15.length co107] 42 (0, 0)) (by (with_reducible repeat (first | refine av ?_ _ | refine aC ?_ | refine au ?_ _)); refine aW ?_ NB374_388.out _; (with_reducible repeat (first | refine av ?_ _ | refine aC ?_ | refine au ?_ _)); refine aW ?_ NB374_388.out _; (with_reducible repeat (first | refine av ?_ _ | refine aC ?_ | refine au ?_ _)); refine aW ?_ NB374_388.out _; (with_reducible repeat (first | refine av ?_ _ | refine aC ?_ | refine au ?_ _)); refine aW ?_ NB374_388.out _; (with_reducible repeat (first | refine av ?_ _ | refine aC ?_ | refine au ?_ _)); refine aW ?_ NB374_388.out _; (with_reducible repeat (first | refine av ?_ _ | refine aC ?_ | refine au ?_ _)); refine aW ?_ NB374_388.out _; (with_reducible repeat (first | refine av ?_ _ | refine aC ?_ | refine au ?_ _)); exact BK374.out) hb); have n7_ := dH (aQ (g := gb376) (o := .cells #[.int .i64 ((rd_T42 l0_1 a1_0).f0), .int .i64 ((rd_T42 l0_1 a1_0).f1), .slice A375_2 ((rd_T42 l0_1 a1_0).f2).length c375_2] 42 (0, 0)) (by (with_reducible repeat (first | refine av ?_ _ | refine aC ?_ | refine au ?_ _)); refine aW ?_ NB376_388.out _; (with_reducible repeat (first | refine av ?_ _ | refine aC ?_ | refine au ?_ _)); refine aW ?_ NB376_388.out _; (with_reducible repeat (first | refine av ?_ _ | refine aC ?_ | refine au ?_ _)); refine aW ?_ NB376_388.out _; (with_reducible repeat (first | refine av ?_ _ | refine aC ?_ | refine au ?_ _)); refine aW ?_ NB376_388.out _; (with_reducible repeat (first | refine av ?_ _ | refine aC ?_ | refine au ?_ _)); refine aW ?_ NB376_388.out _; (with_reducible repeat (first | refine av ?_ _ | refine aC ?_ | refine au ?_ _)); refine aW ?_ NB376_388.out _; (with_reducible repeat (first | refine av ?_ _ | refine aC ?_ | refine au ?_ _)); exact BK376.out) hb); have n8_ := dH (aQ (g := gb386) (o := .cells #[.int .i64 a0_0, u387001] 28 (0, 0)) (by (with_reducible repeat (first | refine av ?_ _ | refine aC ?_ | refine au ?_ _)); refine aW ?_ NB386_388.out _; (with_reducible repeat (first | refine av ?_ _ | refine aC ?_ | refine au ?_ _)); refine aW ?_ NB386_388.out _; (with_reducible repeat (first | refine av ?_ _ | refine aC ?_ | refine au ?_ _)); refine aW ?_ NB386_388.out _; (with_reducible repeat (first | refine av ?_ _ | refine aC ?_ | refine au ?_ _)); refine aW ?_ NB386_388.out _; (with_reducible repeat (first | refine av ?_ _ | refine aC ?_ | refine au ?_ _)); refine aW ?_ NB386_388.out _; (with_reducible repeat (first | refine av ?_ _ | refine aC ?_ | refine au ?_ _)); refine aW ?_ NB386_388.out _; (with_reducible repeat (first | refine av ?_ _ | refine aC ?_ | refine au ?_ _)); exact BK386.out) hb); have n9_ := dH (aQ (g := gb388) (o := .cells #[.int .i64 a1_1, .int .i64 x375001_15, .slice Ao107 x375002_15.length co107] 42 (0, 0)) (by (with_reducible repeat (first | refine av ?_ _ | refine aC ?_ | refine au ?_ _)); refine bL (cs := #[.int .i64 a1_1, .int .i64 x375001_15, .slice A387_2 ((rd_T42 l0_1 x90_2).f2).length c387_2]) ?_ 2 _ rfl; (with_reducible repeat (first | refine av ?_ _ | refine aC ?_ | refine au ?_ _)); refine bL (cs := #[.int .i64 a1_1, .int .i64 ((rd_T42 l0_1 x90_2).f1), .slice A387_2 ((rd_T42 l0_1 x90_2).f2).length c387_2]) ?_ 1 _ rfl; (with_reducible repeat (first | refine av ?_ _ | refine aC ?_ | refine au ?_ _)); refine bL (cs := #[.int .i64 ((rd_T42 l0_1 x90_2).f0), .int .i64 ((rd_T42 l0_1 x90_2).f1), .slice A387_2 ((rd_T42 l0_1 x90_2).f2).length c387_2]) ?_ 0 _ rfl; (with_reducible repeat (first | refine av ?_ _ | refine aC ?_ | refine au ?_ _)); refine bL (cs := #[.int .i64 ((rd_T42 l0_1 x90_2).f0), .int .i64 ((rd_T42 l0_1 x90_2).f1), .slice none 0 0]) ?_ 2 _ rfl; (with_reducible repeat (first | refine av ?_ _ | refine aC ?_ | refine au ?_ _)); refine bL (cs := #[.int .i64 ((rd_T42 l0_1 x90_2).f0), .int .i64 0, .slice none 0 0]) ?_ 1 _ rfl; (with_reducible repeat (first | refine av ?_ _ | refine aC ?_ | refine au ?_ _)); refine bL (cs := #[.int .i64 0, .int .i64 0, .slice none 0 0]) ?_ 0 _ rfl; (with_reducible repeat (first | refine av ?_ _ | refine aC ?_ | refine au ?_ _)); exact BK388.out) hb); have n10_ := dH (aM (by repeat (first | (with_reducible first | exact HB.out | apply ak | apply ah | apply aj | refine aA ?_ GE356.out | refine aA ?_ GE357.out | refine aA ?_ GE358.out | refine aA ?_ GE374.out | refine aA ?_ GE376.out | refine aA ?_ GE386.out | refine aA ?_ GE388.out) | exact HB.out)) hb); clear HO_375002; clear HO_387001; clear BK356; clear BK357; clear BK358; clear BK374; clear BK376; clear BK386; clear BK388; clear HB; have HO_375002 := n0_; have HO_387001 := n1_; have HO391 := n2_; have BK356 := n3_; have BK357 := n4_; have BK358 := n5_; have BK374 := n6_; have BK376 := n7_; have BK386 := n8_; have BK388 := n9_; have HB := n10_; clear n0_ n1_ n2_ n3_ n4_ n5_ n6_ n7_ n8_ n9_ n10_; (try clear hb); (try clear hb2); (try clear hk); (try clear hi); (try clear ho0); obtain ⟨Ao109, co109, eo109⟩ := Kd.bN HO391.out; subst eo109; have hcz110_0 : w108.cell? ⟨gb388, 0, none⟩ = some (.int .i64 a1_1) := (ay BK388.out 0).trans rfl; have hcz110_1 : w108.cell? ⟨gb388, 1, none⟩ = some (.int .i64 x375001_15) := (ay BK388.out 1).trans rfl; have hcz110_2 : w108.cell? ⟨gb388, 2, none⟩ = some (.slice Ao107 x375002_15.length co107) := (ay BK388.out 2).trans rfl; have hfz110_0 := aD BK388.out 0; have hfz110_1 := aD BK388.out 1; have hfz110_2 := aD BK388.out 2) | ((with_reducible refine gate_store (t := 34) (p := 103) rfl ?_); refine store_event (t := 34) (p := 103) (v := ?vo_w111) (w1 := (w108.setCell ⟨gb388, 2, none⟩ (.slice Ao109 t389.length co109))) ?hg ?ho ?hn ?hr ?_; (case ho => rfl); (case hg => rfl); (case hn => rfl); (case hr => first | (go_simp; done) | (go_simp; rfl)); intro w111 hw; have n0_ : Aside0 (Kd.R (Kd.int .i64) 3 w111 w.heap.size (fun k_ => some k_ ≠ (.slice Ao109 t389.length co109 : Value).ownBlock) (.slice Ao107 x375002_15.length co107) x375002_15) := ⟨(by rw [hw]; exact (by (with_reducible repeat (first | apply Kd.aI | apply Kd.aJ | apply Kd.aN)); exact Kd.bM (Kd.bV (p := ⟨gb388, 2, none⟩) (Kd.bU HO_375002.out BK388.out (by decide)) (fun _ hk => hk.2) (.slice Ao109 t389.length co109)) (fun _ hk => hk.1.2)))⟩; have n1_ : Aside0 (Kd.S k42 42 w111 w.heap.size (fun k_ => some k_ ≠ (.slice Ao107 x375002_15.length co107 : Value).ownBlock ∧ some k_ ≠ (.slice Ao109 t389.length co109 : Value).ownBlock ∧ k_ ≠ gb374 ∧ k_ ≠ gb376 ∧ k_ ≠ gb388) u387001 x387001_2) := ⟨(by rw [hw]; exact (by (with_reducible repeat (first | apply Kd.S_alloc | apply Kd.S_drewN | apply Kd.S_drew)); exact Kd.S_mono (Kd.S_far (p := ⟨gb388, 2, none⟩) (Kd.S_mono HO_387001.out (fun k_ hk => (⟨hk, hk.1.2⟩ : _ ∧ k_ ≠ gb388))) (fun _ hk => hk.2) (.slice Ao109 t389.length co109)) (fun _ hk => ⟨hk.1.1.1.1, ⟨hk.1.2, ⟨hk.1.1.1.2.1, ⟨hk.1.1.1.2.2, hk.1.1.2⟩⟩⟩⟩)))⟩; have n2_ : Aside0 (Kd.R (Kd.int .i64) 3 w111 w.heap.size (fun k_ => some k_ ≠ (.slice Ao107 x375002_15.length co107 : Value).ownBlock) (.slice Ao109 t389.length co109) t389) := ⟨(by rw [hw]; exact (by (with_reducible repeat (first | apply Kd.aI | apply Kd.aJ | apply Kd.aN)); exact Kd.bM (Kd.bV (p := ⟨gb388, 2, none⟩) (Kd.bU HO391.out BK388.out (by decide)) (fun _ hk => hk.2) (.slice Ao109 t389.length co109)) (fun _ hk => hk.1.2)))⟩; have n3_ : Aside0 (w111.heap[gb356]? = some (.cells #[.int .i64 a0_0, .slice (some ad375) l0_1.length c0_1] 28 (0, 0))) := ⟨(by rw [hw]; exact (by (with_reducible repeat (first | refine av ?_ _ | refine aC ?_ | refine au ?_ _)); refine aW ?_ NB356_388.out _; (with_reducible repeat (first | refine av ?_ _ | refine aC ?_ | refine au ?_ _)); exact BK356.out))⟩; have n4_ : Aside0 (w111.heap[gb357]? = some (.cells #[.int .i64 a1_0, .int .i64 a1_1, .int .i64 a1_2, .slice A1_3 l1_3.length c1_3] 36 (0, 0))) := ⟨(by rw [hw]; exact (by (with_reducible repeat (first | refine av ?_ _ | refine aC ?_ | refine au ?_ _)); refine aW ?_ NB357_388.out _; (with_reducible repeat (first | refine av ?_ _ | refine aC ?_ | refine au ?_ _)); exact BK357.out))⟩; have n5_ : Aside0 (w111.heap[gb358]? = some (.cells #[.int .i64 x359000_15, .slice none 0 0] 28 (0, 0))) := ⟨(by rw [hw]; exact (by (with_reducible repeat (first | refine av ?_ _ | refine aC ?_ | refine au ?_ _)); refine aW ?_ NB358_388.out _; (with_reducible repeat (first | refine av ?_ _ | refine aC ?_ | refine au ?_ _)); exact BK358.out))⟩; have n6_ : Aside0 (w111.heap[gb374]? = some (.cells #[.int .i64 a1_1, .int .i64 x375001_15, .slice Ao107 x375002_15.length co107] 42 (0, 0))) := ⟨(by rw [hw]; exact (by (with_reducible repeat (first | refine av ?_ _ | refine aC ?_ | refine au ?_ _)); refine aW ?_ NB374_388.out _; (with_reducible repeat (first | refine av ?_ _ | refine aC ?_ | refine au ?_ _)); exact BK374.out))⟩; have n7_ : Aside0 (w111.heap[gb376]? = some (.cells #[.int .i64 ((rd_T42 l0_1 a1_0).f0), .int .i64 ((rd_T42 l0_1 a1_0).f1), .slice A375_2 ((rd_T42 l0_1 a1_0).f2).length c375_2] 42 (0, 0))) := ⟨(by rw [hw]; exact (by (with_reducible repeat (first | refine av ?_ _ | refine aC ?_ | refine au ?_ _)); refine aW ?_ NB376_388.out _; (with_reducible repeat (first | refine av ?_ _ | refine aC ?_ | refine au ?_ _)); exact BK376.out))⟩; have n8_ : Aside0 (w111.heap[gb386]? = some (.cells #[.int .i64 a0_0, u387001] 28 (0, 0))) := ⟨(by rw [hw]; exact (by (with_reducible repeat (first | refine av ?_ _ | refine aC ?_ | refine au ?_ _)); refine aW ?_ NB386_388.out _; (with_reducible repeat (first | refine av ?_ _ | refine aC ?_ | refine au ?_ _)); exact BK386.out))⟩; have n9_ : Aside0 (w111.heap[gb388]? = some (.cells #[.int .i64 a1_1, .int .i64 x375001_15, .slice Ao109 t389.length co109] 42 (0, 0))) := ⟨(by rw [hw]; exact (by (with_reducible repeat (first | refine av ?_ _ | refine aC ?_ | refine au ?_ _)); refine bL (cs := #[.int .i64 a1_1, .int .i64 x375001_15, .slice Ao107 x375002_15.length co107]) ?_ 2 _ rfl; (with_reducible repeat (first | refine av ?_ _ | refine aC ?_ | refine au ?_ _)); exact BK388.out))⟩; have n10_ : Aside0 (Below w.heap.size w w111) := ⟨(by rw [hw]; exact (by repeat (first | (with_reducible first | exact HB.out | apply ak | apply ah | apply aj | refine aA ?_ GE356.out | refine aA ?_ GE357.out | refine aA ?_ GE358.out | refine aA ?_ GE374.out | refine aA ?_ GE376.out | refine aA ?_ GE386.out | refine aA ?_ GE388.out) | exact HB.out)))⟩; clear hw; clear HO_375002; clear HO_387001; clear HO391; clear BK356; clear BK357; clear BK358; clear BK374; clear BK376; clear BK386; clear BK388; clear HB; have HO_375002 := n0_; have HO_387001 := n1_; have HO391 := n2_; have BK356 := n3_; have BK357 := n4_; have BK358 := n5_; have BK374 := n6_; have BK376 := n7_; have BK386 := n8_; have BK388 := n9_; have HB := n10_; clear n0_ n1_ n2_ n3_ n4_ n5_ n6_ n7_ n8_ n9_ n10_; have hnb112 := NB386_356.out; have hnc112 := NB356_386.out; have hnb113 := NB386_358.out; have hnc113 := NB358_386.out; have hnb114 := NB386_376.out; have hnc114 := NB376_386.out; have hcz115_0 : w111.cell? ⟨gb386, 0, none⟩ = some (.int .i64 a0_0) := (ay BK386.out 0).trans rfl; have hcz115_1 : w111.cell? ⟨gb386, 1, none⟩ = some (u387001) := (ay BK386.out 1).trans rfl; have hfz115_0 := aD BK386.out 0; have hfz115_1 := aD BK386.out 1; have hcz116_0 : w111.cell? ⟨gb388, 0, none⟩ = some (.int .i64 a1_1) := (ay BK388.out 0).trans rfl; have hcz116_1 : w111.cell? ⟨gb388, 1, none⟩ = some (.int .i64 x375001_15) := (ay BK388.out 1).trans rfl; have hcz116_2 : w111.cell? ⟨gb388, 2, none⟩ = some (.slice Ao109 t389.length co109) := (ay BK388.out 2).trans rfl; have hfz116_0 := aD BK388.out 0; have hfz116_1 := aD BK388.out 1; have hfz116_2 := aD BK388.out 2) | ((with_reducible refine gate_builtin (b := .append) (xs := #[.tmp 105, .tmp 107]) rfl ?_); at_builtin; refine Kd.S_append k42 (w0 := w) w.heap.size rfl (.tmp 105) (.tmp 107) 26 42 (.agg #[(.int .i64 0), (.int .i64 0), (.slice none 0 0)]) 40 rfl Try.underlying26 info42 rfl (by decide) (by omega) u387001 x387001_2 (⟨a1_1, x375001_15, t389⟩ : S42) [.int .i64 a1_1, .int .i64 x375001_15, .slice Ao109 t389.length co109] (fun k_ => some k_ ≠ (.slice Ao107 x375002_15.length co107 : Value).ownBlock ∧ k_ ≠ gb374 ∧ k_ ≠ gb376 ∧ k_ ≠ gb388) (fun k_ => some k_ = (.slice Ao109 t389.length co109 : Value).ownBlock) rfl rfl ?aP (fun k_ hk_ => ((Kd.bM (ok' := fun k_ => ((fun k_ => some k_ ≠ (.slice Ao107 x375002_15.length co107 : Value).ownBlock ∧ k_ ≠ gb374 ∧ k_ ≠ gb376 ∧ k_ ≠ gb388)) k_ ∧ some k_ ≠ (u387001 : Value).ownBlock) (Kd.bU (Kd.bU (Kd.bU (Kd.R_apart' (HO391.out) (Kd.S_typed HO_387001.out) (by decide)) BK374.out (by decide)) BK376.out (by decide)) BK388.out (by decide)) (fun k_ hk => ⟨⟨hk.1.1.1.1, ⟨hk.1.1.2, ⟨hk.1.2, hk.2⟩⟩⟩, hk.1.1.1.2⟩))).1 k_ hk_.symm) ?aF ?aO ?aB ?aS ?aL ?_; (case aP => exact k42_mkM _ _ _ (⟨a1_1, x375001_15, t389⟩ : S42) (Kd.bM (Kd.R_tight rfl (Kd.bM (ok' := fun k_ => ((fun k_ => some k_ ≠ (.slice Ao107 x375002_15.length co107 : Value).ownBlock ∧ k_ ≠ gb374 ∧ k_ ≠ gb376 ∧ k_ ≠ gb388)) k_ ∧ some k_ ≠ (u387001 : Value).ownBlock) (Kd.bU (Kd.bU (Kd.bU (Kd.R_apart' (HO391.out) (Kd.S_typed HO_387001.out) (by decide)) BK374.out (by decide)) BK376.out (by decide)) BK388.out (by decide)) (fun k_ hk => ⟨⟨hk.1.1.1.1, ⟨hk.1.1.2, ⟨hk.1.2, hk.2⟩⟩⟩, hk.1.1.1.2⟩))) (fun _ h_ => h_))); (case aB => exact (by repeat (first | (with_reducible first | exact HB.out | apply ak | apply ah | apply aj | refine aA ?_ GE356.out | refine aA ?_ GE357.out | refine aA ?_ GE358.out | refine aA ?_ GE374.out | refine aA ?_ GE376.out | refine aA ?_ GE386.out | refine aA ?_ GE388.out) | exact HB.out))); (case aF => exact (fun k_ hk => ⟨Kd.fresh' (Kd.bT (by (with_reducible repeat (first | apply Kd.aI | apply Kd.aJ | apply Kd.aN)); exact HO_375002.out)) k_ hk, Kd.freshB (g := gb374) (o := .cells #[.int .i64 a1_1, .int .i64 x375001_15, .slice Ao107 x375002_15.length co107] 42 (0, 0)) (by (with_reducible repeat (first | refine av ?_ _ | refine aC ?_ | refine au ?_ _)); exact BK374.out) k_ hk, Kd.freshB (g := gb376) (o := .cells #[.int .i64 ((rd_T42 l0_1 a1_0).f0), .int .i64 ((rd_T42 l0_1 a1_0).f1), .slice A375_2 ((rd_T42 l0_1 a1_0).f2).length c375_2] 42 (0, 0)) (by (with_reducible repeat (first | refine av ?_ _ | refine aC ?_ | refine au ?_ _)); exact BK376.out) k_ hk, Kd.freshB (g := gb388) (o := .cells #[.int .i64 a1_1, .int .i64 x375001_15, .slice Ao109 t389.length co109] 42 (0, 0)) (by (with_reducible repeat (first | refine av ?_ _ | refine aC ?_ | refine au ?_ _)); exact BK388.out) k_ hk⟩)); (case aO => exact (by (with_reducible repeat (first | apply Kd.S_alloc | apply Kd.S_drewN | apply Kd.S_drew)); exact Kd.S_mono HO_387001.out (fun k_ hk => ⟨⟨hk.1, ⟨hk.2.2.1, ⟨hk.2.2.2.1, hk.2.2.2.2⟩⟩⟩, fun e_ => hk.2.1 e_⟩))); (case aS => exact (aK (by repeat (first | (with_reducible first | exact HB.out | apply ak | apply ah | apply aj | refine aA ?_ GE356.out | refine aA ?_ GE357.out | refine aA ?_ GE358.out | refine aA ?_ GE374.out | refine aA ?_ GE376.out | refine aA ?_ GE386.out | refine aA ?_ GE388.out) | exact HB.out)))); (case aL => have := LMc87.out; omega); intro v393 w117 ho hb hg hat; rw [← Ny392.out] at ho; have n0_ := dH (Kd.R_over' (by (with_reducible repeat (first | apply Kd.aI | apply Kd.aJ | apply Kd.aN)); exact HO_375002.out) (Kd.S_typed (by (with_reducible repeat (first | apply Kd.S_alloc | apply Kd.S_drewN | apply Kd.S_drew)); exact HO_387001.out)) (by decide) hg); have n1_ := dH (bY (g := gb356) (o := .cells #[.int .i64 a0_0, .slice (some ad375) l0_1.length c0_1] 28 (0, 0)) (by (with_reducible repeat (first | refine av ?_ _ | refine aC ?_ | refine au ?_ _)); exact BK356.out) hg (Kd.S_ne HO_387001.out BK356.out (by decide))); have n2_ := dH (bY (g := gb357) (o := .cells #[.int .i64 a1_0, .int .i64 a1_1, .int .i64 a1_2, .slice A1_3 l1_3.length c1_3] 36 (0, 0)) (by (with_reducible repeat (first | refine av ?_ _ | refine aC ?_ | refine au ?_ _)); exact BK357.out) hg (Kd.S_ne HO_387001.out BK357.out (by decide))); have n3_ := dH (bY (g := gb358) (o := .cells #[.int .i64 x359000_15, .slice none 0 0] 28 (0, 0)) (by (with_reducible repeat (first | refine av ?_ _ | refine aC ?_ | refine au ?_ _)); exact BK358.out) hg (Kd.S_ne HO_387001.out BK358.out (by decide))); have n4_ := dH (bY (g := gb374) (o := .cells #[.int .i64 a1_1, .int .i64 x375001_15, .slice Ao107 x375002_15.length co107] 42 (0, 0)) (by (with_reducible repeat (first | refine av ?_ _ | refine aC ?_ | refine au ?_ _)); exact BK374.out) hg (Kd.S_away HO_387001.out (fun _ hk => hk.2.2.1))); have n5_ := dH (bY (g := gb376) (o := .cells #[.int .i64 ((rd_T42 l0_1 a1_0).f0), .int .i64 ((rd_T42 l0_1 a1_0).f1), .slice A375_2 ((rd_T42 l0_1 a1_0).f2).length c375_2] 42 (0, 0)) (by (with_reducible repeat (first | refine av ?_ _ | refine aC ?_ | refine au ?_ _)); exact BK376.out) hg (Kd.S_away HO_387001.out (fun _ hk => hk.2.2.2.1))); have n6_ := dH (bY (g := gb386) (o := .cells #[.int .i64 a0_0, u387001] 28 (0, 0)) (by (with_reducible repeat (first | refine av ?_ _ | refine aC ?_ | refine au ?_ _)); exact BK386.out) hg (Kd.S_ne HO_387001.out BK386.out (by decide))); have n7_ := dH (bY (g := gb388) (o := .cells #[.int .i64 a1_1, .int .i64 x375001_15, .slice Ao109 t389.length co109] 42 (0, 0)) (by (with_reducible repeat (first | refine av ?_ _ | refine aC ?_ | refine au ?_ _)); exact BK388.out) hg (Kd.S_away HO_387001.out (fun _ hk => hk.2.2.2.2))); have n8_ := dH (hb); have n9_ := dH (ho); clear HO_375002; clear BK356; clear BK357; clear BK358; clear BK374; clear BK376; clear BK386; clear BK388; clear HB; clear HO_387001; clear HO391; have HO_375002 := n0_; have BK356 := n1_; have BK357 := n2_; have BK358 := n3_; have BK374 := n4_; have BK376 := n5_; have BK386 := n6_; have BK388 := n7_; have HB := n8_; have HO394 := n9_; clear n0_ n1_ n2_ n3_ n4_ n5_ n6_ n7_ n8_ n9_; clear ho hb hg hat; obtain ⟨Ao118, co118, eo118⟩ := Kd.S_slice HO394.out; subst eo118; have hcz119_0 : w117.cell? ⟨gb386, 0, none⟩ = some (.int .i64 a0_0) := (ay BK386.out 0).trans rfl; have hcz119_1 : w117.cell? ⟨gb386, 1, none⟩ = some (u387001) := (ay BK386.out 1).trans rfl; have hfz119_0 := aD BK386.out 0; have hfz119_1 := aD BK386.out 1))
             go_roundg k2
             case measure => have := HJ15.out; have := HK2.out; omega
             case rel => exact ⟨(wrap64 (x90_2 + 1)), (y392), (.slice Ao118 y392.length co118), (by first | rfl | (simp; done) | (simp [*]; done)), H', ⟨by have := HJ15.out; have := HK2.out; omega⟩, ⟨by (with_reducible repeat (first | apply Kd.aI | apply Kd.aJ | apply Kd.aN)); exact Kd.bM (Kd.bV (p := ⟨gb386, 1, none⟩) (Kd.bU HO_375002.out BK386.out (by decide)) (fun _ hk => hk.2) (.slice Ao118 y392.length co118)) (fun _ hk => trivial)⟩, ⟨by (with_reducible repeat (first | apply Kd.S_alloc | apply Kd.S_drewN | apply Kd.S_drew)); exact Kd.S_mono (Kd.S_far (p := ⟨gb386, 1, none⟩) (Kd.S_types HO394.out BK386.out (by decide)) (fun _ hk => hk.2) (.slice Ao118 y392.length co118)) (fun _ hk => ⟨hk.1.1, ⟨hk.1.2.1, hk.1.2.2.1⟩⟩)⟩, ⟨by (with_reducible repeat (first | refine av ?_ _ | refine aC ?_ | refine au ?_ _)); refine aW ?_ NB356_386.out _; (with_reducible repeat (first | refine av ?_ _ | refine aC ?_ | refine au ?_ _)); exact BK356.out⟩, ⟨by (with_reducible repeat (first | refine av ?_ _ | refine aC ?_ | refine au ?_ _)); refine aW ?_ NB357_386.out _; (with_reducible repeat (first | refine av ?_ _ | refine aC ?_ | refine au ?_ _)); exact BK357.out⟩, ⟨by (with_reducible repeat (first | refine av ?_ _ | refine aC ?_ | refine au ?_ _)); refine aW ?_ NB358_386.out _; (with_reducible repeat (first | refine av ?_ _ | refine aC ?_ | refine au ?_ _)); exact BK358.out⟩, ⟨by (with_reducible repeat (first | refine av ?_ _ | refine aC ?_ | refine au ?_ _)); refine aW ?_ NB374_386.out _; (with_reducible repeat (first | refine av ?_ _ | refine aC ?_ | refine au ?_ _)); exact BK374.out⟩, ⟨by (with_reducible repeat (first | refine av ?_ _ | refine aC ?_ | refine au ?_ _)); refine aW ?_ NB376_386.out _; (with_reducible repeat (first | refine av ?_ _ | refine aC ?_ | refine au ?_ _)); exact BK376.out⟩, ⟨by (with_reducible repeat (first | refine av ?_ _ | refine aC ?_ | refine au ?_ _)); refine bL (cs := #[.int .i64 a0_0, u387001]) ?_ 1 _ rfl; (with_reducible repeat (first | refine av ?_ _ | refine aC ?_ | refine au ?_ _)); exact BK386.out⟩, ⟨by repeat (first | (with_reducible first | exact HB.out | apply ak | apply ah | apply aj | refine aA ?_ GE356.out | refine aA ?_ GE357.out | refine aA ?_ GE358.out | refine aA ?_ GE374.out | refine aA ?_ GE376.out | refine aA ?_ GE386.out | refine aA ?_ GE388.out) | exact HB.out)⟩⟩
            ·
             rw [if_neg c87] at H
             exact absurd H (by simp)
           ·
            rw [if_neg c85] at H
            have c85b0 : (x90_2 == a1_0) = false := beq_eq_false_iff_ne.mpr c85
            have c85b1 : (x90_2 != a1_0) = true := bne_iff_ne.mpr c85
            replace H := dF.mp H
            obtain ⟨t395, A1200, H⟩ := H
            replace H : (if x387001_2.length < 3518437208883 then (code_Receive.l0 k2 l0_1 (l0_1.length : Int) (wrap64 (x90_2 + 1)) a1_0 a1_1 a1_2 l1_3 a1_1 x375001_15 x375002_15 a0_0 (x387001_2 ++ [(⟨(rd_T42 l0_1 x90_2).f0, (rd_T42 l0_1 x90_2).f1, t395⟩ : S42)])) else (none)) = some (r1, r2, r3) := H
            have A120 := dH A1200
            clear A1200
            by_cases c121 : x387001_2.length < 3518437208883
            ·
             rw [if_pos c121] at H
             have LMc121 := dH c121
             clear c121
             obtain ⟨y398, hy398⟩ : ∃ y_ : List (S42), y_ = (x387001_2 ++ [(⟨(rd_T42 l0_1 x90_2).f0, (rd_T42 l0_1 x90_2).f1, t395⟩ : S42)]) := ⟨_, rfl⟩
             replace H : (code_Receive.l0 k2 l0_1 (l0_1.length : Int) (wrap64 (x90_2 + 1)) a1_0 a1_1 a1_2 l1_3 a1_1 x375001_15 x375002_15 a0_0 y398) = some (r1, r2, r3) := by first | (rw [hy398]; with_reducible exact H) | (have H2_ := (Option.bind_some _ _).symm.trans H; rw [hy398]; with_reducible exact H2_) | (have H2_ := (Option.bind_some _ _).symm.trans H; with_reducible exact H2_) | with_reducible exact H | (rw [hy398]; exact H) | exact H
             have Ny398 := dH hy398
             clear hy398
             have H' := dH H
             clear H
             have p387 : 0 ≤ (x90_2 : Int) := dD (by first | (with_reducible assumption) | assumption)
             have q387 : x90_2 < (l0_1.length : Int) := dD (by first | (with_reducible assumption) | assumption)
             obtain ⟨ad387, A387_2, c387_2, e387, hx387_0, hx387_1, hx387_2, hl387_2, hi387_2⟩ := at_T42 HR0_1.out x90_2 p387 q387
             obtain rfl : ad375 = ad387 := (by injection e387)
             replace hx387_0 := (HB.out.cell (dB w _ hx387_0)).trans hx387_0
             replace hx387_1 := (HB.out.cell (dB w _ hx387_1)).trans hx387_1
             replace hx387_2 := (HB.out.cell (dB w _ hx387_2)).trans hx387_2
             have HR387_2 := dH hi387_2
             have HC387_2 := dH hl387_2
             clear hi387_2 hl387_2
             replace p387 := eq_true p387
             replace q387 := eq_true q387
             go_wp2_with (first | ((with_reducible refine bg (N := 11) rfl ?_); refine bI ?hg (N := 11) ?hd (cs := #[.int .i64 0, .int .i64 0, .slice none 0 0]) (t := 42) ?hr ?_; (case hd => rfl); (case hg => rfl); (case hr => first | (go_simp; done) | (go_simp; rfl)); intro gb388 hg w122 hbox hb; have n0_ := dH (Kd.cu (by (with_reducible repeat (first | apply Kd.aI | apply Kd.aJ | apply Kd.aN)); exact HO_375002.out) hb); have n1_ := dH (Kd.S_below (Kd.S_elderB (by (with_reducible repeat (first | apply Kd.S_alloc | apply Kd.S_drewN | apply Kd.S_drew)); exact HO_387001.out) gb388 (Nat.le_of_eq hg.symm)) hb); have n2_ := dH (aQ (g := gb356) (o := .cells #[.int .i64 a0_0, .slice (some ad375) l0_1.length c0_1] 28 (0, 0)) (by (with_reducible repeat (first | refine av ?_ _ | refine aC ?_ | refine au ?_ _)); exact BK356.out) hb); have n3_ := dH (aQ (g := gb357) (o := .cells #[.int .i64 a1_0, .int .i64 a1_1, .int .i64 a1_2, .slice A1_3 l1_3.length c1_3] 36 (0, 0)) (by (with_reducible repeat (first | refine av ?_ _ | refine aC ?_ | refine au ?_ _)); exact BK357.out) hb); have n4_ := dH (aQ (g := gb358) (o := .cells #[.int .i64 x359000_15, .slice none 0 0] 28 (0, 0)) (by (with_reducible repeat (first | refine av ?_ _ | refine aC ?_ | refine au ?_ _)); exact BK358.out) hb); have n5_ := dH (aQ (g := gb374) (o := .cells #[.int .i64 a1_1, .int .i64 x375001_15, u375002] 42 (0, 0)) (by (with_reducible repeat (first | refine av ?_ _ | refine aC ?_ | refine au ?_ _)); exact BK374.out) hb); have n6_ := dH (aQ (g := gb376) (o := .cells #[.int .i64 ((rd_T42 l0_1 a1_0).f0), .int .i64 ((rd_T42 l0_1 a1_0).f1), .slice A375_2 ((rd_T42 l0_1 a1_0).f2).length c375_2] 42 (0, 0)) (by (with_reducible repeat (first | refine av ?_ _ | refine aC ?_ | refine au ?_ _)); exact BK376.out) hb); have n7_ := dH (aQ (g := gb386) (o := .cells #[.int .i64 a0_0, u387001] 28 (0, 0)) (by (with_reducible repeat (first | refine av ?_ _ | refine aC ?_ | refine au ?_ _)); exact BK386.out) hb); have n8_ := dH (aM (by repeat (first | (with_reducible first | exact HB.out | apply ak | apply ah | apply aj | refine aA ?_ GE356.out | refine aA ?_ GE357.out | refine aA ?_ GE358.out | refine aA ?_ GE374.out | refine aA ?_ GE376.out | refine aA ?_ GE386.out) | exact HB.out)) hb); have n9_ := dH (hbox); have n10_ := dH ((by rw [hg]; exact (aK (by repeat (first | (with_reducible first | exact HB.out | apply ak | apply ah | apply aj | refine aA ?_ GE356.out | refine aA ?_ GE357.out | refine aA ?_ GE358.out | refine aA ?_ GE374.out | refine aA ?_ GE376.out | refine aA ?_ GE386.out) | exact HB.out))) : w.heap.size ≤ gb388)); have n11_ := dH ((by rw [hg]; exact (aK (by repeat (first | (with_reducible first | exact HB.out | apply ak | apply ah | apply aj | refine aA ?_ GE356.out | refine aA ?_ GE357.out | refine aA ?_ GE358.out | refine aA ?_ GE374.out | refine aA ?_ GE376.out | refine aA ?_ GE386.out) | exact HB.out))) : w.heap.size ≤ gb388)); have n12_ := dH ((by rw [hg]; exact Nat.ne_of_lt (bn (g := gb356) (o := .cells #[.int .i64 a0_0, .slice (some ad375) l0_1.length c0_1] 28 (0, 0)) (by (with_reducible repeat (first | refine av ?_ _ | refine aC ?_ | refine au ?_ _)); exact BK356.out)) : gb356 ≠ gb388)); have n13_ := dH ((by rw [hg]; exact Nat.ne_of_gt (bn (g := gb356) (o := .cells #[.int .i64 a0_0, .slice (some ad375) l0_1.length c0_1] 28 (0, 0)) (by (with_reducible repeat (first | refine av ?_ _ | refine aC ?_ | refine au ?_ _)); exact BK356.out)) : gb388 ≠ gb356)); have n14_ := dH ((by rw [hg]; exact Nat.ne_of_lt (bn (g := gb357) (o := .cells #[.int .i64 a1_0, .int .i64 a1_1, .int .i64 a1_2, .slice A1_3 l1_3.length c1_3] 36 (0, 0)) (by (with_reducible repeat (first | refine av ?_ _ | refine aC ?_ | refine au ?_ _)); exact BK357.out)) : gb357 ≠ gb388)); have n15_ := dH ((by rw [hg]; exact Nat.ne_of_gt (bn (g := gb357) (o := .cells #[.int .i64 a1_0, .int .i64 a1_1, .int .i64 a1_2, .slice A1_3 l1_3.length c1_3] 36 (0, 0)) (by (with_reducible repeat (first | refine av ?_ _ | refine aC ?_ | refine au ?_ _)); exact BK357.out)) : gb388 ≠ gb357)); have n16_ := dH ((by rw [hg]; exact Nat.ne_of_lt (bn (g := gb358) (o := .cells #[.int .i64 x359000_15, .slice none 0 0] 28 (0, 0)) (by (with_reducible repeat (first | refine av ?_ _ | refine aC ?_ | refine au ?_ _)); exact BK358.out)) : gb358 ≠ gb388)); have n17_ := dH ((by rw [hg]; exact Nat.ne_of_gt (bn (g := gb358) (o := .cells #[.int .i64 x359000_15, .slice none 0 0] 28 (0, 0)) (by (with_reducible repeat (first | refine av ?_ _ | refine aC ?_ | refine au ?_ _)); exact BK358.out)) : gb388 ≠ gb358)); have n18_ := dH ((by rw [hg]; exact Nat.ne_of_lt (bn (g := gb374) (o := .cells #[.int .i64 a1_1, .int .i64 x375001_15, u375002] 42 (0, 0)) (by (with_reducible repeat (first | refine av ?_ _ | refine aC ?_ | refine au ?_ _)); exact BK374.out)) : gb374 ≠ gb388)); have n19_ := dH ((by rw [hg]; exact Nat.ne_of_gt (bn (g := gb374) (o := .cells #[.int .i64 a1_1, .int .i64 x375001_15, u375002] 42 (0, 0)) (by (with_reducible repeat (first | refine av ?_ _ | refine aC ?_ | refine au ?_ _)); exact BK374.out)) : gb388 ≠ gb374)); have n20_ := dH ((by rw [hg]; exact Nat.ne_of_lt (bn (g := gb376) (o := .cells #[.int .i64 ((rd_T42 l0_1 a1_0).f0), .int .i64 ((rd_T42 l0_1 a1_0).f1), .slice A375_2 ((rd_T42 l0_1 a1_0).f2).length c375_2] 42 (0, 0)) (by (with_reducible repeat (first | refine av ?_ _ | refine aC ?_ | refine au ?_ _)); exact BK376.out)) : gb376 ≠ gb388)); have n21_ := dH ((by rw [hg]; exact Nat.ne_of_gt (bn (g := gb376) (o := .cells #[.int .i64 ((rd_T42 l0_1 a1_0).f0), .int .i64 ((rd_T42 l0_1 a1_0).f1), .slice A375_2 ((rd_T42 l0_1 a1_0).f2).length c375_2] 42 (0, 0)) (by (with_reducible repeat (first | refine av ?_ _ | refine aC ?_ | refine au ?_ _)); exact BK376.out)) : gb388 ≠ gb376)); have n22_ := dH ((by rw [hg]; exact Nat.ne_of_lt (bn (g := gb386) (o := .cells #[.int .i64 a0_0, u387001] 28 (0, 0)) (by (with_reducible repeat (first | refine av ?_ _ | refine aC ?_ | refine au ?_ _)); exact BK386.out)) : gb386 ≠ gb388)); have n23_ := dH ((by rw [hg]; exact Nat.ne_of_gt (bn (g := gb386) (o := .cells #[.int .i64 a0_0, u387001] 28 (0, 0)) (by (with_reducible repeat (first | refine av ?_ _ | refine aC ?_ | refine au ?_ _)); exact BK386.out)) : gb388 ≠ gb386)); clear HO_375002; clear HO_387001; clear BK356; clear BK357; clear BK358; clear BK374; clear BK376; clear BK386; clear HB; have HO_375002 := n0_; have HO_387001 := n1_; have BK356 := n2_; have BK357 := n3_; have BK358 := n4_; have BK374 := n5_; have BK376 := n6_; have BK386 := n7_; have HB := n8_; have BK388 := n9_; have GW388 := n10_; have GE388 := n11_; have NB356_388 := n12_; have NB388_356 := n13_; have NB357_388 := n14_; have NB388_357 := n15_; have NB358_388 := n16_; have NB388_358 := n17_; have NB374_388 := n18_; have NB388_374 := n19_; have NB376_388 := n20_; have NB388_376 := n21_; have NB386_388 := n22_; have NB388_386 := n23_; clear n0_ n1_ n2_ n3_ n4_ n5_ n6_ n7_ n8_ n9_ n10_ n11_ n12_ n13_ n14_ n15_ n16_ n17_ n18_ n19_ n20_ n21_ n22_ n23_; clear hb hbox hg; have hnb123 := NB388_356.out; have hnc123 := NB356_388.out; have hnb124 := NB388_357.out; have hnc124 := NB357_388.out; have hnb125 := NB388_358.out; have hnc125 := NB358_388.out; have hnb126 := NB388_374.out; have hnc126 := NB374_388.out; have hnb127 := NB388_376.out; have hnc127 := NB376_388.out; have hnb128 := NB388_386.out; have hnc128 := NB386_388.out; have hcz129_0 : w122.cell? ⟨gb388, 0, none⟩ = some (.int .i64 0) := (ay BK388.out 0).trans rfl; have hcz129_1 : w122.cell? ⟨gb388, 1, none⟩ = some (.int .i64 0) := (ay BK388.out 1).trans rfl; have hcz129_2 : w122.cell? ⟨gb388, 2, none⟩ = some (.slice none 0 0) := (ay BK388.out 2).trans rfl; have hfz129_0 := aD BK388.out 0; have hfz129_1 := aD BK388.out 1; have hfz129_2 := aD BK388.out 2; have hnb130 := NB357_356.out; have hnc130 := NB356_357.out; have hnb131 := NB357_358.out; have hnc131 := NB358_357.out; have hnb132 := NB357_374.out; have hnc132 := NB374_357.out; have hnb133 := NB357_376.out; have hnc133 := NB376_357.out; have hnb134 := NB357_386.out; have hnc134 := NB386_357.out; have hcz135_0 : w122.cell? ⟨gb357, 0, none⟩ = some (.int .i64 a1_0) := (ay BK357.out 0).trans rfl; have hcz135_1 : w122.cell? ⟨gb357, 1, none⟩ = some (.int .i64 a1_1) := (ay BK357.out 1).trans rfl; have hcz135_2 : w122.cell? ⟨gb357, 2, none⟩ = some (.int .i64 a1_2) := (ay BK357.out 2).trans rfl; have hcz135_3 : w122.cell? ⟨gb357, 3, none⟩ = some (.slice A1_3 l1_3.length c1_3) := (ay BK357.out 3).trans rfl; have hfz135_0 := aD BK357.out 0; have hfz135_1 := aD BK357.out 1; have hfz135_2 := aD BK357.out 2; have hfz135_3 := aD BK357.out 3) | ((with_reducible refine aT (f := 80) rfl ?_); refine bq (some 102) rfl rfl Try.func80 (by kernel_rfl) rfl #[.slice A387_2 ((rd_T42 l0_1 x90_2).f2).length c387_2] rfl (by (try simp only [dh, dn, dw]); first | done | rfl | (simp only [dx, dz]; rfl) | (simp only [gt_iff_lt, dA]; rfl) | (simp [Act.eval]; done) | (simp [Act.eval, *]; done)) ?_; (with_reducible refine (slices_Clone_int_int.calls _ _ ((rd_T42 l0_1 x90_2).f2) t395 _ ?side1 ?side2 A120.out).mono ?_); (case side1 => exact Kd.bF HR387_2.out (by repeat (first | (with_reducible first | exact HB.out | apply ak | apply ah | apply aj | refine aA ?_ GE356.out | refine aA ?_ GE357.out | refine aA ?_ GE358.out | refine aA ?_ GE374.out | refine aA ?_ GE376.out | refine aA ?_ GE386.out | refine aA ?_ GE388.out) | exact HB.out))); (case side2 => exact HC387_2.out); rintro e w136 ⟨v396, rfl, ho0, hb⟩; refine ⟨_, rfl, ?_⟩; have n0_ := dH (Kd.bf (by (with_reducible repeat (first | apply Kd.aI | apply Kd.aJ | apply Kd.aN)); exact (Kd.bM (Kd.bV (p := ⟨gb388, 2, none⟩) (Kd.bV (p := ⟨gb388, 1, none⟩) (Kd.bV (p := ⟨gb388, 0, none⟩) (Kd.bU HO_375002.out BK388.out (by decide)) (fun _ hk => hk.2) (.int .i64 ((rd_T42 l0_1 x90_2).f0))) (fun _ hk => hk.2) (.int .i64 ((rd_T42 l0_1 x90_2).f1))) (fun _ hk => hk.2) (.slice A387_2 ((rd_T42 l0_1 x90_2).f2).length c387_2)) (fun _ h_ => h_.1))) (Kd.bE ho0) hb); have n1_ := dH (Kd.S_elder' (by (with_reducible repeat (first | apply Kd.S_alloc | apply Kd.S_drewN | apply Kd.S_drew)); exact (Kd.S_mono (Kd.S_far (p := ⟨gb388, 2, none⟩) (Kd.S_far (p := ⟨gb388, 1, none⟩) (Kd.S_far (p := ⟨gb388, 0, none⟩) (Kd.S_mono HO_387001.out (fun k_ hk => (⟨hk, hk.2⟩ : _ ∧ k_ ≠ gb388))) (fun _ hk => hk.2) (.int .i64 ((rd_T42 l0_1 x90_2).f0))) (fun _ hk => hk.2) (.int .i64 ((rd_T42 l0_1 x90_2).f1))) (fun _ hk => hk.2) (.slice A387_2 ((rd_T42 l0_1 x90_2).f2).length c387_2)) (fun _ h_ => h_.1))) (Kd.bE ho0) hb); have n2_ := dH (Kd.bP (Kd.bH ho0 (Kd.bT (by (with_reducible repeat (first | apply Kd.aI | apply Kd.aJ | apply Kd.aN)); exact (Kd.bM (Kd.bV (p := ⟨gb388, 2, none⟩) (Kd.bV (p := ⟨gb388, 1, none⟩) (Kd.bV (p := ⟨gb388, 0, none⟩) (Kd.bU HO_375002.out BK388.out (by decide)) (fun _ hk => hk.2) (.int .i64 ((rd_T42 l0_1 x90_2).f0))) (fun _ hk => hk.2) (.int .i64 ((rd_T42 l0_1 x90_2).f1))) (fun _ hk => hk.2) (.slice A387_2 ((rd_T42 l0_1 x90_2).f2).length c387_2)) (fun _ h_ => h_.1))))) (aK (by repeat (first | (with_reducible first | exact HB.out | apply ak | apply ah | apply aj | refine aA ?_ GE356.out | refine aA ?_ GE357.out | refine aA ?_ GE358.out | refine aA ?_ GE374.out | refine aA ?_ GE376.out | refine aA ?_ GE386.out | refine aA ?_ GE388.out) | exact HB.out)))); have n3_ := dH (aQ (g := gb356) (o := .cells #[.int .i64 a0_0, .slice (some ad375) l0_1.length c0_1] 28 (0, 0)) (by (with_reducible repeat (first | refine av ?_ _ | refine aC ?_ | refine au ?_ _)); refine aW ?_ NB356_388.out _; (with_reducible repeat (first | refine av ?_ _ | refine aC ?_ | refine au ?_ _)); refine aW ?_ NB356_388.out _; (with_reducible repeat (first | refine av ?_ _ | refine aC ?_ | refine au ?_ _)); refine aW ?_ NB356_388.out _; (with_reducible repeat (first | refine av ?_ _ | refine aC ?_ | refine au ?_ _)); exact BK356.out) hb); have n4_ := dH (aQ (g := gb357) (o := .cells #[.int .i64 a1_0, .int .i64 a1_1, .int .i64 a1_2, .slice A1_3 l1_3.length c1_3] 36 (0, 0)) (by (with_reducible repeat (first | refine av ?_ _ | refine aC ?_ | refine au ?_ _)); refine aW ?_ NB357_388.out _; (with_reducible repeat (first | refine av ?_ _ | refine aC ?_ | refine au ?_ _)); refine aW ?_ NB357_388.out _; (with_reducible repeat (first | refine av ?_ _ | refine aC ?_ | refine au ?_ _)); refine aW ?_ NB357_388.out _; (with_reducible repeat (first | refine av ?_ _ | refine aC ?_ | refine au ?_ _)); exact BK357.out) hb); have n5_ := dH (aQ (g := gb358) (o := .cells #[.int .i64 x359000_15, .slice none 0 0] 28 (0, 0)) (by (with_reducible repeat (first | refine av ?_ _ | refine aC ?_ | refine au ?_ _)); refine aW ?_ NB358_388.out _; (with_reducible repeat (first | refine av ?_ _ | refine aC ?_ | refine au ?_ _)); refine aW ?_ NB358_388.out _; (with_reducible repeat (first | refine av ?_ _ | refine aC ?_ | refine au ?_ _)); refine aW ?_ NB358_388.out _; (with_reducible repeat (first | refine av ?_ _ | refine aC ?_ | refine au ?_ _)); exact BK358.out) hb); have n6_ := dH (aQ (g := gb374) (o := .cells #[.int .i64 a1_1, .int .i64 x375001_15, u375002] 42 (0, 0)) (by (with_reducible repeat (first | refine av ?_ _ | refine aC ?_ | refine au ?_ _)); refine aW ?_ NB374_388.out _; (with_reducible repeat (first | refine av ?_ _ | refine aC ?_ | refine au ?_ _)); refine aW ?_ NB374_388.out _; (with_reducible repeat (first | refine av ?_ _ | refine aC ?_ | refine au ?_ _)); refine aW ?_ NB374_388.out _; (with_reducible repeat (first | refine av ?_ _ | refine aC ?_ | refine au ?_ _)); exact BK374.out) hb); have n7_ := dH (aQ (g := gb376) (o := .cells #[.int .i64 ((rd_T42 l0_1 a1_0).f0), .int .i64 ((rd_T42 l0_1 a1_0).f1), .slice A375_2 ((rd_T42 l0_1 a1_0).f2).length c375_2] 42 (0, 0)) (by (with_reducible repeat (first | refine av ?_ _ | refine aC ?_ | refine au ?_ _)); refine aW ?_ NB376_388.out _; (with_reducible repeat (first | refine av ?_ _ | refine aC ?_ | refine au ?_ _)); refine aW ?_ NB376_388.out _; (with_reducible repeat (first | refine av ?_ _ | refine aC ?_ | refine au ?_ _)); refine aW ?_ NB376_388.out _; (with_reducible repeat (first | refine av ?_ _ | refine aC ?_ | refine au ?_ _)); exact BK376.out) hb); have n8_ := dH (aQ (g := gb386) (o := .cells #[.int .i64 a0_0, u387001] 28 (0, 0)) (by (with_reducible repeat (first | refine av ?_ _ | refine aC ?_ | refine au ?_ _)); refine aW ?_ NB386_388.out _; (with_reducible repeat (first | refine av ?_ _ | refine aC ?_ | refine au ?_ _)); refine aW ?_ NB386_388.out _; (with_reducible repeat (first | refine av ?_ _ | refine aC ?_ | refine au ?_ _)); refine aW ?_ NB386_388.out _; (with_reducible repeat (first | refine av ?_ _ | refine aC ?_ | refine au ?_ _)); exact BK386.out) hb); have n9_ := dH (aQ (g := gb388) (o := .cells #[.int .i64 ((rd_T42 l0_1 x90_2).f0), .int .i64 ((rd_T42 l0_1 x90_2).f1), .slice A387_2 ((rd_T42 l0_1 x90_2).f2).length c387_2] 42 (0, 0)) (by (with_reducible repeat (first | refine av ?_ _ | refine aC ?_ | refine au ?_ _)); refine bL (cs := #[.int .i64 ((rd_T42 l0_1 x90_2).f0), .int .i64 ((rd_T42 l0_1 x90_2).f1), .slice none 0 0]) ?_ 2 _ rfl; (with_reducible repeat (first | refine av ?_ _ | refine aC ?_ | refine au ?_ _)); refine bL (cs := #[.int .i64 ((rd_T42 l0_1 x90_2).f0), .int .i64 0, .slice none 0 0]) ?_ 1 _ rfl; (with_reducible repeat (first | refine av ?_ _ | refine aC ?_ | refine au ?_ _)); refine bL (cs := #[.int .i64 0, .int .i64 0, .slice none 0 0]) ?_ 0 _ rfl; (with_reducible repeat (first | refine av ?_ _ | refine aC ?_ | refine au ?_ _)); exact BK388.out) hb); have n10_ := dH (aM (by repeat (first | (with_reducible first | exact HB.out | apply ak | apply ah | apply aj | refine aA ?_ GE356.out | refine aA ?_ GE357.out | refine aA ?_ GE358.out | refine aA ?_ GE374.out | refine aA ?_ GE376.out | refine aA ?_ GE386.out | refine aA ?_ GE388.out) | exact HB.out)) hb); clear HO_375002; clear HO_387001; clear BK356; clear BK357; clear BK358; clear BK374; clear BK376; clear BK386; clear BK388; clear HB; have HO_375002 := n0_; have HO_387001 := n1_; have HO397 := n2_; have BK356 := n3_; have BK357 := n4_; have BK358 := n5_; have BK374 := n6_; have BK376 := n7_; have BK386 := n8_; have BK388 := n9_; have HB := n10_; clear n0_ n1_ n2_ n3_ n4_ n5_ n6_ n7_ n8_ n9_ n10_; (try clear hb); (try clear hb2); (try clear hk); (try clear hi); (try clear ho0); obtain ⟨Ao137, co137, eo137⟩ := Kd.bN HO397.out; subst eo137; have hcz138_0 : w136.cell? ⟨gb388, 0, none⟩ = some (.int .i64 ((rd_T42 l0_1 x90_2).f0)) := (ay BK388.out 0).trans rfl; have hcz138_1 : w136.cell? ⟨gb388, 1, none⟩ = some (.int .i64 ((rd_T42 l0_1 x90_2).f1)) := (ay BK388.out 1).trans rfl; have hcz138_2 : w136.cell? ⟨gb388, 2, none⟩ = some (.slice A387_2 ((rd_T42 l0_1 x90_2).f2).length c387_2) := (ay BK388.out 2).trans rfl; have hfz138_0 := aD BK388.out 0; have hfz138_1 := aD BK388.out 1; have hfz138_2 := aD BK388.out 2) | ((with_reducible refine gate_store (t := 34) (p := 103) rfl ?_); refine store_event (t := 34) (p := 103) (v := ?vo_w139) (w1 := (w136.setCell ⟨gb388, 2, none⟩ (.slice Ao137 t395.length co137))) ?hg ?ho ?hn ?hr ?_; (case ho => rfl); (case hg => rfl); (case hn => rfl); (case hr => first | (go_simp; done) | (go_simp; rfl)); intro w139 hw; have n0_ : Aside0 (Kd.R (Kd.int .i64) 3 w139 w.heap.size (fun k_ => some k_ ≠ (.slice Ao137 t395.length co137 : Value).ownBlock) u375002 x375002_15) := ⟨(by rw [hw]; exact (by (with_reducible repeat (first | apply Kd.aI | apply Kd.aJ | apply Kd.aN)); exact Kd.bM (Kd.bV (p := ⟨gb388, 2, none⟩) (Kd.bU HO_375002.out BK388.out (by decide)) (fun _ hk => hk.2) (.slice Ao137 t395.length co137)) (fun _ hk => hk.1.2)))⟩; have n1_ : Aside0 (Kd.S k42 42 w139 w.heap.size (fun k_ => some k_ ≠ (u375002 : Value).ownBlock ∧ some k_ ≠ (.slice Ao137 t395.length co137 : Value).ownBlock ∧ k_ ≠ gb374 ∧ k_ ≠ gb376 ∧ k_ ≠ gb388) u387001 x387001_2) := ⟨(by rw [hw]; exact (by (with_reducible repeat (first | apply Kd.S_alloc | apply Kd.S_drewN | apply Kd.S_drew)); exact Kd.S_mono (Kd.S_far (p := ⟨gb388, 2, none⟩) (Kd.S_mono HO_387001.out (fun k_ hk => (⟨hk, hk.1.2⟩ : _ ∧ k_ ≠ gb388))) (fun _ hk => hk.2) (.slice Ao137 t395.length co137)) (fun _ hk => ⟨hk.1.1.1.1, ⟨hk.1.2, ⟨hk.1.1.1.2.1, ⟨hk.1.1.1.2.2, hk.1.1.2⟩⟩⟩⟩)))⟩; have n2_ : Aside0 (Kd.R (Kd.int .i64) 3 w139 w.heap.size (fun k_ => some k_ ≠ (u375002 : Value).ownBlock) (.slice Ao137 t395.length co137) t395) := ⟨(by rw [hw]; exact (by (with_reducible repeat (first | apply Kd.aI | apply Kd.aJ | apply Kd.aN)); exact Kd.bM (Kd.bV (p := ⟨gb388, 2, none⟩) (Kd.bU HO397.out BK388.out (by decide)) (fun _ hk => hk.2) (.slice Ao137 t395.length co137)) (fun _ hk => hk.1.2)))⟩; have n3_ : Aside0 (w139.heap[gb356]? = some (.cells #[.int .i64 a0_0, .slice (some ad375) l0_1.length c0_1] 28 (0, 0))) := ⟨(by rw [hw]; exact (by (with_reducible repeat (first | refine av ?_ _ | refine aC ?_ | refine au ?_ _)); refine aW ?_ NB356_388.out _; (with_reducible repeat (first | refine av ?_ _ | refine aC ?_ | refine au ?_ _)); exact BK356.out))⟩; have n4_ : Aside0 (w139.heap[gb357]? = some (.cells #[.int .i64 a1_0, .int .i64 a1_1, .int .i64 a1_2, .slice A1_3 l1_3.length c1_3] 36 (0, 0))) := ⟨(by rw [hw]; exact (by (with_reducible repeat (first | refine av ?_ _ | refine aC ?_ | refine au ?_ _)); refine aW ?_ NB357_388.out _; (with_reducible repeat (first | refine av ?_ _ | refine aC ?_ | refine au ?_ _)); exact BK357.out))⟩; have n5_ : Aside0 (w139.heap[gb358]? = some (.cells #[.int .i64 x359000_15, .slice none 0 0] 28 (0, 0))) := ⟨(by rw [hw]; exact (by (with_reducible repeat (first | refine av ?_ _ | refine aC ?_ | refine au ?_ _)); refine aW ?_ NB358_388.out _; (with_reducible repeat (first | refine av ?_ _ | refine aC ?_ | refine au ?_ _)); exact BK358.out))⟩; have n6_ : Aside0 (w139.heap[gb374]? = some (.cells #[.int .i64 a1_1, .int .i64 x375001_15, u375002] 42 (0, 0))) := ⟨(by rw [hw]; exact (by (with_reducible repeat (first | refine av ?_ _ | refine aC ?_ | refine au ?_ _)); refine aW ?_ NB374_388.out _; (with_reducible repeat (first | refine av ?_ _ | refine aC ?_ | refine au ?_ _)); exact BK374.out))⟩; have n7_ : Aside0 (w139.heap[gb376]? = some (.cells #[.int .i64 ((rd_T42 l0_1 a1_0).f0), .int .i64 ((rd_T42 l0_1 a1_0).f1), .slice A375_2 ((rd_T42 l0_1 a1_0).f2).length c375_2] 42 (0, 0))) := ⟨(by rw [hw]; exact (by (with_reducible repeat (first | refine av ?_ _ | refine aC ?_ | refine au ?_ _)); refine aW ?_ NB376_388.out _; (with_reducible repeat (first | refine av ?_ _ | refine aC ?_ | refine au ?_ _)); exact BK376.out))⟩; have n8_ : Aside0 (w139.heap[gb386]? = some (.cells #[.int .i64 a0_0, u387001] 28 (0, 0))) := ⟨(by rw [hw]; exact (by (with_reducible repeat (first | refine av ?_ _ | refine aC ?_ | refine au ?_ _)); refine aW ?_ NB386_388.out _; (with_reducible repeat (first | refine av ?_ _ | refine aC ?_ | refine au ?_ _)); exact BK386.out))⟩; have n9_ : Aside0 (w139.heap[gb388]? = some (.cells #[.int .i64 ((rd_T42 l0_1 x90_2).f0), .int .i64 ((rd_T42 l0_1 x90_2).f1), .slice Ao137 t395.length co137] 42 (0, 0))) := ⟨(by rw [hw]; exact (by (with_reducible repeat (first | refine av ?_ _ | refine aC ?_ | refine au ?_ _)); refine bL (cs := #[.int .i64 ((rd_T42 l0_1 x90_2).f0), .int .i64 ((rd_T42 l0_1 x90_2).f1), .slice A387_2 ((rd_T42 l0_1 x90_2).f2).length c387_2]) ?_ 2 _ rfl; (with_reducible repeat (first | refine av ?_ _ | refine aC ?_ | refine au ?_ _)); exact BK388.out))⟩; have n10_ : Aside0 (Below w.heap.size w w139) := ⟨(by rw [hw]; exact (by repeat (first | (with_reducible first | exact HB.out | apply ak | apply ah | apply aj | refine aA ?_ GE356.out | refine aA ?_ GE357.out | refine aA ?_ GE358.out | refine aA ?_ GE374.out | refine aA ?_ GE376.out | refine aA ?_ GE386.out | refine aA ?_ GE388.out) | exact HB.out)))⟩; clear hw; clear HO_375002; clear HO_387001; clear HO397; clear BK356; clear BK357; clear BK358; clear BK374; clear BK376; clear BK386; clear BK388; clear HB; have HO_375002 := n0_; have HO_387001 := n1_; have HO397 := n2_; have BK356 := n3_; have BK357 := n4_; have BK358 := n5_; have BK374 := n6_; have BK376 := n7_; have BK386 := n8_; have BK388 := n9_; have HB := n10_; clear n0_ n1_ n2_ n3_ n4_ n5_ n6_ n7_ n8_ n9_ n10_; have hnb140 := NB386_356.out; have hnc140 := NB356_386.out; have hnb141 := NB386_358.out; have hnc141 := NB358_386.out; have hnb142 := NB386_374.out; have hnc142 := NB374_386.out; have hnb143 := NB386_376.out; have hnc143 := NB376_386.out; have hcz144_0 : w139.cell? ⟨gb386, 0, none⟩ = some (.int .i64 a0_0) := (ay BK386.out 0).trans rfl; have hcz144_1 : w139.cell? ⟨gb386, 1, none⟩ = some (u387001) := (ay BK386.out 1).trans rfl; have hfz144_0 := aD BK386.out 0; have hfz144_1 := aD BK386.out 1; have hcz145_0 : w139.cell? ⟨gb388, 0, none⟩ = some (.int .i64 ((rd_T42 l0_1 x90_2).f0)) := (ay BK388.out 0).trans rfl; have hcz145_1 : w139.cell? ⟨gb388, 1, none⟩ = some (.int .i64 ((rd_T42 l0_1 x90_2).f1)) := (ay BK388.out 1).trans rfl; have hcz145_2 : w139.cell? ⟨gb388, 2, none⟩ = some (.slice Ao137 t395.length co137) := (ay BK388.out 2).trans rfl; have hfz145_0 := aD BK388.out 0; have hfz145_1 := aD BK388.out 1; have hfz145_2 := aD BK388.out 2) | ((with_reducible refine gate_builtin (b := .append) (xs := #[.tmp 105, .tmp 107]) rfl ?_); at_builtin; refine Kd.S_append k42 (w0 := w) w.heap.size rfl (.tmp 105) (.tmp 107) 26 42 (.agg #[(.int .i64 0), (.int .i64 0), (.slice none 0 0)]) 40 rfl Try.underlying26 info42 rfl (by decide) (by omega) u387001 x387001_2 (⟨(rd_T42 l0_1 x90_2).f0, (rd_T42 l0_1 x90_2).f1, t395⟩ : S42) [.int .i64 ((rd_T42 l0_1 x90_2).f0), .int .i64 ((rd_T42 l0_1 x90_2).f1), .slice Ao137 t395.length co137] (fun k_ => some k_ ≠ (u375002 : Value).ownBlock ∧ k_ ≠ gb374 ∧ k_ ≠ gb376 ∧ k_ ≠ gb388) (fun k_ => some k_ = (.slice Ao137 t395.length co137 : Value).ownBlock) rfl rfl ?aP (fun k_ hk_ => ((Kd.bM (ok' := fun k_ => ((fun k_ => some k_ ≠ (u375002 : Value).ownBlock ∧ k_ ≠ gb374 ∧ k_ ≠ gb376 ∧ k_ ≠ gb388)) k_ ∧ some k_ ≠ (u387001 : Value).ownBlock) (Kd.bU (Kd.bU (Kd.bU (Kd.R_apart' (HO397.out) (Kd.S_typed HO_387001.out) (by decide)) BK374.out (by decide)) BK376.out (by decide)) BK388.out (by decide)) (fun k_ hk => ⟨⟨hk.1.1.1.1, ⟨hk.1.1.2, ⟨hk.1.2, hk.2⟩⟩⟩, hk.1.1.1.2⟩))).1 k_ hk_.symm) ?aF ?aO ?aB ?aS ?aL ?_; (case aP => exact k42_mkM _ _ _ (⟨(rd_T42 l0_1 x90_2).f0, (rd_T42 l0_1 x90_2).f1, t395⟩ : S42) (Kd.bM (Kd.R_tight rfl (Kd.bM (ok' := fun k_ => ((fun k_ => some k_ ≠ (u375002 : Value).ownBlock ∧ k_ ≠ gb374 ∧ k_ ≠ gb376 ∧ k_ ≠ gb388)) k_ ∧ some k_ ≠ (u387001 : Value).ownBlock) (Kd.bU (Kd.bU (Kd.bU (Kd.R_apart' (HO397.out) (Kd.S_typed HO_387001.out) (by decide)) BK374.out (by decide)) BK376.out (by decide)) BK388.out (by decide)) (fun k_ hk => ⟨⟨hk.1.1.1.1, ⟨hk.1.1.2, ⟨hk.1.2, hk.2⟩⟩⟩, hk.1.1.1.2⟩))) (fun _ h_ => h_))); (case aB => exact (by repeat (first | (with_reducible first | exact HB.out | apply ak | apply ah | apply aj | refine aA ?_ GE356.out | refine aA ?_ GE357.out | refine aA ?_ GE358.out | refine aA ?_ GE374.out | refine aA ?_ GE376.out | refine aA ?_ GE386.out | refine aA ?_ GE388.out) | exact HB.out))); (case aF => exact (fun k_ hk => ⟨Kd.fresh' (Kd.bT (by (with_reducible repeat (first | apply Kd.aI | apply Kd.aJ | apply Kd.aN)); exact HO_375002.out)) k_ hk, Kd.freshB (g := gb374) (o := .cells #[.int .i64 a1_1, .int .i64 x375001_15, u375002] 42 (0, 0)) (by (with_reducible repeat (first | refine av ?_ _ | refine aC ?_ | refine au ?_ _)); exact BK374.out) k_ hk, Kd.freshB (g := gb376) (o := .cells #[.int .i64 ((rd_T42 l0_1 a1_0).f0), .int .i64 ((rd_T42 l0_1 a1_0).f1), .slice A375_2 ((rd_T42 l0_1 a1_0).f2).length c375_2] 42 (0, 0)) (by (with_reducible repeat (first | refine av ?_ _ | refine aC ?_ | refine au ?_ _)); exact BK376.out) k_ hk, Kd.freshB (g := gb388) (o := .cells #[.int .i64 ((rd_T42 l0_1 x90_2).f0), .int .i64 ((rd_T42 l0_1 x90_2).f1), .slice Ao137 t395.length co137] 42 (0, 0)) (by (with_reducible repeat (first | refine av ?_ _ | refine aC ?_ | refine au ?_ _)); exact BK388.out) k_ hk⟩)); (case aO => exact (by (with_reducible repeat (first | apply Kd.S_alloc | apply Kd.S_drewN | apply Kd.S_drew)); exact Kd.S_mono HO_387001.out (fun k_ hk => ⟨⟨hk.1, ⟨hk.2.2.1, ⟨hk.2.2.2.1, hk.2.2.2.2⟩⟩⟩, fun e_ => hk.2.1 e_⟩))); (case aS => exact (aK (by repeat (first | (with_reducible first | exact HB.out | apply ak | apply ah | apply aj | refine aA ?_ GE356.out | refine aA ?_ GE357.out | refine aA ?_ GE358.out | refine aA ?_ GE374.out | refine aA ?_ GE376.out | refine aA ?_ GE386.out | refine aA ?_ GE388.out) | exact HB.out)))); (case aL => have := LMc121.out; omega); intro v399 w146 ho hb hg hat; rw [← Ny398.out] at ho; have n0_ := dH (Kd.R_over' (by (with_reducible repeat (first | apply Kd.aI | apply Kd.aJ | apply Kd.aN)); exact HO_375002.out) (Kd.S_typed (by (with_reducible repeat (first | apply Kd.S_alloc | apply Kd.S_drewN | apply Kd.S_drew)); exact HO_387001.out)) (by decide) hg); have n1_ := dH (bY (g := gb356) (o := .cells #[.int .i64 a0_0, .slice (some ad375) l0_1.length c0_1] 28 (0, 0)) (by (with_reducible repeat (first | refine av ?_ _ | refine aC ?_ | refine au ?_ _)); exact BK356.out) hg (Kd.S_ne HO_387001.out BK356.out (by decide))); have n2_ := dH (bY (g := gb357) (o := .cells #[.int .i64 a1_0, .int .i64 a1_1, .int .i64 a1_2, .slice A1_3 l1_3.length c1_3] 36 (0, 0)) (by (with_reducible repeat (first | refine av ?_ _ | refine aC ?_ | refine au ?_ _)); exact BK357.out) hg (Kd.S_ne HO_387001.out BK357.out (by decide))); have n3_ := dH (bY (g := gb358) (o := .cells #[.int .i64 x359000_15, .slice none 0 0] 28 (0, 0)) (by (with_reducible repeat (first | refine av ?_ _ | refine aC ?_ | refine au ?_ _)); exact BK358.out) hg (Kd.S_ne HO_387001.out BK358.out (by decide))); have n4_ := dH (bY (g := gb374) (o := .cells #[.int .i64 a1_1, .int .i64 x375001_15, u375002] 42 (0, 0)) (by (with_reducible repeat (first | refine av ?_ _ | refine aC ?_ | refine au ?_ _)); exact BK374.out) hg (Kd.S_away HO_387001.out (fun _ hk => hk.2.2.1))); have n5_ := dH (bY (g := gb376) (o := .cells #[.int .i64 ((rd_T42 l0_1 a1_0).f0), .int .i64 ((rd_T42 l0_1 a1_0).f1), .slice A375_2 ((rd_T42 l0_1 a1_0).f2).length c375_2] 42 (0, 0)) (by (with_reducible repeat (first | refine av ?_ _ | refine aC ?_ | refine au ?_ _)); exact BK376.out) hg (Kd.S_away HO_387001.out (fun _ hk => hk.2.2.2.1))); have n6_ := dH (bY (g := gb386) (o := .cells #[.int .i64 a0_0, u387001] 28 (0, 0)) (by (with_reducible repeat (first | refine av ?_ _ | refine aC ?_ | refine au ?_ _)); exact BK386.out) hg (Kd.S_ne HO_387001.out BK386.out (by decide))); have n7_ := dH (bY (g := gb388) (o := .cells #[.int .i64 ((rd_T42 l0_1 x90_2).f0), .int .i64 ((rd_T42 l0_1 x90_2).f1), .slice Ao137 t395.length co137] 42 (0, 0)) (by (with_reducible repeat (first | refine av ?_ _ | refine aC ?_ | refine au ?_ _)); exact BK388.out) hg (Kd.S_away HO_387001.out (fun _ hk => hk.2.2.2.2))); have n8_ := dH (hb); have n9_ := dH (ho); clear HO_375002; clear BK356; clear BK357; clear BK358; clear BK374; clear BK376; clear BK386; clear BK388; clear HB; clear HO_387001; clear HO397; have HO_375002 := n0_; have BK356 := n1_; have BK357 := n2_; have BK358 := n3_; have BK374 := n4_; have BK376 := n5_; have BK386 := n6_; have BK388 := n7_; have HB := n8_; have HO400 := n9_; clear n0_ n1_ n2_ n3_ n4_ n5_ n6_ n7_ n8_ n9_; clear ho hb hg hat; obtain ⟨Ao147, co147, eo147⟩ := Kd.S_slice HO400.out; subst eo147; have hcz148_0 : w146.cell? ⟨gb386, 0, none⟩ = some (.int .i64 a0_0) := (ay BK386.out 0).trans rfl; have hcz148_1 : w146.cell? ⟨gb386, 1, none⟩ = some (u387001) := (ay BK386.out 1).trans rfl; have hfz148_0 := aD BK386.out 0; have hfz148_1 := aD BK386.out 1))
             go_roundg k2
             case measure => have := HJ15.out; have := HK2.out; omega
             case rel => exact ⟨(wrap64 (x90_2 + 1)), (y398), (.slice Ao147 y398.length co147), (by first | rfl | (simp; done) | (simp [*]; done)), H', ⟨by have := HJ15.out; have := HK2.out; omega⟩, ⟨by (with_reducible repeat (first | apply Kd.aI | apply Kd.aJ | apply Kd.aN)); exact Kd.bM (Kd.bV (p := ⟨gb386, 1, none⟩) (Kd.bU HO_375002.out BK386.out (by decide)) (fun _ hk => hk.2) (.slice Ao147 y398.length co147)) (fun _ hk => trivial)⟩, ⟨by (with_reducible repeat (first | apply Kd.S_alloc | apply Kd.S_drewN | apply Kd.S_drew)); exact Kd.S_mono (Kd.S_far (p := ⟨gb386, 1, none⟩) (Kd.S_types HO400.out BK386.out (by decide)) (fun _ hk => hk.2) (.slice Ao147 y398.length co147)) (fun _ hk => ⟨hk.1.1, ⟨hk.1.2.1, hk.1.2.2.1⟩⟩)⟩, ⟨by (with_reducible repeat (first | refine av ?_ _ | refine aC ?_ | refine au ?_ _)); refine aW ?_ NB356_386.out _; (with_reducible repeat (first | refine av ?_ _ | refine aC ?_ | refine au ?_ _)); exact BK356.out⟩, ⟨by (with_reducible repeat (first | refine av ?_ _ | refine aC ?_ | refine au ?_ _)); refine aW ?_ NB357_386.out _; (with_reducible repeat (first | refine av ?_ _ | refine aC ?_ | refine au ?_ _)); exact BK357.out⟩, ⟨by (with_reducible repeat (first | refine av ?_ _ | refine aC ?_ | refine au ?_ _)); refine aW ?_ NB358_386.out _; (with_reducible repeat (first | refine av ?_ _ | refine aC ?_ | refine au ?_ _)); exact BK358.out⟩, ⟨by (with_reducible repeat (first | refine av ?_ _ | refine aC ?_ | refine au ?_ _)); refine aW ?_ NB374_386.out _; (with_reducible repeat (first | refine av ?_ _ | refine aC ?_ | refine au ?_ _)); exact BK374.out⟩, ⟨by (with_reducible repeat (first | refine av ?_ _ | refine aC ?_ | refine au ?_ _)); refine aW ?_ NB376_386.out _; (with_reducible repeat (first | refine av ?_ _ | refine aC ?_ | refine au ?_ _)); exact BK376.out⟩, ⟨by (with_reducible repeat (first | refine av ?_ _ | refine aC ?_ | refine au ?_ _)); refine bL (cs := #[.int .i64 a0_0, u387001]) ?_ 1 _ rfl; (with_reducible repeat (first | refine av ?_ _ | refine aC ?_ | refine au ?_ _)); exact BK386.out⟩, ⟨by repeat (first | (with_reducible first | exact HB.out | apply ak | apply ah | apply aj | refine aA ?_ GE356.out | refine aA ?_ GE357.out | refine aA ?_ GE358.out | refine aA ?_ GE374.out | refine aA ?_ GE376.out | refine aA ?_ GE386.out | refine aA ?_ GE388.out) | exact HB.out)⟩⟩
            ·
             rw [if_neg c121] at H
             exact absurd H (by simp)
          ·
           rw [if_neg c84] at H
           exact absurd H (by simp)
         ·
          rw [if_neg c83] at H
          exact absurd H (by simp)
        ·
         rw [if_neg c82] at H
         have c82b0 : decide (x90_2 < (l0_1.length : Int)) = false := decide_eq_false c82
         clear c82
         simp only [Option.some.injEq, Prod.mk.injEq] at H
         obtain ⟨rfl, rfl, rfl⟩ := H
         have hnb149 := NB386_356.out
         have hnc149 := NB356_386.out
         have hnb150 := NB386_357.out
         have hnc150 := NB357_386.out
         have hnb151 := NB386_358.out
         have hnc151 := NB358_386.out
         have hnb152 := NB386_374.out
         have hnc152 := NB374_386.out
         have hnb153 := NB386_376.out
         have hnc153 := NB376_386.out
         have hcz154_0 : wr.cell? ⟨gb386, 0, none⟩ = some (.int .i64 a0_0) := (ay BK386.out 0).trans rfl
         have hcz154_1 : wr.cell? ⟨gb386, 1, none⟩ = some (u387001) := (ay BK386.out 1).trans rfl
         have hfz154_0 := aD BK386.out 0
         have hfz154_1 := aD BK386.out 1
         have hnb155 := NB358_356.out
         have hnc155 := NB356_358.out
         have hnb156 := NB358_357.out
         have hnc156 := NB357_358.out
         have hnb157 := NB358_374.out
         have hnc157 := NB374_358.out
         have hnb158 := NB358_376.out
         have hnc158 := NB376_358.out
         have hcz159_0 : wr.cell? ⟨gb358, 0, none⟩ = some (.int .i64 x359000_15) := (ay BK358.out 0).trans rfl
         have hcz159_1 : wr.cell? ⟨gb358, 1, none⟩ = some (.slice none 0 0) := (ay BK358.out 1).trans rfl
         have hfz159_0 := aD BK358.out 0
         have hfz159_1 := aD BK358.out 1
         obtain ⟨Ao160, co160, eo160⟩ := Kd.S_slice HO_387001.out
         subst eo160
         go_wp2
         refine bodyPost_ret (results_ct rfl _ _ gb358 28 #[.int .i64 a0_0, .slice Ao160 x387001_2.length co160] (0, 0) _ rfl (by (with_reducible repeat (first | refine av ?_ _ | refine aC ?_ | refine au ?_ _)); refine bL (cs := #[.int .i64 a0_0, .slice none 0 0]) ?_ 1 _ rfl; (with_reducible repeat (first | refine av ?_ _ | refine aC ?_ | refine au ?_ _)); refine bL (cs := #[.int .i64 x359000_15, .slice none 0 0]) ?_ 0 _ rfl; (with_reducible repeat (first | refine av ?_ _ | refine aC ?_ | refine au ?_ _)); exact BK358.out) Try.underlying28 rfl (by kernel_rfl)) rfl ?_
         exact ⟨_, by first | rfl | (simp [aX, aY] <;> rfl) | (simp [*, aX, aY] <;> rfl), by (with_reducible repeat (first | apply Kd.S_alloc | apply Kd.S_drewN | apply Kd.S_drew)); exact Kd.S_mono (Kd.S_far (p := ⟨gb358, 1, none⟩) (Kd.S_far (p := ⟨gb358, 0, none⟩) (Kd.S_types HO_387001.out BK358.out (by decide)) (fun _ hk => hk.2) (.int .i64 a0_0)) (fun _ hk => hk.2) (.slice Ao160 x387001_2.length co160)) (fun _ hk => trivial), by repeat (first | (with_reducible first | exact HB.out | apply ak | apply ah | apply aj | refine aA ?_ GE356.out | refine aA ?_ GE357.out | refine aA ?_ GE358.out | refine aA ?_ GE374.out | refine aA ?_ GE376.out | refine aA ?_ GE386.out) | exact HB.out)⟩
   ·
    rw [if_neg c15] at H
    exact absurd H (by simp)
  ·
   rw [if_neg c14] at H
   exact absurd H (by simp)
 ·
  rw [if_neg c12] at H
  exact absurd H (by simp)
end Go.Proofs.Ytbjiookpiminmaa.PCode
end
