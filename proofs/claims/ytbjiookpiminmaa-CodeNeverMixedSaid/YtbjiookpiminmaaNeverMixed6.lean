/- Words and contracts for the claim's theorem, part 6 (joined by program out of the texts of this claim's proof; what it does not use is struck). -/
import Derived.Test.YtbjiookpiminmaaNeverMixed5
set_option linter.unusedVariables false
set_option linter.unusedSimpArgs false
set_option linter.unusedSectionVars false
set_option maxHeartbeats 8000000
set_option maxRecDepth 1000000
section
namespace Go.Proofs.Ytbjiookpiminmaa.PCode
open Go.RowKit Go.Proofs.YtbjiookpiminmaaW.PrintWords Go.Proofs.YtbjiookpiminmaaW.PrintLast Go.Proofs.YtbjiookpiminmaaW.PrintMore
theorem firstz_l0 (l : List Int) (hz : ∀ x ∈ l, x = 0) (hl : l.length ≤ 100) : ∀ d i k, l.length - i ≤ d → i ≤ l.length → d < k → code_first.l0 k l (l.length : Int) (i : Int) = some 0 := by
 intro d
 induction d with
 | zero =>
  intro i k h1 h2 h3
  obtain ⟨k, rfl⟩ : ∃ m, k = m + 1 := ⟨k - 1, by omega⟩
  simp only [code_first.l0]
  rw [if_neg (by omega)]
 | succ d ih =>
  intro i k h1 h2 h3
  obtain ⟨k, rfl⟩ : ∃ m, k = m + 1 := ⟨k - 1, by omega⟩
  simp only [code_first.l0]
  by_cases hi : i < l.length
  ·
   rw [if_pos (by omega), if_pos (by omega), if_pos (by omega), rd_at l i hi, if_pos (hz _ (List.getElem_mem hi)), w1_ i (by omega)]
   exact ih (i + 1) k (by omega) (by omega) (by omega)
  ·
   rw [if_neg (by omega)]
theorem firstz_ (l : List Int) (hz : ∀ x ∈ l, x = 0) (hl : l.length ≤ 100) (k : Nat) (hk : l.length < k) : code_first.f k l = some 0 := by
 unfold code_first.f
 exact firstz_l0 l hz hl l.length 0 k (by omega) (by omega) hk
theorem unless_t (e : Int) : code_unless.f true e = some 0 := rfl
theorem upToB_iff (m x : Int) : upToB m x = true ↔ -m ≤ x ∧ x ≤ m := by simp [upToB]
theorem any_badSum {l : List Int} (h : ∀ x ∈ l, -1000000000 ≤ x ∧ x ≤ 1000000000) : l.any badSum = false := by
 rw [List.any_eq_false]
 intro x hx
 simp [badSum, (upToB_iff 1000000000 x).2 (h x hx)]
theorem processErr_ {L : Nat} {M : Int} {ps : List S42} (h : Valid L M ps) (hM : M ≤ 1000000000) (p : S42) (hm : p ∈ ps) (k : Nat) (hk : 10 ≤ k) : code_processErr.f k p.f0 p.f1 p.f2 (L : Int) = some 0 := by
 have t1 := h.tog _ hm
 have t2 := h.c1 _ hm
 have t3 := h.st _ hm
 have t4 := h.len _ hm
 have t5 := h.sum _ hm
 have t6 := h.zero _ hm
 unfold code_processErr.f slices_ContainsFunc_int_int_at_code_processErr_1.f slices_ContainsFunc_int_int_at_code_processErr_2.f
 have hb : (p.f0 == -1) = (p.f1 == 0) := by
  by_cases hq : p.f1 = 0
  ·
   rw [t3.2 hq, hq]; rfl
  ·
   rw [beq_eq_false_iff_ne.2 hq, beq_eq_false_iff_ne.2 (fun e => hq (t3.1 e))]
 rw [cwithin_, cwithin_, decide_eq_true (show (-1 : Int) ≤ p.f0 ∧ p.f0 ≤ 1 by omega), decide_eq_true (show (0 : Int) ≤ p.f1 ∧ p.f1 ≤ 1000000000 by omega), hb, t4, any_badSum (fun x hx => by have := t5 x hx; omega)]
 simp only [Option.bind_some, if_true, unless_t, beq_self_eq_true, Bool.not_false]
 split
 ·
  rename_i hq
  have : p.f2.any notNull = false := by
   rw [t6 hq, List.any_eq_false]
   intro x hx
   obtain rfl := List.eq_of_mem_replicate hx
   simp [notNull]
  rw [this]
  simp only [Bool.not_false, unless_t, Option.bind_some]
  rw [firstz_ _ (by simp) (by simp) k (by simp; omega)]
  rfl
 ·
  rw [firstz_ _ (by simp) (by simp) k (by simp; omega)]
  rfl
theorem cbuffers_l0 {L : Nat} {M : Int} {ps : List S42} (h : Valid L M ps) (hM : M ≤ 1000000000) : ∀ d i k, ps.length - i ≤ d → i ≤ ps.length → d + 20 < k → code_buffersErr.l0 k ps (ps.length : Int) (i : Int) (L : Int) ps = some 0 := by
 have hn2 := h.n2
 intro d
 induction d with
 | zero =>
  intro i k h1 h2 h3
  obtain ⟨k, rfl⟩ : ∃ m, k = m + 1 := ⟨k - 1, by omega⟩
  simp only [code_buffersErr.l0]
  rw [if_neg (by omega)]
 | succ d ih =>
  intro i k h1 h2 h3
  obtain ⟨k, rfl⟩ : ∃ m, k = m + 1 := ⟨k - 1, by omega⟩
  simp only [code_buffersErr.l0]
  by_cases hi : i < ps.length
  ·
   rw [if_pos (by omega), if_pos (by omega), if_pos (by omega), rd42_at ps i hi, processErr_ h hM _ (List.getElem_mem hi) k (by omega)]
   simp only [Option.bind_some, if_true]
   rw [w1_ i (by omega)]
   exact ih (i + 1) k (by omega) (by omega) (by omega)
  ·
   rw [if_neg (by omega)]
theorem cbuffers_ {L : Nat} {M : Int} {ps : List S42} (h : Valid L M ps) (hM : M ≤ 1000000000) (k : Nat) (hk : 40 ≤ k) : code_buffersErr.f k (L : Int) ps = some 0 := by
 have h1 := h.l1
 have h2 := h.l2
 have h3 := h.n1
 have h4 := h.n2
 unfold code_buffersErr.f code_isLength.f
 rw [cwithin_, decide_eq_true (by omega), decide_eq_true (by omega), decide_eq_true (by omega)]
 simp only [Option.bind_some, unless_t]
 rw [firstz_ _ (by simp) (by simp) k (by simp; omega)]
 simp only [Option.bind_some, if_true]
 exact cbuffers_l0 h hM ps.length 0 k (by omega) (by omega) (by omega)
def sumL (a b : List Int) : List Int := List.zipWith (· + ·) a b
theorem sumL_length {a b : List Int} (h : a.length = b.length) : (sumL a b).length = a.length := by simp [sumL, h]
theorem sumL_get {a b : List Int} (i : Nat) (h1 : i < a.length) (h2 : i < b.length) (h : i < (sumL a b).length) : (sumL a b)[i] = a[i] + b[i] := by simp [sumL]
theorem combined_l0 (a b : List Int) (hab : a.length = b.length) (hl : a.length ≤ 1000) (hs : ∀ x ∈ sumL a b, -1000000000 ≤ x ∧ x ≤ 1000000000) : ∀ d i k, a.length - i ≤ d → i ≤ a.length → d < k →
  code_combined.l0 k b ((sumL a b).take i) a (a.length : Int) (i : Int) = some (sumL a b, 0) := by
 have hsl := sumL_length hab
 have hend : ∀ i k, ¬ i < a.length → code_combined.l0 (k + 1) b ((sumL a b).take i) a (a.length : Int) (i : Int) = some (sumL a b, 0) := by
  intro i k hi
  simp only [code_combined.l0, slices_ContainsFunc_int_int_at_code_combined_1.f]
  rw [if_neg (by omega), List.take_of_length_le (by omega), any_badSum hs]
  simp
 intro d
 induction d with
 | zero =>
  intro i k h1 h2 h3
  obtain ⟨k, rfl⟩ : ∃ m, k = m + 1 := ⟨k - 1, by omega⟩
  exact hend i k (by omega)
 | succ d ih =>
  intro i k h1 h2 h3
  obtain ⟨k, rfl⟩ : ∃ m, k = m + 1 := ⟨k - 1, by omega⟩
  by_cases hi : i < a.length
  ·
   simp only [code_combined.l0]
   have hg := sumL_get (a := a) (b := b) i hi (by omega) (by omega)
   have hb := hs _ (List.getElem_mem (show i < (sumL a b).length by omega))
   rw [if_pos (by omega), if_pos (by omega), if_pos (by omega), if_pos (by omega), if_pos (by rw [dz]; omega), rd_at a i hi, rd_at b i (by omega), w1_ i (by omega)]
   have hw : wrap64 (a[i] + b[i]) = (sumL a b)[i] := by rw [hg] at hb ⊢; unfold wrap64; omega
   rw [hw, ← List.take_succ_eq_append_getElem (by omega)]
   exact ih (i + 1) k (by omega) (by omega) (by omega)
  ·
   exact hend i k hi
theorem combined_ (a b : List Int) (hab : a.length = b.length) (hl : a.length ≤ 1000) (hs : ∀ x ∈ sumL a b, -1000000000 ≤ x ∧ x ≤ 1000000000) (k : Nat) (hk : a.length < k) : code_combined.f k a b = some (sumL a b, 0) := by
 unfold code_combined.f
 have := combined_l0 a b hab hl hs a.length 0 k (by omega) (by omega) hk
 simpa using this
theorem receive_l0 (L : Int) (ps : List S42) (hn : ps.length ≤ 8) (p : Nat) (t v : Int) (soft : List Int) (q : S42) (hlen : ∀ x ∈ ps, x.f2.length ≤ 1000) (hq : q.f2.length ≤ 1000) : ∀ d i k, ps.length - i ≤ d → i ≤ ps.length → d < k →
  code_Receive.l0 k ps (ps.length : Int) (i : Int) (p : Int) t v soft q.f0 q.f1 q.f2 L ((ps.set p q).take i) = some (L, ps.set p q, 0) := by
 have hcl : ∀ l : List Int, l.length ≤ 1000 → slices_Clone_int_int.f l = some l := fun l h => by unfold slices_Clone_int_int.f; rw [if_pos (by omega)]
 intro d
 induction d with
 | zero =>
  intro i k h1 h2 h3
  obtain ⟨k, rfl⟩ : ∃ m, k = m + 1 := ⟨k - 1, by omega⟩
  simp only [code_Receive.l0]
  rw [if_neg (by omega), List.take_of_length_le (by simp; omega)]
 | succ d ih =>
  intro i k h1 h2 h3
  obtain ⟨k, rfl⟩ : ∃ m, k = m + 1 := ⟨k - 1, by omega⟩
  simp only [code_Receive.l0]
  by_cases hi : i < ps.length
  ·
   rw [if_pos (by omega), if_pos (by omega), if_pos (by omega), rd42_at ps i hi, hcl _ hq, hcl _ (hlen _ (List.getElem_mem hi)), w1_ i (by omega)]
   simp only [Option.bind_some]
   have hh := ih (i + 1) k (by omega) (by omega) (by omega)
   rw [List.take_succ_eq_append_getElem (show i < (ps.set p q).length by simp; omega)] at hh
   by_cases hip : (i : Int) = (p : Int)
   ·
    obtain rfl : i = p := by omega
    rw [if_pos rfl, if_pos (by rw [dz, List.length_set]; omega)]
    rw [List.getElem_set_self] at hh
    exact hh
   ·
    rw [if_neg hip, if_pos (by rw [dz, List.length_set]; omega)]
    rw [List.getElem_set_ne (by omega)] at hh
    exact hh
  ·
   rw [if_neg (by omega), List.take_of_length_le (by simp; omega)]
def newP (o : S42) (t v : Int) (L : Nat) (soft : List Int) : S42 := if o.f0 = t then ⟨t, o.f1 + 1, sumL o.f2 (gatheredV soft v.toNat L)⟩ else ⟨t, 1, gatheredV soft v.toNat L⟩
theorem gath_bound (soft : List Int) (hs : ∀ x ∈ soft, -1000000 ≤ x ∧ x ≤ 1000000) (version L : Nat) (hL : 1 ≤ L) (a : List Int) (ha : a.length = L) (A : Int) (hA : ∀ x ∈ a, -A ≤ x ∧ x ≤ A) (hA2 : A ≤ 900000000) :
  ∀ n, n ≤ soft.length → n ≤ 30 → ((List.range n).foldl (gstep soft L version) a).length = L ∧ ((List.range n).foldl (gstep soft L version) (List.replicate L 0)).length = L ∧
   (∀ j (h1 : j < ((List.range n).foldl (gstep soft L version) a).length) (h2 : j < ((List.range n).foldl (gstep soft L version) (List.replicate L 0)).length) (h3 : j < a.length), ((List.range n).foldl (gstep soft L version) a)[j] = a[j] + ((List.range n).foldl (gstep soft L version) (List.replicate L 0))[j]
    ∧ -(1000000 * (n : Int)) ≤ ((List.range n).foldl (gstep soft L version) (List.replicate L 0))[j] ∧ ((List.range n).foldl (gstep soft L version) (List.replicate L 0))[j] ≤ 1000000 * (n : Int)) := by
 intro n
 induction n with
 | zero => intro _ _; refine ⟨by simpa using ha, by simp, ?_⟩; intro j h1 h2 h3; simp
 | succ n ih =>
  intro h1 h2
  obtain ⟨i1, i2, i3⟩ := ih (by omega) (by omega)
  rw [List.range_succ, List.foldl_append, List.foldl_append]
  simp only [List.foldl_cons, List.foldl_nil]
  generalize (List.range n).foldl (gstep soft L version) a = u at i1 i3
  generalize (List.range n).foldl (gstep soft L version) (List.replicate L 0) = z at i2 i3
  have hp : placeOf L version n < L := Nat.mod_lt _ (by omega)
  refine ⟨by rw [gstep_length, i1], by rw [gstep_length, i2], ?_⟩
  intro j g1 g2 g3
  rw [gstep_length] at g1 g2
  obtain ⟨k1, k2, k3⟩ := i3 j g1 g2 g3
  have ha1 := hA _ (List.getElem_mem g3)
  have hsn := hs _ (List.getElem_mem (show n < soft.length by omega))
  have hsd : soft.getD n 0 = soft[n] := by simp [List.getD_eq_getElem?_getD, List.getElem?_eq_getElem (show n < soft.length by omega)]
  unfold gstep
  by_cases hj : j = placeOf L version n
  ·
   subst hj
   simp only [List.getElem_set_self]
   have hu : u.getD (placeOf L version n) 0 = u[placeOf L version n] := by simp [List.getD_eq_getElem?_getD, List.getElem?_eq_getElem g1]
   have hz : z.getD (placeOf L version n) 0 = z[placeOf L version n] := by simp [List.getD_eq_getElem?_getD, List.getElem?_eq_getElem g2]
   rw [hu, hz, hsd, k1]
   unfold wrap64
   push_cast
   omega
  ·
   rw [List.getElem_set_ne (fun e => hj e.symm), List.getElem_set_ne (fun e => hj e.symm)]
   push_cast
   omega
theorem gath_sum (soft : List Int) (hs : ∀ x ∈ soft, -1000000 ≤ x ∧ x ≤ 1000000) (hn : soft.length ≤ 30) (version L : Nat) (hL : 1 ≤ L) (a : List Int) (ha : a.length = L) (A : Int) (hA : ∀ x ∈ a, -A ≤ x ∧ x ≤ A) (hA2 : A ≤ 900000000) :
  (List.range soft.length).foldl (gstep soft L version) a = sumL a (gatheredV soft version L) ∧ (gatheredV soft version L).length = L ∧ ∀ x ∈ gatheredV soft version L, -30000000 ≤ x ∧ x ≤ 30000000 := by
 obtain ⟨h1, h2, h3⟩ := gath_bound soft hs version L hL a ha A hA hA2 soft.length (Nat.le_refl _) hn
 have hg : gatheredV soft version L = (List.range soft.length).foldl (gstep soft L version) (List.replicate L 0) := rfl
 refine ⟨?_, by rw [hg, h2], ?_⟩
 ·
  apply List.ext_getElem
  ·
   rw [h1, sumL_length (by rw [ha, hg, h2]), ha]
  ·
   intro j g1 g2
   rw [sumL_get j (by omega) (by rw [hg]; omega) g2]
   exact (h3 j g1 (by omega) (by omega)).1
 ·
  intro x hx
  obtain ⟨j, hj, rfl⟩ := List.getElem_of_mem hx
  rw [hg] at hj
  have := (h3 j (by omega) hj (by omega)).2
  have h4 : (gatheredV soft version L)[j]'(by rw [hg]; exact hj) = ((List.range soft.length).foldl (gstep soft L version) (List.replicate L 0))[j] := rfl
  rw [h4]
  have : (soft.length : Int) ≤ 30 := by omega
  omega
theorem newP_ok (o : S42) (t v : Int) (L : Nat) (hL : 1 ≤ L) (soft : List Int) (hn : soft.length ≤ 30) (hs : ∀ x ∈ soft, -1000000 ≤ x ∧ x ≤ 1000000) (M : Int) (hM0 : 0 ≤ M) (hM : M ≤ 900000000) (ho : o.f2.length = L) (hb : ∀ x ∈ o.f2, -M ≤ x ∧ x ≤ M) :
  (newP o t v L soft).f2.length = L ∧ ∀ x ∈ (newP o t v L soft).f2, -(M + 30000000) ≤ x ∧ x ≤ M + 30000000 := by
 obtain ⟨h1, h2, h3⟩ := gath_sum soft hs hn v.toNat L hL o.f2 ho M hb hM
 unfold newP
 split
 ·
  refine ⟨by show (sumL _ _).length = _; rw [sumL_length (by omega), ho], ?_⟩
  intro x hx
  obtain ⟨j, hj, rfl⟩ := List.getElem_of_mem hx
  have hj' : j < (sumL o.f2 (gatheredV soft v.toNat L)).length := hj
  have hl := sumL_length (show o.f2.length = (gatheredV soft v.toNat L).length by omega)
  show _ ≤ (sumL o.f2 (gatheredV soft v.toNat L))[j] ∧ (sumL o.f2 (gatheredV soft v.toNat L))[j] ≤ _
  rw [sumL_get j (by omega) (by omega) hj']
  have := hb _ (List.getElem_mem (show j < o.f2.length by omega))
  have := h3 _ (List.getElem_mem (show j < (gatheredV soft v.toNat L).length by omega))
  omega
 ·
  exact ⟨h2, fun x hx => by have := h3 x hx; omega⟩
theorem receive_ {L : Nat} {M : Int} {ps : List S42} (h : Valid L M ps) (hM0 : 1 ≤ M) (hM : M ≤ 900000000) (p : Nat) (hp : p < ps.length) (t v : Int) (ht : t = 0 ∨ t = 1) (hv : 0 ≤ v ∧ v ≤ 3) (soft : List Int) (hn0 : 0 < soft.length) (hn : soft.length ≤ 30) (hs : ∀ x ∈ soft, -1000000 ≤ x ∧ x ≤ 1000000) (k : Nat) (hk : 100 ≤ k) :
  code_Receive.f k (L : Int) ps (p : Int) t v soft = some ((L : Int), ps.set p (newP ps[p] t v L soft), 0) ∧ Valid L (M + 30000000) (ps.set p (newP ps[p] t v L soft)) := by
 have h1 := h.l1
 have h2 := h.l2
 have h3 := h.n1
 have h4 := h.n2
 have hm : ps[p] ∈ ps := List.getElem_mem hp
 have ho := h.len _ hm
 have hb := h.sum _ hm
 have hc := h.c1 _ hm
 obtain ⟨g1, g2, g3⟩ := gath_sum soft hs hn v.toNat L h1 ps[p].f2 ho M hb hM
 obtain ⟨q1, q2⟩ := newP_ok ps[p] t v L h1 soft hn hs M (by omega) hM ho hb
 have hw : wrap64 ((ps.length : Int) - 1) = (ps.length : Int) - 1 := by unfold wrap64; omega
 have hbit : code_isBit.f t = some true := by unfold code_isBit.f; rcases ht with rfl | rfl <;> rfl
 have hver : code_isVersion.f v = some true := by unfold code_isVersion.f; rw [cwithin_, decide_eq_true (by omega)]; rfl
 have hsoft : code_softErr.f soft = some 0 := by
  unfold code_softErr.f listErrV
  have : (soft.any fun x => !upToB 1000000 x) = false := by
   rw [List.any_eq_false]
   intro x hx
   simp [(upToB_iff 1000000 x).2 (hs x hx)]
  rw [this, decide_eq_true (by omega), decide_eq_true (by omega)]
  rfl
 have hgath : code_gathered.f soft v (L : Int) = some (gatheredV soft v.toNat L) := by
  unfold code_gathered.f
  rw [if_pos (by omega), Int.toNat_natCast]
 refine ⟨?_, ?_⟩
 ·
  unfold code_Receive.f
  rw [cbuffers_ h (by omega) k (by omega), cwithin_, hw, decide_eq_true (by omega), hbit, hver, hsoft, hgath]
  simp only [Option.bind_some, unless_t]
  rw [firstz_ _ (by simp) (by simp) k (by simp; omega)]
  simp only [Option.bind_some, if_true]
  rw [if_pos (by omega), if_pos (by omega), rd42_at ps p hp]
  have hlen : ∀ x ∈ ps, x.f2.length ≤ 1000 := fun x hx => by have := h.len x hx; omega
  obtain ⟨k, rfl⟩ : ∃ m, k = m + 1 := ⟨k - 1, by omega⟩
  by_cases he : ps[p].f0 = t
  ·
   have hnew : newP ps[p] t v L soft = ⟨t, ps[p].f1 + 1, sumL ps[p].f2 (gatheredV soft v.toNat L)⟩ := by unfold newP; rw [if_pos he]
   have hsum : ∀ x ∈ sumL ps[p].f2 (gatheredV soft v.toNat L), -1000000000 ≤ x ∧ x ≤ 1000000000 := fun x hx => by
    have := q2 x (by rw [hnew]; exact hx)
    omega
   have hw1 : wrap64 (ps[p].f1 + 1) = ps[p].f1 + 1 := by unfold wrap64; omega
   rw [if_pos he, combined_ _ _ (by omega) (by omega) hsum (k + 1) (by omega), hw1, decide_eq_true (by omega)]
   simp only [Option.bind_some, unless_t]
   rw [firstz_ _ (by simp) (by simp) (k + 1) (by simp; omega)]
   simp only [Option.bind_some, if_true, code_Receive.j0]
   have := receive_l0 (L : Int) ps h4 p t v soft (newP ps[p] t v L soft) hlen (by omega) ps.length 0 k (by omega) (by omega) (by omega)
   rw [hnew] at this ⊢
   simpa using this
  ·
   have hnew : newP ps[p] t v L soft = ⟨t, 1, gatheredV soft v.toNat L⟩ := by unfold newP; rw [if_neg he]
   rw [if_neg he]
   simp only [code_Receive.j0]
   have := receive_l0 (L : Int) ps h4 p t v soft (newP ps[p] t v L soft) hlen (by omega) ps.length 0 k (by omega) (by omega) (by omega)
   rw [hnew] at this ⊢
   simpa using this
 ·
  have hmem : ∀ x ∈ ps.set p (newP ps[p] t v L soft), x ∈ ps ∨ x = newP ps[p] t v L soft := fun x hx => List.mem_or_eq_of_mem_set hx
  have hf0 : (newP ps[p] t v L soft).f0 = t := by unfold newP; split <;> rfl
  have hf1 : 1 ≤ (newP ps[p] t v L soft).f1 ∧ (newP ps[p] t v L soft).f1 ≤ M + 1 := by
   unfold newP
   split
   ·
    show 1 ≤ ps[p].f1 + 1 ∧ _; constructor
    ·
     omega
    ·
     show ps[p].f1 + 1 ≤ _; omega
   ·
    show (1 : Int) ≤ 1 ∧ _; constructor
    ·
     omega
    ·
     show (1 : Int) ≤ _; omega
  refine ⟨h1, h2, by simpa using h3, by simpa using h4, ?_, ?_, ?_, ?_, ?_, ?_⟩
  ·
   intro x hx
   rcases hmem x hx with hx | rfl
   ·
    exact h.tog x hx
   ·
    rw [hf0]; omega
  ·
   intro x hx
   rcases hmem x hx with hx | rfl
   ·
    have := h.c1 x hx; omega
   ·
    omega
  ·
   intro x hx
   rcases hmem x hx with hx | rfl
   ·
    exact h.st x hx
   ·
    rw [hf0]; omega
  ·
   intro x hx
   rcases hmem x hx with hx | rfl
   ·
    exact h.len x hx
   ·
    exact q1
  ·
   intro x hx y hy
   rcases hmem x hx with hx | rfl
   ·
    have := h.sum x hx y hy; omega
   ·
    exact q2 y hy
  ·
   intro x hx h0
   rcases hmem x hx with hx | rfl
   ·
    exact h.zero x hx h0
   ·
    omega
end Go.Proofs.Ytbjiookpiminmaa.PCode
end
section
namespace Go.Proofs.Ytbjiookpiminmaa.PCode
open Go.RowKit Go.Proofs.YtbjiookpiminmaaW.PrintWords Go.Proofs.YtbjiookpiminmaaW.PrintLast Go.Proofs.YtbjiookpiminmaaW.PrintMore
attribute [local go_sem] max2_int min2_int max_two min_two max_three min_three max_four min_four   -- for this text's walks alone
def code_CheckPoly.f (k : Nat) (a0_0 : Int) (a0_1 : Int) : Option (Int) := (code_within.f a0_0 1 16).bind fun t116 => (if t116 = true then (if 0 ≤ a0_0 then ((code_within.f a0_1 1 (wrap64 ((shl .i64 1 a0_0) - 1))).bind fun t117 => ((code_unless.f t117 2).bind fun t118 => ((code_unless.f ((Int.tmod a0_1 2) == 1) 3).bind fun t119 => ((code_first.f k (([t118, t119] : List Int))).bind fun t123 => (some t123))))) else (none)) else (some 2))
def code_CheckPoly.T3 : Bool × List (List Nat × List Nat) := (true, [([], []), ([0], [0]), ([], []), ([2], [2]), ([3], [3]), ([4], [4]), ([1, 5], [1, 5]), ([6, 6], [6]), ([], []), ([8], [8]), ([9], [9]), ([10], [10]), ([11, 7], [11]), ([7, 12], [7, 12]), ([13, 12], [13]), ([14, 14, 0, 1, 2, 3, 4, 5, 6, 7, 8, 9, 10, 11, 12, 13, 14], [14])])
def code_CheckPoly.B3 : List Nat := [0, 1, 0, 4, 12, 28, 63, 127, 0, 256, 768, 1792, 4095, 8191, 16383, 32767]
theorem code_CheckPoly.tab3 : rtab .any (opsOf Try.f138 3) = code_CheckPoly.T3 := by kernel_rfl
theorem code_CheckPoly.bits3 : waitsOk code_CheckPoly.T3.2 code_CheckPoly.B3 = true := by kernel_rfl
theorem code_CheckPoly.calls (k : Nat) (a0_0 : Int) (a0_1 : Int) (r : Int) (w : World) (h : code_CheckPoly.f k a0_0 a0_1 = some r) :
  Calls Try.prog 138 #[.agg #[.int .i64 a0_0, .int .i64 a0_1]] w fun e w' => e = .returned (.int .i64 r) ∧ Below w.heap.size w w' := by
 have hu68 := Try.underlying68
 have HB := dH (Below.refl w.heap.size w)
 have H : ((code_within.f a0_0 1 16).bind fun t116 => (if t116 = true then (if 0 ≤ a0_0 then ((code_within.f a0_1 1 (wrap64 ((shl .i64 1 a0_0) - 1))).bind fun t117 => ((code_unless.f t117 2).bind fun t118 => ((code_unless.f ((Int.tmod a0_1 2) == 1) 3).bind fun t119 => ((code_first.f k (([t118, t119] : List Int))).bind fun t123 => (some t123))))) else (none)) else (some 2))) = some r := h
 clear h
 replace H := dF.mp H
 obtain ⟨t116, A20, H⟩ := H
 replace H : (if t116 = true then (if 0 ≤ a0_0 then ((code_within.f a0_1 1 (wrap64 ((shl .i64 1 a0_0) - 1))).bind fun t117 => ((code_unless.f t117 2).bind fun t118 => ((code_unless.f ((Int.tmod a0_1 2) == 1) 3).bind fun t119 => ((code_first.f k (([t118, t119] : List Int))).bind fun t123 => (some t123))))) else (none)) else (some 2)) = some r := H
 have A2 := dH A20
 clear A20
 by_cases c3 : t116 = true
 ·
  subst c3
  have H1 : (if 0 ≤ a0_0 then ((code_within.f a0_1 1 (wrap64 ((shl .i64 1 a0_0) - 1))).bind fun t117 => ((code_unless.f t117 2).bind fun t118 => ((code_unless.f ((Int.tmod a0_1 2) == 1) 3).bind fun t119 => ((code_first.f k (([t118, t119] : List Int))).bind fun t123 => (some t123))))) else (none)) = some r := by rw [if_pos rfl] at H; exact H
  clear H
  have H := H1
  clear H1
  by_cases c4 : 0 ≤ a0_0
  ·
   rw [if_pos c4] at H
   have c4b0 := eq_true c4
   have c4b1 : decide (0 ≤ a0_0) = true := decide_eq_true c4
   clear c4
   obtain ⟨ji5, hji5⟩ : ∃ j_ : Int, (shl .i64 1 a0_0) = j_ := ⟨_, rfl⟩
   replace H : ((code_within.f a0_1 1 (wrap64 ((ji5) - 1))).bind fun t117 => ((code_unless.f t117 2).bind fun t118 => ((code_unless.f ((Int.tmod a0_1 2) == 1) 3).bind fun t119 => ((code_first.f k (([t118, t119] : List Int))).bind fun t123 => (some t123))))) = some r := by first | (rw [hji5] at H; exact H) | (simp only [hji5] at H ⊢; exact H)
   (try rw [hji5] at A2)
   have hji5_ : (IntKind.i64.wrap (1 * 2 ^ min a0_0.toNat 64)) = ji5 := hji5
   have hji5z : a0_0 ≤ 64 → (IntKind.i64.wrap (1 * 2 ^ a0_0.toNat)) = ji5 := shl_small hji5
   have hji5u : (IntKind.i64.wrap (2 ^ min a0_0.toNat 64)) = ji5 := by have h_ := hji5_; rw [Int.one_mul] at h_; exact h_
   have hji5v : a0_0 ≤ 64 → (IntKind.i64.wrap (2 ^ a0_0.toNat)) = ji5 := fun hle_ => by have h_ := hji5z hle_; rw [Int.one_mul] at h_; exact h_
   have hji5y : (wrap64 (1 * 2 ^ min a0_0.toNat 64)) = ji5 := (aG _).symm.trans hji5_
   have hji5x : a0_0 ≤ 64 → (wrap64 (1 * 2 ^ a0_0.toNat)) = ji5 := fun h_ => (aG _).symm.trans (hji5z h_)
   replace H := dF.mp H
   obtain ⟨t117, A60, H⟩ := H
   replace H : ((code_unless.f t117 2).bind fun t118 => ((code_unless.f ((Int.tmod a0_1 2) == 1) 3).bind fun t119 => ((code_first.f k (([t118, t119] : List Int))).bind fun t123 => (some t123)))) = some r := H
   have A6 := dH A60
   clear A60
   replace H := dF.mp H
   obtain ⟨t118, A70, H⟩ := H
   replace H : ((code_unless.f ((Int.tmod a0_1 2) == 1) 3).bind fun t119 => ((code_first.f k (([t118, t119] : List Int))).bind fun t123 => (some t123))) = some r := H
   have A7 := dH A70
   clear A70
   replace H := dF.mp H
   obtain ⟨t119, A80, H⟩ := H
   replace H : ((code_first.f k (([t118, t119] : List Int))).bind fun t123 => (some t123)) = some r := H
   have A8 := dH A80
   clear A80
   obtain ⟨y120, hy120⟩ : ∃ y_ : List Int, y_ = (([t118, t119] : List Int)) := ⟨_, rfl⟩
   replace H : ((code_first.f k y120).bind fun t123 => (some t123)) = some r := by first | (rw [hy120]; with_reducible exact H) | (have H2_ := (Option.bind_some _ _).symm.trans H; rw [hy120]; with_reducible exact H2_) | (have H2_ := (Option.bind_some _ _).symm.trans H; with_reducible exact H2_) | with_reducible exact H | (rw [hy120]; exact H) | exact H
   have Ny120 := dH hy120
   clear hy120
   replace H := dF.mp H
   obtain ⟨t123, A90, H⟩ := H
   replace H : (some t123) = some r := H
   have A9 := dH A90
   clear A90
   obtain rfl := Option.some.inj H
   go_enter Try.func138, Try.ntmps138
   try go_wp2_with (first | ((with_reducible refine bg (N := 1) rfl ?_); refine bI ?hg (N := 1) ?hd (cs := #[.int .i64 a0_0, .int .i64 a0_1]) (t := 68) ?hr ?_; (case hd => rfl); (case hg => rfl); (case hr => first | (go_simp; done) | (go_simp; rfl)); intro gb115 hg w10 hbox hb; have n0_ := dH (aM (by repeat (first | (with_reducible first | exact HB.out | apply ak | apply ah | apply aj) | exact HB.out)) hb); have n1_ := dH (hbox); have n2_ := dH ((by rw [hg]; exact (aK (by repeat (first | (with_reducible first | exact HB.out | apply ak | apply ah | apply aj) | exact HB.out))) : w.heap.size ≤ gb115)); have n3_ := dH ((by rw [hg]; exact (aK (by repeat (first | (with_reducible first | exact HB.out | apply ak | apply ah | apply aj) | exact HB.out))) : w.heap.size ≤ gb115)); clear HB; have HB := n0_; have BK115 := n1_; have GW115 := n2_; have GE115 := n3_; clear n0_ n1_ n2_ n3_; clear hb hbox hg; have hcz11_0 : w10.cell? ⟨gb115, 0, none⟩ = some (.int .i64 a0_0) := (ay BK115.out 0).trans rfl; have hcz11_1 : w10.cell? ⟨gb115, 1, none⟩ = some (.int .i64 a0_1) := (ay BK115.out 1).trans rfl; have hfz11_0 := aD BK115.out 0; have hfz11_1 := aD BK115.out 1) | ((with_reducible refine aT (f := 69) rfl ?_); refine bq (some 5) rfl rfl Try.func69 (by kernel_rfl) rfl #[.int .i64 a0_0, .int .i64 1, .int .i64 16] rfl (by (try simp only [dh, dn, dw]); first | done | rfl | (simp only [dx, dz]; rfl) | (simp only [gt_iff_lt, dA]; rfl) | (simp [Act.eval]; done) | (simp [Act.eval, *]; done)) ?_; (with_reducible refine (code_within.calls a0_0 1 16 true _ A2.out).mono ?_); rintro e w' ⟨rfl, ⟨nd, rfl⟩⟩; refine ⟨_, rfl, ?_⟩))
   (try (rw [drewN_self w10]; generalize hq_ : World.drewN w10 _ = w10; have n0_ : Aside0 (w10.heap[gb115]? = some (.cells #[.int .i64 a0_0, .int .i64 a0_1] 68 (0, 0))) := ⟨by rw [← hq_]; exact (by (with_reducible repeat (first | refine av ?_ _ | refine aC ?_ | refine au ?_ _)); exact BK115.out)⟩; have n1_ : Aside0 (Below w.heap.size w w10) := ⟨by rw [← hq_]; exact (by repeat (first | (with_reducible first | exact HB.out | apply ak | apply ah | apply aj | refine aA ?_ GE115.out) | exact HB.out))⟩; clear BK115 HB hq_; have BK115 := n0_; have HB := n1_; clear n0_ n1_))
   have n0_ := dH (aC BK115.out)
   have n1_ := dH (aj HB.out)
   clear BK115
   clear HB
   have BK115 := n0_
   have HB := n1_
   clear n0_ n1_
   refine b_ (n := 16) (S := fun w' => w'.cell? ⟨gb115, 0, none⟩ = some (.int .i64 a0_0) ∧ w'.cell? ⟨gb115, 1, none⟩ = some (.int .i64 a0_1)) (ds := []) (dG 16 0) (by kernel_rfl) rfl rfl ⟨(ay BK115.out 0).trans rfl, (ay BK115.out 1).trans rfl⟩ (fun hHeld => ?_); refine bZ code_CheckPoly.tab3 code_CheckPoly.bits3 (fun HT_ HW_ => ?_)
   generalize w10.drew = w12 at BK115 HB hHeld ⊢
   refine aV (i := 0) (N := some 7) (v := ?_) (a' := ?_) (dG 16 1) rfl rfl (aU HT_.out (by kernel_rfl)) (fun _ _ _ h => h) (Or.inl ⟨by rfl, ?_⟩) ?_ ?_
   rotate_left
   ·
    intro w'
    go_simp
    with_reducible rfl
   rotate_left
   ·
    simp only [Act.put, cO, cZ, d9, aG, aH]
    rfl
   refine aV (i := 2) (N := some 9) (v := ?_) (a' := ?_) (dG 16 5) rfl rfl (aU HT_.out (by kernel_rfl)) (fun _ _ _ h => h) (Or.inl ⟨by rfl, ?_⟩) ?_ ?_
   rotate_left
   ·
    intro w'
    go_simp
    with_reducible rfl
   rotate_left
   ·
    simp only [Act.put, cO, cZ, d9, aG, aH]
    rfl
   refine aV (i := 8) (N := some 15) (v := ?_) (a' := ?_) (dG 16 261) rfl rfl (aU HT_.out (by kernel_rfl)) (fun _ _ _ h => h) (Or.inl ⟨by rfl, ?_⟩) ?_ ?_
   rotate_left
   ·
    intro w'
    go_simp
    with_reducible rfl
   rotate_left
   ·
    simp only [Act.put, cO, cZ, d9, aG, aH]
    rfl
   refine bK (i := 1) (N := some 8) (v := ?_) (a' := ?_) (dG 16 263) rfl rfl (bD HT_.out HW_.out (by kernel_rfl)) (fun _ _ _ h => h) (Or.inl ⟨by rfl, ?_⟩) hHeld ?_ ?_
   rotate_left
   ·
    rintro w' ⟨s0, s1⟩
    go_simp
    with_reducible rfl
   rotate_left
   ·
    simp only [Act.put, cO, cZ, d9, aG, aH]
    rfl
   refine bK (i := 3) (N := some 10) (v := ?_) (a' := ?_) (dG 16 271) rfl rfl (bD HT_.out HW_.out (by kernel_rfl)) (fun _ _ _ h => h) (Or.inl ⟨by rfl, ?_⟩) hHeld ?_ ?_
   rotate_left
   ·
    rintro w' ⟨s0, s1⟩
    go_simp
    with_reducible rfl
   rotate_left
   ·
    simp only [Act.put, cO, cZ, d9, aG, aH]
    rfl
   refine aV (i := 4) (N := some 11) (v := ?_) (a' := ?_) (dG 16 287) rfl rfl (aU HT_.out (by kernel_rfl)) (fun _ _ _ h => h) (Or.inl ⟨by rfl, ?_⟩) ?_ ?_
   rotate_left
   ·
    intro w'
    go_simp
    with_reducible rfl
   rotate_left
   ·
    simp only [Act.put, cO, cZ, d9, aG, aH]
    rfl
   refine aV (i := 5) (N := some 12) (v := ?_) (a' := ?_) (dG 16 319) rfl rfl (aU HT_.out (by kernel_rfl)) (fun _ _ _ h => h) (Or.inl ⟨by rfl, ?_⟩) ?_ ?_
   rotate_left
   ·
    intro w'
    go_simp
    with_reducible rfl
   rotate_left
   ·
    simp only [Act.put, cO, cZ, d9, aG, aH]
    rfl
   refine bK (i := 9) (N := some 16) (v := ?_) (a' := ?_) (dG 16 831) rfl rfl (bD HT_.out HW_.out (by kernel_rfl)) (fun _ _ _ h => h) (Or.inl ⟨by rfl, ?_⟩) hHeld ?_ ?_
   rotate_left
   ·
    rintro w' ⟨s0, s1⟩
    go_simp
    with_reducible rfl
   rotate_left
   ·
    simp only [Act.put, cO, cZ, d9, aG, aH]
    rfl
   refine aV (i := 10) (N := some 17) (v := ?_) (a' := ?_) (dG 16 1855) rfl rfl (aU HT_.out (by kernel_rfl)) (fun _ _ _ h => h) (Or.inl ⟨by rfl, ?_⟩) ?_ ?_
   rotate_left
   ·
    intro w'
    go_simp
    with_reducible rfl
   rotate_left
   ·
    simp only [Act.put, cO, cZ, d9, aG, aH]
    rfl
   refine aV (i := 11) (N := some 18) (v := ?_) (a' := ?_) (dG 16 3903) rfl rfl (aU HT_.out (by kernel_rfl)) (fun _ _ _ h => h) (Or.inl ⟨by rfl, ?_⟩) ?_ ?_
   rotate_left
   ·
    intro w'
    go_simp
    with_reducible rfl
   rotate_left
   ·
    simp only [Act.put, cO, cZ, d9, aG, aH]
    rfl
   refine bR (i := 6) (N := some 13) (dG 16 3967) rfl rfl (bB HT_.out (by kernel_rfl)) (by decide) (fun K hK => ?_)
   refine bQ Try.func69 (by kernel_rfl) rfl #[.int .i64 a0_1, .int .i64 1, .int .i64 (wrap64 ((ji5) - 1))] (by rfl) rfl rfl (by (try simp only [dh, dn, dw]); first | done | (simp only [hji5]; rfl) | rfl | (simp only [dx, dz]; rfl) | (simp only [gt_iff_lt, dA]; rfl) | (simp [Act.eval]; done) | (simp [Act.eval, *]; done)) ?_
   with_reducible refine (code_within.calls a0_1 1 (wrap64 ((ji5) - 1)) t117 _ A6.out).mono ?_
   rintro e w' ⟨rfl, ⟨nd, rfl⟩⟩
   refine ⟨_, rfl, ?_⟩
   refine hK.out _ _ ⟨(ay BK115.out 0).trans rfl, (ay BK115.out 1).trans rfl⟩ (fun hHeld => ?_)
   clear hK K
   refine bG (a' := ?_) ?_ ?_
   rotate_left
   ·
    show Act.put _ (some 13) _ = _
    simp only [Act.put, cO, cZ, d9, aG, aH]
    rfl
   refine bR (i := 7) (N := some 14) (dG 16 4095) rfl rfl (bB HT_.out (by kernel_rfl)) (by decide) (fun K hK => ?_)
   refine bQ Try.func74 (by kernel_rfl) rfl #[.bool t117, .int .i64 2] (by rfl) rfl rfl (by (try simp only [dh, dn, dw]); first | done | rfl | (simp only [dx, dz]; rfl) | (simp only [gt_iff_lt, dA]; rfl) | (simp [Act.eval]; done) | (simp [Act.eval, *]; done)) ?_
   with_reducible refine (code_unless.calls t117 2 t118 _ A7.out).mono ?_
   rintro e w' ⟨rfl, ⟨nd, rfl⟩⟩
   refine ⟨_, rfl, ?_⟩
   refine hK.out _ _ ⟨(ay BK115.out 0).trans rfl, (ay BK115.out 1).trans rfl⟩ (fun hHeld => ?_)
   clear hK K
   refine bG (a' := ?_) ?_ ?_
   rotate_left
   ·
    show Act.put _ (some 14) _ = _
    simp only [Act.put, cO, cZ, d9, aG, aH]
    rfl
   refine bR (i := 12) (N := some 19) (dG 16 8191) rfl rfl (bB HT_.out (by kernel_rfl)) (by decide) (fun K hK => ?_)
   refine bQ Try.func74 (by kernel_rfl) rfl #[.bool ((Int.tmod a0_1 2) == 1), .int .i64 3] (by rfl) rfl rfl (by (try simp only [dh, dn, dw]); first | done | rfl | (simp only [dx, dz]; rfl) | (simp only [gt_iff_lt, dA]; rfl) | (simp [Act.eval]; done) | (simp [Act.eval, *]; done)) ?_
   with_reducible refine (code_unless.calls ((Int.tmod a0_1 2) == 1) 3 t119 _ A8.out).mono ?_
   rintro e w' ⟨rfl, ⟨nd, rfl⟩⟩
   refine ⟨_, rfl, ?_⟩
   refine hK.out _ _ ⟨(ay BK115.out 0).trans rfl, (ay BK115.out 1).trans rfl⟩ (fun hHeld => ?_)
   clear hK K
   refine bG (a' := ?_) ?_ ?_
   rotate_left
   ·
    show Act.put _ (some 19) _ = _
    simp only [Act.put, cO, cZ, d9, aG, aH]
    rfl
   refine bR (i := 13) (N := some 20) (dG 16 16383) rfl rfl (bB HT_.out (by kernel_rfl)) (by decide) (fun K hK => ?_)
   refine Kd.R_lit_step (Kd.int .i64) _ 29 ?hg (N := 20) ?hd (xs := ([t118, t119] : List Int)) (inner := [.int .i64 t118, .int .i64 t119]) (ok := fun _ => True) (okp := fun _ => True) ?hr ?hp (fun _ hk => hk) trivial (Below.refl _ _) (Nat.le_refl _) (by simp) ?_; (case hd => rfl); (case hg => rfl); (case hr => first | (go_simp; done) | (go_simp; rfl)); (case hp => exact (Reps.one (show Kd.M (Kd.int .i64) _ _ _ t118 [.int .i64 t118] from rfl) (Reps.one (show Kd.M (Kd.int .i64) _ _ _ t119 [.int .i64 t119] from rfl) (Reps.none _ _))))
   intro v121 w13 ho14 hb hg_ hnew_
   clear hg_ hnew_
   (first | rw [← Ny120.out] at ho14 | (simp only [Int.reduceToNat] at ho14; rw [← Ny120.out] at ho14))
   have n0_ := dH (Kd.bP ho14 (aK (by repeat (first | (with_reducible first | exact HB.out | apply ak | apply ah | apply aj | refine aA ?_ GE115.out) | exact HB.out))))
   have n1_ := dH (aQ (g := gb115) (o := .cells #[.int .i64 a0_0, .int .i64 a0_1] 68 (0, 0)) (by (with_reducible repeat (first | refine av ?_ _ | refine aC ?_ | refine au ?_ _)); exact BK115.out) hb)
   have n2_ := dH (aM (by repeat (first | (with_reducible first | exact HB.out | apply ak | apply ah | apply aj | refine aA ?_ GE115.out) | exact HB.out)) hb)
   clear BK115
   clear HB
   have HO122 := n0_
   have BK115 := n1_
   have HB := n2_
   clear n0_ n1_ n2_
   clear hb ho14
   obtain ⟨Ao15, co15, eo15⟩ := Kd.bN HO122.out
   (first | subst eo15 | (injection eo15 with f1_ f2_ f3_; have f4_ := f1_.symm; have f5_ := f3_.symm; clear f1_ f2_ f3_; subst f4_; subst f5_))
   refine hK.out _ _ ⟨(ay BK115.out 0).trans rfl, (ay BK115.out 1).trans rfl⟩ (fun hHeld => ?_)
   clear hK K
   refine bG (a' := ?_) ?_ ?_
   rotate_left
   ·
    show Act.put _ (some 20) _ = _
    simp only [Act.put, cO, cZ, d9, aG, aH]
    rfl
   refine bR (i := 14) (N := some 21) (dG 16 32767) rfl rfl (bB HT_.out (by kernel_rfl)) (by decide) (fun K hK => ?_)
   refine bQ Try.func72 (by kernel_rfl) rfl #[.slice Ao15 y120.length co15] (by rfl) rfl rfl (by (try simp only [dh, dn, dw]); first | done | rfl | (simp only [dx, dz]; rfl) | (simp only [gt_iff_lt, dA]; rfl) | (simp [Act.eval]; done) | (simp [Act.eval, *]; done)) ?_
   with_reducible refine (code_first.calls k _ _ y120 t123 _ ?side1 ?side2 A9.out).mono ?_
   (case side1 => repeat (first | exact (Kd.aZ HO122.out).2.2 | (with_reducible refine Kd.bA ?_ _) | (with_reducible refine Kd.bC ?_ _) | (with_reducible refine Kd.bJ ?_)))
   (case side2 => exact (Kd.aZ HO122.out).2.1)
   rintro e w' ⟨rfl, ⟨nd, rfl⟩⟩
   refine ⟨_, rfl, ?_⟩
   refine hK.out _ _ ⟨(ay BK115.out 0).trans rfl, (ay BK115.out 1).trans rfl⟩ (fun hHeld => ?_)
   clear hK K
   refine bG (a' := ?_) ?_ ?_
   rotate_left
   ·
    show Act.put _ (some 21) _ = _
    simp only [Act.put, cO, cZ, d9, aG, aH]
    rfl
   refine aV (i := 15) (N := some 2) (v := ?_) (a' := ?_) (dG 16 65535) rfl rfl (aU HT_.out (by kernel_rfl)) (fun _ _ _ h => h) (Or.inl ⟨by rfl, ?_⟩) ?_ ?_
   rotate_left
   ·
    intro w'
    go_simp
    with_reducible rfl
   rotate_left
   ·
    simp only [Act.put, cO, cZ, d9, aG, aH]
    rfl
   refine done_ (cK HT_.out (by kernel_rfl)) ?_
   try go_wp2
   go_ret
   exact ⟨by first | rfl | (simp [aX, aY] <;> rfl) | (simp only [← hji5]; first | rfl | (simp [aX, aY] <;> rfl)) | (simp [*, aX, aY] <;> rfl), by repeat (first | (with_reducible first | exact HB.out | apply ak | apply ah | apply aj | refine aA ?_ GE115.out) | exact HB.out)⟩
  ·
   rw [if_neg c4] at H
   exact absurd H (by simp)
 ·
  replace c3 := Bool.eq_false_iff.mpr c3
  subst c3
  have H1 : (some 2) = some r := by rw [if_neg (show ¬ (false = true) by decide)] at H; exact H
  clear H
  have H := H1
  clear H1
  obtain rfl := Option.some.inj H
  go_enter Try.func138, Try.ntmps138
  go_wp2_with (first | ((with_reducible refine bg (N := 1) rfl ?_); refine bI ?hg (N := 1) ?hd (cs := #[.int .i64 a0_0, .int .i64 a0_1]) (t := 68) ?hr ?_; (case hd => rfl); (case hg => rfl); (case hr => first | (go_simp; done) | (go_simp; rfl)); intro gb115 hg w16 hbox hb; have n0_ := dH (aM (by repeat (first | (with_reducible first | exact HB.out | apply ak | apply ah | apply aj) | exact HB.out)) hb); have n1_ := dH (hbox); have n2_ := dH ((by rw [hg]; exact (aK (by repeat (first | (with_reducible first | exact HB.out | apply ak | apply ah | apply aj) | exact HB.out))) : w.heap.size ≤ gb115)); have n3_ := dH ((by rw [hg]; exact (aK (by repeat (first | (with_reducible first | exact HB.out | apply ak | apply ah | apply aj) | exact HB.out))) : w.heap.size ≤ gb115)); clear HB; have HB := n0_; have BK115 := n1_; have GW115 := n2_; have GE115 := n3_; clear n0_ n1_ n2_ n3_; clear hb hbox hg; have hcz17_0 : w16.cell? ⟨gb115, 0, none⟩ = some (.int .i64 a0_0) := (ay BK115.out 0).trans rfl; have hcz17_1 : w16.cell? ⟨gb115, 1, none⟩ = some (.int .i64 a0_1) := (ay BK115.out 1).trans rfl; have hfz17_0 := aD BK115.out 0; have hfz17_1 := aD BK115.out 1) | ((with_reducible refine aT (f := 69) rfl ?_); refine bq (some 5) rfl rfl Try.func69 (by kernel_rfl) rfl #[.int .i64 a0_0, .int .i64 1, .int .i64 16] rfl (by (try simp only [dh, dn, dw]); first | done | rfl | (simp only [dx, dz]; rfl) | (simp only [gt_iff_lt, dA]; rfl) | (simp [Act.eval]; done) | (simp [Act.eval, *]; done)) ?_; (with_reducible refine (code_within.calls a0_0 1 16 false _ A2.out).mono ?_); rintro e w' ⟨rfl, ⟨nd, rfl⟩⟩; refine ⟨_, rfl, ?_⟩))
  go_ret
  exact ⟨by first | rfl | (simp [aX, aY] <;> rfl) | (simp [*, aX, aY] <;> rfl), by repeat (first | (with_reducible first | exact HB.out | apply ak | apply ah | apply aj | refine aA ?_ GE115.out) | exact HB.out)⟩
mutual
def code_remainder.l0 : Nat → Int → Int → List Int → Int → Int → Int → Int → Option (List Int)
 | 0, _, _, _, _, _, _, _ => none
 | k + 1, x5, x6, x16, x17, x18, x125000, x125001 => if x18 < x17 then (if 0 ≤ x18 then (if x18 < (x16.length : Int) then (if (((Go.bits .and .i64 x6 x5) != 0) != ((rd x16 x18) == 1)) = true then (code_remainder.l0 k x5 (Go.bits .xor .i64 (Go.bits .and .i64 (wrap64 (x6 * 2)) (wrap64 ((wrap64 (2 * x5)) - 1))) x125001) x16 x17 (wrap64 (x18 + 1)) x125000 x125001) else (code_remainder.l0 k x5 (Go.bits .and .i64 (wrap64 (x6 * 2)) (wrap64 ((wrap64 (2 * x5)) - 1))) x16 x17 (wrap64 (x18 + 1)) x125000 x125001)) else (none)) else (none)) else (code_remainder.l1 k x5 x6 ([] : List Int))
def code_remainder.l1 : Nat → Int → Int → List Int → Option (List Int)
 | 0, _, _, _ => none
 | k + 1, x5, x6, x10 => if x5 > 0 then (if (Go.bits .and .i64 x6 x5) = 0 then (if x10.length < 17592186044416 then (code_remainder.l1 k (x5 / 2) x6 (x10 ++ [0])) else (none)) else (if x10.length < 17592186044416 then (code_remainder.l1 k (x5 / 2) x6 (x10 ++ [1])) else (none))) else (some x10)
end
def code_remainder.f (k : Nat) (a0_0 : Int) (a0_1 : Int) (l1 : List Int) : Option (List Int) := if 0 ≤ (wrap64 (a0_0 - 1)) then (code_remainder.l0 k (shl .i64 1 (wrap64 (a0_0 - 1))) 0 l1 (l1.length : Int) 0 a0_0 a0_1) else (none)
theorem code_remainder.calls (k : Nat) (a0_0 : Int) (a0_1 : Int) (A1 : Option Addr) (c1 : Nat) (l1 : List Int) (r : List Int) (w : World) (hr1 : Kd.C (Kd.int .i64) w A1 l1.length l1) (hc1 : l1.length ≤ c1) (h : code_remainder.f k a0_0 a0_1 l1 = some r) :
  Calls Try.prog 139 #[.agg #[.int .i64 a0_0, .int .i64 a0_1], .slice A1 l1.length c1] w fun e w' => ∃ v0_ : Value, e = .returned (v0_) ∧ Kd.R (Kd.int .i64) 3 w' w.heap.size (fun _ => True) v0_ r ∧ Below w.heap.size w w' := by
 have hu68 := Try.underlying68
 have HR1 := dH hr1
 have HC1 := dH hc1
 clear hr1 hc1
 have HB := dH (Below.refl w.heap.size w)
 have H : (if 0 ≤ (wrap64 (a0_0 - 1)) then (code_remainder.l0 k (shl .i64 1 (wrap64 (a0_0 - 1))) 0 l1 (l1.length : Int) 0 a0_0 a0_1) else (none)) = some r := h
 clear h
 obtain ⟨ji3, hji3⟩ : ∃ j_ : Int, (wrap64 (a0_0 - 1)) = j_ := ⟨_, rfl⟩
 replace H : (if 0 ≤ (ji3) then (code_remainder.l0 k (shl .i64 1 (ji3)) 0 l1 (l1.length : Int) 0 a0_0 a0_1) else (none)) = some r := by first | (rw [hji3] at H; exact H) | (simp only [hji3] at H ⊢; exact H)
 have hji3w : (IntKind.i64.wrap (a0_0 - 1)) = ji3 := (aG _).trans hji3
 by_cases c4 : 0 ≤ (ji3)
 ·
  rw [if_pos c4] at H
  have c4b0 := eq_true c4
  have c4b1 : decide (0 ≤ (ji3)) = true := decide_eq_true c4
  clear c4
  obtain ⟨ji5, hji5⟩ : ∃ j_ : Int, (shl .i64 1 (ji3)) = j_ := ⟨_, rfl⟩
  replace H : (code_remainder.l0 k ji5 0 l1 (l1.length : Int) 0 a0_0 a0_1) = some r := by first | (rw [hji5] at H; exact H) | (simp only [hji5] at H ⊢; exact H)
  have hji5_ : (IntKind.i64.wrap (1 * 2 ^ min (ji3).toNat 64)) = ji5 := hji5
  have hji5z : (ji3) ≤ 64 → (IntKind.i64.wrap (1 * 2 ^ (ji3).toNat)) = ji5 := shl_small hji5
  have hji5u : (IntKind.i64.wrap (2 ^ min (ji3).toNat 64)) = ji5 := by have h_ := hji5_; rw [Int.one_mul] at h_; exact h_
  have hji5v : (ji3) ≤ 64 → (IntKind.i64.wrap (2 ^ (ji3).toNat)) = ji5 := fun hle_ => by have h_ := hji5z hle_; rw [Int.one_mul] at h_; exact h_
  have hji5y : (wrap64 (1 * 2 ^ min (ji3).toNat 64)) = ji5 := (aG _).symm.trans hji5_
  have hji5x : (ji3) ≤ 64 → (wrap64 (1 * 2 ^ (ji3).toNat)) = ji5 := fun h_ => (aG _).symm.trans (hji5z h_)
  have H' := dH H
  clear H
  go_enter Try.func139, Try.ntmps139
  go_wp2_with (first | ((with_reducible refine bg (N := 2) rfl ?_); refine bI ?hg (N := 2) ?hd (cs := #[.int .i64 a0_0, .int .i64 a0_1]) (t := 68) ?hr ?_; (case hd => rfl); (case hg => rfl); (case hr => first | (go_simp; done) | (go_simp; rfl)); intro gb124 hg w6 hbox hb; have n0_ := dH (aM (by repeat (first | (with_reducible first | exact HB.out | apply ak | apply ah | apply aj) | exact HB.out)) hb); have n1_ := dH (hbox); have n2_ := dH ((by rw [hg]; exact (aK (by repeat (first | (with_reducible first | exact HB.out | apply ak | apply ah | apply aj) | exact HB.out))) : w.heap.size ≤ gb124)); have n3_ := dH ((by rw [hg]; exact (aK (by repeat (first | (with_reducible first | exact HB.out | apply ak | apply ah | apply aj) | exact HB.out))) : w.heap.size ≤ gb124)); clear HB; have HB := n0_; have BK124 := n1_; have GW124 := n2_; have GE124 := n3_; clear n0_ n1_ n2_ n3_; clear hb hbox hg; have hcz7_0 : w6.cell? ⟨gb124, 0, none⟩ = some (.int .i64 a0_0) := (ay BK124.out 0).trans rfl; have hcz7_1 : w6.cell? ⟨gb124, 1, none⟩ = some (.int .i64 a0_1) := (ay BK124.out 1).trans rfl; have hfz7_0 := aD BK124.out 0; have hfz7_1 := aD BK124.out 1))
  go_loopg [6, 18] k (fun kq v6 v18 w' => ∃ (x6_1 : Int) (x18_1 : Int), v6 = .int .i64 x6_1 ∧ v18 = .int .i64 x18_1 ∧ Aside0 (code_remainder.l0 kq ji5 x6_1 l1 (l1.length : Int) x18_1 a0_0 a0_1 = some r) ∧ Aside0 (kq ≤ k) ∧ Aside0 (w'.heap[gb124]? = some (.cells #[.int .i64 a0_0, .int .i64 a0_1] 68 (0, 0))) ∧ Aside0 (Below w.heap.size w w'))
  case atStart => exact ⟨(0), (0), (by first | rfl | (simp; done) | (simp [*]; done)), (by first | rfl | (simp; done) | (simp [*]; done)), H', ⟨Nat.le_refl _⟩, ⟨by (with_reducible repeat (first | refine av ?_ _ | refine aC ?_ | refine au ?_ _)); exact BK124.out⟩, ⟨by repeat (first | (with_reducible first | exact HB.out | apply ak | apply ah | apply aj | refine aA ?_ GE124.out) | exact HB.out)⟩⟩
  case round =>
   clear H'
   try clear c1
   try clear p2
   try clear c4
   try clear c4b0
   try clear c4b1
   try clear p6
   try clear hcz7_0
   try clear hcz7_1
   try clear hfz7_0
   try clear hfz7_1
   obtain ⟨x6_1, x18_1, rfl, rfl, HA, HK1, BK124, HB⟩ := hrel
   cases gk with
   | zero => exact absurd HA.out (by simp [code_remainder.l0])
   | succ k1 =>
    have H := HA.out
    clear HA
    simp only [code_remainder.l0] at H
    by_cases c8 : x18_1 < (l1.length : Int)
    ·
     rw [if_pos c8] at H
     have c8b0 : decide (x18_1 < (l1.length : Int)) = true := decide_eq_true c8
     clear c8
     by_cases c9 : 0 ≤ x18_1
     ·
      rw [if_pos c9] at H
      have c9b0 : decide (0 ≤ x18_1) = true := decide_eq_true c9
      clear c9
      by_cases c10 : x18_1 < (l1.length : Int)
      ·
       rw [if_pos c10] at H
       have c10b0 : decide (x18_1 < (l1.length : Int)) = true := decide_eq_true c10
       clear c10
       by_cases c11 : (((Go.bits .and .i64 x6_1 ji5) != 0) != ((rd l1 x18_1) == 1)) = true
       ·
        rw [if_pos c11] at H
        have c11b0 : (((Go.bits .and .i64 x6_1 ji5) != 0) != ((rd l1 x18_1) == 1)) = true := c11
        (try (have c11b1 : decide (((Go.bits .and .i64 x6_1 ji5) != 0) = ((rd l1 x18_1) == 1)) = false := by simpa using c11))
        (try (have c11b2 : (((Go.bits .and .i64 x6_1 ji5) != 0) == ((rd l1 x18_1) == 1)) = false := by simpa using c11))
        (try (have c11b3 : ¬ (((Go.bits .and .i64 x6_1 ji5) != 0) = ((rd l1 x18_1) == 1)) := by simpa using c11))
        clear c11
        have H' := dH H
        clear H
        have p125 : 0 ≤ (x18_1 : Int) := dD (by first | (with_reducible assumption) | assumption)
        have q125 : x18_1 < (l1.length : Int) := dD (by first | (with_reducible assumption) | assumption)
        obtain ⟨ad125, e125, hx125_0⟩ := Kd.bX HR1.out x18_1 p125 q125
        cases e125
        replace hx125_0 := (HB.out.cell (dB w _ hx125_0)).trans hx125_0
        replace p125 := eq_true p125
        replace q125 := eq_true q125
        have hcz12_0 : wr.cell? ⟨gb124, 0, none⟩ = some (.int .i64 a0_0) := (ay BK124.out 0).trans rfl
        have hcz12_1 : wr.cell? ⟨gb124, 1, none⟩ = some (.int .i64 a0_1) := (ay BK124.out 1).trans rfl
        have hfz12_0 := aD BK124.out 0
        have hfz12_1 := aD BK124.out 1
        go_wp2
        go_roundg k1
        case measure => have := HK1.out; omega
        case rel => exact ⟨(Go.bits .xor .i64 (Go.bits .and .i64 (wrap64 (x6_1 * 2)) (wrap64 ((wrap64 (2 * ji5)) - 1))) a0_1), (wrap64 (x18_1 + 1)), (by first | rfl | (simp; done) | (simp only [← hji5] <;> (first | rfl | simp)) | (simp [*]; done)), (by first | rfl | (simp; done) | (simp [*]; done)), H', ⟨by have := HK1.out; omega⟩, ⟨by (with_reducible repeat (first | refine av ?_ _ | refine aC ?_ | refine au ?_ _)); exact BK124.out⟩, ⟨by repeat (first | (with_reducible first | exact HB.out | apply ak | apply ah | apply aj | refine aA ?_ GE124.out) | exact HB.out)⟩⟩
       ·
        rw [if_neg c11] at H
        have c11b0 : (((Go.bits .and .i64 x6_1 ji5) != 0) != ((rd l1 x18_1) == 1)) = false := by simpa using c11
        (try (have c11b1 : decide (((Go.bits .and .i64 x6_1 ji5) != 0) = ((rd l1 x18_1) == 1)) = true := by simpa using c11))
        (try (have c11b2 : (((Go.bits .and .i64 x6_1 ji5) != 0) == ((rd l1 x18_1) == 1)) = true := by simpa using c11))
        clear c11
        have H' := dH H
        clear H
        have p125 : 0 ≤ (x18_1 : Int) := dD (by first | (with_reducible assumption) | assumption)
        have q125 : x18_1 < (l1.length : Int) := dD (by first | (with_reducible assumption) | assumption)
        obtain ⟨ad125, e125, hx125_0⟩ := Kd.bX HR1.out x18_1 p125 q125
        cases e125
        replace hx125_0 := (HB.out.cell (dB w _ hx125_0)).trans hx125_0
        replace p125 := eq_true p125
        replace q125 := eq_true q125
        go_wp2
        go_roundg k1
        case measure => have := HK1.out; omega
        case rel => exact ⟨(Go.bits .and .i64 (wrap64 (x6_1 * 2)) (wrap64 ((wrap64 (2 * ji5)) - 1))), (wrap64 (x18_1 + 1)), (by first | rfl | (simp; done) | (simp only [← hji5] <;> (first | rfl | simp)) | (simp [*]; done)), (by first | rfl | (simp; done) | (simp [*]; done)), H', ⟨by have := HK1.out; omega⟩, ⟨by (with_reducible repeat (first | refine av ?_ _ | refine aC ?_ | refine au ?_ _)); exact BK124.out⟩, ⟨by repeat (first | (with_reducible first | exact HB.out | apply ak | apply ah | apply aj | refine aA ?_ GE124.out) | exact HB.out)⟩⟩
      ·
       rw [if_neg c10] at H
       exact absurd H (by simp)
     ·
      rw [if_neg c9] at H
      exact absurd H (by simp)
    ·
     rw [if_neg c8] at H
     have c8b0 : decide (x18_1 < (l1.length : Int)) = false := decide_eq_false c8
     clear c8
     have H' := dH H
     clear H
     go_wp2
     go_loopg [5, 10] k1 (fun kq v5 v10 w' => ∃ (x5_2 : Int) (x10_2 : List Int), v5 = .int .i64 x5_2 ∧ Aside0 (code_remainder.l1 kq x5_2 x6_1 x10_2 = some r) ∧ Aside0 (kq ≤ k1) ∧ Aside0 (Kd.R (Kd.int .i64) 3 w' w.heap.size (fun _ => True) v10 x10_2) ∧ Aside0 (w'.heap[gb124]? = some (.cells #[.int .i64 a0_0, .int .i64 a0_1] 68 (0, 0))) ∧ Aside0 (Below w.heap.size w w'))
     case atStart => exact ⟨(ji5), (([] : List Int)), (by first | rfl | (simp; done) | (simp only [← hji5] <;> (first | rfl | simp)) | (simp [*]; done)), H', ⟨Nat.le_refl _⟩, ⟨by first | exact Kd.R_nil _ _ _ _ _ | exact Kd.N_nil _ _ _ _ _ | exact Kd.V_nil _ _ _ _ _ | exact Kd.Q_nil _ _ _ _ _ | exact Kd.S_nil _ _ _ _ _⟩, ⟨by (with_reducible repeat (first | refine av ?_ _ | refine aC ?_ | refine au ?_ _)); exact BK124.out⟩, ⟨by repeat (first | (with_reducible first | exact HB.out | apply ak | apply ah | apply aj | refine aA ?_ GE124.out) | exact HB.out)⟩⟩
     case round =>
      clear H'
      try clear c1
      try clear p1
      try clear q1
      try clear hx1
      try clear p2
      try clear c4
      try clear c4b0
      try clear c4b1
      try clear p6
      try clear c8
      try clear c8b0
      try clear c9
      try clear c9b0
      try clear c10
      try clear c10b0
      try clear c11
      try clear c11b0
      try clear c11b1
      try clear c11b2
      try clear p12
      try clear q12
      try clear hx12
      try clear hcz12_0
      try clear hcz12_1
      try clear hcz7_0
      try clear hcz7_1
      try clear hfz12_0
      try clear hfz12_1
      try clear hfz7_0
      try clear hfz7_1
      try clear hx125_0
      try clear p125
      try clear p2
      try clear p6
      try clear q125
      obtain ⟨x5_2, x10_2, rfl, HA, HK2, HO_10, BK124, HB⟩ := hrel
      cases gk with
      | zero => exact absurd HA.out (by simp [code_remainder.l1])
      | succ k2 =>
       have H := HA.out
       clear HA
       simp only [code_remainder.l1] at H
       by_cases c13 : x5_2 > 0
       ·
        rw [if_pos c13] at H
        have c13b0 : decide (0 < x5_2) = true := decide_eq_true c13
        clear c13
        by_cases c14 : (Go.bits .and .i64 x6_1 x5_2) = 0
        ·
         rw [if_pos c14] at H
         have c14b0 : ((Go.bits .and .i64 x6_1 x5_2) == 0) = true := beq_iff_eq.mpr c14
         have c14b1 : ((Go.bits .and .i64 x6_1 x5_2) != 0) = false := bne_eq_false_iff_eq.mpr c14
         clear c14
         by_cases c15 : x10_2.length < 17592186044416
         ·
          rw [if_pos c15] at H
          have LMc15 := dH c15
          clear c15
          obtain ⟨y126, hy126⟩ : ∃ y_ : List Int, y_ = (x10_2 ++ [0]) := ⟨_, rfl⟩
          replace H : (code_remainder.l1 k2 (x5_2 / 2) x6_1 y126) = some r := by first | (rw [hy126]; with_reducible exact H) | (have H2_ := (Option.bind_some _ _).symm.trans H; rw [hy126]; with_reducible exact H2_) | (have H2_ := (Option.bind_some _ _).symm.trans H; with_reducible exact H2_) | with_reducible exact H | (rw [hy126]; exact H) | exact H
          have Ny126 := dH hy126
          clear hy126
          have H' := dH H
          clear H
          go_wp2_with (first | ((with_reducible refine gate_builtin (b := .append) (xs := #[.tmp 49, .tmp 51]) rfl ?_); at_builtin; refine Kd.R_append (Kd.int .i64) (w0 := w) w.heap.size rfl (.tmp 49) (.tmp 51) 34 3 (.int .i64 0) 8 rfl Try.underlying34 info3 rfl (by decide) (by omega) u10 x10_2 0 [.int .i64 0] (fun _ => True) (fun _ => False) rfl rfl ?aP (fun _ hk => hk.elim) ?aF ?aO ?aB ?aS ?aL ?_; (case aP => exact rfl); (case aB => exact (by repeat (first | (with_reducible first | exact HB.out | apply ak | apply ah | apply aj | refine aA ?_ GE124.out) | exact HB.out))); (case aF => exact (fun _ _ => trivial)); (case aO => exact (by (with_reducible repeat (first | apply Kd.aI | apply Kd.aJ | apply Kd.aN)); exact HO_10.out)); (case aS => exact (aK (by repeat (first | (with_reducible first | exact HB.out | apply ak | apply ah | apply aj | refine aA ?_ GE124.out) | exact HB.out)))); (case aL => have := LMc15.out; omega); intro v127 w16 ho hb hg hat; rw [← Ny126.out] at ho; have n0_ := dH (bY (g := gb124) (o := .cells #[.int .i64 a0_0, .int .i64 a0_1] 68 (0, 0)) (by (with_reducible repeat (first | refine av ?_ _ | refine aC ?_ | refine au ?_ _)); exact BK124.out) hg (Kd.R_ne HO_10.out BK124.out (by decide))); have n1_ := dH (hb); have n2_ := dH (ho); clear BK124; clear HB; clear HO_10; have BK124 := n0_; have HB := n1_; have HO128 := n2_; clear n0_ n1_ n2_; clear ho hb hg hat))
          go_roundg k2
          case measure => have := HK1.out; have := HK2.out; omega
          case rel => exact ⟨(x5_2 / 2), (y126), (by first | rfl | (simp; done) | (simp [*]; done)), H', ⟨by have := HK1.out; have := HK2.out; omega⟩, ⟨by (with_reducible repeat (first | apply Kd.aI | apply Kd.aJ | apply Kd.aN)); exact HO128.out⟩, ⟨by (with_reducible repeat (first | refine av ?_ _ | refine aC ?_ | refine au ?_ _)); exact BK124.out⟩, ⟨by repeat (first | (with_reducible first | exact HB.out | apply ak | apply ah | apply aj | refine aA ?_ GE124.out) | exact HB.out)⟩⟩
         ·
          rw [if_neg c15] at H
          exact absurd H (by simp)
        ·
         rw [if_neg c14] at H
         have c14b0 : ((Go.bits .and .i64 x6_1 x5_2) == 0) = false := beq_eq_false_iff_ne.mpr c14
         have c14b1 : ((Go.bits .and .i64 x6_1 x5_2) != 0) = true := bne_iff_ne.mpr c14
         by_cases c17 : x10_2.length < 17592186044416
         ·
          rw [if_pos c17] at H
          have LMc17 := dH c17
          clear c17
          obtain ⟨y129, hy129⟩ : ∃ y_ : List Int, y_ = (x10_2 ++ [1]) := ⟨_, rfl⟩
          replace H : (code_remainder.l1 k2 (x5_2 / 2) x6_1 y129) = some r := by first | (rw [hy129]; with_reducible exact H) | (have H2_ := (Option.bind_some _ _).symm.trans H; rw [hy129]; with_reducible exact H2_) | (have H2_ := (Option.bind_some _ _).symm.trans H; with_reducible exact H2_) | with_reducible exact H | (rw [hy129]; exact H) | exact H
          have Ny129 := dH hy129
          clear hy129
          have H' := dH H
          clear H
          go_wp2_with (first | ((with_reducible refine gate_builtin (b := .append) (xs := #[.tmp 49, .tmp 51]) rfl ?_); at_builtin; refine Kd.R_append (Kd.int .i64) (w0 := w) w.heap.size rfl (.tmp 49) (.tmp 51) 34 3 (.int .i64 0) 8 rfl Try.underlying34 info3 rfl (by decide) (by omega) u10 x10_2 1 [.int .i64 1] (fun _ => True) (fun _ => False) rfl rfl ?aP (fun _ hk => hk.elim) ?aF ?aO ?aB ?aS ?aL ?_; (case aP => exact rfl); (case aB => exact (by repeat (first | (with_reducible first | exact HB.out | apply ak | apply ah | apply aj | refine aA ?_ GE124.out) | exact HB.out))); (case aF => exact (fun _ _ => trivial)); (case aO => exact (by (with_reducible repeat (first | apply Kd.aI | apply Kd.aJ | apply Kd.aN)); exact HO_10.out)); (case aS => exact (aK (by repeat (first | (with_reducible first | exact HB.out | apply ak | apply ah | apply aj | refine aA ?_ GE124.out) | exact HB.out)))); (case aL => have := LMc17.out; omega); intro v130 w18 ho hb hg hat; rw [← Ny129.out] at ho; have n0_ := dH (bY (g := gb124) (o := .cells #[.int .i64 a0_0, .int .i64 a0_1] 68 (0, 0)) (by (with_reducible repeat (first | refine av ?_ _ | refine aC ?_ | refine au ?_ _)); exact BK124.out) hg (Kd.R_ne HO_10.out BK124.out (by decide))); have n1_ := dH (hb); have n2_ := dH (ho); clear BK124; clear HB; clear HO_10; have BK124 := n0_; have HB := n1_; have HO131 := n2_; clear n0_ n1_ n2_; clear ho hb hg hat))
          go_roundg k2
          case measure => have := HK1.out; have := HK2.out; omega
          case rel => exact ⟨(x5_2 / 2), (y129), (by first | rfl | (simp; done) | (simp [*]; done)), H', ⟨by have := HK1.out; have := HK2.out; omega⟩, ⟨by (with_reducible repeat (first | apply Kd.aI | apply Kd.aJ | apply Kd.aN)); exact HO131.out⟩, ⟨by (with_reducible repeat (first | refine av ?_ _ | refine aC ?_ | refine au ?_ _)); exact BK124.out⟩, ⟨by repeat (first | (with_reducible first | exact HB.out | apply ak | apply ah | apply aj | refine aA ?_ GE124.out) | exact HB.out)⟩⟩
         ·
          rw [if_neg c17] at H
          exact absurd H (by simp)
       ·
        rw [if_neg c13] at H
        have c13b0 : decide (0 < x5_2) = false := decide_eq_false c13
        clear c13
        obtain rfl := Option.some.inj H
        go_wp2
        go_ret
        exact ⟨_, by first | rfl | (simp [aX, aY] <;> rfl) | (simp only [← hji3, ← hji5]; first | rfl | (simp [aX, aY] <;> rfl)) | (simp [*, aX, aY] <;> rfl), by (with_reducible repeat (first | apply Kd.aI | apply Kd.aJ | apply Kd.aN)); exact HO_10.out, by repeat (first | (with_reducible first | exact HB.out | apply ak | apply ah | apply aj | refine aA ?_ GE124.out) | exact HB.out)⟩
 ·
  rw [if_neg c4] at H
  exact absurd H (by simp)
def downtiltlaw02_Poly.f  : Option (Int × Int) := some (3, 3)
theorem downtiltlaw02_Poly.calls  (r1 : Int) (r2 : Int) (w : World) (h : downtiltlaw02_Poly.f  = some (r1, r2)) :
  Calls Try.prog 63 #[] w fun e w' => e = .returned (.agg #[.int .i64 r1, .int .i64 r2]) ∧ Below w.heap.size w w' := by
 have hu68 := Try.underlying68
 have HB := dH (Below.refl w.heap.size w)
 have H : (some (3, 3)) = some (r1, r2) := h
 clear h
 simp only [Option.some.injEq, Prod.mk.injEq] at H
 obtain ⟨rfl, rfl⟩ := H
 go_enter Try.func63, Try.ntmps63
 go_wp2_with (first | ((with_reducible refine bg (N := 0) rfl ?_); refine bI ?hg (N := 0) ?hd (cs := #[.int .i64 0, .int .i64 0]) (t := 68) ?hr ?_; (case hd => rfl); (case hg => rfl); (case hr => first | (go_simp; done) | (go_simp; rfl)); intro gb142 hg w1 hbox hb; have n0_ := dH (aM (by repeat (first | (with_reducible first | exact HB.out | apply ak | apply ah | apply aj) | exact HB.out)) hb); have n1_ := dH (hbox); have n2_ := dH ((by rw [hg]; exact (aK (by repeat (first | (with_reducible first | exact HB.out | apply ak | apply ah | apply aj) | exact HB.out))) : w.heap.size ≤ gb142)); have n3_ := dH ((by rw [hg]; exact (aK (by repeat (first | (with_reducible first | exact HB.out | apply ak | apply ah | apply aj) | exact HB.out))) : w.heap.size ≤ gb142)); clear HB; have HB := n0_; have BK142 := n1_; have GW142 := n2_; have GE142 := n3_; clear n0_ n1_ n2_ n3_; clear hb hbox hg; have hcz2_0 : w1.cell? ⟨gb142, 0, none⟩ = some (.int .i64 0) := (ay BK142.out 0).trans rfl; have hcz2_1 : w1.cell? ⟨gb142, 1, none⟩ = some (.int .i64 0) := (ay BK142.out 1).trans rfl; have hfz2_0 := aD BK142.out 0; have hfz2_1 := aD BK142.out 1))
 refine bodyPost_ret (results_cell_row rfl _ _ gb142 68 #[.int .i64 3, .int .i64 3] (0, 0) _ rfl (by (with_reducible repeat (first | refine av ?_ _ | refine aC ?_ | refine au ?_ _)); refine bL (cs := #[.int .i64 3, .int .i64 0]) ?_ 1 _ rfl; (with_reducible repeat (first | refine av ?_ _ | refine aC ?_ | refine au ?_ _)); refine bL (cs := #[.int .i64 0, .int .i64 0]) ?_ 0 _ rfl; (with_reducible repeat (first | refine av ?_ _ | refine aC ?_ | refine au ?_ _)); exact BK142.out) Try.underlying68 rfl (by kernel_rfl)) rfl ?_
 exact ⟨by first | rfl | (simp [aX, aY] <;> rfl) | (simp [*, aX, aY] <;> rfl), by repeat (first | (with_reducible first | exact HB.out | apply ak | apply ah | apply aj | refine aA ?_ GE142.out) | exact HB.out)⟩
end Go.Proofs.Ytbjiookpiminmaa.PCode
end
section
namespace Go.Proofs.Ytbjiookpiminmaa.PCode
open Go.RowKit Go.Proofs.YtbjiookpiminmaaW.PrintWords Go.Proofs.YtbjiookpiminmaaW.PrintLast Go.Proofs.YtbjiookpiminmaaW.PrintMore
theorem isNaN0 (x : Int) : cmp_isNaN_int.f x = some false := by simp [cmp_isNaN_int.f]
theorem sNaN0 (x : Int) : slices_isNaN_int.f x = some false := by simp [slices_isNaN_int.f]
theorem less0 (x y : Int) : cmp_Less_int.f x y = some (decide (x < y)) := by simp [cmp_Less_int.f, isNaN0]
theorem mid_ (i j : Nat) (h : i + j ≤ 4000000000000) : wrap64 ((IntKind.u64.wrap (wrap64 ((i : Int) + (j : Int)))) / 2) = (((i + j) / 2 : Nat) : Int) := by
 have h1 : wrap64 ((i : Int) + (j : Int)) = ((i + j : Nat) : Int) := by unfold wrap64; omega
 rw [h1]
 have h2 : IntKind.u64.wrap ((i + j : Nat) : Int) = ((i + j : Nat) : Int) := by
  simp only [IntKind.wrap, IntKind.bits, IntKind.signed]
  simp
  omega
 rw [h2]
 unfold wrap64
 omega
theorem bs_l0 (l : List Int) (x : Int) (hs : l.Pairwise (· ≤ ·)) (hlen : l.length ≤ 1000000000000) : ∀ (m i j : Nat), j - i ≤ m → i ≤ j → j ≤ l.length → (∀ t, (h : t < l.length) → t < i → l[t] < x) → (∀ t, (h : t < l.length) → j ≤ t → x ≤ l[t]) →
  ∃ i', slices_BinarySearch_int_int.l0 (m + 1) l x (l.length : Int) (i : Int) (j : Int) = some (i', decide (x ∈ l)) := by
 intro m
 induction m with
 | zero =>
  intro i j hm hij hj h1 h2
  obtain rfl : i = j := by omega
  unfold slices_BinarySearch_int_int.l0
  rw [if_neg (by omega)]
  by_cases hlt : i < l.length
  ·
   rw [if_pos (by omega), if_pos (by omega), if_pos (by omega)]
   have hr : rd l (i : Int) = l[i] := by simp [rd, List.getElem?_eq_getElem hlt]
   rw [hr]
   by_cases he : l[i] = x
   ·
    rw [if_pos he]
    exact ⟨_, by rw [decide_eq_true (he ▸ List.getElem_mem hlt)]⟩
   ·
    rw [if_neg he, sNaN0]
    simp only [Option.bind_some, Bool.false_eq_true, if_false]
    refine ⟨(i : Int), ?_⟩
    rw [decide_eq_false]
    intro hmem
    obtain ⟨t, ht, hx⟩ := List.getElem_of_mem hmem
    rcases Nat.lt_or_ge t i with h | h
    ·
     have := h1 t ht h; omega
    ·
     have h3 := h2 i hlt (Nat.le_refl _)
     rcases Nat.eq_or_lt_of_le h with rfl | h
     ·
      exact he hx
     ·
      have := List.pairwise_iff_getElem.1 hs i t hlt ht h; omega
  ·
   rw [if_neg (by omega)]
   refine ⟨(i : Int), ?_⟩
   rw [decide_eq_false]
   intro hmem
   obtain ⟨t, ht, hx⟩ := List.getElem_of_mem hmem
   have := h1 t ht (by omega)
   omega
 | succ m ih =>
  intro i j hm hij hj h1 h2
  by_cases hlt : i < j
  ·
   unfold slices_BinarySearch_int_int.l0
   rw [if_pos (by omega), mid_ i j (by omega)]
   have hk : (i + j) / 2 < l.length := by omega
   rw [if_pos (by omega), if_pos (by omega)]
   have hr : rd l (((i + j) / 2 : Nat) : Int) = l[(i + j) / 2] := by simp only [rd, Int.toNat_natCast, List.getD_eq_getElem?_getD, List.getElem?_eq_getElem hk, Option.getD_some]
   rw [hr, less0]
   simp only [Option.bind_some]
   by_cases hc : l[(i + j) / 2] < x
   ·
    rw [if_pos (by simpa using hc)]
    have hw : wrap64 ((((i + j) / 2 : Nat) : Int) + 1) = (((i + j) / 2 + 1 : Nat) : Int) := by unfold wrap64; omega
    rw [hw]
    refine ih _ _ (by omega) (by omega) hj ?_ h2
    intro t ht hti
    rcases Nat.lt_or_ge t ((i + j) / 2) with h | h
    ·
     have := List.pairwise_iff_getElem.1 hs t _ ht hk h; omega
    ·
     obtain rfl : t = (i + j) / 2 := by omega
     exact hc
   ·
    rw [if_neg (by simpa using hc)]
    refine ih _ _ (by omega) (by omega) (by omega) h1 ?_
    intro t ht hti
    rcases Nat.eq_or_lt_of_le hti with h | h
    ·
     subst h; omega
    ·
     have := List.pairwise_iff_getElem.1 hs _ t hk ht h; omega
  ·
   obtain ⟨i', h⟩ := (fun (z : ∃ i', slices_BinarySearch_int_int.l0 (m + 1) l x (l.length : Int) (i : Int) (j : Int) = some (i', decide (x ∈ l))) => z) (ih i j (by omega) hij hj h1 h2)
   exact ⟨i', slices_BinarySearch_int_int.mono_l _ _ _ _ _ _ _ h⟩
theorem bs_ (l : List Int) (x : Int) (hs : l.Pairwise (· ≤ ·)) (hlen : l.length ≤ 1000000000000) : ∃ i', slices_BinarySearch_int_int.f (l.length + 1) l x = some (i', decide (x ∈ l)) := by
 have := bs_l0 l x hs hlen l.length 0 l.length (by omega) (by omega) (Nat.le_refl _) (fun t _ h => by omega) (fun t h h' => by omega)
 exact this
end Go.Proofs.Ytbjiookpiminmaa.PCode
end
section
namespace Go.Proofs.Ytbjiookpiminmaa.PCode
open Go.RowKit Go.Proofs.YtbjiookpiminmaaW.PrintWords Go.Proofs.YtbjiookpiminmaaW.PrintLast Go.Proofs.YtbjiookpiminmaaW.PrintMore
attribute [local go_sem] max2_int min2_int max_two min_two max_three min_three max_four min_four   -- for this text's walks alone
class FP where
 p : Int → Bool
def fparam_P.f [F : FP] (x : Int) : Option Bool := some (F.p x)
theorem fparam_P.calls [F : FP] {gP_ : Nat} {lbP_ : Array Value} {w : World} (hp : PredB gP_ lbP_ F.p w) (x : Int) (r : Bool) (W : World) (hb : Below w.heap.size w W) (h : fparam_P.f x = some r) :
  Calls Try.prog gP_ (#[.int .i64 x] ++ lbP_) W fun e w' => e = .returned (.bool r) ∧ Below W.heap.size W w' := by
 obtain rfl := Option.some.inj h
 exact hp W x hb
theorem gate_calleeT {P : Program} {ops : Array Oper} {rest : List Oper} {o : Oper} {a : Act} {W : World} {Q : Exit → Act → World → Prop} {p : Tmp} {xs : Array Operand} {ts : Array TypeId} (_ho : o.op = .call { callee := .value (.tmp p), args := xs, argTypes := ts }) (h : wpList P ops Q (o :: rest) a W) : wpList P ops Q (o :: rest) a W := h
theorem goesTL_ {P : Program} {ops : Array Oper} {rest : List Oper} {oi : Oper} {a : Act} {w : World} {Q : Exit → Act → World → Prop} (N : Option Tmp) (hd : oi.dst = N) (hg : oi.guard = none) (f : FuncId) (lb : Array Value) (he : ∀ args w, (callFunc f args).run P w = .ok (.enter f args) w) {p : Tmp} {xs : Array Operand} {ts : Array TypeId} (args : Array Value)
  (hop : oi.op = .call { callee := .value (.tmp p), args := xs, argTypes := ts }) (hp : a.eval (.tmp p) = .func (.func f) #[] lb) (hargs : xs.map a.eval = args)
  (h : Calls P f (args ++ lb) w fun e w' => ∃ v, e = .returned v ∧ wpList P ops Q rest (a.put N v) w') : wpList P ops Q (oi :: rest) a w := by
 refine wpList_plain hg fun K hK => ?_
 have hrun : (execOp a.eval oi).run P w = .ok (.enter f (args ++ lb)) w := by
  unfold execOp
  simp [hop, resolve, Deferred.ofValue, invoke, hp, hargs, he]
 unfold Oper.wp
 rw [hrun, Oper.upon_enter]
 refine h.mono fun e w'' hh => ?_
 obtain ⟨v, rfl, hk⟩ := hh
 subst hd
 exact hK _ _ hk
variable [FP] {gP_ : Nat} {lbP_ : Array Value}
mutual
def code_cancel.l0 : Nat → Int → Unit → Int → List Int → List Int → List Int → Int → Int → Option (List Int)
 | 0, _, _, _, _, _, _, _, _ => none
 | k + 1, x1, x2, x7, x8, x9, x10, x39, x40 => if x40 < x39 then (if 0 ≤ x40 then (if x40 < (x8.length : Int) then ((code_size.f (rd x8 x40)).bind fun t208 => (if x40 < (x9.length : Int) then ((code_size.f (rd x9 x40)).bind fun t210 => ((code_sign.f (rd x8 x40)).bind fun t212 => ((code_sign.f (rd x9 x40)).bind fun t214 => (if x40 < (x10.length : Int) then (code_cancel.l0 k x1 x2 x7 x8 x9 (x10.set (x40 : Int).toNat (wrap64 ((wrap64 ((mn t208 t210) * t212)) * t214))) x39 (wrap64 (x40 + 1))) else (none))))) else (none))) else (none)) else (none)) else ((code_cancel.f k x10 x1 x2).bind fun t216 => ((slices_Clone_int_int.f t216).bind fun t219 => ((code_word.f k t219).bind fun t222 => (code_cancel.l1 k x1 x2 x7 x8 x9 x10 t216 t222 (t222.length : Int) 0))))
def code_cancel.l1 : Nat → Int → Unit → Int → List Int → List Int → List Int → List Int → List Int → Int → Int → Option (List Int)
 | 0, _, _, _, _, _, _, _, _, _, _ => none
 | k + 1, x1, x2, x7, x8, x9, x10, x12, x76, x77, x78 => if x78 < x77 then (if 0 ≤ x78 then (if x78 < (x76.length : Int) then (if x78 < (x9.length : Int) then (if x78 < (x8.length : Int) then (if x78 < (x10.length : Int) then ((some (x10.set (x78 : Int).toNat (wrap64 ((rd x9 x78) + (rd x8 x78))) : List Int)).bind fun y228 => (if (rd x76 x78) = 1 then (code_cancel.l1 k x1 x2 x7 x8 x9 (y228.set (x78 : Int).toNat (wrap64 ((rd x9 x78) - (rd x8 x78)))) x12 x76 x77 (wrap64 (x78 + 1))) else (code_cancel.l1 k x1 x2 x7 x8 x9 y228 x12 x76 x77 (wrap64 (x78 + 1))))) else (none)) else (none)) else (none)) else (none)) else (none)) else ((code_cancel.f k x10 (wrap64 (x1 + x7)) x2).bind fun t232 => (if x12.length + t232.length < 17592186044416 then (some (x12 ++ t232)) else (none)))
def code_cancel.f : Nat → List Int → Int → Unit → Option (List Int)
 | 0, _, _, _ => none
 | k + 1, l0, a1, a2 => if (wrap64 ((l0.length : Int) / 2)) = 0 then ((fparam_P.f a1).bind fun t191 => (if t191 = true then (if 0 < (l0.length : Int) then (if (rd l0 0) < 0 then (some (([1] : List Int))) else (some (([0] : List Int)))) else (none)) else (some (([0] : List Int))))) else (if 0 ≤ (wrap64 ((l0.length : Int) / 2)) then (if (wrap64 ((l0.length : Int) / 2)) ≤ (l0.length : Int) then (if (wrap64 ((l0.length : Int) / 2) : Int).toNat ≤ 35184372088832 then (code_cancel.l0 k a1 a2 (wrap64 ((l0.length : Int) / 2)) (l0.take ((wrap64 ((l0.length : Int) / 2)) : Int).toNat) (l0.drop ((wrap64 ((l0.length : Int) / 2)) : Int).toNat) (List.replicate (wrap64 ((l0.length : Int) / 2) : Int).toNat 0) (wrap64 ((l0.length : Int) / 2)) 0) else (none)) else (none)) else (none))
end
def code_cancel.T6 : Bool × List (List Nat × List Nat) := (true, [([], []), ([], []), ([0, 1], [0, 1]), ([], []), ([], []), ([3, 4], [3, 4]), ([2, 0, 1, 2], [2]), ([5, 6, 0, 1, 2, 3, 4, 5, 6], [5])])
def code_cancel.B6 : List Nat := [0, 0, 3, 0, 0, 24, 7, 127]
theorem code_cancel.tab6 : rtab .any (opsOf Try.f178 6) = code_cancel.T6 := by kernel_rfl
theorem code_cancel.bits6 : waitsOk code_cancel.T6.2 code_cancel.B6 = true := by kernel_rfl
def code_cancel.T11 : Bool × List (List Nat × List Nat) := (true, [([], []), ([], []), ([], []), ([], []), ([2, 3], [2, 3]), ([4], [4]), ([5], [5]), ([], []), ([], []), ([7, 8], [7, 8]), ([9], [9]), ([10, 6], [10]), ([6, 11], [6, 11]), ([], []), ([], []), ([13, 14], [13, 14]), ([15], [15]), ([16, 11], [16]), ([12, 17], [12, 17]), ([], []), ([], []), ([19, 20], [19, 20]), ([21], [21]), ([22, 17], [22]), ([18, 23], [18, 23]), ([0, 1, 0, 1, 2, 3, 4, 5, 6, 7, 8, 9, 10, 11, 12, 13, 14, 15, 16, 17, 18, 19, 20, 21, 22, 23, 24], [0, 1]), ([25, 24, 23, 0, 1, 2, 3, 4, 5, 6, 7, 8, 9, 10, 11, 12, 13, 14, 15, 16, 17, 18, 19, 20, 21, 22, 23, 24], [24, 25])])
def code_cancel.B11 : List Nat := [0, 0, 0, 0, 12, 28, 60, 0, 0, 384, 896, 2044, 4092, 0, 0, 24576, 57344, 126972, 262140, 0, 0, 1572864, 3670016, 8122364, 16777212, 33554431, 67108863]
theorem code_cancel.tab11 : rtab .any (opsOf Try.f178 11) = code_cancel.T11 := by kernel_rfl
theorem code_cancel.bits11 : waitsOk code_cancel.T11.2 code_cancel.B11 = true := by kernel_rfl
def code_cancel.T17 : Bool × List (List Nat × List Nat) := (true, [([], []), ([], []), ([], []), ([], []), ([2, 3], [2, 3]), ([4], [4]), ([], []), ([], []), ([6, 7], [6, 7]), ([8], [8]), ([5, 9], [5, 9]), ([0, 1, 0, 1, 2, 3, 4, 5, 6, 7, 8, 9, 10], [0, 1]), ([11, 10, 0, 1, 2, 3, 4, 5, 6, 7, 8, 9, 10], [10, 11])])
def code_cancel.B17 : List Nat := [0, 0, 0, 0, 12, 28, 0, 0, 192, 448, 1020, 2047, 4095]
theorem code_cancel.tab17 : rtab .any (opsOf Try.f178 17) = code_cancel.T17 := by kernel_rfl
theorem code_cancel.bits17 : waitsOk code_cancel.T17.2 code_cancel.B17 = true := by kernel_rfl
def code_cancel.T19 : Bool × List (List Nat × List Nat) := (true, [([], []), ([], []), ([], []), ([], []), ([2, 3], [2, 3]), ([4], [4]), ([], []), ([], []), ([6, 7], [6, 7]), ([8], [8]), ([5, 9], [5, 9]), ([0, 1, 0, 1, 2, 3, 4, 5, 6, 7, 8, 9, 10], [0, 1]), ([11, 10, 0, 1, 2, 3, 4, 5, 6, 7, 8, 9, 10], [10, 11])])
def code_cancel.B19 : List Nat := [0, 0, 0, 0, 12, 28, 0, 0, 192, 448, 1020, 2047, 4095]
theorem code_cancel.tab19 : rtab .any (opsOf Try.f178 19) = code_cancel.T19 := by kernel_rfl
theorem code_cancel.bits19 : waitsOk code_cancel.T19.2 code_cancel.B19 = true := by kernel_rfl
theorem code_cancel.calls (EN_ : ∀ args w, (callFunc gP_ args).run Try.prog w = .ok (.enter gP_ args) w) (k : Nat) : ∀ (A0 : Option Addr) (c0 : Nat) (l0 : List Int) (a1 : Int) (a2 : Unit) (r : List Int) (w : World) (hr0 : Kd.C (Kd.int .i64) w A0 l0.length l0) (hc0 : l0.length ≤ c0) (hP : PredB gP_ lbP_ FP.p w) (h : code_cancel.f k l0 a1 a2 = some r),
  Calls Try.prog 178 #[.slice A0 l0.length c0, .int .i64 a1, .func (.func gP_) #[] lbP_] w fun e w' => ∃ v0_ : Value, e = .returned (v0_) ∧ Kd.R (Kd.int .i64) 3 w' w.heap.size (fun _ => True) v0_ r ∧ Below w.heap.size w w' := by
 induction k using Nat.strongRecOn with
 | _ k ih =>
 intro A0 c0 l0 a1 a2 r w hr0 hc0 hP h
 cases k with
 | zero => exact absurd h (by simp [code_cancel.f])
 | succ k =>
 simp only [code_cancel.f] at h
 have HR0 := dH hr0
 have HC0 := dH hc0
 clear hr0 hc0
 have HP := dH hP
 clear hP
 have HB := dH (Below.refl w.heap.size w)
 have H : (if (wrap64 ((l0.length : Int) / 2)) = 0 then ((fparam_P.f a1).bind fun t191 => (if t191 = true then (if 0 < (l0.length : Int) then (if (rd l0 0) < 0 then (some (([1] : List Int))) else (some (([0] : List Int)))) else (none)) else (some (([0] : List Int))))) else (if 0 ≤ (wrap64 ((l0.length : Int) / 2)) then (if (wrap64 ((l0.length : Int) / 2)) ≤ (l0.length : Int) then (if (wrap64 ((l0.length : Int) / 2) : Int).toNat ≤ 35184372088832 then (code_cancel.l0 k a1 a2 (wrap64 ((l0.length : Int) / 2)) (l0.take ((wrap64 ((l0.length : Int) / 2)) : Int).toNat) (l0.drop ((wrap64 ((l0.length : Int) / 2)) : Int).toNat) (List.replicate (wrap64 ((l0.length : Int) / 2) : Int).toNat 0) (wrap64 ((l0.length : Int) / 2)) 0) else (none)) else (none)) else (none))) = some r := h
 clear h
 by_cases c4 : (wrap64 ((l0.length : Int) / 2)) = 0
 ·
  rw [if_pos c4] at H
  have c4b0 : ((wrap64 ((l0.length : Int) / 2)) == 0) = true := beq_iff_eq.mpr c4
  have c4b1 : ((wrap64 ((l0.length : Int) / 2)) != 0) = false := bne_eq_false_iff_eq.mpr c4
  clear c4
  replace H := dF.mp H
  obtain ⟨t191, A50, H⟩ := H
  replace H : (if t191 = true then (if 0 < (l0.length : Int) then (if (rd l0 0) < 0 then (some (([1] : List Int))) else (some (([0] : List Int)))) else (none)) else (some (([0] : List Int)))) = some r := H
  have A5 := dH A50
  clear A50
  by_cases c6 : t191 = true
  ·
   subst c6
   have H1 : (if 0 < (l0.length : Int) then (if (rd l0 0) < 0 then (some (([1] : List Int))) else (some (([0] : List Int)))) else (none)) = some r := by rw [if_pos rfl] at H; exact H
   clear H
   have H := H1
   clear H1
   by_cases c7 : 0 < (l0.length : Int)
   ·
    rw [if_pos c7] at H
    have c7b0 : decide (0 < (l0.length : Int)) = true := decide_eq_true c7
    have c7b1 : decide (0 < l0.length) = true := decide_eq_true (by omega)
    clear c7
    by_cases c8 : (rd l0 0) < 0
    ·
     rw [if_pos c8] at H
     have c8b0 : decide ((rd l0 0) < 0) = true := decide_eq_true c8
     clear c8
     obtain ⟨y193, hy193⟩ : ∃ y_ : List Int, y_ = (([1] : List Int)) := ⟨_, rfl⟩
     replace H : (some y193) = some r := by first | (rw [hy193]; with_reducible exact H) | (have H2_ := (Option.bind_some _ _).symm.trans H; rw [hy193]; with_reducible exact H2_) | (have H2_ := (Option.bind_some _ _).symm.trans H; with_reducible exact H2_) | with_reducible exact H | (rw [hy193]; exact H) | exact H
     have Ny193 := dH hy193
     clear hy193
     obtain rfl := Option.some.inj H
     go_enter Try.func178, Try.ntmps178
     go_wp2_with (first | ((with_reducible refine gate_calleeT (p := 20) rfl ?_); refine goesTL_ (some 22) rfl rfl gP_ lbP_ EN_ #[.int .i64 a1] rfl rfl (by (try simp only [dh, dn, dw]); first | done | rfl | (simp only [dx, dz]; rfl) | (simp only [gt_iff_lt, dA]; rfl) | (simp [Act.eval]; done)) ?_; (with_reducible refine (fparam_P.calls HP.out a1 true _ (by repeat (first | (with_reducible first | exact HB.out | apply ak | apply ah | apply aj) | exact HB.out)) A5.out).mono ?_); rintro e w9 ⟨rfl, hb⟩; refine ⟨_, rfl, ?_⟩; have n0_ := dH (aM (by repeat (first | (with_reducible first | exact HB.out | apply ak | apply ah | apply aj) | exact HB.out)) hb); clear HB; have HB := n0_; clear n0_; (try clear hb); (try clear hb2); (try clear hk); (try clear hi); have p192 : 0 ≤ (0 : Int) := (by omega); have q192 : 0 < (l0.length : Int) := dD (by first | (with_reducible assumption) | assumption); obtain ⟨ad192, e192, hx192_0⟩ := Kd.bX HR0.out 0 p192 q192; cases e192; have qi192 : (0 < l0.length) = True := eq_true (by omega); (try rw [show ((0 : Int)).toNat = 0 from rfl] at hx192_0); (try rw [Addr.add_zero'] at hx192_0); replace hx192_0 := (HB.out.cell (dB w _ hx192_0)).trans hx192_0; replace p192 := eq_true p192; replace q192 := eq_true q192) | ((with_reducible refine bg (N := 29) rfl ?_); refine Kd.R_lit (Kd.int .i64) _ 3 ?hg (N := 29) ?hd (xs := ([1] : List Int)) (inner := [.int .i64 1]) (ok := fun _ => True) (okp := fun _ => True) ?hr ?hp (fun _ hk => hk) trivial (Below.refl _ _) (Nat.le_refl _) (by simp) ?_; (case hd => rfl); (case hg => rfl); (case hr => first | (go_simp; done) | (go_simp; rfl)); (case hp => exact (Reps.one (show Kd.M (Kd.int .i64) _ _ _ 1 [.int .i64 1] from rfl) (Reps.none _ _))); intro v194 w10 ho11 hb hg_ hnew_; clear hg_ hnew_; (first | rw [← Ny193.out] at ho11 | (simp only [Int.reduceToNat] at ho11; rw [← Ny193.out] at ho11)); have n0_ := dH (Kd.bP ho11 (aK (by repeat (first | (with_reducible first | exact HB.out | apply ak | apply ah | apply aj) | exact HB.out)))); have n1_ := dH (aM (by repeat (first | (with_reducible first | exact HB.out | apply ak | apply ah | apply aj) | exact HB.out)) hb); clear HB; have HO195 := n0_; have HB := n1_; clear n0_ n1_; clear hb ho11))
     go_ret
     exact ⟨_, by first | rfl | (simp [aX, aY] <;> rfl) | (simp [*, aX, aY] <;> rfl), by (with_reducible repeat (first | apply Kd.aI | apply Kd.aJ | apply Kd.aN)); exact HO195.out, by repeat (first | (with_reducible first | exact HB.out | apply ak | apply ah | apply aj) | exact HB.out)⟩
    ·
     rw [if_neg c8] at H
     have c8b0 : decide ((rd l0 0) < 0) = false := decide_eq_false c8
     clear c8
     obtain ⟨y196, hy196⟩ : ∃ y_ : List Int, y_ = (([0] : List Int)) := ⟨_, rfl⟩
     replace H : (some y196) = some r := by first | (rw [hy196]; with_reducible exact H) | (have H2_ := (Option.bind_some _ _).symm.trans H; rw [hy196]; with_reducible exact H2_) | (have H2_ := (Option.bind_some _ _).symm.trans H; with_reducible exact H2_) | with_reducible exact H | (rw [hy196]; exact H) | exact H
     have Ny196 := dH hy196
     clear hy196
     obtain rfl := Option.some.inj H
     go_enter Try.func178, Try.ntmps178
     go_wp2_with (first | ((with_reducible refine gate_calleeT (p := 20) rfl ?_); refine goesTL_ (some 22) rfl rfl gP_ lbP_ EN_ #[.int .i64 a1] rfl rfl (by (try simp only [dh, dn, dw]); first | done | rfl | (simp only [dx, dz]; rfl) | (simp only [gt_iff_lt, dA]; rfl) | (simp [Act.eval]; done)) ?_; (with_reducible refine (fparam_P.calls HP.out a1 true _ (by repeat (first | (with_reducible first | exact HB.out | apply ak | apply ah | apply aj) | exact HB.out)) A5.out).mono ?_); rintro e w12 ⟨rfl, hb⟩; refine ⟨_, rfl, ?_⟩; have n0_ := dH (aM (by repeat (first | (with_reducible first | exact HB.out | apply ak | apply ah | apply aj) | exact HB.out)) hb); clear HB; have HB := n0_; clear n0_; (try clear hb); (try clear hb2); (try clear hk); (try clear hi); have p192 : 0 ≤ (0 : Int) := (by omega); have q192 : 0 < (l0.length : Int) := dD (by first | (with_reducible assumption) | assumption); obtain ⟨ad192, e192, hx192_0⟩ := Kd.bX HR0.out 0 p192 q192; cases e192; have qi192 : (0 < l0.length) = True := eq_true (by omega); (try rw [show ((0 : Int)).toNat = 0 from rfl] at hx192_0); (try rw [Addr.add_zero'] at hx192_0); replace hx192_0 := (HB.out.cell (dB w _ hx192_0)).trans hx192_0; replace p192 := eq_true p192; replace q192 := eq_true q192) | ((with_reducible refine bg (N := 30) rfl ?_); refine Kd.R_lit (Kd.int .i64) _ 3 ?hg (N := 30) ?hd (xs := ([0] : List Int)) (inner := [.int .i64 0]) (ok := fun _ => True) (okp := fun _ => True) ?hr ?hp (fun _ hk => hk) trivial (Below.refl _ _) (Nat.le_refl _) (by simp) ?_; (case hd => rfl); (case hg => rfl); (case hr => first | (go_simp; done) | (go_simp; rfl)); (case hp => exact (Reps.one (show Kd.M (Kd.int .i64) _ _ _ 0 [.int .i64 0] from rfl) (Reps.none _ _))); intro v197 w13 ho14 hb hg_ hnew_; clear hg_ hnew_; (first | rw [← Ny196.out] at ho14 | (simp only [Int.reduceToNat] at ho14; rw [← Ny196.out] at ho14)); have n0_ := dH (Kd.bP ho14 (aK (by repeat (first | (with_reducible first | exact HB.out | apply ak | apply ah | apply aj) | exact HB.out)))); have n1_ := dH (aM (by repeat (first | (with_reducible first | exact HB.out | apply ak | apply ah | apply aj) | exact HB.out)) hb); clear HB; have HO198 := n0_; have HB := n1_; clear n0_ n1_; clear hb ho14))
     go_ret
     exact ⟨_, by first | rfl | (simp [aX, aY] <;> rfl) | (simp [*, aX, aY] <;> rfl), by (with_reducible repeat (first | apply Kd.aI | apply Kd.aJ | apply Kd.aN)); exact HO198.out, by repeat (first | (with_reducible first | exact HB.out | apply ak | apply ah | apply aj) | exact HB.out)⟩
   ·
    rw [if_neg c7] at H
    exact absurd H (by simp)
  ·
   replace c6 := Bool.eq_false_iff.mpr c6
   subst c6
   have H1 : (some (([0] : List Int))) = some r := by rw [if_neg (show ¬ (false = true) by decide)] at H; exact H
   clear H
   have H := H1
   clear H1
   obtain ⟨y199, hy199⟩ : ∃ y_ : List Int, y_ = (([0] : List Int)) := ⟨_, rfl⟩
   replace H : (some y199) = some r := by first | (rw [hy199]; with_reducible exact H) | (have H2_ := (Option.bind_some _ _).symm.trans H; rw [hy199]; with_reducible exact H2_) | (have H2_ := (Option.bind_some _ _).symm.trans H; with_reducible exact H2_) | with_reducible exact H | (rw [hy199]; exact H) | exact H
   have Ny199 := dH hy199
   clear hy199
   obtain rfl := Option.some.inj H
   go_enter Try.func178, Try.ntmps178
   go_wp2_with (first | ((with_reducible refine gate_calleeT (p := 20) rfl ?_); refine goesTL_ (some 22) rfl rfl gP_ lbP_ EN_ #[.int .i64 a1] rfl rfl (by (try simp only [dh, dn, dw]); first | done | rfl | (simp only [dx, dz]; rfl) | (simp only [gt_iff_lt, dA]; rfl) | (simp [Act.eval]; done)) ?_; (with_reducible refine (fparam_P.calls HP.out a1 false _ (by repeat (first | (with_reducible first | exact HB.out | apply ak | apply ah | apply aj) | exact HB.out)) A5.out).mono ?_); rintro e w15 ⟨rfl, hb⟩; refine ⟨_, rfl, ?_⟩; have n0_ := dH (aM (by repeat (first | (with_reducible first | exact HB.out | apply ak | apply ah | apply aj) | exact HB.out)) hb); clear HB; have HB := n0_; clear n0_; (try clear hb); (try clear hb2); (try clear hk); (try clear hi)) | ((with_reducible refine bg (N := 30) rfl ?_); refine Kd.R_lit (Kd.int .i64) _ 3 ?hg (N := 30) ?hd (xs := ([0] : List Int)) (inner := [.int .i64 0]) (ok := fun _ => True) (okp := fun _ => True) ?hr ?hp (fun _ hk => hk) trivial (Below.refl _ _) (Nat.le_refl _) (by simp) ?_; (case hd => rfl); (case hg => rfl); (case hr => first | (go_simp; done) | (go_simp; rfl)); (case hp => exact (Reps.one (show Kd.M (Kd.int .i64) _ _ _ 0 [.int .i64 0] from rfl) (Reps.none _ _))); intro v200 w16 ho17 hb hg_ hnew_; clear hg_ hnew_; (first | rw [← Ny199.out] at ho17 | (simp only [Int.reduceToNat] at ho17; rw [← Ny199.out] at ho17)); have n0_ := dH (Kd.bP ho17 (aK (by repeat (first | (with_reducible first | exact HB.out | apply ak | apply ah | apply aj) | exact HB.out)))); have n1_ := dH (aM (by repeat (first | (with_reducible first | exact HB.out | apply ak | apply ah | apply aj) | exact HB.out)) hb); clear HB; have HO201 := n0_; have HB := n1_; clear n0_ n1_; clear hb ho17))
   go_ret
   exact ⟨_, by first | rfl | (simp [aX, aY] <;> rfl) | (simp [*, aX, aY] <;> rfl), by (with_reducible repeat (first | apply Kd.aI | apply Kd.aJ | apply Kd.aN)); exact HO201.out, by repeat (first | (with_reducible first | exact HB.out | apply ak | apply ah | apply aj) | exact HB.out)⟩
 ·
  rw [if_neg c4] at H
  have c4b0 : ((wrap64 ((l0.length : Int) / 2)) == 0) = false := beq_eq_false_iff_ne.mpr c4
  have c4b1 : ((wrap64 ((l0.length : Int) / 2)) != 0) = true := bne_iff_ne.mpr c4
  obtain ⟨ji18, hji18⟩ : ∃ j_ : Int, (wrap64 ((l0.length : Int) / 2)) = j_ := ⟨_, rfl⟩
  replace H : (if 0 ≤ (ji18) then (if (ji18) ≤ (l0.length : Int) then (if (ji18 : Int).toNat ≤ 35184372088832 then (code_cancel.l0 k a1 a2 ji18 (l0.take ((ji18) : Int).toNat) (l0.drop ((ji18) : Int).toNat) (List.replicate (ji18 : Int).toNat 0) ji18 0) else (none)) else (none)) else (none)) = some r := by first | (rw [hji18] at H; exact H) | (simp only [hji18] at H ⊢; exact H)
  (try rw [hji18] at c4b0)
  (try rw [hji18] at c4b1)
  have hji18w : (IntKind.i64.wrap ((l0.length : Int) / 2)) = ji18 := (aG _).trans hji18
  by_cases c19 : 0 ≤ (ji18)
  ·
   rw [if_pos c19] at H
   have c19b0 := eq_true c19
   have c19b1 : decide (0 ≤ (ji18)) = true := decide_eq_true c19
   clear c19
   by_cases c20 : (ji18) ≤ (l0.length : Int)
   ·
    rw [if_pos c20] at H
    have c20b0 := eq_true c20
    have c20b1 : decide ((ji18) ≤ (l0.length : Int)) = true := decide_eq_true c20
    clear c20
    have c21b0 := eq_true (dD (by first | (with_reducible assumption) | assumption) : 0 ≤ (ji18))
    have c22b0 := eq_true (dD (by first | (with_reducible assumption) | assumption) : (ji18) ≤ (l0.length : Int))
    by_cases c23 : (ji18 : Int).toNat ≤ 35184372088832
    ·
     rw [if_pos c23] at H
     have c23b0 := eq_true c23
     have c23b1 : decide ((ji18 : Int).toNat ≤ 35184372088832) = true := decide_eq_true c23
     clear c23
     obtain ⟨y204, hy204⟩ : ∃ y_ : List Int, y_ = (List.replicate (ji18 : Int).toNat 0) := ⟨_, rfl⟩
     replace H : (code_cancel.l0 k a1 a2 ji18 (l0.take ((ji18) : Int).toNat) (l0.drop ((ji18) : Int).toNat) y204 ji18 0) = some r := by first | (rw [hy204]; with_reducible exact H) | (have H2_ := (Option.bind_some _ _).symm.trans H; rw [hy204]; with_reducible exact H2_) | (have H2_ := (Option.bind_some _ _).symm.trans H; with_reducible exact H2_) | with_reducible exact H | (rw [hy204]; exact H) | exact H
     have Ny204 := dH hy204
     clear hy204
     have H' := dH H
     clear H
     go_enter Try.func178, Try.ntmps178
     try go_wp2
     have n0_ := dH (aj HB.out)
     clear HB
     have HB := n0_
     clear n0_
     obtain ⟨i025, hi025, _, hsz25, _⟩ := info_parts info3
     obtain ⟨hcut25, hA25, hC25⟩ := print_take_of (P := Try.prog) (Value.int .i64) 0 34 3 .i64 Try.underlying34 hi025 hsz25 A0 c0 l0 (ji18) (dD (by first | (with_reducible assumption) | assumption)) (dD (by first | (with_reducible assumption) | assumption)) HC0.out
     have HR202 := dH (Kd.C_of_reads (h1 := fun _ => rfl) (hA25 _ (Kd.reads_of_C HR0.out)))
     have HC202 := dH hC25
     clear hA25 hC25 hi025 hsz25
     obtain ⟨i026, hi026, _, hsz26, _⟩ := info_parts info3
     obtain ⟨A26, hcut26, hA26, hC26⟩ := print_drop_of (P := Try.prog) (Value.int .i64) 0 34 3 .i64 Try.underlying34 hi026 hsz26 A0 c0 l0 (ji18) (dD (by first | (with_reducible assumption) | assumption)) (dD (by first | (with_reducible assumption) | assumption)) HC0.out
     have HR203 := dH (Kd.C_of_reads (h1 := fun _ => rfl) (hA26 _ (Kd.reads_of_C HR0.out)))
     have HC203 := dH hC26
     clear hA26 hC26 hi026 hsz26
     refine b_ (n := 8) (S := fun w' => True) (ds := []) (dG 8 0) (by kernel_rfl) rfl rfl trivial (fun hHeld => ?_); refine bZ code_cancel.tab6 code_cancel.bits6 (fun HT_ HW_ => ?_)
     generalize w.drew = w24 at HB HR202 HR203 hHeld ⊢
     refine aV (i := 0) (N := some 31) (v := ?_) (a' := ?_) (dG 8 1) rfl rfl (aU HT_.out (by kernel_rfl)) (fun _ _ _ h => h) (Or.inl ⟨by rfl, ?_⟩) ?_ ?_
     rotate_left
     ·
      intro w'
      go_simp
      with_reducible rfl
     rotate_left
     ·
      simp only [Act.put, cO, cZ, d9, aG, aH]
      rfl
     refine aV (i := 1) (N := some 32) (v := ?_) (a' := ?_) (dG 8 3) rfl rfl (aU HT_.out (by kernel_rfl)) (fun _ _ _ h => h) (Or.inl ⟨by rfl, ?_⟩) ?_ ?_
     rotate_left
     ·
      intro w'
      go_simp
      with_reducible rfl
     rotate_left
     ·
      simp only [Act.put, cO, cZ, d9, aG, aH]
      rfl
     refine aV (i := 2) (N := some 33) (v := ?_) (a' := ?_) (dG 8 7) rfl rfl (aU HT_.out (by kernel_rfl)) (fun _ _ _ h => h) (Or.inl ⟨by rfl, ?_⟩) ?_ ?_
     rotate_left
     ·
      intro w'
      go_simp
      with_reducible rfl
     rotate_left
     ·
      simp only [Act.put, cO, cZ, d9, aG, aH]
      rfl
     refine aV (i := 3) (N := some 34) (v := ?_) (a' := ?_) (dG 8 15) rfl rfl (aU HT_.out (by kernel_rfl)) (fun _ _ _ h => h) (Or.inl ⟨by rfl, ?_⟩) ?_ ?_
     rotate_left
     ·
      intro w'
      go_simp
      with_reducible rfl
     rotate_left
     ·
      simp only [Act.put, cO, cZ, d9, aG, aH]
      rfl
     refine aV (i := 4) (N := some 35) (v := ?_) (a' := ?_) (dG 8 31) rfl rfl (aU HT_.out (by kernel_rfl)) (fun _ _ _ h => h) (Or.inl ⟨by rfl, ?_⟩) ?_ ?_
     rotate_left
     ·
      intro w'
      go_simp
      with_reducible rfl
     rotate_left
     ·
      simp only [Act.put, cO, cZ, d9, aG, aH]
      rfl
     refine aV (i := 5) (N := some 36) (v := ?_) (a' := ?_) (dG 8 63) rfl rfl (aU HT_.out (by kernel_rfl)) (fun _ _ _ h => h) (Or.inl ⟨by rfl, ?_⟩) ?_ ?_
     rotate_left
     ·
      intro w'
      go_simp
      with_reducible rfl
     rotate_left
     ·
      simp only [Act.put, cO, cZ, d9, aG, aH]
      rfl
     refine aV (i := 6) (N := some 8) (v := ?_) (a' := ?_) (dG 8 127) rfl rfl (aU HT_.out (by kernel_rfl)) (fun _ _ _ h => h) (Or.inl ⟨by rfl, ?_⟩) ?_ ?_
     rotate_left
     ·
      intro w'
      go_simp
      with_reducible rfl
     rotate_left
     ·
      simp only [Act.put, cO, cZ, d9, aG, aH]
      rfl
     refine aV (i := 7) (N := some 9) (v := ?_) (a' := ?_) (dG 8 255) rfl rfl (aU HT_.out (by kernel_rfl)) (fun _ _ _ h => h) (Or.inl ⟨by rfl, ?_⟩) ?_ ?_
     rotate_left
     ·
      intro w'
      go_simp
      with_reducible rfl
     rotate_left
     ·
      simp only [Act.put, cO, cZ, d9, aG, aH]
      rfl
     refine done_ (cK HT_.out (by kernel_rfl)) ?_
     try go_wp2_with (first | ((with_reducible refine bg (N := 38) rfl ?_); refine Kd.R_make (Kd.int .i64) _ 3 rfl (N := 38) rfl 34 _ _ rfl ji18 rfl rfl Try.underlying34 (.int .i64 0) 8 info3 rfl (by decide) (by omega) 0 (ok := fun _ => True) (okp := fun _ => True) rfl (fun _ hk => hk) trivial (dD (by first | (with_reducible assumption) | assumption)) (Nat.le_trans (Nat.mul_le_mul_right _ (dD (by first | (with_reducible assumption) | assumption) : ji18.toNat ≤ 35184372088832)) (by omega)) (Below.refl _ _) (Nat.le_refl _) ?_; intro v205 w27 ho28 hb hg_ hnew_; clear hg_ hnew_; (first | rw [← Ny204.out] at ho28 | (simp only [Int.reduceToNat] at ho28; rw [← Ny204.out] at ho28)); have n0_ := dH (Kd.bP ho28 (aK (by repeat (first | (with_reducible first | exact HB.out | apply ak | apply ah | apply aj) | exact HB.out)))); have n1_ := dH (aM (by repeat (first | (with_reducible first | exact HB.out | apply ak | apply ah | apply aj) | exact HB.out)) hb); clear HB; have HO206 := n0_; have HB := n1_; clear n0_ n1_; clear hb ho28))
     go_loopg [40] k (fun kq v40 w' => ∃ (x10_1 : List Int) (x40_1 : Int), v40 = .int .i64 x40_1 ∧ Aside0 (code_cancel.l0 kq a1 a2 ji18 (l0.take ((ji18) : Int).toNat) (l0.drop ((ji18) : Int).toNat) x10_1 ji18 x40_1 = some r) ∧ Aside0 (kq ≤ k) ∧ Aside0 (Kd.R (Kd.int .i64) 3 w' w.heap.size (fun _ => True) v205 x10_1) ∧ Aside0 (Below w.heap.size w w'))
     case atStart => exact ⟨(y204), (0), (by first | rfl | (simp; done) | (simp [*]; done)), H', ⟨Nat.le_refl _⟩, ⟨by (with_reducible repeat (first | apply Kd.aI | apply Kd.aJ | apply Kd.aN)); exact HO206.out⟩, ⟨by repeat (first | (with_reducible first | exact HB.out | apply ak | apply ah | apply aj) | exact HB.out)⟩⟩
     case round =>
      clear H'
      try clear c1
      try clear p1
      try clear q1
      try clear hx1
      try clear qi1
      try clear c2
      try clear p2
      try clear c4
      try clear c4b0
      try clear c4b1
      try clear c6
      try clear p6
      try clear c7
      try clear c7b0
      try clear c7b1
      try clear c8
      try clear c8b0
      try clear c9
      try clear c17
      try clear c19
      try clear c19b0
      try clear c19b1
      try clear p19
      try clear q19
      try clear hx19
      try clear qi19
      try clear c20
      try clear c20b0
      try clear c20b1
      try clear c21
      try clear c21b0
      try clear c22
      try clear c22b0
      try clear c23
      try clear c23b0
      try clear c23b1
      try clear hx192_0
      try clear p192
      try clear q192
      obtain ⟨x10_1, x40_1, rfl, HA, HK1, HO_10, HB⟩ := hrel
      cases gk with
      | zero => exact absurd HA.out (by simp [code_cancel.l0])
      | succ k1 =>
       have H := HA.out
       clear HA
       simp only [code_cancel.l0] at H
       by_cases c29 : x40_1 < ji18
       ·
        rw [if_pos c29] at H
        have c29b0 : decide (x40_1 < ji18) = true := decide_eq_true c29
        clear c29
        by_cases c30 : 0 ≤ x40_1
        ·
         rw [if_pos c30] at H
         have c30b0 : decide (0 ≤ x40_1) = true := decide_eq_true c30
         clear c30
         by_cases c31 : x40_1 < ((l0.take ((ji18) : Int).toNat).length : Int)
         ·
          rw [if_pos c31] at H
          have c31b0 : decide (x40_1 < ((l0.take ((ji18) : Int).toNat).length : Int)) = true := decide_eq_true c31
          have c31b0x : (x40_1 < max ji18 0) = True := eq_true (by have h_ := dD c31b0; rw [dz] at h_; omega)
          clear c31
          replace H := dF.mp H
          obtain ⟨t208, A320, H⟩ := H
          replace H : (if x40_1 < ((l0.drop ((ji18) : Int).toNat).length : Int) then ((code_size.f (rd (l0.drop ((ji18) : Int).toNat) x40_1)).bind fun t210 => ((code_sign.f (rd (l0.take ((ji18) : Int).toNat) x40_1)).bind fun t212 => ((code_sign.f (rd (l0.drop ((ji18) : Int).toNat) x40_1)).bind fun t214 => (if x40_1 < (x10_1.length : Int) then (code_cancel.l0 k1 a1 a2 ji18 (l0.take ((ji18) : Int).toNat) (l0.drop ((ji18) : Int).toNat) (x10_1.set (x40_1 : Int).toNat (wrap64 ((wrap64 ((mn t208 t210) * t212)) * t214))) ji18 (wrap64 (x40_1 + 1))) else (none))))) else (none)) = some r := H
          have A32 := dH A320
          clear A320
          by_cases c33 : x40_1 < ((l0.drop ((ji18) : Int).toNat).length : Int)
          ·
           rw [if_pos c33] at H
           have c33b0 : decide (x40_1 < ((l0.drop ((ji18) : Int).toNat).length : Int)) = true := decide_eq_true c33
           have c33b0x : (x40_1 < ((l0.length - ji18.toNat : Nat) : Int)) = True := eq_true (by have h_ := dD c33b0; rw [dx] at h_; omega)
           clear c33
           replace H := dF.mp H
           obtain ⟨t210, A340, H⟩ := H
           replace H : ((code_sign.f (rd (l0.take ((ji18) : Int).toNat) x40_1)).bind fun t212 => ((code_sign.f (rd (l0.drop ((ji18) : Int).toNat) x40_1)).bind fun t214 => (if x40_1 < (x10_1.length : Int) then (code_cancel.l0 k1 a1 a2 ji18 (l0.take ((ji18) : Int).toNat) (l0.drop ((ji18) : Int).toNat) (x10_1.set (x40_1 : Int).toNat (wrap64 ((wrap64 ((mn t208 t210) * t212)) * t214))) ji18 (wrap64 (x40_1 + 1))) else (none)))) = some r := H
           have A34 := dH A340
           clear A340
           obtain ⟨ji35, hji35⟩ : ∃ j_ : Int, (mn t208 t210) = j_ := ⟨_, rfl⟩
           replace H : ((code_sign.f (rd (l0.take ((ji18) : Int).toNat) x40_1)).bind fun t212 => ((code_sign.f (rd (l0.drop ((ji18) : Int).toNat) x40_1)).bind fun t214 => (if x40_1 < (x10_1.length : Int) then (code_cancel.l0 k1 a1 a2 ji18 (l0.take ((ji18) : Int).toNat) (l0.drop ((ji18) : Int).toNat) (x10_1.set (x40_1 : Int).toNat (wrap64 ((wrap64 ((ji35) * t212)) * t214))) ji18 (wrap64 (x40_1 + 1))) else (none)))) = some r := by first | (rw [hji35] at H; exact H) | (simp only [hji35] at H ⊢; exact H)
           (try rw [hji35] at A32)
           (try rw [hji35] at A34)
           have hji35_ : (if t210 < t208 then t210 else t208) = ji35 := hji35
           replace H := dF.mp H
           obtain ⟨t212, A360, H⟩ := H
           replace H : ((code_sign.f (rd (l0.drop ((ji18) : Int).toNat) x40_1)).bind fun t214 => (if x40_1 < (x10_1.length : Int) then (code_cancel.l0 k1 a1 a2 ji18 (l0.take ((ji18) : Int).toNat) (l0.drop ((ji18) : Int).toNat) (x10_1.set (x40_1 : Int).toNat (wrap64 ((wrap64 ((ji35) * t212)) * t214))) ji18 (wrap64 (x40_1 + 1))) else (none))) = some r := H
           have A36 := dH A360
           clear A360
           replace H := dF.mp H
           obtain ⟨t214, A370, H⟩ := H
           replace H : (if x40_1 < (x10_1.length : Int) then (code_cancel.l0 k1 a1 a2 ji18 (l0.take ((ji18) : Int).toNat) (l0.drop ((ji18) : Int).toNat) (x10_1.set (x40_1 : Int).toNat (wrap64 ((wrap64 ((ji35) * t212)) * t214))) ji18 (wrap64 (x40_1 + 1))) else (none)) = some r := H
           have A37 := dH A370
           clear A370
           by_cases c38 : x40_1 < (x10_1.length : Int)
           ·
            rw [if_pos c38] at H
            have c38b0 : decide (x40_1 < (x10_1.length : Int)) = true := decide_eq_true c38
            clear c38
            obtain ⟨y215, hy215⟩ : ∃ y_ : List Int, y_ = (x10_1.set (x40_1 : Int).toNat (wrap64 ((wrap64 ((ji35) * t212)) * t214))) := ⟨_, rfl⟩
            replace H : (code_cancel.l0 k1 a1 a2 ji18 (l0.take ((ji18) : Int).toNat) (l0.drop ((ji18) : Int).toNat) y215 ji18 (wrap64 (x40_1 + 1))) = some r := by first | (rw [hy215]; with_reducible exact H) | (have H2_ := (Option.bind_some _ _).symm.trans H; rw [hy215]; with_reducible exact H2_) | (have H2_ := (Option.bind_some _ _).symm.trans H; with_reducible exact H2_) | with_reducible exact H | (rw [hy215]; exact H) | exact H
            have Ny215 := dH hy215
            clear hy215
            have H' := dH H
            clear H
            try go_wp2
            have n0_ := dH (Kd.aN HO_10.out)
            have n1_ := dH (aj HB.out)
            clear HO_10
            clear HB
            have HO_10 := n0_
            have HB := n1_
            clear n0_ n1_
            have p207 : 0 ≤ (x40_1 : Int) := dD (by first | (with_reducible assumption) | assumption)
            have q207 : x40_1 < ((l0.take ((ji18) : Int).toNat).length : Int) := dD (by first | (with_reducible assumption) | assumption)
            obtain ⟨ad207, e207, hx207_0⟩ := Kd.bX HR202.out x40_1 p207 q207
            have hw207_0 := hx207_0
            cases e207
            replace hx207_0 := (HB.out.cell (dB w _ hx207_0)).trans hx207_0
            replace p207 := eq_true p207
            replace q207 := eq_true q207
            have p209 : 0 ≤ (x40_1 : Int) := dD (by first | (with_reducible assumption) | assumption)
            have q209 : x40_1 < ((l0.drop ((ji18) : Int).toNat).length : Int) := dD (by first | (with_reducible assumption) | assumption)
            obtain ⟨ad209, e209, hx209_0⟩ := Kd.bX HR203.out x40_1 p209 q209
            have hw209_0 := hx209_0
            cases e209
            replace hx209_0 := (HB.out.cell (dB w _ hx209_0)).trans hx209_0
            replace p209 := eq_true p209
            replace q209 := eq_true q209
            have p211 : 0 ≤ (x40_1 : Int) := dD (by first | (with_reducible assumption) | assumption)
            have q211 : x40_1 < ((l0.take ((ji18) : Int).toNat).length : Int) := dD (by first | (with_reducible assumption) | assumption)
            obtain ⟨ad211, e211, hx211_0⟩ := Kd.bX HR202.out x40_1 p211 q211
            have hw211_0 := hx211_0
            obtain rfl : ad207 = ad211 := (by injection e211)
            replace hx211_0 := (HB.out.cell (dB w _ hx211_0)).trans hx211_0
            replace p211 := eq_true p211
            replace q211 := eq_true q211
            have p213 : 0 ≤ (x40_1 : Int) := dD (by first | (with_reducible assumption) | assumption)
            have q213 : x40_1 < ((l0.drop ((ji18) : Int).toNat).length : Int) := dD (by first | (with_reducible assumption) | assumption)
            obtain ⟨ad213, e213, hx213_0⟩ := Kd.bX HR203.out x40_1 p213 q213
            have hw213_0 := hx213_0
            obtain rfl : ad209 = ad213 := (by injection e213)
            replace hx213_0 := (HB.out.cell (dB w _ hx213_0)).trans hx213_0
            replace p213 := eq_true p213
            replace q213 := eq_true q213
            refine b_ (n := 27) (S := fun w' => w'.cell? (ad207.add (x40_1).toNat) = some (.int .i64 (rd (l0.take ((ji18) : Int).toNat) x40_1)) ∧ w'.cell? (ad209.add (x40_1).toNat) = some (.int .i64 (rd (l0.drop ((ji18) : Int).toNat) x40_1)) ∧ w'.cell? (ad207.add (x40_1).toNat) = some (.int .i64 (rd (l0.take ((ji18) : Int).toNat) x40_1)) ∧ w'.cell? (ad209.add (x40_1).toNat) = some (.int .i64 (rd (l0.drop ((ji18) : Int).toNat) x40_1))) (ds := [26]) (dG 27 0) (by kernel_rfl) rfl rfl ⟨((HB.out.cell (dB w _ hw207_0)).trans hw207_0), ((HB.out.cell (dB w _ hw209_0)).trans hw209_0), ((HB.out.cell (dB w _ hw211_0)).trans hw211_0), ((HB.out.cell (dB w _ hw213_0)).trans hw213_0)⟩ (fun hHeld => ?_); refine bZ code_cancel.tab11 code_cancel.bits11 (fun HT_ HW_ => ?_)
            generalize wr.drew = w40 at HO_10 HB hx207_0 hx209_0 hx211_0 hx213_0 hHeld ⊢
            refine aV (i := 0) (N := some 43) (v := ?_) (a' := ?_) (dG 27 1) rfl rfl (aU HT_.out (by kernel_rfl)) (fun _ _ _ h => h) (Or.inl ⟨by rfl, ?_⟩) ?_ ?_
            rotate_left
            ·
             intro w'
             go_simp
             with_reducible rfl
            rotate_left
            ·
             simp only [Act.put, cO, cZ, d9, aG, aH]
             rfl
            refine aV (i := 1) (N := some 44) (v := ?_) (a' := ?_) (dG 27 3) rfl rfl (aU HT_.out (by kernel_rfl)) (fun _ _ _ h => h) (Or.inl ⟨by rfl, ?_⟩) ?_ ?_
            rotate_left
            ·
             intro w'
             go_simp
             with_reducible rfl
            rotate_left
            ·
             simp only [Act.put, cO, cZ, d9, aG, aH]
             rfl
            refine aV (i := 2) (N := some 45) (v := ?_) (a' := ?_) (dG 27 7) rfl rfl (aU HT_.out (by kernel_rfl)) (fun _ _ _ h => h) (Or.inl ⟨by rfl, ?_⟩) ?_ ?_
            rotate_left
            ·
             intro w'
             go_simp
             with_reducible rfl
            rotate_left
            ·
             simp only [Act.put, cO, cZ, d9, aG, aH]
             rfl
            refine aV (i := 3) (N := some 46) (v := ?_) (a' := ?_) (dG 27 15) rfl rfl (aU HT_.out (by kernel_rfl)) (fun _ _ _ h => h) (Or.inl ⟨by rfl, ?_⟩) ?_ ?_
            rotate_left
            ·
             intro w'
             go_simp
             with_reducible rfl
            rotate_left
            ·
             simp only [Act.put, cO, cZ, d9, aG, aH]
             rfl
            refine aV (i := 4) (N := some 47) (v := ?_) (a' := ?_) (dG 27 31) rfl rfl (aU HT_.out (by kernel_rfl)) (fun _ _ _ h => h) (Or.inl ⟨by rfl, ?_⟩) ?_ ?_
            rotate_left
            ·
             intro w'
             go_simp
             with_reducible rfl
            rotate_left
            ·
             simp only [Act.put, cO, cZ, d9, aG, aH]
             rfl
            refine aV (i := 7) (N := some 50) (v := ?_) (a' := ?_) (dG 27 159) rfl rfl (aU HT_.out (by kernel_rfl)) (fun _ _ _ h => h) (Or.inl ⟨by rfl, ?_⟩) ?_ ?_
            rotate_left
            ·
             intro w'
             go_simp
             with_reducible rfl
            rotate_left
            ·
             simp only [Act.put, cO, cZ, d9, aG, aH]
             rfl
            refine aV (i := 8) (N := some 51) (v := ?_) (a' := ?_) (dG 27 415) rfl rfl (aU HT_.out (by kernel_rfl)) (fun _ _ _ h => h) (Or.inl ⟨by rfl, ?_⟩) ?_ ?_
            rotate_left
            ·
             intro w'
             go_simp
             with_reducible rfl
            rotate_left
            ·
             simp only [Act.put, cO, cZ, d9, aG, aH]
             rfl
            refine aV (i := 9) (N := some 52) (v := ?_) (a' := ?_) (dG 27 927) rfl rfl (aU HT_.out (by kernel_rfl)) (fun _ _ _ h => h) (Or.inl ⟨by rfl, ?_⟩) ?_ ?_
            rotate_left
            ·
             intro w'
             go_simp
             with_reducible rfl
            rotate_left
            ·
             simp only [Act.put, cO, cZ, d9, aG, aH]
             rfl
            refine aV (i := 13) (N := some 56) (v := ?_) (a' := ?_) (dG 27 9119) rfl rfl (aU HT_.out (by kernel_rfl)) (fun _ _ _ h => h) (Or.inl ⟨by rfl, ?_⟩) ?_ ?_
            rotate_left
            ·
             intro w'
             go_simp
             with_reducible rfl
            rotate_left
            ·
             simp only [Act.put, cO, cZ, d9, aG, aH]
             rfl
            refine aV (i := 14) (N := some 57) (v := ?_) (a' := ?_) (dG 27 25503) rfl rfl (aU HT_.out (by kernel_rfl)) (fun _ _ _ h => h) (Or.inl ⟨by rfl, ?_⟩) ?_ ?_
            rotate_left
            ·
             intro w'
             go_simp
             with_reducible rfl
            rotate_left
            ·
             simp only [Act.put, cO, cZ, d9, aG, aH]
             rfl
            refine aV (i := 15) (N := some 58) (v := ?_) (a' := ?_) (dG 27 58271) rfl rfl (aU HT_.out (by kernel_rfl)) (fun _ _ _ h => h) (Or.inl ⟨by rfl, ?_⟩) ?_ ?_
            rotate_left
            ·
             intro w'
             go_simp
             with_reducible rfl
            rotate_left
            ·
             simp only [Act.put, cO, cZ, d9, aG, aH]
             rfl
            refine aV (i := 19) (N := some 62) (v := ?_) (a' := ?_) (dG 27 582559) rfl rfl (aU HT_.out (by kernel_rfl)) (fun _ _ _ h => h) (Or.inl ⟨by rfl, ?_⟩) ?_ ?_
            rotate_left
            ·
             intro w'
             go_simp
             with_reducible rfl
            rotate_left
            ·
             simp only [Act.put, cO, cZ, d9, aG, aH]
             rfl
            refine aV (i := 20) (N := some 63) (v := ?_) (a' := ?_) (dG 27 1631135) rfl rfl (aU HT_.out (by kernel_rfl)) (fun _ _ _ h => h) (Or.inl ⟨by rfl, ?_⟩) ?_ ?_
            rotate_left
            ·
             intro w'
             go_simp
             with_reducible rfl
            rotate_left
            ·
             simp only [Act.put, cO, cZ, d9, aG, aH]
             rfl
            refine aV (i := 21) (N := some 64) (v := ?_) (a' := ?_) (dG 27 3728287) rfl rfl (aU HT_.out (by kernel_rfl)) (fun _ _ _ h => h) (Or.inl ⟨by rfl, ?_⟩) ?_ ?_
            rotate_left
            ·
             intro w'
             go_simp
             with_reducible rfl
            rotate_left
            ·
             simp only [Act.put, cO, cZ, d9, aG, aH]
             rfl
            refine bK (i := 5) (N := some 48) (v := ?_) (a' := ?_) (dG 27 3728319) rfl rfl (bD HT_.out HW_.out (by kernel_rfl)) (fun _ _ _ h => h) (Or.inl ⟨by rfl, ?_⟩) hHeld ?_ ?_
            rotate_left
            ·
             rintro w' ⟨s0, s1, s2, s3⟩
             go_simp
             with_reducible rfl
            rotate_left
            ·
             simp only [Act.put, cO, cZ, d9, aG, aH]
             rfl
            refine bK (i := 10) (N := some 53) (v := ?_) (a' := ?_) (dG 27 3729343) rfl rfl (bD HT_.out HW_.out (by kernel_rfl)) (fun _ _ _ h => h) (Or.inl ⟨by rfl, ?_⟩) hHeld ?_ ?_
            rotate_left
            ·
             rintro w' ⟨s0, s1, s2, s3⟩
             go_simp
             with_reducible rfl
            rotate_left
            ·
             simp only [Act.put, cO, cZ, d9, aG, aH]
             rfl
            refine bK (i := 16) (N := some 59) (v := ?_) (a' := ?_) (dG 27 3794879) rfl rfl (bD HT_.out HW_.out (by kernel_rfl)) (fun _ _ _ h => h) (Or.inl ⟨by rfl, ?_⟩) hHeld ?_ ?_
            rotate_left
            ·
             rintro w' ⟨s0, s1, s2, s3⟩
             go_simp
             with_reducible rfl
            rotate_left
            ·
             simp only [Act.put, cO, cZ, d9, aG, aH]
             rfl
            refine bK (i := 22) (N := some 65) (v := ?_) (a' := ?_) (dG 27 7989183) rfl rfl (bD HT_.out HW_.out (by kernel_rfl)) (fun _ _ _ h => h) (Or.inl ⟨by rfl, ?_⟩) hHeld ?_ ?_
            rotate_left
            ·
             rintro w' ⟨s0, s1, s2, s3⟩
             go_simp
             with_reducible rfl
            rotate_left
            ·
             simp only [Act.put, cO, cZ, d9, aG, aH]
             rfl
            refine bR (i := 6) (N := some 49) (dG 27 7989247) rfl rfl (bB HT_.out (by kernel_rfl)) (by decide) (fun K hK => ?_)
            refine bQ Try.func198 (by kernel_rfl) rfl #[.int .i64 (rd (l0.take ((ji18) : Int).toNat) x40_1)] (by rfl) rfl rfl (by (try simp only [dh, dn, dw]); first | done | (simp only [hji18]; rfl) | rfl | (simp only [dx, dz]; rfl) | (simp only [gt_iff_lt, dA]; rfl) | (simp [Act.eval]; done)) ?_
            with_reducible refine (code_size.calls (rd (l0.take ((ji18) : Int).toNat) x40_1) t208 _ A32.out).mono ?_
            rintro e w41 ⟨rfl, hb⟩
            refine ⟨_, rfl, ?_⟩
            have n0_ := dH (Kd.cu (by (with_reducible repeat (first | apply Kd.aI | apply Kd.aJ | apply Kd.aN)); exact HO_10.out) hb)
            have n1_ := dH (aM (by repeat (first | (with_reducible first | exact HB.out | apply ak | apply ah | apply aj) | exact HB.out)) hb)
            clear HO_10
            clear HB
            have HO_10 := n0_
            have HB := n1_
            clear n0_ n1_
            (try clear hb)
            (try clear hb2)
            (try clear hk)
            (try clear hi)
            refine hK.out _ _ ⟨((HB.out.cell (dB w _ hw207_0)).trans hw207_0), ((HB.out.cell (dB w _ hw209_0)).trans hw209_0), ((HB.out.cell (dB w _ hw211_0)).trans hw211_0), ((HB.out.cell (dB w _ hw213_0)).trans hw213_0)⟩ (fun hHeld => ?_)
            clear hK K
            refine bG (a' := ?_) ?_ ?_
            rotate_left
            ·
             show Act.put _ (some 49) _ = _
             simp only [Act.put, cO, cZ, d9, aG, aH]
             rfl
            refine bR (i := 11) (N := some 54) (dG 27 7991295) rfl rfl (bB HT_.out (by kernel_rfl)) (by decide) (fun K hK => ?_)
            refine bQ Try.func198 (by kernel_rfl) rfl #[.int .i64 (rd (l0.drop ((ji18) : Int).toNat) x40_1)] (by rfl) rfl rfl (by (try simp only [dh, dn, dw]); first | done | (simp only [hji18]; rfl) | rfl | (simp only [dx, dz]; rfl) | (simp only [gt_iff_lt, dA]; rfl) | (simp [Act.eval]; done)) ?_
            with_reducible refine (code_size.calls (rd (l0.drop ((ji18) : Int).toNat) x40_1) t210 _ A34.out).mono ?_
            rintro e w42 ⟨rfl, hb⟩
            refine ⟨_, rfl, ?_⟩
            have n0_ := dH (Kd.cu (by (with_reducible repeat (first | apply Kd.aI | apply Kd.aJ | apply Kd.aN)); exact HO_10.out) hb)
            have n1_ := dH (aM (by repeat (first | (with_reducible first | exact HB.out | apply ak | apply ah | apply aj) | exact HB.out)) hb)
            clear HO_10
            clear HB
            have HO_10 := n0_
            have HB := n1_
            clear n0_ n1_
            (try clear hb)
            (try clear hb2)
            (try clear hk)
            (try clear hi)
            refine hK.out _ _ ⟨((HB.out.cell (dB w _ hw207_0)).trans hw207_0), ((HB.out.cell (dB w _ hw209_0)).trans hw209_0), ((HB.out.cell (dB w _ hw211_0)).trans hw211_0), ((HB.out.cell (dB w _ hw213_0)).trans hw213_0)⟩ (fun hHeld => ?_)
            clear hK K
            refine bG (a' := ?_) ?_ ?_
            rotate_left
            ·
             show Act.put _ (some 54) _ = _
             simp only [Act.put, cO, cZ, d9, aG, aH]
             rfl
            refine aV (i := 12) (N := some 55) (v := ?_) (a' := ?_) (dG 27 7995391) rfl rfl (aU HT_.out (by kernel_rfl)) (fun _ _ _ h => h) (Or.inl ⟨by rfl, ?_⟩) ?_ ?_
            rotate_left
            ·
             intro w'
             go_simp
             with_reducible rfl
            rotate_left
            ·
             simp only [Act.put, cO, cZ, d9, aG, aH]
             rfl
            refine bR (i := 17) (N := some 60) (dG 27 8126463) rfl rfl (bB HT_.out (by kernel_rfl)) (by decide) (fun K hK => ?_)
            refine bQ Try.func199 (by kernel_rfl) rfl #[.int .i64 (rd (l0.take ((ji18) : Int).toNat) x40_1)] (by rfl) rfl rfl (by (try simp only [dh, dn, dw]); first | done | (simp only [hji18]; rfl) | rfl | (simp only [dx, dz]; rfl) | (simp only [gt_iff_lt, dA]; rfl) | (simp [Act.eval]; done)) ?_
            with_reducible refine (code_sign.calls (rd (l0.take ((ji18) : Int).toNat) x40_1) t212 _ A36.out).mono ?_
            rintro e w' ⟨rfl, ⟨nd, rfl⟩⟩
            refine ⟨_, rfl, ?_⟩
            refine hK.out _ _ ⟨((HB.out.cell (dB w _ hw207_0)).trans hw207_0), ((HB.out.cell (dB w _ hw209_0)).trans hw209_0), ((HB.out.cell (dB w _ hw211_0)).trans hw211_0), ((HB.out.cell (dB w _ hw213_0)).trans hw213_0)⟩ (fun hHeld => ?_)
            clear hK K
            refine bG (a' := ?_) ?_ ?_
            rotate_left
            ·
             show Act.put _ (some 60) _ = _
             simp only [Act.put, cO, cZ, d9, aG, aH]
             rfl
            refine aV (i := 18) (N := some 61) (v := ?_) (a' := ?_) (dG 27 8388607) rfl rfl (aU HT_.out (by kernel_rfl)) (fun _ _ _ h => h) (Or.inl ⟨by rfl, ?_⟩) ?_ ?_
            rotate_left
            ·
             intro w'
             go_simp
             with_reducible rfl
            rotate_left
            ·
             simp only [Act.put, cO, cZ, d9, aG, aH]
             rfl
            refine bR (i := 23) (N := some 66) (dG 27 16777215) rfl rfl (bB HT_.out (by kernel_rfl)) (by decide) (fun K hK => ?_)
            refine bQ Try.func199 (by kernel_rfl) rfl #[.int .i64 (rd (l0.drop ((ji18) : Int).toNat) x40_1)] (by rfl) rfl rfl (by (try simp only [dh, dn, dw]); first | done | (simp only [hji18]; rfl) | rfl | (simp only [dx, dz]; rfl) | (simp only [gt_iff_lt, dA]; rfl) | (simp [Act.eval]; done)) ?_
            with_reducible refine (code_sign.calls (rd (l0.drop ((ji18) : Int).toNat) x40_1) t214 _ A37.out).mono ?_
            rintro e w' ⟨rfl, ⟨nd, rfl⟩⟩
            refine ⟨_, rfl, ?_⟩
            have p39 : 0 ≤ (x40_1 : Int) := dD (by first | (with_reducible assumption) | assumption)
            have q39 : (x40_1 : Int) < ((x10_1.length : Int) : Int) := dD (by first | (with_reducible assumption) | assumption)
            obtain ⟨go39, co39, eo39, gb39, gl39, cl39, HG39⟩ := Kd.R_form HO_10.out (by omega)
            (first | cases eo39 | (injection eo39 with ea_ en_ ec_; (first | subst ea_ | (injection ea_ with ea_; subst ea_)); subst ec_; clear en_))
            have GB39 := dH gb39
            have GG39 := dH HG39
            clear gb39 gl39 HG39
            obtain ⟨hx39_0, hf39_0⟩ := Kd.R_celln 0 HO_10.out (x40_1 : Int) p39 q39
            replace p39 := eq_true p39
            replace q39 := eq_true q39
            have HP43 := Kd.R_putn HO_10.out (x40_1 : Int) (wrap64 ((wrap64 ((ji35) * t212)) * t214))
            rw [← Ny215.out] at HP43
            have HQ43 := dH HP43
            clear HP43
            refine hK.out _ _ ⟨((HB.out.cell (dB w _ hw207_0)).trans hw207_0), ((HB.out.cell (dB w _ hw209_0)).trans hw209_0), ((HB.out.cell (dB w _ hw211_0)).trans hw211_0), ((HB.out.cell (dB w _ hw213_0)).trans hw213_0)⟩ (fun hHeld => ?_)
            clear hK K
            refine bG (a' := ?_) ?_ ?_
            rotate_left
            ·
             show Act.put _ (some 66) _ = _
             simp only [Act.put, cO, cZ, d9, aG, aH]
             rfl
            refine aV (i := 24) (N := some 67) (v := ?_) (a' := ?_) (dG 27 33554431) rfl rfl (aU HT_.out (by kernel_rfl)) (fun _ _ _ h => h) (Or.inl ⟨by rfl, ?_⟩) ?_ ?_
            rotate_left
            ·
             intro w'
             go_simp
             with_reducible rfl
            rotate_left
            ·
             simp only [Act.put, cO, cZ, d9, aG, aH]
             rfl
            refine aV (i := 25) (N := some 68) (v := ?_) (a' := ?_) (dG 27 67108863) rfl rfl (aU HT_.out (by kernel_rfl)) (fun _ _ _ h => h) (Or.inl ⟨by rfl, ?_⟩) ?_ ?_
            rotate_left
            ·
             intro w'
             go_simp
             with_reducible rfl
            rotate_left
            ·
             simp only [Act.put, cO, cZ, d9, aG, aH]
             rfl
            refine last_ (i := 26) (N := none) (dG 27 134217727) rfl rfl (bB HT_.out (by kernel_rfl)) (by decide) (fun K hK => ?_)
            refine skip_ (w1 := ?_) (by rfl) rfl ?_ ?_
            rotate_left
            ·
             go_simp
             rfl
            refine hK.out _ _ ?_
            clear hK K
            refine done_ (cK HT_.out (by kernel_rfl)) ?_
            try go_wp2
            go_roundg k1
            case measure => have := HK1.out; omega
            case rel => exact ⟨(y215), (wrap64 (x40_1 + 1)), (by first | rfl | (simp; done) | (simp [*]; done)), H', ⟨by have := HK1.out; omega⟩, ⟨by (with_reducible repeat (first | apply Kd.aI | apply Kd.aJ | apply Kd.aN)); exact HQ43.out⟩, ⟨by repeat (first | (with_reducible first | exact HB.out | apply ak | apply ah | apply aj | refine aA ?_ GB39.out) | exact HB.out)⟩⟩
           ·
            rw [if_neg c38] at H
            exact absurd H (by simp)
          ·
           rw [if_neg c33] at H
           exact absurd H (by simp)
         ·
          rw [if_neg c31] at H
          exact absurd H (by simp)
        ·
         rw [if_neg c30] at H
         exact absurd H (by simp)
       ·
        rw [if_neg c29] at H
        have c29b0 : decide (x40_1 < ji18) = false := decide_eq_false c29
        clear c29
        replace H := dF.mp H
        obtain ⟨t216, A440, H⟩ := H
        replace H : ((slices_Clone_int_int.f t216).bind fun t219 => ((code_word.f k1 t219).bind fun t222 => (code_cancel.l1 k1 a1 a2 ji18 (l0.take ((ji18) : Int).toNat) (l0.drop ((ji18) : Int).toNat) x10_1 t216 t222 (t222.length : Int) 0))) = some r := H
        have A44 := dH A440
        clear A440
        replace H := dF.mp H
        obtain ⟨t219, A450, H⟩ := H
        replace H : ((code_word.f k1 t219).bind fun t222 => (code_cancel.l1 k1 a1 a2 ji18 (l0.take ((ji18) : Int).toNat) (l0.drop ((ji18) : Int).toNat) x10_1 t216 t222 (t222.length : Int) 0)) = some r := H
        have A45 := dH A450
        clear A450
        replace H := dF.mp H
        obtain ⟨t222, A460, H⟩ := H
        replace H : (code_cancel.l1 k1 a1 a2 ji18 (l0.take ((ji18) : Int).toNat) (l0.drop ((ji18) : Int).toNat) x10_1 t216 t222 (t222.length : Int) 0) = some r := H
        have A46 := dH A460
        clear A460
        have H' := dH H
        clear H
        obtain ⟨Ao47, co47, eo47⟩ := Kd.bN HO_10.out
        subst eo47
        go_wp2_with (first | ((with_reducible refine aT (f := 178) rfl ?_); refine bq (some 73) rfl rfl Try.func178 (by kernel_rfl) rfl #[.slice Ao47 x10_1.length co47, .int .i64 a1, .func (.func gP_) #[] lbP_] rfl (by (try simp only [dh, dn, dw]); first | done | rfl | (simp only [dx, dz]; rfl) | (simp only [gt_iff_lt, dA]; rfl) | (simp [Act.eval]; done)) ?_; (with_reducible refine (ih k1 (by have := HK1.out; omega) _ _ x10_1 a1 a2 t216 _ ?side1 ?side2 (HP.out.later ?sideP) A44.out).mono ?_); (case sideP => repeat (first | (with_reducible first | exact HB.out | apply ak | apply ah | apply aj) | exact HB.out)); (case side1 => repeat (first | exact (Kd.aZ HO_10.out).2.2 | (with_reducible refine Kd.bA ?_ _) | (with_reducible refine Kd.bC ?_ _) | (with_reducible refine Kd.bJ ?_))); (case side2 => exact (Kd.aZ HO_10.out).2.1); rintro e w48 ⟨v217, rfl, ho0, hb⟩; refine ⟨_, rfl, ?_⟩; have n0_ := dH (Kd.bf (by (with_reducible repeat (first | apply Kd.aI | apply Kd.aJ | apply Kd.aN)); exact HO_10.out) (Kd.bE ho0) hb); have n1_ := dH (Kd.bP (Kd.bH ho0 (Kd.bT (by (with_reducible repeat (first | apply Kd.aI | apply Kd.aJ | apply Kd.aN)); exact HO_10.out))) (aK (by repeat (first | (with_reducible first | exact HB.out | apply ak | apply ah | apply aj) | exact HB.out)))); have n2_ := dH (aM (by repeat (first | (with_reducible first | exact HB.out | apply ak | apply ah | apply aj) | exact HB.out)) hb); clear HO_10; clear HB; have HO_10 := n0_; have HO218 := n1_; have HB := n2_; clear n0_ n1_ n2_; (try clear hb); (try clear hb2); (try clear hk); (try clear hi); (try clear ho0); obtain ⟨Ao49, co49, eo49⟩ := Kd.bN HO218.out; subst eo49) | ((with_reducible refine aT (f := 80) rfl ?_); refine bq (some 75) rfl rfl Try.func80 (by kernel_rfl) rfl #[.slice Ao49 t216.length co49] rfl (by (try simp only [dh, dn, dw]); first | done | rfl | (simp only [dx, dz]; rfl) | (simp only [gt_iff_lt, dA]; rfl) | (simp [Act.eval]; done)) ?_; (with_reducible refine (slices_Clone_int_int.calls _ _ t216 t219 _ ?side1 ?side2 A45.out).mono ?_); (case side1 => repeat (first | exact (Kd.aZ HO218.out).2.2 | (with_reducible refine Kd.bA ?_ _) | (with_reducible refine Kd.bC ?_ _) | (with_reducible refine Kd.bJ ?_))); (case side2 => exact (Kd.aZ HO218.out).2.1); rintro e w50 ⟨v220, rfl, ho0, hb⟩; refine ⟨_, rfl, ?_⟩; have n0_ := dH (Kd.bf (by (with_reducible repeat (first | apply Kd.aI | apply Kd.aJ | apply Kd.aN)); exact HO_10.out) (Kd.bE ho0) hb); have n1_ := dH (Kd.bf (by (with_reducible repeat (first | apply Kd.aI | apply Kd.aJ | apply Kd.aN)); exact HO218.out) (Kd.bE ho0) hb); have n2_ := dH (Kd.bP (Kd.bH (Kd.bH ho0 (Kd.bT (by (with_reducible repeat (first | apply Kd.aI | apply Kd.aJ | apply Kd.aN)); exact HO_10.out))) (Kd.bT (by (with_reducible repeat (first | apply Kd.aI | apply Kd.aJ | apply Kd.aN)); exact HO218.out))) (aK (by repeat (first | (with_reducible first | exact HB.out | apply ak | apply ah | apply aj) | exact HB.out)))); have n3_ := dH (aM (by repeat (first | (with_reducible first | exact HB.out | apply ak | apply ah | apply aj) | exact HB.out)) hb); clear HO_10; clear HO218; clear HB; have HO_10 := n0_; have HO218 := n1_; have HO221 := n2_; have HB := n3_; clear n0_ n1_ n2_ n3_; (try clear hb); (try clear hb2); (try clear hk); (try clear hi); (try clear ho0); obtain ⟨Ao51, co51, eo51⟩ := Kd.bN HO221.out; subst eo51) | ((with_reducible refine aT (f := 177) rfl ?_); refine bq (some 76) rfl rfl Try.func177 (by kernel_rfl) rfl #[.slice Ao51 t219.length co51] rfl (by (try simp only [dh, dn, dw]); first | done | rfl | (simp only [dx, dz]; rfl) | (simp only [gt_iff_lt, dA]; rfl) | (simp [Act.eval]; done)) ?_; (with_reducible refine (code_word.calls k1 (fun k_ => some k_ = (.slice Ao51 t219.length co51 : Value).ownBlock) (.slice Ao51 t219.length co51) t219 t222 w _ ?side1 ?side2 A46.out).mono ?_); (case side1 => repeat (first | (with_reducible first | exact HB.out | apply ak | apply ah | apply aj) | exact HB.out)); (case side2 => exact Kd.R_tight rfl HO221.out); rintro e w52 ⟨v223, rfl, ho0, hb, hkp⟩; refine ⟨_, rfl, ?_⟩; have n0_ := dH (Kd.bM (ok' := fun k_ => some k_ ≠ (.slice Ao49 t216.length co49 : Value).ownBlock ∧ some k_ ≠ (v223 : Value).ownBlock) (Kd.R_keptB (HO_10.out) hkp (fun k_ hk_ hs_ => (hk_.2) hs_)) (fun k_ hk_ => ⟨hk_.1.1.2, fun e_ => Or.elim (ho0.1 k_ e_.symm) (fun hs_ => hk_.2.1 hs_) (fun hn_ => Nat.not_le.2 hk_.2.2 hn_)⟩)); have n1_ := dH (Kd.bM (ok' := fun k_ => some k_ ≠ (.slice Ao47 x10_1.length co47 : Value).ownBlock ∧ some k_ ≠ (v223 : Value).ownBlock) (Kd.R_keptB (HO218.out) hkp (fun k_ hk_ hs_ => (hk_.2) hs_)) (fun k_ hk_ => ⟨hk_.1.1.2, fun e_ => Or.elim (ho0.1 k_ e_.symm) (fun hs_ => hk_.2.1 hs_) (fun hn_ => Nat.not_le.2 hk_.2.2 hn_)⟩)); have n2_ := dH (Kd.bM (ok' := fun k_ => some k_ ≠ (.slice Ao47 x10_1.length co47 : Value).ownBlock ∧ some k_ ≠ (.slice Ao49 t216.length co49 : Value).ownBlock) ho0 (fun k_ hk_ => ⟨Or.elim hk_ (fun hs_ => fun e_ => (((HO_10.out).1 k_ e_.symm).2) hs_) (fun hn_ => (Kd.fresh' (Kd.bT (by (with_reducible repeat (first | apply Kd.aI | apply Kd.aJ | apply Kd.aN)); exact HO_10.out)) k_ hn_)), Or.elim hk_ (fun hs_ => fun e_ => (((HO218.out).1 k_ e_.symm).2) hs_) (fun hn_ => (Kd.fresh' (Kd.bT (by (with_reducible repeat (first | apply Kd.aI | apply Kd.aJ | apply Kd.aN)); exact HO218.out)) k_ hn_))⟩)); have n3_ := dH (hb); clear HO_10; clear HO218; clear HB; clear HO221; have HO_10 := n0_; have HO218 := n1_; have HO224 := n2_; have HB := n3_; clear n0_ n1_ n2_ n3_; (try clear hb); (try clear hkp); (try clear ho0); obtain ⟨Ao53, co53, eo53⟩ := Kd.bN HO224.out; subst eo53))
        go_loopg [78] k1 (fun kq v78 w' => ∃ (x10_2 : List Int) (x78_2 : Int), v78 = .int .i64 x78_2 ∧ Aside0 (code_cancel.l1 kq a1 a2 ji18 (l0.take ((ji18) : Int).toNat) (l0.drop ((ji18) : Int).toNat) x10_2 t216 t222 (t222.length : Int) x78_2 = some r) ∧ Aside0 (kq ≤ k1) ∧ Aside0 (Kd.R (Kd.int .i64) 3 w' w.heap.size (fun k_ => some k_ ≠ ((.slice Ao49 t216.length co49) : Value).ownBlock ∧ some k_ ≠ ((.slice Ao53 t222.length co53) : Value).ownBlock) (.slice Ao47 x10_1.length co47) x10_2) ∧ Aside0 (Kd.R (Kd.int .i64) 3 w' w.heap.size (fun k_ => some k_ ≠ ((.slice Ao47 x10_1.length co47) : Value).ownBlock ∧ some k_ ≠ ((.slice Ao53 t222.length co53) : Value).ownBlock) (.slice Ao49 t216.length co49) t216) ∧ Aside0 (Kd.R (Kd.int .i64) 3 w' w.heap.size (fun k_ => some k_ ≠ ((.slice Ao47 x10_1.length co47) : Value).ownBlock ∧ some k_ ≠ ((.slice Ao49 t216.length co49) : Value).ownBlock) (.slice Ao53 t222.length co53) t222) ∧ Aside0 (Below w.heap.size w w'))
        case atStart => exact ⟨(x10_1), (0), (by first | rfl | (simp; done) | (simp [*]; done)), H', ⟨Nat.le_refl _⟩, ⟨by (with_reducible repeat (first | apply Kd.aI | apply Kd.aJ | apply Kd.aN)); exact HO_10.out⟩, ⟨by (with_reducible repeat (first | apply Kd.aI | apply Kd.aJ | apply Kd.aN)); exact HO218.out⟩, ⟨by (with_reducible repeat (first | apply Kd.aI | apply Kd.aJ | apply Kd.aN)); exact HO224.out⟩, ⟨by repeat (first | (with_reducible first | exact HB.out | apply ak | apply ah | apply aj) | exact HB.out)⟩⟩
        case round =>
         clear H'
         try clear c1
         try clear p1
         try clear q1
         try clear hx1
         try clear qi1
         try clear c2
         try clear p2
         try clear q2
         try clear hx2
         try clear c3
         try clear p3
         try clear q3
         try clear hx3
         try clear hf3
         try clear c4
         try clear c4b0
         try clear c4b1
         try clear c6
         try clear p6
         try clear c7
         try clear c7b0
         try clear c7b1
         try clear c8
         try clear c8b0
         try clear c9
         try clear c17
         try clear c19
         try clear c19b0
         try clear c19b1
         try clear p19
         try clear q19
         try clear hx19
         try clear qi19
         try clear c20
         try clear c20b0
         try clear c20b1
         try clear p20
         try clear q20
         try clear hx20
         try clear c21
         try clear c21b0
         try clear p21
         try clear q21
         try clear hx21
         try clear c22
         try clear c22b0
         try clear c23
         try clear c23b0
         try clear c23b1
         try clear c29
         try clear c29b0
         try clear c30
         try clear c30b0
         try clear c31
         try clear c31b0
         try clear c33
         try clear c33b0
         try clear c38
         try clear c38b0
         try clear p39
         try clear q39
         try clear hx39
         try clear hf39
         try clear hx192_0
         try clear hx207_0
         try clear hx209_0
         try clear hx211_0
         try clear hx213_0
         try clear hx39_0
         try clear p1
         try clear p19
         try clear p192
         try clear p2
         try clear p207
         try clear p209
         try clear p211
         try clear p213
         try clear p39
         try clear p6
         try clear q1
         try clear q19
         try clear q192
         try clear q207
         try clear q209
         try clear q211
         try clear q213
         try clear q39
         obtain ⟨x10_2, x78_2, rfl, HA, HK2, HO_10, HO_12, HO_76, HB⟩ := hrel
         have hl10_2 := (Kd.aZ HO_10.out).1
         rw [hl10_2] at HO_10
         (try simp only [hl10_2])
         (try simp only [hl10_2] at HO_12)
         (try simp only [hl10_2] at HO_76)
         cases gk with
         | zero => exact absurd HA.out (by simp [code_cancel.l1])
         | succ k2 =>
          have H := HA.out
          clear HA
          simp only [code_cancel.l1] at H
          by_cases c54 : x78_2 < (t222.length : Int)
          ·
           rw [if_pos c54] at H
           have c54b0 : decide (x78_2 < (t222.length : Int)) = true := decide_eq_true c54
           (try (have c54b0z0 := c54b0; rw [hl10_2] at c54b0z0))
           clear c54
           by_cases c55 : 0 ≤ x78_2
           ·
            rw [if_pos c55] at H
            have c55b0 : decide (0 ≤ x78_2) = true := decide_eq_true c55
            clear c55
            by_cases c56 : x78_2 < (t222.length : Int)
            ·
             rw [if_pos c56] at H
             have c56b0 : decide (x78_2 < (t222.length : Int)) = true := decide_eq_true c56
             (try (have c56b0z0 := c56b0; rw [hl10_2] at c56b0z0))
             clear c56
             by_cases c57 : x78_2 < ((l0.drop ((ji18) : Int).toNat).length : Int)
             ·
              rw [if_pos c57] at H
              have c57b0 : decide (x78_2 < ((l0.drop ((ji18) : Int).toNat).length : Int)) = true := decide_eq_true c57
              have c57b0x : (x78_2 < ((l0.length - ji18.toNat : Nat) : Int)) = True := eq_true (by have h_ := dD c57b0; rw [dx] at h_; omega)
              (try (have c57b0z0 := c57b0; rw [hl10_2] at c57b0z0))
              clear c57
              by_cases c58 : x78_2 < ((l0.take ((ji18) : Int).toNat).length : Int)
              ·
               rw [if_pos c58] at H
               have c58b0 : decide (x78_2 < ((l0.take ((ji18) : Int).toNat).length : Int)) = true := decide_eq_true c58
               have c58b0x : (x78_2 < max ji18 0) = True := eq_true (by have h_ := dD c58b0; rw [dz] at h_; omega)
               (try (have c58b0z0 := c58b0; rw [hl10_2] at c58b0z0))
               clear c58
               by_cases c59 : x78_2 < (x10_2.length : Int)
               ·
                rw [if_pos c59] at H
                have c59b0 : decide (x78_2 < (x10_2.length : Int)) = true := decide_eq_true c59
                (try (have c59b0z0 := c59b0; rw [hl10_2] at c59b0z0))
                clear c59
                obtain ⟨y228, hy228⟩ : ∃ y_ : List Int, y_ = (x10_2.set (x78_2 : Int).toNat (wrap64 ((rd (l0.drop ((ji18) : Int).toNat) x78_2) + (rd (l0.take ((ji18) : Int).toNat) x78_2)))) := ⟨_, rfl⟩
                replace H : (if (rd t222 x78_2) = 1 then (code_cancel.l1 k2 a1 a2 ji18 (l0.take ((ji18) : Int).toNat) (l0.drop ((ji18) : Int).toNat) (y228.set (x78_2 : Int).toNat (wrap64 ((rd (l0.drop ((ji18) : Int).toNat) x78_2) - (rd (l0.take ((ji18) : Int).toNat) x78_2)))) t216 t222 (t222.length : Int) (wrap64 (x78_2 + 1))) else (code_cancel.l1 k2 a1 a2 ji18 (l0.take ((ji18) : Int).toNat) (l0.drop ((ji18) : Int).toNat) y228 t216 t222 (t222.length : Int) (wrap64 (x78_2 + 1)))) = some r := by first | (rw [hy228]; with_reducible exact H) | (have H2_ := (Option.bind_some _ _).symm.trans H; rw [hy228]; with_reducible exact H2_) | (have H2_ := (Option.bind_some _ _).symm.trans H; with_reducible exact H2_) | with_reducible exact H | (rw [hy228]; exact H) | exact H
                have Ny228 := dH hy228
                clear hy228
                by_cases c61 : (rd t222 x78_2) = 1
                ·
                 rw [if_pos c61] at H
                 have c61b0 : ((rd t222 x78_2) == 1) = true := beq_iff_eq.mpr c61
                 have c61b1 : ((rd t222 x78_2) != 1) = false := bne_eq_false_iff_eq.mpr c61
                 clear c61
                 obtain ⟨y231, hy231⟩ : ∃ y_ : List Int, y_ = (y228.set (x78_2 : Int).toNat (wrap64 ((rd (l0.drop ((ji18) : Int).toNat) x78_2) - (rd (l0.take ((ji18) : Int).toNat) x78_2)))) := ⟨_, rfl⟩
                 replace H : (code_cancel.l1 k2 a1 a2 ji18 (l0.take ((ji18) : Int).toNat) (l0.drop ((ji18) : Int).toNat) y231 t216 t222 (t222.length : Int) (wrap64 (x78_2 + 1))) = some r := by first | (rw [hy231]; with_reducible exact H) | (have H2_ := (Option.bind_some _ _).symm.trans H; rw [hy231]; with_reducible exact H2_) | (have H2_ := (Option.bind_some _ _).symm.trans H; with_reducible exact H2_) | with_reducible exact H | (rw [hy231]; exact H) | exact H
                 have Ny231 := dH hy231
                 clear hy231
                 have H' := dH H
                 clear H
                 have p225 : 0 ≤ (x78_2 : Int) := dD (by first | (with_reducible assumption) | assumption)
                 have q225 : x78_2 < (t222.length : Int) := dD (by first | (with_reducible assumption) | assumption)
                 obtain ⟨ad225, e225, hx225_0⟩ := Kd.bX (Kd.aZ HO_76.out).2.2 x78_2 p225 q225
                 cases e225
                 replace p225 := eq_true p225
                 replace q225 := eq_true q225
                 try go_wp2
                 have n0_ := dH (Kd.aN HO_10.out)
                 have n1_ := dH (Kd.aN HO_12.out)
                 have n2_ := dH (Kd.aN HO_76.out)
                 have n3_ := dH (aj HB.out)
                 clear HO_10
                 clear HO_12
                 clear HO_76
                 clear HB
                 have HO_10 := n0_
                 have HO_12 := n1_
                 have HO_76 := n2_
                 have HB := n3_
                 clear n0_ n1_ n2_ n3_
                 have p226 : 0 ≤ (x78_2 : Int) := dD (by first | (with_reducible assumption) | assumption)
                 have q226 : x78_2 < ((l0.drop ((ji18) : Int).toNat).length : Int) := dD (by first | (with_reducible assumption) | assumption)
                 obtain ⟨ad226, e226, hx226_0⟩ := Kd.bX HR203.out x78_2 p226 q226
                 have hw226_0 := hx226_0
                 cases e226
                 replace hx226_0 := (HB.out.cell (dB w _ hx226_0)).trans hx226_0
                 replace p226 := eq_true p226
                 replace q226 := eq_true q226
                 have p227 : 0 ≤ (x78_2 : Int) := dD (by first | (with_reducible assumption) | assumption)
                 have q227 : x78_2 < ((l0.take ((ji18) : Int).toNat).length : Int) := dD (by first | (with_reducible assumption) | assumption)
                 obtain ⟨ad227, e227, hx227_0⟩ := Kd.bX HR202.out x78_2 p227 q227
                 have hw227_0 := hx227_0
                 cases e227
                 replace hx227_0 := (HB.out.cell (dB w _ hx227_0)).trans hx227_0
                 replace p227 := eq_true p227
                 replace q227 := eq_true q227
                 have p60 : 0 ≤ (x78_2 : Int) := dD (by first | (with_reducible assumption) | assumption)
                 have q60 : (x78_2 : Int) < ((x10_2.length : Int) : Int) := dD (by first | (with_reducible assumption) | assumption)
                 obtain ⟨go60, co60, eo60, gb60, gl60, cl60, HG60⟩ := Kd.R_form HO_10.out (by omega)
                 (first | cases eo60 | (injection eo60 with ea_ en_ ec_; (first | subst ea_ | (injection ea_ with ea_; subst ea_)); subst ec_; clear en_))
                 have GB60 := dH gb60
                 have GG60 := dH HG60
                 clear gb60 gl60 HG60
                 obtain ⟨hx60_0, hf60_0⟩ := Kd.R_celln 0 HO_10.out (x78_2 : Int) p60 q60
                 replace p60 := eq_true p60
                 replace q60 := eq_true q60
                 have HP64 := Kd.R_putn HO_10.out (x78_2 : Int) (wrap64 ((rd (l0.drop ((ji18) : Int).toNat) x78_2) + (rd (l0.take ((ji18) : Int).toNat) x78_2)))
                 rw [← Ny228.out] at HP64
                 have HQ64 := dH HP64
                 clear HP64
                 refine b_ (n := 13) (S := fun w' => w'.cell? (ad226.add (x78_2).toNat) = some (.int .i64 (rd (l0.drop ((ji18) : Int).toNat) x78_2)) ∧ w'.cell? (ad227.add (x78_2).toNat) = some (.int .i64 (rd (l0.take ((ji18) : Int).toNat) x78_2))) (ds := [12]) (dG 13 0) (by kernel_rfl) rfl rfl ⟨((HB.out.cell (dB w _ hw226_0)).trans hw226_0), ((HB.out.cell (dB w _ hw227_0)).trans hw227_0)⟩ (fun hHeld => ?_); refine bZ code_cancel.tab17 code_cancel.bits17 (fun HT_ HW_ => ?_)
                 generalize wr.drew = w63 at HO_10 HO_12 HO_76 HB GG60 HQ64 hf60_0 hx226_0 hx227_0 hx60_0 hHeld ⊢
                 refine aV (i := 0) (N := some 83) (v := ?_) (a' := ?_) (dG 13 1) rfl rfl (aU HT_.out (by kernel_rfl)) (fun _ _ _ h => h) (Or.inl ⟨by rfl, ?_⟩) ?_ ?_
                 rotate_left
                 ·
                  intro w'
                  go_simp
                  with_reducible rfl
                 rotate_left
                 ·
                  simp only [Act.put, cO, cZ, d9, aG, aH]
                  rfl
                 refine aV (i := 1) (N := some 84) (v := ?_) (a' := ?_) (dG 13 3) rfl rfl (aU HT_.out (by kernel_rfl)) (fun _ _ _ h => h) (Or.inl ⟨by rfl, ?_⟩) ?_ ?_
                 rotate_left
                 ·
                  intro w'
                  go_simp
                  with_reducible rfl
                 rotate_left
                 ·
                  simp only [Act.put, cO, cZ, d9, aG, aH]
                  rfl
                 refine aV (i := 2) (N := some 85) (v := ?_) (a' := ?_) (dG 13 7) rfl rfl (aU HT_.out (by kernel_rfl)) (fun _ _ _ h => h) (Or.inl ⟨by rfl, ?_⟩) ?_ ?_
                 rotate_left
                 ·
                  intro w'
                  go_simp
                  with_reducible rfl
                 rotate_left
                 ·
                  simp only [Act.put, cO, cZ, d9, aG, aH]
                  rfl
                 refine aV (i := 3) (N := some 86) (v := ?_) (a' := ?_) (dG 13 15) rfl rfl (aU HT_.out (by kernel_rfl)) (fun _ _ _ h => h) (Or.inl ⟨by rfl, ?_⟩) ?_ ?_
                 rotate_left
                 ·
                  intro w'
                  go_simp
                  with_reducible rfl
                 rotate_left
                 ·
                  simp only [Act.put, cO, cZ, d9, aG, aH]
                  rfl
                 refine aV (i := 4) (N := some 87) (v := ?_) (a' := ?_) (dG 13 31) rfl rfl (aU HT_.out (by kernel_rfl)) (fun _ _ _ h => h) (Or.inl ⟨by rfl, ?_⟩) ?_ ?_
                 rotate_left
                 ·
                  intro w'
                  go_simp
                  with_reducible rfl
                 rotate_left
                 ·
                  simp only [Act.put, cO, cZ, d9, aG, aH]
                  rfl
                 refine aV (i := 6) (N := some 89) (v := ?_) (a' := ?_) (dG 13 95) rfl rfl (aU HT_.out (by kernel_rfl)) (fun _ _ _ h => h) (Or.inl ⟨by rfl, ?_⟩) ?_ ?_
                 rotate_left
                 ·
                  intro w'
                  go_simp
                  with_reducible rfl
                 rotate_left
                 ·
                  simp only [Act.put, cO, cZ, d9, aG, aH]
                  rfl
                 refine aV (i := 7) (N := some 90) (v := ?_) (a' := ?_) (dG 13 223) rfl rfl (aU HT_.out (by kernel_rfl)) (fun _ _ _ h => h) (Or.inl ⟨by rfl, ?_⟩) ?_ ?_
                 rotate_left
                 ·
                  intro w'
                  go_simp
                  with_reducible rfl
                 rotate_left
                 ·
                  simp only [Act.put, cO, cZ, d9, aG, aH]
                  rfl
                 refine aV (i := 8) (N := some 91) (v := ?_) (a' := ?_) (dG 13 479) rfl rfl (aU HT_.out (by kernel_rfl)) (fun _ _ _ h => h) (Or.inl ⟨by rfl, ?_⟩) ?_ ?_
                 rotate_left
                 ·
                  intro w'
                  go_simp
                  with_reducible rfl
                 rotate_left
                 ·
                  simp only [Act.put, cO, cZ, d9, aG, aH]
                  rfl
                 refine bK (i := 5) (N := some 88) (v := ?_) (a' := ?_) (dG 13 511) rfl rfl (bD HT_.out HW_.out (by kernel_rfl)) (fun _ _ _ h => h) (Or.inl ⟨by rfl, ?_⟩) hHeld ?_ ?_
                 rotate_left
                 ·
                  rintro w' ⟨s0, s1⟩
                  go_simp
                  with_reducible rfl
                 rotate_left
                 ·
                  simp only [Act.put, cO, cZ, d9, aG, aH]
                  rfl
                 refine bK (i := 9) (N := some 92) (v := ?_) (a' := ?_) (dG 13 1023) rfl rfl (bD HT_.out HW_.out (by kernel_rfl)) (fun _ _ _ h => h) (Or.inl ⟨by rfl, ?_⟩) hHeld ?_ ?_
                 rotate_left
                 ·
                  rintro w' ⟨s0, s1⟩
                  go_simp
                  with_reducible rfl
                 rotate_left
                 ·
                  simp only [Act.put, cO, cZ, d9, aG, aH]
                  rfl
                 refine aV (i := 10) (N := some 93) (v := ?_) (a' := ?_) (dG 13 2047) rfl rfl (aU HT_.out (by kernel_rfl)) (fun _ _ _ h => h) (Or.inl ⟨by rfl, ?_⟩) ?_ ?_
                 rotate_left
                 ·
                  intro w'
                  go_simp
                  with_reducible rfl
                 rotate_left
                 ·
                  simp only [Act.put, cO, cZ, d9, aG, aH]
                  rfl
                 refine aV (i := 11) (N := some 94) (v := ?_) (a' := ?_) (dG 13 4095) rfl rfl (aU HT_.out (by kernel_rfl)) (fun _ _ _ h => h) (Or.inl ⟨by rfl, ?_⟩) ?_ ?_
                 rotate_left
                 ·
                  intro w'
                  go_simp
                  with_reducible rfl
                 rotate_left
                 ·
                  simp only [Act.put, cO, cZ, d9, aG, aH]
                  rfl
                 refine last_ (i := 12) (N := none) (dG 13 8191) rfl rfl (bB HT_.out (by kernel_rfl)) (by decide) (fun K hK => ?_)
                 refine skip_ (w1 := ?_) (by rfl) rfl ?_ ?_
                 rotate_left
                 ·
                  go_simp
                  rfl
                 refine hK.out _ _ ?_
                 clear hK K
                 refine done_ (cK HT_.out (by kernel_rfl)) ?_
                 try go_wp2
                 have n0_ : Aside0 (Kd.R (Kd.int .i64) 3 (w63.setCell ⟨go60, (x78_2 : Int).toNat, none⟩ (.int .i64 (wrap64 ((rd (l0.drop ((ji18) : Int).toNat) x78_2) + (rd (l0.take ((ji18) : Int).toNat) x78_2))))) w.heap.size (fun k_ => some k_ ≠ (.slice Ao49 t216.length co49 : Value).ownBlock ∧ some k_ ≠ (.slice (some ad225) t222.length co53 : Value).ownBlock) (.slice (some ⟨go60, 0, none⟩) x10_2.length co47) y228) := ⟨by (with_reducible repeat (first | apply Kd.aI | apply Kd.aJ | apply Kd.aN)); exact HQ64.out⟩
                 have n1_ : Aside0 (Kd.R (Kd.int .i64) 3 (w63.setCell ⟨go60, (x78_2 : Int).toNat, none⟩ (.int .i64 (wrap64 ((rd (l0.drop ((ji18) : Int).toNat) x78_2) + (rd (l0.take ((ji18) : Int).toNat) x78_2))))) w.heap.size (fun k_ => some k_ ≠ (.slice (some ⟨go60, 0, none⟩) x10_2.length co47 : Value).ownBlock ∧ some k_ ≠ (.slice (some ad225) t222.length co53 : Value).ownBlock) (.slice Ao49 t216.length co49) t216) := ⟨by (with_reducible repeat (first | apply Kd.aI | apply Kd.aJ | apply Kd.aN)); exact Kd.bM (Kd.bV (p := ⟨go60, (x78_2 : Int).toNat, none⟩) (Kd.bM HO_12.out (fun k_ hk => (⟨hk, fun e_ => hk.1 (by rw [e_]; rfl)⟩ : _ ∧ k_ ≠ go60))) (fun _ hk => hk.2) (.int .i64 (wrap64 ((rd (l0.drop ((ji18) : Int).toNat) x78_2) + (rd (l0.take ((ji18) : Int).toNat) x78_2))))) (fun _ hk => ⟨hk.1.1, hk.1.2⟩)⟩
                 have n2_ : Aside0 (Kd.R (Kd.int .i64) 3 (w63.setCell ⟨go60, (x78_2 : Int).toNat, none⟩ (.int .i64 (wrap64 ((rd (l0.drop ((ji18) : Int).toNat) x78_2) + (rd (l0.take ((ji18) : Int).toNat) x78_2))))) w.heap.size (fun k_ => some k_ ≠ (.slice (some ⟨go60, 0, none⟩) x10_2.length co47 : Value).ownBlock ∧ some k_ ≠ (.slice Ao49 t216.length co49 : Value).ownBlock) (.slice (some ad225) t222.length co53) t222) := ⟨by (with_reducible repeat (first | apply Kd.aI | apply Kd.aJ | apply Kd.aN)); exact Kd.bM (Kd.bV (p := ⟨go60, (x78_2 : Int).toNat, none⟩) (Kd.bM HO_76.out (fun k_ hk => (⟨hk, fun e_ => hk.1 (by rw [e_]; rfl)⟩ : _ ∧ k_ ≠ go60))) (fun _ hk => hk.2) (.int .i64 (wrap64 ((rd (l0.drop ((ji18) : Int).toNat) x78_2) + (rd (l0.take ((ji18) : Int).toNat) x78_2))))) (fun _ hk => ⟨hk.1.1, hk.1.2⟩)⟩
                 have n3_ : Aside0 (Below w.heap.size w (w63.setCell ⟨go60, (x78_2 : Int).toNat, none⟩ (.int .i64 (wrap64 ((rd (l0.drop ((ji18) : Int).toNat) x78_2) + (rd (l0.take ((ji18) : Int).toNat) x78_2)))))) := ⟨by repeat (first | (with_reducible first | exact HB.out | apply ak | apply ah | apply aj | refine aA ?_ GB60.out) | exact HB.out)⟩
                 (try clear HO_10)
                 (try clear HO_12)
                 (try clear HO_76)
                 (try clear HB)
                 generalize (w63.setCell ⟨go60, (x78_2 : Int).toNat, none⟩ (.int .i64 (wrap64 ((rd (l0.drop ((ji18) : Int).toNat) x78_2) + (rd (l0.take ((ji18) : Int).toNat) x78_2))))) = w65 at n0_ n1_ n2_ n3_ ⊢
                 have HO_10 := n0_
                 have HO_12 := n1_
                 have HO_76 := n2_
                 have HB := n3_
                 clear n0_ n1_ n2_ n3_
                 have n0_ := dH (Kd.aN HO_10.out)
                 have n1_ := dH (Kd.aN HO_12.out)
                 have n2_ := dH (Kd.aN HO_76.out)
                 have n3_ := dH (aj HB.out)
                 clear HO_10
                 clear HO_12
                 clear HO_76
                 clear HB
                 have HO_10 := n0_
                 have HO_12 := n1_
                 have HO_76 := n2_
                 have HB := n3_
                 clear n0_ n1_ n2_ n3_
                 have p229 : 0 ≤ (x78_2 : Int) := dD (by first | (with_reducible assumption) | assumption)
                 have q229 : x78_2 < ((l0.drop ((ji18) : Int).toNat).length : Int) := dD (by first | (with_reducible assumption) | assumption)
                 obtain ⟨ad229, e229, hx229_0⟩ := Kd.bX HR203.out x78_2 p229 q229
                 have hw229_0 := hx229_0
                 obtain rfl : ad226 = ad229 := (by injection e229)
                 replace hx229_0 := (HB.out.cell (dB w _ hx229_0)).trans hx229_0
                 replace p229 := eq_true p229
                 replace q229 := eq_true q229
                 have p230 : 0 ≤ (x78_2 : Int) := dD (by first | (with_reducible assumption) | assumption)
                 have q230 : x78_2 < ((l0.take ((ji18) : Int).toNat).length : Int) := dD (by first | (with_reducible assumption) | assumption)
                 obtain ⟨ad230, e230, hx230_0⟩ := Kd.bX HR202.out x78_2 p230 q230
                 have hw230_0 := hx230_0
                 obtain rfl : ad227 = ad230 := (by injection e230)
                 replace hx230_0 := (HB.out.cell (dB w _ hx230_0)).trans hx230_0
                 replace p230 := eq_true p230
                 replace q230 := eq_true q230
                 have p62 : 0 ≤ (x78_2 : Int) := dD (by first | (with_reducible assumption) | assumption)
                 have q62 : (x78_2 : Int) < ((x10_2.length : Int) : Int) := dD (by first | (with_reducible assumption) | assumption)
                 obtain ⟨hx62_0, hf62_0⟩ := Kd.R_celln 0 HO_10.out (x78_2 : Int) p62 q62
                 replace p62 := eq_true p62
                 replace q62 := eq_true q62
                 have HP67 := Kd.R_putn HO_10.out (x78_2 : Int) (wrap64 ((rd (l0.drop ((ji18) : Int).toNat) x78_2) - (rd (l0.take ((ji18) : Int).toNat) x78_2)))
                 rw [← Ny231.out] at HP67
                 have HQ67 := dH HP67
                 clear HP67
                 refine b_ (n := 13) (S := fun w' => w'.cell? (ad226.add (x78_2).toNat) = some (.int .i64 (rd (l0.drop ((ji18) : Int).toNat) x78_2)) ∧ w'.cell? (ad227.add (x78_2).toNat) = some (.int .i64 (rd (l0.take ((ji18) : Int).toNat) x78_2))) (ds := [12]) (dG 13 0) (by kernel_rfl) rfl rfl ⟨((HB.out.cell (dB w _ hw229_0)).trans hw229_0), ((HB.out.cell (dB w _ hw230_0)).trans hw230_0)⟩ (fun hHeld => ?_); refine bZ code_cancel.tab19 code_cancel.bits19 (fun HT_ HW_ => ?_)
                 generalize w65.drew = w66 at HO_10 HO_12 HO_76 HB HQ64 HQ67 hf62_0 hx229_0 hx230_0 hx62_0 hHeld ⊢
                 refine aV (i := 0) (N := some 97) (v := ?_) (a' := ?_) (dG 13 1) rfl rfl (aU HT_.out (by kernel_rfl)) (fun _ _ _ h => h) (Or.inl ⟨by rfl, ?_⟩) ?_ ?_
                 rotate_left
                 ·
                  intro w'
                  go_simp
                  with_reducible rfl
                 rotate_left
                 ·
                  simp only [Act.put, cO, cZ, d9, aG, aH]
                  rfl
                 refine aV (i := 1) (N := some 98) (v := ?_) (a' := ?_) (dG 13 3) rfl rfl (aU HT_.out (by kernel_rfl)) (fun _ _ _ h => h) (Or.inl ⟨by rfl, ?_⟩) ?_ ?_
                 rotate_left
                 ·
                  intro w'
                  go_simp
                  with_reducible rfl
                 rotate_left
                 ·
                  simp only [Act.put, cO, cZ, d9, aG, aH]
                  rfl
                 refine aV (i := 2) (N := some 99) (v := ?_) (a' := ?_) (dG 13 7) rfl rfl (aU HT_.out (by kernel_rfl)) (fun _ _ _ h => h) (Or.inl ⟨by rfl, ?_⟩) ?_ ?_
                 rotate_left
                 ·
                  intro w'
                  go_simp
                  with_reducible rfl
                 rotate_left
                 ·
                  simp only [Act.put, cO, cZ, d9, aG, aH]
                  rfl
                 refine aV (i := 3) (N := some 100) (v := ?_) (a' := ?_) (dG 13 15) rfl rfl (aU HT_.out (by kernel_rfl)) (fun _ _ _ h => h) (Or.inl ⟨by rfl, ?_⟩) ?_ ?_
                 rotate_left
                 ·
                  intro w'
                  go_simp
                  with_reducible rfl
                 rotate_left
                 ·
                  simp only [Act.put, cO, cZ, d9, aG, aH]
                  rfl
                 refine aV (i := 4) (N := some 101) (v := ?_) (a' := ?_) (dG 13 31) rfl rfl (aU HT_.out (by kernel_rfl)) (fun _ _ _ h => h) (Or.inl ⟨by rfl, ?_⟩) ?_ ?_
                 rotate_left
                 ·
                  intro w'
                  go_simp
                  with_reducible rfl
                 rotate_left
                 ·
                  simp only [Act.put, cO, cZ, d9, aG, aH]
                  rfl
                 refine aV (i := 6) (N := some 103) (v := ?_) (a' := ?_) (dG 13 95) rfl rfl (aU HT_.out (by kernel_rfl)) (fun _ _ _ h => h) (Or.inl ⟨by rfl, ?_⟩) ?_ ?_
                 rotate_left
                 ·
                  intro w'
                  go_simp
                  with_reducible rfl
                 rotate_left
                 ·
                  simp only [Act.put, cO, cZ, d9, aG, aH]
                  rfl
                 refine aV (i := 7) (N := some 104) (v := ?_) (a' := ?_) (dG 13 223) rfl rfl (aU HT_.out (by kernel_rfl)) (fun _ _ _ h => h) (Or.inl ⟨by rfl, ?_⟩) ?_ ?_
                 rotate_left
                 ·
                  intro w'
                  go_simp
                  with_reducible rfl
                 rotate_left
                 ·
                  simp only [Act.put, cO, cZ, d9, aG, aH]
                  rfl
                 refine aV (i := 8) (N := some 105) (v := ?_) (a' := ?_) (dG 13 479) rfl rfl (aU HT_.out (by kernel_rfl)) (fun _ _ _ h => h) (Or.inl ⟨by rfl, ?_⟩) ?_ ?_
                 rotate_left
                 ·
                  intro w'
                  go_simp
                  with_reducible rfl
                 rotate_left
                 ·
                  simp only [Act.put, cO, cZ, d9, aG, aH]
                  rfl
                 refine bK (i := 5) (N := some 102) (v := ?_) (a' := ?_) (dG 13 511) rfl rfl (bD HT_.out HW_.out (by kernel_rfl)) (fun _ _ _ h => h) (Or.inl ⟨by rfl, ?_⟩) hHeld ?_ ?_
                 rotate_left
                 ·
                  rintro w' ⟨s0, s1⟩
                  go_simp
                  with_reducible rfl
                 rotate_left
                 ·
                  simp only [Act.put, cO, cZ, d9, aG, aH]
                  rfl
                 refine bK (i := 9) (N := some 106) (v := ?_) (a' := ?_) (dG 13 1023) rfl rfl (bD HT_.out HW_.out (by kernel_rfl)) (fun _ _ _ h => h) (Or.inl ⟨by rfl, ?_⟩) hHeld ?_ ?_
                 rotate_left
                 ·
                  rintro w' ⟨s0, s1⟩
                  go_simp
                  with_reducible rfl
                 rotate_left
                 ·
                  simp only [Act.put, cO, cZ, d9, aG, aH]
                  rfl
                 refine aV (i := 10) (N := some 107) (v := ?_) (a' := ?_) (dG 13 2047) rfl rfl (aU HT_.out (by kernel_rfl)) (fun _ _ _ h => h) (Or.inl ⟨by rfl, ?_⟩) ?_ ?_
                 rotate_left
                 ·
                  intro w'
                  go_simp
                  with_reducible rfl
                 rotate_left
                 ·
                  simp only [Act.put, cO, cZ, d9, aG, aH]
                  rfl
                 refine aV (i := 11) (N := some 108) (v := ?_) (a' := ?_) (dG 13 4095) rfl rfl (aU HT_.out (by kernel_rfl)) (fun _ _ _ h => h) (Or.inl ⟨by rfl, ?_⟩) ?_ ?_
                 rotate_left
                 ·
                  intro w'
                  go_simp
                  with_reducible rfl
                 rotate_left
                 ·
                  simp only [Act.put, cO, cZ, d9, aG, aH]
                  rfl
                 refine last_ (i := 12) (N := none) (dG 13 8191) rfl rfl (bB HT_.out (by kernel_rfl)) (by decide) (fun K hK => ?_)
                 refine skip_ (w1 := ?_) (by rfl) rfl ?_ ?_
                 rotate_left
                 ·
                  go_simp
                  rfl
                 refine hK.out _ _ ?_
                 clear hK K
                 refine done_ (cK HT_.out (by kernel_rfl)) ?_
                 try go_wp2
                 (try simp only [← hl10_2])
                 go_roundg k2
                 case measure => have := HK1.out; have := HK2.out; omega
                 case rel => exact ⟨(y231), (wrap64 (x78_2 + 1)), (by first | rfl | (simp; done) | (simp [*]; done)), H', ⟨by have := HK1.out; have := HK2.out; omega⟩, ⟨by (try simp only [hl10_2]); (with_reducible repeat (first | apply Kd.aI | apply Kd.aJ | apply Kd.aN)); exact HQ67.out⟩, ⟨by (try simp only [hl10_2]); (with_reducible repeat (first | apply Kd.aI | apply Kd.aJ | apply Kd.aN)); exact Kd.bM (Kd.bV (p := ⟨go60, (x78_2 : Int).toNat, none⟩) (Kd.bM HO_12.out (fun k_ hk => (⟨hk, fun e_ => hk.1 (by rw [e_]; rfl)⟩ : _ ∧ k_ ≠ go60))) (fun _ hk => hk.2) (.int .i64 (wrap64 ((rd (l0.drop ((ji18) : Int).toNat) x78_2) - (rd (l0.take ((ji18) : Int).toNat) x78_2))))) (fun _ hk => ⟨hk.1.1, hk.1.2⟩)⟩, ⟨by (try simp only [hl10_2]); (with_reducible repeat (first | apply Kd.aI | apply Kd.aJ | apply Kd.aN)); exact Kd.bM (Kd.bV (p := ⟨go60, (x78_2 : Int).toNat, none⟩) (Kd.bM HO_76.out (fun k_ hk => (⟨hk, fun e_ => hk.1 (by rw [e_]; rfl)⟩ : _ ∧ k_ ≠ go60))) (fun _ hk => hk.2) (.int .i64 (wrap64 ((rd (l0.drop ((ji18) : Int).toNat) x78_2) - (rd (l0.take ((ji18) : Int).toNat) x78_2))))) (fun _ hk => ⟨hk.1.1, hk.1.2⟩)⟩, ⟨by repeat (first | (with_reducible first | exact HB.out | apply ak | apply ah | apply aj | refine aA ?_ GB60.out) | exact HB.out)⟩⟩
                ·
                 rw [if_neg c61] at H
                 have c61b0 : ((rd t222 x78_2) == 1) = false := beq_eq_false_iff_ne.mpr c61
                 have c61b1 : ((rd t222 x78_2) != 1) = true := bne_iff_ne.mpr c61
                 have H' := dH H
                 clear H
                 have p225 : 0 ≤ (x78_2 : Int) := dD (by first | (with_reducible assumption) | assumption)
                 have q225 : x78_2 < (t222.length : Int) := dD (by first | (with_reducible assumption) | assumption)
                 obtain ⟨ad225, e225, hx225_0⟩ := Kd.bX (Kd.aZ HO_76.out).2.2 x78_2 p225 q225
                 cases e225
                 replace p225 := eq_true p225
                 replace q225 := eq_true q225
                 try go_wp2
                 have n0_ := dH (Kd.aN HO_10.out)
                 have n1_ := dH (Kd.aN HO_12.out)
                 have n2_ := dH (Kd.aN HO_76.out)
                 have n3_ := dH (aj HB.out)
                 clear HO_10
                 clear HO_12
                 clear HO_76
                 clear HB
                 have HO_10 := n0_
                 have HO_12 := n1_
                 have HO_76 := n2_
                 have HB := n3_
                 clear n0_ n1_ n2_ n3_
                 have p226 : 0 ≤ (x78_2 : Int) := dD (by first | (with_reducible assumption) | assumption)
                 have q226 : x78_2 < ((l0.drop ((ji18) : Int).toNat).length : Int) := dD (by first | (with_reducible assumption) | assumption)
                 obtain ⟨ad226, e226, hx226_0⟩ := Kd.bX HR203.out x78_2 p226 q226
                 have hw226_0 := hx226_0
                 cases e226
                 replace hx226_0 := (HB.out.cell (dB w _ hx226_0)).trans hx226_0
                 replace p226 := eq_true p226
                 replace q226 := eq_true q226
                 have p227 : 0 ≤ (x78_2 : Int) := dD (by first | (with_reducible assumption) | assumption)
                 have q227 : x78_2 < ((l0.take ((ji18) : Int).toNat).length : Int) := dD (by first | (with_reducible assumption) | assumption)
                 obtain ⟨ad227, e227, hx227_0⟩ := Kd.bX HR202.out x78_2 p227 q227
                 have hw227_0 := hx227_0
                 cases e227
                 replace hx227_0 := (HB.out.cell (dB w _ hx227_0)).trans hx227_0
                 replace p227 := eq_true p227
                 replace q227 := eq_true q227
                 have p60 : 0 ≤ (x78_2 : Int) := dD (by first | (with_reducible assumption) | assumption)
                 have q60 : (x78_2 : Int) < ((x10_2.length : Int) : Int) := dD (by first | (with_reducible assumption) | assumption)
                 obtain ⟨go60, co60, eo60, gb60, gl60, cl60, HG60⟩ := Kd.R_form HO_10.out (by omega)
                 (first | cases eo60 | (injection eo60 with ea_ en_ ec_; (first | subst ea_ | (injection ea_ with ea_; subst ea_)); subst ec_; clear en_))
                 have GB60 := dH gb60
                 have GG60 := dH HG60
                 clear gb60 gl60 HG60
                 obtain ⟨hx60_0, hf60_0⟩ := Kd.R_celln 0 HO_10.out (x78_2 : Int) p60 q60
                 replace p60 := eq_true p60
                 replace q60 := eq_true q60
                 have HP69 := Kd.R_putn HO_10.out (x78_2 : Int) (wrap64 ((rd (l0.drop ((ji18) : Int).toNat) x78_2) + (rd (l0.take ((ji18) : Int).toNat) x78_2)))
                 rw [← Ny228.out] at HP69
                 have HQ69 := dH HP69
                 clear HP69
                 refine b_ (n := 13) (S := fun w' => w'.cell? (ad226.add (x78_2).toNat) = some (.int .i64 (rd (l0.drop ((ji18) : Int).toNat) x78_2)) ∧ w'.cell? (ad227.add (x78_2).toNat) = some (.int .i64 (rd (l0.take ((ji18) : Int).toNat) x78_2))) (ds := [12]) (dG 13 0) (by kernel_rfl) rfl rfl ⟨((HB.out.cell (dB w _ hw226_0)).trans hw226_0), ((HB.out.cell (dB w _ hw227_0)).trans hw227_0)⟩ (fun hHeld => ?_); refine bZ code_cancel.tab17 code_cancel.bits17 (fun HT_ HW_ => ?_)
                 generalize wr.drew = w68 at HO_10 HO_12 HO_76 HB GG60 HQ69 hf60_0 hx226_0 hx227_0 hx60_0 hHeld ⊢
                 refine aV (i := 0) (N := some 83) (v := ?_) (a' := ?_) (dG 13 1) rfl rfl (aU HT_.out (by kernel_rfl)) (fun _ _ _ h => h) (Or.inl ⟨by rfl, ?_⟩) ?_ ?_
                 rotate_left
                 ·
                  intro w'
                  go_simp
                  with_reducible rfl
                 rotate_left
                 ·
                  simp only [Act.put, cO, cZ, d9, aG, aH]
                  rfl
                 refine aV (i := 1) (N := some 84) (v := ?_) (a' := ?_) (dG 13 3) rfl rfl (aU HT_.out (by kernel_rfl)) (fun _ _ _ h => h) (Or.inl ⟨by rfl, ?_⟩) ?_ ?_
                 rotate_left
                 ·
                  intro w'
                  go_simp
                  with_reducible rfl
                 rotate_left
                 ·
                  simp only [Act.put, cO, cZ, d9, aG, aH]
                  rfl
                 refine aV (i := 2) (N := some 85) (v := ?_) (a' := ?_) (dG 13 7) rfl rfl (aU HT_.out (by kernel_rfl)) (fun _ _ _ h => h) (Or.inl ⟨by rfl, ?_⟩) ?_ ?_
                 rotate_left
                 ·
                  intro w'
                  go_simp
                  with_reducible rfl
                 rotate_left
                 ·
                  simp only [Act.put, cO, cZ, d9, aG, aH]
                  rfl
                 refine aV (i := 3) (N := some 86) (v := ?_) (a' := ?_) (dG 13 15) rfl rfl (aU HT_.out (by kernel_rfl)) (fun _ _ _ h => h) (Or.inl ⟨by rfl, ?_⟩) ?_ ?_
                 rotate_left
                 ·
                  intro w'
                  go_simp
                  with_reducible rfl
                 rotate_left
                 ·
                  simp only [Act.put, cO, cZ, d9, aG, aH]
                  rfl
                 refine aV (i := 4) (N := some 87) (v := ?_) (a' := ?_) (dG 13 31) rfl rfl (aU HT_.out (by kernel_rfl)) (fun _ _ _ h => h) (Or.inl ⟨by rfl, ?_⟩) ?_ ?_
                 rotate_left
                 ·
                  intro w'
                  go_simp
                  with_reducible rfl
                 rotate_left
                 ·
                  simp only [Act.put, cO, cZ, d9, aG, aH]
                  rfl
                 refine aV (i := 6) (N := some 89) (v := ?_) (a' := ?_) (dG 13 95) rfl rfl (aU HT_.out (by kernel_rfl)) (fun _ _ _ h => h) (Or.inl ⟨by rfl, ?_⟩) ?_ ?_
                 rotate_left
                 ·
                  intro w'
                  go_simp
                  with_reducible rfl
                 rotate_left
                 ·
                  simp only [Act.put, cO, cZ, d9, aG, aH]
                  rfl
                 refine aV (i := 7) (N := some 90) (v := ?_) (a' := ?_) (dG 13 223) rfl rfl (aU HT_.out (by kernel_rfl)) (fun _ _ _ h => h) (Or.inl ⟨by rfl, ?_⟩) ?_ ?_
                 rotate_left
                 ·
                  intro w'
                  go_simp
                  with_reducible rfl
                 rotate_left
                 ·
                  simp only [Act.put, cO, cZ, d9, aG, aH]
                  rfl
                 refine aV (i := 8) (N := some 91) (v := ?_) (a' := ?_) (dG 13 479) rfl rfl (aU HT_.out (by kernel_rfl)) (fun _ _ _ h => h) (Or.inl ⟨by rfl, ?_⟩) ?_ ?_
                 rotate_left
                 ·
                  intro w'
                  go_simp
                  with_reducible rfl
                 rotate_left
                 ·
                  simp only [Act.put, cO, cZ, d9, aG, aH]
                  rfl
                 refine bK (i := 5) (N := some 88) (v := ?_) (a' := ?_) (dG 13 511) rfl rfl (bD HT_.out HW_.out (by kernel_rfl)) (fun _ _ _ h => h) (Or.inl ⟨by rfl, ?_⟩) hHeld ?_ ?_
                 rotate_left
                 ·
                  rintro w' ⟨s0, s1⟩
                  go_simp
                  with_reducible rfl
                 rotate_left
                 ·
                  simp only [Act.put, cO, cZ, d9, aG, aH]
                  rfl
                 refine bK (i := 9) (N := some 92) (v := ?_) (a' := ?_) (dG 13 1023) rfl rfl (bD HT_.out HW_.out (by kernel_rfl)) (fun _ _ _ h => h) (Or.inl ⟨by rfl, ?_⟩) hHeld ?_ ?_
                 rotate_left
                 ·
                  rintro w' ⟨s0, s1⟩
                  go_simp
                  with_reducible rfl
                 rotate_left
                 ·
                  simp only [Act.put, cO, cZ, d9, aG, aH]
                  rfl
                 refine aV (i := 10) (N := some 93) (v := ?_) (a' := ?_) (dG 13 2047) rfl rfl (aU HT_.out (by kernel_rfl)) (fun _ _ _ h => h) (Or.inl ⟨by rfl, ?_⟩) ?_ ?_
                 rotate_left
                 ·
                  intro w'
                  go_simp
                  with_reducible rfl
                 rotate_left
                 ·
                  simp only [Act.put, cO, cZ, d9, aG, aH]
                  rfl
                 refine aV (i := 11) (N := some 94) (v := ?_) (a' := ?_) (dG 13 4095) rfl rfl (aU HT_.out (by kernel_rfl)) (fun _ _ _ h => h) (Or.inl ⟨by rfl, ?_⟩) ?_ ?_
                 rotate_left
                 ·
                  intro w'
                  go_simp
                  with_reducible rfl
                 rotate_left
                 ·
                  simp only [Act.put, cO, cZ, d9, aG, aH]
                  rfl
                 refine last_ (i := 12) (N := none) (dG 13 8191) rfl rfl (bB HT_.out (by kernel_rfl)) (by decide) (fun K hK => ?_)
                 refine skip_ (w1 := ?_) (by rfl) rfl ?_ ?_
                 rotate_left
                 ·
                  go_simp
                  rfl
                 refine hK.out _ _ ?_
                 clear hK K
                 refine done_ (cK HT_.out (by kernel_rfl)) ?_
                 try go_wp2
                 (try simp only [← hl10_2])
                 go_roundg k2
                 case measure => have := HK1.out; have := HK2.out; omega
                 case rel => exact ⟨(y228), (wrap64 (x78_2 + 1)), (by first | rfl | (simp; done) | (simp [*]; done)), H', ⟨by have := HK1.out; have := HK2.out; omega⟩, ⟨by (try simp only [hl10_2]); (with_reducible repeat (first | apply Kd.aI | apply Kd.aJ | apply Kd.aN)); exact HQ69.out⟩, ⟨by (try simp only [hl10_2]); (with_reducible repeat (first | apply Kd.aI | apply Kd.aJ | apply Kd.aN)); exact Kd.bM (Kd.bV (p := ⟨go60, (x78_2 : Int).toNat, none⟩) (Kd.bM HO_12.out (fun k_ hk => (⟨hk, fun e_ => hk.1 (by rw [e_]; rfl)⟩ : _ ∧ k_ ≠ go60))) (fun _ hk => hk.2) (.int .i64 (wrap64 ((rd (l0.drop ((ji18) : Int).toNat) x78_2) + (rd (l0.take ((ji18) : Int).toNat) x78_2))))) (fun _ hk => ⟨hk.1.1, hk.1.2⟩)⟩, ⟨by (try simp only [hl10_2]); (with_reducible repeat (first | apply Kd.aI | apply Kd.aJ | apply Kd.aN)); exact Kd.bM (Kd.bV (p := ⟨go60, (x78_2 : Int).toNat, none⟩) (Kd.bM HO_76.out (fun k_ hk => (⟨hk, fun e_ => hk.1 (by rw [e_]; rfl)⟩ : _ ∧ k_ ≠ go60))) (fun _ hk => hk.2) (.int .i64 (wrap64 ((rd (l0.drop ((ji18) : Int).toNat) x78_2) + (rd (l0.take ((ji18) : Int).toNat) x78_2))))) (fun _ hk => ⟨hk.1.1, hk.1.2⟩)⟩, ⟨by repeat (first | (with_reducible first | exact HB.out | apply ak | apply ah | apply aj | refine aA ?_ GB60.out) | exact HB.out)⟩⟩
               ·
                rw [if_neg c59] at H
                exact absurd H (by simp)
              ·
               rw [if_neg c58] at H
               exact absurd H (by simp)
             ·
              rw [if_neg c57] at H
              exact absurd H (by simp)
            ·
             rw [if_neg c56] at H
             exact absurd H (by simp)
           ·
            rw [if_neg c55] at H
            exact absurd H (by simp)
          ·
           rw [if_neg c54] at H
           have c54b0 : decide (x78_2 < (t222.length : Int)) = false := decide_eq_false c54
           (try (have c54b0z0 := c54b0; rw [hl10_2] at c54b0z0))
           clear c54
           replace H := dF.mp H
           obtain ⟨t232, A700, H⟩ := H
           replace H : (if t216.length + t232.length < 17592186044416 then (some (t216 ++ t232)) else (none)) = some r := H
           have A70 := dH A700
           clear A700
           by_cases c71 : t216.length + t232.length < 17592186044416
           ·
            rw [if_pos c71] at H
            have LMc71 := dH c71
            clear c71
            obtain ⟨y235, hy235⟩ : ∃ y_ : List Int, y_ = (t216 ++ t232) := ⟨_, rfl⟩
            replace H : (some y235) = some r := by first | (rw [hy235]; with_reducible exact H) | (have H2_ := (Option.bind_some _ _).symm.trans H; rw [hy235]; with_reducible exact H2_) | (have H2_ := (Option.bind_some _ _).symm.trans H; with_reducible exact H2_) | with_reducible exact H | (rw [hy235]; exact H) | exact H
            have Ny235 := dH hy235
            clear hy235
            obtain rfl := Option.some.inj H
            go_wp2_with (first | ((with_reducible refine aT (f := 178) rfl ?_); refine bq (some 116) rfl rfl Try.func178 (by kernel_rfl) rfl #[.slice Ao47 x10_2.length co47, .int .i64 (wrap64 (a1 + ji18)), .func (.func gP_) #[] lbP_] rfl (by (try simp only [dh, dn, dw]); first | done | (simp only [hji18]; rfl) | rfl | (simp only [dx, dz]; rfl) | (simp only [gt_iff_lt, dA]; rfl) | (simp [Act.eval]; done)) ?_; (with_reducible refine (ih k2 (by have := HK1.out; have := HK2.out; omega) _ _ x10_2 (wrap64 (a1 + ji18)) a2 t232 _ ?side1 ?side2 (HP.out.later ?sideP) A70.out).mono ?_); (case sideP => repeat (first | (with_reducible first | exact HB.out | apply ak | apply ah | apply aj) | exact HB.out)); (case side1 => repeat (first | exact (Kd.aZ HO_10.out).2.2 | (with_reducible refine Kd.bA ?_ _) | (with_reducible refine Kd.bC ?_ _) | (with_reducible refine Kd.bJ ?_))); (case side2 => exact (Kd.aZ HO_10.out).2.1); rintro e w72 ⟨v233, rfl, ho0, hb⟩; refine ⟨_, rfl, ?_⟩; have n0_ := dH (Kd.bf (by (with_reducible repeat (first | apply Kd.aI | apply Kd.aJ | apply Kd.aN)); exact HO_10.out) (Kd.bE ho0) hb); have n1_ := dH (Kd.bf (by (with_reducible repeat (first | apply Kd.aI | apply Kd.aJ | apply Kd.aN)); exact HO_12.out) (Kd.bE ho0) hb); have n2_ := dH (Kd.bf (by (with_reducible repeat (first | apply Kd.aI | apply Kd.aJ | apply Kd.aN)); exact HO_76.out) (Kd.bE ho0) hb); have n3_ := dH (Kd.bP (Kd.bH (Kd.bH (Kd.bH ho0 (Kd.bT (by (with_reducible repeat (first | apply Kd.aI | apply Kd.aJ | apply Kd.aN)); exact HO_10.out))) (Kd.bT (by (with_reducible repeat (first | apply Kd.aI | apply Kd.aJ | apply Kd.aN)); exact HO_12.out))) (Kd.bT (by (with_reducible repeat (first | apply Kd.aI | apply Kd.aJ | apply Kd.aN)); exact HO_76.out))) (aK (by repeat (first | (with_reducible first | exact HB.out | apply ak | apply ah | apply aj) | exact HB.out)))); have n4_ := dH (aM (by repeat (first | (with_reducible first | exact HB.out | apply ak | apply ah | apply aj) | exact HB.out)) hb); clear HO_10; clear HO_12; clear HO_76; clear HB; have HO_10 := n0_; have HO_12 := n1_; have HO_76 := n2_; have HO234 := n3_; have HB := n4_; clear n0_ n1_ n2_ n3_ n4_; (try clear hb); (try clear hb2); (try clear hk); (try clear hi); (try clear ho0); obtain ⟨Ao74, co74, eo74⟩ := Kd.bN HO234.out; subst eo74) | ((with_reducible refine gate_builtin (b := .append) (xs := #[.tmp 110, .tmp 116]) rfl ?_); at_builtin; refine Kd.R_append_rows (Kd.int .i64) (w0 := w) w.heap.size rfl (.tmp 110) (.tmp 116) 34 3 (.int .i64 0) 8 rfl Try.underlying34 info3 rfl (by decide) (by omega) (.slice Ao49 t216.length co49) t216 t232 _ _ _ (fun k_ => some k_ ≠ (.slice Ao47 x10_2.length co47 : Value).ownBlock ∧ some k_ ≠ (.slice Ao53 t222.length co53 : Value).ownBlock ∧ some k_ ≠ (.slice Ao74 t232.length co74 : Value).ownBlock) (fun _ => False) rfl rfl ?aO ?aR (fun _ _ h => h) (fun _ h => h.elim) ?aF ?aB ?aS ?aL ?_; (case aR => repeat (first | exact (Kd.aZ HO234.out).2.2 | (with_reducible refine Kd.bA ?_ _) | (with_reducible refine Kd.bC ?_ _) | (with_reducible refine Kd.bJ ?_))); (case aB => exact (by repeat (first | (with_reducible first | exact HB.out | apply ak | apply ah | apply aj) | exact HB.out))); (case aF => exact (fun k_ hk => ⟨Kd.fresh' (Kd.bT (by (with_reducible repeat (first | apply Kd.aI | apply Kd.aJ | apply Kd.aN)); exact HO_10.out)) k_ hk, Kd.fresh' (Kd.bT (by (with_reducible repeat (first | apply Kd.aI | apply Kd.aJ | apply Kd.aN)); exact HO_76.out)) k_ hk, Kd.fresh' (Kd.bT (by (with_reducible repeat (first | apply Kd.aI | apply Kd.aJ | apply Kd.aN)); exact HO234.out)) k_ hk⟩)); (case aO => exact (by (with_reducible repeat (first | apply Kd.aI | apply Kd.aJ | apply Kd.aN)); exact Kd.bM HO_12.out (fun _ hk => ⟨hk.1.1, ⟨hk.1.2, hk.2⟩⟩))); (case aS => exact (aK (by repeat (first | (with_reducible first | exact HB.out | apply ak | apply ah | apply aj) | exact HB.out)))); (case aL => have := LMc71.out; omega); intro v236 w73 ho hb hg hat; rw [← Ny235.out] at ho; have n0_ := dH (Kd.R_after (ok := (fun k_ => some k_ ≠ (.slice Ao53 t222.length co53 : Value).ownBlock ∧ some k_ ≠ (.slice Ao74 t232.length co74 : Value).ownBlock)) (by (with_reducible repeat (first | apply Kd.aI | apply Kd.aJ | apply Kd.aN)); exact Kd.bM HO_10.out (fun _ hk => ⟨⟨hk.1.2, hk.2⟩, hk.1.1⟩)) hg hat); have n1_ := dH (Kd.R_after (ok := (fun k_ => some k_ ≠ (.slice Ao47 x10_2.length co47 : Value).ownBlock ∧ some k_ ≠ (.slice Ao74 t232.length co74 : Value).ownBlock)) (by (with_reducible repeat (first | apply Kd.aI | apply Kd.aJ | apply Kd.aN)); exact Kd.bM HO_76.out (fun _ hk => ⟨⟨hk.1.1, hk.2⟩, hk.1.2⟩)) hg hat); have n2_ := dH (Kd.R_after (ok := (fun k_ => some k_ ≠ (.slice Ao47 x10_2.length co47 : Value).ownBlock ∧ some k_ ≠ (.slice Ao53 t222.length co53 : Value).ownBlock)) (by (with_reducible repeat (first | apply Kd.aI | apply Kd.aJ | apply Kd.aN)); exact Kd.bM HO234.out (fun _ hk => ⟨⟨hk.1.1.2, hk.2⟩, hk.1.2⟩)) hg hat); have n3_ := dH (hb); have n4_ := dH (ho); clear HO_10; clear HO_76; clear HO234; clear HB; clear HO_12; have HO_10 := n0_; have HO_76 := n1_; have HO234 := n2_; have HB := n3_; have HO237 := n4_; clear n0_ n1_ n2_ n3_ n4_; clear ho hb hg hat))
            go_ret
            exact ⟨_, by first | rfl | (simp [aX, aY] <;> rfl) | (simp only [← hji18]; first | rfl | (simp [aX, aY] <;> rfl)) | (simp [*, aX, aY] <;> rfl), by (with_reducible repeat (first | apply Kd.aI | apply Kd.aJ | apply Kd.aN)); exact Kd.bM HO237.out (fun _ hk => trivial), by repeat (first | (with_reducible first | exact HB.out | apply ak | apply ah | apply aj) | exact HB.out)⟩
           ·
            rw [if_neg c71] at H
            exact absurd H (by simp)
    ·
     rw [if_neg c23] at H
     exact absurd H (by simp)
   ·
    rw [if_neg c20] at H
    exact absurd H (by simp)
  ·
   rw [if_neg c19] at H
   exact absurd H (by simp)
end Go.Proofs.Ytbjiookpiminmaa.PCode
end
section
namespace Go.Proofs.Ytbjiookpiminmaa.PCode
open Go.RowKit Go.Proofs.YtbjiookpiminmaaW.PrintWords Go.Proofs.YtbjiookpiminmaaW.PrintLast Go.Proofs.YtbjiookpiminmaaW.PrintMore
theorem enters179 : ∀ args w, (callFunc 179 args).run Try.prog w = .ok (.enter 179 args) w := enters_of Try.func179 (by kernel_rfl) rfl
theorem pred179 (l : List Int) (hs : l.Pairwise (· ≤ ·)) (hlen : l.length ≤ 1000000000000) (w : World) (gb : Nat) (a0 : Int) (A : Option Addr) (c : Nat) (hb : w.heap[gb]? = some (.cells #[.int .i64 a0, .slice A l.length c] 72 (0, 0))) (hr : Kd.C (Kd.int .i64) w A l.length l) (hc : l.length ≤ c) :
  PredB 179 #[.pointer (some ⟨gb, 0, none⟩)] (fun x => decide (x ∈ l)) w := fun W x hB => by
 have h0 : w.cell? ⟨gb, 0, none⟩ = some (.int .i64 a0) := (ay hb 0).trans rfl
 have h1 : w.cell? ⟨gb, 1, none⟩ = some (.slice A l.length c) := (ay hb 1).trans rfl
 replace h0 := (hB.cell (dB w _ h0)).trans h0
 replace h1 := (hB.cell (dB w _ h1)).trans h1
 obtain ⟨i', hbs⟩ := bs_ l x hs hlen
 have HR := dH (Kd.bF hr hB)
 have HB := dH hbs
 have HC := dH hc
 have hu72 := Try.underlying72
 clear hb hr hc hbs hs hlen hB
 show Calls Try.prog 179 #[.int .i64 x, .pointer (some ⟨gb, 0, none⟩)] W fun e w' => e = .returned (.bool (decide (x ∈ l))) ∧ Below W.heap.size W w'
 generalize decide (x ∈ l) = b at HB ⊢
 go_enter Try.func179, Try.ntmps179
 go_wp2_with (first | (go_at_call 180; refine (slices_BinarySearch_int_int.calls (l.length + 1) A c l x i' b _ HR.out HC.out HB.out).mono ?_; rintro e w1 ⟨rfl, hd⟩) | go_in)
 go_ret
 exact ⟨rfl, hd.below⟩
section
attribute [local go_sem] max2_int min2_int max_two min_two max_three min_three max_four min_four   -- for this part's walks alone
variable [FP]
def code_decodeG.l0 : Nat → List Int → List Int → List Int → Int → Int → Option (List Int)
 | 0, _, _, _, _, _ => none
 | k + 1, x5, x6, x13, x14, x15 => if x15 < x14 then (if 0 ≤ x15 then (if x15 < (x13.length : Int) then (if 0 ≤ (rd x13 x15) then (if (rd x13 x15) < (x5.length : Int) then (if x6.length < 17592186044416 then (code_decodeG.l0 k x5 (x6 ++ [rd x5 (rd x13 x15)]) x13 x14 (wrap64 (x15 + 1))) else (none)) else (none)) else (none)) else (none)) else (none)) else (some x6)
def code_decodeG.f (k : Nat) (a0_0 : Int) (l0_1 : List Int) (l1 : List Int) : Option (List Int) := (code_cancel.f k l1 0 ()).bind fun t192 => (code_decodeG.l0 k t192 ([] : List Int) l0_1 (l0_1.length : Int) 0)
theorem code_decodeG.calls (k : Nat) (a0_0 : Int) (A0_1 : Option Addr) (c0_1 : Nat) (l0_1 : List Int) (A1 : Option Addr) (c1 : Nat) (l1 : List Int) (r : List Int) (w : World) (hr0_1 : Kd.C (Kd.int .i64) w A0_1 l0_1.length l0_1) (hc0_1 : l0_1.length ≤ c0_1) (hr1 : Kd.C (Kd.int .i64) w A1 l1.length l1) (hc1 : l1.length ≤ c1) (hPD : ∀ (W : World) (gb : Nat), W.heap[gb]? = some (.cells #[.int .i64 a0_0, .slice A0_1 l0_1.length c0_1] 72 (0, 0)) → Below w.heap.size w W → PredB 179 #[.pointer (some ⟨gb, 0, none⟩)] FP.p W) (h : code_decodeG.f k a0_0 l0_1 l1 = some r) :
  Calls Try.prog 115 #[.agg #[.int .i64 a0_0, .slice A0_1 l0_1.length c0_1], .slice A1 l1.length c1] w fun e w' => ∃ v0_ : Value, e = .returned (v0_) ∧ Kd.R (Kd.int .i64) 3 w' w.heap.size (fun _ => True) v0_ r ∧ Below w.heap.size w w' := by
 have hmf : ∀ (fn : Fn) (first cap : Array Value) (w : World), (Instr.makeFunc fn first cap).run Try.prog w = .ok (.func fn first cap) w := fun _ _ _ _ => rfl
 have HPD := dH hPD
 clear hPD
 have hu72 := Try.underlying72
 have HR0_1 := dH hr0_1
 have HC0_1 := dH hc0_1
 clear hr0_1 hc0_1
 have HR1 := dH hr1
 have HC1 := dH hc1
 clear hr1 hc1
 have HB := dH (Below.refl w.heap.size w)
 have H : ((code_cancel.f k l1 0 ()).bind fun t192 => (code_decodeG.l0 k t192 ([] : List Int) l0_1 (l0_1.length : Int) 0)) = some r := h
 clear h
 replace H := dF.mp H
 obtain ⟨t192, A30, H⟩ := H
 replace H : (code_decodeG.l0 k t192 ([] : List Int) l0_1 (l0_1.length : Int) 0) = some r := H
 have A3 := dH A30
 clear A30
 have H' := dH H
 clear H
 go_enter Try.func115, Try.ntmps115
 go_wp2_with (first | ((with_reducible refine bg (N := 2) rfl ?_); refine bI ?hg (N := 2) ?hd (cs := #[.int .i64 a0_0, .slice A0_1 l0_1.length c0_1]) (t := 72) ?hr ?_; (case hd => rfl); (case hg => rfl); (case hr => first | (go_simp; done) | (go_simp; rfl)); intro gb191 hg w4 hbox hb; have n0_ := dH (aM (by repeat (first | (with_reducible first | exact HB.out | apply ak | apply ah | apply aj) | exact HB.out)) hb); have n1_ := dH (hbox); have n2_ := dH ((by rw [hg]; exact (aK (by repeat (first | (with_reducible first | exact HB.out | apply ak | apply ah | apply aj) | exact HB.out))) : w.heap.size ≤ gb191)); have n3_ := dH ((by rw [hg]; exact (aK (by repeat (first | (with_reducible first | exact HB.out | apply ak | apply ah | apply aj) | exact HB.out))) : w.heap.size ≤ gb191)); clear HB; have HB := n0_; have BK191 := n1_; have GW191 := n2_; have GE191 := n3_; clear n0_ n1_ n2_ n3_; clear hb hbox hg) | ((with_reducible refine aT (f := 178) rfl ?_); refine bq (some 11) rfl rfl Try.func178 (by kernel_rfl) rfl #[.slice A1 l1.length c1, .int .i64 0, .func (.func 179) #[] #[.pointer (some ⟨gb191, 0, none⟩)]] rfl (by (try simp only [dh, dn, dw]); first | done | rfl | (simp only [dx, dz]; rfl) | (simp only [gt_iff_lt, dA]; rfl) | (simp [Act.eval]; done)) ?_; (with_reducible refine (code_cancel.calls (gP_ := 179) (lbP_ := #[.pointer (some ⟨gb191, 0, none⟩)]) enters179 k _ _ l1 0 () t192 _ ?side1 ?side2 (HPD.out _ gb191 BK191.out (by repeat (first | (with_reducible first | exact HB.out | apply ak | apply ah | apply aj) | exact HB.out))) A3.out).mono ?_); (case side1 => repeat (first | exact (Kd.bF HR1.out HB.out) | (with_reducible refine Kd.bA ?_ _) | (with_reducible refine Kd.bC ?_ _) | (with_reducible refine Kd.bJ ?_))); (case side2 => exact HC1.out); rintro e w5 ⟨v193, rfl, ho0, hb⟩; refine ⟨_, rfl, ?_⟩; have n0_ := dH (Kd.bP ho0 (aK (by repeat (first | (with_reducible first | exact HB.out | apply ak | apply ah | apply aj | refine aA ?_ GE191.out) | exact HB.out)))); have n1_ := dH (aQ (g := gb191) (o := .cells #[.int .i64 a0_0, .slice A0_1 l0_1.length c0_1] 72 (0, 0)) (by (with_reducible repeat (first | refine av ?_ _ | refine aC ?_ | refine au ?_ _)); exact BK191.out) hb); have n2_ := dH (aM (by repeat (first | (with_reducible first | exact HB.out | apply ak | apply ah | apply aj | refine aA ?_ GE191.out) | exact HB.out)) hb); clear BK191; clear HB; have HO194 := n0_; have BK191 := n1_; have HB := n2_; clear n0_ n1_ n2_; (try clear hb); (try clear hb2); (try clear hk); (try clear hi); (try clear ho0); have hcz6_0 : w5.cell? ⟨gb191, 0, none⟩ = some (.int .i64 a0_0) := (ay BK191.out 0).trans rfl; have hcz6_1 : w5.cell? ⟨gb191, 1, none⟩ = some (.slice A0_1 l0_1.length c0_1) := (ay BK191.out 1).trans rfl; have hfz6_0 := aD BK191.out 0; have hfz6_1 := aD BK191.out 1))
 go_loopg [6, 15] k (fun kq v6 v15 w' => ∃ (x6_1 : List Int) (x15_1 : Int), v15 = .int .i64 x15_1 ∧ Aside0 (code_decodeG.l0 kq t192 x6_1 l0_1 (l0_1.length : Int) x15_1 = some r) ∧ Aside0 (kq ≤ k) ∧ Aside0 (Kd.R (Kd.int .i64) 3 w' w.heap.size (fun k_ => some k_ ≠ (v6 : Value).ownBlock) v193 t192) ∧ Aside0 (Kd.R (Kd.int .i64) 3 w' w.heap.size (fun k_ => some k_ ≠ (v193 : Value).ownBlock) v6 x6_1) ∧ Aside0 (w'.heap[gb191]? = some (.cells #[.int .i64 a0_0, (.slice A0_1 l0_1.length c0_1)] 72 (0, 0))) ∧ Aside0 (Below w.heap.size w w'))
 case atStart => exact ⟨(([] : List Int)), (0), (by first | rfl | (simp; done) | (simp [*]; done)), H', ⟨Nat.le_refl _⟩, ⟨by (with_reducible repeat (first | apply Kd.aI | apply Kd.aJ | apply Kd.aN)); exact Kd.bM HO194.out (fun _ hk => (by simp [Value.ownBlock]))⟩, ⟨by first | exact Kd.R_nil _ _ _ _ _ | exact Kd.N_nil _ _ _ _ _ | exact Kd.V_nil _ _ _ _ _ | exact Kd.Q_nil _ _ _ _ _ | exact Kd.S_nil _ _ _ _ _⟩, ⟨by (with_reducible repeat (first | refine av ?_ _ | refine aC ?_ | refine au ?_ _)); exact BK191.out⟩, ⟨by repeat (first | (with_reducible first | exact HB.out | apply ak | apply ah | apply aj | refine aA ?_ GE191.out) | exact HB.out)⟩⟩
 case round =>
  clear H'
  try clear c1
  try clear p2
  try clear hcz6_0
  try clear hcz6_1
  try clear hfz6_0
  try clear hfz6_1
  obtain ⟨x6_1, x15_1, rfl, HA, HK1, HO_5, HO_6, BK191, HB⟩ := hrel
  cases gk with
  | zero => exact absurd HA.out (by simp [code_decodeG.l0])
  | succ k1 =>
   have H := HA.out
   clear HA
   simp only [code_decodeG.l0] at H
   by_cases c7 : x15_1 < (l0_1.length : Int)
   ·
    rw [if_pos c7] at H
    have c7b0 : decide (x15_1 < (l0_1.length : Int)) = true := decide_eq_true c7
    clear c7
    by_cases c8 : 0 ≤ x15_1
    ·
     rw [if_pos c8] at H
     have c8b0 : decide (0 ≤ x15_1) = true := decide_eq_true c8
     clear c8
     by_cases c9 : x15_1 < (l0_1.length : Int)
     ·
      rw [if_pos c9] at H
      have c9b0 : decide (x15_1 < (l0_1.length : Int)) = true := decide_eq_true c9
      clear c9
      by_cases c10 : 0 ≤ (rd l0_1 x15_1)
      ·
       rw [if_pos c10] at H
       have c10b0 : decide (0 ≤ (rd l0_1 x15_1)) = true := decide_eq_true c10
       clear c10
       by_cases c11 : (rd l0_1 x15_1) < (t192.length : Int)
       ·
        rw [if_pos c11] at H
        have c11b0 : decide ((rd l0_1 x15_1) < (t192.length : Int)) = true := decide_eq_true c11
        clear c11
        by_cases c12 : x6_1.length < 17592186044416
        ·
         rw [if_pos c12] at H
         have LMc12 := dH c12
         clear c12
         obtain ⟨y197, hy197⟩ : ∃ y_ : List Int, y_ = (x6_1 ++ [rd t192 (rd l0_1 x15_1)]) := ⟨_, rfl⟩
         replace H : (code_decodeG.l0 k1 t192 y197 l0_1 (l0_1.length : Int) (wrap64 (x15_1 + 1))) = some r := by first | (rw [hy197]; with_reducible exact H) | (have H2_ := (Option.bind_some _ _).symm.trans H; rw [hy197]; with_reducible exact H2_) | (have H2_ := (Option.bind_some _ _).symm.trans H; with_reducible exact H2_) | with_reducible exact H | (rw [hy197]; exact H) | exact H
         have Ny197 := dH hy197
         clear hy197
         have H' := dH H
         clear H
         have p195 : 0 ≤ (x15_1 : Int) := dD (by first | (with_reducible assumption) | assumption)
         have q195 : x15_1 < (l0_1.length : Int) := dD (by first | (with_reducible assumption) | assumption)
         obtain ⟨ad195, e195, hx195_0⟩ := Kd.bX HR0_1.out x15_1 p195 q195
         cases e195
         replace hx195_0 := (HB.out.cell (dB w _ hx195_0)).trans hx195_0
         replace p195 := eq_true p195
         replace q195 := eq_true q195
         obtain ⟨Ao13, co13, eo13⟩ := Kd.bN HO_5.out
         subst eo13
         have p196 : 0 ≤ ((rd l0_1 x15_1) : Int) := dD (by first | (with_reducible assumption) | assumption)
         have q196 : (rd l0_1 x15_1) < (t192.length : Int) := dD (by first | (with_reducible assumption) | assumption)
         obtain ⟨ad196, e196, hx196_0⟩ := Kd.bX (Kd.aZ HO_5.out).2.2 (rd l0_1 x15_1) p196 q196
         cases e196
         replace p196 := eq_true p196
         replace q196 := eq_true q196
         go_wp2_with (first | ((with_reducible refine gate_builtin (b := .append) (xs := #[.tmp 19, .tmp 24]) rfl ?_); at_builtin; refine Kd.R_append (Kd.int .i64) (w0 := w) w.heap.size rfl (.tmp 19) (.tmp 24) 34 3 (.int .i64 0) 8 rfl Try.underlying34 info3 rfl (by decide) (by omega) u6 x6_1 (rd t192 (rd l0_1 x15_1)) [.int .i64 (rd t192 (rd l0_1 x15_1))] (fun k_ => some k_ ≠ (.slice (some ad196) t192.length co13 : Value).ownBlock) (fun _ => False) rfl rfl ?aP (fun _ hk => hk.elim) ?aF ?aO ?aB ?aS ?aL ?_; (case aP => exact rfl); (case aB => exact (by repeat (first | (with_reducible first | exact HB.out | apply ak | apply ah | apply aj | refine aA ?_ GE191.out) | exact HB.out))); (case aF => exact (fun k_ hk => Kd.fresh' (Kd.bT (by (with_reducible repeat (first | apply Kd.aI | apply Kd.aJ | apply Kd.aN)); exact HO_5.out)) k_ hk)); (case aO => exact (by (with_reducible repeat (first | apply Kd.aI | apply Kd.aJ | apply Kd.aN)); exact HO_6.out)); (case aS => exact (aK (by repeat (first | (with_reducible first | exact HB.out | apply ak | apply ah | apply aj | refine aA ?_ GE191.out) | exact HB.out)))); (case aL => have := LMc12.out; omega); intro v198 w14 ho hb hg hat; rw [← Ny197.out] at ho; have n0_ := dH (Kd.R_after (ok := (fun _ => True)) (by (with_reducible repeat (first | apply Kd.aI | apply Kd.aJ | apply Kd.aN)); exact Kd.bM HO_5.out (fun _ hk => ⟨trivial, hk⟩)) hg hat); have n1_ := dH (bY (g := gb191) (o := .cells #[.int .i64 a0_0, .slice (some ad195) l0_1.length c0_1] 72 (0, 0)) (by (with_reducible repeat (first | refine av ?_ _ | refine aC ?_ | refine au ?_ _)); exact BK191.out) hg (Kd.R_ne HO_6.out BK191.out (by decide))); have n2_ := dH (hb); have n3_ := dH (ho); clear HO_5; clear BK191; clear HB; clear HO_6; have HO_5 := n0_; have BK191 := n1_; have HB := n2_; have HO199 := n3_; clear n0_ n1_ n2_ n3_; clear ho hb hg hat))
         go_roundg k1
         case measure => have := HK1.out; omega
         case rel => exact ⟨(y197), (wrap64 (x15_1 + 1)), (by first | rfl | (simp; done) | (simp [*]; done)), H', ⟨by have := HK1.out; omega⟩, ⟨by (with_reducible repeat (first | apply Kd.aI | apply Kd.aJ | apply Kd.aN)); exact Kd.bM HO_5.out (fun _ hk => hk.2)⟩, ⟨by (with_reducible repeat (first | apply Kd.aI | apply Kd.aJ | apply Kd.aN)); exact HO199.out⟩, ⟨by (with_reducible repeat (first | refine av ?_ _ | refine aC ?_ | refine au ?_ _)); exact BK191.out⟩, ⟨by repeat (first | (with_reducible first | exact HB.out | apply ak | apply ah | apply aj | refine aA ?_ GE191.out) | exact HB.out)⟩⟩
        ·
         rw [if_neg c12] at H
         exact absurd H (by simp)
       ·
        rw [if_neg c11] at H
        exact absurd H (by simp)
      ·
       rw [if_neg c10] at H
       exact absurd H (by simp)
     ·
      rw [if_neg c9] at H
      exact absurd H (by simp)
    ·
     rw [if_neg c8] at H
     exact absurd H (by simp)
   ·
    rw [if_neg c7] at H
    have c7b0 : decide (x15_1 < (l0_1.length : Int)) = false := decide_eq_false c7
    clear c7
    obtain rfl := Option.some.inj H
    go_wp2
    go_ret
    exact ⟨_, by first | rfl | (simp [aX, aY] <;> rfl) | (simp [*, aX, aY] <;> rfl), by (with_reducible repeat (first | apply Kd.aI | apply Kd.aJ | apply Kd.aN)); exact Kd.bM HO_6.out (fun _ hk => trivial), by repeat (first | (with_reducible first | exact HB.out | apply ak | apply ah | apply aj | refine aA ?_ GE191.out) | exact HB.out)⟩
end
def code_decode.f (k : Nat) (a0_0 : Int) (l0_1 : List Int) (l1 : List Int) : Option (List Int) :=
 if l0_1.Pairwise (· ≤ ·) ∧ l0_1.length ≤ 1000000000000 then @code_decodeG.f ⟨fun x => decide (x ∈ l0_1)⟩ k a0_0 l0_1 l1 else none
theorem code_decode.calls (k : Nat) (a0_0 : Int) (A0_1 : Option Addr) (c0_1 : Nat) (l0_1 : List Int) (A1 : Option Addr) (c1 : Nat) (l1 : List Int) (r : List Int) (w : World) (hr0_1 : Kd.C (Kd.int .i64) w A0_1 l0_1.length l0_1) (hc0_1 : l0_1.length ≤ c0_1) (hr1 : Kd.C (Kd.int .i64) w A1 l1.length l1) (hc1 : l1.length ≤ c1) (h : code_decode.f k a0_0 l0_1 l1 = some r) :
  Calls Try.prog 115 #[.agg #[.int .i64 a0_0, .slice A0_1 l0_1.length c0_1], .slice A1 l1.length c1] w fun e w' => ∃ v0_ : Value, e = .returned (v0_) ∧ Kd.R (Kd.int .i64) 3 w' w.heap.size (fun _ => True) v0_ r ∧ Below w.heap.size w w' := by
 unfold code_decode.f at h
 split at h
 ·
  rename_i hh
  exact @code_decodeG.calls ⟨fun x => decide (x ∈ l0_1)⟩ k a0_0 A0_1 c0_1 l0_1 A1 c1 l1 r w hr0_1 hc0_1 hr1 hc1 (fun W gb hb hB => pred179 l0_1 hh.1 hh.2 W gb a0_0 A0_1 c0_1 hb (Kd.bF hr0_1 hB) hc0_1) h
 ·
  cases h
end Go.Proofs.Ytbjiookpiminmaa.PCode
end
