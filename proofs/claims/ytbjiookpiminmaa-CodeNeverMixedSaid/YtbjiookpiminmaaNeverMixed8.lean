/- The call CodeNeverMixed returns true for every input (blocks never mix: behind any receptions from the beginning on the soft bits of each buffer are the sums of all that it received since its toggle was changed last, of no others). No condition. -/
import Derived.Test.YtbjiookpiminmaaNeverMixed7
import Derived.ChangeOld
import Derived.ChangeSame
import Derived.Conc.Holds
import Derived.Deep.Fields
import Derived.Deep.Slices
import Derived.OpenShut
import Derived.ProofKit
import Derived.ShutString
import Derived.SizedLaws
import Derived.Test.YtbjiookpiminmaaRows
import Derived.WideShapes
set_option linter.unusedVariables false
set_option linter.unusedSimpArgs false
set_option linter.unusedSectionVars false
set_option maxHeartbeats 8000000
set_option maxRecDepth 1000000
section
namespace Go.Proofs.Ytbjiookpiminmaa.PCode
open Go.RowKit Go.Shelf Go.Proofs.YtbjiookpiminmaaW.PrintWords Go.Proofs.YtbjiookpiminmaaW.PrintLast Go.Proofs.YtbjiookpiminmaaW.PrintMore
noncomputable def loops2 : Code := seqR (seqR tail2)
def TailJ (w : World) (L n S T gB gb xb gn : Nat) (M : Int) (qs : List S42) (Ar : Option Addr) (cr lo hi : Nat) (z0 z1 z3 z6 z9 z10 z17 z18 z19 z20 z21 z22 z23 z24 z25 z26 z27 z28 z29 z30 z31 z32 z33 z34 z35 z36 z37 z38 z39 z40 z41 z42 z43 z44 z45 z46 z47 z48 z49 z50 z51 z52 z53 z54 z55 z56 z57 z58 z59 z60 z61 z62 z63 z64 z65 z66 z67 z68 z69 z70 z71 z72 z73 z74 z75 z76 z77 z78 z79 z80 z81 z82 z83 z84 z85 z86 z87 z88 z89 z90 z91 z92 z93 z94 z95 z96 z97 z98 z99 z100 z101 z102 z103 z104 z105 z106 z107 z108 z109 z110 z111 z112 z113 : Value) (a : Act) (W : World) : Prop :=
 ∃ y4 y14 y15 y16 y114 y115 y116 y117 y118 y119 y120 y121 y122 y123 y124 y125 y126 y127 y128 y129 y130 y131 y132 y133 y134 y135 y136 y137 y138 y139 y140 y141 y142 y143 y144 y145 y146 y147 y148 y149 y150 y151 y152 y153 y154 y155 y156 y157 y158 y159 y160 y161 y162 y163 y164 y165 y166 y167 y168 y169 y170 y171 y172 y173 y174 y175 y176 y177 y178 y179 y180 y181 y182 y183 y184 y185 y186 y187 y188 y189 y190 y191 y192 y193 y194 y195 y196 y197 y198 y199 y200 y201 y202 y203 y204 y205 y206 y207 y208 y209 y210 y211 y212 y213 y214 y215 y216 y217 y218 y219 y220 y221 y222 y223 y224 y225 y226 y227 : Value, (∃ bl : List Nat, NInv w W L n S T gB gb M bl qs Ar cr lo hi) ∧ a = ⟨#[z0, z1, .pointer (some ⟨gB, 0, none⟩), z3, y4, .pointer (some ⟨gb, 0, none⟩), z6, .slice (some ⟨S, 0, none⟩) n n, .slice (some ⟨T, 0, none⟩) n n, z9, z10, .pointer (some ⟨xb, 0, none⟩), .pointer (some ⟨gn, 0, none⟩), .int .i64 0, y14, y15, y16, z17, z18, z19, z20, z21, z22, z23, z24, z25, z26, z27, z28, z29, z30, z31, z32, z33, z34, z35, z36, z37, z38, z39, z40, z41, z42, z43, z44, z45, z46, z47, z48, z49, z50, z51, z52, z53, z54, z55, z56, z57, z58, z59, z60, z61, z62, z63, z64, z65, z66, z67, z68, z69, z70, z71, z72, z73, z74, z75, z76, z77, z78, z79, z80, z81, z82, z83, z84, z85, z86, z87, z88, z89, z90, z91, z92, z93, z94, z95, z96, z97, z98, z99, z100, z101, z102, z103, z104, z105, z106, z107, z108, z109, z110, z111, z112, z113, y114, y115, y116, y117, y118, y119, y120, y121, y122, y123, y124, y125, y126, y127, y128, y129, y130, y131, y132, y133, y134, y135, y136, y137, y138, y139, y140, y141, y142, y143, y144, y145, y146, y147, y148, y149, y150, y151, y152, y153, y154, y155, y156, y157, y158, y159, y160, y161, y162, y163, y164, y165, y166, y167, y168, y169, y170, y171, y172, y173, y174, y175, y176, y177, y178, y179, y180, y181, y182, y183, y184, y185, y186, y187, y188, y189, y190, y191, y192, y193, y194, y195, y196, y197, y198, y199, y200, y201, y202, y203, y204, y205, y206, y207, y208, y209, y210, y211, y212, y213, y214, y215, y216, y217, y218, y219, y220, y221, y222, y223, y224, y225, y226, y227], []⟩
theorem never_loops (w wt : World) (L n S T gB gb xb gn : Nat) (h1 : 1 ≤ L) (h2 : L ≤ 30) (h3 : 1 ≤ n) (h4 : n ≤ 8) (x : S36) (p v : Nat) (hv : x.f2 = (v : Int)) (hv3 : v ≤ 3) (hx30 : x.f3.length ≤ 30) (A3 : Option Addr) (c3 : Nat) (hCx : Kd.C (Kd.int .i64) w A3 x.f3.length x.f3) (ps : List S42) (hps : ps.length = n) (hpn : p < ps.length) (hlen : ∀ o ∈ ps, o.f2.length = L) (Ar : Option Addr) (cr lo hi : Nat) (M : Int) (hMb : M ≤ 1000000000) (hval : Valid L M (ps.set p (newP (ps[p]'hpn) x.f1 x.f2 L x.f3)))
  (hall : partOf (ps[p]'hpn) x L x.f3.length = (newP (ps[p]'hpn) x.f1 x.f2 L x.f3).f2) (bl0 : List Nat) (hT : TInv w wt L n S T gB gb xb gn x p A3 c3 bl0 ((ps.map (·.f2)).set p (baseOf (ps[p]'hpn) x.f1 L)) ((ps.map (·.f0)).set p x.f1) (ps.set p (newP (ps[p]'hpn) x.f1 x.f2 L x.f3)) Ar cr lo hi)
  {Q : Exit → Act → World → Prop} (hP : ∀ c (a : Act) (d : Option Tmp) (v : Value) W, Q (.panic c) (a.put d v) W → Q (.panic c) a W) (z0 z1 z3 z4 z6 z9 z10 z14 z15 z16 z17 z18 z19 z20 z21 z22 z23 z24 z25 z26 z27 z28 z29 z30 z31 z32 z33 z34 z35 z36 z37 z38 z39 z40 z41 z42 z43 z44 z45 z46 z47 z48 z49 z50 z51 z52 z53 z54 z55 z56 z57 z58 z59 z60 z61 z62 z63 z64 z65 z66 z67 z68 z69 z70 z71 z72 z73 z74 z75 z76 z77 z78 z79 z80 z81 z82 z83 z84 z85 z86 z87 z88 z89 z90 z91 z92 z93 z94 z95 z96 z97 z98 z99 z100 z101 z102 z103 z104 z105 z106 z107 z108 z109 z110 z111 z112 z113 z114 z115 z116 z117 z118 z119 z120 z121 z122 z123 z124 z125 z126 z127 z128 z129 z130 z131 z132 z133 z134 z135 z136 z137 z138 z139 z140 z141 z142 z143 z144 z145 z146 z147 z148 z149 z150 z151 z152 z153 z154 z155 z156 z157 z158 z159 z160 z161 z162 z163 z164 z165 z166 z167 z168 z169 z170 z171 z172 z173 z174 z175 z176 z177 z178 z179 z180 z181 z182 z183 z184 z185 z186 z187 z188 z189 z190 z191 z192 z193 z194 z195 z196 z197 z198 z199 z200 z201 z202 z203 z204 z205 z206 z207 z208 z209 z210 z211 z212 z213 z214 z215 z216 z217 z218 z219 z220 z221 z222 z223 z224 z225 z226 z227 : Value) (hQ : ∀ a W, TailJ w L n S T gB gb xb gn M (ps.set p (newP (ps[p]'hpn) x.f1 x.f2 L x.f3)) Ar cr lo hi z0 z1 z3 z6 z9 z10 z17 z18 z19 z20 z21 z22 z23 z24 z25 z26 z27 z28 z29 z30 z31 z32 z33 z34 z35 z36 z37 z38 z39 z40 z41 z42 z43 z44 z45 z46 z47 z48 z49 z50 z51 z52 z53 z54 z55 z56 z57 z58 z59 z60 z61 z62 z63 z64 z65 z66 z67 z68 z69 z70 z71 z72 z73 z74 z75 z76 z77 z78 z79 z80 z81 z82 z83 z84 z85 z86 z87 z88 z89 z90 z91 z92 z93 z94 z95 z96 z97 z98 z99 z100 z101 z102 z103 z104 z105 z106 z107 z108 z109 z110 z111 z112 z113 a W → Q .normal a W) :
  loops2.wp Try.prog Q ⟨#[z0, z1, .pointer (some ⟨gB, 0, none⟩), z3, z4, .pointer (some ⟨gb, 0, none⟩), z6, .slice (some ⟨S, 0, none⟩) n n, .slice (some ⟨T, 0, none⟩) n n, z9, z10, .pointer (some ⟨xb, 0, none⟩), .pointer (some ⟨gn, 0, none⟩), .int .i64 0, z14, z15, z16, z17, z18, z19, z20, z21, z22, z23, z24, z25, z26, z27, z28, z29, z30, z31, z32, z33, z34, z35, z36, z37, z38, z39, z40, z41, z42, z43, z44, z45, z46, z47, z48, z49, z50, z51, z52, z53, z54, z55, z56, z57, z58, z59, z60, z61, z62, z63, z64, z65, z66, z67, z68, z69, z70, z71, z72, z73, z74, z75, z76, z77, z78, z79, z80, z81, z82, z83, z84, z85, z86, z87, z88, z89, z90, z91, z92, z93, z94, z95, z96, z97, z98, z99, z100, z101, z102, z103, z104, z105, z106, z107, z108, z109, z110, z111, z112, z113, z114, z115, z116, z117, z118, z119, z120, z121, z122, z123, z124, z125, z126, z127, z128, z129, z130, z131, z132, z133, z134, z135, z136, z137, z138, z139, z140, z141, z142, z143, z144, z145, z146, z147, z148, z149, z150, z151, z152, z153, z154, z155, z156, z157, z158, z159, z160, z161, z162, z163, z164, z165, z166, z167, z168, z169, z170, z171, z172, z173, z174, z175, z176, z177, z178, z179, z180, z181, z182, z183, z184, z185, z186, z187, z188, z189, z190, z191, z192, z193, z194, z195, z196, z197, z198, z199, z200, z201, z202, z203, z204, z205, z206, z207, z208, z209, z210, z211, z212, z213, z214, z215, z216, z217, z218, z219, z220, z221, z222, z223, z224, z225, z226, z227], []⟩ wt := by
 conv => arg 2; whnf
 have HT := dH hT
 have HQ := dH hQ
 have HCX := dH hCx
 have HVAL := dH hval
 have HLEN := dH hlen
 have HALL := dH hall
 have HPS := dH hps
 have HV := dH hv
 clear hT hQ hCx hval hlen hall hps hv
 have hmix : Try.prog.follows .mixedOrders = true := by kernel_rfl
 obtain ⟨m, hm⟩ : ∃ m : Nat, v * L = m := ⟨_, rfl⟩
 have hm90 : m ≤ 90 := by
  subst hm
  exact Nat.le_trans (Nat.mul_le_mul hv3 h2) (by omega)
 have hw : wrap64 ((v : Int) * (L : Int)) = (m : Int) := by rw [← Int.natCast_mul, hm]; unfold wrap64; omega
 have HM := dH hm
 clear hm
 have hu22 := Try.underlying22
 have hu28 := Try.underlying28
 have hu36 := Try.underlying36
 obtain ⟨q, hq⟩ : ∃ q, newP (ps[p]'hpn) x.f1 x.f2 L x.f3 = q := ⟨_, rfl⟩
 rw [hq] at HT HQ HVAL HALL
 have HQQ := dH hq
 clear hq
 have hbl : p < bl0.length := by
  have h_ := HT.out.mem.n1
  simp at h_
  omega
 obtain ⟨b, hb⟩ : ∃ b, bl0[p]'hbl = b := ⟨_, rfl⟩
 have HBB := dH hb
 clear hb
 go_wp2
 go_loopw [14] (fun v14 wr => ∃ k : Nat, k ≤ x.f3.length ∧ v14 = .int .i64 (k : Int) ∧ Aside0 (TInv w wr L n S T gB gb xb gn x p A3 c3 bl0 ((ps.map (·.f2)).set p (partOf (ps[p]'hpn) x L k)) ((ps.map (·.f0)).set p x.f1) (ps.set p q) Ar cr lo hi)) (fun v14 _ => x.f3.length - (intOf v14).toNat)
 case atStart => exact ⟨0, Nat.zero_le _, rfl, HT⟩
 case round =>
  clear HT
  obtain ⟨k, hk, rfl, HN⟩ := hrel
  have d0 : wr.cell? ⟨gB, 0, none⟩ = some (.int .i64 (L : Int)) := (ay HN.out.box 0).trans rfl
  have x0 : wr.cell? ⟨xb, 0, none⟩ = some (.int .i64 (p : Int)) := (ay HN.out.xbox 0).trans rfl
  have x2 : wr.cell? ⟨xb, 2, none⟩ = some (.int .i64 (v : Int)) := by rw [← HV.out]; exact (ay HN.out.xbox 2).trans rfl
  have x3 : wr.cell? ⟨xb, 3, none⟩ = some (.slice A3 x.f3.length c3) := (ay HN.out.xbox 3).trans rfl
  by_cases hlt : k < x.f3.length
  ·
   have hlt' : decide ((k : Int) < (x.f3.length : Int)) = true := decide_eq_true (by omega)
   have hlt'' : decide (k < x.f3.length) = true := decide_eq_true (by omega)
   have hL0 : ((L : Int) == 0) = false := by rw [beq_eq_false_iff_ne]; omega
   go_upto_region 28 with (fail)
   have hp : ((m : Int) / 4 + (k : Int)) % (L : Int) = ((placeOf L v k : Nat) : Int) := by unfold placeOf; rw [HM.out]; simp
   have haL : placeOf L v k < L := Nat.mod_lt _ (by omega)
   have hstep : gstep x.f3 L x.f2.toNat (partOf (ps[p]'hpn) x L k) k = (partOf (ps[p]'hpn) x L k).set (placeOf L v k) (wrap64 ((partOf (ps[p]'hpn) x L k).getD (placeOf L v k) 0 + x.f3.getD k 0)) := by
    rw [HV.out]
    rfl
   have HST := dH hstep
   clear hstep
   simp only [hp]
   obtain ⟨aq, haq⟩ : ∃ aq, placeOf L v k = aq := ⟨_, rfl⟩
   rw [haq] at haL HST
   simp only [haq]
   clear haq hp hw x2 d0
   have hlenP : (partOf (ps[p]'hpn) x L k).length = L := partOf_length _ _ _ (HLEN.out _ (List.getElem_mem hpn)) k
   obtain ⟨ac, hac⟩ : ∃ ac, partOf (ps[p]'hpn) x L k = ac := ⟨_, rfl⟩
   have hsum : ∀ h', ((ps.map (·.f2)).set p (partOf (ps[p]'hpn) x L k))[p]'h' = ac := by intro h'; rw [List.getElem_set_self]; exact hac
   have hsl : p < ((ps.map (·.f2)).set p (partOf (ps[p]'hpn) x L k)).length := by simpa using hpn
   obtain ⟨cS, _⟩ := HN.out.mem.cellS p hbl
   obtain ⟨cB, fB⟩ := HN.out.mem.cellB p hbl hsl aq (by omega)
   rw [hsum] at cB
   rw [HBB.out] at cS cB fB
   rw [hac] at HST hlenP
   have HAC := dH hac
   have HSUM := dH hsum
   have HHL := dH hlenP
   clear hac hsum hlenP
   unfold rowV at cS
   obtain ⟨cx, hcx⟩ : ∃ y, ac.getD aq 0 = y := ⟨_, rfl⟩
   rw [hcx] at HST cB
   clear hcx
   obtain ⟨ad, eA, hxk⟩ := Kd.bX (Kd.bF HCX.out HN.out.below) (k : Int) (by omega) (by omega)
   cases eA
   simp only [Int.toNat_natCast] at hxk
   obtain ⟨sx, hsx⟩ : ∃ y, x.f3.getD k 0 = y := ⟨_, rfl⟩
   have hsx' : rd x.f3 (k : Int) = sx := by rw [← hsx]; simp [rd, List.getD_eq_getElem?_getD]
   rw [hsx'] at hxk
   rw [hsx] at HST
   clear hsx hsx'
   have hS0 := dB _ _ cS
   have hB0 := dB _ _ cB
   have hX0 := bn HN.out.xbox
   have hA0 := dB _ _ hxk
   have q1 : (0 ≤ (p : Int)) = True := eq_true (by omega)
   have q2 : ((p : Int) < (n : Int)) = True := eq_true (by have := HPS.out; omega)
   have q3 : (p < n) = True := eq_true (by have := HPS.out; omega)
   have q4 : (aq < L) = True := eq_true haL
   have q5 : (k < x.f3.length) = True := eq_true hlt
   have HCELL := dH (show ∀ w' : World, Below wr.heap.size wr w' → w'.cell? ⟨xb, 0, none⟩ = some (.int .i64 (p : Int)) ∧ w'.cell? ⟨xb, 3, none⟩ = some (.slice (some ad) x.f3.length c3) ∧ w'.cell? ⟨S, p, none⟩ = some (.slice (some ⟨b, 0, none⟩) L L) ∧ w'.cell? ⟨b, aq, none⟩ = some (.int .i64 cx) ∧ w'.cell? (ad.add k) = some (.int .i64 sx) from fun w' hS =>
    ⟨(hS.cell hX0).trans x0, (hS.cell hX0).trans x3, (hS.cell hS0).trans cS, (hS.cell hB0).trans cB, (hS.cell hA0).trans hxk⟩)
   refine b_ (n := 22) (S := fun w' => Below wr.heap.size wr w') (ds := [21]) (dG 22 0) hmix rfl rfl (aj (Below.refl _ _)) (fun hHeld => ?_)
   refine aV (i := 0) (N := some 175) (v := ?_) (a' := ?_) (dG 22 1) rfl rfl (by kernel_rfl) (fun _ _ _ h => hP _ _ _ _ _ h) (Or.inl ⟨by rfl, ?_⟩) ?_ ?_
   rotate_left
   ·
    intro w'
    go_simp
    with_reducible rfl
   rotate_left
   ·
    simp only [Act.put, cO, cZ, d9, aG, aH]
    rfl
   refine aV (i := 1) (N := some 176) (v := ?_) (a' := ?_) (dG 22 3) rfl rfl (by kernel_rfl) (fun _ _ _ h => hP _ _ _ _ _ h) (Or.inl ⟨by rfl, ?_⟩) ?_ ?_
   rotate_left
   ·
    intro w'
    go_simp
    with_reducible rfl
   rotate_left
   ·
    simp only [Act.put, cO, cZ, d9, aG, aH]
    rfl
   refine bK (i := 2) (N := some 177) (v := ?_) (a' := ?_) (dG 22 7) rfl rfl (by kernel_rfl) (fun _ _ _ h => hP _ _ _ _ _ h) (Or.inl ⟨by rfl, ?_⟩) hHeld ?_ ?_
   rotate_left
   ·
    intro w' s_
    obtain ⟨s0, s1, s2, s3, s4⟩ := HCELL.out w' s_
    go_simp
    with_reducible rfl
   rotate_left
   ·
    simp only [Act.put, cO, cZ, d9, aG, aH]
    rfl
   refine aV (i := 3) (N := some 178) (v := ?_) (a' := ?_) (dG 22 15) rfl rfl (by kernel_rfl) (fun _ _ _ h => hP _ _ _ _ _ h) (Or.inl ⟨by rfl, ?_⟩) ?_ ?_
   rotate_left
   ·
    intro w'
    go_simp
    with_reducible rfl
   rotate_left
   ·
    simp only [Act.put, cO, cZ, d9, aG, aH]
    rfl
   refine bK (i := 4) (N := some 179) (v := ?_) (a' := ?_) (dG 22 31) rfl rfl (by kernel_rfl) (fun _ _ _ h => hP _ _ _ _ _ h) (Or.inl ⟨by rfl, ?_⟩) hHeld ?_ ?_
   rotate_left
   ·
    intro w' s_
    obtain ⟨s0, s1, s2, s3, s4⟩ := HCELL.out w' s_
    go_simp
    with_reducible rfl
   rotate_left
   ·
    simp only [Act.put, cO, cZ, d9, aG, aH]
    rfl
   refine aV (i := 5) (N := some 180) (v := ?_) (a' := ?_) (dG 22 63) rfl rfl (by kernel_rfl) (fun _ _ _ h => hP _ _ _ _ _ h) (Or.inl ⟨by rfl, ?_⟩) ?_ ?_
   rotate_left
   ·
    intro w'
    go_simp
    with_reducible rfl
   rotate_left
   ·
    simp only [Act.put, cO, cZ, d9, aG, aH]
    rfl
   refine aV (i := 6) (N := some 181) (v := ?_) (a' := ?_) (dG 22 127) rfl rfl (by kernel_rfl) (fun _ _ _ h => hP _ _ _ _ _ h) (Or.inl ⟨by rfl, ?_⟩) ?_ ?_
   rotate_left
   ·
    intro w'
    go_simp
    with_reducible rfl
   rotate_left
   ·
    simp only [Act.put, cO, cZ, d9, aG, aH]
    rfl
   refine aV (i := 7) (N := some 182) (v := ?_) (a' := ?_) (dG 22 255) rfl rfl (by kernel_rfl) (fun _ _ _ h => hP _ _ _ _ _ h) (Or.inl ⟨by rfl, ?_⟩) ?_ ?_
   rotate_left
   ·
    intro w'
    go_simp
    with_reducible rfl
   rotate_left
   ·
    simp only [Act.put, cO, cZ, d9, aG, aH]
    rfl
   refine bK (i := 8) (N := some 183) (v := ?_) (a' := ?_) (dG 22 511) rfl rfl (by kernel_rfl) (fun _ _ _ h => hP _ _ _ _ _ h) (Or.inl ⟨by rfl, ?_⟩) hHeld ?_ ?_
   rotate_left
   ·
    intro w' s_
    obtain ⟨s0, s1, s2, s3, s4⟩ := HCELL.out w' s_
    go_simp
    with_reducible rfl
   rotate_left
   ·
    simp only [Act.put, cO, cZ, d9, aG, aH]
    rfl
   refine aV (i := 9) (N := some 184) (v := ?_) (a' := ?_) (dG 22 1023) rfl rfl (by kernel_rfl) (fun _ _ _ h => hP _ _ _ _ _ h) (Or.inl ⟨by rfl, ?_⟩) ?_ ?_
   rotate_left
   ·
    intro w'
    go_simp
    with_reducible rfl
   rotate_left
   ·
    simp only [Act.put, cO, cZ, d9, aG, aH]
    rfl
   refine bK (i := 10) (N := some 185) (v := ?_) (a' := ?_) (dG 22 2047) rfl rfl (by kernel_rfl) (fun _ _ _ h => hP _ _ _ _ _ h) (Or.inl ⟨by rfl, ?_⟩) hHeld ?_ ?_
   rotate_left
   ·
    intro w' s_
    obtain ⟨s0, s1, s2, s3, s4⟩ := HCELL.out w' s_
    go_simp
    with_reducible rfl
   rotate_left
   ·
    simp only [Act.put, cO, cZ, d9, aG, aH]
    rfl
   refine aV (i := 11) (N := some 186) (v := ?_) (a' := ?_) (dG 22 4095) rfl rfl (by kernel_rfl) (fun _ _ _ h => hP _ _ _ _ _ h) (Or.inl ⟨by rfl, ?_⟩) ?_ ?_
   rotate_left
   ·
    intro w'
    go_simp
    with_reducible rfl
   rotate_left
   ·
    simp only [Act.put, cO, cZ, d9, aG, aH]
    rfl
   refine aV (i := 12) (N := some 187) (v := ?_) (a' := ?_) (dG 22 8191) rfl rfl (by kernel_rfl) (fun _ _ _ h => hP _ _ _ _ _ h) (Or.inl ⟨by rfl, ?_⟩) ?_ ?_
   rotate_left
   ·
    intro w'
    go_simp
    with_reducible rfl
   rotate_left
   ·
    simp only [Act.put, cO, cZ, d9, aG, aH]
    rfl
   refine bK (i := 13) (N := some 188) (v := ?_) (a' := ?_) (dG 22 16383) rfl rfl (by kernel_rfl) (fun _ _ _ h => hP _ _ _ _ _ h) (Or.inl ⟨by rfl, ?_⟩) hHeld ?_ ?_
   rotate_left
   ·
    intro w' s_
    obtain ⟨s0, s1, s2, s3, s4⟩ := HCELL.out w' s_
    go_simp
    with_reducible rfl
   rotate_left
   ·
    simp only [Act.put, cO, cZ, d9, aG, aH]
    rfl
   refine aV (i := 14) (N := some 189) (v := ?_) (a' := ?_) (dG 22 32767) rfl rfl (by kernel_rfl) (fun _ _ _ h => hP _ _ _ _ _ h) (Or.inl ⟨by rfl, ?_⟩) ?_ ?_
   rotate_left
   ·
    intro w'
    go_simp
    with_reducible rfl
   rotate_left
   ·
    simp only [Act.put, cO, cZ, d9, aG, aH]
    rfl
   refine bK (i := 15) (N := some 190) (v := ?_) (a' := ?_) (dG 22 65535) rfl rfl (by kernel_rfl) (fun _ _ _ h => hP _ _ _ _ _ h) (Or.inl ⟨by rfl, ?_⟩) hHeld ?_ ?_
   rotate_left
   ·
    intro w' s_
    obtain ⟨s0, s1, s2, s3, s4⟩ := HCELL.out w' s_
    go_simp
    with_reducible rfl
   rotate_left
   ·
    simp only [Act.put, cO, cZ, d9, aG, aH]
    rfl
   refine aV (i := 16) (N := some 191) (v := ?_) (a' := ?_) (dG 22 131071) rfl rfl (by kernel_rfl) (fun _ _ _ h => hP _ _ _ _ _ h) (Or.inl ⟨by rfl, ?_⟩) ?_ ?_
   rotate_left
   ·
    intro w'
    go_simp
    with_reducible rfl
   rotate_left
   ·
    simp only [Act.put, cO, cZ, d9, aG, aH]
    rfl
   refine aV (i := 17) (N := some 192) (v := ?_) (a' := ?_) (dG 22 262143) rfl rfl (by kernel_rfl) (fun _ _ _ h => hP _ _ _ _ _ h) (Or.inl ⟨by rfl, ?_⟩) ?_ ?_
   rotate_left
   ·
    intro w'
    go_simp
    with_reducible rfl
   rotate_left
   ·
    simp only [Act.put, cO, cZ, d9, aG, aH]
    rfl
   refine bK (i := 18) (N := some 193) (v := ?_) (a' := ?_) (dG 22 524287) rfl rfl (by kernel_rfl) (fun _ _ _ h => hP _ _ _ _ _ h) (Or.inl ⟨by rfl, ?_⟩) hHeld ?_ ?_
   rotate_left
   ·
    intro w' s_
    obtain ⟨s0, s1, s2, s3, s4⟩ := HCELL.out w' s_
    go_simp
    with_reducible rfl
   rotate_left
   ·
    simp only [Act.put, cO, cZ, d9, aG, aH]
    rfl
   refine aV (i := 19) (N := some 194) (v := ?_) (a' := ?_) (dG 22 1048575) rfl rfl (by kernel_rfl) (fun _ _ _ h => hP _ _ _ _ _ h) (Or.inl ⟨by rfl, ?_⟩) ?_ ?_
   rotate_left
   ·
    intro w'
    go_simp
    with_reducible rfl
   rotate_left
   ·
    simp only [Act.put, cO, cZ, d9, aG, aH]
    rfl
   refine aV (i := 20) (N := some 195) (v := ?_) (a' := ?_) (dG 22 2097151) rfl rfl (by kernel_rfl) (fun _ _ _ h => hP _ _ _ _ _ h) (Or.inl ⟨by rfl, ?_⟩) ?_ ?_
   rotate_left
   ·
    intro w'
    go_simp
    with_reducible rfl
   rotate_left
   ·
    simp only [Act.put, cO, cZ, d9, aG, aH]
    rfl
   refine last_ (i := 21) (N := none) (dG 22 4194303) rfl rfl (by kernel_rfl) (by decide) (fun K hK => ?_)
   obtain ⟨s0, s1, s2, s3, s4⟩ := HCELL.out _ hHeld
   refine skip_ (w1 := ?_) (by rfl) rfl ?_ ?_
   rotate_left
   ·
    go_simp
    rfl
   refine hK.out _ _ ?_
   clear hK K hHeld
   refine done_ (by kernel_rfl) ?_
   go_wp2
   go_roundw
   case rel =>
    refine ⟨k + 1, by omega, by go_num, ⟨?_⟩⟩
    have hm := HN.out.mem.setB p hbl hsl aq (wrap64 (cx + sx))
    rw [HBB.out, HSUM.out, List.set_set, ← HST.out, ← HAC.out, ← partOf_succ] at hm
    have hst := HN.out.store (g := b) (by rw [← HBB.out]; exact List.mem_cons_of_mem _ (List.mem_cons_of_mem _ (List.getElem_mem hbl))) aq _ hm (fun k' hk' => .inl hk')
    exact hst.later (aj (Below.refl _ _))
   case measure => simp [intOf]; omega
  ·
   have hlt' : decide ((k : Int) < (x.f3.length : Int)) = false := decide_eq_false (by omega)
   have hlt'' : decide (k < x.f3.length) = false := decide_eq_false (by omega)
   go_wp2
   have hkl : k = x.f3.length := by omega
   subst hkl
   have hfin : ((ps.map (·.f2)).set p (partOf (ps[p]'hpn) x L x.f3.length)) = (ps.set p q).map (·.f2) := by rw [HALL.out, List.map_set]
   have hfin2 : ((ps.map (·.f0)).set p x.f1) = (ps.set p q).map (·.f0) := by
    rw [List.map_set]
    congr 1
    rw [← HQQ.out]
    unfold newP
    split <;> rfl
   rw [hfin, hfin2] at HN
   clear hfin hfin2 HALL HLEN x0 x2 x3 d0 hlt' hlt''
   have hqn : (ps.set p q).length = n := by rw [List.length_set]; exact HPS.out
   obtain ⟨qs, hqs⟩ : ∃ qs, ps.set p q = qs := ⟨_, rfl⟩
   rw [hqs] at HN HVAL HQ hqn
   have HQN := dH hqn
   clear hqs hqn HQQ HPS
   obtain ⟨w4, rfl⟩ : ∃ w4 : World, w4 = wr := ⟨_, rfl⟩
   go_loopw [16] (fun v16 wr => ∃ k : Nat, k ≤ n ∧ v16 = .int .i64 (k : Int) ∧ Aside0 (TInv w wr L n S T gB gb xb gn x p A3 c3 bl0 (qs.map (·.f2)) (qs.map (·.f0)) qs Ar cr lo hi)) (fun v16 _ => n - (intOf v16).toNat)
   case atStart => exact ⟨0, Nat.zero_le _, rfl, HN⟩
   case round =>
    clear HN
    obtain ⟨k, hk2, rfl, HN⟩ := hrel
    have d1 : wr.cell? ⟨gB, 1, none⟩ = some (.int .i64 (n : Int)) := (ay HN.out.box 1).trans rfl
    by_cases hlt2 : k < n
    ·
     have hlt' : decide ((k : Int) < (n : Int)) = true := decide_eq_true (by omega)
     go_upto_region 32 with (fail)
     have g1 : wr.cell? ⟨gn, 1, none⟩ = some (.slice Ar qs.length cr) := (ay HN.out.nbox 1).trans rfl
     have hkq : k < qs.length := by rw [HQN.out]; exact hlt2
     obtain ⟨ad, A2, c2, eA, y0, y1, y2, hlc, hC2⟩ := at_T42 (Kd.F_now HN.out.foot) (k : Int) (by omega) (by omega)
     cases eA
     rw [rd42_at qs k hkq] at y0 y1 y2 hlc hC2
     simp only [Int.toNat_natCast] at y0 y1 y2
     have hkb : k < bl0.length := by have h_ := HN.out.mem.n1; simp at h_; omega
     obtain ⟨cS, _⟩ := HN.out.mem.cellS k hkb
     obtain ⟨cT, _⟩ := HN.out.mem.cellT k (by simpa using hkq)
     have hC3 := HN.out.mem.C (by omega) k hkb (by simpa using hkq)
     have hl3 := HN.out.mem.hl _ (List.getElem_mem (show k < (qs.map (·.f2)).length by simpa using hkq))
     rw [List.getElem_map] at cT hC3 hl3
     obtain ⟨tg, htg⟩ : ∃ y, qs[k].f0 = y := ⟨_, rfl⟩
     obtain ⟨s2, hs2⟩ : ∃ y, qs[k].f2 = y := ⟨_, rfl⟩
     rw [htg] at cT y0
     rw [hs2] at hC3 hl3 y2 hlc hC2
     have cS' : wr.cell? ⟨S, k, none⟩ = some (.slice (some ⟨bl0[k], 0, none⟩) s2.length L) := by rw [cS, hl3]; rfl
     obtain ⟨bk, hbk⟩ : ∃ y, bl0[k] = y := ⟨_, rfl⟩
     rw [hbk] at hC3 cS'
     have HI := dH (ints_ s2 (by omega) 40 (by omega))
     have HC2 := dH hC2
     have HC3 := dH hC3
     have HLC := dH hlc
     have hl3' := dH (Nat.le_of_eq hl3)
     clear y1 cS htg hs2 hbk hC2 hC3 hlc hl3
     have q1 : (0 ≤ (k : Int)) = True := eq_true (by omega)
     have q2 : ((k : Int) < (n : Int)) = True := eq_true (by omega)
     have q3 : (k < n) = True := eq_true hlt2
     have q4 : (k < qs.length) = True := eq_true hkq
     have hG := bn HN.out.nbox
     have hA := dB _ _ y0
     have hA2 := dB _ _ y2
     have hS := dB _ _ cS'
     have hT := dB _ _ cT
     have HCELL := dH (show ∀ w' : World, Below wr.heap.size wr w' → w'.cell? ⟨gn, 1, none⟩ = some (.slice (some ad) qs.length cr) ∧ w'.cell? (ad.add (k * 3)) = some (.int .i64 tg) ∧ w'.cell? ⟨(ad.add (k * 3)).block, (ad.add (k * 3)).off + 2, none⟩ = some (.slice A2 s2.length c2) ∧ w'.cell? ⟨S, k, none⟩ = some (.slice (some ⟨bk, 0, none⟩) s2.length L) ∧ w'.cell? ⟨T, k, none⟩ = some (.int .i64 tg) from fun w' hS' =>
      ⟨(hS'.cell hG).trans g1, (hS'.cell hA).trans y0, (hS'.cell hA2).trans y2, (hS'.cell hS).trans cS', (hS'.cell hT).trans cT⟩)
     refine b_ (n := 25) (S := fun w' => Below wr.heap.size wr w') (ds := []) (dG 25 0) hmix rfl rfl (aj (Below.refl _ _)) (fun hHeld => ?_)
     refine aV (i := 0) (N := some 202) (v := ?_) (a' := ?_) (dG 25 1) rfl rfl (by kernel_rfl) (fun _ _ _ h => hP _ _ _ _ _ h) (Or.inl ⟨by rfl, ?_⟩) ?_ ?_
     rotate_left
     ·
      intro w'
      go_simp
      with_reducible rfl
     rotate_left
     ·
      simp only [Act.put, cO, cZ, d9, aG, aH]
      rfl
     refine bK (i := 1) (N := some 203) (v := ?_) (a' := ?_) (dG 25 3) rfl rfl (by kernel_rfl) (fun _ _ _ h => hP _ _ _ _ _ h) (Or.inl ⟨by rfl, ?_⟩) hHeld ?_ ?_
     rotate_left
     ·
      intro w' s_
      obtain ⟨s0, s1, s2_, s3, s4⟩ := HCELL.out w' s_
      go_simp
      with_reducible rfl
     rotate_left
     ·
      simp only [Act.put, cO, cZ, d9, aG, aH]
      rfl
     refine aV (i := 2) (N := some 204) (v := ?_) (a' := ?_) (dG 25 7) rfl rfl (by kernel_rfl) (fun _ _ _ h => hP _ _ _ _ _ h) (Or.inl ⟨by rfl, ?_⟩) ?_ ?_
     rotate_left
     ·
      intro w'
      go_simp
      with_reducible rfl
     rotate_left
     ·
      simp only [Act.put, cO, cZ, d9, aG, aH]
      rfl
     refine aV (i := 3) (N := some 205) (v := ?_) (a' := ?_) (dG 25 15) rfl rfl (by kernel_rfl) (fun _ _ _ h => hP _ _ _ _ _ h) (Or.inl ⟨by rfl, ?_⟩) ?_ ?_
     rotate_left
     ·
      intro w'
      go_simp
      with_reducible rfl
     rotate_left
     ·
      simp only [Act.put, cO, cZ, d9, aG, aH]
      rfl
     refine aV (i := 4) (N := some 206) (v := ?_) (a' := ?_) (dG 25 31) rfl rfl (by kernel_rfl) (fun _ _ _ h => hP _ _ _ _ _ h) (Or.inl ⟨by rfl, ?_⟩) ?_ ?_
     rotate_left
     ·
      intro w'
      go_simp
      with_reducible rfl
     rotate_left
     ·
      simp only [Act.put, cO, cZ, d9, aG, aH]
      rfl
     refine bK (i := 5) (N := some 207) (v := ?_) (a' := ?_) (dG 25 63) rfl rfl (by kernel_rfl) (fun _ _ _ h => hP _ _ _ _ _ h) (Or.inl ⟨by rfl, ?_⟩) hHeld ?_ ?_
     rotate_left
     ·
      intro w' s_
      obtain ⟨s0, s1, s2_, s3, s4⟩ := HCELL.out w' s_
      go_simp
      with_reducible rfl
     rotate_left
     ·
      simp only [Act.put, cO, cZ, d9, aG, aH]
      rfl
     refine aV (i := 6) (N := some 208) (v := ?_) (a' := ?_) (dG 25 127) rfl rfl (by kernel_rfl) (fun _ _ _ h => hP _ _ _ _ _ h) (Or.inl ⟨by rfl, ?_⟩) ?_ ?_
     rotate_left
     ·
      intro w'
      go_simp
      with_reducible rfl
     rotate_left
     ·
      simp only [Act.put, cO, cZ, d9, aG, aH]
      rfl
     refine aV (i := 7) (N := some 209) (v := ?_) (a' := ?_) (dG 25 255) rfl rfl (by kernel_rfl) (fun _ _ _ h => hP _ _ _ _ _ h) (Or.inl ⟨by rfl, ?_⟩) ?_ ?_
     rotate_left
     ·
      intro w'
      go_simp
      with_reducible rfl
     rotate_left
     ·
      simp only [Act.put, cO, cZ, d9, aG, aH]
      rfl
     refine aV (i := 8) (N := some 210) (v := ?_) (a' := ?_) (dG 25 511) rfl rfl (by kernel_rfl) (fun _ _ _ h => hP _ _ _ _ _ h) (Or.inl ⟨by rfl, ?_⟩) ?_ ?_
     rotate_left
     ·
      intro w'
      go_simp
      with_reducible rfl
     rotate_left
     ·
      simp only [Act.put, cO, cZ, d9, aG, aH]
      rfl
     refine bK (i := 9) (N := some 211) (v := ?_) (a' := ?_) (dG 25 1023) rfl rfl (by kernel_rfl) (fun _ _ _ h => hP _ _ _ _ _ h) (Or.inl ⟨by rfl, ?_⟩) hHeld ?_ ?_
     rotate_left
     ·
      intro w' s_
      obtain ⟨s0, s1, s2_, s3, s4⟩ := HCELL.out w' s_
      go_simp
      with_reducible rfl
     rotate_left
     ·
      simp only [Act.put, cO, cZ, d9, aG, aH]
      rfl
     refine aV (i := 10) (N := some 212) (v := ?_) (a' := ?_) (dG 25 2047) rfl rfl (by kernel_rfl) (fun _ _ _ h => hP _ _ _ _ _ h) (Or.inl ⟨by rfl, ?_⟩) ?_ ?_
     rotate_left
     ·
      intro w'
      go_simp
      with_reducible rfl
     rotate_left
     ·
      simp only [Act.put, cO, cZ, d9, aG, aH]
      rfl
     refine aV (i := 11) (N := some 213) (v := ?_) (a' := ?_) (dG 25 4095) rfl rfl (by kernel_rfl) (fun _ _ _ h => hP _ _ _ _ _ h) (Or.inl ⟨by rfl, ?_⟩) ?_ ?_
     rotate_left
     ·
      intro w'
      go_simp
      with_reducible rfl
     rotate_left
     ·
      simp only [Act.put, cO, cZ, d9, aG, aH]
      rfl
     refine aV (i := 12) (N := some 214) (v := ?_) (a' := ?_) (dG 25 8191) rfl rfl (by kernel_rfl) (fun _ _ _ h => hP _ _ _ _ _ h) (Or.inl ⟨by rfl, ?_⟩) ?_ ?_
     rotate_left
     ·
      intro w'
      go_simp
      with_reducible rfl
     rotate_left
     ·
      simp only [Act.put, cO, cZ, d9, aG, aH]
      rfl
     refine bK (i := 13) (N := some 215) (v := ?_) (a' := ?_) (dG 25 16383) rfl rfl (by kernel_rfl) (fun _ _ _ h => hP _ _ _ _ _ h) (Or.inl ⟨by rfl, ?_⟩) hHeld ?_ ?_
     rotate_left
     ·
      intro w' s_
      obtain ⟨s0, s1, s2_, s3, s4⟩ := HCELL.out w' s_
      go_simp
      with_reducible rfl
     rotate_left
     ·
      simp only [Act.put, cO, cZ, d9, aG, aH]
      rfl
     refine aV (i := 14) (N := some 216) (v := ?_) (a' := ?_) (dG 25 32767) rfl rfl (by kernel_rfl) (fun _ _ _ h => hP _ _ _ _ _ h) (Or.inl ⟨by rfl, ?_⟩) ?_ ?_
     rotate_left
     ·
      intro w'
      go_simp
      with_reducible rfl
     rotate_left
     ·
      simp only [Act.put, cO, cZ, d9, aG, aH]
      rfl
     refine aV (i := 15) (N := some 217) (v := ?_) (a' := ?_) (dG 25 65535) rfl rfl (by kernel_rfl) (fun _ _ _ h => hP _ _ _ _ _ h) (Or.inl ⟨by rfl, ?_⟩) ?_ ?_
     rotate_left
     ·
      intro w'
      go_simp
      with_reducible rfl
     rotate_left
     ·
      simp only [Act.put, cO, cZ, d9, aG, aH]
      rfl
     refine aV (i := 16) (N := some 218) (v := ?_) (a' := ?_) (dG 25 131071) rfl rfl (by kernel_rfl) (fun _ _ _ h => hP _ _ _ _ _ h) (Or.inl ⟨by rfl, ?_⟩) ?_ ?_
     rotate_left
     ·
      intro w'
      go_simp
      with_reducible rfl
     rotate_left
     ·
      simp only [Act.put, cO, cZ, d9, aG, aH]
      rfl
     refine bK (i := 17) (N := some 219) (v := ?_) (a' := ?_) (dG 25 262143) rfl rfl (by kernel_rfl) (fun _ _ _ h => hP _ _ _ _ _ h) (Or.inl ⟨by rfl, ?_⟩) hHeld ?_ ?_
     rotate_left
     ·
      intro w' s_
      obtain ⟨s0, s1, s2_, s3, s4⟩ := HCELL.out w' s_
      go_simp
      with_reducible rfl
     rotate_left
     ·
      simp only [Act.put, cO, cZ, d9, aG, aH]
      rfl
     refine aV (i := 18) (N := some 220) (v := ?_) (a' := ?_) (dG 25 524287) rfl rfl (by kernel_rfl) (fun _ _ _ h => hP _ _ _ _ _ h) (Or.inl ⟨by rfl, ?_⟩) ?_ ?_
     rotate_left
     ·
      intro w'
      go_simp
      with_reducible rfl
     rotate_left
     ·
      simp only [Act.put, cO, cZ, d9, aG, aH]
      rfl
     refine aV (i := 19) (N := some 221) (v := ?_) (a' := ?_) (dG 25 1048575) rfl rfl (by kernel_rfl) (fun _ _ _ h => hP _ _ _ _ _ h) (Or.inl ⟨by rfl, ?_⟩) ?_ ?_
     rotate_left
     ·
      intro w'
      go_simp
      with_reducible rfl
     rotate_left
     ·
      simp only [Act.put, cO, cZ, d9, aG, aH]
      rfl
     refine aV (i := 20) (N := some 222) (v := ?_) (a' := ?_) (dG 25 2097151) rfl rfl (by kernel_rfl) (fun _ _ _ h => hP _ _ _ _ _ h) (Or.inl ⟨by rfl, ?_⟩) ?_ ?_
     rotate_left
     ·
      intro w'
      go_simp
      with_reducible rfl
     rotate_left
     ·
      simp only [Act.put, cO, cZ, d9, aG, aH]
      rfl
     refine bK (i := 21) (N := some 223) (v := ?_) (a' := ?_) (dG 25 4194303) rfl rfl (by kernel_rfl) (fun _ _ _ h => hP _ _ _ _ _ h) (Or.inl ⟨by rfl, ?_⟩) hHeld ?_ ?_
     rotate_left
     ·
      intro w' s_
      obtain ⟨s0, s1, s2_, s3, s4⟩ := HCELL.out w' s_
      go_simp
      with_reducible rfl
     rotate_left
     ·
      simp only [Act.put, cO, cZ, d9, aG, aH]
      rfl
     refine bR (i := 22) (N := some 224) (dG 25 8388607) rfl rfl (by kernel_rfl) (by decide) (fun K hK => ?_)
     refine bQ Try.func16 (by kernel_rfl) rfl #[.slice A2 s2.length c2, .slice (some ⟨bk, 0, none⟩) s2.length L] (by rfl) rfl rfl (by (try simp only [dh, dn, dw]); first | done | rfl | (simp [Act.eval]; done)) ?_
     with_reducible refine (downtiltbase_Ints.calls 40 A2 c2 s2 (some ⟨bk, 0, none⟩) L s2 true _ ?s1 ?s2 ?s3 ?s4 HI.out).mono ?_
     (case s1 => exact Kd.bF HC2.out hHeld)
     (case s2 => exact HLC.out)
     (case s3 => exact Kd.bF HC3.out hHeld)
     (case s4 => exact hl3'.out)
     rintro e w' ⟨rfl, ⟨nd, rfl⟩⟩
     refine ⟨_, rfl, ?_⟩
     refine hK.out _ _ (ah hHeld _) (fun hHeld => ?_)
     clear hK K
     refine bG (a' := ?_) ?_ ?_
     rotate_left
     ·
      show Act.put _ (some 224) _ = _
      simp only [Act.put, cO, cZ, d9, aG, aH]
      rfl
     refine aV (i := 23) (N := some 225) (v := ?_) (a' := ?_) (dG 25 16777215) rfl rfl (by kernel_rfl) (fun _ _ _ h => hP _ _ _ _ _ h) (Or.inl ⟨by rfl, ?_⟩) ?_ ?_
     rotate_left
     ·
      intro w'
      go_simp
      with_reducible rfl
     rotate_left
     ·
      simp only [Act.put, cO, cZ, d9, aG, aH]
      rfl
     refine aV (i := 24) (N := some 226) (v := ?_) (a' := ?_) (dG 25 33554431) rfl rfl (by kernel_rfl) (fun _ _ _ h => hP _ _ _ _ _ h) (Or.inl ⟨by rfl, ?_⟩) ?_ ?_
     rotate_left
     ·
      intro w'
      go_simp
      with_reducible rfl
     rotate_left
     ·
      simp only [Act.put, cO, cZ, d9, aG, aH]
      rfl
     refine done_ (by kernel_rfl) ?_
     go_wp2
     exact ⟨⟨k + 1, by omega, by go_num, ⟨HN.out.later (ah (Below.refl _ _) _)⟩⟩, by simp [intOf]; omega⟩
    ·
     have hlt' : decide ((k : Int) < (n : Int)) = false := decide_eq_false (by omega)
     have g0 : wr.cell? ⟨gn, 0, none⟩ = some (.int .i64 (L : Int)) := (ay HN.out.nbox 0).trans rfl
     have g1 : wr.cell? ⟨gn, 1, none⟩ = some (.slice Ar qs.length cr) := (ay HN.out.nbox 1).trans rfl
     obtain ⟨vb, hvb⟩ := HN.out.buf
     have b0 : wr.cell? ⟨gb, 0, none⟩ = some (.int .i64 (L : Int)) := (ay hvb 0).trans rfl
     have b1 : wr.cell? ⟨gb, 1, none⟩ = some vb := (ay hvb 1).trans rfl
     have f0 := aD hvb 0
     have f1 := aD hvb 1
     clear hvb
     go_wp2
     refine HQ.out _ _ ?_
     unfold TailJ
     refine ⟨_, _, _, _, _, _, _, _, _, _, _, _, _, _, _, _, _, _, _, _, _, _, _, _, _, _, _, _, _, _, _, _, _, _, _, _, _, _, _, _, _, _, _, _, _, _, _, _, _, _, _, _, _, _, _, _, _, _, _, _, _, _, _, _, _, _, _, _, _, _, _, _, _, _, _, _, _, _, _, _, _, _, _, _, _, _, _, _, _, _, _, _, _, _, _, _, _, _, _, _, _, _, _, _, _, _, _, _, _, _, _, _, _, _, _, _, _, _, ⟨bl0, ?_⟩, rfl⟩
     exact HN.out.close rfl rfl HQN.out HVAL.out
noncomputable def c20 : Code := seqL tail2
noncomputable def c22 : Code := seqL (seqR tail2)
theorem never_20 (w wt : World) (L n S T gB gb xb gn : Nat) (h1 : 1 ≤ L) (h2 : L ≤ 30) (h3 : 1 ≤ n) (h4 : n ≤ 8) (x : S36) (p v : Nat) (hv : x.f2 = (v : Int)) (hv3 : v ≤ 3) (hx30 : x.f3.length ≤ 30) (A3 : Option Addr) (c3 : Nat) (hCx : Kd.C (Kd.int .i64) w A3 x.f3.length x.f3) (ps : List S42) (hps : ps.length = n) (hpn : p < ps.length) (hlen : ∀ o ∈ ps, o.f2.length = L) (Ar : Option Addr) (cr lo hi : Nat) (M : Int) (hMb : M ≤ 1000000000) (hval : Valid L M (ps.set p (newP (ps[p]'hpn) x.f1 x.f2 L x.f3)))
  (hall : partOf (ps[p]'hpn) x L x.f3.length = (newP (ps[p]'hpn) x.f1 x.f2 L x.f3).f2) (bl0 : List Nat) (hT : TInv w wt L n S T gB gb xb gn x p A3 c3 bl0 (ps.map (·.f2)) (ps.map (·.f0)) (ps.set p (newP (ps[p]'hpn) x.f1 x.f2 L x.f3)) Ar cr lo hi)
  {Q : Exit → Act → World → Prop} (z0 z1 z3 z4 z6 z9 z10 z14 z15 z16 z17 z18 z19 z20 z21 z22 z23 z24 z25 z26 z27 z28 z29 z30 z31 z32 z33 z34 z35 z36 z37 z38 z39 z40 z41 z42 z43 z44 z45 z46 z47 z48 z49 z50 z51 z52 z53 z54 z55 z56 z57 z58 z59 z60 z61 z62 z63 z64 z65 z66 z67 z68 z69 z70 z71 z72 z73 z74 z75 z76 z77 z78 z79 z80 z81 z82 z83 z84 z85 z86 z87 z88 z89 z90 z91 z92 z93 z94 z95 z96 z97 z98 z99 z100 z101 z102 z103 z104 z105 z106 z107 z108 z109 z110 z111 z112 z113 z114 z115 z116 z117 z118 z119 z120 z121 z122 z123 z124 z125 z126 z127 z128 z129 z130 z131 z132 z133 z134 z135 z136 z137 z138 z139 z140 z141 z142 z143 z144 z145 z146 z147 z148 z149 z150 z151 z152 z153 z154 z155 z156 z157 z158 z159 z160 z161 z162 z163 z164 z165 z166 z167 z168 z169 z170 z171 z172 z173 z174 z175 z176 z177 z178 z179 z180 z181 z182 z183 z184 z185 z186 z187 z188 z189 z190 z191 z192 z193 z194 z195 z196 z197 z198 z199 z200 z201 z202 z203 z204 z205 z206 z207 z208 z209 z210 z211 z212 z213 z214 z215 z216 z217 z218 z219 z220 z221 z222 z223 z224 z225 z226 z227 : Value) (hQ : ∀ (y114 y115 y116 y117 y118 y119 y120 y121 y122 y123 y124 y125 y126 y127 y128 y129 y130 y131 y132 y133 y134 y135 : Value) (W : World), TInv w W L n S T gB gb xb gn x p A3 c3 bl0 (ps.map (·.f2)) (ps.map (·.f0)) (ps.set p (newP (ps[p]'hpn) x.f1 x.f2 L x.f3)) Ar cr lo hi → Q .normal ⟨#[z0, z1, .pointer (some ⟨gB, 0, none⟩), z3, z4, .pointer (some ⟨gb, 0, none⟩), z6, .slice (some ⟨S, 0, none⟩) n n, .slice (some ⟨T, 0, none⟩) n n, z9, z10, .pointer (some ⟨xb, 0, none⟩), .pointer (some ⟨gn, 0, none⟩), .int .i64 0, z14, z15, z16, z17, z18, z19, z20, z21, z22, z23, z24, z25, z26, z27, z28, z29, z30, z31, z32, z33, z34, z35, z36, z37, z38, z39, z40, z41, z42, z43, z44, z45, z46, z47, z48, z49, z50, z51, z52, z53, z54, z55, z56, z57, z58, z59, z60, z61, z62, z63, z64, z65, z66, z67, z68, z69, z70, z71, z72, z73, z74, z75, z76, z77, z78, z79, z80, z81, z82, z83, z84, z85, z86, z87, z88, z89, z90, z91, z92, z93, z94, z95, z96, z97, z98, z99, z100, z101, z102, z103, z104, z105, z106, z107, z108, z109, z110, z111, z112, z113, y114, y115, y116, y117, y118, y119, y120, y121, y122, y123, y124, y125, y126, y127, y128, y129, y130, y131, y132, y133, y134, y135, z136, z137, z138, z139, z140, z141, z142, z143, z144, z145, z146, z147, z148, z149, z150, z151, z152, z153, z154, z155, z156, z157, z158, z159, z160, z161, z162, z163, z164, z165, z166, z167, z168, z169, z170, z171, z172, z173, z174, z175, z176, z177, z178, z179, z180, z181, z182, z183, z184, z185, z186, z187, z188, z189, z190, z191, z192, z193, z194, z195, z196, z197, z198, z199, z200, z201, z202, z203, z204, z205, z206, z207, z208, z209, z210, z211, z212, z213, z214, z215, z216, z217, z218, z219, z220, z221, z222, z223, z224, z225, z226, z227], []⟩ W) :
  c20.wp Try.prog Q ⟨#[z0, z1, .pointer (some ⟨gB, 0, none⟩), z3, z4, .pointer (some ⟨gb, 0, none⟩), z6, .slice (some ⟨S, 0, none⟩) n n, .slice (some ⟨T, 0, none⟩) n n, z9, z10, .pointer (some ⟨xb, 0, none⟩), .pointer (some ⟨gn, 0, none⟩), .int .i64 0, z14, z15, z16, z17, z18, z19, z20, z21, z22, z23, z24, z25, z26, z27, z28, z29, z30, z31, z32, z33, z34, z35, z36, z37, z38, z39, z40, z41, z42, z43, z44, z45, z46, z47, z48, z49, z50, z51, z52, z53, z54, z55, z56, z57, z58, z59, z60, z61, z62, z63, z64, z65, z66, z67, z68, z69, z70, z71, z72, z73, z74, z75, z76, z77, z78, z79, z80, z81, z82, z83, z84, z85, z86, z87, z88, z89, z90, z91, z92, z93, z94, z95, z96, z97, z98, z99, z100, z101, z102, z103, z104, z105, z106, z107, z108, z109, z110, z111, z112, z113, z114, z115, z116, z117, z118, z119, z120, z121, z122, z123, z124, z125, z126, z127, z128, z129, z130, z131, z132, z133, z134, z135, z136, z137, z138, z139, z140, z141, z142, z143, z144, z145, z146, z147, z148, z149, z150, z151, z152, z153, z154, z155, z156, z157, z158, z159, z160, z161, z162, z163, z164, z165, z166, z167, z168, z169, z170, z171, z172, z173, z174, z175, z176, z177, z178, z179, z180, z181, z182, z183, z184, z185, z186, z187, z188, z189, z190, z191, z192, z193, z194, z195, z196, z197, z198, z199, z200, z201, z202, z203, z204, z205, z206, z207, z208, z209, z210, z211, z212, z213, z214, z215, z216, z217, z218, z219, z220, z221, z222, z223, z224, z225, z226, z227], []⟩ wt := by
 conv => arg 2; whnf
 have HT := dH hT
 have HQ := dH hQ
 have HBF := dH (buffers_ hval hMb 100 (by omega))
 have hqn : (((ps.set p (newP (ps[p]'hpn) x.f1 x.f2 L x.f3)).length : Int) != (n : Int)) = false := by rw [List.length_set, hps]; simp
 clear hT hQ hCx hval hlen hall hps hv
 obtain ⟨qs, hqs⟩ : ∃ qs, ps.set p (newP (ps[p]'hpn) x.f1 x.f2 L x.f3) = qs := ⟨_, rfl⟩
 rw [hqs] at HT HQ HBF hqn
 clear hqs
 have hu22 := Try.underlying22
 have hu28 := Try.underlying28
 have e0 : wt.cell? ⟨gn, 0, none⟩ = some (.int .i64 (L : Int)) := (ay HT.out.nbox 0).trans rfl
 have e1 : wt.cell? ⟨gn, 1, none⟩ = some (.slice Ar qs.length cr) := (ay HT.out.nbox 1).trans rfl
 go_wp2_with (first | (go_at_call 11; with_reducible refine (downtiltref02_BuffersErr.calls 100 (L : Int) Ar cr qs _ _ ?sideC ?sideL HBF.out).mono ?_; (case sideC => exact Kd.F_now HT.out.foot); (case sideL => exact HT.out.cap); rintro e w6 ⟨rfl, hb⟩; replace HT := dH (HT.out.later hb); clear e0 e1 hb; have e0 : w6.cell? ⟨gn, 0, none⟩ = some (.int .i64 (L : Int)) := (ay HT.out.nbox 0).trans rfl; have e1 : w6.cell? ⟨gn, 1, none⟩ = some (.slice Ar qs.length cr) := (ay HT.out.nbox 1).trans rfl; have d0 : w6.cell? ⟨gB, 0, none⟩ = some (.int .i64 (L : Int)) := (ay HT.out.box 0).trans rfl; have d1 : w6.cell? ⟨gB, 1, none⟩ = some (.int .i64 (n : Int)) := (ay HT.out.box 1).trans rfl) | fail)
 exact HQ.out _ _ _ _ _ _ _ _ _ _ _ _ _ _ _ _ _ _ _ _ _ _ _ HT.out
theorem never_22 (w wt : World) (L n S T gB gb xb gn : Nat) (h1 : 1 ≤ L) (h2 : L ≤ 30) (h3 : 1 ≤ n) (h4 : n ≤ 8) (x : S36) (p v : Nat) (hv : x.f2 = (v : Int)) (hv3 : v ≤ 3) (hx30 : x.f3.length ≤ 30) (A3 : Option Addr) (c3 : Nat) (hCx : Kd.C (Kd.int .i64) w A3 x.f3.length x.f3) (ps : List S42) (hps : ps.length = n) (hpn : p < ps.length) (hlen : ∀ o ∈ ps, o.f2.length = L) (Ar : Option Addr) (cr lo hi : Nat) (M : Int) (hMb : M ≤ 1000000000) (hval : Valid L M (ps.set p (newP (ps[p]'hpn) x.f1 x.f2 L x.f3)))
  (hall : partOf (ps[p]'hpn) x L x.f3.length = (newP (ps[p]'hpn) x.f1 x.f2 L x.f3).f2) (bl0 : List Nat) (hT : TInv w wt L n S T gB gb xb gn x p A3 c3 bl0 (ps.map (·.f2)) (ps.map (·.f0)) (ps.set p (newP (ps[p]'hpn) x.f1 x.f2 L x.f3)) Ar cr lo hi)
  {Q : Exit → Act → World → Prop} (hP : ∀ c (a : Act) (d : Option Tmp) (v : Value) W, Q (.panic c) (a.put d v) W → Q (.panic c) a W) (z0 z1 z3 z4 z6 z9 z10 z14 z15 z16 z17 z18 z19 z20 z21 z22 z23 z24 z25 z26 z27 z28 z29 z30 z31 z32 z33 z34 z35 z36 z37 z38 z39 z40 z41 z42 z43 z44 z45 z46 z47 z48 z49 z50 z51 z52 z53 z54 z55 z56 z57 z58 z59 z60 z61 z62 z63 z64 z65 z66 z67 z68 z69 z70 z71 z72 z73 z74 z75 z76 z77 z78 z79 z80 z81 z82 z83 z84 z85 z86 z87 z88 z89 z90 z91 z92 z93 z94 z95 z96 z97 z98 z99 z100 z101 z102 z103 z104 z105 z106 z107 z108 z109 z110 z111 z112 z113 z114 z115 z116 z117 z118 z119 z120 z121 z122 z123 z124 z125 z126 z127 z128 z129 z130 z131 z132 z133 z134 z135 z136 z137 z138 z139 z140 z141 z142 z143 z144 z145 z146 z147 z148 z149 z150 z151 z152 z153 z154 z155 z156 z157 z158 z159 z160 z161 z162 z163 z164 z165 z166 z167 z168 z169 z170 z171 z172 z173 z174 z175 z176 z177 z178 z179 z180 z181 z182 z183 z184 z185 z186 z187 z188 z189 z190 z191 z192 z193 z194 z195 z196 z197 z198 z199 z200 z201 z202 z203 z204 z205 z206 z207 z208 z209 z210 z211 z212 z213 z214 z215 z216 z217 z218 z219 z220 z221 z222 z223 z224 z225 z226 z227 : Value) (hQ : ∀ (y136 y137 y138 y139 y140 y141 y142 y143 y144 y145 y146 y147 y148 y149 y150 y151 y152 y153 y154 y155 y156 : Value) (bl : List Nat) (W : World), TInv w W L n S T gB gb xb gn x p A3 c3 bl ((ps.map (·.f2)).set p (baseOf (ps[p]'hpn) x.f1 L)) ((ps.map (·.f0)).set p x.f1) (ps.set p (newP (ps[p]'hpn) x.f1 x.f2 L x.f3)) Ar cr lo hi → Q .normal ⟨#[z0, z1, .pointer (some ⟨gB, 0, none⟩), z3, z4, .pointer (some ⟨gb, 0, none⟩), z6, .slice (some ⟨S, 0, none⟩) n n, .slice (some ⟨T, 0, none⟩) n n, z9, z10, .pointer (some ⟨xb, 0, none⟩), .pointer (some ⟨gn, 0, none⟩), .int .i64 0, z14, z15, z16, z17, z18, z19, z20, z21, z22, z23, z24, z25, z26, z27, z28, z29, z30, z31, z32, z33, z34, z35, z36, z37, z38, z39, z40, z41, z42, z43, z44, z45, z46, z47, z48, z49, z50, z51, z52, z53, z54, z55, z56, z57, z58, z59, z60, z61, z62, z63, z64, z65, z66, z67, z68, z69, z70, z71, z72, z73, z74, z75, z76, z77, z78, z79, z80, z81, z82, z83, z84, z85, z86, z87, z88, z89, z90, z91, z92, z93, z94, z95, z96, z97, z98, z99, z100, z101, z102, z103, z104, z105, z106, z107, z108, z109, z110, z111, z112, z113, z114, z115, z116, z117, z118, z119, z120, z121, z122, z123, z124, z125, z126, z127, z128, z129, z130, z131, z132, z133, z134, z135, y136, y137, y138, y139, y140, y141, y142, y143, y144, y145, y146, y147, y148, y149, y150, y151, y152, y153, y154, y155, y156, z157, z158, z159, z160, z161, z162, z163, z164, z165, z166, z167, z168, z169, z170, z171, z172, z173, z174, z175, z176, z177, z178, z179, z180, z181, z182, z183, z184, z185, z186, z187, z188, z189, z190, z191, z192, z193, z194, z195, z196, z197, z198, z199, z200, z201, z202, z203, z204, z205, z206, z207, z208, z209, z210, z211, z212, z213, z214, z215, z216, z217, z218, z219, z220, z221, z222, z223, z224, z225, z226, z227], []⟩ W) :
  c22.wp Try.prog Q ⟨#[z0, z1, .pointer (some ⟨gB, 0, none⟩), z3, z4, .pointer (some ⟨gb, 0, none⟩), z6, .slice (some ⟨S, 0, none⟩) n n, .slice (some ⟨T, 0, none⟩) n n, z9, z10, .pointer (some ⟨xb, 0, none⟩), .pointer (some ⟨gn, 0, none⟩), .int .i64 0, z14, z15, z16, z17, z18, z19, z20, z21, z22, z23, z24, z25, z26, z27, z28, z29, z30, z31, z32, z33, z34, z35, z36, z37, z38, z39, z40, z41, z42, z43, z44, z45, z46, z47, z48, z49, z50, z51, z52, z53, z54, z55, z56, z57, z58, z59, z60, z61, z62, z63, z64, z65, z66, z67, z68, z69, z70, z71, z72, z73, z74, z75, z76, z77, z78, z79, z80, z81, z82, z83, z84, z85, z86, z87, z88, z89, z90, z91, z92, z93, z94, z95, z96, z97, z98, z99, z100, z101, z102, z103, z104, z105, z106, z107, z108, z109, z110, z111, z112, z113, z114, z115, z116, z117, z118, z119, z120, z121, z122, z123, z124, z125, z126, z127, z128, z129, z130, z131, z132, z133, z134, z135, z136, z137, z138, z139, z140, z141, z142, z143, z144, z145, z146, z147, z148, z149, z150, z151, z152, z153, z154, z155, z156, z157, z158, z159, z160, z161, z162, z163, z164, z165, z166, z167, z168, z169, z170, z171, z172, z173, z174, z175, z176, z177, z178, z179, z180, z181, z182, z183, z184, z185, z186, z187, z188, z189, z190, z191, z192, z193, z194, z195, z196, z197, z198, z199, z200, z201, z202, z203, z204, z205, z206, z207, z208, z209, z210, z211, z212, z213, z214, z215, z216, z217, z218, z219, z220, z221, z222, z223, z224, z225, z226, z227], []⟩ wt := by
 conv => arg 2; whnf
 have HN := dH hT
 have HQ := dH hQ
 have HLEN := dH hlen
 have HPS := dH hps
 have hmix : Try.prog.follows .mixedOrders = true := by kernel_rfl
 have hbl : p < bl0.length := by
  have h_ := hT.mem.n1
  simp at h_
  omega
 clear hT hQ hCx hval hlen hall hps hv
 have hu22 := Try.underlying22
 have hu36 := Try.underlying36
 have x0 : wt.cell? ⟨xb, 0, none⟩ = some (.int .i64 (p : Int)) := (ay HN.out.xbox 0).trans rfl
 have x1 : wt.cell? ⟨xb, 1, none⟩ = some (.int .i64 x.f1) := (ay HN.out.xbox 1).trans rfl
 have htl : p < (ps.map (·.f0)).length := by simpa using hpn
 obtain ⟨cT, fT⟩ := HN.out.mem.cellT p htl
 rw [List.getElem_map] at cT
 have q1 : (0 ≤ (p : Int)) = True := eq_true (by omega)
 have q2 : ((p : Int) < (n : Int)) = True := eq_true (by have := HPS.out; omega)
 have q3 : (p < n) = True := eq_true (by have := HPS.out; omega)
 have hX0 := bn HN.out.xbox
 have hT0 := dB _ _ cT
 have HCELL := dH (show ∀ w' : World, Below wt.heap.size wt w' → w'.cell? ⟨xb, 0, none⟩ = some (.int .i64 (p : Int)) ∧ w'.cell? ⟨xb, 1, none⟩ = some (.int .i64 x.f1) ∧ w'.cell? ⟨T, p, none⟩ = some (.int .i64 (ps[p]'hpn).f0) from fun w' hS => ⟨(hS.cell hX0).trans x0, (hS.cell hX0).trans x1, (hS.cell hT0).trans cT⟩)
 clear x0 x1 cT
 go_upto_region 22 with (fail)
 by_cases hd : (ps[p]'hpn).f0 = x.f1
 ·
  have hdb : ((ps[p]'hpn).f0 != x.f1) = false := by simp [hd]
  have HD := dH hd
  clear hd
  refine b_ (n := 8) (S := fun w' => Below wt.heap.size wt w') (ds := []) (dG 8 0) hmix rfl rfl (aj (Below.refl _ _)) (fun hHeld => ?_)
  refine aV (i := 0) (N := some 136) (v := ?_) (a' := ?_) (dG 8 1) rfl rfl (by kernel_rfl) (fun _ _ _ h => hP _ _ _ _ _ h) (Or.inl ⟨by rfl, ?_⟩) ?_ ?_
  rotate_left
  ·
   intro w'
   go_simp
   with_reducible rfl
  rotate_left
  ·
   simp only [Act.put, cO, cZ, d9, aG, aH]
   rfl
  refine aV (i := 1) (N := some 137) (v := ?_) (a' := ?_) (dG 8 3) rfl rfl (by kernel_rfl) (fun _ _ _ h => hP _ _ _ _ _ h) (Or.inl ⟨by rfl, ?_⟩) ?_ ?_
  rotate_left
  ·
   intro w'
   go_simp
   with_reducible rfl
  rotate_left
  ·
   simp only [Act.put, cO, cZ, d9, aG, aH]
   rfl
  refine bK (i := 2) (N := some 138) (v := ?_) (a' := ?_) (dG 8 7) rfl rfl (by kernel_rfl) (fun _ _ _ h => hP _ _ _ _ _ h) (Or.inl ⟨by rfl, ?_⟩) hHeld ?_ ?_
  rotate_left
  ·
   intro w' s_
   obtain ⟨s0, s1, s2⟩ := HCELL.out w' s_
   go_simp
   with_reducible rfl
  rotate_left
  ·
   simp only [Act.put, cO, cZ, d9, aG, aH]
   rfl
  refine aV (i := 3) (N := some 139) (v := ?_) (a' := ?_) (dG 8 15) rfl rfl (by kernel_rfl) (fun _ _ _ h => hP _ _ _ _ _ h) (Or.inl ⟨by rfl, ?_⟩) ?_ ?_
  rotate_left
  ·
   intro w'
   go_simp
   with_reducible rfl
  rotate_left
  ·
   simp only [Act.put, cO, cZ, d9, aG, aH]
   rfl
  refine bK (i := 4) (N := some 140) (v := ?_) (a' := ?_) (dG 8 31) rfl rfl (by kernel_rfl) (fun _ _ _ h => hP _ _ _ _ _ h) (Or.inl ⟨by rfl, ?_⟩) hHeld ?_ ?_
  rotate_left
  ·
   intro w' s_
   obtain ⟨s0, s1, s2⟩ := HCELL.out w' s_
   go_simp
   with_reducible rfl
  rotate_left
  ·
   simp only [Act.put, cO, cZ, d9, aG, aH]
   rfl
  refine aV (i := 5) (N := some 141) (v := ?_) (a' := ?_) (dG 8 63) rfl rfl (by kernel_rfl) (fun _ _ _ h => hP _ _ _ _ _ h) (Or.inl ⟨by rfl, ?_⟩) ?_ ?_
  rotate_left
  ·
   intro w'
   go_simp
   with_reducible rfl
  rotate_left
  ·
   simp only [Act.put, cO, cZ, d9, aG, aH]
   rfl
  refine bK (i := 6) (N := some 142) (v := ?_) (a' := ?_) (dG 8 127) rfl rfl (by kernel_rfl) (fun _ _ _ h => hP _ _ _ _ _ h) (Or.inl ⟨by rfl, ?_⟩) hHeld ?_ ?_
  rotate_left
  ·
   intro w' s_
   obtain ⟨s0, s1, s2⟩ := HCELL.out w' s_
   go_simp
   with_reducible rfl
  rotate_left
  ·
   simp only [Act.put, cO, cZ, d9, aG, aH]
   rfl
  refine aV (i := 7) (N := some 143) (v := ?_) (a' := ?_) (dG 8 255) rfl rfl (by kernel_rfl) (fun _ _ _ h => hP _ _ _ _ _ h) (Or.inl ⟨by rfl, ?_⟩) ?_ ?_
  rotate_left
  ·
   intro w'
   go_simp
   with_reducible rfl
  rotate_left
  ·
   simp only [Act.put, cO, cZ, d9, aG, aH]
   rfl
  refine done_ (by kernel_rfl) ?_
  clear hHeld
  go_wp2
  refine HQ.out _ _ _ _ _ _ _ _ _ _ _ _ _ _ _ _ _ _ _ _ _ bl0 _ ?_
  have hs1 : (ps.map (·.f2)).set p (baseOf (ps[p]'hpn) x.f1 L) = ps.map (·.f2) := by
   unfold baseOf
   rw [if_pos HD.out]
   apply List.ext_getElem
   ·
    simp
   ·
    intro i g1 g2
    rw [List.getElem_set]
    split
    ·
     rename_i e; subst e; simp
    ·
     rfl
  have hs2 : (ps.map (·.f0)).set p x.f1 = ps.map (·.f0) := by
   rw [← HD.out]
   apply List.ext_getElem
   ·
    simp
   ·
    intro i g1 g2
    rw [List.getElem_set]
    split
    ·
     rename_i e; subst e; simp
    ·
     rfl
  rw [hs1, hs2]
  exact HN.out.later (aj (Below.refl _ _))
 ·
  have hdb : ((ps[p]'hpn).f0 != x.f1) = true := by simp [hd]
  have HD := dH hd
  clear hd
  have hm34 := print_make (P := Try.prog) 34 3 .i64 8 Try.underlying34 info3 (by decide) L (by omega)
  refine b_ (n := 8) (S := fun w' => Below wt.heap.size wt w') (ds := []) (dG 8 0) hmix rfl rfl (aj (Below.refl _ _)) (fun hHeld => ?_)
  refine aV (i := 0) (N := some 136) (v := ?_) (a' := ?_) (dG 8 1) rfl rfl (by kernel_rfl) (fun _ _ _ h => hP _ _ _ _ _ h) (Or.inl ⟨by rfl, ?_⟩) ?_ ?_
  rotate_left
  ·
   intro w'
   go_simp
   with_reducible rfl
  rotate_left
  ·
   simp only [Act.put, cO, cZ, d9, aG, aH]
   rfl
  refine aV (i := 1) (N := some 137) (v := ?_) (a' := ?_) (dG 8 3) rfl rfl (by kernel_rfl) (fun _ _ _ h => hP _ _ _ _ _ h) (Or.inl ⟨by rfl, ?_⟩) ?_ ?_
  rotate_left
  ·
   intro w'
   go_simp
   with_reducible rfl
  rotate_left
  ·
   simp only [Act.put, cO, cZ, d9, aG, aH]
   rfl
  refine bK (i := 2) (N := some 138) (v := ?_) (a' := ?_) (dG 8 7) rfl rfl (by kernel_rfl) (fun _ _ _ h => hP _ _ _ _ _ h) (Or.inl ⟨by rfl, ?_⟩) hHeld ?_ ?_
  rotate_left
  ·
   intro w' s_
   obtain ⟨s0, s1, s2⟩ := HCELL.out w' s_
   go_simp
   with_reducible rfl
  rotate_left
  ·
   simp only [Act.put, cO, cZ, d9, aG, aH]
   rfl
  refine aV (i := 3) (N := some 139) (v := ?_) (a' := ?_) (dG 8 15) rfl rfl (by kernel_rfl) (fun _ _ _ h => hP _ _ _ _ _ h) (Or.inl ⟨by rfl, ?_⟩) ?_ ?_
  rotate_left
  ·
   intro w'
   go_simp
   with_reducible rfl
  rotate_left
  ·
   simp only [Act.put, cO, cZ, d9, aG, aH]
   rfl
  refine bK (i := 4) (N := some 140) (v := ?_) (a' := ?_) (dG 8 31) rfl rfl (by kernel_rfl) (fun _ _ _ h => hP _ _ _ _ _ h) (Or.inl ⟨by rfl, ?_⟩) hHeld ?_ ?_
  rotate_left
  ·
   intro w' s_
   obtain ⟨s0, s1, s2⟩ := HCELL.out w' s_
   go_simp
   with_reducible rfl
  rotate_left
  ·
   simp only [Act.put, cO, cZ, d9, aG, aH]
   rfl
  refine aV (i := 5) (N := some 141) (v := ?_) (a' := ?_) (dG 8 63) rfl rfl (by kernel_rfl) (fun _ _ _ h => hP _ _ _ _ _ h) (Or.inl ⟨by rfl, ?_⟩) ?_ ?_
  rotate_left
  ·
   intro w'
   go_simp
   with_reducible rfl
  rotate_left
  ·
   simp only [Act.put, cO, cZ, d9, aG, aH]
   rfl
  refine bK (i := 6) (N := some 142) (v := ?_) (a' := ?_) (dG 8 127) rfl rfl (by kernel_rfl) (fun _ _ _ h => hP _ _ _ _ _ h) (Or.inl ⟨by rfl, ?_⟩) hHeld ?_ ?_
  rotate_left
  ·
   intro w' s_
   obtain ⟨s0, s1, s2⟩ := HCELL.out w' s_
   go_simp
   with_reducible rfl
  rotate_left
  ·
   simp only [Act.put, cO, cZ, d9, aG, aH]
   rfl
  refine aV (i := 7) (N := some 143) (v := ?_) (a' := ?_) (dG 8 255) rfl rfl (by kernel_rfl) (fun _ _ _ h => hP _ _ _ _ _ h) (Or.inl ⟨by rfl, ?_⟩) ?_ ?_
  rotate_left
  ·
   intro w'
   go_simp
   with_reducible rfl
  rotate_left
  ·
   simp only [Act.put, cO, cZ, d9, aG, aH]
   rfl
  refine done_ (by kernel_rfl) ?_
  clear hHeld
  go_wp2
  obtain ⟨w0, hw0⟩ : ∃ w0 : World, wt.drew = w0 := ⟨_, rfl⟩
  replace HN := dH (HN.out.later (aj (Below.refl _ _)))
  rw [hw0] at HN
  simp only [hw0]
  clear hw0 HCELL hX0 hT0
  have hS1 := HN.out.nds
  obtain ⟨cS, fS⟩ := HN.out.mem.cellS p hbl
  obtain ⟨cT, fT⟩ := HN.out.mem.cellT p htl
  have hS0 := dB _ _ cS
  have hT0 := dB _ _ cT
  have hST : S ≠ T := by have h_ := hS1.2.2.2.2; simp at h_; omega
  have hxS : xb ≠ S := fun e => hS1.2.2.1 (by simp [e])
  have hBS : gB ≠ S := fun e => hS1.1 (by simp [e])
  clear hS1
  have HCELL := dH (show ∀ w' : World, (w'.heap[xb]? = some (.cells #[.int .i64 (p : Int), .int .i64 x.f1, .int .i64 x.f2, .slice A3 x.f3.length c3] 36 (0, 0)) ∧ w'.heap[gB]? = some (.cells #[.int .i64 (L : Int), .int .i64 (n : Int)] 22 (0, 0))) → w'.cell? ⟨xb, 0, none⟩ = some (.int .i64 (p : Int)) ∧ w'.cell? ⟨xb, 1, none⟩ = some (.int .i64 x.f1) ∧ w'.cell? ⟨gB, 0, none⟩ = some (.int .i64 (L : Int)) from fun w' hS => ⟨(ay hS.1 0).trans rfl, (ay hS.1 1).trans rfl, (ay hS.2 0).trans rfl⟩)
  refine b_ (n := 15) (S := fun w' => w'.heap[xb]? = some (.cells #[.int .i64 (p : Int), .int .i64 x.f1, .int .i64 x.f2, .slice A3 x.f3.length c3] 36 (0, 0)) ∧ w'.heap[gB]? = some (.cells #[.int .i64 (L : Int), .int .i64 (n : Int)] 22 (0, 0))) (ds := [14]) (dG 15 0) hmix rfl rfl ⟨aC HN.out.xbox, aC HN.out.box⟩ (fun hHeld => ?_)
  refine aV (i := 0) (N := some 144) (v := ?_) (a' := ?_) (dG 15 1) rfl rfl (by kernel_rfl) (fun _ _ _ h => hP _ _ _ _ _ h) (Or.inl ⟨by rfl, ?_⟩) ?_ ?_
  rotate_left
  ·
   intro w'
   go_simp
   with_reducible rfl
  rotate_left
  ·
   simp only [Act.put, cO, cZ, d9, aG, aH]
   rfl
  refine aV (i := 1) (N := some 145) (v := ?_) (a' := ?_) (dG 15 3) rfl rfl (by kernel_rfl) (fun _ _ _ h => hP _ _ _ _ _ h) (Or.inl ⟨by rfl, ?_⟩) ?_ ?_
  rotate_left
  ·
   intro w'
   go_simp
   with_reducible rfl
  rotate_left
  ·
   simp only [Act.put, cO, cZ, d9, aG, aH]
   rfl
  refine bK (i := 2) (N := some 146) (v := ?_) (a' := ?_) (dG 15 7) rfl rfl (by kernel_rfl) (fun _ _ _ h => hP _ _ _ _ _ h) (Or.inl ⟨by rfl, ?_⟩) hHeld ?_ ?_
  rotate_left
  ·
   intro w' s_
   obtain ⟨s0, s1, s2⟩ := HCELL.out w' s_
   go_simp
   with_reducible rfl
  rotate_left
  ·
   simp only [Act.put, cO, cZ, d9, aG, aH]
   rfl
  refine aV (i := 3) (N := some 147) (v := ?_) (a' := ?_) (dG 15 15) rfl rfl (by kernel_rfl) (fun _ _ _ h => hP _ _ _ _ _ h) (Or.inl ⟨by rfl, ?_⟩) ?_ ?_
  rotate_left
  ·
   intro w'
   go_simp
   with_reducible rfl
  rotate_left
  ·
   simp only [Act.put, cO, cZ, d9, aG, aH]
   rfl
  refine aV (i := 4) (N := some 148) (v := ?_) (a' := ?_) (dG 15 31) rfl rfl (by kernel_rfl) (fun _ _ _ h => hP _ _ _ _ _ h) (Or.inl ⟨by rfl, ?_⟩) ?_ ?_
  rotate_left
  ·
   intro w'
   go_simp
   with_reducible rfl
  rotate_left
  ·
   simp only [Act.put, cO, cZ, d9, aG, aH]
   rfl
  refine bK (i := 5) (N := some 149) (v := ?_) (a' := ?_) (dG 15 63) rfl rfl (by kernel_rfl) (fun _ _ _ h => hP _ _ _ _ _ h) (Or.inl ⟨by rfl, ?_⟩) hHeld ?_ ?_
  rotate_left
  ·
   intro w' s_
   obtain ⟨s0, s1, s2⟩ := HCELL.out w' s_
   go_simp
   with_reducible rfl
  rotate_left
  ·
   simp only [Act.put, cO, cZ, d9, aG, aH]
   rfl
  refine aV (i := 6) (N := some 150) (v := ?_) (a' := ?_) (dG 15 127) rfl rfl (by kernel_rfl) (fun _ _ _ h => hP _ _ _ _ _ h) (Or.inl ⟨by rfl, ?_⟩) ?_ ?_
  rotate_left
  ·
   intro w'
   go_simp
   with_reducible rfl
  rotate_left
  ·
   simp only [Act.put, cO, cZ, d9, aG, aH]
   rfl
  refine bK (i := 7) (N := some 151) (v := ?_) (a' := ?_) (dG 15 255) rfl rfl (by kernel_rfl) (fun _ _ _ h => hP _ _ _ _ _ h) (Or.inl ⟨by rfl, ?_⟩) hHeld ?_ ?_
  rotate_left
  ·
   intro w' s_
   obtain ⟨s0, s1, s2⟩ := HCELL.out w' s_
   go_simp
   with_reducible rfl
  rotate_left
  ·
   simp only [Act.put, cO, cZ, d9, aG, aH]
   rfl
  refine aV (i := 9) (N := some 153) (v := ?_) (a' := ?_) (dG 15 767) rfl rfl (by kernel_rfl) (fun _ _ _ h => hP _ _ _ _ _ h) (Or.inl ⟨by rfl, ?_⟩) ?_ ?_
  rotate_left
  ·
   intro w'
   go_simp
   with_reducible rfl
  rotate_left
  ·
   simp only [Act.put, cO, cZ, d9, aG, aH]
   rfl
  refine bK (i := 10) (N := some 154) (v := ?_) (a' := ?_) (dG 15 1791) rfl rfl (by kernel_rfl) (fun _ _ _ h => hP _ _ _ _ _ h) (Or.inl ⟨by rfl, ?_⟩) hHeld ?_ ?_
  rotate_left
  ·
   intro w' s_
   obtain ⟨s0, s1, s2⟩ := HCELL.out w' s_
   go_simp
   with_reducible rfl
  rotate_left
  ·
   simp only [Act.put, cO, cZ, d9, aG, aH]
   rfl
  refine bR (i := 8) (N := some 152) (dG 15 2047) rfl rfl (by kernel_rfl) (by decide) (fun K hK => ?_)
  refine value_ (w1 := (w0.drew.alloc (.cells (madeCells #[.int .i64 0] L) 3))) (v := .slice (some ⟨w0.heap.size, 0, none⟩) L L) (by rfl) rfl ?_ ?_
  ·
   go_simp
  refine hK.out _ _ ⟨au hHeld.1 _, au hHeld.2 _⟩ (fun hHeld => ?_)
  clear hK K
  refine bG (a' := ?_) ?_ ?_
  rotate_left
  ·
   show Act.put _ (some 152) _ = _
   simp only [Act.put, cO, cZ, d9, aG, aH]
   rfl
  refine aV (i := 11) (N := some 155) (v := ?_) (a' := ?_) (dG 15 4095) rfl rfl (by kernel_rfl) (fun _ _ _ h => hP _ _ _ _ _ h) (Or.inl ⟨by rfl, ?_⟩) ?_ ?_
  rotate_left
  ·
   intro w'
   go_simp
   with_reducible rfl
  rotate_left
  ·
   simp only [Act.put, cO, cZ, d9, aG, aH]
   rfl
  refine bR (i := 12) (N := none) (dG 15 8191) rfl rfl (by kernel_rfl) (by decide) (fun K hK => ?_)
  refine skip_ (w1 := ((w0.drew.alloc (.cells (madeCells #[.int .i64 0] L) 3)).setCell ⟨S, p, none⟩ (.slice (some ⟨w0.heap.size, 0, none⟩) L L))) (by rfl) rfl ?_ ?_
  ·
   go_simp
  refine hK.out _ _ ⟨aW hHeld.1 hxS _, aW hHeld.2 hBS _⟩ (fun hHeld => ?_)
  clear hK K
  refine aV (i := 13) (N := some 156) (v := ?_) (a' := ?_) (dG 15 16383) rfl rfl (by kernel_rfl) (fun _ _ _ h => hP _ _ _ _ _ h) (Or.inl ⟨by rfl, ?_⟩) ?_ ?_
  rotate_left
  ·
   intro w'
   go_simp
   with_reducible rfl
  rotate_left
  ·
   simp only [Act.put, cO, cZ, d9, aG, aH]
   rfl
  refine last_ (i := 14) (N := none) (dG 15 32767) rfl rfl (by kernel_rfl) (by decide) (fun K hK => ?_)
  refine skip_ (w1 := ((w0.drew.alloc (.cells (madeCells #[.int .i64 0] L) 3)).setCell ⟨S, p, none⟩ (.slice (some ⟨w0.heap.size, 0, none⟩) L L)).setCell ⟨T, p, none⟩ (.int .i64 x.f1)) (by rfl) rfl ?_ ?_
  ·
   go_simp
  refine hK.out _ _ ?_
  clear hK K hHeld
  refine done_ (by kernel_rfl) ?_
  go_wp2
  refine HQ.out _ _ _ _ _ _ _ _ _ _ _ _ _ _ _ _ _ _ _ _ _ (bl0.set p w0.heap.size) _ ?_
  have hsl : p < (ps.map (·.f2)).length := by simpa using hpn
  have h1_ := HN.out.later (ak (aj (Below.refl _ _)) (.cells (madeCells #[.int .i64 0] L) 3))
  have hnew : (w0.drew.alloc (.cells (madeCells #[.int .i64 0] L) 3)).heap[w0.heap.size]? = some (.cells (nums .i64 (List.replicate L 0)).toArray 3 (0, 0)) := by
   have h_ := World.alloc_heap_new w0.drew (.cells (madeCells #[.int .i64 0] L) 3)
   rw [made_zero] at h_ ⊢
   refine h_.trans ?_
   simp [nums]
  have hfr : ∀ k ∈ gB :: gb :: xb :: gn :: S :: T :: bl0, k ≠ w0.heap.size := by
   intro k hk e
   rw [List.mem_cons, List.mem_cons, List.mem_cons, List.mem_cons] at hk
   have h1 := bn HN.out.box
   obtain ⟨_, hvb⟩ := HN.out.buf
   have h2 := bn hvb
   have h3 := bn HN.out.xbox
   have h4 := bn HN.out.nbox
   rcases hk with rfl | rfl | rfl | rfl | hk
   ·
    omega
   ·
    omega
   ·
    omega
   ·
    omega
   ·
    have := HN.out.mem.lt _ hk
    omega
  have hm2 := h1_.mem.setS p w0.heap.size (fun hm => hfr _ (List.mem_cons_of_mem _ (List.mem_cons_of_mem _ (List.mem_cons_of_mem _ (List.mem_cons_of_mem _ hm)))) rfl) (List.replicate L 0) (by simp) hnew
  have h2_ := h1_.store (g := S) (by simp) p _ hm2 (fun k hk => by
   rcases List.mem_or_eq_of_mem_set hk with hk | rfl
   ·
    exact .inl hk
   ·
    refine .inr ⟨HN.out.below.size, HN.out.top, ?_⟩
    intro hm
    exact hfr _ (by simp at hm ⊢; rcases hm with h | h | h | h <;> simp [h]) rfl)
  have h3_ := h2_.store (g := T) (by simp) p _ (hm2.setT p x.f1) (fun k hk => .inl hk)
  have hb1 : baseOf (ps[p]'hpn) x.f1 L = List.replicate L 0 := by unfold baseOf; rw [if_neg HD.out]
  rw [hb1]
  unfold rowV at h3_
  simp only [World.setCell_alloc_past, World.setCell_drew, World.alloc_drew, hS0, hT0, World.size_drew, World.size_setCell] at h3_
  exact h3_
end Go.Proofs.Ytbjiookpiminmaa.PCode
end
section
namespace Go.Proofs.Ytbjiookpiminmaa.PCode
open Go.RowKit Go.Shelf Go.Proofs.YtbjiookpiminmaaW.PrintWords Go.Proofs.YtbjiookpiminmaaW.PrintLast Go.Proofs.YtbjiookpiminmaaW.PrintMore
theorem never_tail (w wt : World) (L n S T gB gb xb gn : Nat) (h1 : 1 ≤ L) (h2 : L ≤ 30) (h3 : 1 ≤ n) (h4 : n ≤ 8) (x : S36) (p v : Nat) (hv : x.f2 = (v : Int)) (hv3 : v ≤ 3) (hx30 : x.f3.length ≤ 30) (A3 : Option Addr) (c3 : Nat) (hCx : Kd.C (Kd.int .i64) w A3 x.f3.length x.f3) (ps : List S42) (hps : ps.length = n) (hpn : p < ps.length) (hlen : ∀ o ∈ ps, o.f2.length = L) (Ar : Option Addr) (cr lo hi : Nat) (M : Int) (hMb : M ≤ 1000000000) (hval : Valid L M (ps.set p (newP (ps[p]'hpn) x.f1 x.f2 L x.f3)))
  (hall : partOf (ps[p]'hpn) x L x.f3.length = (newP (ps[p]'hpn) x.f1 x.f2 L x.f3).f2) (bl0 : List Nat) (hT : TInv w wt L n S T gB gb xb gn x p A3 c3 bl0 (ps.map (·.f2)) (ps.map (·.f0)) (ps.set p (newP (ps[p]'hpn) x.f1 x.f2 L x.f3)) Ar cr lo hi)
  {Q : Exit → Act → World → Prop} (hP : ∀ c (a : Act) (d : Option Tmp) (v : Value) W, Q (.panic c) (a.put d v) W → Q (.panic c) a W) (z0 z1 z3 z4 z6 z9 z10 z14 z15 z16 z17 z18 z19 z20 z21 z22 z23 z24 z25 z26 z27 z28 z29 z30 z31 z32 z33 z34 z35 z36 z37 z38 z39 z40 z41 z42 z43 z44 z45 z46 z47 z48 z49 z50 z51 z52 z53 z54 z55 z56 z57 z58 z59 z60 z61 z62 z63 z64 z65 z66 z67 z68 z69 z70 z71 z72 z73 z74 z75 z76 z77 z78 z79 z80 z81 z82 z83 z84 z85 z86 z87 z88 z89 z90 z91 z92 z93 z94 z95 z96 z97 z98 z99 z100 z101 z102 z103 z104 z105 z106 z107 z108 z109 z110 z111 z112 z113 z114 z115 z116 z117 z118 z119 z120 z121 z122 z123 z124 z125 z126 z127 z128 z129 z130 z131 z132 z133 z134 z135 z136 z137 z138 z139 z140 z141 z142 z143 z144 z145 z146 z147 z148 z149 z150 z151 z152 z153 z154 z155 z156 z157 z158 z159 z160 z161 z162 z163 z164 z165 z166 z167 z168 z169 z170 z171 z172 z173 z174 z175 z176 z177 z178 z179 z180 z181 z182 z183 z184 z185 z186 z187 z188 z189 z190 z191 z192 z193 z194 z195 z196 z197 z198 z199 z200 z201 z202 z203 z204 z205 z206 z207 z208 z209 z210 z211 z212 z213 z214 z215 z216 z217 z218 z219 z220 z221 z222 z223 z224 z225 z226 z227 : Value) (hQ : ∀ a W, TailJ w L n S T gB gb xb gn M (ps.set p (newP (ps[p]'hpn) x.f1 x.f2 L x.f3)) Ar cr lo hi z0 z1 z3 z6 z9 z10 z17 z18 z19 z20 z21 z22 z23 z24 z25 z26 z27 z28 z29 z30 z31 z32 z33 z34 z35 z36 z37 z38 z39 z40 z41 z42 z43 z44 z45 z46 z47 z48 z49 z50 z51 z52 z53 z54 z55 z56 z57 z58 z59 z60 z61 z62 z63 z64 z65 z66 z67 z68 z69 z70 z71 z72 z73 z74 z75 z76 z77 z78 z79 z80 z81 z82 z83 z84 z85 z86 z87 z88 z89 z90 z91 z92 z93 z94 z95 z96 z97 z98 z99 z100 z101 z102 z103 z104 z105 z106 z107 z108 z109 z110 z111 z112 z113 a W → Q .normal a W) :
  tail2.wp Try.prog Q ⟨#[z0, z1, .pointer (some ⟨gB, 0, none⟩), z3, z4, .pointer (some ⟨gb, 0, none⟩), z6, .slice (some ⟨S, 0, none⟩) n n, .slice (some ⟨T, 0, none⟩) n n, z9, z10, .pointer (some ⟨xb, 0, none⟩), .pointer (some ⟨gn, 0, none⟩), .int .i64 0, z14, z15, z16, z17, z18, z19, z20, z21, z22, z23, z24, z25, z26, z27, z28, z29, z30, z31, z32, z33, z34, z35, z36, z37, z38, z39, z40, z41, z42, z43, z44, z45, z46, z47, z48, z49, z50, z51, z52, z53, z54, z55, z56, z57, z58, z59, z60, z61, z62, z63, z64, z65, z66, z67, z68, z69, z70, z71, z72, z73, z74, z75, z76, z77, z78, z79, z80, z81, z82, z83, z84, z85, z86, z87, z88, z89, z90, z91, z92, z93, z94, z95, z96, z97, z98, z99, z100, z101, z102, z103, z104, z105, z106, z107, z108, z109, z110, z111, z112, z113, z114, z115, z116, z117, z118, z119, z120, z121, z122, z123, z124, z125, z126, z127, z128, z129, z130, z131, z132, z133, z134, z135, z136, z137, z138, z139, z140, z141, z142, z143, z144, z145, z146, z147, z148, z149, z150, z151, z152, z153, z154, z155, z156, z157, z158, z159, z160, z161, z162, z163, z164, z165, z166, z167, z168, z169, z170, z171, z172, z173, z174, z175, z176, z177, z178, z179, z180, z181, z182, z183, z184, z185, z186, z187, z188, z189, z190, z191, z192, z193, z194, z195, z196, z197, z198, z199, z200, z201, z202, z203, z204, z205, z206, z207, z208, z209, z210, z211, z212, z213, z214, z215, z216, z217, z218, z219, z220, z221, z222, z223, z224, z225, z226, z227], []⟩ wt := by
 show (Code.seq c20 (Code.seq c22 loops2)).wp Try.prog Q _ wt
 refine wp_seq (never_20 w wt L n S T gB gb xb gn h1 h2 h3 h4 x p v hv hv3 hx30 A3 c3 hCx ps hps hpn hlen Ar cr lo hi M hMb hval hall bl0 hT _ _ _ _ _ _ _ _ _ _ _ _ _ _ _ _ _ _ _ _ _ _ _ _ _ _ _ _ _ _ _ _ _ _ _ _ _ _ _ _ _ _ _ _ _ _ _ _ _ _ _ _ _ _ _ _ _ _ _ _ _ _ _ _ _ _ _ _ _ _ _ _ _ _ _ _ _ _ _ _ _ _ _ _ _ _ _ _ _ _ _ _ _ _ _ _ _ _ _ _ _ _ _ _ _ _ _ _ _ _ _ _ _ _ _ _ _ _ _ _ _ _ _ _ _ _ _ _ _ _ _ _ _ _ _ _ _ _ _ _ _ _ _ _ _ _ _ _ _ _ _ _ _ _ _ _ _ _ _ _ _ _ _ _ _ _ _ _ _ _ _ _ _ _ _ _ _ _ _ _ _ _ _ _ _ _ _ _ _ _ _ _ _ _ _ _ _ _ _ _ _ _ _ _ _ _ _ _ _ _ _ _ _ _ _ _ _ _ _ _ _ (fun y114 y115 y116 y117 y118 y119 y120 y121 y122 y123 y124 y125 y126 y127 y128 y129 y130 y131 y132 y133 y134 y135 W hW => ?_))
 show (Code.seq c22 loops2).wp Try.prog Q _ W
 refine wp_seq (never_22 w W L n S T gB gb xb gn h1 h2 h3 h4 x p v hv hv3 hx30 A3 c3 hCx ps hps hpn hlen Ar cr lo hi M hMb hval hall bl0 hW (Q := Exit.then (loops2.wp Try.prog Q) Q) (fun c a d v W h => hP c a d v W h) _ _ _ _ _ _ _ _ _ _ _ _ _ _ _ _ _ _ _ _ _ _ _ _ _ _ _ _ _ _ _ _ _ _ _ _ _ _ _ _ _ _ _ _ _ _ _ _ _ _ _ _ _ _ _ _ _ _ _ _ _ _ _ _ _ _ _ _ _ _ _ _ _ _ _ _ _ _ _ _ _ _ _ _ _ _ _ _ _ _ _ _ _ _ _ _ _ _ _ _ _ _ _ _ _ _ _ _ _ _ _ _ _ _ _ _ _ _ _ _ _ _ _ _ _ _ _ _ _ _ _ _ _ _ _ _ _ _ _ _ _ _ _ _ _ _ _ _ _ _ _ _ _ _ _ _ _ _ _ _ _ _ _ _ _ _ _ _ _ _ _ _ _ _ _ _ _ _ _ _ _ _ _ _ _ _ _ _ _ _ _ _ _ _ _ _ _ _ _ _ _ _ _ _ _ _ _ _ _ _ _ _ _ _ _ _ _ _ _ _ _ (fun y136 y137 y138 y139 y140 y141 y142 y143 y144 y145 y146 y147 y148 y149 y150 y151 y152 y153 y154 y155 y156 bl W' hW' => ?_))
 show loops2.wp Try.prog Q _ W'
 exact never_loops w W' L n S T gB gb xb gn h1 h2 h3 h4 x p v hv hv3 hx30 A3 c3 hCx ps hps hpn hlen Ar cr lo hi M hMb hval hall bl hW' (fun c a d v W h => hP c a d v W h) _ _ _ _ _ _ _ _ _ _ _ _ _ _ _ _ _ _ _ _ _ _ _ _ _ _ _ _ _ _ _ _ _ _ _ _ _ _ _ _ _ _ _ _ _ _ _ _ _ _ _ _ _ _ _ _ _ _ _ _ _ _ _ _ _ _ _ _ _ _ _ _ _ _ _ _ _ _ _ _ _ _ _ _ _ _ _ _ _ _ _ _ _ _ _ _ _ _ _ _ _ _ _ _ _ _ _ _ _ _ _ _ _ _ _ _ _ _ _ _ _ _ _ _ _ _ _ _ _ _ _ _ _ _ _ _ _ _ _ _ _ _ _ _ _ _ _ _ _ _ _ _ _ _ _ _ _ _ _ _ _ _ _ _ _ _ _ _ _ _ _ _ _ _ _ _ _ _ _ _ _ _ _ _ _ _ _ _ _ _ _ _ _ _ _ _ _ _ _ _ _ _ _ _ _ _ _ _ _ _ _ _ _ _ _ _ _ _ _ _ _ hQ
theorem TInv.mk_ {w w8 w12 : World} {L n S T gB gb xb gn : Nat} {x : S36} {p : Nat} {A3 : Option Addr} {c3 : Nat} {bl : List Nat} {ps qs : List S42} {A Ar : Option Addr} {c lo hi cr lo2 hi2 : Nat} {M : Int} (HN : NInv w w8 L n S T gB gb M bl ps A c lo hi)
  (BX : w8.heap[xb]? = some (.cells #[.int .i64 (p : Int), .int .i64 x.f1, .int .i64 x.f2, .slice A3 x.f3.length c3] 36 (0, 0))) (hmlt : ∀ k ∈ gB :: gb :: S :: T :: bl, k < xb) (hwx : w.heap.size ≤ xb) (hb12 : Below w8.heap.size w8.drew w12) (hcr : qs.length ≤ cr)
  (hFr : Kd.F k42 w12 (fun k => lo2 ≤ k ∧ k < hi2) Ar qs.length qs) (hlo2 : w8.heap.size ≤ lo2) (hhi2 : hi2 ≤ w12.heap.size) (hgx : w12.heap[gn]? = some (.cells #[.int .i64 0, .slice none 0 0] 28 (0, 0))) (hgn : w8.heap.size ≤ gn) (hgo : gn < lo2 ∨ hi2 ≤ gn) :
  TInv w ((w12.setCell ⟨gn, 0, none⟩ (.int .i64 (L : Int))).setCell ⟨gn, 1, none⟩ (.slice Ar qs.length cr)) L n S T gB gb xb gn x p A3 c3 bl (ps.map (·.f2)) (ps.map (·.f0)) qs Ar cr lo2 hi2 := by
 have hb : Below w8.heap.size w8 w12 := bS (aj (Below.refl _ _)) (Nat.le_refl _) hb12
 have HN12 := HN.later hb
 have hxlt := bn BX
 have hw8 := HN.below.size
 have hall : ∀ k ∈ gB :: gb :: xb :: S :: T :: bl, k < w8.heap.size := by
  intro k hk
  simp only [List.mem_cons] at hk hmlt
  rcases hk with rfl | rfl | rfl | hk
  ·
   have := hmlt k (by simp); omega
  ·
   have := hmlt k (by simp); omega
  ·
   exact hxlt
  ·
   have := hmlt k (by simp [hk]); omega
 have hne : ∀ k ∈ gB :: gb :: xb :: S :: T :: bl, k ≠ gn := fun k hk e => by have := hall k hk; omega
 have hmem : gn ∉ S :: T :: bl := fun hm => hne gn (by simp at hm ⊢; simp [hm]) rfl
 refine ⟨aA (aA HN12.below (by omega)) (by omega), aW (aW HN12.box (hne _ (by simp)) _) (hne _ (by simp)) _, ⟨_, aW (aW HN12.buf (hne _ (by simp)) _) (hne _ (by simp)) _⟩, aW (aW (aQ BX hb) (hne _ (by simp)) _) (hne _ (by simp)) _, ?_, hcr, (HN12.mem.far hmem _).far hmem _, ?_, ?_, ?_, ?_⟩
 ·
  have := blk_set (blk_set hgx 0 (.int .i64 (L : Int))) 1 (.slice Ar qs.length cr)
  simpa using this
 ·
  refine Kd.F_kept hFr (((Kept.refl w12 (fun k => k = gn)).setCell (.inl rfl) _).setCell (.inl rfl) _) ?_
  rintro k ⟨h1, h2⟩ rfl
  omega
 ·
  have : ((w12.setCell ⟨gn, 0, none⟩ (.int .i64 (L : Int))).setCell ⟨gn, 1, none⟩ (.slice Ar qs.length cr)).heap.size = w12.heap.size := by simp [World.setCell]
  rw [this]; exact hhi2
 ·
  intro k hk
  have key : k = gn ∨ k ∈ gB :: gb :: xb :: S :: T :: bl := by
   simp only [List.mem_cons] at hk ⊢
   rcases hk with h | h | h | h | h | h | h <;> simp [h]
  rcases key with rfl | h
  ·
   exact ⟨by omega, hgo⟩
  ·
   have h1 := hall k h
   refine ⟨?_, .inl (by omega)⟩
   simp only [List.mem_cons] at h
   rcases h with rfl | rfl | rfl | h
   ·
    exact HN.base
   ·
    exact (HN.apart k (by simp)).1
   ·
    exact hwx
   ·
    exact (HN.apart k (by simp [h])).1
 ·
  have e1 := HN.nB
  have e2 := HN.nb
  have e3 := HN.mem.nd
  have m1 := hmlt gB (by simp)
  have m2 := hmlt gb (by simp)
  have m3 : xb ∉ S :: T :: bl := fun hm => by have := hmlt xb (by simp only [List.mem_cons] at hm ⊢; simp [hm]); omega
  have n1 := hne gB (by simp)
  have n2 := hne gb (by simp)
  have n3 := hne xb (by simp)
  rw [List.nodup_cons, List.nodup_cons, List.nodup_cons, List.nodup_cons]
  simp only [List.mem_cons, not_or] at e1 e2 m3 hmem ⊢
  exact ⟨⟨e1.1, by omega, n1, e1.2⟩, ⟨by omega, n2, e2⟩, ⟨n3, m3⟩, hmem, e3⟩
def RetJ (w : World) (a : Act) (W : World) : Prop := a.defers = [] ∧ a.eval (.tmp 4) = .bool true ∧ Below w.heap.size w W
theorem never_b3 (w wr : World) (L n S T gB gb : Nat) (h1 : 1 ≤ L) (h2 : L ≤ 30) (h3 : 1 ≤ n) (h4 : n ≤ 8) (A1 : Option Addr) (c1 : Nat) (l1 : List S36) (hr1 : Kd.C k36 w A1 l1.length l1) (hl : l1.length ≤ 12) (i : Nat) (hlt2 : i < l1.length) (bl : List Nat) (ps : List S42) (A : Option Addr) (c lo hi : Nat) (hN : NInv w wr L n S T gB gb (1 + 30000000 * (i : Int)) bl ps A c lo hi)
  {Q : Exit → Act → World → Prop} (hP : ∀ c (a : Act) (d : Option Tmp) (v : Value) W, Q (.panic c) (a.put d v) W → Q (.panic c) a W) (hR : ∀ a W, RetJ w a W → Q .ret a W) (z0 z3 z4 z6 z9 z11 z12 z13 z14 z15 z16 z17 z18 z19 z20 z21 z22 z23 z24 z25 z26 z27 z28 z29 z30 z31 z32 z33 z34 z35 z36 z37 z38 z39 z40 z41 z42 z43 z44 z45 z46 z47 z48 z49 z50 z51 z52 z53 z54 z55 z56 z57 z58 z59 z60 z61 z62 z63 z64 z65 z66 z67 z68 z69 z70 z71 z72 z73 z74 z75 z76 z77 z78 z79 z80 z81 z82 z83 z84 z85 z86 z87 z88 z89 z90 z91 z92 z93 z94 z95 z96 z97 z98 z99 z100 z101 z102 z103 z104 z105 z106 z107 z108 z109 z110 z111 z112 z113 z114 z115 z116 z117 z118 z119 z120 z121 z122 z123 z124 z125 z126 z127 z128 z129 z130 z131 z132 z133 z134 z135 z136 z137 z138 z139 z140 z141 z142 z143 z144 z145 z146 z147 z148 z149 z150 z151 z152 z153 z154 z155 z156 z157 z158 z159 z160 z161 z162 z163 z164 z165 z166 z167 z168 z169 z170 z171 z172 z173 z174 z175 z176 z177 z178 z179 z180 z181 z182 z183 z184 z185 z186 z187 z188 z189 z190 z191 z192 z193 z194 z195 z196 z197 z198 z199 z200 z201 z202 z203 z204 z205 z206 z207 z208 z209 z210 z211 z212 z213 z214 z215 z216 z217 z218 z219 z220 z221 z222 z223 z224 z225 z226 z227 : Value)
  (hQ : ∀ (y4 y11 y12 y13 y14 y15 y16 y84 y85 y86 y87 y88 y89 y90 y91 y92 y93 y94 y95 y96 y97 y98 y99 y100 y101 y102 y103 y104 y105 y106 y107 y108 y109 y110 y111 y112 y113 y114 y115 y116 y117 y118 y119 y120 y121 y122 y123 y124 y125 y126 y127 y128 y129 y130 y131 y132 y133 y134 y135 y136 y137 y138 y139 y140 y141 y142 y143 y144 y145 y146 y147 y148 y149 y150 y151 y152 y153 y154 y155 y156 y157 y158 y159 y160 y161 y162 y163 y164 y165 y166 y167 y168 y169 y170 y171 y172 y173 y174 y175 y176 y177 y178 y179 y180 y181 y182 y183 y184 y185 y186 y187 y188 y189 y190 y191 y192 y193 y194 y195 y196 y197 y198 y199 y200 y201 y202 y203 y204 y205 y206 y207 y208 y209 y210 y211 y212 y213 y214 y215 y216 y217 y218 y219 y220 y221 y222 y223 y224 y225 y226 y227 : Value) (bl : List Nat) (ps : List S42) (A : Option Addr) (c lo hi : Nat) (W : World), NInv w W L n S T gB gb (1 + 30000000 * ((i + 1 : Nat) : Int)) bl ps A c lo hi → Q .normal ⟨#[z0, .slice A1 l1.length c1, .pointer (some ⟨gB, 0, none⟩), z3, y4, .pointer (some ⟨gb, 0, none⟩), z6, .slice (some ⟨S, 0, none⟩) n n, .slice (some ⟨T, 0, none⟩) n n, z9, .int .i64 (i : Int), y11, y12, y13, y14, y15, y16, z17, z18, z19, z20, z21, z22, z23, z24, z25, z26, z27, z28, z29, z30, z31, z32, z33, z34, z35, z36, z37, z38, z39, z40, z41, z42, z43, z44, z45, z46, z47, z48, z49, z50, z51, z52, z53, z54, z55, z56, z57, z58, z59, z60, z61, z62, z63, z64, z65, z66, z67, z68, z69, z70, z71, z72, z73, z74, z75, z76, z77, z78, z79, z80, z81, z82, z83, y84, y85, y86, y87, y88, y89, y90, y91, y92, y93, y94, y95, y96, y97, y98, y99, y100, y101, y102, y103, y104, y105, y106, y107, y108, y109, y110, y111, y112, y113, y114, y115, y116, y117, y118, y119, y120, y121, y122, y123, y124, y125, y126, y127, y128, y129, y130, y131, y132, y133, y134, y135, y136, y137, y138, y139, y140, y141, y142, y143, y144, y145, y146, y147, y148, y149, y150, y151, y152, y153, y154, y155, y156, y157, y158, y159, y160, y161, y162, y163, y164, y165, y166, y167, y168, y169, y170, y171, y172, y173, y174, y175, y176, y177, y178, y179, y180, y181, y182, y183, y184, y185, y186, y187, y188, y189, y190, y191, y192, y193, y194, y195, y196, y197, y198, y199, y200, y201, y202, y203, y204, y205, y206, y207, y208, y209, y210, y211, y212, y213, y214, y215, y216, y217, y218, y219, y220, y221, y222, y223, y224, y225, y226, y227], []⟩ W) :
  round2.wp Try.prog Q ⟨#[z0, .slice A1 l1.length c1, .pointer (some ⟨gB, 0, none⟩), z3, z4, .pointer (some ⟨gb, 0, none⟩), z6, .slice (some ⟨S, 0, none⟩) n n, .slice (some ⟨T, 0, none⟩) n n, z9, .int .i64 (i : Int), z11, z12, z13, z14, z15, z16, z17, z18, z19, z20, z21, z22, z23, z24, z25, z26, z27, z28, z29, z30, z31, z32, z33, z34, z35, z36, z37, z38, z39, z40, z41, z42, z43, z44, z45, z46, z47, z48, z49, z50, z51, z52, z53, z54, z55, z56, z57, z58, z59, z60, z61, z62, z63, z64, z65, z66, z67, z68, z69, z70, z71, z72, z73, z74, z75, z76, z77, z78, z79, z80, z81, z82, z83, z84, z85, z86, z87, z88, z89, z90, z91, z92, z93, z94, z95, z96, z97, z98, z99, z100, z101, z102, z103, z104, z105, z106, z107, z108, z109, z110, z111, z112, z113, z114, z115, z116, z117, z118, z119, z120, z121, z122, z123, z124, z125, z126, z127, z128, z129, z130, z131, z132, z133, z134, z135, z136, z137, z138, z139, z140, z141, z142, z143, z144, z145, z146, z147, z148, z149, z150, z151, z152, z153, z154, z155, z156, z157, z158, z159, z160, z161, z162, z163, z164, z165, z166, z167, z168, z169, z170, z171, z172, z173, z174, z175, z176, z177, z178, z179, z180, z181, z182, z183, z184, z185, z186, z187, z188, z189, z190, z191, z192, z193, z194, z195, z196, z197, z198, z199, z200, z201, z202, z203, z204, z205, z206, z207, z208, z209, z210, z211, z212, z213, z214, z215, z216, z217, z218, z219, z220, z221, z222, z223, z224, z225, z226, z227], []⟩ wr := by
 conv => arg 2; whnf
 have HQ := dH hQ
 have HR := dH hR
 have HR1 := dH hr1
 have HN := dH hN
 clear hQ hR hr1 hN
 have hmix : Try.prog.follows .mixedOrders = true := by kernel_rfl
 have hu22 := Try.underlying22
 have hu28 := Try.underlying28
 have hu36 := Try.underlying36
 obtain ⟨ad, A3, c3, eA, x0, x1, x2, x3, hlc, hCx⟩ := at_T36 HR1.out (i : Int) (by omega) (by omega)
 subst eA
 simp only [Int.toNat_natCast] at x0 x1 x2 x3
 have HCX := dH hCx
 have HLC := dH hlc
 clear hCx hlc
 obtain ⟨x, hx⟩ : ∃ x, rd_T36 l1 (i : Int) = x := ⟨_, rfl⟩
 rw [hx] at x0 x1 x2 x3 HCX HLC
 clear hx
 replace x0 := (HN.out.below.cell (dB _ _ x0)).trans x0
 replace x1 := (HN.out.below.cell (dB _ _ x1)).trans x1
 replace x2 := (HN.out.below.cell (dB _ _ x2)).trans x2
 replace x3 := (HN.out.below.cell (dB _ _ x3)).trans x3
 by_cases h30 : x.f3.length ≤ 30
 ·
  have h30' : decide ((x.f3.length : Int) > 30) = false := decide_eq_false (by omega)
  have h30'' : decide (30 < x.f3.length) = false := decide_eq_false (by omega)
  have e0 : wr.cell? ⟨gb, 0, none⟩ = some (.int .i64 (L : Int)) := (ay HN.out.buf 0).trans rfl
  have e1 : wr.cell? ⟨gb, 1, none⟩ = some (.slice A ps.length c) := (ay HN.out.buf 1).trans rfl
  have hgbl := bn HN.out.buf
  obtain ⟨e, he⟩ : ∃ e, receivedV ps.length x.f0 x.f1 x.f2 x.f3 = e := ⟨_, rfl⟩
  have HE := dH (received_ (L : Int) ps (by rw [HN.out.len]; exact h4) x.f0 x.f1 x.f2 x.f3 h30 40 (by omega))
  rw [he] at HE
  by_cases hz : e = 0
  ·
   have hz1 : (e != 0) = false := by simpa using hz
   obtain ⟨⟨hp0, hp1⟩, ht, hv, hs0, hsb⟩ := received_zero (he.trans hz)
   obtain ⟨p, hp⟩ : ∃ p : Nat, x.f0 = (p : Int) := ⟨x.f0.toNat, by omega⟩
   have hpn : p < ps.length := by omega
   obtain ⟨hrec, hval⟩ := receive_ HN.out.valid (by omega) (by omega) p hpn x.f1 x.f2 ht hv x.f3 hs0 h30 hsb 100 (by omega)
   have HVAL := dH hval
   have HALL := dH (partOf_all (ps[p]'hpn) x L h1 (1 + 30000000 * (i : Int)) (by omega) (by omega) (HN.out.valid.len _ (List.getElem_mem hpn)) (HN.out.valid.sum _ (List.getElem_mem hpn)) h30 hsb)
   have HVV := dH hv
   have HCB := dH (copyBuffers_ (L : Int) ps (by have := HN.out.len; omega) (fun q hq => by have := HN.out.valid.len q hq; omega) 100 (by omega))
   have HCI := dH (copyInts_ x.f3 (by omega))
   rw [hp] at x0 HE
   obtain ⟨qs, hqs⟩ : ∃ qs, ps.set p (newP (ps[p]'hpn) x.f1 x.f2 L x.f3) = qs := ⟨_, rfl⟩
   rw [hqs] at hrec
   have HQS := dH hqs
   have HREC := dH hrec
   clear hqs hrec hval hp hp0 hp1 he hv ht hs0 hsb
   go_upto_region 19 with (first | (go_at_call 12; with_reducible refine (downtiltref02_ReceivedErr.calls 40 (L : Int) A c ps (p : Int) x.f1 x.f2 A3 c3 x.f3 _ _ ?s1 ?s2 ?s3 ?s4 HE.out).mono ?_; (case s1 => exact Kd.bA (Kd.F_now HN.out.foot) _); (case s2 => exact HN.out.cap); (case s3 => exact Kd.bA (Kd.bF HCX.out HN.out.below) _); (case s4 => exact HLC.out); rintro e w8 ⟨rfl, hb⟩; have BX := dH (aQ (World.alloc_heap_new wr (.cells #[.int .i64 (p : Int), .int .i64 x.f1, .int .i64 x.f2, .slice A3 x.f3.length c3] 36)) hb); have hxf := dH (⟨HN.out.below.size, fun k hk => by
      rcases List.mem_cons.1 hk with rfl | hk
      ·
       exact bn HN.out.box
      ·
       rcases List.mem_cons.1 hk with rfl | hk
       ·
        exact bn HN.out.buf
       ·
        exact HN.out.mem.lt k hk⟩ : w.heap.size ≤ wr.heap.size ∧ ∀ k ∈ gB :: gb :: S :: T :: bl, k < wr.heap.size); replace HN := dH ((HN.out.later (ak (Below.refl _ _) _)).later hb); clear hb) | fail)
   rename_i K hKt
   obtain ⟨xb, hxb⟩ : ∃ g, wr.heap.size = g := ⟨_, rfl⟩
   rw [hxb] at BX hxf
   simp only [hxb]
   obtain ⟨hwx, hmlt⟩ := hxf.out
   have HWX := dH hmlt
   clear hmlt hxf
   clear x0 x1 x2 x3 e0 e1 hxb
   have hxlt := bn BX.out
   have HCELL := dH (show ∀ w' : World, Below w8.heap.size w8.drew w' → w'.cell? ⟨gb, 0, none⟩ = some (.int .i64 (L : Int)) ∧ w'.cell? ⟨gb, 1, none⟩ = some (.slice A ps.length c) ∧ w'.cell? ⟨xb, 0, none⟩ = some (.int .i64 (p : Int)) ∧ w'.cell? ⟨xb, 1, none⟩ = some (.int .i64 x.f1) ∧ w'.cell? ⟨xb, 2, none⟩ = some (.int .i64 x.f2) ∧ w'.cell? ⟨xb, 3, none⟩ = some (.slice A3 x.f3.length c3) from fun w' hS => by
    have q1 := (hS.block gb (bn HN.out.buf)).trans HN.out.buf
    have q2 := (hS.block xb (bn BX.out)).trans BX.out
    exact ⟨(ay q1 0).trans rfl, (ay q1 1).trans rfl, (ay q2 0).trans rfl, (ay q2 1).trans rfl, (ay q2 2).trans rfl, (ay q2 3).trans rfl⟩)
   refine b_ (n := 19) (S := fun w' => Below w8.heap.size w8.drew w') (ds := []) (dG 19 0) hmix rfl rfl (Below.refl _ _) (fun hHeld => ?_)
   refine bK (i := 0) (N := some 99) (v := ?_) (a' := ?_) (dG 19 1) rfl rfl (by kernel_rfl) (fun _ _ _ h => hP _ _ _ _ _ h) (Or.inl ⟨by rfl, ?_⟩) hHeld ?_ ?_
   rotate_left
   ·
    intro w' s_
    obtain ⟨s0, s1, s2, s3, s4, s5⟩ := HCELL.out w' s_
    go_simp
    with_reducible rfl
   rotate_left
   ·
    simp only [Act.put, cO, cZ, d9, aG, aH]
    rfl
   refine aV (i := 2) (N := some 101) (v := ?_) (a' := ?_) (dG 19 5) rfl rfl (by kernel_rfl) (fun _ _ _ h => hP _ _ _ _ _ h) (Or.inl ⟨by rfl, ?_⟩) ?_ ?_
   rotate_left
   ·
    intro w'
    go_simp
    with_reducible rfl
   rotate_left
   ·
    simp only [Act.put, cO, cZ, d9, aG, aH]
    rfl
   refine bK (i := 3) (N := some 102) (v := ?_) (a' := ?_) (dG 19 13) rfl rfl (by kernel_rfl) (fun _ _ _ h => hP _ _ _ _ _ h) (Or.inl ⟨by rfl, ?_⟩) hHeld ?_ ?_
   rotate_left
   ·
    intro w' s_
    obtain ⟨s0, s1, s2, s3, s4, s5⟩ := HCELL.out w' s_
    go_simp
    with_reducible rfl
   rotate_left
   ·
    simp only [Act.put, cO, cZ, d9, aG, aH]
    rfl
   refine aV (i := 4) (N := some 103) (v := ?_) (a' := ?_) (dG 19 29) rfl rfl (by kernel_rfl) (fun _ _ _ h => hP _ _ _ _ _ h) (Or.inl ⟨by rfl, ?_⟩) ?_ ?_
   rotate_left
   ·
    intro w'
    go_simp
    with_reducible rfl
   rotate_left
   ·
    simp only [Act.put, cO, cZ, d9, aG, aH]
    rfl
   refine bK (i := 5) (N := some 104) (v := ?_) (a' := ?_) (dG 19 61) rfl rfl (by kernel_rfl) (fun _ _ _ h => hP _ _ _ _ _ h) (Or.inl ⟨by rfl, ?_⟩) hHeld ?_ ?_
   rotate_left
   ·
    intro w' s_
    obtain ⟨s0, s1, s2, s3, s4, s5⟩ := HCELL.out w' s_
    go_simp
    with_reducible rfl
   rotate_left
   ·
    simp only [Act.put, cO, cZ, d9, aG, aH]
    rfl
   refine aV (i := 6) (N := some 105) (v := ?_) (a' := ?_) (dG 19 125) rfl rfl (by kernel_rfl) (fun _ _ _ h => hP _ _ _ _ _ h) (Or.inl ⟨by rfl, ?_⟩) ?_ ?_
   rotate_left
   ·
    intro w'
    go_simp
    with_reducible rfl
   rotate_left
   ·
    simp only [Act.put, cO, cZ, d9, aG, aH]
    rfl
   refine bK (i := 7) (N := some 106) (v := ?_) (a' := ?_) (dG 19 253) rfl rfl (by kernel_rfl) (fun _ _ _ h => hP _ _ _ _ _ h) (Or.inl ⟨by rfl, ?_⟩) hHeld ?_ ?_
   rotate_left
   ·
    intro w' s_
    obtain ⟨s0, s1, s2, s3, s4, s5⟩ := HCELL.out w' s_
    go_simp
    with_reducible rfl
   rotate_left
   ·
    simp only [Act.put, cO, cZ, d9, aG, aH]
    rfl
   refine aV (i := 8) (N := some 107) (v := ?_) (a' := ?_) (dG 19 509) rfl rfl (by kernel_rfl) (fun _ _ _ h => hP _ _ _ _ _ h) (Or.inl ⟨by rfl, ?_⟩) ?_ ?_
   rotate_left
   ·
    intro w'
    go_simp
    with_reducible rfl
   rotate_left
   ·
    simp only [Act.put, cO, cZ, d9, aG, aH]
    rfl
   refine bK (i := 9) (N := some 108) (v := ?_) (a' := ?_) (dG 19 1021) rfl rfl (by kernel_rfl) (fun _ _ _ h => hP _ _ _ _ _ h) (Or.inl ⟨by rfl, ?_⟩) hHeld ?_ ?_
   rotate_left
   ·
    intro w' s_
    obtain ⟨s0, s1, s2, s3, s4, s5⟩ := HCELL.out w' s_
    go_simp
    with_reducible rfl
   rotate_left
   ·
    simp only [Act.put, cO, cZ, d9, aG, aH]
    rfl
   refine join_ (σ := Value × Value × Option Addr × Nat × Nat × Nat × Nat) 2 (dG 19 131071) (fun s_ => [(100, .agg #[.int .i64 (L : Int), s_.1]), (109, s_.2.1), (110, .agg #[.int .i64 (p : Int), .int .i64 x.f1, .int .i64 x.f2, s_.2.1]), (111, .tuple #[.agg #[.int .i64 (L : Int), .slice s_.2.2.1 qs.length s_.2.2.2.1], .int .i64 0]), (98, .tuple #[.agg #[.int .i64 (L : Int), .slice s_.2.2.1 qs.length s_.2.2.2.1], .int .i64 0]), (112, .agg #[.int .i64 (L : Int), .slice s_.2.2.1 qs.length s_.2.2.2.1]), (113, .int .i64 0), (12, .pointer (some ⟨s_.2.2.2.2.1, 0, none⟩))]) (fun s_ w' => Below w8.heap.size w8.drew w' ∧ qs.length ≤ s_.2.2.2.1 ∧ Kd.F k42 w' (fun k => s_.2.2.2.2.2.1 ≤ k ∧ k < s_.2.2.2.2.2.2) s_.2.2.1 qs.length qs ∧ w8.heap.size ≤ s_.2.2.2.2.2.1 ∧ s_.2.2.2.2.2.2 ≤ w'.heap.size ∧ w'.heap[s_.2.2.2.2.1]? = some (.cells #[.int .i64 0, .slice none 0 0] 28 (0, 0)) ∧ w8.heap.size ≤ s_.2.2.2.2.1 ∧ (s_.2.2.2.2.1 < s_.2.2.2.2.2.1 ∨ s_.2.2.2.2.2.2 ≤ s_.2.2.2.2.1)) ?_ ?_
   rotate_left
   ·
    intro hCont
    refine two_ (i := 1) (j := 16) (Ni := some 100) (Nj := some 12) (dG 19 1023) (dG 19 66557) rfl rfl rfl rfl (by kernel_rfl) (by decide) (by decide) (fun K hK => ?_) (fun K hK => ?_)
    ·
     skip
     refine bQ Try.func14 (by kernel_rfl) rfl #[.agg #[.int .i64 (L : Int), .slice A ps.length c]] (by rfl) rfl rfl (by (try simp only [dh, dn, dw]); first | done | rfl | (simp [Act.eval]; done)) ?_
     with_reducible refine (downtiltref02_CopyBuffers.calls 100 (L : Int) A c ps _ _ _ ?s1 ?s2 HCB.out).mono ?_
     (case s1 => exact Kd.bF (Kd.F_now HN.out.foot) (bS (aj (Below.refl _ _)) (Nat.le_refl _) hHeld))
     (case s2 => exact HN.out.cap)
     rintro e9 w9 ⟨vc, rfl, hSc, hb⟩
     obtain ⟨Ac, cc, rfl⟩ := Kd.S_slice hSc
     refine ⟨_, rfl, ?_⟩
     have GC := dH (Kd.S_reads' hSc).2
     clear hSc
     refine hK.out _ _ (bS hHeld hHeld.size hb) (fun hHeld => ?_)
     clear hK K hb
     refine bG (a' := ?_) ?_ ?_
     rotate_left
     ·
      show Act.put _ (some 100) _ = _
      simp only [Act.put, cO, cZ, d9, aG, aH]
      rfl
     refine two_ (i := 10) (j := 16) (Ni := some 109) (Nj := some 12) (dG 19 2047) (dG 19 66559) rfl rfl rfl rfl (by kernel_rfl) (by decide) (by decide) (fun K hK => ?_) (fun K hK => ?_)
     ·
      skip
      refine bQ Try.func15 (by kernel_rfl) rfl #[.slice A3 x.f3.length c3] (by rfl) rfl rfl (by (try simp only [dh, dn, dw]); first | done | rfl | (simp [Act.eval]; done)) ?_
      with_reducible refine (downtiltbase_CopyInts.calls A3 c3 x.f3 _ _ ?s1 ?s2 HCI.out).mono ?_
      (case s1 => exact Kd.bF (Kd.bF HCX.out HN.out.below) (bS (aj (Below.refl _ _)) (Nat.le_refl _) hHeld))
      (case s2 => exact HLC.out)
      rintro e10 w10 ⟨vd, rfl, hSc, hb⟩
      obtain ⟨Ad, cd, rfl⟩ := Kd.bN hSc
      refine ⟨_, rfl, ?_⟩
      replace GC := dH (⟨GC.out.1, Kd.bF GC.out.2 hb⟩ : _ ∧ _)
      have GD := dH (Kd.aZ hSc).2
      clear hSc
      refine hK.out _ _ (bS hHeld hHeld.size hb) (fun hHeld => ?_)
      clear hK K hb
      refine bG (a' := ?_) ?_ ?_
      rotate_left
      ·
       show Act.put _ (some 109) _ = _
       simp only [Act.put, cO, cZ, d9, aG, aH]
       rfl
      refine aV (i := 11) (N := some 110) (v := ?_) (a' := ?_) (dG 19 4095) rfl rfl (by kernel_rfl) (fun _ _ _ h => hP _ _ _ _ _ h) (Or.inl ⟨by rfl, ?_⟩) ?_ ?_
      rotate_left
      ·
       intro w'
       go_simp
       with_reducible rfl
      rotate_left
      ·
       simp only [Act.put, cO, cZ, d9, aG, aH]
       rfl
      refine two_ (i := 12) (j := 16) (Ni := some 111) (Nj := some 12) (dG 19 8191) (dG 19 69631) rfl rfl rfl rfl (by kernel_rfl) (by decide) (by decide) (fun K hK => ?_) (fun K hK => ?_)
      ·
       skip
       refine bQ Try.func13 (by kernel_rfl) rfl #[.agg #[.int .i64 (L : Int), .slice Ac ps.length cc], .agg #[.int .i64 (p : Int), .int .i64 x.f1, .int .i64 x.f2, .slice Ad x.f3.length cd]] (by rfl) rfl rfl (by (try simp only [dh, dn, dw]); first | done | rfl | (simp [Act.eval]; done)) ?_
       with_reducible refine (code_Receive.calls 100 (L : Int) Ac cc ps (p : Int) x.f1 x.f2 Ad cd x.f3 _ _ _ _ ?s1 ?s2 ?s3 ?s4 HREC.out).mono ?_
       (case s1 => exact GC.out.2)
       (case s2 => exact GC.out.1)
       (case s3 => exact GD.out.2)
       (case s4 => exact GD.out.1)
       rintro e11 w11 ⟨vr, rfl, hSc, hb⟩
       obtain ⟨Ar, cr, rfl⟩ := Kd.S_slice hSc
       obtain ⟨_, hcr, hFr⟩ := F_of_S hSc
       obtain ⟨lo2, hlo2⟩ : ∃ g, (w10).heap.size = g := ⟨_, rfl⟩
       obtain ⟨hi2, hhi2⟩ : ∃ g, w11.heap.size = g := ⟨_, rfl⟩
       rw [hlo2, hhi2] at hFr
       have GR := dH (⟨hcr, hFr, hlo2 ▸ hHeld.size, Nat.le_of_eq hhi2.symm⟩ : _ ∧ _ ∧ _ ∧ _)
       clear hcr hFr hlo2 hhi2
       refine ⟨_, rfl, ?_⟩
       replace GC := dH (⟨GC.out.1, Kd.bF GC.out.2 hb⟩ : _ ∧ _)
       replace GD := dH (⟨GD.out.1, Kd.bF GD.out.2 hb⟩ : _ ∧ _)
       clear hSc
       refine hK.out _ _ (bS hHeld hHeld.size hb) (fun hHeld => ?_)
       clear hK K hb
       refine bG (a' := ?_) ?_ ?_
       rotate_left
       ·
        show Act.put _ (some 111) _ = _
        simp only [Act.put, cO, cZ, d9, aG, aH]
        rfl
       refine aV (i := 13) (N := some 98) (v := ?_) (a' := ?_) (dG 19 16383) rfl rfl (by kernel_rfl) (fun _ _ _ h => hP _ _ _ _ _ h) (Or.inl ⟨by rfl, ?_⟩) ?_ ?_
       rotate_left
       ·
        intro w'
        go_simp
        with_reducible rfl
       rotate_left
       ·
        simp only [Act.put, cO, cZ, d9, aG, aH]
        rfl
       refine aV (i := 14) (N := some 112) (v := ?_) (a' := ?_) (dG 19 32767) rfl rfl (by kernel_rfl) (fun _ _ _ h => hP _ _ _ _ _ h) (Or.inl ⟨by rfl, ?_⟩) ?_ ?_
       rotate_left
       ·
        intro w'
        go_simp
        with_reducible rfl
       rotate_left
       ·
        simp only [Act.put, cO, cZ, d9, aG, aH]
        rfl
       refine aV (i := 15) (N := some 113) (v := ?_) (a' := ?_) (dG 19 65535) rfl rfl (by kernel_rfl) (fun _ _ _ h => hP _ _ _ _ _ h) (Or.inl ⟨by rfl, ?_⟩) ?_ ?_
       rotate_left
       ·
        intro w'
        go_simp
        with_reducible rfl
       rotate_left
       ·
        simp only [Act.put, cO, cZ, d9, aG, aH]
        rfl
       refine bR (i := 16) (N := some 12) (dG 19 131071) rfl rfl (by kernel_rfl) (by decide) (fun K hK => ?_)
       refine box_step ?hg (N := 12) ?hd (cs := #[.int .i64 0, .slice none 0 0]) (t := 28) ?hr ?_; (case hd => rfl); (case hg => rfl); (case hr => first | (go_simp; done) | (go_simp; rfl))
       intro gn hgn wx hbox hb
       have GO := dH (Or.inr (by rw [hgn]; exact GR.out.2.2.2) : gn < lo2 ∨ hi2 ≤ gn)
       replace GC := dH (⟨GC.out.1, Kd.bF GC.out.2 hb⟩ : _ ∧ _)
       replace GD := dH (⟨GD.out.1, Kd.bF GD.out.2 hb⟩ : _ ∧ _)
       replace GR := dH (⟨GR.out.1, Kd.F_below GR.out.2.1 hb, GR.out.2.2.1, Nat.le_trans GR.out.2.2.2 hb.size⟩ : _ ∧ _ ∧ _ ∧ _)
       have GX := dH (⟨hbox, by rw [hgn]; exact hHeld.size⟩ : _ ∧ w8.heap.size ≤ gn)
       clear hbox hgn
       refine hK.out _ _ (bS hHeld hHeld.size hb) (fun hHeld => ?_)
       clear hK K hb
       refine bG (a' := ?_) ?_ ?_
       rotate_left
       ·
        show Act.put _ (some 12) _ = _
        simp only [Act.put, cO, cZ, d9, aG, aH]
        rfl
       refine bG ?_ (hCont (.slice Ac ps.length cc, .slice Ad x.f3.length cd, Ar, cr, gn, lo2, hi2) _ ⟨hHeld, GR.out.1, GR.out.2.1, GR.out.2.2.1, GR.out.2.2.2, GX.out.1, GX.out.2, GO.out⟩)
       simp only [putAll, Act.put, cO, cZ, d9] <;> rfl
      ·
       skip
       refine box_step ?hg (N := 12) ?hd (cs := #[.int .i64 0, .slice none 0 0]) (t := 28) ?hr ?_; (case hd => rfl); (case hg => rfl); (case hr => first | (go_simp; done) | (go_simp; rfl))
       intro gn hgn wx hbox hb
       replace GC := dH (⟨GC.out.1, Kd.bF GC.out.2 hb⟩ : _ ∧ _)
       replace GD := dH (⟨GD.out.1, Kd.bF GD.out.2 hb⟩ : _ ∧ _)
       have GX := dH (⟨hbox, by rw [hgn]; exact hHeld.size⟩ : _ ∧ w8.heap.size ≤ gn)
       clear hbox hgn
       refine hK.out _ _ (bS hHeld hHeld.size hb) (fun hHeld => ?_)
       clear hK K hb
       refine bG (a' := ?_) ?_ ?_
       rotate_left
       ·
        show Act.put _ (some 12) _ = _
        simp only [Act.put, cO, cZ, d9, aG, aH]
        rfl
       refine bR (i := 12) (N := some 111) (dG 19 73727) rfl rfl (by kernel_rfl) (by decide) (fun K hK => ?_)
       refine bQ Try.func13 (by kernel_rfl) rfl #[.agg #[.int .i64 (L : Int), .slice Ac ps.length cc], .agg #[.int .i64 (p : Int), .int .i64 x.f1, .int .i64 x.f2, .slice Ad x.f3.length cd]] (by rfl) rfl rfl (by (try simp only [dh, dn, dw]); first | done | rfl | (simp [Act.eval]; done)) ?_
       with_reducible refine (code_Receive.calls 100 (L : Int) Ac cc ps (p : Int) x.f1 x.f2 Ad cd x.f3 _ _ _ _ ?s1 ?s2 ?s3 ?s4 HREC.out).mono ?_
       (case s1 => exact GC.out.2)
       (case s2 => exact GC.out.1)
       (case s3 => exact GD.out.2)
       (case s4 => exact GD.out.1)
       rintro e11 w11 ⟨vr, rfl, hSc, hb⟩
       obtain ⟨Ar, cr, rfl⟩ := Kd.S_slice hSc
       obtain ⟨_, hcr, hFr⟩ := F_of_S hSc
       obtain ⟨lo2, hlo2⟩ : ∃ g, (wx).heap.size = g := ⟨_, rfl⟩
       obtain ⟨hi2, hhi2⟩ : ∃ g, w11.heap.size = g := ⟨_, rfl⟩
       rw [hlo2, hhi2] at hFr
       have GR := dH (⟨hcr, hFr, hlo2 ▸ hHeld.size, Nat.le_of_eq hhi2.symm⟩ : _ ∧ _ ∧ _ ∧ _)
       have GO := dH (Or.inl (hlo2 ▸ bn GX.out.1) : gn < lo2 ∨ hi2 ≤ gn)
       clear hcr hFr hlo2 hhi2
       refine ⟨_, rfl, ?_⟩
       replace GC := dH (⟨GC.out.1, Kd.bF GC.out.2 hb⟩ : _ ∧ _)
       replace GD := dH (⟨GD.out.1, Kd.bF GD.out.2 hb⟩ : _ ∧ _)
       replace GX := dH (⟨aQ GX.out.1 hb, GX.out.2⟩ : _ ∧ _)
       clear hSc
       refine hK.out _ _ (bS hHeld hHeld.size hb) (fun hHeld => ?_)
       clear hK K hb
       refine bG (a' := ?_) ?_ ?_
       rotate_left
       ·
        show Act.put _ (some 111) _ = _
        simp only [Act.put, cO, cZ, d9, aG, aH]
        rfl
       refine aV (i := 13) (N := some 98) (v := ?_) (a' := ?_) (dG 19 81919) rfl rfl (by kernel_rfl) (fun _ _ _ h => hP _ _ _ _ _ h) (Or.inl ⟨by rfl, ?_⟩) ?_ ?_
       rotate_left
       ·
        intro w'
        go_simp
        with_reducible rfl
       rotate_left
       ·
        simp only [Act.put, cO, cZ, d9, aG, aH]
        rfl
       refine aV (i := 14) (N := some 112) (v := ?_) (a' := ?_) (dG 19 98303) rfl rfl (by kernel_rfl) (fun _ _ _ h => hP _ _ _ _ _ h) (Or.inl ⟨by rfl, ?_⟩) ?_ ?_
       rotate_left
       ·
        intro w'
        go_simp
        with_reducible rfl
       rotate_left
       ·
        simp only [Act.put, cO, cZ, d9, aG, aH]
        rfl
       refine aV (i := 15) (N := some 113) (v := ?_) (a' := ?_) (dG 19 131071) rfl rfl (by kernel_rfl) (fun _ _ _ h => hP _ _ _ _ _ h) (Or.inl ⟨by rfl, ?_⟩) ?_ ?_
       rotate_left
       ·
        intro w'
        go_simp
        with_reducible rfl
       rotate_left
       ·
        simp only [Act.put, cO, cZ, d9, aG, aH]
        rfl
       refine bG ?_ (hCont (.slice Ac ps.length cc, .slice Ad x.f3.length cd, Ar, cr, gn, lo2, hi2) _ ⟨hHeld, GR.out.1, GR.out.2.1, GR.out.2.2.1, GR.out.2.2.2, GX.out.1, GX.out.2, GO.out⟩)
       simp only [putAll, Act.put, cO, cZ, d9] <;> rfl
     ·
      skip
      refine box_step ?hg (N := 12) ?hd (cs := #[.int .i64 0, .slice none 0 0]) (t := 28) ?hr ?_; (case hd => rfl); (case hg => rfl); (case hr => first | (go_simp; done) | (go_simp; rfl))
      intro gn hgn wx hbox hb
      replace GC := dH (⟨GC.out.1, Kd.bF GC.out.2 hb⟩ : _ ∧ _)
      have GX := dH (⟨hbox, by rw [hgn]; exact hHeld.size⟩ : _ ∧ w8.heap.size ≤ gn)
      clear hbox hgn
      refine hK.out _ _ (bS hHeld hHeld.size hb) (fun hHeld => ?_)
      clear hK K hb
      refine bG (a' := ?_) ?_ ?_
      rotate_left
      ·
       show Act.put _ (some 12) _ = _
       simp only [Act.put, cO, cZ, d9, aG, aH]
       rfl
      refine bR (i := 10) (N := some 109) (dG 19 67583) rfl rfl (by kernel_rfl) (by decide) (fun K hK => ?_)
      refine bQ Try.func15 (by kernel_rfl) rfl #[.slice A3 x.f3.length c3] (by rfl) rfl rfl (by (try simp only [dh, dn, dw]); first | done | rfl | (simp [Act.eval]; done)) ?_
      with_reducible refine (downtiltbase_CopyInts.calls A3 c3 x.f3 _ _ ?s1 ?s2 HCI.out).mono ?_
      (case s1 => exact Kd.bF (Kd.bF HCX.out HN.out.below) (bS (aj (Below.refl _ _)) (Nat.le_refl _) hHeld))
      (case s2 => exact HLC.out)
      rintro e10 w10 ⟨vd, rfl, hSc, hb⟩
      obtain ⟨Ad, cd, rfl⟩ := Kd.bN hSc
      refine ⟨_, rfl, ?_⟩
      replace GC := dH (⟨GC.out.1, Kd.bF GC.out.2 hb⟩ : _ ∧ _)
      replace GX := dH (⟨aQ GX.out.1 hb, GX.out.2⟩ : _ ∧ _)
      have GD := dH (Kd.aZ hSc).2
      clear hSc
      refine hK.out _ _ (bS hHeld hHeld.size hb) (fun hHeld => ?_)
      clear hK K hb
      refine bG (a' := ?_) ?_ ?_
      rotate_left
      ·
       show Act.put _ (some 109) _ = _
       simp only [Act.put, cO, cZ, d9, aG, aH]
       rfl
      refine aV (i := 11) (N := some 110) (v := ?_) (a' := ?_) (dG 19 69631) rfl rfl (by kernel_rfl) (fun _ _ _ h => hP _ _ _ _ _ h) (Or.inl ⟨by rfl, ?_⟩) ?_ ?_
      rotate_left
      ·
       intro w'
       go_simp
       with_reducible rfl
      rotate_left
      ·
       simp only [Act.put, cO, cZ, d9, aG, aH]
       rfl
      refine bR (i := 12) (N := some 111) (dG 19 73727) rfl rfl (by kernel_rfl) (by decide) (fun K hK => ?_)
      refine bQ Try.func13 (by kernel_rfl) rfl #[.agg #[.int .i64 (L : Int), .slice Ac ps.length cc], .agg #[.int .i64 (p : Int), .int .i64 x.f1, .int .i64 x.f2, .slice Ad x.f3.length cd]] (by rfl) rfl rfl (by (try simp only [dh, dn, dw]); first | done | rfl | (simp [Act.eval]; done)) ?_
      with_reducible refine (code_Receive.calls 100 (L : Int) Ac cc ps (p : Int) x.f1 x.f2 Ad cd x.f3 _ _ _ _ ?s1 ?s2 ?s3 ?s4 HREC.out).mono ?_
      (case s1 => exact GC.out.2)
      (case s2 => exact GC.out.1)
      (case s3 => exact GD.out.2)
      (case s4 => exact GD.out.1)
      rintro e11 w11 ⟨vr, rfl, hSc, hb⟩
      obtain ⟨Ar, cr, rfl⟩ := Kd.S_slice hSc
      obtain ⟨_, hcr, hFr⟩ := F_of_S hSc
      obtain ⟨lo2, hlo2⟩ : ∃ g, (w10).heap.size = g := ⟨_, rfl⟩
      obtain ⟨hi2, hhi2⟩ : ∃ g, w11.heap.size = g := ⟨_, rfl⟩
      rw [hlo2, hhi2] at hFr
      have GR := dH (⟨hcr, hFr, hlo2 ▸ hHeld.size, Nat.le_of_eq hhi2.symm⟩ : _ ∧ _ ∧ _ ∧ _)
      have GO := dH (Or.inl (hlo2 ▸ bn GX.out.1) : gn < lo2 ∨ hi2 ≤ gn)
      clear hcr hFr hlo2 hhi2
      refine ⟨_, rfl, ?_⟩
      replace GC := dH (⟨GC.out.1, Kd.bF GC.out.2 hb⟩ : _ ∧ _)
      replace GD := dH (⟨GD.out.1, Kd.bF GD.out.2 hb⟩ : _ ∧ _)
      replace GX := dH (⟨aQ GX.out.1 hb, GX.out.2⟩ : _ ∧ _)
      clear hSc
      refine hK.out _ _ (bS hHeld hHeld.size hb) (fun hHeld => ?_)
      clear hK K hb
      refine bG (a' := ?_) ?_ ?_
      rotate_left
      ·
       show Act.put _ (some 111) _ = _
       simp only [Act.put, cO, cZ, d9, aG, aH]
       rfl
      refine aV (i := 13) (N := some 98) (v := ?_) (a' := ?_) (dG 19 81919) rfl rfl (by kernel_rfl) (fun _ _ _ h => hP _ _ _ _ _ h) (Or.inl ⟨by rfl, ?_⟩) ?_ ?_
      rotate_left
      ·
       intro w'
       go_simp
       with_reducible rfl
      rotate_left
      ·
       simp only [Act.put, cO, cZ, d9, aG, aH]
       rfl
      refine aV (i := 14) (N := some 112) (v := ?_) (a' := ?_) (dG 19 98303) rfl rfl (by kernel_rfl) (fun _ _ _ h => hP _ _ _ _ _ h) (Or.inl ⟨by rfl, ?_⟩) ?_ ?_
      rotate_left
      ·
       intro w'
       go_simp
       with_reducible rfl
      rotate_left
      ·
       simp only [Act.put, cO, cZ, d9, aG, aH]
       rfl
      refine aV (i := 15) (N := some 113) (v := ?_) (a' := ?_) (dG 19 131071) rfl rfl (by kernel_rfl) (fun _ _ _ h => hP _ _ _ _ _ h) (Or.inl ⟨by rfl, ?_⟩) ?_ ?_
      rotate_left
      ·
       intro w'
       go_simp
       with_reducible rfl
      rotate_left
      ·
       simp only [Act.put, cO, cZ, d9, aG, aH]
       rfl
      refine bG ?_ (hCont (.slice Ac ps.length cc, .slice Ad x.f3.length cd, Ar, cr, gn, lo2, hi2) _ ⟨hHeld, GR.out.1, GR.out.2.1, GR.out.2.2.1, GR.out.2.2.2, GX.out.1, GX.out.2, GO.out⟩)
      simp only [putAll, Act.put, cO, cZ, d9] <;> rfl
    ·
     skip
     refine box_step ?hg (N := 12) ?hd (cs := #[.int .i64 0, .slice none 0 0]) (t := 28) ?hr ?_; (case hd => rfl); (case hg => rfl); (case hr => first | (go_simp; done) | (go_simp; rfl))
     intro gn hgn wx hbox hb
     have GX := dH (⟨hbox, by rw [hgn]; exact hHeld.size⟩ : _ ∧ w8.heap.size ≤ gn)
     clear hbox hgn
     refine hK.out _ _ (bS hHeld hHeld.size hb) (fun hHeld => ?_)
     clear hK K hb
     refine bG (a' := ?_) ?_ ?_
     rotate_left
     ·
      show Act.put _ (some 12) _ = _
      simp only [Act.put, cO, cZ, d9, aG, aH]
      rfl
     refine bR (i := 1) (N := some 100) (dG 19 66559) rfl rfl (by kernel_rfl) (by decide) (fun K hK => ?_)
     refine bQ Try.func14 (by kernel_rfl) rfl #[.agg #[.int .i64 (L : Int), .slice A ps.length c]] (by rfl) rfl rfl (by (try simp only [dh, dn, dw]); first | done | rfl | (simp [Act.eval]; done)) ?_
     with_reducible refine (downtiltref02_CopyBuffers.calls 100 (L : Int) A c ps _ _ _ ?s1 ?s2 HCB.out).mono ?_
     (case s1 => exact Kd.bF (Kd.F_now HN.out.foot) (bS (aj (Below.refl _ _)) (Nat.le_refl _) hHeld))
     (case s2 => exact HN.out.cap)
     rintro e9 w9 ⟨vc, rfl, hSc, hb⟩
     obtain ⟨Ac, cc, rfl⟩ := Kd.S_slice hSc
     refine ⟨_, rfl, ?_⟩
     replace GX := dH (⟨aQ GX.out.1 hb, GX.out.2⟩ : _ ∧ _)
     have GC := dH (Kd.S_reads' hSc).2
     clear hSc
     refine hK.out _ _ (bS hHeld hHeld.size hb) (fun hHeld => ?_)
     clear hK K hb
     refine bG (a' := ?_) ?_ ?_
     rotate_left
     ·
      show Act.put _ (some 100) _ = _
      simp only [Act.put, cO, cZ, d9, aG, aH]
      rfl
     refine bR (i := 10) (N := some 109) (dG 19 67583) rfl rfl (by kernel_rfl) (by decide) (fun K hK => ?_)
     refine bQ Try.func15 (by kernel_rfl) rfl #[.slice A3 x.f3.length c3] (by rfl) rfl rfl (by (try simp only [dh, dn, dw]); first | done | rfl | (simp [Act.eval]; done)) ?_
     with_reducible refine (downtiltbase_CopyInts.calls A3 c3 x.f3 _ _ ?s1 ?s2 HCI.out).mono ?_
     (case s1 => exact Kd.bF (Kd.bF HCX.out HN.out.below) (bS (aj (Below.refl _ _)) (Nat.le_refl _) hHeld))
     (case s2 => exact HLC.out)
     rintro e10 w10 ⟨vd, rfl, hSc, hb⟩
     obtain ⟨Ad, cd, rfl⟩ := Kd.bN hSc
     refine ⟨_, rfl, ?_⟩
     replace GC := dH (⟨GC.out.1, Kd.bF GC.out.2 hb⟩ : _ ∧ _)
     replace GX := dH (⟨aQ GX.out.1 hb, GX.out.2⟩ : _ ∧ _)
     have GD := dH (Kd.aZ hSc).2
     clear hSc
     refine hK.out _ _ (bS hHeld hHeld.size hb) (fun hHeld => ?_)
     clear hK K hb
     refine bG (a' := ?_) ?_ ?_
     rotate_left
     ·
      show Act.put _ (some 109) _ = _
      simp only [Act.put, cO, cZ, d9, aG, aH]
      rfl
     refine aV (i := 11) (N := some 110) (v := ?_) (a' := ?_) (dG 19 69631) rfl rfl (by kernel_rfl) (fun _ _ _ h => hP _ _ _ _ _ h) (Or.inl ⟨by rfl, ?_⟩) ?_ ?_
     rotate_left
     ·
      intro w'
      go_simp
      with_reducible rfl
     rotate_left
     ·
      simp only [Act.put, cO, cZ, d9, aG, aH]
      rfl
     refine bR (i := 12) (N := some 111) (dG 19 73727) rfl rfl (by kernel_rfl) (by decide) (fun K hK => ?_)
     refine bQ Try.func13 (by kernel_rfl) rfl #[.agg #[.int .i64 (L : Int), .slice Ac ps.length cc], .agg #[.int .i64 (p : Int), .int .i64 x.f1, .int .i64 x.f2, .slice Ad x.f3.length cd]] (by rfl) rfl rfl (by (try simp only [dh, dn, dw]); first | done | rfl | (simp [Act.eval]; done)) ?_
     with_reducible refine (code_Receive.calls 100 (L : Int) Ac cc ps (p : Int) x.f1 x.f2 Ad cd x.f3 _ _ _ _ ?s1 ?s2 ?s3 ?s4 HREC.out).mono ?_
     (case s1 => exact GC.out.2)
     (case s2 => exact GC.out.1)
     (case s3 => exact GD.out.2)
     (case s4 => exact GD.out.1)
     rintro e11 w11 ⟨vr, rfl, hSc, hb⟩
     obtain ⟨Ar, cr, rfl⟩ := Kd.S_slice hSc
     obtain ⟨_, hcr, hFr⟩ := F_of_S hSc
     obtain ⟨lo2, hlo2⟩ : ∃ g, (w10).heap.size = g := ⟨_, rfl⟩
     obtain ⟨hi2, hhi2⟩ : ∃ g, w11.heap.size = g := ⟨_, rfl⟩
     rw [hlo2, hhi2] at hFr
     have GR := dH (⟨hcr, hFr, hlo2 ▸ hHeld.size, Nat.le_of_eq hhi2.symm⟩ : _ ∧ _ ∧ _ ∧ _)
     have GO := dH (Or.inl (hlo2 ▸ bn GX.out.1) : gn < lo2 ∨ hi2 ≤ gn)
     clear hcr hFr hlo2 hhi2
     refine ⟨_, rfl, ?_⟩
     replace GC := dH (⟨GC.out.1, Kd.bF GC.out.2 hb⟩ : _ ∧ _)
     replace GD := dH (⟨GD.out.1, Kd.bF GD.out.2 hb⟩ : _ ∧ _)
     replace GX := dH (⟨aQ GX.out.1 hb, GX.out.2⟩ : _ ∧ _)
     clear hSc
     refine hK.out _ _ (bS hHeld hHeld.size hb) (fun hHeld => ?_)
     clear hK K hb
     refine bG (a' := ?_) ?_ ?_
     rotate_left
     ·
      show Act.put _ (some 111) _ = _
      simp only [Act.put, cO, cZ, d9, aG, aH]
      rfl
     refine aV (i := 13) (N := some 98) (v := ?_) (a' := ?_) (dG 19 81919) rfl rfl (by kernel_rfl) (fun _ _ _ h => hP _ _ _ _ _ h) (Or.inl ⟨by rfl, ?_⟩) ?_ ?_
     rotate_left
     ·
      intro w'
      go_simp
      with_reducible rfl
     rotate_left
     ·
      simp only [Act.put, cO, cZ, d9, aG, aH]
      rfl
     refine aV (i := 14) (N := some 112) (v := ?_) (a' := ?_) (dG 19 98303) rfl rfl (by kernel_rfl) (fun _ _ _ h => hP _ _ _ _ _ h) (Or.inl ⟨by rfl, ?_⟩) ?_ ?_
     rotate_left
     ·
      intro w'
      go_simp
      with_reducible rfl
     rotate_left
     ·
      simp only [Act.put, cO, cZ, d9, aG, aH]
      rfl
     refine aV (i := 15) (N := some 113) (v := ?_) (a' := ?_) (dG 19 131071) rfl rfl (by kernel_rfl) (fun _ _ _ h => hP _ _ _ _ _ h) (Or.inl ⟨by rfl, ?_⟩) ?_ ?_
     rotate_left
     ·
      intro w'
      go_simp
      with_reducible rfl
     rotate_left
     ·
      simp only [Act.put, cO, cZ, d9, aG, aH]
      rfl
     refine bG ?_ (hCont (.slice Ac ps.length cc, .slice Ad x.f3.length cd, Ar, cr, gn, lo2, hi2) _ ⟨hHeld, GR.out.1, GR.out.2.1, GR.out.2.2.1, GR.out.2.2.2, GX.out.1, GX.out.2, GO.out⟩)
     simp only [putAll, Act.put, cO, cZ, d9] <;> rfl
   rintro ⟨vc, vd, Ar, cr, gn, lo2, hi2⟩ w12 ⟨hb12, hcr, hFr, hlo2, hhi2, hgx, hgn, hgo⟩
   refine bG (a' := ?_) ?_ ?_
   rotate_left
   ·
    simp only [putAll, Act.put, cO, cZ, d9]
    rfl
   have g0 : w12.cell? ⟨gn, 0, none⟩ = some (.int .i64 0) := (ay hgx 0).trans rfl
   have g1 : w12.cell? ⟨gn, 1, none⟩ = some (.slice none 0 0) := (ay hgx 1).trans rfl
   have f0 := aD hgx 0
   have f1 := aD hgx 1
   refine bR (i := 17) (N := none) (dG 19 262143) rfl rfl (by kernel_rfl) (by decide) (fun K' hK => ?_)
   refine skip_ (w1 := (w12.setCell ⟨gn, 0, none⟩ (.int .i64 (L : Int))).setCell ⟨gn, 1, none⟩ (.slice Ar qs.length cr)) (by rfl) rfl ?_ ?_
   ·
    go_simp
   refine hK.out _ _ ((hb12.setCell hgn _).setCell hgn _) (fun hHeld => ?_)
   clear hK K'
   refine aV (i := 18) (N := some 13) (v := ?_) (a' := ?_) (dG 19 524287) rfl rfl (by kernel_rfl) (fun _ _ _ h => hP _ _ _ _ _ h) (Or.inl ⟨by rfl, ?_⟩) ?_ ?_
   rotate_left
   ·
    intro w'
    go_simp
    with_reducible rfl
   rotate_left
   ·
    simp only [Act.put, cO, cZ, d9, aG, aH]
    rfl
   refine done_ (by kernel_rfl) ?_
   show K _ _
   refine hKt _ _ ?_
   clear hKt
   obtain rfl := HQS.out
   have hM : 1 + 30000000 * (i : Int) + 30000000 = 1 + 30000000 * ((i + 1 : Nat) : Int) := by omega
   rw [hM] at HVAL
   obtain ⟨v, hv⟩ : ∃ v : Nat, x.f2 = (v : Int) := ⟨x.f2.toNat, by have := HVV.out; omega⟩
   refine never_tail w _ L n S T gB gb xb gn h1 h2 h3 h4 x p v hv (by have := HVV.out; omega) h30 A3 c3 HCX.out ps HN.out.len hpn HN.out.valid.len Ar cr lo2 hi2 _ (by omega) HVAL.out HALL.out bl (TInv.mk_ HN.out BX.out HWX.out hwx hb12 hcr hFr hlo2 hhi2 hgx hgn hgo) hP _ _ _ _ _ _ _ _ _ _ _ _ _ _ _ _ _ _ _ _ _ _ _ _ _ _ _ _ _ _ _ _ _ _ _ _ _ _ _ _ _ _ _ _ _ _ _ _ _ _ _ _ _ _ _ _ _ _ _ _ _ _ _ _ _ _ _ _ _ _ _ _ _ _ _ _ _ _ _ _ _ _ _ _ _ _ _ _ _ _ _ _ _ _ _ _ _ _ _ _ _ _ _ _ _ _ _ _ _ _ _ _ _ _ _ _ _ _ _ _ _ _ _ _ _ _ _ _ _ _ _ _ _ _ _ _ _ _ _ _ _ _ _ _ _ _ _ _ _ _ _ _ _ _ _ _ _ _ _ _ _ _ _ _ _ _ _ _ _ _ _ _ _ _ _ _ _ _ _ _ _ _ _ _ _ _ _ _ _ _ _ _ _ _ _ _ _ _ _ _ _ _ _ _ _ _ _ _ _ _ _ _ _ _ _ _ _ _ _ _ _ (fun a W hJ => ?_)
   unfold TailJ at hJ
   obtain ⟨y4, hJ⟩ := hJ
   obtain ⟨y14, hJ⟩ := hJ
   obtain ⟨y15, hJ⟩ := hJ
   obtain ⟨y16, hJ⟩ := hJ
   obtain ⟨y114, hJ⟩ := hJ
   obtain ⟨y115, hJ⟩ := hJ
   obtain ⟨y116, hJ⟩ := hJ
   obtain ⟨y117, hJ⟩ := hJ
   obtain ⟨y118, hJ⟩ := hJ
   obtain ⟨y119, hJ⟩ := hJ
   obtain ⟨y120, hJ⟩ := hJ
   obtain ⟨y121, hJ⟩ := hJ
   obtain ⟨y122, hJ⟩ := hJ
   obtain ⟨y123, hJ⟩ := hJ
   obtain ⟨y124, hJ⟩ := hJ
   obtain ⟨y125, hJ⟩ := hJ
   obtain ⟨y126, hJ⟩ := hJ
   obtain ⟨y127, hJ⟩ := hJ
   obtain ⟨y128, hJ⟩ := hJ
   obtain ⟨y129, hJ⟩ := hJ
   obtain ⟨y130, hJ⟩ := hJ
   obtain ⟨y131, hJ⟩ := hJ
   obtain ⟨y132, hJ⟩ := hJ
   obtain ⟨y133, hJ⟩ := hJ
   obtain ⟨y134, hJ⟩ := hJ
   obtain ⟨y135, hJ⟩ := hJ
   obtain ⟨y136, hJ⟩ := hJ
   obtain ⟨y137, hJ⟩ := hJ
   obtain ⟨y138, hJ⟩ := hJ
   obtain ⟨y139, hJ⟩ := hJ
   obtain ⟨y140, hJ⟩ := hJ
   obtain ⟨y141, hJ⟩ := hJ
   obtain ⟨y142, hJ⟩ := hJ
   obtain ⟨y143, hJ⟩ := hJ
   obtain ⟨y144, hJ⟩ := hJ
   obtain ⟨y145, hJ⟩ := hJ
   obtain ⟨y146, hJ⟩ := hJ
   obtain ⟨y147, hJ⟩ := hJ
   obtain ⟨y148, hJ⟩ := hJ
   obtain ⟨y149, hJ⟩ := hJ
   obtain ⟨y150, hJ⟩ := hJ
   obtain ⟨y151, hJ⟩ := hJ
   obtain ⟨y152, hJ⟩ := hJ
   obtain ⟨y153, hJ⟩ := hJ
   obtain ⟨y154, hJ⟩ := hJ
   obtain ⟨y155, hJ⟩ := hJ
   obtain ⟨y156, hJ⟩ := hJ
   obtain ⟨y157, hJ⟩ := hJ
   obtain ⟨y158, hJ⟩ := hJ
   obtain ⟨y159, hJ⟩ := hJ
   obtain ⟨y160, hJ⟩ := hJ
   obtain ⟨y161, hJ⟩ := hJ
   obtain ⟨y162, hJ⟩ := hJ
   obtain ⟨y163, hJ⟩ := hJ
   obtain ⟨y164, hJ⟩ := hJ
   obtain ⟨y165, hJ⟩ := hJ
   obtain ⟨y166, hJ⟩ := hJ
   obtain ⟨y167, hJ⟩ := hJ
   obtain ⟨y168, hJ⟩ := hJ
   obtain ⟨y169, hJ⟩ := hJ
   obtain ⟨y170, hJ⟩ := hJ
   obtain ⟨y171, hJ⟩ := hJ
   obtain ⟨y172, hJ⟩ := hJ
   obtain ⟨y173, hJ⟩ := hJ
   obtain ⟨y174, hJ⟩ := hJ
   obtain ⟨y175, hJ⟩ := hJ
   obtain ⟨y176, hJ⟩ := hJ
   obtain ⟨y177, hJ⟩ := hJ
   obtain ⟨y178, hJ⟩ := hJ
   obtain ⟨y179, hJ⟩ := hJ
   obtain ⟨y180, hJ⟩ := hJ
   obtain ⟨y181, hJ⟩ := hJ
   obtain ⟨y182, hJ⟩ := hJ
   obtain ⟨y183, hJ⟩ := hJ
   obtain ⟨y184, hJ⟩ := hJ
   obtain ⟨y185, hJ⟩ := hJ
   obtain ⟨y186, hJ⟩ := hJ
   obtain ⟨y187, hJ⟩ := hJ
   obtain ⟨y188, hJ⟩ := hJ
   obtain ⟨y189, hJ⟩ := hJ
   obtain ⟨y190, hJ⟩ := hJ
   obtain ⟨y191, hJ⟩ := hJ
   obtain ⟨y192, hJ⟩ := hJ
   obtain ⟨y193, hJ⟩ := hJ
   obtain ⟨y194, hJ⟩ := hJ
   obtain ⟨y195, hJ⟩ := hJ
   obtain ⟨y196, hJ⟩ := hJ
   obtain ⟨y197, hJ⟩ := hJ
   obtain ⟨y198, hJ⟩ := hJ
   obtain ⟨y199, hJ⟩ := hJ
   obtain ⟨y200, hJ⟩ := hJ
   obtain ⟨y201, hJ⟩ := hJ
   obtain ⟨y202, hJ⟩ := hJ
   obtain ⟨y203, hJ⟩ := hJ
   obtain ⟨y204, hJ⟩ := hJ
   obtain ⟨y205, hJ⟩ := hJ
   obtain ⟨y206, hJ⟩ := hJ
   obtain ⟨y207, hJ⟩ := hJ
   obtain ⟨y208, hJ⟩ := hJ
   obtain ⟨y209, hJ⟩ := hJ
   obtain ⟨y210, hJ⟩ := hJ
   obtain ⟨y211, hJ⟩ := hJ
   obtain ⟨y212, hJ⟩ := hJ
   obtain ⟨y213, hJ⟩ := hJ
   obtain ⟨y214, hJ⟩ := hJ
   obtain ⟨y215, hJ⟩ := hJ
   obtain ⟨y216, hJ⟩ := hJ
   obtain ⟨y217, hJ⟩ := hJ
   obtain ⟨y218, hJ⟩ := hJ
   obtain ⟨y219, hJ⟩ := hJ
   obtain ⟨y220, hJ⟩ := hJ
   obtain ⟨y221, hJ⟩ := hJ
   obtain ⟨y222, hJ⟩ := hJ
   obtain ⟨y223, hJ⟩ := hJ
   obtain ⟨y224, hJ⟩ := hJ
   obtain ⟨y225, hJ⟩ := hJ
   obtain ⟨y226, hJ⟩ := hJ
   obtain ⟨y227, hJ⟩ := hJ
   obtain ⟨⟨bl', hN'⟩, rfl⟩ := hJ
   exact HQ.out _ _ _ _ _ _ _ _ _ _ _ _ _ _ _ _ _ _ _ _ _ _ _ _ _ _ _ _ _ _ _ _ _ _ _ _ _ _ _ _ _ _ _ _ _ _ _ _ _ _ _ _ _ _ _ _ _ _ _ _ _ _ _ _ _ _ _ _ _ _ _ _ _ _ _ _ _ _ _ _ _ _ _ _ _ _ _ _ _ _ _ _ _ _ _ _ _ _ _ _ _ _ _ _ _ _ _ _ _ _ _ _ _ _ _ _ _ _ _ _ _ _ _ _ _ _ _ _ _ _ _ _ _ _ _ _ _ _ _ _ _ _ _ _ _ _ _ _ _ _ _ bl' _ _ _ _ _ W hN'
  ·
   have hz1 : (e != 0) = true := by simpa using hz
   go_wp2_with (first | (go_at_call 12; with_reducible refine (downtiltref02_ReceivedErr.calls 40 (L : Int) A c ps x.f0 x.f1 x.f2 A3 c3 x.f3 _ _ ?s1 ?s2 ?s3 ?s4 HE.out).mono ?_; (case s1 => exact Kd.bA (Kd.F_now HN.out.foot) _); (case s2 => exact HN.out.cap); (case s3 => exact Kd.bA (Kd.bF HCX.out HN.out.below) _); (case s4 => exact HLC.out); rintro e8 w8 ⟨rfl, hb⟩; replace HN := dH ((HN.out.later (ak (Below.refl _ _) _)).later hb); clear hb) | fail)
   refine HR.out _ _ ?_
   exact ⟨rfl, rfl, HN.out.below⟩
 ·
  have h30' : decide ((x.f3.length : Int) > 30) = true := decide_eq_true (by omega)
  have h30'' : decide (30 < x.f3.length) = true := decide_eq_true (by omega)
  go_wp2
  refine HR.out _ _ ?_
  exact ⟨rfl, rfl, ak HN.out.below _⟩
end Go.Proofs.Ytbjiookpiminmaa.PCode
end
section
namespace Go.Proofs.Ytbjiookpiminmaa.PCode
open Go.RowKit Go.Shelf Go.Proofs.YtbjiookpiminmaaW.PrintWords Go.Proofs.YtbjiookpiminmaaW.PrintLast Go.Proofs.YtbjiookpiminmaaW.PrintMore
noncomputable def c14 : Code := seqL (inner loop2)
noncomputable def r15 : Code := seqR (seqR (inner loop2))
theorem never_14 (A1 : Option Addr) (c1 : Nat) (l1 : List S36) (hlm : l1.length ≤ 9223372036854775807) (i : Nat) (hlt : i < l1.length) (w : World) {Q : Exit → Act → World → Prop} (z0 z2 z3 z4 z5 z6 z7 z8 z9 z11 z12 z13 z14 z15 z16 z17 z18 z19 z20 z21 z22 z23 z24 z25 z26 z27 z28 z29 z30 z31 z32 z33 z34 z35 z36 z37 z38 z39 z40 z41 z42 z43 z44 z45 z46 z47 z48 z49 z50 z51 z52 z53 z54 z55 z56 z57 z58 z59 z60 z61 z62 z63 z64 z65 z66 z67 z68 z69 z70 z71 z72 z73 z74 z75 z76 z77 z78 z79 z80 z81 z82 z83 z84 z85 z86 z87 z88 z89 z90 z91 z92 z93 z94 z95 z96 z97 z98 z99 z100 z101 z102 z103 z104 z105 z106 z107 z108 z109 z110 z111 z112 z113 z114 z115 z116 z117 z118 z119 z120 z121 z122 z123 z124 z125 z126 z127 z128 z129 z130 z131 z132 z133 z134 z135 z136 z137 z138 z139 z140 z141 z142 z143 z144 z145 z146 z147 z148 z149 z150 z151 z152 z153 z154 z155 z156 z157 z158 z159 z160 z161 z162 z163 z164 z165 z166 z167 z168 z169 z170 z171 z172 z173 z174 z175 z176 z177 z178 z179 z180 z181 z182 z183 z184 z185 z186 z187 z188 z189 z190 z191 z192 z193 z194 z195 z196 z197 z198 z199 z200 z201 z202 z203 z204 z205 z206 z207 z208 z209 z210 z211 z212 z213 z214 z215 z216 z217 z218 z219 z220 z221 z222 z223 z224 z225 z226 z227 : Value) (hQ : ∀ (y78 y79 y80 y81 : Value), Q .normal ⟨#[z0, .slice A1 l1.length c1, z2, z3, z4, z5, z6, z7, z8, z9, .int .i64 (i : Int), z11, z12, z13, z14, z15, z16, z17, z18, z19, z20, z21, z22, z23, z24, z25, z26, z27, z28, z29, z30, z31, z32, z33, z34, z35, z36, z37, z38, z39, z40, z41, z42, z43, z44, z45, z46, z47, z48, z49, z50, z51, z52, z53, z54, z55, z56, z57, z58, z59, z60, z61, z62, z63, z64, z65, z66, z67, z68, z69, z70, z71, z72, z73, z74, z75, z76, z77, y78, y79, y80, y81, z82, z83, z84, z85, z86, z87, z88, z89, z90, z91, z92, z93, z94, z95, z96, z97, z98, z99, z100, z101, z102, z103, z104, z105, z106, z107, z108, z109, z110, z111, z112, z113, z114, z115, z116, z117, z118, z119, z120, z121, z122, z123, z124, z125, z126, z127, z128, z129, z130, z131, z132, z133, z134, z135, z136, z137, z138, z139, z140, z141, z142, z143, z144, z145, z146, z147, z148, z149, z150, z151, z152, z153, z154, z155, z156, z157, z158, z159, z160, z161, z162, z163, z164, z165, z166, z167, z168, z169, z170, z171, z172, z173, z174, z175, z176, z177, z178, z179, z180, z181, z182, z183, z184, z185, z186, z187, z188, z189, z190, z191, z192, z193, z194, z195, z196, z197, z198, z199, z200, z201, z202, z203, z204, z205, z206, z207, z208, z209, z210, z211, z212, z213, z214, z215, z216, z217, z218, z219, z220, z221, z222, z223, z224, z225, z226, z227], []⟩ w) :
  c14.wp Try.prog Q ⟨#[z0, .slice A1 l1.length c1, z2, z3, z4, z5, z6, z7, z8, z9, .int .i64 (i : Int), z11, z12, z13, z14, z15, z16, z17, z18, z19, z20, z21, z22, z23, z24, z25, z26, z27, z28, z29, z30, z31, z32, z33, z34, z35, z36, z37, z38, z39, z40, z41, z42, z43, z44, z45, z46, z47, z48, z49, z50, z51, z52, z53, z54, z55, z56, z57, z58, z59, z60, z61, z62, z63, z64, z65, z66, z67, z68, z69, z70, z71, z72, z73, z74, z75, z76, z77, z78, z79, z80, z81, z82, z83, z84, z85, z86, z87, z88, z89, z90, z91, z92, z93, z94, z95, z96, z97, z98, z99, z100, z101, z102, z103, z104, z105, z106, z107, z108, z109, z110, z111, z112, z113, z114, z115, z116, z117, z118, z119, z120, z121, z122, z123, z124, z125, z126, z127, z128, z129, z130, z131, z132, z133, z134, z135, z136, z137, z138, z139, z140, z141, z142, z143, z144, z145, z146, z147, z148, z149, z150, z151, z152, z153, z154, z155, z156, z157, z158, z159, z160, z161, z162, z163, z164, z165, z166, z167, z168, z169, z170, z171, z172, z173, z174, z175, z176, z177, z178, z179, z180, z181, z182, z183, z184, z185, z186, z187, z188, z189, z190, z191, z192, z193, z194, z195, z196, z197, z198, z199, z200, z201, z202, z203, z204, z205, z206, z207, z208, z209, z210, z211, z212, z213, z214, z215, z216, z217, z218, z219, z220, z221, z222, z223, z224, z225, z226, z227], []⟩ w := by
 conv => arg 2; whnf
 have HQ := dH hQ
 clear hQ
 have hlt2' : decide ((i : Int) < (l1.length : Int)) = true := decide_eq_true (by omega)
 go_wp2
 exact HQ.out _ _ _ _
theorem never_14_end (A1 : Option Addr) (c1 : Nat) (l1 : List S36) (hlm : l1.length ≤ 9223372036854775807) (i : Nat) (hlt : ¬ i < l1.length) (w : World) {Q : Exit → Act → World → Prop} (z0 z2 z3 z4 z5 z6 z7 z8 z9 z11 z12 z13 z14 z15 z16 z17 z18 z19 z20 z21 z22 z23 z24 z25 z26 z27 z28 z29 z30 z31 z32 z33 z34 z35 z36 z37 z38 z39 z40 z41 z42 z43 z44 z45 z46 z47 z48 z49 z50 z51 z52 z53 z54 z55 z56 z57 z58 z59 z60 z61 z62 z63 z64 z65 z66 z67 z68 z69 z70 z71 z72 z73 z74 z75 z76 z77 z78 z79 z80 z81 z82 z83 z84 z85 z86 z87 z88 z89 z90 z91 z92 z93 z94 z95 z96 z97 z98 z99 z100 z101 z102 z103 z104 z105 z106 z107 z108 z109 z110 z111 z112 z113 z114 z115 z116 z117 z118 z119 z120 z121 z122 z123 z124 z125 z126 z127 z128 z129 z130 z131 z132 z133 z134 z135 z136 z137 z138 z139 z140 z141 z142 z143 z144 z145 z146 z147 z148 z149 z150 z151 z152 z153 z154 z155 z156 z157 z158 z159 z160 z161 z162 z163 z164 z165 z166 z167 z168 z169 z170 z171 z172 z173 z174 z175 z176 z177 z178 z179 z180 z181 z182 z183 z184 z185 z186 z187 z188 z189 z190 z191 z192 z193 z194 z195 z196 z197 z198 z199 z200 z201 z202 z203 z204 z205 z206 z207 z208 z209 z210 z211 z212 z213 z214 z215 z216 z217 z218 z219 z220 z221 z222 z223 z224 z225 z226 z227 : Value) (hQ : ∀ (y78 y79 y80 y81 : Value), Q (.exit 2) ⟨#[z0, .slice A1 l1.length c1, z2, z3, z4, z5, z6, z7, z8, z9, .int .i64 (i : Int), z11, z12, z13, z14, z15, z16, z17, z18, z19, z20, z21, z22, z23, z24, z25, z26, z27, z28, z29, z30, z31, z32, z33, z34, z35, z36, z37, z38, z39, z40, z41, z42, z43, z44, z45, z46, z47, z48, z49, z50, z51, z52, z53, z54, z55, z56, z57, z58, z59, z60, z61, z62, z63, z64, z65, z66, z67, z68, z69, z70, z71, z72, z73, z74, z75, z76, z77, y78, y79, y80, y81, z82, z83, z84, z85, z86, z87, z88, z89, z90, z91, z92, z93, z94, z95, z96, z97, z98, z99, z100, z101, z102, z103, z104, z105, z106, z107, z108, z109, z110, z111, z112, z113, z114, z115, z116, z117, z118, z119, z120, z121, z122, z123, z124, z125, z126, z127, z128, z129, z130, z131, z132, z133, z134, z135, z136, z137, z138, z139, z140, z141, z142, z143, z144, z145, z146, z147, z148, z149, z150, z151, z152, z153, z154, z155, z156, z157, z158, z159, z160, z161, z162, z163, z164, z165, z166, z167, z168, z169, z170, z171, z172, z173, z174, z175, z176, z177, z178, z179, z180, z181, z182, z183, z184, z185, z186, z187, z188, z189, z190, z191, z192, z193, z194, z195, z196, z197, z198, z199, z200, z201, z202, z203, z204, z205, z206, z207, z208, z209, z210, z211, z212, z213, z214, z215, z216, z217, z218, z219, z220, z221, z222, z223, z224, z225, z226, z227], []⟩ w) :
  c14.wp Try.prog Q ⟨#[z0, .slice A1 l1.length c1, z2, z3, z4, z5, z6, z7, z8, z9, .int .i64 (i : Int), z11, z12, z13, z14, z15, z16, z17, z18, z19, z20, z21, z22, z23, z24, z25, z26, z27, z28, z29, z30, z31, z32, z33, z34, z35, z36, z37, z38, z39, z40, z41, z42, z43, z44, z45, z46, z47, z48, z49, z50, z51, z52, z53, z54, z55, z56, z57, z58, z59, z60, z61, z62, z63, z64, z65, z66, z67, z68, z69, z70, z71, z72, z73, z74, z75, z76, z77, z78, z79, z80, z81, z82, z83, z84, z85, z86, z87, z88, z89, z90, z91, z92, z93, z94, z95, z96, z97, z98, z99, z100, z101, z102, z103, z104, z105, z106, z107, z108, z109, z110, z111, z112, z113, z114, z115, z116, z117, z118, z119, z120, z121, z122, z123, z124, z125, z126, z127, z128, z129, z130, z131, z132, z133, z134, z135, z136, z137, z138, z139, z140, z141, z142, z143, z144, z145, z146, z147, z148, z149, z150, z151, z152, z153, z154, z155, z156, z157, z158, z159, z160, z161, z162, z163, z164, z165, z166, z167, z168, z169, z170, z171, z172, z173, z174, z175, z176, z177, z178, z179, z180, z181, z182, z183, z184, z185, z186, z187, z188, z189, z190, z191, z192, z193, z194, z195, z196, z197, z198, z199, z200, z201, z202, z203, z204, z205, z206, z207, z208, z209, z210, z211, z212, z213, z214, z215, z216, z217, z218, z219, z220, z221, z222, z223, z224, z225, z226, z227], []⟩ w := by
 conv => arg 2; whnf
 have HQ := dH hQ
 clear hQ
 have hlt2' : decide ((i : Int) < (l1.length : Int)) = false := decide_eq_false (by omega)
 go_wp2
 exact HQ.out _ _ _ _
theorem never_15 (A1 : Option Addr) (c1 : Nat) (l1 : List S36) (hlm : l1.length ≤ 9223372036854775807) (i : Nat) (hlt : i < l1.length) (w : World) {Q : Exit → Act → World → Prop} (z0 z2 z3 z4 z5 z6 z7 z8 z9 z11 z12 z13 z14 z15 z16 z17 z18 z19 z20 z21 z22 z23 z24 z25 z26 z27 z28 z29 z30 z31 z32 z33 z34 z35 z36 z37 z38 z39 z40 z41 z42 z43 z44 z45 z46 z47 z48 z49 z50 z51 z52 z53 z54 z55 z56 z57 z58 z59 z60 z61 z62 z63 z64 z65 z66 z67 z68 z69 z70 z71 z72 z73 z74 z75 z76 z77 z78 z79 z80 z81 z82 z83 z84 z85 z86 z87 z88 z89 z90 z91 z92 z93 z94 z95 z96 z97 z98 z99 z100 z101 z102 z103 z104 z105 z106 z107 z108 z109 z110 z111 z112 z113 z114 z115 z116 z117 z118 z119 z120 z121 z122 z123 z124 z125 z126 z127 z128 z129 z130 z131 z132 z133 z134 z135 z136 z137 z138 z139 z140 z141 z142 z143 z144 z145 z146 z147 z148 z149 z150 z151 z152 z153 z154 z155 z156 z157 z158 z159 z160 z161 z162 z163 z164 z165 z166 z167 z168 z169 z170 z171 z172 z173 z174 z175 z176 z177 z178 z179 z180 z181 z182 z183 z184 z185 z186 z187 z188 z189 z190 z191 z192 z193 z194 z195 z196 z197 z198 z199 z200 z201 z202 z203 z204 z205 z206 z207 z208 z209 z210 z211 z212 z213 z214 z215 z216 z217 z218 z219 z220 z221 z222 z223 z224 z225 z226 z227 : Value) (hQ : ∀ (y82 y83 : Value), Q .normal ⟨#[z0, .slice A1 l1.length c1, z2, z3, z4, z5, z6, z7, z8, z9, .int .i64 ((i + 1 : Nat) : Int), z11, z12, z13, z14, z15, z16, z17, z18, z19, z20, z21, z22, z23, z24, z25, z26, z27, z28, z29, z30, z31, z32, z33, z34, z35, z36, z37, z38, z39, z40, z41, z42, z43, z44, z45, z46, z47, z48, z49, z50, z51, z52, z53, z54, z55, z56, z57, z58, z59, z60, z61, z62, z63, z64, z65, z66, z67, z68, z69, z70, z71, z72, z73, z74, z75, z76, z77, z78, z79, z80, z81, y82, y83, z84, z85, z86, z87, z88, z89, z90, z91, z92, z93, z94, z95, z96, z97, z98, z99, z100, z101, z102, z103, z104, z105, z106, z107, z108, z109, z110, z111, z112, z113, z114, z115, z116, z117, z118, z119, z120, z121, z122, z123, z124, z125, z126, z127, z128, z129, z130, z131, z132, z133, z134, z135, z136, z137, z138, z139, z140, z141, z142, z143, z144, z145, z146, z147, z148, z149, z150, z151, z152, z153, z154, z155, z156, z157, z158, z159, z160, z161, z162, z163, z164, z165, z166, z167, z168, z169, z170, z171, z172, z173, z174, z175, z176, z177, z178, z179, z180, z181, z182, z183, z184, z185, z186, z187, z188, z189, z190, z191, z192, z193, z194, z195, z196, z197, z198, z199, z200, z201, z202, z203, z204, z205, z206, z207, z208, z209, z210, z211, z212, z213, z214, z215, z216, z217, z218, z219, z220, z221, z222, z223, z224, z225, z226, z227], []⟩ w) :
  r15.wp Try.prog Q ⟨#[z0, .slice A1 l1.length c1, z2, z3, z4, z5, z6, z7, z8, z9, .int .i64 (i : Int), z11, z12, z13, z14, z15, z16, z17, z18, z19, z20, z21, z22, z23, z24, z25, z26, z27, z28, z29, z30, z31, z32, z33, z34, z35, z36, z37, z38, z39, z40, z41, z42, z43, z44, z45, z46, z47, z48, z49, z50, z51, z52, z53, z54, z55, z56, z57, z58, z59, z60, z61, z62, z63, z64, z65, z66, z67, z68, z69, z70, z71, z72, z73, z74, z75, z76, z77, z78, z79, z80, z81, z82, z83, z84, z85, z86, z87, z88, z89, z90, z91, z92, z93, z94, z95, z96, z97, z98, z99, z100, z101, z102, z103, z104, z105, z106, z107, z108, z109, z110, z111, z112, z113, z114, z115, z116, z117, z118, z119, z120, z121, z122, z123, z124, z125, z126, z127, z128, z129, z130, z131, z132, z133, z134, z135, z136, z137, z138, z139, z140, z141, z142, z143, z144, z145, z146, z147, z148, z149, z150, z151, z152, z153, z154, z155, z156, z157, z158, z159, z160, z161, z162, z163, z164, z165, z166, z167, z168, z169, z170, z171, z172, z173, z174, z175, z176, z177, z178, z179, z180, z181, z182, z183, z184, z185, z186, z187, z188, z189, z190, z191, z192, z193, z194, z195, z196, z197, z198, z199, z200, z201, z202, z203, z204, z205, z206, z207, z208, z209, z210, z211, z212, z213, z214, z215, z216, z217, z218, z219, z220, z221, z222, z223, z224, z225, z226, z227], []⟩ w := by
 conv => arg 2; whnf
 have HQ := dH hQ
 clear hQ
 go_wp2
 exact HQ.out _ _
theorem never_main (L n : Nat) (h1 : 1 ≤ L) (h2 : L ≤ 30) (h3 : 1 ≤ n) (h4 : n ≤ 8) (A1 : Option Addr) (c1 : Nat) (l1 : List S36) (w : World) (hr1 : Kd.C k36 w A1 l1.length l1) (hc1 : l1.length ≤ c1) (hl : l1.length ≤ 12) :
  Calls Try.prog 3 #[.agg #[.int .i64 (L : Int), .int .i64 (n : Int)], .slice A1 l1.length c1] w fun e w' => e = .returned (.bool true) ∧ Below w.heap.size w w' := by
 have HR1 := dH hr1
 have HC1 := dH hc1
 have hlm := Kd.C_max hr1
 clear hr1 hc1
 have hu22 := Try.underlying22
 have hu28 := Try.underlying28
 have hu36 := Try.underlying36
 have HAW := dH awake_
 have HW0 := dH (within_ (L : Int) 1 30)
 have HW1 := dH (within_ (n : Int) 1 8)
 rw [decide_eq_true (show (1 : Int) ≤ (L : Int) ∧ (L : Int) ≤ 30 by omega)] at HW0
 rw [decide_eq_true (show (1 : Int) ≤ (n : Int) ∧ (n : Int) ≤ 8 by omega)] at HW1
 have t12 : decide ((l1.length : Int) > 12) = false := decide_eq_false (by omega)
 have t12' : decide (12 < l1.length) = false := decide_eq_false (by omega)
 have hV := begin_valid L n h1 h2 h3 h4 1 (by omega)
 have HV := dH hV
 have HBG := dH (begin_ L n h1 h2 h3 h4 20 (by omega))
 have HBE := dH (buffers_ hV (by omega) 100 (by omega))
 have hlen : (List.replicate n (⟨-1, 0, List.replicate L 0⟩ : S42)).length = n := by simp
 clear hV
 obtain ⟨ps0, hps0⟩ : ∃ ps, ps = List.replicate n (⟨-1, 0, List.replicate L 0⟩ : S42) := ⟨_, rfl⟩
 rw [← hps0] at HV HBG HBE hlen
 have HLEN := dH hlen
 have hne : ((ps0.length : Int) != (n : Int)) = false := by rw [hlen]; simp
 clear hlen
 have HPS := dH hps0
 clear hps0
 go_enter Try.func3, Try.ntmps3
 go_wp2_with (first
  | ((with_reducible refine bg (N := 2) rfl ?_); refine bI ?hg (N := 2) ?hd (cs := #[.int .i64 (L : Int), .int .i64 (n : Int)]) (t := 22) ?hr ?_; (case hd => rfl); (case hg => rfl); (case hr => first | (go_simp; done) | (go_simp; rfl)); intro gB hgB w1 hbox hb1; have HB := dH hb1; have geB := dH (Nat.le_of_eq hgB.symm); have BB := dH hbox; clear hgB hb1 hbox)
  | (go_at_call 8; with_reducible refine (downtiltlaw02_awake.calls 60 true _ HAW.out).mono ?_; rintro e w2 ⟨rfl, hb⟩; replace HB := dH (aM HB.out hb); replace BB := dH (aQ BB.out hb); clear hb; have d0 : w2.cell? ⟨gB, 0, none⟩ = some (.int .i64 (L : Int)) := (ay BB.out 0).trans rfl)
  | (go_at_call 9; with_reducible refine (downtiltbase_Within.calls (L : Int) 1 30 true _ HW0.out).mono ?_; rintro e w3 ⟨rfl, hd⟩; have hb := hd.below; clear hd d0; replace HB := dH (aM HB.out hb); replace BB := dH (aQ BB.out hb); clear hb; have d1 : w3.cell? ⟨gB, 1, none⟩ = some (.int .i64 (n : Int)) := (ay BB.out 1).trans rfl)
  | (go_at_call 9; with_reducible refine (downtiltbase_Within.calls (n : Int) 1 8 true _ HW1.out).mono ?_; rintro e w4 ⟨rfl, hd⟩; have hb := hd.below; clear hd d1; replace HB := dH (aM HB.out hb); replace BB := dH (aQ BB.out hb); clear hb; have d0 : w4.cell? ⟨gB, 0, none⟩ = some (.int .i64 (L : Int)) := (ay BB.out 0).trans rfl; have d1 : w4.cell? ⟨gB, 1, none⟩ = some (.int .i64 (n : Int)) := (ay BB.out 1).trans rfl)
  | (go_at_call 10; with_reducible refine (code_Begin.calls 20 (L : Int) (n : Int) _ _ _ _ HBG.out).mono ?_; rintro e w5 ⟨vb, rfl, hS, hb⟩; clear d0 d1; replace HB := dH (aM HB.out hb); replace BB := dH (aQ BB.out hb); obtain ⟨Ab, cb, rfl⟩ := Kd.S_slice hS; have HF := dH (F_of_S hS); have hlo := dH hb.size; have hw5 := dH HB.out.size; clear hb hS)
  | (go_at_call 11; with_reducible refine (downtiltref02_BuffersErr.calls 100 (L : Int) Ab cb ps0 _ _ ?sideC ?sideL HBE.out).mono ?_; (case sideC => exact Kd.bA (Kd.F_now HF.out.2.2) _); (case sideL => exact HF.out.2.1); rintro e w6 ⟨rfl, hb⟩; have hbb := aQ (World.alloc_heap_new w5 (.cells #[.int .i64 (L : Int), .slice Ab ps0.length cb] 28)) hb; have gEb := dH (show w5.heap.size ≤ w5.heap.size from Nat.le_refl _); replace HB := dH (aM (ak HB.out _) hb); replace BB := dH (aQ (au BB.out _) hb); replace HF := dH (⟨HF.out.2.1, Kd.F_below (Kd.F_alloc HF.out.2.2 _) hb⟩ : _ ∧ _); have hs6 : w5.heap.size + 1 ≤ w6.heap.size := (World.size_alloc w5 _) ▸ hb.size; have d0 : w6.cell? ⟨gB, 0, none⟩ = some (.int .i64 (L : Int)) := (ay BB.out 0).trans rfl; have d1 : w6.cell? ⟨gB, 1, none⟩ = some (.int .i64 (n : Int)) := (ay BB.out 1).trans rfl; have e0 : w6.cell? ⟨w5.heap.size, 0, none⟩ = some (.int .i64 (L : Int)) := (ay hbb 0).trans rfl; have e1 : w6.cell? ⟨w5.heap.size, 1, none⟩ = some (.slice Ab ps0.length cb) := (ay hbb 1).trans rfl; have BV := dH hbb; clear hbb)
  | fail)
 have hmix : Try.prog.follows .mixedOrders = true := by kernel_rfl
 have hm33 := print_make_of (P := Try.prog) 33 34 (.slice none 0 0) 24 Try.underlying33 info34 rfl (by decide) n (by omega)
 have hm34 := print_make (P := Try.prog) 34 3 .i64 8 Try.underlying34 info3 (by decide) n (by omega)
 clear d0 e0 e1
 refine b_ (n := 8) (S := fun w' => w'.cell? ⟨gB, 1, none⟩ = some (.int .i64 (n : Int))) (ds := []) (dG 8 0) hmix rfl rfl ((cell_drew_own _ _).trans d1) (fun hHeld => ?_)
 clear d1
 refine aV (i := 0) (N := some 57) (v := ?_) (a' := ?_) (dG 8 1) rfl rfl (by kernel_rfl) (fun _ _ _ h => h) (Or.inl ⟨by rfl, ?_⟩) ?_ ?_
 rotate_left
 ·
  intro w'
  go_simp
  with_reducible rfl
 rotate_left
 ·
  simp only [Act.put, cO, cZ, d9, aG, aH]
  rfl
 refine bK (i := 1) (N := some 58) (v := ?_) (a' := ?_) (dG 8 3) rfl rfl (by kernel_rfl) (fun _ _ _ h => h) (Or.inl ⟨by rfl, ?_⟩) hHeld ?_ ?_
 rotate_left
 ·
  rintro w' s0
  go_simp
  with_reducible rfl
 rotate_left
 ·
  simp only [Act.put, cO, cZ, d9, aG, aH]
  rfl
 refine aV (i := 3) (N := some 60) (v := ?_) (a' := ?_) (dG 8 11) rfl rfl (by kernel_rfl) (fun _ _ _ h => h) (Or.inl ⟨by rfl, ?_⟩) ?_ ?_
 rotate_left
 ·
  intro w'
  go_simp
  with_reducible rfl
 rotate_left
 ·
  simp only [Act.put, cO, cZ, d9, aG, aH]
  rfl
 refine bK (i := 4) (N := some 61) (v := ?_) (a' := ?_) (dG 8 27) rfl rfl (by kernel_rfl) (fun _ _ _ h => h) (Or.inl ⟨by rfl, ?_⟩) hHeld ?_ ?_
 rotate_left
 ·
  rintro w' s0
  go_simp
  with_reducible rfl
 rotate_left
 ·
  simp only [Act.put, cO, cZ, d9, aG, aH]
  rfl
 refine join_ (σ := Nat × Nat) 1 (dG 8 127) (fun s_ => [(59, .slice (some ⟨s_.1, 0, none⟩) n n), (62, .slice (some ⟨s_.2, 0, none⟩) n n), (7, .slice (some ⟨s_.1, 0, none⟩) n n)]) (fun s_ w' => Below w6.heap.size w6 w' ∧ w'.heap[s_.1]? = some (.cells (madeCells #[.slice none 0 0] n) 34 (0, 0)) ∧ w'.heap[s_.2]? = some (.cells (madeCells #[.int .i64 0] n) 3 (0, 0)) ∧ s_.1 ≠ s_.2 ∧ w6.heap.size ≤ s_.1 ∧ w6.heap.size ≤ s_.2) ?_ ?_
 rotate_left
 ·
  intro hCont
  refine two_ (i := 2) (j := 5) (Ni := some 59) (Nj := some 62) (dG 8 31) (dG 8 59) rfl rfl rfl rfl (by kernel_rfl) (by decide) (by decide) (fun K hK => ?_) (fun K hK => ?_)
  ·
   refine value_ (w1 := w6.drew.alloc (.cells (madeCells #[.slice none 0 0] n) 34)) (v := .slice (some ⟨w6.heap.size, 0, none⟩) n n) (by rfl) rfl ?_ ?_
   ·
    go_simp
   refine hK.out _ _ (cell_alloc _ hHeld) (fun hHeld => ?_)
   clear hK K
   refine bG (a' := ?_) ?_ ?_
   rotate_left
   ·
    show Act.put _ (some 59) _ = _
    simp only [Act.put, cO, cZ, d9, aG, aH]
    rfl
   refine aV (i := 6) (N := some 7) (v := ?_) (a' := ?_) (dG 8 95) rfl rfl (by kernel_rfl) (fun _ _ _ h => h) (Or.inl ⟨by rfl, ?_⟩) ?_ ?_
   rotate_left
   ·
    intro w'
    go_simp
    with_reducible rfl
   rotate_left
   ·
    simp only [Act.put, cO, cZ, d9, aG, aH]
    rfl
   refine bR (i := 5) (N := some 62) (dG 8 127) rfl rfl (by kernel_rfl) (by decide) (fun K hK => ?_)
   refine value_ (w1 := (w6.drew.alloc (.cells (madeCells #[.slice none 0 0] n) 34)).alloc (.cells (madeCells #[.int .i64 0] n) 3)) (v := .slice (some ⟨w6.heap.size + 1, 0, none⟩) n n) (by rfl) rfl ?_ ?_
   ·
    go_simp
   refine hK.out _ _ (cell_alloc _ hHeld) (fun hHeld => ?_)
   clear hK K
   refine bG (a' := ?_) ?_ ?_
   rotate_left
   ·
    show Act.put _ (some 62) _ = _
    simp only [Act.put, cO, cZ, d9, aG, aH]
    rfl
   exact bG (by simp only [putAll, Act.put, cO, cZ, d9]) (hCont (w6.heap.size, w6.heap.size + 1) _ ⟨ak (ak (aj (Below.refl _ _)) _) _, au (World.alloc_heap_new w6.drew (.cells (madeCells #[.slice none 0 0] n) 34)) _, (by have h_ := World.alloc_heap_new (w6.drew.alloc (.cells (madeCells #[.slice none 0 0] n) 34)) (.cells (madeCells #[.int .i64 0] n) 3); rw [World.size_alloc] at h_; exact h_), by simp, Nat.le_refl _, Nat.le_succ _⟩)
  ·
   refine value_ (w1 := w6.drew.alloc (.cells (madeCells #[.int .i64 0] n) 3)) (v := .slice (some ⟨w6.heap.size, 0, none⟩) n n) (by rfl) rfl ?_ ?_
   ·
    go_simp
   refine hK.out _ _ (cell_alloc _ hHeld) (fun hHeld => ?_)
   clear hK K
   refine bG (a' := ?_) ?_ ?_
   rotate_left
   ·
    show Act.put _ (some 62) _ = _
    simp only [Act.put, cO, cZ, d9, aG, aH]
    rfl
   refine bR (i := 2) (N := some 59) (dG 8 63) rfl rfl (by kernel_rfl) (by decide) (fun K hK => ?_)
   refine value_ (w1 := (w6.drew.alloc (.cells (madeCells #[.int .i64 0] n) 3)).alloc (.cells (madeCells #[.slice none 0 0] n) 34)) (v := .slice (some ⟨w6.heap.size + 1, 0, none⟩) n n) (by rfl) rfl ?_ ?_
   ·
    go_simp
   refine hK.out _ _ (cell_alloc _ hHeld) (fun hHeld => ?_)
   clear hK K
   refine bG (a' := ?_) ?_ ?_
   rotate_left
   ·
    show Act.put _ (some 59) _ = _
    simp only [Act.put, cO, cZ, d9, aG, aH]
    rfl
   refine aV (i := 6) (N := some 7) (v := ?_) (a' := ?_) (dG 8 127) rfl rfl (by kernel_rfl) (fun _ _ _ h => h) (Or.inl ⟨by rfl, ?_⟩) ?_ ?_
   rotate_left
   ·
    intro w'
    go_simp
    with_reducible rfl
   rotate_left
   ·
    simp only [Act.put, cO, cZ, d9, aG, aH]
    rfl
   exact bG (by simp only [putAll, Act.put, cO, cZ, d9]) (hCont (w6.heap.size + 1, w6.heap.size) _ ⟨ak (ak (aj (Below.refl _ _)) _) _, (by have h_ := World.alloc_heap_new (w6.drew.alloc (.cells (madeCells #[.int .i64 0] n) 3)) (.cells (madeCells #[.slice none 0 0] n) 34); rw [World.size_alloc] at h_; exact h_), au (World.alloc_heap_new w6.drew (.cells (madeCells #[.int .i64 0] n) 3)) _, by simp, Nat.le_succ _, Nat.le_refl _⟩)
 rintro ⟨S, T⟩ w7 ⟨hb7, hS7, hT7, hST, geS, geT⟩
 clear hHeld
 refine bG (a' := ?_) ?_ ?_
 rotate_left
 ·
  simp only [putAll, Act.put, cO, cZ, d9]
  rfl
 refine aV (i := 7) (N := some 8) (v := ?_) (a' := ?_) (dG 8 255) rfl rfl (by kernel_rfl) (fun _ _ _ h => h) (Or.inl ⟨by rfl, ?_⟩) ?_ ?_
 rotate_left
 ·
  intro w'
  go_simp
  with_reducible rfl
 rotate_left
 ·
  simp only [Act.put, cO, cZ, d9, aG, aH]
  rfl
 refine done_ (by kernel_rfl) ?_
 have hgB6 := bn BB.out
 have hgb6 := bn BV.out
 replace HB := dH (aM HB.out hb7)
 replace BB := dH (aQ BB.out hb7)
 replace BV := dH (aQ BV.out hb7)
 replace HF := dH (⟨HF.out.1, Kd.F_below HF.out.2 hb7⟩ : _ ∧ _)
 have PM0 := dH (PM.start (L := L) hS7 hT7 hST)
 have KS := dH (show w.heap.size ≤ w6.heap.size from by have := HB.out.size; have := hb7.size; have := geB.out; omega)
 clear hS7 hT7 hm33 hm34
 have hm34 := print_make (P := Try.prog) 34 3 .i64 8 Try.underlying34 info3 (by decide) L (by omega)
 go_wp2
 have KW7 := dH (Kept.refl w7 (fun k => k = S ∨ k = T))
 go_loopw [9] (fun v9 wr => ∃ bl : List Nat, bl.length ≤ n ∧ v9 = .int .i64 (bl.length : Int) ∧ Aside0 (PM wr S T L n bl) ∧ Aside0 (Kept w7 wr (fun k => k = S ∨ k = T)) ∧ Aside0 (∀ k ∈ bl, w7.heap.size ≤ k) ∧ Aside0 (Below w.heap.size w wr)) (fun v9 _ => n - (intOf v9).toNat)
 case atStart => exact ⟨[], Nat.zero_le _, rfl, PM0, KW7, ⟨by simp⟩, HB⟩
 case round =>
  obtain ⟨bl, hbn, rfl, HP, HK, HBL, HBr⟩ := hrel
  have d0 : wr.cell? ⟨gB, 0, none⟩ = some (.int .i64 (L : Int)) := (ay (blk_kept BB.out HK.out (by omega)) 0).trans rfl
  have d1 : wr.cell? ⟨gB, 1, none⟩ = some (.int .i64 (n : Int)) := (ay (blk_kept BB.out HK.out (by omega)) 1).trans rfl
  by_cases hlt : bl.length < n
  ·
   have hlt' : decide ((bl.length : Int) < (n : Int)) = true := decide_eq_true (by omega)
   obtain ⟨⟨cS, fS⟩, ⟨cT, fT⟩⟩ := HP.out.cells hlt
   have hltS := HP.out.lt S (by simp)
   have hltT := HP.out.lt T (by simp)
   go_wp2
   go_roundw
   case rel =>
    refine ⟨bl ++ [wr.heap.size], by simp; omega, by simp, ⟨HP.out.round hlt⟩, ⟨?_⟩, ⟨?_⟩, ⟨?_⟩⟩
    ·
     exact ((HK.out.setCell (.inl (.inl rfl)) _).setCell (.inl (.inr rfl)) _).alloc _
    ·
     intro k hk
     rw [List.mem_append, List.mem_singleton] at hk
     rcases hk with hk | rfl
     ·
      exact HBL.out k hk
     ·
      exact HK.out.1
    ·
     exact ak (aA (aA HBr.out (by have := KS.out; omega)) (by have := KS.out; omega)) _
   case measure => simp [intOf]; omega
  ·
   have hlt' : decide ((bl.length : Int) < (n : Int)) = false := decide_eq_false (by omega)
   have hbln : bl.length = n := by omega
   have hNI : NInv w wr L n S T gB w5.heap.size 1 bl ps0 Ab cb w4.heap.size w5.heap.size := by
    have hps : ps0.map (·.f2) = List.replicate n (List.replicate L 0) ∧ ps0.map (·.f0) = List.replicate n (-1) := by rw [HPS.out]; simp
    refine ⟨HBr.out, blk_kept BB.out HK.out (by omega), blk_kept BV.out HK.out (by omega), HF.out.1, HLEN.out, HV.out, by rw [hps.1, hps.2]; exact HP.out.done hbln, Kd.F_kept HF.out.2 HK.out ?_, ?_, ?_, geB.out, ?_, ?_⟩
    ·
     rintro k ⟨_, hk⟩ (rfl | rfl) <;> omega
    ·
     have := HK.out.1
     have := hb7.size
     omega
    ·
     intro k hk
     have hbl := HBL.out
     have := hb7.size
     have := KS.out
     have := hlo.out
     have hw4 : w.heap.size ≤ w5.heap.size := hw5.out
     rcases List.mem_cons.1 hk with rfl | hk
     ·
      omega
     ·
      rcases List.mem_cons.1 hk with rfl | hk
      ·
       omega
      ·
       rcases List.mem_cons.1 hk with rfl | hk
       ·
        omega
       ·
        have := hbl k hk
        omega
    ·
     have hne1 := blk_ne BB.out BV.out (by decide)
     simp only [List.mem_cons, not_or]
     refine ⟨hne1, by omega, by omega, fun hm => ?_⟩
     have := HBL.out _ hm
     have := hb7.size
     omega
    ·
     simp only [List.mem_cons, not_or]
     refine ⟨by omega, by omega, fun hm => ?_⟩
     have := HBL.out _ hm
     have := hb7.size
     omega
   have HN := dH hNI
   clear hNI HP HK HBL HBr
   go_wp2
   clear d0 d1
   obtain ⟨gb, hgb⟩ : ∃ g, w5.heap.size = g := ⟨_, rfl⟩
   rw [hgb] at HN
   simp only [hgb]
   clear HB BB BV HF PM0 KW7 KS HPS HLEN hne hb7 HV HBE HBG geB hlo hw5 hgB6 hgb6 hs6 gEb hgb
   go_loopw [10] (fun v10 wr => ∃ (i : Nat) (bl : List Nat) (ps : List S42) (A : Option Addr) (c lo hi : Nat), i ≤ l1.length ∧ v10 = .int .i64 (i : Int) ∧ Aside0 (NInv w wr L n S T gB gb (1 + 30000000 * (i : Int)) bl ps A c lo hi)) (fun v10 _ => l1.length - (intOf v10).toNat)
   case atStart => exact ⟨0, bl, ps0, Ab, cb, _, _, Nat.zero_le _, rfl, HN⟩
   case round =>
    clear HN
    obtain ⟨i, bl, ps, A, c, lo, hi, hil, rfl, HN⟩ := hrel
    by_cases hlt2 : i < l1.length
    ·
     show (Code.seq c14 (Code.seq (Code.block 3 round2) r15)).wp Try.prog _ _ wr
     refine wp_seq (never_14 _ c1 l1 hlm i hlt2 wr _ _ _ _ _ _ _ _ _ _ _ _ _ _ _ _ _ _ _ _ _ _ _ _ _ _ _ _ _ _ _ _ _ _ _ _ _ _ _ _ _ _ _ _ _ _ _ _ _ _ _ _ _ _ _ _ _ _ _ _ _ _ _ _ _ _ _ _ _ _ _ _ _ _ _ _ _ _ _ _ _ _ _ _ _ _ _ _ _ _ _ _ _ _ _ _ _ _ _ _ _ _ _ _ _ _ _ _ _ _ _ _ _ _ _ _ _ _ _ _ _ _ _ _ _ _ _ _ _ _ _ _ _ _ _ _ _ _ _ _ _ _ _ _ _ _ _ _ _ _ _ _ _ _ _ _ _ _ _ _ _ _ _ _ _ _ _ _ _ _ _ _ _ _ _ _ _ _ _ _ _ _ _ _ _ _ _ _ _ _ _ _ _ _ _ _ _ _ _ _ _ _ _ _ _ _ _ _ _ _ _ _ _ _ _ _ _ _ _ _ _ _ _ _ _ _ (fun y78 y79 y80 y81 => ?_))
     show (Code.seq (Code.block 3 round2) r15).wp Try.prog _ _ wr
     refine wp_seq (wp_block (never_b3 w wr L n S T gB gb h1 h2 h3 h4 _ c1 l1 HR1.out hl i hlt2 bl ps A c lo hi HN.out ?hP ?hR _ _ _ _ _ _ _ _ _ _ _ _ _ _ _ _ _ _ _ _ _ _ _ _ _ _ _ _ _ _ _ _ _ _ _ _ _ _ _ _ _ _ _ _ _ _ _ _ _ _ _ _ _ _ _ _ _ _ _ _ _ _ _ _ _ _ _ _ _ _ _ _ _ _ _ _ _ _ _ _ _ _ _ _ _ _ _ _ _ _ _ _ _ _ _ _ _ _ _ _ _ _ _ _ _ _ _ _ _ _ _ _ _ _ _ _ _ _ _ _ _ _ _ _ _ _ _ _ _ _ _ _ _ _ _ _ _ _ _ _ _ _ _ _ _ _ _ _ _ _ _ _ _ _ _ _ _ _ _ _ _ _ _ _ _ _ _ _ _ _ _ _ _ _ _ _ _ _ _ _ _ _ _ _ _ _ _ _ _ _ _ _ _ _ _ _ _ _ _ _ _ _ _ _ _ _ _ _ _ _ _ _ _ _ _ _ _ _ _ _ _ _ (fun y4 y11 y12 y13 y14 y15 y16 y84 y85 y86 y87 y88 y89 y90 y91 y92 y93 y94 y95 y96 y97 y98 y99 y100 y101 y102 y103 y104 y105 y106 y107 y108 y109 y110 y111 y112 y113 y114 y115 y116 y117 y118 y119 y120 y121 y122 y123 y124 y125 y126 y127 y128 y129 y130 y131 y132 y133 y134 y135 y136 y137 y138 y139 y140 y141 y142 y143 y144 y145 y146 y147 y148 y149 y150 y151 y152 y153 y154 y155 y156 y157 y158 y159 y160 y161 y162 y163 y164 y165 y166 y167 y168 y169 y170 y171 y172 y173 y174 y175 y176 y177 y178 y179 y180 y181 y182 y183 y184 y185 y186 y187 y188 y189 y190 y191 y192 y193 y194 y195 y196 y197 y198 y199 y200 y201 y202 y203 y204 y205 y206 y207 y208 y209 y210 y211 y212 y213 y214 y215 y216 y217 y218 y219 y220 y221 y222 y223 y224 y225 y226 y227 bl ps A c lo hi W hN => ?hQ)))
     case hP => intro c a d v W h; cases d <;> exact h
     case hR =>
      intro a W hJ
      simp only [Exit.inBlock, Exit.then]
      exact bodyPost_ret (results_tmp rfl _ _ _) hJ.1 ⟨congrArg _ hJ.2.1, hJ.2.2⟩
     case hQ =>
      have HN2 := dH hN
      clear hN HN
      show r15.wp Try.prog _ _ W
      refine never_15 _ c1 l1 hlm i hlt2 W _ _ _ _ _ _ _ _ _ _ _ _ _ _ _ _ _ _ _ _ _ _ _ _ _ _ _ _ _ _ _ _ _ _ _ _ _ _ _ _ _ _ _ _ _ _ _ _ _ _ _ _ _ _ _ _ _ _ _ _ _ _ _ _ _ _ _ _ _ _ _ _ _ _ _ _ _ _ _ _ _ _ _ _ _ _ _ _ _ _ _ _ _ _ _ _ _ _ _ _ _ _ _ _ _ _ _ _ _ _ _ _ _ _ _ _ _ _ _ _ _ _ _ _ _ _ _ _ _ _ _ _ _ _ _ _ _ _ _ _ _ _ _ _ _ _ _ _ _ _ _ _ _ _ _ _ _ _ _ _ _ _ _ _ _ _ _ _ _ _ _ _ _ _ _ _ _ _ _ _ _ _ _ _ _ _ _ _ _ _ _ _ _ _ _ _ _ _ _ _ _ _ _ _ _ _ _ _ _ _ _ _ _ _ _ _ _ _ _ _ _ _ _ _ _ _ (fun y82 y83 => ?_)
      refine ⟨⟨_, _, _, _, _, _, _, _, _, _, _, _, _, _, _, _, _, _, _, _, _, _, _, _, _, _, _, _, _, _, _, _, _, _, _, _, _, _, _, _, _, _, _, _, _, _, _, _, _, _, _, _, _, _, _, _, _, _, _, _, _, _, _, _, _, _, _, _, _, _, _, _, _, _, _, _, _, _, _, _, _, _, _, _, _, _, _, _, _, _, _, _, _, _, _, _, _, _, _, _, _, _, _, _, _, _, _, _, _, _, _, _, _, _, _, _, _, _, _, _, _, _, _, _, _, _, _, _, _, _, _, _, _, _, _, _, _, _, _, _, _, _, _, _, _, _, _, _, _, _, _, _, _, _, _, _, _, _, ⟨i + 1, bl, ps, A, c, lo, hi, by omega, rfl, HN2⟩, rfl⟩, ?_⟩
      simp [intOf]
      omega
    ·
     show (Code.seq c14 (Code.seq (Code.block 3 round2) r15)).wp Try.prog _ _ wr
     refine wp_seq (never_14_end _ c1 l1 hlm i hlt2 wr _ _ _ _ _ _ _ _ _ _ _ _ _ _ _ _ _ _ _ _ _ _ _ _ _ _ _ _ _ _ _ _ _ _ _ _ _ _ _ _ _ _ _ _ _ _ _ _ _ _ _ _ _ _ _ _ _ _ _ _ _ _ _ _ _ _ _ _ _ _ _ _ _ _ _ _ _ _ _ _ _ _ _ _ _ _ _ _ _ _ _ _ _ _ _ _ _ _ _ _ _ _ _ _ _ _ _ _ _ _ _ _ _ _ _ _ _ _ _ _ _ _ _ _ _ _ _ _ _ _ _ _ _ _ _ _ _ _ _ _ _ _ _ _ _ _ _ _ _ _ _ _ _ _ _ _ _ _ _ _ _ _ _ _ _ _ _ _ _ _ _ _ _ _ _ _ _ _ _ _ _ _ _ _ _ _ _ _ _ _ _ _ _ _ _ _ _ _ _ _ _ _ _ _ _ _ _ _ _ _ _ _ _ _ _ _ _ _ _ _ _ _ _ _ _ _ (fun y78 y79 y80 y81 => ?_))
     go_wp2
     go_ret
     exact ⟨rfl, HN.out.below⟩
end Go.Proofs.Ytbjiookpiminmaa.PCode
end
section
namespace Go.Proofs.Ytbjiookpiminmaa.Opens
open Go.ChangeShapes Go.WideShapes Go.Deep Go.Proofs.YtbjiookpiminmaaW.PrintWords
structure Opn {α : Type} (P : Program) (T : TypeId) (d : Kd α) (g : α → Prop) : Prop where
 out : ∀ {H : Type} (enc : TypeId × Value → H) (w : World) (base : Nat) (spare : Nat → Bool) (held : Bool) (fuel : Nat) (cs : List Value) (x : DataW H × List MemPlace), DataW.trod enc P w base spare held fuel T cs = some x → ∃ a, d.K w a cs ∧ g a
structure OpF {α : Type} (P : Program) (fs : List (TypeId × Nat)) (off n : Nat) (d : Kd α) (g : α → Prop) : Prop where
 out : ∀ {H : Type} (enc : TypeId × Value → H) (w : World) (base : Nat) (spare : Nat → Bool) (held : Bool) (fuel : Nat) (cs : List Value), cs.length = n →
  (∀ f ∈ fs, ∃ y, DataW.trod enc P w base spare held fuel f.1 ((cs.drop f.2).take (P.cellsOf f.1)) = some y) → ∃ a, d.K w a (cs.drop off) ∧ g a
variable {P : Program} {T : TypeId}
theorem Opn.int {k : IntKind} (ht : P.underlying T = some (.int k)) : Opn P T (Kd.int k) (fun a => (Lit.int k a).wf = true) := by
 refine ⟨?_⟩
 intro H enc w base spare held fuel cs x h
 obtain ⟨n, rfl, _, hw⟩ := DataW.trod_int ht h
 exact ⟨n, rfl, hw⟩
theorem Opn.bool (ht : P.underlying T = some .bool) : Opn P T Kd.bool (fun _ => True) := by
 refine ⟨?_⟩
 intro H enc w base spare held fuel cs x h
 cases fuel with
 | zero => simp [DataW.trod] at h
 | succ m =>
  unfold DataW.trod at h
  rw [ht] at h
  split at h <;> simp_all
  cases ‹Bool› with
  | false => exact .inl rfl
  | true => exact .inr rfl
theorem Opn.slice {α : Type} {e e' : Nat} {d : Kd α} {g : α → Prop} (ht : P.underlying T = some (.slice e)) (hc : P.cellsOf e = d.sz) (he : Opn P e d g) : Opn P T (Kd.slice e' d) (fun l => ∀ x ∈ l, g x) := by
 refine ⟨?_⟩
 intro H enc w base spare held fuel cs x h
 rcases open_slice ht h with ⟨rfl, _⟩ | ⟨a, len, cap, m, n, D, Pl, rfl, hb, hl, hm, hmm, hxx, hi⟩
 ·
  exact ⟨[], ⟨none, 0, rfl, Nat.le_refl _, rfl, by simp, fun h => absurd h (by simp)⟩, by simp⟩
 ·
  have hlm : len ≤ m := by rw [hmm]; split <;> omega
  have key : ∀ i, i < len → ∃ y : α, g y ∧ ∃ c, c.length = d.sz ∧ d.K w y c ∧ ∀ j u, c[j]? = some u → w.cell? (a.add (i * d.sz + j)) = some u := by
   intro i hil
   obtain ⟨cs', h1, h2⟩ := hi i (by omega)
   rw [hc] at h1
   obtain ⟨_, hcl, hat⟩ := World.cells?_some h1
   obtain ⟨y, hy, hg⟩ := he.out _ _ _ _ _ _ _ _ h2
   refine ⟨y, hg, cs', hcl, hy, fun j u hu => ?_⟩
   have hj : j < d.sz := by rw [← hcl]; exact (List.getElem?_eq_some_iff.1 hu).1
   rw [← Go.Deep.add_add, hat j hj, hu]
  have pick : ∃ l : List α, l.length = len ∧ ∀ i y, l[i]? = some y → g y ∧ ∃ c, c.length = d.sz ∧ d.K w y c ∧ ∀ j u, c[j]? = some u → w.cell? (a.add (i * d.sz + j)) = some u := by
   clear hm hmm hl hi h hlm hxx
   induction len with
   | zero => exact ⟨[], rfl, by simp⟩
   | succ len ih =>
    obtain ⟨l, hl, hall⟩ := ih (fun i hil => key i (by omega))
    obtain ⟨y, hy⟩ := key len (by omega)
    refine ⟨l ++ [y], by simp [hl], fun i z hz => ?_⟩
    by_cases hil : i < l.length
    ·
     rw [List.getElem?_append_left hil] at hz
     exact hall i z hz
    ·
     rw [List.getElem?_append_right (by omega)] at hz
     have hi0 : i - l.length = 0 := by
      have := (List.getElem?_eq_some_iff.1 hz).1
      simp at this
      omega
     rw [hi0] at hz
     simp at hz
     subst hz
     obtain rfl : i = len := by omega
     exact hy
  obtain ⟨l, hll, hall⟩ := pick
  have hmx : maxLen = 9223372036854775807 := rfl
  refine ⟨l, ⟨some a, cap, by rw [hll], by omega, by rfl, by omega, fun _ => ⟨a, rfl, fun j p hp => (hall j p hp).2⟩⟩, fun x hx => ?_⟩
  obtain ⟨i, hi', rfl⟩ := List.getElem_of_mem hx
  exact (hall i _ (List.getElem?_eq_getElem hi')).1
theorem OpF.one {α : Type} {d : Kd α} {g : α → Prop} {f : TypeId} {off n : Nat} (hn : n = off + P.cellsOf f) (h : Opn P f d g) : OpF P [(f, off)] off n d g := by
 refine ⟨?_⟩
 intro H enc w base spare held fuel cs hl hf
 obtain ⟨y, hy⟩ := hf _ (List.mem_singleton.2 rfl)
 rw [List.take_of_length_le (by rw [dx]; simp only; omega)] at hy
 exact h.out _ _ _ _ _ _ _ _ hy
theorem OpF.cons {α β : Type} {d : Kd α} {d' : Kd β} {g : α → Prop} {g' : β → Prop} {f : TypeId} {fs : List (TypeId × Nat)} {off n c : Nat} (hc : P.cellsOf f = c) (h : Opn P f d g) (hr : OpF P fs (off + c) n d' g') : OpF P ((f, off) :: fs) off n (Kd.pair d d') (fun a => g a.1 ∧ g' a.2) := by
 refine ⟨?_⟩
 intro H enc w base spare held fuel cs hl hf
 obtain ⟨y, hy⟩ := hf _ (List.mem_cons_self ..)
 obtain ⟨b, hb, hgb⟩ := hr.out enc w base spare held fuel cs hl (fun f' hf' => hf f' (List.mem_cons_of_mem _ hf'))
 obtain ⟨a, ha, hga⟩ := h.out _ _ _ _ _ _ _ _ hy
 refine ⟨(a, b), ⟨_, _, ?_, ha, hb⟩, hga, hgb⟩
 simp only [hc]
 rw [← List.drop_drop, List.take_append_drop]
theorem Opn.struct {α β : Type} {d : Kd α} {g : α → Prop} {fs : Array Field} (ht : P.underlying T = some (.struct fs)) (f : β → α) (hf : ∀ a, ∃ b, f b = a) (h : OpF P (fs.toList.map fun f => (f.type, f.offset)) 0 (P.cellsOf T) d g) : Opn P T (Kd.iso d f) (fun b => g (f b)) := by
 refine ⟨?_⟩
 intro H enc w base spare held fuel cs x hx
 obtain ⟨ys, n, _, _, hlen, hyl, hg⟩ := DataW.trod_struct ht hx
 obtain ⟨a, ha, hga⟩ := h.out enc w base spare held n cs hlen (fun q hq => by
  obtain ⟨fd, hfd, rfl⟩ := List.mem_map.1 hq
  obtain ⟨j, hj, rfl⟩ := List.getElem_of_mem hfd
  have hj' : j < fs.size := by simpa using hj
  have h1 := hg j (fs[j]) (Array.getElem?_eq_getElem hj')
  have hys : ys[j]? = some (ys[j]'(by omega)) := List.getElem?_eq_getElem (by omega)
  exact ⟨_, h1.trans hys⟩)
 obtain ⟨b, rfl⟩ := hf a
 refine ⟨b, ?_, hga⟩
 show d.K w (f b) cs
 simpa using ha
theorem Opn.array {α β : Type} {d : Kd α} {g : α → Prop} {m e : Nat} (ht : P.underlying T = some (.array m e)) (f : β → α) (hf : ∀ a, ∃ b, f b = a) {fs : List (TypeId × Nat)} (hfs : fs = (List.range m).map fun i => (e, i * P.cellsOf e)) (h : OpF P fs 0 (P.cellsOf T) d g) : Opn P T (Kd.iso d f) (fun b => g (f b)) := by
 subst hfs
 refine ⟨?_⟩
 intro H enc w base spare held fuel cs x hx
 obtain ⟨ys, n, _, _, hlen, hyl, hg⟩ := DataW.trod_array ht hx
 obtain ⟨a, ha, hga⟩ := h.out enc w base spare held n cs hlen (fun q hq => by
  obtain ⟨i, hi, rfl⟩ := List.mem_map.1 hq
  have hi' : i < m := List.mem_range.1 hi
  have hys : ys[i]? = some (ys[i]'(by omega)) := List.getElem?_eq_getElem (by omega)
  exact ⟨_, (hg i hi').trans hys⟩)
 obtain ⟨b, rfl⟩ := hf a
 refine ⟨b, ?_, hga⟩
 show d.K w (f b) cs
 simpa using ha
theorem Opn.weak {α : Type} {d : Kd α} {g g' : α → Prop} (h : Opn P T d g) (hg : ∀ a, g a → g' a) : Opn P T d g' := by
 refine ⟨?_⟩
 intro H enc w base spare held fuel cs x hx
 obtain ⟨a, ha, h1⟩ := h.out _ _ _ _ _ _ _ _ hx
 exact ⟨a, ha, hg a h1⟩
theorem okWide_array {w : World} {r : Reach} {base : Nat} {v : Value} {n e : Nat} (ht : P.underlying T = some (.array n e)) (h : Value.okWide P w r base T v) : ∃ cs, v = .agg cs ∧ cs.size = P.cellsOf T := by
 simp only [Value.okWide, ht] at h
 obtain ⟨cs, h1, h2, _⟩ := h
 exact ⟨cs, h1, h2⟩
theorem only_of_quiet (m : Machine) (h : m.quiet) : m.OnlyLeaving P := by
 obtain ⟨h1, h2⟩ := h
 refine ⟨fun g hg => ⟨0, ?_⟩, h2⟩
 have h3 := List.all_eq_true.1 h1 g hg
 exact eq_of_beq h3
theorem leaving_of_handed {a : Assume} {C : Checked} {os : Os} {f : FuncId} {r : Reach} {Pre : World → Array Value → Prop} {Post : World → Array Value → Value → World → Prop} (h : ReturnsInHanded a C os f r Pre Post) : ReturnsInLeavingWide a C os f r Pre Post :=
 fun enter => ReturnsInOpen.mono (fun last _ _ x => ⟨x.2.1, only_of_quiet last x.1, x.2.2⟩) (fun _ x => x) (h enter)
end Go.Proofs.Ytbjiookpiminmaa.Opens
end
section
namespace Go.Proofs.Ytbjiookpiminmaa.PCode
open Go.RowKit Go.Proofs.YtbjiookpiminmaaW.PrintWords
theorem never_calls (b0 b1 : Int) (A1 : Option Addr) (c1 : Nat) (l1 : List S36) (w : World) (hr1 : Kd.C k36 w A1 l1.length l1) (hc1 : l1.length ≤ c1) :
  Calls Try.prog 3 #[.agg #[.int .i64 b0, .int .i64 b1], .slice A1 l1.length c1] w fun e w' => e = .returned (.bool true) ∧ Below w.heap.size w w' := by
 by_cases h : (1 ≤ b0 ∧ b0 ≤ 30) ∧ (1 ≤ b1 ∧ b1 ≤ 8) ∧ l1.length ≤ 12
 ·
  obtain ⟨⟨h1, h2⟩, ⟨h3, h4⟩, h5⟩ := h
  obtain ⟨L, rfl⟩ : ∃ L : Nat, b0 = (L : Int) := ⟨b0.toNat, by omega⟩
  obtain ⟨n, rfl⟩ : ∃ n : Nat, b1 = (n : Int) := ⟨b1.toNat, by omega⟩
  exact never_main L n (by omega) (by omega) (by omega) (by omega) A1 c1 l1 w hr1 hc1 h5
 ·
  exact never_small b0 b1 A1 c1 l1 w (Kd.C_max hr1) h
end Go.Proofs.Ytbjiookpiminmaa.PCode
namespace Go.Proofs.Ytbjiookpiminmaa.codeNeverMixed
open Go.ChangeShapes Go.WideShapes Go.ChangeAt Go.RowKit
open Go.ChangeMaps (open_string shut_string)
open Go.Proofs.YtbjiookpiminmaaW.PrintWords Go.Proofs.Ytbjiookpiminmaa.Opens Go.Proofs.Ytbjiookpiminmaa.PCode
theorem own : ownKnob Try.prog.godebug = none := by kernel_rfl
theorem laidOut : laidOutB Try.prog = true := by kernel_rfl
theorem op3 : Opn Try.prog 3 (Kd.int .i64) (fun _ => True) := (Opn.int Try.underlying3).weak fun _ _ => trivial
theorem op34 : Opn Try.prog 34 (Kd.slice 3 (Kd.int .i64)) (fun _ => True) := (Opn.slice Try.underlying34 (by kernel_rfl) op3).weak fun _ _ => trivial
theorem op36 : Opn Try.prog 36 k36 (fun _ => True) :=
 (Opn.struct Try.underlying36 (fun x : S36 => (x.f0, x.f1, x.f2, x.f3)) (fun a => ⟨⟨a.1, a.2.1, a.2.2.1, a.2.2.2⟩, rfl⟩)
  (OpF.cons (c := 1) (by kernel_rfl) op3 (OpF.cons (c := 1) (by kernel_rfl) op3 (OpF.cons (c := 1) (by kernel_rfl) op3 (OpF.one (by kernel_rfl) op34))))).weak fun _ _ => trivial
theorem op23 : Opn Try.prog 23 (Kd.slice 36 k36) (fun _ => True) := (Opn.slice Try.underlying23 (by kernel_rfl) op36).weak fun _ _ => trivial
theorem op22 : Opn Try.prog 22 (Kd.iso (Kd.pair (Kd.int .i64) (Kd.int .i64)) (fun x : Int × Int => x)) (fun _ => True) :=
 (Opn.array Try.underlying22 (fun x : Int × Int => x) (fun a => ⟨a, rfl⟩) (fs := [(3, 0), (3, 1)]) (by kernel_rfl) (OpF.cons (c := 1) (by kernel_rfl) op3 (OpF.one (by kernel_rfl) op3))).weak fun _ _ => trivial
theorem lifted (os : Os) (started : os.Started) (H : Type) (enc : TypeId × Value → H) :
  ReturnsInHanded {} Try.checked os 3 .any (Rows.codeNeverMixedSpec.pre6 enc Try.prog Try.f3 Rows.codeNeverMixedRow.domain false) (Rows.codeNeverMixedSpec.post enc Try.prog Try.f3 false true false false) := by
 refine returnsInHanded_of_change_sized (C := Try.checked) own started (by kernel_rfl) Try.func3
  (ChangeSpec.witness6 (enc := enc) (C := Try.checked) false ⟨#[], #[.agg #[.int .i64 0, .int .i64 0], .slice none 0 0], []⟩ 8 (by kernel_rfl) (by kernel_rfl) (by kernel_rfl) (by kernel_rfl)) ?_
 intro W base args ds gs before hval0 hW hcnd hsz0 _
 have hval : ∀ (j : Nat) t v, Try.f3.params[j]? = some t → args[j]? = some v → Value.okWide Try.prog W .any base t v := hval0
 have hW' := hW
 obtain ⟨p, q, hA0, hV, rfl, hfz, hnd⟩ := hW
 have hA : DataW.TrodAll enc Try.prog W 0 (fun _ => true) true Try.f3.params.toList args.toList ds p := hA0
 rw [Try.params3] at hA hval
 obtain ⟨v0, vs0, d0, ds0, p0, q0, hargs, rfl, rfl, h0, r0⟩ := trodAll_cons hA
 obtain ⟨v1, vs1, d1, ds1, p1, q1, rfl, rfl, rfl, h1, r1⟩ := trodAll_cons r0
 obtain ⟨rfl, rfl, rfl⟩ := trodAll_nil r1
 obtain rfl : args = #[v0, v1] := by cases args; simp_all
 obtain ⟨rfl, rfl⟩ := trodVars_none hV
 have k0 := h0
 have k1 := h1
 have lt0 : ∀ x ∈ p0, x.block < W.heap.size := by obtain ⟨m, hm⟩ := k0; exact DataW.trod_lt m _ _ _ hm
 have lt1 : ∀ x ∈ p1, x.block < W.heap.size := by obtain ⟨m, hm⟩ := k1; exact DataW.trod_lt m _ _ _ hm
 obtain ⟨cs0, rfl, _⟩ := okWide_array Try.underlying22 (hval 0 22 v0 rfl rfl)
 obtain ⟨m0, hm0⟩ := h0
 obtain ⟨x0, ⟨_, _, e0, rfl, rfl⟩, _⟩ := op22.out _ _ _ _ _ _ _ _ hm0
 obtain rfl : cs0 = #[.int .i64 x0.1, .int .i64 x0.2] := by cases cs0; simpa [Value.cells] using e0
 obtain ⟨a1, len1, cap1, rfl⟩ := okWide_slice Try.underlying23 (hval 1 23 v1 rfl rfl)
 obtain ⟨m1, hm1⟩ := h1
 obtain ⟨x1, ⟨_, _, e1, hc1, hC1⟩, _⟩ := op23.out _ _ _ _ _ _ _ _ hm1
 simp only [Value.cells, List.cons.injEq, Value.slice.injEq, and_true] at e1
 obtain ⟨rfl, rfl, rfl⟩ := e1
 clear hA0 hval0 hsz0
 refine (never_calls x0.1 x0.2 a1 cap1 x1 W hC1 hc1).mono fun e W' ⟨he, bel⟩ => ?_
 subst he
 exact ⟨_, rfl, _, _, _, [], _, [], hW', trodAll_mk1 (shut_bool Try.underlying4 _), (trodAll_cons_mk (Below.trod laidOut (by kernel_rfl) (dD (by kernel_rfl)) k0 bel lt0) (trodAll_cons_mk (Below.trod laidOut (by kernel_rfl) (dD (by kernel_rfl)) k1 bel lt1) trodAll_mk0)), rfl, bel.frame _, fun h => by cases h⟩
theorem over : Rows.codeNeverMixedRow.holds Try.pinned (OpenSpec.ofChange Rows.codeNeverMixedSpec) :=
 OpenClaim.holds_of_wide_leaving 3 Try.f3 rfl rfl rfl rfl rfl rfl rfl ⟨rfl, rfl, rfl, rfl, rfl⟩ rfl rfl rfl rfl rfl (by kernel_rfl) Try.func3 (by kernel_rfl)
  (dD (by kernel_rfl)) (by unfold Func.isWrapper; first | (rw [if_pos (by decide +kernel)]; kernel_rfl) | (rw [if_neg (by decide +kernel)]; exact ⟨rfl, rfl⟩))
  (fun os started H enc _ => leaving_of_handed (lifted os started H enc))
theorem proved : Rows.CodeNeverMixedSaid := over
end Go.Proofs.Ytbjiookpiminmaa.codeNeverMixed
namespace Go.Proofs.Ytbjiookpiminmaa
theorem codeNeverMixed_holds : Rows.CodeNeverMixedSaid := codeNeverMixed.proved
end Go.Proofs.Ytbjiookpiminmaa
end
