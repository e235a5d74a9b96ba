import Derived.Test.YtkgkihichdcpmaaGreatDoorC7
import Derived.Shelf.Abstract
namespace Go.Proofs.YtkgkihichdcpmaaGreatDoor.H
open Go.RowKit Go.Proofs.YtkgkihichdcpmaaGreatDoorW.PrintWords Go.Proofs.YtkgkihichdcpmaaGreatDoorW.PrintLast Go.Proofs.YtkgkihichdcpmaaGreatDoorW.PrintMore
attribute [local go_sem] max2_int min2_int max_two min_two max_three min_three max_four min_four
set_option linter.unusedVariables false
set_option linter.unusedSimpArgs false
def monzo_Compare.f (k : Nat) (l0 : List Int) (l1 : List Int) (l2 : List Int) : Option (Int × Int) := (monzo_CheckAll.f k l0 (([l1, l2] : List (List Int)))).bind fun t473 => (if t473 = 0 then ((monzo_sides.f k l0 l1).bind fun bt474 => ((monzo_sides.f k l0 l2).bind fun bt476 => ((decimal_Mul.f k bt474.1 bt476.2).bind fun t478 => ((decimal_Mul.f k bt476.1 bt474.2).bind fun t479 => ((decimal_Compare.f t478 t479).bind fun t480 => (some (t480, 0))))))) else (some (0, t473)))
set_option maxHeartbeats 8000000 in
set_option maxRecDepth 100000 in
theorem monzo_Compare.calls (k : Nat) (A0 : Option Addr) (c0 : Nat) (l0 : List Int) (P1_ : Nat → Prop) (A1 : Option Addr) (c1 : Nat) (l1 : List Int) (P2_ : Nat → Prop) (A2 : Option Addr) (c2 : Nat) (l2 : List Int) (r1 : Int) (r2 : Int) (w : World) (hr0 : Kd.C (Kd.int .i64) w A0 l0.length l0) (hc0 : l0.length ≤ c0) (hs1 : Kd.V (Kd.int .i64) 3 w w.heap.size (fun k_ => P1_ k_) (.slice A1 l1.length c1) l1) (hs2 : Kd.V (Kd.int .i64) 3 w w.heap.size (fun k_ => P2_ k_) (.slice A2 l2.length c2) l2) (hG : GL w) (h : monzo_Compare.f k l0 l1 l2 = some (r1, r2)) :
  Calls Tryz.prog 17 #[.slice A0 l0.length c0, .slice A1 l1.length c1, .slice A2 l2.length c2] w fun e w' => e = .returned (.tuple #[.int .i64 r1, .int .i64 r2]) ∧ Below w.heap.size w w' := by
 have HR0 := AS hr0
 have HC0 := AS hc0
 clear hr0 hc0
 have HO1 := AS (show Kd.V (Kd.int .i64) 3 w w.heap.size (fun k_ => ((P1_ k_ ∨ P2_ k_) ∨ w.heap.size ≤ k_)) (.slice A1 l1.length c1) l1 from Kd.V_mono hs1 (fun k_ hk => .inl (.inl hk)))
 have HO2 := AS (show Kd.V (Kd.int .i64) 3 w w.heap.size (fun k_ => ((P1_ k_ ∨ P2_ k_) ∨ w.heap.size ≤ k_)) (.slice A2 l2.length c2) l2 from Kd.V_mono hs2 (fun k_ hk => .inl (.inr hk)))
 have HB := AS (Below.refl w.heap.size w)
 have H : ((monzo_CheckAll.f k l0 (([l1, l2] : List (List Int)))).bind fun t473 => (if t473 = 0 then ((monzo_sides.f k l0 l1).bind fun bt474 => ((monzo_sides.f k l0 l2).bind fun bt476 => ((decimal_Mul.f k bt474.1 bt476.2).bind fun t478 => ((decimal_Mul.f k bt476.1 bt474.2).bind fun t479 => ((decimal_Compare.f t478 t479).bind fun t480 => (some (t480, 0))))))) else (some (0, t473)))) = some (r1, r2) := h
 clear h
 obtain ⟨y470, hy470⟩ : ∃ y_ : List (List Int), y_ = (([l1, l2] : List (List Int))) := ⟨_, rfl⟩
 replace H : ((monzo_CheckAll.f k l0 y470).bind fun t473 => (if t473 = 0 then ((monzo_sides.f k l0 l1).bind fun bt474 => ((monzo_sides.f k l0 l2).bind fun bt476 => ((decimal_Mul.f k bt474.1 bt476.2).bind fun t478 => ((decimal_Mul.f k bt476.1 bt474.2).bind fun t479 => ((decimal_Compare.f t478 t479).bind fun t480 => (some (t480, 0))))))) else (some (0, t473)))) = some (r1, r2) := by first | (rw [hy470]; with_reducible exact H) | (have H2_ := (Option.bind_some _ _).symm.trans H; rw [hy470]; with_reducible exact H2_) | (have H2_ := (Option.bind_some _ _).symm.trans H; with_reducible exact H2_) | with_reducible exact H | (rw [hy470]; exact H) | exact H
 have Ny470 := AS hy470
 clear hy470
 replace H := Option.bind_eq_some_iff.mp H
 obtain ⟨t473, A40, H⟩ := H
 replace H : (if t473 = 0 then ((monzo_sides.f k l0 l1).bind fun bt474 => ((monzo_sides.f k l0 l2).bind fun bt476 => ((decimal_Mul.f k bt474.1 bt476.2).bind fun t478 => ((decimal_Mul.f k bt476.1 bt474.2).bind fun t479 => ((decimal_Compare.f t478 t479).bind fun t480 => (some (t480, 0))))))) else (some (0, t473))) = some (r1, r2) := H
 have A4 := AS A40
 clear A40
 by_cases c5 : t473 = 0
 ·rw [if_pos c5] at H
  have c5b0 : (t473 == 0) = true := beq_iff_eq.mpr c5
  have c5b1 : (t473 != 0) = false := bne_eq_false_iff_eq.mpr c5
  clear c5
  replace H := Option.bind_eq_some_iff.mp H
  obtain ⟨⟨t474, t475⟩, A60, H⟩ := H
  replace H : ((monzo_sides.f k l0 l2).bind fun bt476 => ((decimal_Mul.f k t474 bt476.2).bind fun t478 => ((decimal_Mul.f k bt476.1 t475).bind fun t479 => ((decimal_Compare.f t478 t479).bind fun t480 => (some (t480, 0)))))) = some (r1, r2) := H
  have A6 := AS A60
  clear A60
  replace H := Option.bind_eq_some_iff.mp H
  obtain ⟨⟨t476, t477⟩, A70, H⟩ := H
  replace H : ((decimal_Mul.f k t474 t477).bind fun t478 => ((decimal_Mul.f k t476 t475).bind fun t479 => ((decimal_Compare.f t478 t479).bind fun t480 => (some (t480, 0))))) = some (r1, r2) := H
  have A7 := AS A70
  clear A70
  replace H := Option.bind_eq_some_iff.mp H
  obtain ⟨t478, A80, H⟩ := H
  replace H : ((decimal_Mul.f k t476 t475).bind fun t479 => ((decimal_Compare.f t478 t479).bind fun t480 => (some (t480, 0)))) = some (r1, r2) := H
  have A8 := AS A80
  clear A80
  replace H := Option.bind_eq_some_iff.mp H
  obtain ⟨t479, A90, H⟩ := H
  replace H : ((decimal_Compare.f t478 t479).bind fun t480 => (some (t480, 0))) = some (r1, r2) := H
  have A9 := AS A90
  clear A90
  replace H := Option.bind_eq_some_iff.mp H
  obtain ⟨t480, A100, H⟩ := H
  replace H : (some (t480, 0)) = some (r1, r2) := H
  have A10 := AS A100
  clear A100
  simp only [Option.some.injEq, Prod.mk.injEq] at H
  obtain ⟨rfl, rfl⟩ := H
  go_enter Tryz.func17, Tryz.ntmps17
  go_wp2_with (first | ((with_reducible refine gate_dst (N := 16) rfl ?_); refine Kd.N_lit (Kd.slice 3 (Kd.int .i64)) _ 28 ?hg (N' := 16) ?hd (xs := ([l1, l2] : List (List Int))) (inner := [.slice A1 l1.length c1, .slice A2 l2.length c2]) (ok := (fun k_ => ((P1_ k_ ∨ P2_ k_) ∨ w.heap.size ≤ k_))) (okp := (fun k_ => ((P1_ k_ ∨ P2_ k_) ∨ w.heap.size ≤ k_))) ?hr ?hp (fun _ hk => hk) ((show ∀ k_, w.heap.size ≤ k_ → (fun k_ => ((P1_ k_ ∨ P2_ k_) ∨ w.heap.size ≤ k_)) k_ from fun k_ hk => (.inr (Nat.le_trans (below_size Z0) hk))) _ (Nat.le_refl _)) (Below.refl _ _) (Nat.le_refl _) (by simp) ?_; (case hd => rfl); (case hg => rfl); (case hr => exact Z13); (case hp => exact Z14); intro v471 w11 ho12 hb hg_ hnew_; clear hg_ hnew_; (first | rw [← Ny470.out] at ho12 | (simp only [Int.reduceToNat] at ho12; rw [← Ny470.out] at ho12)); have n0_ := AS (Kd.V_elder' Z11 (Kd.N_base ho12) hb); have n1_ := AS (Kd.V_elder' Z19 (Kd.N_base ho12) hb); have n2_ := AS (Kd.N_lower ho12 (below_size Z0)); have n3_ := AS (below_step Z0 hb); clear HO1; clear HO2; clear HB; have HO1 := n0_; have HO2 := n1_; have HO472 := n2_; have HB := n3_; clear n0_ n1_ n2_ n3_; clear hb ho12; obtain ⟨Ao13, co13, eo13⟩ := Kd.N_slice HO472.out; subst eo13) | ((with_reducible refine gate_callee (f := 32) rfl ?_); refine goesL_ (some 17) rfl rfl Tryz.func32 Z6 rfl #[.slice A0 l0.length c0, .slice Ao13 y470.length co13] rfl Z1 ?_; (with_reducible refine (monzo_CheckAll.calls k _ _ l0 _ _ y470 t473 _ ?side1 ?side2 ?side3 ?side4 ?side5 A4.out).mono ?_); (case side1 => exact Z4); (case side2 => exact Z58); (case side3 => exact Z133); (case side4 => exact (Kd.N_reads' HO472.out).2.1); (case side5 => exact Z183); rintro e w' ⟨rfl, ⟨nd, rfl⟩⟩; refine ⟨_, rfl, ?_⟩) | ((with_reducible refine gate_callee (f := 42) rfl ?_); refine goesL_ (some 24) rfl rfl Tryz.func42 Z6 rfl #[.slice A0 l0.length c0, .slice A1 l1.length c1] rfl Z1 ?_; (with_reducible refine (monzo_sides.calls k _ _ l0 _ _ l1 t474 t475 _ ?side1 ?side2 ?side3 ?side4 ?side5 A6.out).mono ?_); (case side1 => repeat (first | exact (Kd.C_below HR0.out Z0) | (with_reducible refine Kd.C_alloc ?_ _) | (with_reducible refine Kd.C_drewN ?_ _) | (with_reducible refine Kd.C_drew ?_))); (case side2 => exact Z58); (case side3 => exact Z115); (case side4 => exact Z177); (case side5 => exact Z183); rintro e w14 ⟨rfl, hb⟩; refine ⟨_, rfl, ?_⟩; have n0_ := AS (Kd.V_below Z11 hb); have n1_ := AS (Kd.V_below Z19 hb); have n2_ := AS (Kd.N_below Z110 hb); have n3_ := AS (below_step Z0 hb); clear HO1; clear HO2; clear HO472; clear HB; have HO1 := n0_; have HO2 := n1_; have HO472 := n2_; have HB := n3_; clear n0_ n1_ n2_ n3_; (try clear hb); (try clear hb2); (try clear hk); (try clear hi)) | ((with_reducible refine gate_callee (f := 42) rfl ?_); refine goesL_ (some 30) rfl rfl Tryz.func42 Z6 rfl #[.slice A0 l0.length c0, .slice A2 l2.length c2] rfl Z1 ?_; (with_reducible refine (monzo_sides.calls k _ _ l0 _ _ l2 t476 t477 _ ?side1 ?side2 ?side3 ?side4 ?side5 A7.out).mono ?_); (case side1 => exact Z4); (case side2 => exact Z58); (case side3 => exact Z114); (case side4 => exact Z176); (case side5 => exact Z183); rintro e w15 ⟨rfl, hb⟩; refine ⟨_, rfl, ?_⟩; have n0_ := AS (Kd.V_below Z11 hb); have n1_ := AS (Kd.V_below Z19 hb); have n2_ := AS (Kd.N_below Z110 hb); have n3_ := AS (below_step Z0 hb); clear HO1; clear HO2; clear HO472; clear HB; have HO1 := n0_; have HO2 := n1_; have HO472 := n2_; have HB := n3_; clear n0_ n1_ n2_ n3_; (try clear hb); (try clear hb2); (try clear hk); (try clear hi)) | ((with_reducible refine gate_callee (f := 44) rfl ?_); refine goesL_ (some 35) rfl rfl Tryz.func44 Z6 rfl #[.string t474, .string t477] rfl Z1 ?_; (with_reducible refine (decimal_Mul.calls k t474 t477 t478 _ ?side1 A8.out).mono ?_); (case side1 => exact Z183); rintro e w16 ⟨rfl, hb⟩; refine ⟨_, rfl, ?_⟩; have n0_ := AS (Kd.V_below Z11 hb); have n1_ := AS (Kd.V_below Z19 hb); have n2_ := AS (Kd.N_below Z110 hb); have n3_ := AS (below_step Z0 hb); clear HO1; clear HO2; clear HO472; clear HB; have HO1 := n0_; have HO2 := n1_; have HO472 := n2_; have HB := n3_; clear n0_ n1_ n2_ n3_; (try clear hb); (try clear hb2); (try clear hk); (try clear hi)) | ((with_reducible refine gate_callee (f := 44) rfl ?_); refine goesL_ (some 38) rfl rfl Tryz.func44 Z6 rfl #[.string t476, .string t475] rfl Z1 ?_; (with_reducible refine (decimal_Mul.calls k t476 t475 t479 _ ?side1 A9.out).mono ?_); (case side1 => exact Z183); rintro e w17 ⟨rfl, hb⟩; refine ⟨_, rfl, ?_⟩; have n0_ := AS (Kd.V_below Z11 hb); have n1_ := AS (Kd.V_below Z19 hb); have n2_ := AS (Kd.N_below Z110 hb); have n3_ := AS (below_step Z0 hb); clear HO1; clear HO2; clear HO472; clear HB; have HO1 := n0_; have HO2 := n1_; have HO472 := n2_; have HB := n3_; clear n0_ n1_ n2_ n3_; (try clear hb); (try clear hb2); (try clear hk); (try clear hi)) | ((with_reducible refine gate_callee (f := 43) rfl ?_); refine goesL_ (some 39) rfl rfl Tryz.func43 Z6 rfl #[.string t478, .string t479] rfl Z1 ?_; (with_reducible refine (decimal_Compare.calls t478 t479 t480 _ ?side1 A10.out).mono ?_); (case side1 => exact Z183); rintro e w18 ⟨rfl, hb⟩; refine ⟨_, rfl, ?_⟩; have n0_ := AS (Kd.V_below Z11 hb); have n1_ := AS (Kd.V_below Z19 hb); have n2_ := AS (Kd.N_below Z110 hb); have n3_ := AS (below_step Z0 hb); clear HO1; clear HO2; clear HO472; clear HB; have HO1 := n0_; have HO2 := n1_; have HO472 := n2_; have HB := n3_; clear n0_ n1_ n2_ n3_; (try clear hb); (try clear hb2); (try clear hk); (try clear hi)))
  go_ret2
  exact ⟨Z2, Z0⟩
 ·rw [if_neg c5] at H
  have c5b0 : (t473 == 0) = false := beq_eq_false_iff_ne.mpr c5
  have c5b1 : (t473 != 0) = true := bne_iff_ne.mpr c5
  simp only [Option.some.injEq, Prod.mk.injEq] at H
  obtain ⟨rfl, rfl⟩ := H
  go_enter Tryz.func17, Tryz.ntmps17
  go_wp2_with (first | ((with_reducible refine gate_dst (N := 16) rfl ?_); refine Kd.N_lit (Kd.slice 3 (Kd.int .i64)) _ 28 ?hg (N' := 16) ?hd (xs := ([l1, l2] : List (List Int))) (inner := [.slice A1 l1.length c1, .slice A2 l2.length c2]) (ok := (fun k_ => ((P1_ k_ ∨ P2_ k_) ∨ w.heap.size ≤ k_))) (okp := (fun k_ => ((P1_ k_ ∨ P2_ k_) ∨ w.heap.size ≤ k_))) ?hr ?hp (fun _ hk => hk) ((show ∀ k_, w.heap.size ≤ k_ → (fun k_ => ((P1_ k_ ∨ P2_ k_) ∨ w.heap.size ≤ k_)) k_ from fun k_ hk => (.inr (Nat.le_trans (below_size Z0) hk))) _ (Nat.le_refl _)) (Below.refl _ _) (Nat.le_refl _) (by simp) ?_; (case hd => rfl); (case hg => rfl); (case hr => exact Z13); (case hp => exact Z14); intro v471 w19 ho20 hb hg_ hnew_; clear hg_ hnew_; (first | rw [← Ny470.out] at ho20 | (simp only [Int.reduceToNat] at ho20; rw [← Ny470.out] at ho20)); have n0_ := AS (Kd.V_elder' Z11 (Kd.N_base ho20) hb); have n1_ := AS (Kd.V_elder' Z19 (Kd.N_base ho20) hb); have n2_ := AS (Kd.N_lower ho20 (below_size Z0)); have n3_ := AS (below_step Z0 hb); clear HO1; clear HO2; clear HB; have HO1 := n0_; have HO2 := n1_; have HO472 := n2_; have HB := n3_; clear n0_ n1_ n2_ n3_; clear hb ho20; obtain ⟨Ao21, co21, eo21⟩ := Kd.N_slice HO472.out; subst eo21) | ((with_reducible refine gate_callee (f := 32) rfl ?_); refine goesL_ (some 17) rfl rfl Tryz.func32 Z6 rfl #[.slice A0 l0.length c0, .slice Ao21 y470.length co21] rfl Z1 ?_; (with_reducible refine (monzo_CheckAll.calls k _ _ l0 _ _ y470 t473 _ ?side1 ?side2 ?side3 ?side4 ?side5 A4.out).mono ?_); (case side1 => exact Z4); (case side2 => exact Z58); (case side3 => exact Z133); (case side4 => exact (Kd.N_reads' HO472.out).2.1); (case side5 => exact Z183); rintro e w' ⟨rfl, ⟨nd, rfl⟩⟩; refine ⟨_, rfl, ?_⟩))
  go_ret2
  exact ⟨Z2, Z0⟩
def monzo_Sign.f (k : Nat) (l0 : List Int) (l1 : List Int) : Option (Int × Int) := (monzo_Check.f k l0 l1).bind fun t481 => (if t481 = 0 then ((monzo_sides.f k l0 l1).bind fun bt482 => ((decimal_Compare.f bt482.1 bt482.2).bind fun t484 => (some (t484, 0)))) else (some (0, t481)))
set_option maxHeartbeats 8000000 in
set_option maxRecDepth 100000 in
theorem monzo_Sign.calls (k : Nat) (A0 : Option Addr) (c0 : Nat) (l0 : List Int) (A1 : Option Addr) (c1 : Nat) (l1 : List Int) (r1 : Int) (r2 : Int) (w : World) (hr0 : Kd.C (Kd.int .i64) w A0 l0.length l0) (hc0 : l0.length ≤ c0) (hr1 : Kd.C (Kd.int .i64) w A1 l1.length l1) (hc1 : l1.length ≤ c1) (hG : GL w) (h : monzo_Sign.f k l0 l1 = some (r1, r2)) :
  Calls Tryz.prog 55 #[.slice A0 l0.length c0, .slice A1 l1.length c1] w fun e w' => e = .returned (.tuple #[.int .i64 r1, .int .i64 r2]) ∧ Below w.heap.size w w' := by
 have HR0 := AS hr0
 have HC0 := AS hc0
 clear hr0 hc0
 have HR1 := AS hr1
 have HC1 := AS hc1
 clear hr1 hc1
 have HB := AS (Below.refl w.heap.size w)
 have H : ((monzo_Check.f k l0 l1).bind fun t481 => (if t481 = 0 then ((monzo_sides.f k l0 l1).bind fun bt482 => ((decimal_Compare.f bt482.1 bt482.2).bind fun t484 => (some (t484, 0)))) else (some (0, t481)))) = some (r1, r2) := h
 clear h
 replace H := Option.bind_eq_some_iff.mp H
 obtain ⟨t481, A30, H⟩ := H
 replace H : (if t481 = 0 then ((monzo_sides.f k l0 l1).bind fun bt482 => ((decimal_Compare.f bt482.1 bt482.2).bind fun t484 => (some (t484, 0)))) else (some (0, t481))) = some (r1, r2) := H
 have A3 := AS A30
 clear A30
 by_cases c4 : t481 = 0
 ·rw [if_pos c4] at H
  have c4b0 : (t481 == 0) = true := beq_iff_eq.mpr c4
  have c4b1 : (t481 != 0) = false := bne_eq_false_iff_eq.mpr c4
  clear c4
  replace H := Option.bind_eq_some_iff.mp H
  obtain ⟨⟨t482, t483⟩, A50, H⟩ := H
  replace H : ((decimal_Compare.f t482 t483).bind fun t484 => (some (t484, 0))) = some (r1, r2) := H
  have A5 := AS A50
  clear A50
  replace H := Option.bind_eq_some_iff.mp H
  obtain ⟨t484, A60, H⟩ := H
  replace H : (some (t484, 0)) = some (r1, r2) := H
  have A6 := AS A60
  clear A60
  simp only [Option.some.injEq, Prod.mk.injEq] at H
  obtain ⟨rfl, rfl⟩ := H
  go_enter Tryz.func55, Tryz.ntmps55
  go_wp2_with (first | ((with_reducible refine gate_callee (f := 66) rfl ?_); refine goesL_ (some 9) rfl rfl Tryz.func66 Z6 rfl #[.slice A0 l0.length c0, .slice A1 l1.length c1] rfl Z1 ?_; (with_reducible refine (monzo_Check.calls k _ _ l0 (fun k_ => k_ < w.heap.size) _ _ l1 t481 _ ?side1 ?side2 ?side3 ?side4 A3.out).mono ?_); (case side1 => exact Z12); (case side2 => exact Z58); (case side3 => exact Z191); (case side4 => exact Z183); rintro e w7 ⟨rfl, hb⟩; refine ⟨_, rfl, ?_⟩; have n0_ := AS (below_step Z0 hb); clear HB; have HB := n0_; clear n0_; (try clear hb); (try clear hb2); (try clear hk); (try clear hi)) | ((with_reducible refine gate_callee (f := 42) rfl ?_); refine goesL_ (some 15) rfl rfl Tryz.func42 Z6 rfl #[.slice A0 l0.length c0, .slice A1 l1.length c1] rfl Z1 ?_; (with_reducible refine (monzo_sides.calls k _ _ l0 _ _ l1 t482 t483 _ ?side1 ?side2 ?side3 ?side4 ?side5 A5.out).mono ?_); (case side1 => exact Z4); (case side2 => exact Z58); (case side3 => exact Z77); (case side4 => exact Z145); (case side5 => exact Z183); rintro e w8 ⟨rfl, hb⟩; refine ⟨_, rfl, ?_⟩; have n0_ := AS (below_step Z0 hb); clear HB; have HB := n0_; clear n0_; (try clear hb); (try clear hb2); (try clear hk); (try clear hi)) | ((with_reducible refine gate_callee (f := 43) rfl ?_); refine goesL_ (some 18) rfl rfl Tryz.func43 Z6 rfl #[.string t482, .string t483] rfl Z1 ?_; (with_reducible refine (decimal_Compare.calls t482 t483 t484 _ ?side1 A6.out).mono ?_); (case side1 => exact Z183); rintro e w9 ⟨rfl, hb⟩; refine ⟨_, rfl, ?_⟩; have n0_ := AS (below_step Z0 hb); clear HB; have HB := n0_; clear n0_; (try clear hb); (try clear hb2); (try clear hk); (try clear hi)))
  go_ret2
  exact ⟨Z2, Z0⟩
 ·rw [if_neg c4] at H
  have c4b0 : (t481 == 0) = false := beq_eq_false_iff_ne.mpr c4
  have c4b1 : (t481 != 0) = true := bne_iff_ne.mpr c4
  simp only [Option.some.injEq, Prod.mk.injEq] at H
  obtain ⟨rfl, rfl⟩ := H
  go_enter Tryz.func55, Tryz.ntmps55
  go_wp2_with (first | ((with_reducible refine gate_callee (f := 66) rfl ?_); refine goesL_ (some 9) rfl rfl Tryz.func66 Z6 rfl #[.slice A0 l0.length c0, .slice A1 l1.length c1] rfl Z1 ?_; (with_reducible refine (monzo_Check.calls k _ _ l0 (fun k_ => k_ < w.heap.size) _ _ l1 t481 _ ?side1 ?side2 ?side3 ?side4 A3.out).mono ?_); (case side1 => exact Z12); (case side2 => exact Z58); (case side3 => exact Z191); (case side4 => exact Z183); rintro e w10 ⟨rfl, hb⟩; refine ⟨_, rfl, ?_⟩; have n0_ := AS (below_step Z0 hb); clear HB; have HB := n0_; clear n0_; (try clear hb); (try clear hb2); (try clear hk); (try clear hi)))
  go_ret2
  exact ⟨Z2, Z0⟩
def fraction_New.f (k : Nat) (a0 : ByteArray) (a1 : ByteArray) : Option (ByteArray × ByteArray × Int) := (whole_Sign.f a1).bind fun t486 => (if t486 = 0 then (some ((⟨#[]⟩ : ByteArray), (⟨#[]⟩ : ByteArray), 17)) else ((fraction_lowest.f k a0 a1).bind fun bt487 => (some (bt487.1, bt487.2, 0))))
set_option maxHeartbeats 8000000 in
set_option maxRecDepth 100000 in
theorem fraction_New.calls (k : Nat) (a0 : ByteArray) (a1 : ByteArray) (r1 : ByteArray) (r2 : ByteArray) (r3 : Int) (w : World) (hG : GL w) (h : fraction_New.f k a0 a1 = some (r1, r2, r3)) :
  Calls Tryz.prog 58 #[.string a0, .string a1] w fun e w' => e = .returned (.tuple #[.agg #[.string r1, .string r2], .int .i64 r3]) ∧ Below w.heap.size w w' := by
 have hu53 := Tryz.underlying53
 have HB := AS (Below.refl w.heap.size w)
 have H : ((whole_Sign.f a1).bind fun t486 => (if t486 = 0 then (some ((⟨#[]⟩ : ByteArray), (⟨#[]⟩ : ByteArray), 17)) else ((fraction_lowest.f k a0 a1).bind fun bt487 => (some (bt487.1, bt487.2, 0))))) = some (r1, r2, r3) := h
 clear h
 replace H := Option.bind_eq_some_iff.mp H
 obtain ⟨t486, A30, H⟩ := H
 replace H : (if t486 = 0 then (some ((⟨#[]⟩ : ByteArray), (⟨#[]⟩ : ByteArray), 17)) else ((fraction_lowest.f k a0 a1).bind fun bt487 => (some (bt487.1, bt487.2, 0)))) = some (r1, r2, r3) := H
 have A3 := AS A30
 clear A30
 by_cases c4 : t486 = 0
 ·rw [if_pos c4] at H
  have c4b0 : (t486 == 0) = true := beq_iff_eq.mpr c4
  have c4b1 : (t486 != 0) = false := bne_eq_false_iff_eq.mpr c4
  clear c4
  simp only [Option.some.injEq, Prod.mk.injEq] at H
  obtain ⟨rfl, rfl, rfl⟩ := H
  go_enter Tryz.func58, Tryz.ntmps58
  go_wp2_with (first | ((with_reducible refine gate_dst (N := 4) rfl ?_); refine box_event ?hg (N := 4) ?hd (cs := #[.string (⟨#[]⟩ : ByteArray), .string (⟨#[]⟩ : ByteArray)]) (t := 53) ?hr ?_; (case hd => rfl); (case hg => rfl); (case hr => exact Z13); intro gb485 hg w5 hbox hb; have n0_ := AS (below_step Z0 hb); have n1_ := AS (hbox); have n2_ := AS ((Z184 : w.heap.size ≤ gb485)); have n3_ := AS ((Z184 : w.heap.size ≤ gb485)); clear HB; have HB := n0_; have BK485 := n1_; have GW485 := n2_; have GE485 := n3_; clear n0_ n1_ n2_ n3_; clear hb hbox hg) | ((with_reducible refine gate_callee (f := 88) rfl ?_); refine goesL_ (some 7) rfl rfl Tryz.func88 Z6 rfl #[.string a1] rfl Z1 ?_; (with_reducible refine (whole_Sign.calls a1 t486 _ ?side1 A3.out).mono ?_); (case side1 => exact GL.below hG Z56); rintro e w' ⟨rfl, ⟨nd, rfl⟩⟩; refine ⟨_, rfl, ?_⟩; (try (rw [drewN_self w5]; generalize hq_ : World.drewN w5 _ = w5; have n0_ : Aside0 (w5.heap[gb485]? = some (.cells #[.string (⟨#[]⟩ : ByteArray), .string (⟨#[]⟩ : ByteArray)] 53 (0, 0))) := ⟨by rw [← hq_]; exact Z130⟩; have n1_ : Aside0 (Below w.heap.size w w5) := ⟨by rw [← hq_]; exact Z56⟩; clear BK485 HB hq_; have BK485 := n0_; have HB := n1_; clear n0_ n1_)); have hcz6_0 : w5.cell? ⟨gb485, 0, none⟩ = some (.string (⟨#[]⟩ : ByteArray)) := (blk_cell BK485.out 0).trans rfl; have hcz6_1 : w5.cell? ⟨gb485, 1, none⟩ = some (.string (⟨#[]⟩ : ByteArray)) := (blk_cell BK485.out 1).trans rfl; have hfz6_0 := blk_frozen BK485.out 0; have hfz6_1 := blk_frozen BK485.out 1))
  refine bodyPost_ret (results_ct rfl _ _ gb485 53 #[.string (⟨#[]⟩ : ByteArray), .string (⟨#[]⟩ : ByteArray)] (0, 0) _ rfl (by (with_reducible repeat (first | refine blk_drewN ?_ _ | refine blk_drew ?_ | refine blk_alloc ?_ _)); refine blk_put (cs := #[.string (⟨#[]⟩ : ByteArray), .string (⟨#[]⟩ : ByteArray)]) ?_ 1 _ rfl; (with_reducible repeat (first | refine blk_drewN ?_ _ | refine blk_drew ?_ | refine blk_alloc ?_ _)); refine blk_put (cs := #[.string (⟨#[]⟩ : ByteArray), .string (⟨#[]⟩ : ByteArray)]) ?_ 0 _ rfl; (with_reducible repeat (first | refine blk_drewN ?_ _ | refine blk_drew ?_ | refine blk_alloc ?_ _)); exact BK485.out) Tryz.underlying53 rfl Z6) rfl ?_
  exact ⟨Z2, Z56⟩
 ·rw [if_neg c4] at H
  have c4b0 : (t486 == 0) = false := beq_eq_false_iff_ne.mpr c4
  have c4b1 : (t486 != 0) = true := bne_iff_ne.mpr c4
  replace H := Option.bind_eq_some_iff.mp H
  obtain ⟨⟨t487, t488⟩, A70, H⟩ := H
  replace H : (some (t487, t488, 0)) = some (r1, r2, r3) := H
  have A7 := AS A70
  clear A70
  simp only [Option.some.injEq, Prod.mk.injEq] at H
  obtain ⟨rfl, rfl, rfl⟩ := H
  go_enter Tryz.func58, Tryz.ntmps58
  go_wp2_with (first | ((with_reducible refine gate_dst (N := 4) rfl ?_); refine box_event ?hg (N := 4) ?hd (cs := #[.string (⟨#[]⟩ : ByteArray), .string (⟨#[]⟩ : ByteArray)]) (t := 53) ?hr ?_; (case hd => rfl); (case hg => rfl); (case hr => exact Z13); intro gb485 hg w8 hbox hb; have n0_ := AS (below_step Z0 hb); have n1_ := AS (hbox); have n2_ := AS ((Z184 : w.heap.size ≤ gb485)); have n3_ := AS ((Z184 : w.heap.size ≤ gb485)); clear HB; have HB := n0_; have BK485 := n1_; have GW485 := n2_; have GE485 := n3_; clear n0_ n1_ n2_ n3_; clear hb hbox hg) | ((with_reducible refine gate_callee (f := 88) rfl ?_); refine goesL_ (some 7) rfl rfl Tryz.func88 Z6 rfl #[.string a1] rfl Z1 ?_; (with_reducible refine (whole_Sign.calls a1 t486 _ ?side1 A3.out).mono ?_); (case side1 => exact GL.below hG Z56); rintro e w' ⟨rfl, ⟨nd, rfl⟩⟩; refine ⟨_, rfl, ?_⟩; (try (rw [drewN_self w8]; generalize hq_ : World.drewN w8 _ = w8; have n0_ : Aside0 (w8.heap[gb485]? = some (.cells #[.string (⟨#[]⟩ : ByteArray), .string (⟨#[]⟩ : ByteArray)] 53 (0, 0))) := ⟨by rw [← hq_]; exact Z130⟩; have n1_ : Aside0 (Below w.heap.size w w8) := ⟨by rw [← hq_]; exact Z56⟩; clear BK485 HB hq_; have BK485 := n0_; have HB := n1_; clear n0_ n1_))) | ((with_reducible refine gate_callee (f := 89) rfl ?_); refine goesL_ (some 12) rfl rfl Tryz.func89 Z6 rfl #[.string a0, .string a1] rfl Z1 ?_; (with_reducible refine (fraction_lowest.calls k a0 a1 t487 t488 _ ?side1 A7.out).mono ?_); (case side1 => exact GL.below hG Z56); rintro e w9 ⟨rfl, hb⟩; refine ⟨_, rfl, ?_⟩; have n0_ := AS (blk_below (g := gb485) (o := .cells #[.string (⟨#[]⟩ : ByteArray), .string (⟨#[]⟩ : ByteArray)] 53 (0, 0)) Z130 hb); have n1_ := AS (below_step Z56 hb); clear BK485; clear HB; have BK485 := n0_; have HB := n1_; clear n0_ n1_; (try clear hb); (try clear hb2); (try clear hk); (try clear hi); have hcz10_0 : w9.cell? ⟨gb485, 0, none⟩ = some (.string (⟨#[]⟩ : ByteArray)) := (blk_cell BK485.out 0).trans rfl; have hcz10_1 : w9.cell? ⟨gb485, 1, none⟩ = some (.string (⟨#[]⟩ : ByteArray)) := (blk_cell BK485.out 1).trans rfl; have hfz10_0 := blk_frozen BK485.out 0; have hfz10_1 := blk_frozen BK485.out 1))
  refine bodyPost_ret (results_ct rfl _ _ gb485 53 #[.string t487, .string t488] (0, 0) _ rfl (by (with_reducible repeat (first | refine blk_drewN ?_ _ | refine blk_drew ?_ | refine blk_alloc ?_ _)); refine blk_put (cs := #[.string t487, .string (⟨#[]⟩ : ByteArray)]) ?_ 1 _ rfl; (with_reducible repeat (first | refine blk_drewN ?_ _ | refine blk_drew ?_ | refine blk_alloc ?_ _)); refine blk_put (cs := #[.string (⟨#[]⟩ : ByteArray), .string (⟨#[]⟩ : ByteArray)]) ?_ 0 _ rfl; (with_reducible repeat (first | refine blk_drewN ?_ _ | refine blk_drew ?_ | refine blk_alloc ?_ _)); exact BK485.out) Tryz.underlying53 rfl Z6) rfl ?_
  exact ⟨Z2, Z56⟩
def fraction_Of.f (k : Nat) (a0 : Int) (a1 : Int) : Option (ByteArray × ByteArray × Int) := (whole_Of.f a0).bind fun t490 => ((whole_Of.f a1).bind fun t491 => ((fraction_New.f k t490 t491).bind fun bt492 => (some (bt492.1, bt492.2.1, bt492.2.2))))
set_option maxHeartbeats 8000000 in
set_option maxRecDepth 100000 in
theorem fraction_Of.calls (k : Nat) (a0 : Int) (a1 : Int) (r1 : ByteArray) (r2 : ByteArray) (r3 : Int) (w : World) (hG : GL w) (h : fraction_Of.f k a0 a1 = some (r1, r2, r3)) :
  Calls Tryz.prog 29 #[.int .i64 a0, .int .i64 a1] w fun e w' => e = .returned (.tuple #[.agg #[.string r1, .string r2], .int .i64 r3]) ∧ Below w.heap.size w w' := by
 have hu53 := Tryz.underlying53
 have HB := AS (Below.refl w.heap.size w)
 have H : ((whole_Of.f a0).bind fun t490 => ((whole_Of.f a1).bind fun t491 => ((fraction_New.f k t490 t491).bind fun bt492 => (some (bt492.1, bt492.2.1, bt492.2.2))))) = some (r1, r2, r3) := h
 clear h
 replace H := Option.bind_eq_some_iff.mp H
 obtain ⟨t490, A30, H⟩ := H
 replace H : ((whole_Of.f a1).bind fun t491 => ((fraction_New.f k t490 t491).bind fun bt492 => (some (bt492.1, bt492.2.1, bt492.2.2)))) = some (r1, r2, r3) := H
 have A3 := AS A30
 clear A30
 replace H := Option.bind_eq_some_iff.mp H
 obtain ⟨t491, A40, H⟩ := H
 replace H : ((fraction_New.f k t490 t491).bind fun bt492 => (some (bt492.1, bt492.2.1, bt492.2.2))) = some (r1, r2, r3) := H
 have A4 := AS A40
 clear A40
 replace H := Option.bind_eq_some_iff.mp H
 obtain ⟨⟨t492, t493, t494⟩, A50, H⟩ := H
 replace H : (some (t492, t493, t494)) = some (r1, r2, r3) := H
 have A5 := AS A50
 clear A50
 simp only [Option.some.injEq, Prod.mk.injEq] at H
 obtain ⟨rfl, rfl, rfl⟩ := H
 go_enter Tryz.func29, Tryz.ntmps29
 go_wp2_with (first | ((with_reducible refine gate_dst (N := 4) rfl ?_); refine box_event ?hg (N := 4) ?hd (cs := #[.string (⟨#[]⟩ : ByteArray), .string (⟨#[]⟩ : ByteArray)]) (t := 53) ?hr ?_; (case hd => rfl); (case hg => rfl); (case hr => exact Z13); intro gb489 hg w6 hbox hb; have n0_ := AS (below_step Z0 hb); have n1_ := AS (hbox); have n2_ := AS ((Z184 : w.heap.size ≤ gb489)); have n3_ := AS ((Z184 : w.heap.size ≤ gb489)); clear HB; have HB := n0_; have BK489 := n1_; have GW489 := n2_; have GE489 := n3_; clear n0_ n1_ n2_ n3_; clear hb hbox hg) | ((with_reducible refine gate_callee (f := 59) rfl ?_); refine goesL_ (some 7) rfl rfl Tryz.func59 Z6 rfl #[.int .i64 a0] rfl Z1 ?_; (with_reducible refine (whole_Of.calls a0 t490 _ ?side1 A3.out).mono ?_); (case side1 => exact GL.below hG Z63); rintro e w7 ⟨rfl, hb⟩; refine ⟨_, rfl, ?_⟩; have n0_ := AS (blk_below (g := gb489) (o := .cells #[.string (⟨#[]⟩ : ByteArray), .string (⟨#[]⟩ : ByteArray)] 53 (0, 0)) Z131 hb); have n1_ := AS (below_step Z63 hb); clear BK489; clear HB; have BK489 := n0_; have HB := n1_; clear n0_ n1_; (try clear hb); (try clear hb2); (try clear hk); (try clear hi)) | ((with_reducible refine gate_callee (f := 59) rfl ?_); refine goesL_ (some 9) rfl rfl Tryz.func59 Z6 rfl #[.int .i64 a1] rfl Z1 ?_; (with_reducible refine (whole_Of.calls a1 t491 _ ?side1 A4.out).mono ?_); (case side1 => exact GL.below hG Z63); rintro e w8 ⟨rfl, hb⟩; refine ⟨_, rfl, ?_⟩; have n0_ := AS (blk_below (g := gb489) (o := .cells #[.string (⟨#[]⟩ : ByteArray), .string (⟨#[]⟩ : ByteArray)] 53 (0, 0)) Z131 hb); have n1_ := AS (below_step Z63 hb); clear BK489; clear HB; have BK489 := n0_; have HB := n1_; clear n0_ n1_; (try clear hb); (try clear hb2); (try clear hk); (try clear hi)) | ((with_reducible refine gate_callee (f := 58) rfl ?_); refine goesL_ (some 10) rfl rfl Tryz.func58 Z6 rfl #[.string t490, .string t491] rfl Z1 ?_; (with_reducible refine (fraction_New.calls k t490 t491 t492 t493 t494 _ ?side1 A5.out).mono ?_); (case side1 => exact GL.below hG Z63); rintro e w9 ⟨rfl, hb⟩; refine ⟨_, rfl, ?_⟩; have n0_ := AS (blk_below (g := gb489) (o := .cells #[.string (⟨#[]⟩ : ByteArray), .string (⟨#[]⟩ : ByteArray)] 53 (0, 0)) Z131 hb); have n1_ := AS (below_step Z63 hb); clear BK489; clear HB; have BK489 := n0_; have HB := n1_; clear n0_ n1_; (try clear hb); (try clear hb2); (try clear hk); (try clear hi); have hcz10_0 : w9.cell? ⟨gb489, 0, none⟩ = some (.string (⟨#[]⟩ : ByteArray)) := (blk_cell BK489.out 0).trans rfl; have hcz10_1 : w9.cell? ⟨gb489, 1, none⟩ = some (.string (⟨#[]⟩ : ByteArray)) := (blk_cell BK489.out 1).trans rfl; have hfz10_0 := blk_frozen BK489.out 0; have hfz10_1 := blk_frozen BK489.out 1))
 refine bodyPost_ret (results_ct rfl _ _ gb489 53 #[.string t492, .string t493] (0, 0) _ rfl (by (with_reducible repeat (first | refine blk_drewN ?_ _ | refine blk_drew ?_ | refine blk_alloc ?_ _)); refine blk_put (cs := #[.string t492, .string (⟨#[]⟩ : ByteArray)]) ?_ 1 _ rfl; (with_reducible repeat (first | refine blk_drewN ?_ _ | refine blk_drew ?_ | refine blk_alloc ?_ _)); refine blk_put (cs := #[.string (⟨#[]⟩ : ByteArray), .string (⟨#[]⟩ : ByteArray)]) ?_ 0 _ rfl; (with_reducible repeat (first | refine blk_drewN ?_ _ | refine blk_drew ?_ | refine blk_alloc ?_ _)); exact BK489.out) Tryz.underlying53 rfl Z6) rfl ?_
 exact ⟨Z2, Z63⟩
def prime_open.f (k : Nat) (l0 : List Int) (a1_0 : ByteArray) (a1_1 : ByteArray) : Option (Int) := (prime_Check.f k l0).bind fun t496 => (if t496 = 0 then ((fraction_Check.f k a1_0 a1_1).bind fun t497 => (some t497)) else (some t496))
set_option maxHeartbeats 8000000 in
set_option maxRecDepth 100000 in
theorem prime_open.calls (k : Nat) (A0 : Option Addr) (c0 : Nat) (l0 : List Int) (a1_0 : ByteArray) (a1_1 : ByteArray) (r : Int) (w : World) (hr0 : Kd.C (Kd.int .i64) w A0 l0.length l0) (hc0 : l0.length ≤ c0) (hG : GL w) (h : prime_open.f k l0 a1_0 a1_1 = some r) :
  Calls Tryz.prog 60 #[.slice A0 l0.length c0, .agg #[.string a1_0, .string a1_1]] w fun e w' => e = .returned (.int .i64 r) ∧ Below w.heap.size w w' := by
 have hu53 := Tryz.underlying53
 have HR0 := AS hr0
 have HC0 := AS hc0
 clear hr0 hc0
 have HB := AS (Below.refl w.heap.size w)
 have H : ((prime_Check.f k l0).bind fun t496 => (if t496 = 0 then ((fraction_Check.f k a1_0 a1_1).bind fun t497 => (some t497)) else (some t496))) = some r := h
 clear h
 replace H := Option.bind_eq_some_iff.mp H
 obtain ⟨t496, A30, H⟩ := H
 replace H : (if t496 = 0 then ((fraction_Check.f k a1_0 a1_1).bind fun t497 => (some t497)) else (some t496)) = some r := H
 have A3 := AS A30
 clear A30
 by_cases c4 : t496 = 0
 ·rw [if_pos c4] at H
  have c4b0 : (t496 == 0) = true := beq_iff_eq.mpr c4
  have c4b1 : (t496 != 0) = false := bne_eq_false_iff_eq.mpr c4
  clear c4
  replace H := Option.bind_eq_some_iff.mp H
  obtain ⟨t497, A50, H⟩ := H
  replace H : (some t497) = some r := H
  have A5 := AS A50
  clear A50
  obtain rfl := Option.some.inj H
  go_enter Tryz.func60, Tryz.ntmps60
  go_wp2_with (first | ((with_reducible refine gate_dst (N := 3) rfl ?_); refine box_event ?hg (N := 3) ?hd (cs := #[.string a1_0, .string a1_1]) (t := 53) ?hr ?_; (case hd => rfl); (case hg => rfl); (case hr => exact Z13); intro gb495 hg w6 hbox hb; have n0_ := AS (below_step Z0 hb); have n1_ := AS (hbox); have n2_ := AS ((Z184 : w.heap.size ≤ gb495)); have n3_ := AS ((Z184 : w.heap.size ≤ gb495)); clear HB; have HB := n0_; have BK495 := n1_; have GW495 := n2_; have GE495 := n3_; clear n0_ n1_ n2_ n3_; clear hb hbox hg) | ((with_reducible refine gate_callee (f := 25) rfl ?_); refine goesL_ (some 7) rfl rfl Tryz.func25 Z6 rfl #[.slice A0 l0.length c0] rfl Z1 ?_; (with_reducible refine (prime_Check.calls k _ _ l0 t496 _ ?side1 ?side2 ?side3 A3.out).mono ?_); (case side1 => exact Z4); (case side2 => exact Z58); (case side3 => exact GL.below hG Z69); rintro e w' ⟨rfl, ⟨nd, rfl⟩⟩; refine ⟨_, rfl, ?_⟩; have hcz7_0 : w6.cell? ⟨gb495, 0, none⟩ = some (.string a1_0) := (blk_cell BK495.out 0).trans rfl; have hcz7_1 : w6.cell? ⟨gb495, 1, none⟩ = some (.string a1_1) := (blk_cell BK495.out 1).trans rfl; have hfz7_0 := blk_frozen BK495.out 0; have hfz7_1 := blk_frozen BK495.out 1) | ((with_reducible refine gate_callee (f := 67) rfl ?_); refine goesL_ (some 12) rfl rfl Tryz.func67 Z6 rfl #[.agg #[.string a1_0, .string a1_1]] rfl Z1 ?_; (with_reducible refine (fraction_Check.calls k a1_0 a1_1 t497 _ ?side1 A5.out).mono ?_); (case side1 => exact GL.below hG Z69); rintro e w8 ⟨rfl, hb⟩; refine ⟨_, rfl, ?_⟩; have n0_ := AS (blk_below (g := gb495) (o := .cells #[.string a1_0, .string a1_1] 53 (0, 0)) (by (with_reducible repeat (first | refine blk_drewN ?_ _ | refine blk_drew ?_ | refine blk_alloc ?_ _)); exact BK495.out) hb); have n1_ := AS (below_step Z69 hb); clear BK495; clear HB; have BK495 := n0_; have HB := n1_; clear n0_ n1_; (try clear hb); (try clear hb2); (try clear hk); (try clear hi)))
  go_ret
  exact ⟨Z2, Z69⟩
 ·rw [if_neg c4] at H
  have c4b0 : (t496 == 0) = false := beq_eq_false_iff_ne.mpr c4
  have c4b1 : (t496 != 0) = true := bne_iff_ne.mpr c4
  obtain rfl := Option.some.inj H
  go_enter Tryz.func60, Tryz.ntmps60
  go_wp2_with (first | ((with_reducible refine gate_dst (N := 3) rfl ?_); refine box_event ?hg (N := 3) ?hd (cs := #[.string a1_0, .string a1_1]) (t := 53) ?hr ?_; (case hd => rfl); (case hg => rfl); (case hr => exact Z13); intro gb495 hg w9 hbox hb; have n0_ := AS (below_step Z0 hb); have n1_ := AS (hbox); have n2_ := AS ((Z184 : w.heap.size ≤ gb495)); have n3_ := AS ((Z184 : w.heap.size ≤ gb495)); clear HB; have HB := n0_; have BK495 := n1_; have GW495 := n2_; have GE495 := n3_; clear n0_ n1_ n2_ n3_; clear hb hbox hg) | ((with_reducible refine gate_callee (f := 25) rfl ?_); refine goesL_ (some 7) rfl rfl Tryz.func25 Z6 rfl #[.slice A0 l0.length c0] rfl Z1 ?_; (with_reducible refine (prime_Check.calls k _ _ l0 t496 _ ?side1 ?side2 ?side3 A3.out).mono ?_); (case side1 => exact Z4); (case side2 => exact Z58); (case side3 => exact GL.below hG Z69); rintro e w' ⟨rfl, ⟨nd, rfl⟩⟩; refine ⟨_, rfl, ?_⟩))
  go_ret
  exact ⟨Z2, Z69⟩
def prime_divide.l0 : Nat → ByteArray → ByteArray → Int → Option (ByteArray × Int)
 | 0, _, _, _ => none
 | k + 1, x0, x6, x7 => (whole_DivMod.f k x0 x6).bind fun bt499 => (if bt499.2.1.toList = ([48] : List UInt8) then (if bt499.2.2 = 0 then (prime_divide.l0 k bt499.1 x6 (wrap64 (x7 + 1))) else (some (x0, x7))) else (some (x0, x7)))
def prime_divide.f (k : Nat) (a0 : ByteArray) (a1 : Int) : Option (ByteArray × Int) := (whole_Of.f a1).bind fun t498 => (prime_divide.l0 k a0 t498 0)
set_option maxHeartbeats 8000000 in
set_option maxRecDepth 100000 in
theorem prime_divide.calls (k : Nat) (a0 : ByteArray) (a1 : Int) (r1 : ByteArray) (r2 : Int) (w : World) (hG : GL w) (h : prime_divide.f k a0 a1 = some (r1, r2)) :
  Calls Tryz.prog 91 #[.string a0, .int .i64 a1] w fun e w' => e = .returned (.tuple #[.string r1, .int .i64 r2]) ∧ Below w.heap.size w w' := by
 have HB := AS (Below.refl w.heap.size w)
 have H : ((whole_Of.f a1).bind fun t498 => (prime_divide.l0 k a0 t498 0)) = some (r1, r2) := h
 clear h
 replace H := Option.bind_eq_some_iff.mp H
 obtain ⟨t498, A30, H⟩ := H
 replace H : (prime_divide.l0 k a0 t498 0) = some (r1, r2) := H
 have A3 := AS A30
 clear A30
 have H' := AS H
 clear H
 go_enter Tryz.func91, Tryz.ntmps91
 go_wp2_with (first | ((with_reducible refine gate_callee (f := 59) rfl ?_); refine goesL_ (some 12) rfl rfl Tryz.func59 Z6 rfl #[.int .i64 a1] rfl Z1 ?_; (with_reducible refine (whole_Of.calls a1 t498 _ ?side1 A3.out).mono ?_); (case side1 => exact Z183); rintro e w4 ⟨rfl, hb⟩; refine ⟨_, rfl, ?_⟩; have n0_ := AS (below_step Z0 hb); clear HB; have HB := n0_; clear n0_; (try clear hb); (try clear hb2); (try clear hk); (try clear hi)))
 go_loopg [0, 7] k (fun kq v0 v7 w' => ∃ (x0_1 : ByteArray) (x7_1 : Int), v0 = .string x0_1 ∧ v7 = .int .i64 x7_1 ∧ Aside0 (prime_divide.l0 kq x0_1 t498 x7_1 = some (r1, r2)) ∧ Aside0 (kq ≤ k) ∧ Aside0 (Below w.heap.size w w'))
 case atStart => exact ⟨(a0), (0), Z5, Z5, H', ⟨Nat.le_refl _⟩, ⟨Z0⟩⟩
 case round =>
  clear H'
  try clear p2
  obtain ⟨x0_1, x7_1, rfl, rfl, HA, HK1, HB⟩ := hrel
  cases gk with
  | zero => exact absurd HA.out (by simp [prime_divide.l0])
  | succ k1 =>
   have H := HA.out
   clear HA
   simp only [prime_divide.l0] at H
   replace H := Option.bind_eq_some_iff.mp H
   obtain ⟨⟨t499, t500, t501⟩, A50, H⟩ := H
   replace H : (if t500.toList = ([48] : List UInt8) then (if t501 = 0 then (prime_divide.l0 k1 t499 t498 (wrap64 (x7_1 + 1))) else (some (x0_1, x7_1))) else (some (x0_1, x7_1))) = some (r1, r2) := H
   have A5 := AS A50
   clear A50
   by_cases c6 : t500.toList = ([48] : List UInt8)
   ·rw [if_pos c6] at H
    have c6b0 : (t500.toList == ([48] : List UInt8)) = true := beq_iff_eq.mpr c6
    have c6b1 : (t500.toList != ([48] : List UInt8)) = false := bne_eq_false_iff_eq.mpr c6
    clear c6
    by_cases c7 : t501 = 0
    ·rw [if_pos c7] at H
     have c7b0 : (t501 == 0) = true := beq_iff_eq.mpr c7
     have c7b1 : (t501 != 0) = false := bne_eq_false_iff_eq.mpr c7
     clear c7
     have H' := AS H
     clear H
     go_wp2_with (first | ((with_reducible refine gate_callee (f := 118) rfl ?_); refine goesL_ (some 18) rfl rfl Tryz.func118 Z6 rfl #[.string x0_1, .string t498] rfl Z1 ?_; (with_reducible refine (whole_DivMod.calls k1 x0_1 t498 t499 t500 t501 _ ?side1 A5.out).mono ?_); (case side1 => exact Z183); rintro e w8 ⟨rfl, hb⟩; refine ⟨_, rfl, ?_⟩; have n0_ := AS (below_step Z0 hb); clear HB; have HB := n0_; clear n0_; (try clear hb); (try clear hb2); (try clear hk); (try clear hi)))
     go_roundg k1
     case measure => have := HK1.out; omega
     case rel => exact ⟨(t499), (wrap64 (x7_1 + 1)), Z5, Z5, H', ⟨Z101⟩, ⟨Z0⟩⟩
    ·rw [if_neg c7] at H
     have c7b0 : (t501 == 0) = false := beq_eq_false_iff_ne.mpr c7
     have c7b1 : (t501 != 0) = true := bne_iff_ne.mpr c7
     simp only [Option.some.injEq, Prod.mk.injEq] at H
     obtain ⟨rfl, rfl⟩ := H
     go_wp2_with (first | ((with_reducible refine gate_callee (f := 118) rfl ?_); refine goesL_ (some 18) rfl rfl Tryz.func118 Z6 rfl #[.string x0_1, .string t498] rfl Z1 ?_; (with_reducible refine (whole_DivMod.calls k1 x0_1 t498 t499 t500 t501 _ ?side1 A5.out).mono ?_); (case side1 => exact Z183); rintro e w9 ⟨rfl, hb⟩; refine ⟨_, rfl, ?_⟩; have n0_ := AS (below_step Z0 hb); clear HB; have HB := n0_; clear n0_; (try clear hb); (try clear hb2); (try clear hk); (try clear hi)))
     go_ret2
     exact ⟨Z2, Z0⟩
   ·rw [if_neg c6] at H
    have c6b0 : (t500.toList == ([48] : List UInt8)) = false := beq_eq_false_iff_ne.mpr c6
    have c6b1 : (t500.toList != ([48] : List UInt8)) = true := bne_iff_ne.mpr c6
    simp only [Option.some.injEq, Prod.mk.injEq] at H
    obtain ⟨rfl, rfl⟩ := H
    go_wp2_with (first | ((with_reducible refine gate_callee (f := 118) rfl ?_); refine goesL_ (some 18) rfl rfl Tryz.func118 Z6 rfl #[.string x0_1, .string t498] rfl Z1 ?_; (with_reducible refine (whole_DivMod.calls k1 x0_1 t498 t499 t500 t501 _ ?side1 A5.out).mono ?_); (case side1 => exact Z183); rintro e w10 ⟨rfl, hb⟩; refine ⟨_, rfl, ?_⟩; have n0_ := AS (below_step Z0 hb); clear HB; have HB := n0_; clear n0_; (try clear hb); (try clear hb2); (try clear hk); (try clear hi)))
    go_ret2
    exact ⟨Z2, Z0⟩
def prime_factor.l0 : Nat → List Int → ByteArray → ByteArray → List Int → Int → Int → Option (List Int × Bool)
 | 0, _, _, _, _, _, _ => none
 | k + 1, x6, x7, x8, x23, x24, x25 => if x25 < x24 then (if 0 ≤ x25 then (if x25 < (x23.length : Int) then ((prime_divide.f k x7 (rd x23 x25)).bind fun bt508 => ((prime_divide.f k x8 (rd x23 x25)).bind fun bt510 => (if x25 < (x6.length : Int) then (prime_factor.l0 k (x6.set (x25 : Int).toNat (wrap64 (bt508.2 - bt510.2))) bt508.1 bt510.1 x23 x24 (wrap64 (x25 + 1))) else (none)))) else (none)) else (none)) else (if x7.toList = ([49] : List UInt8) then (some (x6, (x8.toList == ([49] : List UInt8)))) else (some (x6, false)))
def prime_factor.f (k : Nat) (l0 : List Int) (a1_0 : ByteArray) (a1_1 : ByteArray) : Option (List Int × Bool) := (fraction_Sign.f a1_0 a1_1).bind fun t503 => (if t503 ≤ 0 then (some (([] : List Int), false)) else (if 0 ≤ (l0.length : Int) then (if ((l0.length : Int) : Int).toNat ≤ 35184372088832 then (prime_factor.l0 k (List.replicate ((l0.length : Int) : Int).toNat 0) a1_0 a1_1 l0 (l0.length : Int) 0) else (none)) else (none)))
set_option maxHeartbeats 8000000 in
set_option maxRecDepth 100000 in
theorem prime_factor.calls (k : Nat) (A0 : Option Addr) (c0 : Nat) (l0 : List Int) (a1_0 : ByteArray) (a1_1 : ByteArray) (r1 : List Int) (r2 : Bool) (w : World) (hr0 : Kd.C (Kd.int .i64) w A0 l0.length l0) (hc0 : l0.length ≤ c0) (hG : GL w) (h : prime_factor.f k l0 a1_0 a1_1 = some (r1, r2)) :
  Calls Tryz.prog 61 #[.slice A0 l0.length c0, .agg #[.string a1_0, .string a1_1]] w fun e w' => ∃ v0_ : Value, e = .returned (.tuple #[v0_, .bool r2]) ∧ Kd.R (Kd.int .i64) 3 w' w.heap.size (fun _ => True) v0_ r1 ∧ Below w.heap.size w w' := by
 have hu53 := Tryz.underlying53
 have HR0 := AS hr0
 have HC0 := AS hc0
 clear hr0 hc0
 have HB := AS (Below.refl w.heap.size w)
 have H : ((fraction_Sign.f a1_0 a1_1).bind fun t503 => (if t503 ≤ 0 then (some (([] : List Int), false)) else (if 0 ≤ (l0.length : Int) then (if ((l0.length : Int) : Int).toNat ≤ 35184372088832 then (prime_factor.l0 k (List.replicate ((l0.length : Int) : Int).toNat 0) a1_0 a1_1 l0 (l0.length : Int) 0) else (none)) else (none)))) = some (r1, r2) := h
 clear h
 replace H := Option.bind_eq_some_iff.mp H
 obtain ⟨t503, A30, H⟩ := H
 replace H : (if t503 ≤ 0 then (some (([] : List Int), false)) else (if 0 ≤ (l0.length : Int) then (if ((l0.length : Int) : Int).toNat ≤ 35184372088832 then (prime_factor.l0 k (List.replicate ((l0.length : Int) : Int).toNat 0) a1_0 a1_1 l0 (l0.length : Int) 0) else (none)) else (none))) = some (r1, r2) := H
 have A3 := AS A30
 clear A30
 by_cases c4 : t503 ≤ 0
 ·rw [if_pos c4] at H
  have c4b0 : decide (t503 ≤ 0) = true := decide_eq_true c4
  clear c4
  simp only [Option.some.injEq, Prod.mk.injEq] at H
  obtain ⟨rfl, rfl⟩ := H
  go_enter Tryz.func61, Tryz.ntmps61
  go_wp2_with (first | ((with_reducible refine gate_dst (N := 3) rfl ?_); refine box_event ?hg (N := 3) ?hd (cs := #[.string a1_0, .string a1_1]) (t := 53) ?hr ?_; (case hd => rfl); (case hg => rfl); (case hr => exact Z13); intro gb502 hg w5 hbox hb; have n0_ := AS (below_step Z0 hb); have n1_ := AS (hbox); have n2_ := AS ((Z184 : w.heap.size ≤ gb502)); have n3_ := AS ((Z184 : w.heap.size ≤ gb502)); clear HB; have HB := n0_; have BK502 := n1_; have GW502 := n2_; have GE502 := n3_; clear n0_ n1_ n2_ n3_; clear hb hbox hg; have hcz6_0 : w5.cell? ⟨gb502, 0, none⟩ = some (.string a1_0) := (blk_cell BK502.out 0).trans rfl; have hcz6_1 : w5.cell? ⟨gb502, 1, none⟩ = some (.string a1_1) := (blk_cell BK502.out 1).trans rfl; have hfz6_0 := blk_frozen BK502.out 0; have hfz6_1 := blk_frozen BK502.out 1) | (go_at_call 68; (with_reducible refine (fraction_Sign.calls a1_0 a1_1 t503 _ ?side1 A3.out).mono ?_); (case side1 => exact Z205); rintro e w7 ⟨rfl, hb⟩; have n0_ := AS (blk_below (g := gb502) (o := .cells #[.string a1_0, .string a1_1] 53 (0, 0)) Z23 hb); have n1_ := AS (below_step Z8 hb); clear BK502; clear HB; have BK502 := n0_; have HB := n1_; clear n0_ n1_; (try clear hb); (try clear hb2); (try clear hk); (try clear hi)))
  repeat (go_quiet (first | ((with_reducible refine gate_dst (N := 3) rfl ?_); refine box_event ?hg (N := 3) ?hd (cs := #[.string a1_0, .string a1_1]) (t := 53) ?hr ?_; (case hd => rfl); (case hg => rfl); (case hr => exact Z13); intro gb502 hg w5 hbox hb; have n0_ := AS (below_step Z0 hb); have n1_ := AS (hbox); have n2_ := AS ((Z184 : w.heap.size ≤ gb502)); have n3_ := AS ((Z184 : w.heap.size ≤ gb502)); clear HB; have HB := n0_; have BK502 := n1_; have GW502 := n2_; have GE502 := n3_; clear n0_ n1_ n2_ n3_; clear hb hbox hg; have hcz6_0 : w5.cell? ⟨gb502, 0, none⟩ = some (.string a1_0) := (blk_cell BK502.out 0).trans rfl; have hcz6_1 : w5.cell? ⟨gb502, 1, none⟩ = some (.string a1_1) := (blk_cell BK502.out 1).trans rfl; have hfz6_0 := blk_frozen BK502.out 0; have hfz6_1 := blk_frozen BK502.out 1) | (go_at_call 68; (with_reducible refine (fraction_Sign.calls a1_0 a1_1 t503 _ ?side1 A3.out).mono ?_); (case side1 => exact Z205); rintro e w7 ⟨rfl, hb⟩; have n0_ := AS (blk_below (g := gb502) (o := .cells #[.string a1_0, .string a1_1] 53 (0, 0)) Z23 hb); have n1_ := AS (below_step Z8 hb); clear BK502; clear HB; have BK502 := n0_; have HB := n1_; clear n0_ n1_; (try clear hb); (try clear hb2); (try clear hk); (try clear hi))); try go_wp2_with (first | ((with_reducible refine gate_dst (N := 3) rfl ?_); refine box_event ?hg (N := 3) ?hd (cs := #[.string a1_0, .string a1_1]) (t := 53) ?hr ?_; (case hd => rfl); (case hg => rfl); (case hr => exact Z13); intro gb502 hg w5 hbox hb; have n0_ := AS (below_step Z0 hb); have n1_ := AS (hbox); have n2_ := AS ((Z184 : w.heap.size ≤ gb502)); have n3_ := AS ((Z184 : w.heap.size ≤ gb502)); clear HB; have HB := n0_; have BK502 := n1_; have GW502 := n2_; have GE502 := n3_; clear n0_ n1_ n2_ n3_; clear hb hbox hg; have hcz6_0 : w5.cell? ⟨gb502, 0, none⟩ = some (.string a1_0) := (blk_cell BK502.out 0).trans rfl; have hcz6_1 : w5.cell? ⟨gb502, 1, none⟩ = some (.string a1_1) := (blk_cell BK502.out 1).trans rfl; have hfz6_0 := blk_frozen BK502.out 0; have hfz6_1 := blk_frozen BK502.out 1) | (go_at_call 68; (with_reducible refine (fraction_Sign.calls a1_0 a1_1 t503 _ ?side1 A3.out).mono ?_); (case side1 => exact Z205); rintro e w7 ⟨rfl, hb⟩; have n0_ := AS (blk_below (g := gb502) (o := .cells #[.string a1_0, .string a1_1] 53 (0, 0)) Z23 hb); have n1_ := AS (below_step Z8 hb); clear BK502; clear HB; have BK502 := n0_; have HB := n1_; clear n0_ n1_; (try clear hb); (try clear hb2); (try clear hk); (try clear hi))))
  go_ret2
  exact ⟨_, Z2, Z22, Z8⟩
 ·rw [if_neg c4] at H
  have c4b0 : decide (t503 ≤ 0) = false := decide_eq_false c4
  clear c4
  by_cases c8 : 0 ≤ (l0.length : Int)
  ·rw [if_pos c8] at H
   have c8b0 := eq_true c8
   have c8b1 : decide (0 ≤ (l0.length : Int)) = true := decide_eq_true c8
   clear c8
   by_cases c9 : ((l0.length : Int) : Int).toNat ≤ 35184372088832
   ·rw [if_pos c9] at H
    have c9b0 := eq_true c9
    have c9b1 : decide (((l0.length : Int) : Int).toNat ≤ 35184372088832) = true := decide_eq_true c9
    clear c9
    obtain ⟨y504, hy504⟩ : ∃ y_ : List Int, y_ = (List.replicate ((l0.length : Int) : Int).toNat 0) := ⟨_, rfl⟩
    replace H : (prime_factor.l0 k y504 a1_0 a1_1 l0 (l0.length : Int) 0) = some (r1, r2) := by first | (rw [hy504]; with_reducible exact H) | (have H2_ := (Option.bind_some _ _).symm.trans H; rw [hy504]; with_reducible exact H2_) | (have H2_ := (Option.bind_some _ _).symm.trans H; with_reducible exact H2_) | with_reducible exact H | (rw [hy504]; exact H) | exact H
    have Ny504 := AS hy504
    clear hy504
    have H' := AS H
    clear H
    go_enter Tryz.func61, Tryz.ntmps61
    go_wp2_with (first | ((with_reducible refine gate_dst (N := 3) rfl ?_); refine box_event ?hg (N := 3) ?hd (cs := #[.string a1_0, .string a1_1]) (t := 53) ?hr ?_; (case hd => rfl); (case hg => rfl); (case hr => exact Z13); intro gb502 hg w10 hbox hb; have n0_ := AS (below_step Z0 hb); have n1_ := AS (hbox); have n2_ := AS ((Z184 : w.heap.size ≤ gb502)); have n3_ := AS ((Z184 : w.heap.size ≤ gb502)); clear HB; have HB := n0_; have BK502 := n1_; have GW502 := n2_; have GE502 := n3_; clear n0_ n1_ n2_ n3_; clear hb hbox hg; have hcz11_0 : w10.cell? ⟨gb502, 0, none⟩ = some (.string a1_0) := (blk_cell BK502.out 0).trans rfl; have hcz11_1 : w10.cell? ⟨gb502, 1, none⟩ = some (.string a1_1) := (blk_cell BK502.out 1).trans rfl; have hfz11_0 := blk_frozen BK502.out 0; have hfz11_1 := blk_frozen BK502.out 1) | (go_at_call 68; (with_reducible refine (fraction_Sign.calls a1_0 a1_1 t503 _ ?side1 A3.out).mono ?_); (case side1 => exact Z205); rintro e w12 ⟨rfl, hb⟩; have n0_ := AS (blk_below (g := gb502) (o := .cells #[.string a1_0, .string a1_1] 53 (0, 0)) Z23 hb); have n1_ := AS (below_step Z8 hb); clear BK502; clear HB; have BK502 := n0_; have HB := n1_; clear n0_ n1_; (try clear hb); (try clear hb2); (try clear hk); (try clear hi)) | ((with_reducible refine gate_dst (N := 18) rfl ?_); refine Kd.R_make (Kd.int .i64) _ 3 rfl (N := 18) rfl 28 _ _ rfl (l0.length : Int) rfl rfl Tryz.underlying28 (.int .i64 0) 8 info3 rfl (by decide) (by omega) 0 (ok := fun _ => True) (okp := fun _ => True) rfl (fun _ hk => hk) trivial (of_decide_eq_true Z3) (Nat.le_trans (Nat.mul_le_mul_right _ (of_decide_eq_true Z3 : (l0.length : Int).toNat ≤ 35184372088832)) (by omega)) (Below.refl _ _) (Nat.le_refl _) ?_; intro v505 w13 ho14 hb hg_ hnew_; clear hg_ hnew_; (first | rw [← Ny504.out] at ho14 | (simp only [Int.reduceToNat] at ho14; rw [← Ny504.out] at ho14)); have n0_ := AS (Kd.R_lower ho14 (below_size Z8)); have n1_ := AS (blk_below (g := gb502) (o := .cells #[.string a1_0, .string a1_1] 53 (0, 0)) Z23 hb); have n2_ := AS (below_step Z8 hb); clear BK502; clear HB; have HO506 := n0_; have BK502 := n1_; have HB := n2_; clear n0_ n1_ n2_; clear hb ho14; have hcz15_0 : w13.cell? ⟨gb502, 0, none⟩ = some (.string a1_0) := (blk_cell BK502.out 0).trans rfl; have hcz15_1 : w13.cell? ⟨gb502, 1, none⟩ = some (.string a1_1) := (blk_cell BK502.out 1).trans rfl; have hfz15_0 := blk_frozen BK502.out 0; have hfz15_1 := blk_frozen BK502.out 1))
    repeat (go_quiet (first | ((with_reducible refine gate_dst (N := 3) rfl ?_); refine box_event ?hg (N := 3) ?hd (cs := #[.string a1_0, .string a1_1]) (t := 53) ?hr ?_; (case hd => rfl); (case hg => rfl); (case hr => exact Z13); intro gb502 hg w10 hbox hb; have n0_ := AS (below_step Z0 hb); have n1_ := AS (hbox); have n2_ := AS ((Z184 : w.heap.size ≤ gb502)); have n3_ := AS ((Z184 : w.heap.size ≤ gb502)); clear HB; have HB := n0_; have BK502 := n1_; have GW502 := n2_; have GE502 := n3_; clear n0_ n1_ n2_ n3_; clear hb hbox hg; have hcz11_0 : w10.cell? ⟨gb502, 0, none⟩ = some (.string a1_0) := (blk_cell BK502.out 0).trans rfl; have hcz11_1 : w10.cell? ⟨gb502, 1, none⟩ = some (.string a1_1) := (blk_cell BK502.out 1).trans rfl; have hfz11_0 := blk_frozen BK502.out 0; have hfz11_1 := blk_frozen BK502.out 1) | (go_at_call 68; (with_reducible refine (fraction_Sign.calls a1_0 a1_1 t503 _ ?side1 A3.out).mono ?_); (case side1 => exact Z205); rintro e w12 ⟨rfl, hb⟩; have n0_ := AS (blk_below (g := gb502) (o := .cells #[.string a1_0, .string a1_1] 53 (0, 0)) Z23 hb); have n1_ := AS (below_step Z8 hb); clear BK502; clear HB; have BK502 := n0_; have HB := n1_; clear n0_ n1_; (try clear hb); (try clear hb2); (try clear hk); (try clear hi)) | ((with_reducible refine gate_dst (N := 18) rfl ?_); refine Kd.R_make (Kd.int .i64) _ 3 rfl (N := 18) rfl 28 _ _ rfl (l0.length : Int) rfl rfl Tryz.underlying28 (.int .i64 0) 8 info3 rfl (by decide) (by omega) 0 (ok := fun _ => True) (okp := fun _ => True) rfl (fun _ hk => hk) trivial (of_decide_eq_true Z3) (Nat.le_trans (Nat.mul_le_mul_right _ (of_decide_eq_true Z3 : (l0.length : Int).toNat ≤ 35184372088832)) (by omega)) (Below.refl _ _) (Nat.le_refl _) ?_; intro v505 w13 ho14 hb hg_ hnew_; clear hg_ hnew_; (first | rw [← Ny504.out] at ho14 | (simp only [Int.reduceToNat] at ho14; rw [← Ny504.out] at ho14)); have n0_ := AS (Kd.R_lower ho14 (below_size Z8)); have n1_ := AS (blk_below (g := gb502) (o := .cells #[.string a1_0, .string a1_1] 53 (0, 0)) Z23 hb); have n2_ := AS (below_step Z8 hb); clear BK502; clear HB; have HO506 := n0_; have BK502 := n1_; have HB := n2_; clear n0_ n1_ n2_; clear hb ho14; have hcz15_0 : w13.cell? ⟨gb502, 0, none⟩ = some (.string a1_0) := (blk_cell BK502.out 0).trans rfl; have hcz15_1 : w13.cell? ⟨gb502, 1, none⟩ = some (.string a1_1) := (blk_cell BK502.out 1).trans rfl; have hfz15_0 := blk_frozen BK502.out 0; have hfz15_1 := blk_frozen BK502.out 1)); try go_wp2_with (first | ((with_reducible refine gate_dst (N := 3) rfl ?_); refine box_event ?hg (N := 3) ?hd (cs := #[.string a1_0, .string a1_1]) (t := 53) ?hr ?_; (case hd => rfl); (case hg => rfl); (case hr => exact Z13); intro gb502 hg w10 hbox hb; have n0_ := AS (below_step Z0 hb); have n1_ := AS (hbox); have n2_ := AS ((Z184 : w.heap.size ≤ gb502)); have n3_ := AS ((Z184 : w.heap.size ≤ gb502)); clear HB; have HB := n0_; have BK502 := n1_; have GW502 := n2_; have GE502 := n3_; clear n0_ n1_ n2_ n3_; clear hb hbox hg; have hcz11_0 : w10.cell? ⟨gb502, 0, none⟩ = some (.string a1_0) := (blk_cell BK502.out 0).trans rfl; have hcz11_1 : w10.cell? ⟨gb502, 1, none⟩ = some (.string a1_1) := (blk_cell BK502.out 1).trans rfl; have hfz11_0 := blk_frozen BK502.out 0; have hfz11_1 := blk_frozen BK502.out 1) | (go_at_call 68; (with_reducible refine (fraction_Sign.calls a1_0 a1_1 t503 _ ?side1 A3.out).mono ?_); (case side1 => exact Z205); rintro e w12 ⟨rfl, hb⟩; have n0_ := AS (blk_below (g := gb502) (o := .cells #[.string a1_0, .string a1_1] 53 (0, 0)) Z23 hb); have n1_ := AS (below_step Z8 hb); clear BK502; clear HB; have BK502 := n0_; have HB := n1_; clear n0_ n1_; (try clear hb); (try clear hb2); (try clear hk); (try clear hi)) | ((with_reducible refine gate_dst (N := 18) rfl ?_); refine Kd.R_make (Kd.int .i64) _ 3 rfl (N := 18) rfl 28 _ _ rfl (l0.length : Int) rfl rfl Tryz.underlying28 (.int .i64 0) 8 info3 rfl (by decide) (by omega) 0 (ok := fun _ => True) (okp := fun _ => True) rfl (fun _ hk => hk) trivial (of_decide_eq_true Z3) (Nat.le_trans (Nat.mul_le_mul_right _ (of_decide_eq_true Z3 : (l0.length : Int).toNat ≤ 35184372088832)) (by omega)) (Below.refl _ _) (Nat.le_refl _) ?_; intro v505 w13 ho14 hb hg_ hnew_; clear hg_ hnew_; (first | rw [← Ny504.out] at ho14 | (simp only [Int.reduceToNat] at ho14; rw [← Ny504.out] at ho14)); have n0_ := AS (Kd.R_lower ho14 (below_size Z8)); have n1_ := AS (blk_below (g := gb502) (o := .cells #[.string a1_0, .string a1_1] 53 (0, 0)) Z23 hb); have n2_ := AS (below_step Z8 hb); clear BK502; clear HB; have HO506 := n0_; have BK502 := n1_; have HB := n2_; clear n0_ n1_ n2_; clear hb ho14; have hcz15_0 : w13.cell? ⟨gb502, 0, none⟩ = some (.string a1_0) := (blk_cell BK502.out 0).trans rfl; have hcz15_1 : w13.cell? ⟨gb502, 1, none⟩ = some (.string a1_1) := (blk_cell BK502.out 1).trans rfl; have hfz15_0 := blk_frozen BK502.out 0; have hfz15_1 := blk_frozen BK502.out 1)))
    go_loopg [7, 8, 25] k (fun kq v7 v8 v25 w' => ∃ (x6_1 : List Int) (x7_1 : ByteArray) (x8_1 : ByteArray) (x25_1 : Int), v7 = .string x7_1 ∧ v8 = .string x8_1 ∧ v25 = .int .i64 x25_1 ∧ Aside0 (prime_factor.l0 kq x6_1 x7_1 x8_1 l0 (l0.length : Int) x25_1 = some (r1, r2)) ∧ Aside0 (kq ≤ k) ∧ Aside0 (Kd.R (Kd.int .i64) 3 w' w.heap.size (fun _ => True) v505 x6_1) ∧ Aside0 (w'.heap[gb502]? = some (.cells #[.string a1_0, .string a1_1] 53 (0, 0))) ∧ Aside0 (Below w.heap.size w w'))
    case atStart => exact ⟨(y504), (a1_0), (a1_1), (0), Z5, Z5, Z5, H', ⟨Nat.le_refl _⟩, ⟨by (with_reducible repeat (first | apply Kd.R_alloc | apply Kd.R_drewN | apply Kd.R_drew)); exact HO506.out⟩, ⟨Z23⟩, ⟨Z8⟩⟩
    case round =>
     clear H'
     try clear p2
     try clear c4
     try clear c4b0
     try clear c6
     try clear c8
     try clear c8b0
     try clear c8b1
     try clear c9
     try clear c9b0
     try clear c9b1
     try clear hcz11_0
     try clear hcz11_1
     try clear hcz15_0
     try clear hcz15_1
     try clear hcz6_0
     try clear hcz6_1
     try clear hfz11_0
     try clear hfz11_1
     try clear hfz15_0
     try clear hfz15_1
     try clear hfz6_0
     try clear hfz6_1
     obtain ⟨x6_1, x7_1, x8_1, x25_1, rfl, rfl, rfl, HA, HK1, HO_6, BK502, HB⟩ := hrel
     cases gk with
     | zero => exact absurd HA.out (by simp [prime_factor.l0])
     | succ k1 =>
      have H := HA.out
      clear HA
      simp only [prime_factor.l0] at H
      by_cases c16 : x25_1 < (l0.length : Int)
      ·rw [if_pos c16] at H
       have c16b0 : decide (x25_1 < (l0.length : Int)) = true := decide_eq_true c16
       clear c16
       by_cases c17 : 0 ≤ x25_1
       ·rw [if_pos c17] at H
        have c17b0 : decide (0 ≤ x25_1) = true := decide_eq_true c17
        clear c17
        by_cases c18 : x25_1 < (l0.length : Int)
        ·rw [if_pos c18] at H
         have c18b0 : decide (x25_1 < (l0.length : Int)) = true := decide_eq_true c18
         clear c18
         replace H := Option.bind_eq_some_iff.mp H
         obtain ⟨⟨t508, t509⟩, A190, H⟩ := H
         replace H : ((prime_divide.f k1 x8_1 (rd l0 x25_1)).bind fun bt510 => (if x25_1 < (x6_1.length : Int) then (prime_factor.l0 k1 (x6_1.set (x25_1 : Int).toNat (wrap64 (t509 - bt510.2))) t508 bt510.1 l0 (l0.length : Int) (wrap64 (x25_1 + 1))) else (none))) = some (r1, r2) := H
         have A19 := AS A190
         clear A190
         replace H := Option.bind_eq_some_iff.mp H
         obtain ⟨⟨t510, t511⟩, A200, H⟩ := H
         replace H : (if x25_1 < (x6_1.length : Int) then (prime_factor.l0 k1 (x6_1.set (x25_1 : Int).toNat (wrap64 (t509 - t511))) t508 t510 l0 (l0.length : Int) (wrap64 (x25_1 + 1))) else (none)) = some (r1, r2) := H
         have A20 := AS A200
         clear A200
         by_cases c21 : x25_1 < (x6_1.length : Int)
         ·rw [if_pos c21] at H
          have c21b0 : decide (x25_1 < (x6_1.length : Int)) = true := decide_eq_true c21
          clear c21
          obtain ⟨y512, hy512⟩ : ∃ y_ : List Int, y_ = (x6_1.set (x25_1 : Int).toNat (wrap64 (t509 - t511))) := ⟨_, rfl⟩
          replace H : (prime_factor.l0 k1 y512 t508 t510 l0 (l0.length : Int) (wrap64 (x25_1 + 1))) = some (r1, r2) := by first | (rw [hy512]; with_reducible exact H) | (have H2_ := (Option.bind_some _ _).symm.trans H; rw [hy512]; with_reducible exact H2_) | (have H2_ := (Option.bind_some _ _).symm.trans H; with_reducible exact H2_) | with_reducible exact H | (rw [hy512]; exact H) | exact H
          have Ny512 := AS hy512
          clear hy512
          have H' := AS H
          clear H
          have p507 : 0 ≤ (x25_1 : Int) := of_decide_eq_true Z3
          have q507 : x25_1 < (l0.length : Int) := of_decide_eq_true Z3
          obtain ⟨ad507, e507, hx507_0⟩ := Kd.at_int HR0.out x25_1 p507 q507
          cases e507
          replace hx507_0 := (HB.out.cell (World.block_lt_of_cell? w _ hx507_0)).trans hx507_0
          replace p507 := eq_true p507
          replace q507 := eq_true q507
          go_wp2_with (first | (go_at_call 91; (with_reducible refine (prime_divide.calls k1 x7_1 (rd l0 x25_1) t508 t509 _ ?side1 A19.out).mono ?_); (case side1 => exact Z205); rintro e w23 ⟨rfl, hb⟩; have n0_ := AS (Kd.R_below Z74 hb); have n1_ := AS (blk_below (g := gb502) (o := .cells #[.string a1_0, .string a1_1] 53 (0, 0)) Z23 hb); have n2_ := AS (below_step Z8 hb); clear HO_6; clear BK502; clear HB; have HO_6 := n0_; have BK502 := n1_; have HB := n2_; clear n0_ n1_ n2_; (try clear hb); (try clear hb2); (try clear hk); (try clear hi)) | (go_at_call 91; (with_reducible refine (prime_divide.calls k1 x8_1 (rd l0 x25_1) t510 t511 _ ?side1 A20.out).mono ?_); (case side1 => exact Z205); rintro e w24 ⟨rfl, hb⟩; have n0_ := AS (Kd.R_below Z74 hb); have n1_ := AS (blk_below (g := gb502) (o := .cells #[.string a1_0, .string a1_1] 53 (0, 0)) Z23 hb); have n2_ := AS (below_step Z8 hb); clear HO_6; clear BK502; clear HB; have HO_6 := n0_; have BK502 := n1_; have HB := n2_; clear n0_ n1_ n2_; (try clear hb); (try clear hb2); (try clear hk); (try clear hi); have p22 : 0 ≤ (x25_1 : Int) := of_decide_eq_true Z3; have q22 : (x25_1 : Int) < ((x6_1.length : Int) : Int) := of_decide_eq_true Z3; obtain ⟨go22, co22, eo22, gb22, gl22, cl22, HG22⟩ := Kd.R_form HO_6.out (by omega); (first | cases eo22 | (injection eo22 with ea_ en_ ec_; (first | subst ea_ | (injection ea_ with ea_; subst ea_)); subst ec_; clear en_)); have GB22 := AS gb22; have GG22 := AS HG22; clear gb22 gl22 HG22; obtain ⟨hx22_0, hf22_0⟩ := Kd.R_celln 0 HO_6.out (x25_1 : Int) p22 q22; replace p22 := eq_true p22; replace q22 := eq_true q22; obtain ⟨hy25_, hz25_⟩ := Kd.R_celln 0 HO_6.out (x25_1 : Int) (of_decide_eq_true Z3) (of_decide_eq_true Z3); have HP25 := Kd.R_putg HO_6.out (x25_1 : Int) (wrap64 (t509 - t511))) | ((with_reducible refine gate_store (t := 3) (p := 47) rfl ?_); (try (rw [drewN_self w24]; generalize hq_ : World.drewN w24 _ = w24; have n0_ := AS (Kd.R_at hq_ HO_6.out); have n1_ := AS (blk_at hq_ BK502.out); have n2_ := AS (below_at hq_ HB.out); clear hq_ HO_6 BK502 HB; have HO_6 := n0_; have BK502 := n1_; have HB := n2_; clear n0_ n1_ n2_; (try (obtain ⟨hy25_, hz25_⟩ := Kd.R_celln 0 HO_6.out (x25_1 : Int) (of_decide_eq_true Z3) (of_decide_eq_true Z3))); (try (have HP25 := Kd.R_putg HO_6.out (x25_1 : Int) (wrap64 (t509 - t511)))))); refine store_event (t := 3) (p := 47) (v := ?vo_w26) (w1 := (w24.setCell ⟨go22, (x25_1 : Int).toNat, none⟩ (.int .i64 (wrap64 (t509 - t511))))) ?hg ?ho ?hn ?hr ?_; (case ho => rfl); (case hg => rfl); (case hn => rfl); (case hr => exact Z13); intro w26 hw; have hg : w24.grownBy w26 (some go22) := Z178; have hp_ : Kd.R (Kd.int .i64) 3 w26 w.heap.size (fun _ => True) (.slice (some ⟨go22, 0, none⟩) x6_1.length co22) y512 := Z175; clear HP25; have n0_ := AS (hp_); have n1_ := AS (blk_grown (g := gb502) (o := .cells #[.string a1_0, .string a1_1] 53 (0, 0)) Z23 hg (Kd.R_ne HO_6.out BK502.out (by decide))); have n2_ := AS ((Z167 : Below w.heap.size w w26)); clear HO_6; clear BK502; clear HB; have HO_6 := n0_; have BK502 := n1_; have HB := n2_; clear n0_ n1_ n2_; clear hg hw hp_))
          repeat (go_quiet (first | (go_at_call 91; (with_reducible refine (prime_divide.calls k1 x7_1 (rd l0 x25_1) t508 t509 _ ?side1 A19.out).mono ?_); (case side1 => exact Z205); rintro e w23 ⟨rfl, hb⟩; have n0_ := AS (Kd.R_below Z74 hb); have n1_ := AS (blk_below (g := gb502) (o := .cells #[.string a1_0, .string a1_1] 53 (0, 0)) Z23 hb); have n2_ := AS (below_step Z8 hb); clear HO_6; clear BK502; clear HB; have HO_6 := n0_; have BK502 := n1_; have HB := n2_; clear n0_ n1_ n2_; (try clear hb); (try clear hb2); (try clear hk); (try clear hi)) | (go_at_call 91; (with_reducible refine (prime_divide.calls k1 x8_1 (rd l0 x25_1) t510 t511 _ ?side1 A20.out).mono ?_); (case side1 => exact Z205); rintro e w24 ⟨rfl, hb⟩; have n0_ := AS (Kd.R_below Z74 hb); have n1_ := AS (blk_below (g := gb502) (o := .cells #[.string a1_0, .string a1_1] 53 (0, 0)) Z23 hb); have n2_ := AS (below_step Z8 hb); clear HO_6; clear BK502; clear HB; have HO_6 := n0_; have BK502 := n1_; have HB := n2_; clear n0_ n1_ n2_; (try clear hb); (try clear hb2); (try clear hk); (try clear hi); have p22 : 0 ≤ (x25_1 : Int) := of_decide_eq_true Z3; have q22 : (x25_1 : Int) < ((x6_1.length : Int) : Int) := of_decide_eq_true Z3; obtain ⟨go22, co22, eo22, gb22, gl22, cl22, HG22⟩ := Kd.R_form HO_6.out (by omega); (first | cases eo22 | (injection eo22 with ea_ en_ ec_; (first | subst ea_ | (injection ea_ with ea_; subst ea_)); subst ec_; clear en_)); have GB22 := AS gb22; have GG22 := AS HG22; clear gb22 gl22 HG22; obtain ⟨hx22_0, hf22_0⟩ := Kd.R_celln 0 HO_6.out (x25_1 : Int) p22 q22; replace p22 := eq_true p22; replace q22 := eq_true q22; obtain ⟨hy25_, hz25_⟩ := Kd.R_celln 0 HO_6.out (x25_1 : Int) (of_decide_eq_true Z3) (of_decide_eq_true Z3); have HP25 := Kd.R_putg HO_6.out (x25_1 : Int) (wrap64 (t509 - t511))) | ((with_reducible refine gate_store (t := 3) (p := 47) rfl ?_); (try (rw [drewN_self w24]; generalize hq_ : World.drewN w24 _ = w24; have n0_ := AS (Kd.R_at hq_ HO_6.out); have n1_ := AS (blk_at hq_ BK502.out); have n2_ := AS (below_at hq_ HB.out); clear hq_ HO_6 BK502 HB; have HO_6 := n0_; have BK502 := n1_; have HB := n2_; clear n0_ n1_ n2_; (try (obtain ⟨hy25_, hz25_⟩ := Kd.R_celln 0 HO_6.out (x25_1 : Int) (of_decide_eq_true Z3) (of_decide_eq_true Z3))); (try (have HP25 := Kd.R_putg HO_6.out (x25_1 : Int) (wrap64 (t509 - t511)))))); refine store_event (t := 3) (p := 47) (v := ?vo_w26) (w1 := (w24.setCell ⟨go22, (x25_1 : Int).toNat, none⟩ (.int .i64 (wrap64 (t509 - t511))))) ?hg ?ho ?hn ?hr ?_; (case ho => rfl); (case hg => rfl); (case hn => rfl); (case hr => exact Z13); intro w26 hw; have hg : w24.grownBy w26 (some go22) := Z178; have hp_ : Kd.R (Kd.int .i64) 3 w26 w.heap.size (fun _ => True) (.slice (some ⟨go22, 0, none⟩) x6_1.length co22) y512 := Z175; clear HP25; have n0_ := AS (hp_); have n1_ := AS (blk_grown (g := gb502) (o := .cells #[.string a1_0, .string a1_1] 53 (0, 0)) Z23 hg (Kd.R_ne HO_6.out BK502.out (by decide))); have n2_ := AS ((Z167 : Below w.heap.size w w26)); clear HO_6; clear BK502; clear HB; have HO_6 := n0_; have BK502 := n1_; have HB := n2_; clear n0_ n1_ n2_; clear hg hw hp_)); try go_wp2_with (first | (go_at_call 91; (with_reducible refine (prime_divide.calls k1 x7_1 (rd l0 x25_1) t508 t509 _ ?side1 A19.out).mono ?_); (case side1 => exact Z205); rintro e w23 ⟨rfl, hb⟩; have n0_ := AS (Kd.R_below Z74 hb); have n1_ := AS (blk_below (g := gb502) (o := .cells #[.string a1_0, .string a1_1] 53 (0, 0)) Z23 hb); have n2_ := AS (below_step Z8 hb); clear HO_6; clear BK502; clear HB; have HO_6 := n0_; have BK502 := n1_; have HB := n2_; clear n0_ n1_ n2_; (try clear hb); (try clear hb2); (try clear hk); (try clear hi)) | (go_at_call 91; (with_reducible refine (prime_divide.calls k1 x8_1 (rd l0 x25_1) t510 t511 _ ?side1 A20.out).mono ?_); (case side1 => exact Z205); rintro e w24 ⟨rfl, hb⟩; have n0_ := AS (Kd.R_below Z74 hb); have n1_ := AS (blk_below (g := gb502) (o := .cells #[.string a1_0, .string a1_1] 53 (0, 0)) Z23 hb); have n2_ := AS (below_step Z8 hb); clear HO_6; clear BK502; clear HB; have HO_6 := n0_; have BK502 := n1_; have HB := n2_; clear n0_ n1_ n2_; (try clear hb); (try clear hb2); (try clear hk); (try clear hi); have p22 : 0 ≤ (x25_1 : Int) := of_decide_eq_true Z3; have q22 : (x25_1 : Int) < ((x6_1.length : Int) : Int) := of_decide_eq_true Z3; obtain ⟨go22, co22, eo22, gb22, gl22, cl22, HG22⟩ := Kd.R_form HO_6.out (by omega); (first | cases eo22 | (injection eo22 with ea_ en_ ec_; (first | subst ea_ | (injection ea_ with ea_; subst ea_)); subst ec_; clear en_)); have GB22 := AS gb22; have GG22 := AS HG22; clear gb22 gl22 HG22; obtain ⟨hx22_0, hf22_0⟩ := Kd.R_celln 0 HO_6.out (x25_1 : Int) p22 q22; replace p22 := eq_true p22; replace q22 := eq_true q22; obtain ⟨hy25_, hz25_⟩ := Kd.R_celln 0 HO_6.out (x25_1 : Int) (of_decide_eq_true Z3) (of_decide_eq_true Z3); have HP25 := Kd.R_putg HO_6.out (x25_1 : Int) (wrap64 (t509 - t511))) | ((with_reducible refine gate_store (t := 3) (p := 47) rfl ?_); (try (rw [drewN_self w24]; generalize hq_ : World.drewN w24 _ = w24; have n0_ := AS (Kd.R_at hq_ HO_6.out); have n1_ := AS (blk_at hq_ BK502.out); have n2_ := AS (below_at hq_ HB.out); clear hq_ HO_6 BK502 HB; have HO_6 := n0_; have BK502 := n1_; have HB := n2_; clear n0_ n1_ n2_; (try (obtain ⟨hy25_, hz25_⟩ := Kd.R_celln 0 HO_6.out (x25_1 : Int) (of_decide_eq_true Z3) (of_decide_eq_true Z3))); (try (have HP25 := Kd.R_putg HO_6.out (x25_1 : Int) (wrap64 (t509 - t511)))))); refine store_event (t := 3) (p := 47) (v := ?vo_w26) (w1 := (w24.setCell ⟨go22, (x25_1 : Int).toNat, none⟩ (.int .i64 (wrap64 (t509 - t511))))) ?hg ?ho ?hn ?hr ?_; (case ho => rfl); (case hg => rfl); (case hn => rfl); (case hr => exact Z13); intro w26 hw; have hg : w24.grownBy w26 (some go22) := Z178; have hp_ : Kd.R (Kd.int .i64) 3 w26 w.heap.size (fun _ => True) (.slice (some ⟨go22, 0, none⟩) x6_1.length co22) y512 := Z175; clear HP25; have n0_ := AS (hp_); have n1_ := AS (blk_grown (g := gb502) (o := .cells #[.string a1_0, .string a1_1] 53 (0, 0)) Z23 hg (Kd.R_ne HO_6.out BK502.out (by decide))); have n2_ := AS ((Z167 : Below w.heap.size w w26)); clear HO_6; clear BK502; clear HB; have HO_6 := n0_; have BK502 := n1_; have HB := n2_; clear n0_ n1_ n2_; clear hg hw hp_)))
          go_roundg k1
          case measure => have := HK1.out; omega
          case rel => exact ⟨(y512), (t508), (t510), (wrap64 (x25_1 + 1)), Z5, Z5, Z5, H', ⟨Z101⟩, ⟨Z74⟩, ⟨Z23⟩, ⟨Z8⟩⟩
         ·rw [if_neg c21] at H
          exact absurd H (by simp)
        ·rw [if_neg c18] at H
         exact absurd H (by simp)
       ·rw [if_neg c17] at H
        exact absurd H (by simp)
      ·rw [if_neg c16] at H
       have c16b0 : decide (x25_1 < (l0.length : Int)) = false := decide_eq_false c16
       clear c16
       by_cases c27 : x7_1.toList = ([49] : List UInt8)
       ·rw [if_pos c27] at H
        have c27b0 : (x7_1.toList == ([49] : List UInt8)) = true := beq_iff_eq.mpr c27
        have c27b1 : (x7_1.toList != ([49] : List UInt8)) = false := bne_eq_false_iff_eq.mpr c27
        clear c27
        simp only [Option.some.injEq, Prod.mk.injEq] at H
        obtain ⟨rfl, rfl⟩ := H
        go_wp2
        repeat (go_quiet (fail); try go_wp2)
        go_ret2
        exact ⟨_, Z2, Z74, Z8⟩
       ·rw [if_neg c27] at H
        have c27b0 : (x7_1.toList == ([49] : List UInt8)) = false := beq_eq_false_iff_ne.mpr c27
        have c27b1 : (x7_1.toList != ([49] : List UInt8)) = true := bne_iff_ne.mpr c27
        simp only [Option.some.injEq, Prod.mk.injEq] at H
        obtain ⟨rfl, rfl⟩ := H
        go_wp2
        repeat (go_quiet (fail); try go_wp2)
        go_ret2
        exact ⟨_, Z2, Z74, Z8⟩
   ·rw [if_neg c9] at H
    exact absurd H (by simp)
  ·rw [if_neg c8] at H
   exact absurd H (by simp)
section
open Go.Shelf
def prime_far.f (l0 : List Int) : Option (Bool) := some (l0.any fun n => decide (1000 < n) || decide (n < -1000))
set_option maxHeartbeats 4000000 in
theorem prime_far.calls (A0 : Option Addr) (c0 : Nat) (l0 : List Int) (r : Bool) (w : World) (hr0 : Kd.C (Kd.int .i64) w A0 l0.length l0) (hc0 : l0.length ≤ c0) (hG : GL w) (h : prime_far.f l0 = some r) :
  Calls Tryz.prog 116 #[.slice A0 l0.length c0] w fun e w' => e = .returned (.bool r) ∧ Below w.heap.size w w' := by
 unfold prime_far.f at h
 obtain rfl := Option.some.inj h
 have hp : PredI 139 #[] (fun n => decide (1000 < n) || decide (n < -1000)) w := fun W x _ => by
  by_cases h1 : 1000 < x
  ·go_enter Tryz.func139, Tryz.ntmps139
   go_wp2
   go_ret
   exact ⟨ret_bool (by simp [h1]), 0, rfl⟩
  ·by_cases h2 : x < -1000
   ·go_enter Tryz.func139, Tryz.ntmps139
    go_wp2
    go_ret
    exact ⟨ret_bool (by simp [h2]), 0, rfl⟩
   ·go_enter Tryz.func139, Tryz.ntmps139
    go_wp2
    go_ret
    exact ⟨ret_bool (by simp [h1, h2]), 0, rfl⟩
 have hc := AS (containsFunc_row 139 #[] _ A0 c0 l0 w (enters_of Tryz.func139 Z6 rfl) hp hr0)
 clear hp hr0 h hG
 go_enter Tryz.func116, Tryz.ntmps116
 go_wp2_with (go_at_call 75; refine (hc.out).mono ?_; rintro e w' ⟨rfl, q, rfl⟩)
 go_ret
 exact ⟨rfl, below_drewN' _ _⟩
end
def prime_Factor.f (k : Nat) (l0 : List Int) (a1_0 : ByteArray) (a1_1 : ByteArray) : Option (List Int × Int) := (prime_open.f k l0 a1_0 a1_1).bind fun t514 => (if t514 = 0 then ((fraction_Sign.f a1_0 a1_1).bind fun t515 => (if t515 ≤ 0 then (some (([] : List Int), 3)) else ((prime_factor.f k l0 a1_0 a1_1).bind fun bt516 => (if bt516.2 = true then ((prime_far.f bt516.1).bind fun t520 => (if t520 = true then (some (([] : List Int), 4)) else (some (bt516.1, 0)))) else (some (([] : List Int), 25)))))) else (some (([] : List Int), t514)))
set_option maxHeartbeats 8000000 in
set_option maxRecDepth 100000 in
theorem prime_Factor.calls (k : Nat) (A0 : Option Addr) (c0 : Nat) (l0 : List Int) (a1_0 : ByteArray) (a1_1 : ByteArray) (r1 : List Int) (r2 : Int) (w : World) (hr0 : Kd.C (Kd.int .i64) w A0 l0.length l0) (hc0 : l0.length ≤ c0) (hG : GL w) (h : prime_Factor.f k l0 a1_0 a1_1 = some (r1, r2)) :
  Calls Tryz.prog 87 #[.slice A0 l0.length c0, .agg #[.string a1_0, .string a1_1]] w fun e w' => ∃ v0_ : Value, e = .returned (.tuple #[v0_, .int .i64 r2]) ∧ Kd.R (Kd.int .i64) 3 w' w.heap.size (fun _ => True) v0_ r1 ∧ Below w.heap.size w w' := by
 have hu53 := Tryz.underlying53
 have HR0 := AS hr0
 have HC0 := AS hc0
 clear hr0 hc0
 have HB := AS (Below.refl w.heap.size w)
 have H : ((prime_open.f k l0 a1_0 a1_1).bind fun t514 => (if t514 = 0 then ((fraction_Sign.f a1_0 a1_1).bind fun t515 => (if t515 ≤ 0 then (some (([] : List Int), 3)) else ((prime_factor.f k l0 a1_0 a1_1).bind fun bt516 => (if bt516.2 = true then ((prime_far.f bt516.1).bind fun t520 => (if t520 = true then (some (([] : List Int), 4)) else (some (bt516.1, 0)))) else (some (([] : List Int), 25)))))) else (some (([] : List Int), t514)))) = some (r1, r2) := h
 clear h
 replace H := Option.bind_eq_some_iff.mp H
 obtain ⟨t514, A30, H⟩ := H
 replace H : (if t514 = 0 then ((fraction_Sign.f a1_0 a1_1).bind fun t515 => (if t515 ≤ 0 then (some (([] : List Int), 3)) else ((prime_factor.f k l0 a1_0 a1_1).bind fun bt516 => (if bt516.2 = true then ((prime_far.f bt516.1).bind fun t520 => (if t520 = true then (some (([] : List Int), 4)) else (some (bt516.1, 0)))) else (some (([] : List Int), 25)))))) else (some (([] : List Int), t514))) = some (r1, r2) := H
 have A3 := AS A30
 clear A30
 by_cases c4 : t514 = 0
 ·rw [if_pos c4] at H
  have c4b0 : (t514 == 0) = true := beq_iff_eq.mpr c4
  have c4b1 : (t514 != 0) = false := bne_eq_false_iff_eq.mpr c4
  clear c4
  replace H := Option.bind_eq_some_iff.mp H
  obtain ⟨t515, A50, H⟩ := H
  replace H : (if t515 ≤ 0 then (some (([] : List Int), 3)) else ((prime_factor.f k l0 a1_0 a1_1).bind fun bt516 => (if bt516.2 = true then ((prime_far.f bt516.1).bind fun t520 => (if t520 = true then (some (([] : List Int), 4)) else (some (bt516.1, 0)))) else (some (([] : List Int), 25))))) = some (r1, r2) := H
  have A5 := AS A50
  clear A50
  by_cases c6 : t515 ≤ 0
  ·rw [if_pos c6] at H
   have c6b0 : decide (t515 ≤ 0) = true := decide_eq_true c6
   clear c6
   simp only [Option.some.injEq, Prod.mk.injEq] at H
   obtain ⟨rfl, rfl⟩ := H
   go_enter Tryz.func87, Tryz.ntmps87
   go_wp2_with (first | ((with_reducible refine gate_dst (N := 3) rfl ?_); refine box_event ?hg (N := 3) ?hd (cs := #[.string a1_0, .string a1_1]) (t := 53) ?hr ?_; (case hd => rfl); (case hg => rfl); (case hr => exact Z13); intro gb513 hg w7 hbox hb; have n0_ := AS (below_step Z0 hb); have n1_ := AS (hbox); have n2_ := AS ((Z184 : w.heap.size ≤ gb513)); have n3_ := AS ((Z184 : w.heap.size ≤ gb513)); clear HB; have HB := n0_; have BK513 := n1_; have GW513 := n2_; have GE513 := n3_; clear n0_ n1_ n2_ n3_; clear hb hbox hg; have hcz8_0 : w7.cell? ⟨gb513, 0, none⟩ = some (.string a1_0) := (blk_cell BK513.out 0).trans rfl; have hcz8_1 : w7.cell? ⟨gb513, 1, none⟩ = some (.string a1_1) := (blk_cell BK513.out 1).trans rfl; have hfz8_0 := blk_frozen BK513.out 0; have hfz8_1 := blk_frozen BK513.out 1) | ((with_reducible refine gate_callee (f := 60) rfl ?_); refine goesL_ (some 11) rfl rfl Tryz.func60 Z6 rfl #[.slice A0 l0.length c0, .agg #[.string a1_0, .string a1_1]] rfl Z1 ?_; (with_reducible refine (prime_open.calls k _ _ l0 a1_0 a1_1 t514 _ ?side1 ?side2 ?side3 A3.out).mono ?_); (case side1 => exact Z4); (case side2 => exact Z58); (case side3 => exact Z200); rintro e w9 ⟨rfl, hb⟩; refine ⟨_, rfl, ?_⟩; have n0_ := AS (blk_below (g := gb513) (o := .cells #[.string a1_0, .string a1_1] 53 (0, 0)) Z40 hb); have n1_ := AS (below_step Z7 hb); clear BK513; clear HB; have BK513 := n0_; have HB := n1_; clear n0_ n1_; (try clear hb); (try clear hb2); (try clear hk); (try clear hi); have hcz10_0 : w9.cell? ⟨gb513, 0, none⟩ = some (.string a1_0) := (blk_cell BK513.out 0).trans rfl; have hcz10_1 : w9.cell? ⟨gb513, 1, none⟩ = some (.string a1_1) := (blk_cell BK513.out 1).trans rfl; have hfz10_0 := blk_frozen BK513.out 0; have hfz10_1 := blk_frozen BK513.out 1) | ((with_reducible refine gate_callee (f := 68) rfl ?_); refine goesL_ (some 16) rfl rfl Tryz.func68 Z6 rfl #[.agg #[.string a1_0, .string a1_1]] rfl Z1 ?_; (with_reducible refine (fraction_Sign.calls a1_0 a1_1 t515 _ ?side1 A5.out).mono ?_); (case side1 => exact Z200); rintro e w11 ⟨rfl, hb⟩; refine ⟨_, rfl, ?_⟩; have n0_ := AS (blk_below (g := gb513) (o := .cells #[.string a1_0, .string a1_1] 53 (0, 0)) Z40 hb); have n1_ := AS (below_step Z7 hb); clear BK513; clear HB; have BK513 := n0_; have HB := n1_; clear n0_ n1_; (try clear hb); (try clear hb2); (try clear hk); (try clear hi)))
   go_ret2
   exact ⟨_, Z2, Z22, Z7⟩
  ·rw [if_neg c6] at H
   have c6b0 : decide (t515 ≤ 0) = false := decide_eq_false c6
   clear c6
   replace H := Option.bind_eq_some_iff.mp H
   obtain ⟨⟨t516, t519⟩, A120, H⟩ := H
   replace H : (if t519 = true then ((prime_far.f t516).bind fun t520 => (if t520 = true then (some (([] : List Int), 4)) else (some (t516, 0)))) else (some (([] : List Int), 25))) = some (r1, r2) := H
   have A12 := AS A120
   clear A120
   by_cases c13 : t519 = true
   ·subst c13
    have H1 : ((prime_far.f t516).bind fun t520 => (if t520 = true then (some (([] : List Int), 4)) else (some (t516, 0)))) = some (r1, r2) := by rw [if_pos rfl] at H; exact H
    clear H
    have H := H1
    clear H1
    replace H := Option.bind_eq_some_iff.mp H
    obtain ⟨t520, A140, H⟩ := H
    replace H : (if t520 = true then (some (([] : List Int), 4)) else (some (t516, 0))) = some (r1, r2) := H
    have A14 := AS A140
    clear A140
    by_cases c15 : t520 = true
    ·subst c15
     have H1 : (some (([] : List Int), 4)) = some (r1, r2) := by rw [if_pos rfl] at H; exact H
     clear H
     have H := H1
     clear H1
     simp only [Option.some.injEq, Prod.mk.injEq] at H
     obtain ⟨rfl, rfl⟩ := H
     go_enter Tryz.func87, Tryz.ntmps87
     go_wp2_with (first | ((with_reducible refine gate_dst (N := 3) rfl ?_); refine box_event ?hg (N := 3) ?hd (cs := #[.string a1_0, .string a1_1]) (t := 53) ?hr ?_; (case hd => rfl); (case hg => rfl); (case hr => exact Z13); intro gb513 hg w16 hbox hb; have n0_ := AS (below_step Z0 hb); have n1_ := AS (hbox); have n2_ := AS ((Z184 : w.heap.size ≤ gb513)); have n3_ := AS ((Z184 : w.heap.size ≤ gb513)); clear HB; have HB := n0_; have BK513 := n1_; have GW513 := n2_; have GE513 := n3_; clear n0_ n1_ n2_ n3_; clear hb hbox hg; have hcz17_0 : w16.cell? ⟨gb513, 0, none⟩ = some (.string a1_0) := (blk_cell BK513.out 0).trans rfl; have hcz17_1 : w16.cell? ⟨gb513, 1, none⟩ = some (.string a1_1) := (blk_cell BK513.out 1).trans rfl; have hfz17_0 := blk_frozen BK513.out 0; have hfz17_1 := blk_frozen BK513.out 1) | ((with_reducible refine gate_callee (f := 60) rfl ?_); refine goesL_ (some 11) rfl rfl Tryz.func60 Z6 rfl #[.slice A0 l0.length c0, .agg #[.string a1_0, .string a1_1]] rfl Z1 ?_; (with_reducible refine (prime_open.calls k _ _ l0 a1_0 a1_1 t514 _ ?side1 ?side2 ?side3 A3.out).mono ?_); (case side1 => exact Z4); (case side2 => exact Z58); (case side3 => exact Z200); rintro e w18 ⟨rfl, hb⟩; refine ⟨_, rfl, ?_⟩; have n0_ := AS (blk_below (g := gb513) (o := .cells #[.string a1_0, .string a1_1] 53 (0, 0)) Z40 hb); have n1_ := AS (below_step Z7 hb); clear BK513; clear HB; have BK513 := n0_; have HB := n1_; clear n0_ n1_; (try clear hb); (try clear hb2); (try clear hk); (try clear hi); have hcz19_0 : w18.cell? ⟨gb513, 0, none⟩ = some (.string a1_0) := (blk_cell BK513.out 0).trans rfl; have hcz19_1 : w18.cell? ⟨gb513, 1, none⟩ = some (.string a1_1) := (blk_cell BK513.out 1).trans rfl; have hfz19_0 := blk_frozen BK513.out 0; have hfz19_1 := blk_frozen BK513.out 1) | ((with_reducible refine gate_callee (f := 68) rfl ?_); refine goesL_ (some 16) rfl rfl Tryz.func68 Z6 rfl #[.agg #[.string a1_0, .string a1_1]] rfl Z1 ?_; (with_reducible refine (fraction_Sign.calls a1_0 a1_1 t515 _ ?side1 A5.out).mono ?_); (case side1 => exact Z200); rintro e w20 ⟨rfl, hb⟩; refine ⟨_, rfl, ?_⟩; have n0_ := AS (blk_below (g := gb513) (o := .cells #[.string a1_0, .string a1_1] 53 (0, 0)) Z40 hb); have n1_ := AS (below_step Z7 hb); clear BK513; clear HB; have BK513 := n0_; have HB := n1_; clear n0_ n1_; (try clear hb); (try clear hb2); (try clear hk); (try clear hi); have hcz21_0 : w20.cell? ⟨gb513, 0, none⟩ = some (.string a1_0) := (blk_cell BK513.out 0).trans rfl; have hcz21_1 : w20.cell? ⟨gb513, 1, none⟩ = some (.string a1_1) := (blk_cell BK513.out 1).trans rfl; have hfz21_0 := blk_frozen BK513.out 0; have hfz21_1 := blk_frozen BK513.out 1) | ((with_reducible refine gate_callee (f := 61) rfl ?_); refine goesL_ (some 21) rfl rfl Tryz.func61 Z6 rfl #[.slice A0 l0.length c0, .agg #[.string a1_0, .string a1_1]] rfl Z1 ?_; (with_reducible refine (prime_factor.calls k _ _ l0 a1_0 a1_1 t516 true _ ?side1 ?side2 ?side3 A12.out).mono ?_); (case side1 => exact Z4); (case side2 => exact Z58); (case side3 => exact Z200); rintro e w22 ⟨v517, rfl, ho0, hb⟩; refine ⟨_, rfl, ?_⟩; have n0_ := AS (Kd.R_lower ho0 (below_size Z7)); have n1_ := AS (blk_below (g := gb513) (o := .cells #[.string a1_0, .string a1_1] 53 (0, 0)) Z40 hb); have n2_ := AS (below_step Z7 hb); clear BK513; clear HB; have HO518 := n0_; have BK513 := n1_; have HB := n2_; clear n0_ n1_ n2_; (try clear hb); (try clear hb2); (try clear hk); (try clear hi); (try clear ho0); obtain ⟨Ao23, co23, eo23⟩ := Kd.R_slice HO518.out; subst eo23) | ((with_reducible refine gate_callee (f := 116) rfl ?_); refine goesL_ (some 27) rfl rfl Tryz.func116 Z6 rfl #[.slice Ao23 t516.length co23] rfl Z1 ?_; (with_reducible refine (prime_far.calls _ _ t516 true _ ?side1 ?side2 ?side3 A14.out).mono ?_); (case side1 => exact Z134); (case side2 => exact (Kd.R_reads' HO518.out).2.1); (case side3 => exact Z200); rintro e w24 ⟨rfl, hb⟩; refine ⟨_, rfl, ?_⟩; have n0_ := AS (Kd.R_below Z142 hb); have n1_ := AS (blk_below (g := gb513) (o := .cells #[.string a1_0, .string a1_1] 53 (0, 0)) Z40 hb); have n2_ := AS (below_step Z7 hb); clear HO518; clear BK513; clear HB; have HO518 := n0_; have BK513 := n1_; have HB := n2_; clear n0_ n1_ n2_; (try clear hb); (try clear hb2); (try clear hk); (try clear hi)))
     go_ret2
     exact ⟨_, Z2, Z22, Z7⟩
    ·replace c15 := Bool.eq_false_iff.mpr c15
     subst c15
     have H1 : (some (t516, 0)) = some (r1, r2) := by rw [if_neg (show ¬ (false = true) by decide)] at H; exact H
     clear H
     have H := H1
     clear H1
     simp only [Option.some.injEq, Prod.mk.injEq] at H
     obtain ⟨rfl, rfl⟩ := H
     go_enter Tryz.func87, Tryz.ntmps87
     go_wp2_with (first | ((with_reducible refine gate_dst (N := 3) rfl ?_); refine box_event ?hg (N := 3) ?hd (cs := #[.string a1_0, .string a1_1]) (t := 53) ?hr ?_; (case hd => rfl); (case hg => rfl); (case hr => exact Z13); intro gb513 hg w25 hbox hb; have n0_ := AS (below_step Z0 hb); have n1_ := AS (hbox); have n2_ := AS ((Z184 : w.heap.size ≤ gb513)); have n3_ := AS ((Z184 : w.heap.size ≤ gb513)); clear HB; have HB := n0_; have BK513 := n1_; have GW513 := n2_; have GE513 := n3_; clear n0_ n1_ n2_ n3_; clear hb hbox hg; have hcz26_0 : w25.cell? ⟨gb513, 0, none⟩ = some (.string a1_0) := (blk_cell BK513.out 0).trans rfl; have hcz26_1 : w25.cell? ⟨gb513, 1, none⟩ = some (.string a1_1) := (blk_cell BK513.out 1).trans rfl; have hfz26_0 := blk_frozen BK513.out 0; have hfz26_1 := blk_frozen BK513.out 1) | ((with_reducible refine gate_callee (f := 60) rfl ?_); refine goesL_ (some 11) rfl rfl Tryz.func60 Z6 rfl #[.slice A0 l0.length c0, .agg #[.string a1_0, .string a1_1]] rfl Z1 ?_; (with_reducible refine (prime_open.calls k _ _ l0 a1_0 a1_1 t514 _ ?side1 ?side2 ?side3 A3.out).mono ?_); (case side1 => exact Z4); (case side2 => exact Z58); (case side3 => exact Z200); rintro e w27 ⟨rfl, hb⟩; refine ⟨_, rfl, ?_⟩; have n0_ := AS (blk_below (g := gb513) (o := .cells #[.string a1_0, .string a1_1] 53 (0, 0)) Z40 hb); have n1_ := AS (below_step Z7 hb); clear BK513; clear HB; have BK513 := n0_; have HB := n1_; clear n0_ n1_; (try clear hb); (try clear hb2); (try clear hk); (try clear hi); have hcz28_0 : w27.cell? ⟨gb513, 0, none⟩ = some (.string a1_0) := (blk_cell BK513.out 0).trans rfl; have hcz28_1 : w27.cell? ⟨gb513, 1, none⟩ = some (.string a1_1) := (blk_cell BK513.out 1).trans rfl; have hfz28_0 := blk_frozen BK513.out 0; have hfz28_1 := blk_frozen BK513.out 1) | ((with_reducible refine gate_callee (f := 68) rfl ?_); refine goesL_ (some 16) rfl rfl Tryz.func68 Z6 rfl #[.agg #[.string a1_0, .string a1_1]] rfl Z1 ?_; (with_reducible refine (fraction_Sign.calls a1_0 a1_1 t515 _ ?side1 A5.out).mono ?_); (case side1 => exact Z200); rintro e w29 ⟨rfl, hb⟩; refine ⟨_, rfl, ?_⟩; have n0_ := AS (blk_below (g := gb513) (o := .cells #[.string a1_0, .string a1_1] 53 (0, 0)) Z40 hb); have n1_ := AS (below_step Z7 hb); clear BK513; clear HB; have BK513 := n0_; have HB := n1_; clear n0_ n1_; (try clear hb); (try clear hb2); (try clear hk); (try clear hi); have hcz30_0 : w29.cell? ⟨gb513, 0, none⟩ = some (.string a1_0) := (blk_cell BK513.out 0).trans rfl; have hcz30_1 : w29.cell? ⟨gb513, 1, none⟩ = some (.string a1_1) := (blk_cell BK513.out 1).trans rfl; have hfz30_0 := blk_frozen BK513.out 0; have hfz30_1 := blk_frozen BK513.out 1) | ((with_reducible refine gate_callee (f := 61) rfl ?_); refine goesL_ (some 21) rfl rfl Tryz.func61 Z6 rfl #[.slice A0 l0.length c0, .agg #[.string a1_0, .string a1_1]] rfl Z1 ?_; (with_reducible refine (prime_factor.calls k _ _ l0 a1_0 a1_1 t516 true _ ?side1 ?side2 ?side3 A12.out).mono ?_); (case side1 => exact Z4); (case side2 => exact Z58); (case side3 => exact Z200); rintro e w31 ⟨v517, rfl, ho0, hb⟩; refine ⟨_, rfl, ?_⟩; have n0_ := AS (Kd.R_lower ho0 (below_size Z7)); have n1_ := AS (blk_below (g := gb513) (o := .cells #[.string a1_0, .string a1_1] 53 (0, 0)) Z40 hb); have n2_ := AS (below_step Z7 hb); clear BK513; clear HB; have HO518 := n0_; have BK513 := n1_; have HB := n2_; clear n0_ n1_ n2_; (try clear hb); (try clear hb2); (try clear hk); (try clear hi); (try clear ho0); obtain ⟨Ao32, co32, eo32⟩ := Kd.R_slice HO518.out; subst eo32) | ((with_reducible refine gate_callee (f := 116) rfl ?_); refine goesL_ (some 27) rfl rfl Tryz.func116 Z6 rfl #[.slice Ao32 t516.length co32] rfl Z1 ?_; (with_reducible refine (prime_far.calls _ _ t516 false _ ?side1 ?side2 ?side3 A14.out).mono ?_); (case side1 => exact Z134); (case side2 => exact (Kd.R_reads' HO518.out).2.1); (case side3 => exact Z200); rintro e w33 ⟨rfl, hb⟩; refine ⟨_, rfl, ?_⟩; have n0_ := AS (Kd.R_below Z142 hb); have n1_ := AS (blk_below (g := gb513) (o := .cells #[.string a1_0, .string a1_1] 53 (0, 0)) Z40 hb); have n2_ := AS (below_step Z7 hb); clear HO518; clear BK513; clear HB; have HO518 := n0_; have BK513 := n1_; have HB := n2_; clear n0_ n1_ n2_; (try clear hb); (try clear hb2); (try clear hk); (try clear hi)))
     go_ret2
     exact ⟨_, Z2, Z142, Z7⟩
   ·replace c13 := Bool.eq_false_iff.mpr c13
    subst c13
    have H1 : (some (([] : List Int), 25)) = some (r1, r2) := by rw [if_neg (show ¬ (false = true) by decide)] at H; exact H
    clear H
    have H := H1
    clear H1
    simp only [Option.some.injEq, Prod.mk.injEq] at H
    obtain ⟨rfl, rfl⟩ := H
    go_enter Tryz.func87, Tryz.ntmps87
    go_wp2_with (first | ((with_reducible refine gate_dst (N := 3) rfl ?_); refine box_event ?hg (N := 3) ?hd (cs := #[.string a1_0, .string a1_1]) (t := 53) ?hr ?_; (case hd => rfl); (case hg => rfl); (case hr => exact Z13); intro gb513 hg w34 hbox hb; have n0_ := AS (below_step Z0 hb); have n1_ := AS (hbox); have n2_ := AS ((Z184 : w.heap.size ≤ gb513)); have n3_ := AS ((Z184 : w.heap.size ≤ gb513)); clear HB; have HB := n0_; have BK513 := n1_; have GW513 := n2_; have GE513 := n3_; clear n0_ n1_ n2_ n3_; clear hb hbox hg; have hcz35_0 : w34.cell? ⟨gb513, 0, none⟩ = some (.string a1_0) := (blk_cell BK513.out 0).trans rfl; have hcz35_1 : w34.cell? ⟨gb513, 1, none⟩ = some (.string a1_1) := (blk_cell BK513.out 1).trans rfl; have hfz35_0 := blk_frozen BK513.out 0; have hfz35_1 := blk_frozen BK513.out 1) | ((with_reducible refine gate_callee (f := 60) rfl ?_); refine goesL_ (some 11) rfl rfl Tryz.func60 Z6 rfl #[.slice A0 l0.length c0, .agg #[.string a1_0, .string a1_1]] rfl Z1 ?_; (with_reducible refine (prime_open.calls k _ _ l0 a1_0 a1_1 t514 _ ?side1 ?side2 ?side3 A3.out).mono ?_); (case side1 => exact Z4); (case side2 => exact Z58); (case side3 => exact Z200); rintro e w36 ⟨rfl, hb⟩; refine ⟨_, rfl, ?_⟩; have n0_ := AS (blk_below (g := gb513) (o := .cells #[.string a1_0, .string a1_1] 53 (0, 0)) Z40 hb); have n1_ := AS (below_step Z7 hb); clear BK513; clear HB; have BK513 := n0_; have HB := n1_; clear n0_ n1_; (try clear hb); (try clear hb2); (try clear hk); (try clear hi); have hcz37_0 : w36.cell? ⟨gb513, 0, none⟩ = some (.string a1_0) := (blk_cell BK513.out 0).trans rfl; have hcz37_1 : w36.cell? ⟨gb513, 1, none⟩ = some (.string a1_1) := (blk_cell BK513.out 1).trans rfl; have hfz37_0 := blk_frozen BK513.out 0; have hfz37_1 := blk_frozen BK513.out 1) | ((with_reducible refine gate_callee (f := 68) rfl ?_); refine goesL_ (some 16) rfl rfl Tryz.func68 Z6 rfl #[.agg #[.string a1_0, .string a1_1]] rfl Z1 ?_; (with_reducible refine (fraction_Sign.calls a1_0 a1_1 t515 _ ?side1 A5.out).mono ?_); (case side1 => exact Z200); rintro e w38 ⟨rfl, hb⟩; refine ⟨_, rfl, ?_⟩; have n0_ := AS (blk_below (g := gb513) (o := .cells #[.string a1_0, .string a1_1] 53 (0, 0)) Z40 hb); have n1_ := AS (below_step Z7 hb); clear BK513; clear HB; have BK513 := n0_; have HB := n1_; clear n0_ n1_; (try clear hb); (try clear hb2); (try clear hk); (try clear hi); have hcz39_0 : w38.cell? ⟨gb513, 0, none⟩ = some (.string a1_0) := (blk_cell BK513.out 0).trans rfl; have hcz39_1 : w38.cell? ⟨gb513, 1, none⟩ = some (.string a1_1) := (blk_cell BK513.out 1).trans rfl; have hfz39_0 := blk_frozen BK513.out 0; have hfz39_1 := blk_frozen BK513.out 1) | ((with_reducible refine gate_callee (f := 61) rfl ?_); refine goesL_ (some 21) rfl rfl Tryz.func61 Z6 rfl #[.slice A0 l0.length c0, .agg #[.string a1_0, .string a1_1]] rfl Z1 ?_; (with_reducible refine (prime_factor.calls k _ _ l0 a1_0 a1_1 t516 false _ ?side1 ?side2 ?side3 A12.out).mono ?_); (case side1 => exact Z4); (case side2 => exact Z58); (case side3 => exact Z200); rintro e w40 ⟨v517, rfl, ho0, hb⟩; refine ⟨_, rfl, ?_⟩; have n0_ := AS (Kd.R_lower ho0 (below_size Z7)); have n1_ := AS (blk_below (g := gb513) (o := .cells #[.string a1_0, .string a1_1] 53 (0, 0)) Z40 hb); have n2_ := AS (below_step Z7 hb); clear BK513; clear HB; have HO518 := n0_; have BK513 := n1_; have HB := n2_; clear n0_ n1_ n2_; (try clear hb); (try clear hb2); (try clear hk); (try clear hi); (try clear ho0)))
    go_ret2
    exact ⟨_, Z2, Z22, Z7⟩
 ·rw [if_neg c4] at H
  have c4b0 : (t514 == 0) = false := beq_eq_false_iff_ne.mpr c4
  have c4b1 : (t514 != 0) = true := bne_iff_ne.mpr c4
  simp only [Option.some.injEq, Prod.mk.injEq] at H
  obtain ⟨rfl, rfl⟩ := H
  go_enter Tryz.func87, Tryz.ntmps87
  go_wp2_with (first | ((with_reducible refine gate_dst (N := 3) rfl ?_); refine box_event ?hg (N := 3) ?hd (cs := #[.string a1_0, .string a1_1]) (t := 53) ?hr ?_; (case hd => rfl); (case hg => rfl); (case hr => exact Z13); intro gb513 hg w41 hbox hb; have n0_ := AS (below_step Z0 hb); have n1_ := AS (hbox); have n2_ := AS ((Z184 : w.heap.size ≤ gb513)); have n3_ := AS ((Z184 : w.heap.size ≤ gb513)); clear HB; have HB := n0_; have BK513 := n1_; have GW513 := n2_; have GE513 := n3_; clear n0_ n1_ n2_ n3_; clear hb hbox hg; have hcz42_0 : w41.cell? ⟨gb513, 0, none⟩ = some (.string a1_0) := (blk_cell BK513.out 0).trans rfl; have hcz42_1 : w41.cell? ⟨gb513, 1, none⟩ = some (.string a1_1) := (blk_cell BK513.out 1).trans rfl; have hfz42_0 := blk_frozen BK513.out 0; have hfz42_1 := blk_frozen BK513.out 1) | ((with_reducible refine gate_callee (f := 60) rfl ?_); refine goesL_ (some 11) rfl rfl Tryz.func60 Z6 rfl #[.slice A0 l0.length c0, .agg #[.string a1_0, .string a1_1]] rfl Z1 ?_; (with_reducible refine (prime_open.calls k _ _ l0 a1_0 a1_1 t514 _ ?side1 ?side2 ?side3 A3.out).mono ?_); (case side1 => exact Z4); (case side2 => exact Z58); (case side3 => exact Z200); rintro e w43 ⟨rfl, hb⟩; refine ⟨_, rfl, ?_⟩; have n0_ := AS (blk_below (g := gb513) (o := .cells #[.string a1_0, .string a1_1] 53 (0, 0)) Z40 hb); have n1_ := AS (below_step Z7 hb); clear BK513; clear HB; have BK513 := n0_; have HB := n1_; clear n0_ n1_; (try clear hb); (try clear hb2); (try clear hk); (try clear hi)))
  go_ret2
  exact ⟨_, Z2, Z22, Z7⟩
def target_number.f (k : Nat) (l0 : List Int) (a1 : Int) : Option (List Int × Bool) := (fraction_Of.f k a1 1).bind fun bt521 => (if bt521.2.2 = 0 then ((prime_Factor.f k l0 bt521.1 bt521.2.1).bind fun bt525 => (some (bt525.1, (bt525.2 == 0)))) else (some (([] : List Int), false)))
set_option maxHeartbeats 8000000 in
set_option maxRecDepth 100000 in
theorem target_number.calls (k : Nat) (A0 : Option Addr) (c0 : Nat) (l0 : List Int) (a1 : Int) (r1 : List Int) (r2 : Bool) (w : World) (hr0 : Kd.C (Kd.int .i64) w A0 l0.length l0) (hc0 : l0.length ≤ c0) (hG : GL w) (h : target_number.f k l0 a1 = some (r1, r2)) :
  Calls Tryz.prog 57 #[.slice A0 l0.length c0, .int .i64 a1] w fun e w' => ∃ v0_ : Value, e = .returned (.tuple #[v0_, .bool r2]) ∧ Kd.R (Kd.int .i64) 3 w' w.heap.size (fun _ => True) v0_ r1 ∧ Below w.heap.size w w' := by
 have hu53 := Tryz.underlying53
 have HR0 := AS hr0
 have HC0 := AS hc0
 clear hr0 hc0
 have HB := AS (Below.refl w.heap.size w)
 have H : ((fraction_Of.f k a1 1).bind fun bt521 => (if bt521.2.2 = 0 then ((prime_Factor.f k l0 bt521.1 bt521.2.1).bind fun bt525 => (some (bt525.1, (bt525.2 == 0)))) else (some (([] : List Int), false)))) = some (r1, r2) := h
 clear h
 replace H := Option.bind_eq_some_iff.mp H
 obtain ⟨⟨t521, t522, t523⟩, A30, H⟩ := H
 replace H : (if t523 = 0 then ((prime_Factor.f k l0 t521 t522).bind fun bt525 => (some (bt525.1, (bt525.2 == 0)))) else (some (([] : List Int), false))) = some (r1, r2) := H
 have A3 := AS A30
 clear A30
 by_cases c4 : t523 = 0
 ·rw [if_pos c4] at H
  have c4b0 : (t523 == 0) = true := beq_iff_eq.mpr c4
  have c4b1 : (t523 != 0) = false := bne_eq_false_iff_eq.mpr c4
  clear c4
  replace H := Option.bind_eq_some_iff.mp H
  obtain ⟨⟨t525, t528⟩, A50, H⟩ := H
  replace H : (some (t525, (t528 == 0))) = some (r1, r2) := H
  have A5 := AS A50
  clear A50
  simp only [Option.some.injEq, Prod.mk.injEq] at H
  obtain ⟨rfl, rfl⟩ := H
  go_enter Tryz.func57, Tryz.ntmps57
  go_wp2_with (first | ((with_reducible refine gate_callee (f := 29) rfl ?_); refine goesL_ (some 11) rfl rfl Tryz.func29 Z6 rfl #[.int .i64 a1, .int .i64 1] rfl Z1 ?_; (with_reducible refine (fraction_Of.calls k a1 1 t521 t522 t523 _ ?side1 A3.out).mono ?_); (case side1 => exact Z183); rintro e w6 ⟨rfl, hb⟩; refine ⟨_, rfl, ?_⟩; have n0_ := AS (below_step Z0 hb); clear HB; have HB := n0_; clear n0_; (try clear hb); (try clear hb2); (try clear hk); (try clear hi)) | ((with_reducible refine gate_dst (N := 6) rfl ?_); refine box_event ?hg (N := 6) ?hd (cs := #[.string (⟨#[]⟩ : ByteArray), .string (⟨#[]⟩ : ByteArray)]) (t := 53) ?hr ?_; (case hd => rfl); (case hg => rfl); (case hr => exact Z13); intro gb524 hg w7 hbox hb; have n0_ := AS (below_step Z0 hb); have n1_ := AS (hbox); have n2_ := AS ((Z184 : w.heap.size ≤ gb524)); have n3_ := AS ((Z184 : w.heap.size ≤ gb524)); clear HB; have HB := n0_; have BK524 := n1_; have GW524 := n2_; have GE524 := n3_; clear n0_ n1_ n2_ n3_; clear hb hbox hg; have hcz8_0 : w7.cell? ⟨gb524, 0, none⟩ = some (.string (⟨#[]⟩ : ByteArray)) := (blk_cell BK524.out 0).trans rfl; have hcz8_1 : w7.cell? ⟨gb524, 1, none⟩ = some (.string (⟨#[]⟩ : ByteArray)) := (blk_cell BK524.out 1).trans rfl; have hfz8_0 := blk_frozen BK524.out 0; have hfz8_1 := blk_frozen BK524.out 1) | ((with_reducible refine gate_callee (f := 87) rfl ?_); refine goesL_ (some 19) rfl rfl Tryz.func87 Z6 rfl #[.slice A0 l0.length c0, .agg #[.string t521, .string t522]] rfl Z1 ?_; (with_reducible refine (prime_Factor.calls k _ _ l0 t521 t522 t525 t528 _ ?side1 ?side2 ?side3 A5.out).mono ?_); (case side1 => exact Kd.C_below HR0.out Z70); (case side2 => exact Z58); (case side3 => exact GL.below hG Z70); rintro e w9 ⟨v526, rfl, ho0, hb⟩; refine ⟨_, rfl, ?_⟩; have n0_ := AS (Kd.R_lower ho0 (below_size Z70)); have n1_ := AS (blk_below (g := gb524) (o := .cells #[.string t521, .string t522] 53 (0, 0)) (by (with_reducible repeat (first | refine blk_drewN ?_ _ | refine blk_drew ?_ | refine blk_alloc ?_ _)); refine blk_put (cs := #[.string t521, .string (⟨#[]⟩ : ByteArray)]) ?_ 1 _ rfl; (with_reducible repeat (first | refine blk_drewN ?_ _ | refine blk_drew ?_ | refine blk_alloc ?_ _)); refine blk_put (cs := #[.string (⟨#[]⟩ : ByteArray), .string (⟨#[]⟩ : ByteArray)]) ?_ 0 _ rfl; (with_reducible repeat (first | refine blk_drewN ?_ _ | refine blk_drew ?_ | refine blk_alloc ?_ _)); exact BK524.out) hb); have n2_ := AS (below_step Z70 hb); clear BK524; clear HB; have HO527 := n0_; have BK524 := n1_; have HB := n2_; clear n0_ n1_ n2_; (try clear hb); (try clear hb2); (try clear hk); (try clear hi); (try clear ho0)))
  go_ret2
  exact ⟨_, Z2, by (with_reducible repeat (first | apply Kd.R_alloc | apply Kd.R_drewN | apply Kd.R_drew)); exact HO527.out, Z70⟩
 ·rw [if_neg c4] at H
  have c4b0 : (t523 == 0) = false := beq_eq_false_iff_ne.mpr c4
  have c4b1 : (t523 != 0) = true := bne_iff_ne.mpr c4
  simp only [Option.some.injEq, Prod.mk.injEq] at H
  obtain ⟨rfl, rfl⟩ := H
  go_enter Tryz.func57, Tryz.ntmps57
  go_wp2_with (first | ((with_reducible refine gate_callee (f := 29) rfl ?_); refine goesL_ (some 11) rfl rfl Tryz.func29 Z6 rfl #[.int .i64 a1, .int .i64 1] rfl Z1 ?_; (with_reducible refine (fraction_Of.calls k a1 1 t521 t522 t523 _ ?side1 A3.out).mono ?_); (case side1 => exact Z183); rintro e w10 ⟨rfl, hb⟩; refine ⟨_, rfl, ?_⟩; have n0_ := AS (below_step Z0 hb); clear HB; have HB := n0_; clear n0_; (try clear hb); (try clear hb2); (try clear hk); (try clear hi)) | ((with_reducible refine gate_dst (N := 6) rfl ?_); refine box_event ?hg (N := 6) ?hd (cs := #[.string (⟨#[]⟩ : ByteArray), .string (⟨#[]⟩ : ByteArray)]) (t := 53) ?hr ?_; (case hd => rfl); (case hg => rfl); (case hr => exact Z13); intro gb524 hg w11 hbox hb; have n0_ := AS (below_step Z0 hb); have n1_ := AS (hbox); have n2_ := AS ((Z184 : w.heap.size ≤ gb524)); have n3_ := AS ((Z184 : w.heap.size ≤ gb524)); clear HB; have HB := n0_; have BK524 := n1_; have GW524 := n2_; have GE524 := n3_; clear n0_ n1_ n2_ n3_; clear hb hbox hg; have hcz12_0 : w11.cell? ⟨gb524, 0, none⟩ = some (.string (⟨#[]⟩ : ByteArray)) := (blk_cell BK524.out 0).trans rfl; have hcz12_1 : w11.cell? ⟨gb524, 1, none⟩ = some (.string (⟨#[]⟩ : ByteArray)) := (blk_cell BK524.out 1).trans rfl; have hfz12_0 := blk_frozen BK524.out 0; have hfz12_1 := blk_frozen BK524.out 1))
  go_ret2
  exact ⟨_, Z2, Z22, Z70⟩
def target_checkList.f (k : Nat) (l0 : List Int) (l1 : List (List Int)) : Option (Int) := (prime_Check.f k l0).bind fun t529 => (if t529 = 0 then (if (l1.length : Int) > 600 then (some 4) else ((monzo_CheckAll.f k l0 l1).bind fun t530 => (some t530))) else (some t529))
set_option maxHeartbeats 8000000 in
set_option maxRecDepth 100000 in
theorem target_checkList.calls (k : Nat) (A0 : Option Addr) (c0 : Nat) (l0 : List Int) (A1 : Option Addr) (c1 : Nat) (l1 : List (List Int)) (r : Int) (w : World) (hr0 : Kd.C (Kd.int .i64) w A0 l0.length l0) (hc0 : l0.length ≤ c0) (hr1 : Kd.C (Kd.slice 3 (Kd.int .i64)) w A1 l1.length l1) (hc1 : l1.length ≤ c1) (hG : GL w) (h : target_checkList.f k l0 l1 = some r) :
  Calls Tryz.prog 45 #[.slice A0 l0.length c0, .slice A1 l1.length c1] w fun e w' => e = .returned (.int .i64 r) ∧ Drawn0 w w' := by
 have HR0 := AS hr0
 have HC0 := AS hc0
 clear hr0 hc0
 have HR1 := AS hr1
 have HC1 := AS hc1
 clear hr1 hc1
 have HB := AS (Below.refl w.heap.size w)
 have H : ((prime_Check.f k l0).bind fun t529 => (if t529 = 0 then (if (l1.length : Int) > 600 then (some 4) else ((monzo_CheckAll.f k l0 l1).bind fun t530 => (some t530))) else (some t529))) = some r := h
 clear h
 replace H := Option.bind_eq_some_iff.mp H
 obtain ⟨t529, A30, H⟩ := H
 replace H : (if t529 = 0 then (if (l1.length : Int) > 600 then (some 4) else ((monzo_CheckAll.f k l0 l1).bind fun t530 => (some t530))) else (some t529)) = some r := H
 have A3 := AS A30
 clear A30
 by_cases c4 : t529 = 0
 ·rw [if_pos c4] at H
  have c4b0 : (t529 == 0) = true := beq_iff_eq.mpr c4
  have c4b1 : (t529 != 0) = false := bne_eq_false_iff_eq.mpr c4
  clear c4
  by_cases c5 : (l1.length : Int) > 600
  ·rw [if_pos c5] at H
   have c5b0 : decide (600 < (l1.length : Int)) = true := decide_eq_true c5
   have c5b1 : decide (600 < l1.length) = true := decide_eq_true (by omega)
   clear c5
   obtain rfl := Option.some.inj H
   go_enter Tryz.func45, Tryz.ntmps45
   go_wp2_with (first | ((with_reducible refine gate_callee (f := 25) rfl ?_); refine goesL_ (some 7) rfl rfl Tryz.func25 Z6 rfl #[.slice A0 l0.length c0] rfl Z1 ?_; (with_reducible refine (prime_Check.calls k _ _ l0 t529 _ ?side1 ?side2 ?side3 A3.out).mono ?_); (case side1 => exact Z12); (case side2 => exact Z58); (case side3 => exact Z183); rintro e w' ⟨rfl, ⟨nd, rfl⟩⟩; refine ⟨_, rfl, ?_⟩))
   go_ret
   exact ⟨Z5, Z15⟩
  ·rw [if_neg c5] at H
   have c5b0 : decide (600 < (l1.length : Int)) = false := decide_eq_false c5
   have c5b1 : decide (600 < l1.length) = false := decide_eq_false (by omega)
   clear c5
   replace H := Option.bind_eq_some_iff.mp H
   obtain ⟨t530, A60, H⟩ := H
   replace H : (some t530) = some r := H
   have A6 := AS A60
   clear A60
   obtain rfl := Option.some.inj H
   go_enter Tryz.func45, Tryz.ntmps45
   go_wp2_with (first | ((with_reducible refine gate_callee (f := 25) rfl ?_); refine goesL_ (some 7) rfl rfl Tryz.func25 Z6 rfl #[.slice A0 l0.length c0] rfl Z1 ?_; (with_reducible refine (prime_Check.calls k _ _ l0 t529 _ ?side1 ?side2 ?side3 A3.out).mono ?_); (case side1 => exact Z12); (case side2 => exact Z58); (case side3 => exact Z183); rintro e w' ⟨rfl, ⟨nd, rfl⟩⟩; refine ⟨_, rfl, ?_⟩) | ((with_reducible refine gate_callee (f := 32) rfl ?_); refine goesL_ (some 16) rfl rfl Tryz.func32 Z6 rfl #[.slice A0 l0.length c0, .slice A1 l1.length c1] rfl Z1 ?_; (with_reducible refine (monzo_CheckAll.calls k _ _ l0 _ _ l1 t530 _ ?side1 ?side2 ?side3 ?side4 ?side5 A6.out).mono ?_); (case side1 => exact Z12); (case side2 => exact Z58); (case side3 => exact Z36); (case side4 => exact Z145); (case side5 => exact Z183); rintro e w' ⟨rfl, ⟨nd, rfl⟩⟩; refine ⟨_, rfl, ?_⟩))
   go_ret
   exact ⟨Z5, Z15⟩
 ·rw [if_neg c4] at H
  have c4b0 : (t529 == 0) = false := beq_eq_false_iff_ne.mpr c4
  have c4b1 : (t529 != 0) = true := bne_iff_ne.mpr c4
  obtain rfl := Option.some.inj H
  go_enter Tryz.func45, Tryz.ntmps45
  go_wp2_with (first | ((with_reducible refine gate_callee (f := 25) rfl ?_); refine goesL_ (some 7) rfl rfl Tryz.func25 Z6 rfl #[.slice A0 l0.length c0] rfl Z1 ?_; (with_reducible refine (prime_Check.calls k _ _ l0 t529 _ ?side1 ?side2 ?side3 A3.out).mono ?_); (case side1 => exact Z12); (case side2 => exact Z58); (case side3 => exact Z183); rintro e w' ⟨rfl, ⟨nd, rfl⟩⟩; refine ⟨_, rfl, ?_⟩))
  go_ret
  exact ⟨Z5, Z15⟩
def target_checkLimit.f (k : Nat) (l0 : List Int) (a1 : Int) : Option (Int) := (prime_Check.f k l0).bind fun t531 => (if t531 = 0 then (if a1 < 1 then (some 3) else (if a1 > 99 then (some 3) else (some 0))) else (some t531))
set_option maxHeartbeats 8000000 in
set_option maxRecDepth 100000 in
theorem target_checkLimit.calls (k : Nat) (A0 : Option Addr) (c0 : Nat) (l0 : List Int) (a1 : Int) (r : Int) (w : World) (hr0 : Kd.C (Kd.int .i64) w A0 l0.length l0) (hc0 : l0.length ≤ c0) (hG : GL w) (h : target_checkLimit.f k l0 a1 = some r) :
  Calls Tryz.prog 50 #[.slice A0 l0.length c0, .int .i64 a1] w fun e w' => e = .returned (.int .i64 r) ∧ Drawn0 w w' := by
 have HR0 := AS hr0
 have HC0 := AS hc0
 clear hr0 hc0
 have HB := AS (Below.refl w.heap.size w)
 have H : ((prime_Check.f k l0).bind fun t531 => (if t531 = 0 then (if a1 < 1 then (some 3) else (if a1 > 99 then (some 3) else (some 0))) else (some t531))) = some r := h
 clear h
 replace H := Option.bind_eq_some_iff.mp H
 obtain ⟨t531, A30, H⟩ := H
 replace H : (if t531 = 0 then (if a1 < 1 then (some 3) else (if a1 > 99 then (some 3) else (some 0))) else (some t531)) = some r := H
 have A3 := AS A30
 clear A30
 by_cases c4 : t531 = 0
 ·rw [if_pos c4] at H
  have c4b0 : (t531 == 0) = true := beq_iff_eq.mpr c4
  have c4b1 : (t531 != 0) = false := bne_eq_false_iff_eq.mpr c4
  clear c4
  by_cases c5 : a1 < 1
  ·rw [if_pos c5] at H
   have c5b0 : decide (a1 < 1) = true := decide_eq_true c5
   clear c5
   obtain rfl := Option.some.inj H
   go_enter Tryz.func50, Tryz.ntmps50
   go_wp2_with (first | ((with_reducible refine gate_callee (f := 25) rfl ?_); refine goesL_ (some 7) rfl rfl Tryz.func25 Z6 rfl #[.slice A0 l0.length c0] rfl Z1 ?_; (with_reducible refine (prime_Check.calls k _ _ l0 t531 _ ?side1 ?side2 ?side3 A3.out).mono ?_); (case side1 => exact Z12); (case side2 => exact Z58); (case side3 => exact Z183); rintro e w' ⟨rfl, ⟨nd, rfl⟩⟩; refine ⟨_, rfl, ?_⟩))
   go_ret
   exact ⟨Z5, Z15⟩
  ·rw [if_neg c5] at H
   have c5b0 : decide (a1 < 1) = false := decide_eq_false c5
   clear c5
   by_cases c6 : a1 > 99
   ·rw [if_pos c6] at H
    have c6b0 : decide (99 < a1) = true := decide_eq_true c6
    clear c6
    obtain rfl := Option.some.inj H
    go_enter Tryz.func50, Tryz.ntmps50
    go_wp2_with (first | ((with_reducible refine gate_callee (f := 25) rfl ?_); refine goesL_ (some 7) rfl rfl Tryz.func25 Z6 rfl #[.slice A0 l0.length c0] rfl Z1 ?_; (with_reducible refine (prime_Check.calls k _ _ l0 t531 _ ?side1 ?side2 ?side3 A3.out).mono ?_); (case side1 => exact Z12); (case side2 => exact Z58); (case side3 => exact Z183); rintro e w' ⟨rfl, ⟨nd, rfl⟩⟩; refine ⟨_, rfl, ?_⟩))
    go_ret
    exact ⟨Z5, Z15⟩
   ·rw [if_neg c6] at H
    have c6b0 : decide (99 < a1) = false := decide_eq_false c6
    clear c6
    obtain rfl := Option.some.inj H
    go_enter Tryz.func50, Tryz.ntmps50
    go_wp2_with (first | ((with_reducible refine gate_callee (f := 25) rfl ?_); refine goesL_ (some 7) rfl rfl Tryz.func25 Z6 rfl #[.slice A0 l0.length c0] rfl Z1 ?_; (with_reducible refine (prime_Check.calls k _ _ l0 t531 _ ?side1 ?side2 ?side3 A3.out).mono ?_); (case side1 => exact Z12); (case side2 => exact Z58); (case side3 => exact Z183); rintro e w' ⟨rfl, ⟨nd, rfl⟩⟩; refine ⟨_, rfl, ?_⟩))
    go_ret
    exact ⟨Z5, Z15⟩
 ·rw [if_neg c4] at H
  have c4b0 : (t531 == 0) = false := beq_eq_false_iff_ne.mpr c4
  have c4b1 : (t531 != 0) = true := bne_iff_ne.mpr c4
  obtain rfl := Option.some.inj H
  go_enter Tryz.func50, Tryz.ntmps50
  go_wp2_with (first | ((with_reducible refine gate_callee (f := 25) rfl ?_); refine goesL_ (some 7) rfl rfl Tryz.func25 Z6 rfl #[.slice A0 l0.length c0] rfl Z1 ?_; (with_reducible refine (prime_Check.calls k _ _ l0 t531 _ ?side1 ?side2 ?side3 A3.out).mono ?_); (case side1 => exact Z12); (case side2 => exact Z58); (case side3 => exact Z183); rintro e w' ⟨rfl, ⟨nd, rfl⟩⟩; refine ⟨_, rfl, ?_⟩))
  go_ret
  exact ⟨Z5, Z15⟩
def api_Row_int_70.l0 : Nat → List Int → List Int → Int → Int → Option (Bool)
 | 0, _, _, _, _ => none
 | k + 1, x0, x1, x12, x13 => if x13 < x12 then (if 0 ≤ x13 then (if x13 < (x0.length : Int) then (if x13 < (x1.length : Int) then (if (rd x0 x13) = (rd x1 x13) then (api_Row_int_70.l0 k x0 x1 x12 (wrap64 (x13 + 1))) else (some false)) else (none)) else (none)) else (none)) else (some true)
def api_Row_int_70.f (k : Nat) (l0 : List Int) (l1 : List Int) : Option (Bool) := if (l0.length : Int) = (l1.length : Int) then (api_Row_int_70.l0 k l0 l1 (l0.length : Int) 0) else (some false)
set_option maxHeartbeats 8000000 in
set_option maxRecDepth 100000 in
theorem api_Row_int_70.calls (k : Nat) (A0 : Option Addr) (c0 : Nat) (l0 : List Int) (A1 : Option Addr) (c1 : Nat) (l1 : List Int) (r : Bool) (w : World) (hr0 : Kd.C (Kd.int .i64) w A0 l0.length l0) (hc0 : l0.length ≤ c0) (hr1 : Kd.C (Kd.int .i64) w A1 l1.length l1) (hc1 : l1.length ≤ c1) (hG : GL w) (h : api_Row_int_70.f k l0 l1 = some r) :
  Calls Tryz.prog 70 #[.slice A0 l0.length c0, .slice A1 l1.length c1] w fun e w' => e = .returned (.bool r) ∧ Drawn0 w w' := by
 have HR0 := AS hr0
 have HC0 := AS hc0
 clear hr0 hc0
 have HR1 := AS hr1
 have HC1 := AS hc1
 clear hr1 hc1
 have HB := AS (Below.refl w.heap.size w)
 have H : (if (l0.length : Int) = (l1.length : Int) then (api_Row_int_70.l0 k l0 l1 (l0.length : Int) 0) else (some false)) = some r := h
 clear h
 by_cases c3 : (l0.length : Int) = (l1.length : Int)
 ·rw [if_pos c3] at H
  have c3b0 : ((l0.length : Int) == (l1.length : Int)) = true := beq_iff_eq.mpr c3
  have c3b1 : ((l0.length : Int) != (l1.length : Int)) = false := bne_eq_false_iff_eq.mpr c3
  have c3b2 : (l0.length == l1.length) = true := by first | simpa using c3 | (simp at c3 ⊢; omega)
  clear c3
  have H' := AS H
  clear H
  go_enter Tryz.func70, Tryz.ntmps70
  go_wp2
  repeat (go_quiet (fail); try go_wp2)
  go_loopg [13] k (fun kq v13 w' => ∃ (x13_1 : Int), v13 = .int .i64 x13_1 ∧ Aside0 (api_Row_int_70.l0 kq l0 l1 (l0.length : Int) x13_1 = some r) ∧ Aside0 (kq ≤ k) ∧ Drawn0 w w')
  case atStart => exact ⟨(0), Z5, H', ⟨Nat.le_refl _⟩, Z15⟩
  case round =>
   clear H'
   try clear c1
   try clear p2
   try clear c3
   try clear c3b0
   try clear c3b1
   try clear c3b2
   obtain ⟨x13_1, rfl, HA, HK1, ⟨m1, rfl⟩⟩ := hrel
   cases gk with
   | zero => exact absurd HA.out (by simp [api_Row_int_70.l0])
   | succ k1 =>
    have H := HA.out
    clear HA
    simp only [api_Row_int_70.l0] at H
    by_cases c4 : x13_1 < (l0.length : Int)
    ·rw [if_pos c4] at H
     have c4b0 : decide (x13_1 < (l0.length : Int)) = true := decide_eq_true c4
     clear c4
     by_cases c5 : 0 ≤ x13_1
     ·rw [if_pos c5] at H
      have c5b0 : decide (0 ≤ x13_1) = true := decide_eq_true c5
      clear c5
      by_cases c6 : x13_1 < (l0.length : Int)
      ·rw [if_pos c6] at H
       have c6b0 : decide (x13_1 < (l0.length : Int)) = true := decide_eq_true c6
       clear c6
       by_cases c7 : x13_1 < (l1.length : Int)
       ·rw [if_pos c7] at H
        have c7b0 : decide (x13_1 < (l1.length : Int)) = true := decide_eq_true c7
        clear c7
        by_cases c8 : (rd l0 x13_1) = (rd l1 x13_1)
        ·rw [if_pos c8] at H
         have c8b0 : ((rd l0 x13_1) == (rd l1 x13_1)) = true := beq_iff_eq.mpr c8
         have c8b1 : ((rd l0 x13_1) != (rd l1 x13_1)) = false := bne_eq_false_iff_eq.mpr c8
         clear c8
         have H' := AS H
         clear H
         have p532 : 0 ≤ (x13_1 : Int) := of_decide_eq_true Z3
         have q532 : x13_1 < (l0.length : Int) := of_decide_eq_true Z3
         obtain ⟨ad532, e532, hx532_0⟩ := Kd.at_int HR0.out x13_1 p532 q532
         cases e532
         replace p532 := eq_true p532
         replace q532 := eq_true q532
         have p533 : 0 ≤ (x13_1 : Int) := of_decide_eq_true Z3
         have q533 : x13_1 < (l1.length : Int) := of_decide_eq_true Z3
         obtain ⟨ad533, e533, hx533_0⟩ := Kd.at_int HR1.out x13_1 p533 q533
         cases e533
         replace p533 := eq_true p533
         replace q533 := eq_true q533
         go_wp2
         repeat (go_quiet (fail); try go_wp2)
         go_roundg k1
         case measure => have := HK1.out; omega
         case rel => exact ⟨(wrap64 (x13_1 + 1)), Z5, H', ⟨Z101⟩, Z15⟩
        ·rw [if_neg c8] at H
         have c8b0 : ((rd l0 x13_1) == (rd l1 x13_1)) = false := beq_eq_false_iff_ne.mpr c8
         have c8b1 : ((rd l0 x13_1) != (rd l1 x13_1)) = true := bne_iff_ne.mpr c8
         obtain rfl := Option.some.inj H
         have p532 : 0 ≤ (x13_1 : Int) := of_decide_eq_true Z3
         have q532 : x13_1 < (l0.length : Int) := of_decide_eq_true Z3
         obtain ⟨ad532, e532, hx532_0⟩ := Kd.at_int HR0.out x13_1 p532 q532
         cases e532
         replace p532 := eq_true p532
         replace q532 := eq_true q532
         have p533 : 0 ≤ (x13_1 : Int) := of_decide_eq_true Z3
         have q533 : x13_1 < (l1.length : Int) := of_decide_eq_true Z3
         obtain ⟨ad533, e533, hx533_0⟩ := Kd.at_int HR1.out x13_1 p533 q533
         cases e533
         replace p533 := eq_true p533
         replace q533 := eq_true q533
         go_wp2
         repeat (go_quiet (fail); try go_wp2)
         go_ret
         exact ⟨Z5, Z15⟩
       ·rw [if_neg c7] at H
        exact absurd H (by simp)
      ·rw [if_neg c6] at H
       exact absurd H (by simp)
     ·rw [if_neg c5] at H
      exact absurd H (by simp)
    ·rw [if_neg c4] at H
     have c4b0 : decide (x13_1 < (l0.length : Int)) = false := decide_eq_false c4
     clear c4
     obtain rfl := Option.some.inj H
     go_wp2
     repeat (go_quiet (fail); try go_wp2)
     go_ret
     exact ⟨Z5, Z15⟩
 ·rw [if_neg c3] at H
  have c3b0 : ((l0.length : Int) == (l1.length : Int)) = false := beq_eq_false_iff_ne.mpr c3
  have c3b1 : ((l0.length : Int) != (l1.length : Int)) = true := bne_iff_ne.mpr c3
  have c3b2 : (l0.length == l1.length) = false := by first | simpa using c3 | (simp at c3 ⊢; omega)
  obtain rfl := Option.some.inj H
  go_enter Tryz.func70, Tryz.ntmps70
  go_wp2
  repeat (go_quiet (fail); try go_wp2)
  go_ret
  exact ⟨Z5, Z15⟩
def row_Equal.f (k : Nat) (l0 : List Int) (l1 : List Int) : Option (Bool) := (api_Row_int_70.f k l0 l1).bind fun t534 => (some t534)
set_option maxHeartbeats 8000000 in
set_option maxRecDepth 100000 in
theorem row_Equal.calls (k : Nat) (A0 : Option Addr) (c0 : Nat) (l0 : List Int) (A1 : Option Addr) (c1 : Nat) (l1 : List Int) (r : Bool) (w : World) (hr0 : Kd.C (Kd.int .i64) w A0 l0.length l0) (hc0 : l0.length ≤ c0) (hr1 : Kd.C (Kd.int .i64) w A1 l1.length l1) (hc1 : l1.length ≤ c1) (hG : GL w) (h : row_Equal.f k l0 l1 = some r) :
  Calls Tryz.prog 38 #[.slice A0 l0.length c0, .slice A1 l1.length c1] w fun e w' => e = .returned (.bool r) ∧ Drawn0 w w' := by
 have HR0 := AS hr0
 have HC0 := AS hc0
 clear hr0 hc0
 have HR1 := AS hr1
 have HC1 := AS hc1
 clear hr1 hc1
 have HB := AS (Below.refl w.heap.size w)
 have H : ((api_Row_int_70.f k l0 l1).bind fun t534 => (some t534)) = some r := h
 clear h
 replace H := Option.bind_eq_some_iff.mp H
 obtain ⟨t534, A30, H⟩ := H
 replace H : (some t534) = some r := H
 have A3 := AS A30
 clear A30
 obtain rfl := Option.some.inj H
 go_enter Tryz.func38, Tryz.ntmps38
 go_wp2_with (first | ((with_reducible refine gate_callee (f := 70) rfl ?_); refine goesL_ (some 7) rfl rfl Tryz.func70 Z6 rfl #[.slice A0 l0.length c0, .slice A1 l1.length c1] rfl Z1 ?_; (with_reducible refine (api_Row_int_70.calls k _ _ l0 _ _ l1 t534 _ ?side1 ?side2 ?side3 ?side4 ?side5 A3.out).mono ?_); (case side1 => exact Z12); (case side2 => exact Z58); (case side3 => exact Z36); (case side4 => exact Z145); (case side5 => exact Z183); rintro e w' ⟨rfl, ⟨nd, rfl⟩⟩; refine ⟨_, rfl, ?_⟩))
 go_ret
 exact ⟨Z5, Z15⟩
def schismalaw29_few.l0 : Nat → List (List Int) → Int → Option (Bool)
 | 0, _, _ => none
 | k + 1, x0, x3 => if x3 < (x0.length : Int) then (if 0 ≤ x3 then (if ((rd_L3 x0 x3).length : Int) > 8 then (some false) else (schismalaw29_few.l0 k x0 (wrap64 (x3 + 1)))) else (none)) else (some (decide ((x0.length : Int) ≤ 8)))
def schismalaw29_few.f (k : Nat) (l0 : List (List Int)) : Option (Bool) := schismalaw29_few.l0 k l0 0
set_option maxHeartbeats 8000000 in
set_option maxRecDepth 100000 in
theorem schismalaw29_few.calls (k : Nat) (A0 : Option Addr) (c0 : Nat) (l0 : List (List Int)) (r : Bool) (w : World) (hr0 : Kd.C (Kd.slice 3 (Kd.int .i64)) w A0 l0.length l0) (hc0 : l0.length ≤ c0) (hG : GL w) (h : schismalaw29_few.f k l0 = some r) :
  Calls Tryz.prog 31 #[.slice A0 l0.length c0] w fun e w' => e = .returned (.bool r) ∧ Drawn0 w w' := by
 have HR0 := AS hr0
 have HC0 := AS hc0
 clear hr0 hc0
 have HB := AS (Below.refl w.heap.size w)
 have H : (schismalaw29_few.l0 k l0 0) = some r := h
 clear h
 have H' := AS H
 clear H
 go_enter Tryz.func31, Tryz.ntmps31
 go_wp2
 go_loopg [3] k (fun kq v3 w' => ∃ (x3_1 : Int), v3 = .int .i64 x3_1 ∧ Aside0 (schismalaw29_few.l0 kq l0 x3_1 = some r) ∧ Aside0 (kq ≤ k) ∧ Drawn0 w w')
 case atStart => exact ⟨(0), Z5, H', ⟨Nat.le_refl _⟩, Z15⟩
 case round =>
  clear H'
  obtain ⟨x3_1, rfl, HA, HK1, ⟨m1, rfl⟩⟩ := hrel
  cases gk with
  | zero => exact absurd HA.out (by simp [schismalaw29_few.l0])
  | succ k1 =>
   have H := HA.out
   clear HA
   simp only [schismalaw29_few.l0] at H
   by_cases c2 : x3_1 < (l0.length : Int)
   ·rw [if_pos c2] at H
    have c2b0 : decide (x3_1 < (l0.length : Int)) = true := decide_eq_true c2
    clear c2
    by_cases c3 : 0 ≤ x3_1
    ·rw [if_pos c3] at H
     have c3b0 : decide (0 ≤ x3_1) = true := decide_eq_true c3
     clear c3
     by_cases c4 : ((rd_L3 l0 x3_1).length : Int) > 8
     ·rw [if_pos c4] at H
      have c4b0 : decide (8 < ((rd_L3 l0 x3_1).length : Int)) = true := decide_eq_true c4
      have c4b1 : decide (8 < (rd_L3 l0 x3_1).length) = true := decide_eq_true (by omega)
      clear c4
      obtain rfl := Option.some.inj H
      have p535 : 0 ≤ (x3_1 : Int) := of_decide_eq_true Z3
      have q535 : x3_1 < (l0.length : Int) := of_decide_eq_true Z3
      obtain ⟨ad535, A535_0, c535_0, e535, hx535_0, hl535_0, hi535_0⟩ := at_L3 HR0.out x3_1 p535 q535
      cases e535
      have HR535_0 := AS hi535_0
      have HC535_0 := AS hl535_0
      clear hi535_0 hl535_0
      replace p535 := eq_true p535
      replace q535 := eq_true q535
      go_wp2
      go_ret
      exact ⟨Z5, Z15⟩
     ·rw [if_neg c4] at H
      have c4b0 : decide (8 < ((rd_L3 l0 x3_1).length : Int)) = false := decide_eq_false c4
      have c4b1 : decide (8 < (rd_L3 l0 x3_1).length) = false := decide_eq_false (by omega)
      clear c4
      have H' := AS H
      clear H
      have p535 : 0 ≤ (x3_1 : Int) := of_decide_eq_true Z3
      have q535 : x3_1 < (l0.length : Int) := of_decide_eq_true Z3
      obtain ⟨ad535, A535_0, c535_0, e535, hx535_0, hl535_0, hi535_0⟩ := at_L3 HR0.out x3_1 p535 q535
      cases e535
      have HR535_0 := AS hi535_0
      have HC535_0 := AS hl535_0
      clear hi535_0 hl535_0
      replace p535 := eq_true p535
      replace q535 := eq_true q535
      go_wp2
      go_roundg k1
      case measure => have := HK1.out; omega
      case rel => exact ⟨(wrap64 (x3_1 + 1)), Z5, H', ⟨Z101⟩, Z15⟩
    ·rw [if_neg c3] at H
     exact absurd H (by simp)
   ·rw [if_neg c2] at H
    have c2b0 : decide (x3_1 < (l0.length : Int)) = false := decide_eq_false c2
    clear c2
    obtain rfl := Option.some.inj H
    go_wp2
    go_ret
    exact ⟨Z5, Z15⟩
section
open Go.Shelf
def fitsB (n : Int) : Bool := decide (-1000000000 ≤ n) && decide (n ≤ 1000000000)
def row_Check.f (l0 : List Int) : Option (Int) := some (if l0.length ≤ 64 ∧ l0.all fitsB = true then 0 else 4)
theorem fits_pred (w : World) : PredI 162 #[] (fun n => !fitsB n) w := fun W x _ => by
 by_cases h1 : -1000000000 ≤ x
 ·by_cases h2 : x ≤ 1000000000
  ·go_enter Tryz.func162, Tryz.ntmps162
   go_wp2
   go_ret
   exact ⟨ret_bool (by simp [fitsB, h1, h2]), 0, rfl⟩
  ·go_enter Tryz.func162, Tryz.ntmps162
   go_wp2
   go_ret
   exact ⟨ret_bool (by simp [fitsB, h1, h2]), 0, rfl⟩
 ·go_enter Tryz.func162, Tryz.ntmps162
  go_wp2
  go_ret
  exact ⟨ret_bool (by simp [fitsB, h1]), 0, rfl⟩
set_option maxHeartbeats 4000000 in
theorem row_Check.calls (A0 : Option Addr) (c0 : Nat) (l0 : List Int) (r : Int) (w : World) (hr0 : Kd.C (Kd.int .i64) w A0 l0.length l0) (hc0 : l0.length ≤ c0) (hG : GL w) (h : row_Check.f l0 = some r) :
  Calls Tryz.prog 134 #[.slice A0 l0.length c0] w fun e w' => e = .returned (.int .i64 r) ∧ Below w.heap.size w w' := by
 unfold row_Check.f at h
 obtain rfl := Option.some.inj h
 have hc := AS (containsFunc_row 162 #[] _ A0 c0 l0 w (enters_of Tryz.func162 Z6 rfl) (fits_pred w) hr0)
 have he : (l0.any fun n => !fitsB n) = !(l0.all fitsB) := by rw [List.all_eq_not_any_not]; simp
 have hm := Kd.C_max hr0
 clear hr0 h hG
 by_cases hl : l0.length ≤ 64
 ·rw [he] at hc
  cases hq : l0.all fitsB with
  | true =>
   rw [hq] at hc
   clear he hq
   rw [if_pos ⟨hl, rfl⟩]
   go_enter Tryz.func134, Tryz.ntmps134
   go_wp2_with (go_at_call 75; refine (hc.out).mono ?_; rintro e w' ⟨rfl, q, rfl⟩)
   go_ret
   exact ⟨rfl, below_drewN' _ _⟩
  | false =>
   rw [hq] at hc
   clear he hq
   rw [if_neg (by simp)]
   go_enter Tryz.func134, Tryz.ntmps134
   go_wp2_with (go_at_call 75; refine (hc.out).mono ?_; rintro e w' ⟨rfl, q, rfl⟩)
   go_ret
   exact ⟨rfl, below_drewN' _ _⟩
 ·rw [if_neg (by omega)]
  clear hc he
  go_enter Tryz.func134, Tryz.ntmps134
  go_wp2
  go_ret
  exact ⟨rfl, Below.refl _ _⟩
end
def row_both.f (l0 : List Int) (l1 : List Int) : Option (Int) := (row_Check.f l0).bind fun t536 => (if t536 = 0 then ((row_Check.f l1).bind fun t537 => (if t537 = 0 then (if (l0.length : Int) = (l1.length : Int) then (some 0) else (some 5)) else (some t537))) else (some t536))
set_option maxHeartbeats 8000000 in
set_option maxRecDepth 100000 in
theorem row_both.calls (A0 : Option Addr) (c0 : Nat) (l0 : List Int) (A1 : Option Addr) (c1 : Nat) (l1 : List Int) (r : Int) (w : World) (hr0 : Kd.C (Kd.int .i64) w A0 l0.length l0) (hc0 : l0.length ≤ c0) (hr1 : Kd.C (Kd.int .i64) w A1 l1.length l1) (hc1 : l1.length ≤ c1) (hG : GL w) (h : row_both.f l0 l1 = some r) :
  Calls Tryz.prog 113 #[.slice A0 l0.length c0, .slice A1 l1.length c1] w fun e w' => e = .returned (.int .i64 r) ∧ Below w.heap.size w w' := by
 have HR0 := AS hr0
 have HC0 := AS hc0
 clear hr0 hc0
 have HR1 := AS hr1
 have HC1 := AS hc1
 clear hr1 hc1
 have HB := AS (Below.refl w.heap.size w)
 have H : ((row_Check.f l0).bind fun t536 => (if t536 = 0 then ((row_Check.f l1).bind fun t537 => (if t537 = 0 then (if (l0.length : Int) = (l1.length : Int) then (some 0) else (some 5)) else (some t537))) else (some t536))) = some r := h
 clear h
 replace H := Option.bind_eq_some_iff.mp H
 obtain ⟨t536, A30, H⟩ := H
 replace H : (if t536 = 0 then ((row_Check.f l1).bind fun t537 => (if t537 = 0 then (if (l0.length : Int) = (l1.length : Int) then (some 0) else (some 5)) else (some t537))) else (some t536)) = some r := H
 have A3 := AS A30
 clear A30
 by_cases c4 : t536 = 0
 ·rw [if_pos c4] at H
  have c4b0 : (t536 == 0) = true := beq_iff_eq.mpr c4
  have c4b1 : (t536 != 0) = false := bne_eq_false_iff_eq.mpr c4
  clear c4
  replace H := Option.bind_eq_some_iff.mp H
  obtain ⟨t537, A50, H⟩ := H
  replace H : (if t537 = 0 then (if (l0.length : Int) = (l1.length : Int) then (some 0) else (some 5)) else (some t537)) = some r := H
  have A5 := AS A50
  clear A50
  by_cases c6 : t537 = 0
  ·rw [if_pos c6] at H
   have c6b0 : (t537 == 0) = true := beq_iff_eq.mpr c6
   have c6b1 : (t537 != 0) = false := bne_eq_false_iff_eq.mpr c6
   clear c6
   by_cases c7 : (l0.length : Int) = (l1.length : Int)
   ·rw [if_pos c7] at H
    have c7b0 : ((l0.length : Int) == (l1.length : Int)) = true := beq_iff_eq.mpr c7
    have c7b1 : ((l0.length : Int) != (l1.length : Int)) = false := bne_eq_false_iff_eq.mpr c7
    have c7b2 : (l0.length == l1.length) = true := by first | simpa using c7 | (simp at c7 ⊢; omega)
    clear c7
    obtain rfl := Option.some.inj H
    go_enter Tryz.func113, Tryz.ntmps113
    go_wp2_with (first | ((with_reducible refine gate_callee (f := 134) rfl ?_); refine goesL_ (some 8) rfl rfl Tryz.func134 Z6 rfl #[.slice A0 l0.length c0] rfl Z1 ?_; (with_reducible refine (row_Check.calls _ _ l0 t536 _ ?side1 ?side2 ?side3 A3.out).mono ?_); (case side1 => exact Z12); (case side2 => exact Z58); (case side3 => exact Z183); rintro e w8 ⟨rfl, hb⟩; refine ⟨_, rfl, ?_⟩; have n0_ := AS (below_step Z0 hb); clear HB; have HB := n0_; clear n0_; (try clear hb); (try clear hb2); (try clear hk); (try clear hi)) | ((with_reducible refine gate_callee (f := 134) rfl ?_); refine goesL_ (some 13) rfl rfl Tryz.func134 Z6 rfl #[.slice A1 l1.length c1] rfl Z1 ?_; (with_reducible refine (row_Check.calls _ _ l1 t537 _ ?side1 ?side2 ?side3 A5.out).mono ?_); (case side1 => exact Z77); (case side2 => exact Z145); (case side3 => exact Z183); rintro e w9 ⟨rfl, hb⟩; refine ⟨_, rfl, ?_⟩; have n0_ := AS (below_step Z0 hb); clear HB; have HB := n0_; clear n0_; (try clear hb); (try clear hb2); (try clear hk); (try clear hi)))
    go_ret
    exact ⟨Z2, Z0⟩
   ·rw [if_neg c7] at H
    have c7b0 : ((l0.length : Int) == (l1.length : Int)) = false := beq_eq_false_iff_ne.mpr c7
    have c7b1 : ((l0.length : Int) != (l1.length : Int)) = true := bne_iff_ne.mpr c7
    have c7b2 : (l0.length == l1.length) = false := by first | simpa using c7 | (simp at c7 ⊢; omega)
    obtain rfl := Option.some.inj H
    go_enter Tryz.func113, Tryz.ntmps113
    go_wp2_with (first | ((with_reducible refine gate_callee (f := 134) rfl ?_); refine goesL_ (some 8) rfl rfl Tryz.func134 Z6 rfl #[.slice A0 l0.length c0] rfl Z1 ?_; (with_reducible refine (row_Check.calls _ _ l0 t536 _ ?side1 ?side2 ?side3 A3.out).mono ?_); (case side1 => exact Z12); (case side2 => exact Z58); (case side3 => exact Z183); rintro e w10 ⟨rfl, hb⟩; refine ⟨_, rfl, ?_⟩; have n0_ := AS (below_step Z0 hb); clear HB; have HB := n0_; clear n0_; (try clear hb); (try clear hb2); (try clear hk); (try clear hi)) | ((with_reducible refine gate_callee (f := 134) rfl ?_); refine goesL_ (some 13) rfl rfl Tryz.func134 Z6 rfl #[.slice A1 l1.length c1] rfl Z1 ?_; (with_reducible refine (row_Check.calls _ _ l1 t537 _ ?side1 ?side2 ?side3 A5.out).mono ?_); (case side1 => exact Z77); (case side2 => exact Z145); (case side3 => exact Z183); rintro e w11 ⟨rfl, hb⟩; refine ⟨_, rfl, ?_⟩; have n0_ := AS (below_step Z0 hb); clear HB; have HB := n0_; clear n0_; (try clear hb); (try clear hb2); (try clear hk); (try clear hi)))
    go_ret
    exact ⟨Z2, Z0⟩
  ·rw [if_neg c6] at H
   have c6b0 : (t537 == 0) = false := beq_eq_false_iff_ne.mpr c6
   have c6b1 : (t537 != 0) = true := bne_iff_ne.mpr c6
   obtain rfl := Option.some.inj H
   go_enter Tryz.func113, Tryz.ntmps113
   go_wp2_with (first | ((with_reducible refine gate_callee (f := 134) rfl ?_); refine goesL_ (some 8) rfl rfl Tryz.func134 Z6 rfl #[.slice A0 l0.length c0] rfl Z1 ?_; (with_reducible refine (row_Check.calls _ _ l0 t536 _ ?side1 ?side2 ?side3 A3.out).mono ?_); (case side1 => exact Z12); (case side2 => exact Z58); (case side3 => exact Z183); rintro e w12 ⟨rfl, hb⟩; refine ⟨_, rfl, ?_⟩; have n0_ := AS (below_step Z0 hb); clear HB; have HB := n0_; clear n0_; (try clear hb); (try clear hb2); (try clear hk); (try clear hi)) | ((with_reducible refine gate_callee (f := 134) rfl ?_); refine goesL_ (some 13) rfl rfl Tryz.func134 Z6 rfl #[.slice A1 l1.length c1] rfl Z1 ?_; (with_reducible refine (row_Check.calls _ _ l1 t537 _ ?side1 ?side2 ?side3 A5.out).mono ?_); (case side1 => exact Z77); (case side2 => exact Z145); (case side3 => exact Z183); rintro e w13 ⟨rfl, hb⟩; refine ⟨_, rfl, ?_⟩; have n0_ := AS (below_step Z0 hb); clear HB; have HB := n0_; clear n0_; (try clear hb); (try clear hb2); (try clear hk); (try clear hi)))
   go_ret
   exact ⟨Z2, Z0⟩
 ·rw [if_neg c4] at H
  have c4b0 : (t536 == 0) = false := beq_eq_false_iff_ne.mpr c4
  have c4b1 : (t536 != 0) = true := bne_iff_ne.mpr c4
  obtain rfl := Option.some.inj H
  go_enter Tryz.func113, Tryz.ntmps113
  go_wp2_with (first | ((with_reducible refine gate_callee (f := 134) rfl ?_); refine goesL_ (some 8) rfl rfl Tryz.func134 Z6 rfl #[.slice A0 l0.length c0] rfl Z1 ?_; (with_reducible refine (row_Check.calls _ _ l0 t536 _ ?side1 ?side2 ?side3 A3.out).mono ?_); (case side1 => exact Z12); (case side2 => exact Z58); (case side3 => exact Z183); rintro e w14 ⟨rfl, hb⟩; refine ⟨_, rfl, ?_⟩; have n0_ := AS (below_step Z0 hb); clear HB; have HB := n0_; clear n0_; (try clear hb); (try clear hb2); (try clear hk); (try clear hi)))
  go_ret
  exact ⟨Z2, Z0⟩
section
open Go.Shelf
def rowOk (l : List Int) : Bool := decide (l.length ≤ 64) && l.all fitsB
theorem row_Check_f (l : List Int) : row_Check.f l = some (if rowOk l = true then 0 else 4) := by
 unfold row_Check.f rowOk
 congr 1
 by_cases h : l.length ≤ 64 <;> by_cases h2 : l.all fitsB = true <;> simp [h, h2]
set_option maxHeartbeats 4000000 in
theorem row_result_same (A : Option Addr) (c : Nat) (l : List Int) (w : World) (hr : Kd.C (Kd.int .i64) w A l.length l) (hc : l.length ≤ c) (hG : GL w) :
  Calls Tryz.prog 115 #[.slice A l.length c] w fun e w' => e = .returned (.tuple #[if rowOk l = true then .slice A l.length c else .slice none 0 0, .int .i64 (if rowOk l = true then 0 else 4)]) ∧ Below w.heap.size w w' := by
 have HC := AS (row_Check.calls A c l _ w hr hc hG (row_Check_f l))
 clear hr hG
 cases hq : rowOk l with
 | true =>
  rw [hq] at HC
  clear hq
  go_enter Tryz.func115, Tryz.ntmps115
  go_wp2_with (go_at_call 134; refine (HC.out).mono ?_; rintro e w' ⟨rfl, hb⟩; have HB := AS hb; clear hb)
  go_ret2
  exact ⟨rfl, HB.out⟩
 | false =>
  rw [hq] at HC
  clear hq
  go_enter Tryz.func115, Tryz.ntmps115
  go_wp2_with (go_at_call 134; refine (HC.out).mono ?_; rintro e w' ⟨rfl, hb⟩; have HB := AS hb; clear hb)
  go_ret2
  exact ⟨rfl, HB.out⟩
structure SubX where
 x : Int
 y : Int
 x0 : -1000000000 ≤ x
 x1 : x ≤ 1000000000
 y0 : -1000000000 ≤ y
 y1 : y ≤ 1000000000
def SubX.d (z : SubX) : Int := z.x - z.y
theorem subX_zs : ∀ (l m : List Int), l.length = m.length → l.all fitsB = true → m.all fitsB = true → ∃ zs : List SubX, zs.map SubX.x = l ∧ zs.map SubX.y = m
 | [], [], _, _, _ => ⟨[], rfl, rfl⟩
 | [], _ :: _, h, _, _ => by cases h
 | _ :: _, [], h, _, _ => by cases h
 | x :: l, y :: m, h, h1, h2 => by
  simp only [List.all_cons, Bool.and_eq_true] at h1 h2
  obtain ⟨zs, e1, e2⟩ := subX_zs l m (by simpa using h) h1.2 h2.2
  have f1 := h1.1
  have f2 := h2.1
  simp only [fitsB, Bool.and_eq_true, decide_eq_true_eq] at f1 f2
  exact ⟨⟨x, y, f1.1, f1.2, f2.1, f2.2⟩ :: zs, by simp [e1], by simp [e2]⟩
theorem subX_zip : ∀ zs : List SubX, zs.map SubX.d = List.zipWith (· - ·) (zs.map SubX.x) (zs.map SubX.y)
 | [] => rfl
 | z :: zs => by simp [SubX.d, subX_zip zs]
attribute [local go_sem] Oper.semAt_some in
set_option maxHeartbeats 8000000 in
set_option maxRecDepth 100000 in
theorem sub_walk (A0 : Option Addr) (c0 : Nat) (l0 : List Int) (A1 : Option Addr) (c1 : Nat) (l1 : List Int) (w : World) (hr0 : Kd.C (Kd.int .i64) w A0 l0.length l0) (hc0 : l0.length ≤ c0) (hr1 : Kd.C (Kd.int .i64) w A1 l1.length l1) (hc1 : l1.length ≤ c1) (hG : GL w) (h0 : rowOk l0 = true) (h1 : rowOk l1 = true) (hlen : l0.length = l1.length) (r1 : List Int) (r2 : Int) (hr1_ : r1 = if rowOk (List.zipWith (· - ·) l0 l1) = true then List.zipWith (· - ·) l0 l1 else []) (hr2_ : r2 = if rowOk (List.zipWith (· - ·) l0 l1) = true then 0 else 4) :
  CallsIn Fence.wide 5 Tryz.prog 86 #[.slice A0 l0.length c0, .slice A1 l1.length c1] w fun e w' => ∃ v0_ : Value, e = .returned (.tuple #[v0_, .int .i64 r2]) ∧ Kd.R (Kd.int .i64) 3 w' w.heap.size (fun _ => True) v0_ r1 ∧ Below w.heap.size w w' := by
 have hb : row_both.f l0 l1 = some 0 := by
  simp [row_both.f, row_Check_f, h0, h1, hlen]
 have HC := AS (row_both.calls A0 c0 l0 A1 c1 l1 0 w hr0 hc0 hr1 hc1 hG hb)
 simp only [rowOk, Bool.and_eq_true, decide_eq_true_eq] at h0 h1
 obtain ⟨zs, e0, e1⟩ := subX_zs l0 l1 hlen h0.2 h1.2
 have HL1 : Aside0 (HoldsI w.heap.size w A0 zs fun x => .int .i64 x.x) := ⟨fun j hj => by
  obtain ⟨ad, e, hb, hc⟩ := C_int_holds hr0 j (by rw [← e0]; simpa using hj)
  exact ⟨ad, e, hb, by rw [hc]; simp [← e0]⟩⟩
 have HL2 : Aside0 (HoldsI w.heap.size w A1 zs fun x => .int .i64 x.y) := ⟨fun j hj => by
  obtain ⟨ad, e, hb, hc⟩ := C_int_holds hr1 j (by rw [← e1]; simpa using hj)
  exact ⟨ad, e, hb, by rw [hc]; simp [← e1]⟩⟩
 have hl0 : l0.length = zs.length := by rw [← e0]; simp
 have hl1 : l1.length = zs.length := by rw [← e1]; simp
 have hz : zs.length ≤ 64 := by omega
 have HZ : Aside0 (List.zipWith (· - ·) l0 l1 = zs.map SubX.d) := ⟨by rw [subX_zip, e0, e1]⟩
 have HGL := AS hG
 rw [hl0, hl1] at HC
 rw [hl0, hl1]
 rw [HZ.out] at hr1_ hr2_
 have HR1 := AS hr1_
 have HR2 := AS hr2_
 clear hr1_ hr2_
 clear hr0 hr1 hG hb h0 h1 hlen e0 e1 HZ hl0 hl1 hc0 hc1
 obtain ⟨i0, hi, hzz⟩ := Option.map_eq_some_iff.1 info3_row
 simp only [Prod.mk.injEq] at hzz
 obtain ⟨hz0, hz1, hz2⟩ := hzz
 have hmk : ∀ w1, w.heap.size ≤ w1.heap.size → ∃ w2, (Instr.makeSlice 28 (.int .i64 0) (.int .i64 (zs.length : Int))).run Tryz.prog w1 = .ok (.slice (some ⟨w1.heap.size, 0, none⟩) 0 zs.length) w2 ∧ w2.ownsRow w.heap.size 3 1 (.slice (some ⟨w1.heap.size, 0, none⟩) 0 zs.length) 0 [] ∧ w1.grownBy w2 none := fun w1 hw => by
  obtain ⟨w2, hrun, hown, hgr⟩ := run_make_own (P := Tryz.prog) w1 w.heap.size 28 3 i0 (.int .i64 0) 1 Tryz.underlying28 hi hz0 hz1 .i64 .i64 zs.length (by rw [hz2]; omega) Z179 hw
  exact ⟨w2, hrun, hown, hgr⟩
 have HMK := AS hmk
 clear hmk
 refine callsIn_of_wp_marks Tryz.func86 rfl trivial ?_ rfl
 simp only [Tryz.ntmps86, List.size_toArray, List.length_cons, List.length_nil, Nat.reduceAdd, Nat.reduceSub, Array.replicate_succ, Array.replicate_zero, List.push_toArray, List.append_toArray, List.nil_append, List.cons_append]
 gi_wp2_with (first | (refine ⟨trivial, ?_⟩; gi_at_call 113; refine (callsIn_wide.2 HC.out).mono ?_; rintro e w1 ⟨rfl, hB1⟩; have HB1 := AS hB1; have hs1 := hB1.size; clear hB1; obtain ⟨w2, hrun2, hown2, hgr2⟩ := HMK.out w1 hs1; have HOW := AS hown2; have HB2 := AS (HB1.out.grown hgr2 hs1 (fun k e => by cases e)); have hs2 := HB2.out.size; clear hown2 hgr2 HC) | (refine ⟨trivial, ?_⟩; gi_at_call 114; refine (pairs_in Fence.wide 4 trivial rfl _ _ _ _ _ _ _).mono ?_; rintro e w3 ⟨rfl, rfl⟩))
 simp only [Nat.add_assoc, Nat.reduceAdd]
 obtain ⟨W0, hW0⟩ : ∃ W0, ((w2.alloc (.cells #[.slice (some ⟨w1.heap.size, 0, none⟩) 0 zs.length] 28)).alloc (.cells #[.slice A0 zs.length c0] 28)).alloc (.cells #[.slice A1 zs.length c1] 28) = W0 := ⟨_, rfl⟩
 have hsz : W0.heap.size = w2.heap.size + 3 := by rw [← hW0]; simp
 have hB0 : Below w.heap.size w W0 := by
  rw [← hW0]
  exact ((HB2.out.alloc hs2 _).alloc Z165 _).alloc Z165 _
 have hb0 : Boxed W0 w2.heap.size 28 (.slice (some ⟨w1.heap.size, 0, none⟩) 0 zs.length) := by
  rw [← hW0]; exact ((Boxed.new w2 28 _).alloc _).alloc _
 have hb1 : Boxed W0 (w2.heap.size + 1) 28 (.slice A0 zs.length c0) := by
  rw [← hW0]; have := Boxed.new (w2.alloc (.cells #[.slice (some ⟨w1.heap.size, 0, none⟩) 0 zs.length] 28)) 28 (.slice A0 zs.length c0); rw [World.size_alloc] at this; exact this.alloc _
 have hb2 : Boxed W0 (w2.heap.size + 2) 28 (.slice A1 zs.length c1) := by
  rw [← hW0]; have := Boxed.new ((w2.alloc (.cells #[.slice (some ⟨w1.heap.size, 0, none⟩) 0 zs.length] 28)).alloc (.cells #[.slice A0 zs.length c0] 28)) 28 (.slice A1 zs.length c1); rw [World.size_alloc, World.size_alloc] at this; exact this
 have ho0 : W0.ownsRow w.heap.size 3 1 (.slice (some ⟨w1.heap.size, 0, none⟩) 0 zs.length) 0 [] := by
  rw [← hW0]; exact ((HOW.out.alloc _).alloc _).alloc _
 rw [hW0]
 clear hW0
 refine wpIn_rangeFunc_ownG (n := 5) rfl (by decide) (gf := 138) (lb := #[.pointer (some ⟨w2.heap.size + 1, 0, none⟩), .pointer (some ⟨w2.heap.size + 2, 0, none⟩)]) rfl trivial (enters_of Tryz.func138 Z6 rfl)
  (pairs_stops (α := SubX) (fun x => x.x) (fun x => x.y) zs Fence.wide 4 trivial rfl (by decide) (w2.heap.size + 1) (w2.heap.size + 2) w.heap.size (w2.heap.size + 2) (w2.heap.size + 3) A0 A1 c0 c1 (by omega) W0 (by omega) (by omega) (by omega) (by omega) (by omega) hb1.cell hb2.cell (HL1.out.below hB0) (HL2.out.below hB0)) KeepsB.trans (keepsB_b (by omega) (by omega)) (Below.refl _ _) (fun _ => rfl)
  (fun pre W => (∃ v, Boxed W w2.heap.size 28 v ∧ W.ownsRow w.heap.size 3 1 v pre.length (pre.map fun z => .int .i64 z.d) ∧ True) ∧ Boxed W (w2.heap.size + 2) 28 (.slice A1 zs.length c1) ∧ Below w.heap.size w W ∧ w2.heap.size + 3 ≤ W.heap.size)
  (fun _ _ _ => False)
  (OwnFrom.and (Own.from (holdsRow_own w.heap.size w2.heap.size 28 3 1 (fun pre : List SubX => pre.length) (fun pre : List SubX => pre.map fun z => .int .i64 z.d) (fun _ _ => True)) _) (OwnFrom.and (Own.from (boxed_own _ 28 (fun _ : List SubX => _)) _) (OwnFrom.and (ownFrom_below (Nat.le_refl _) (by omega)) (fun _ _ _ _ hs hg _ => Nat.le_trans hs hg.size))))
  (fun _ _ _ _ _ hs _ _ => hs)
  ⟨⟨_, hb0, ho0, trivial⟩, hb2, hB0, by omega⟩
  (fun z => { tmps := #[.slice A0 zs.length c0, .slice A1 zs.length c1, undef, undef, .slice none 0 0, .int .i64 0, .int .i64 0, .pointer (some ⟨w2.heap.size, 0, none⟩), .int .i64 z.x, .int .i64 z.y, .slice A0 zs.length c0, .slice A1 zs.length c1, .int .i64 0, .int .i64 0, .bool false, undef, .slice A0 zs.length c0, .int .i64 (zs.length : Int), .slice (some ⟨w1.heap.size, 0, none⟩) 0 zs.length, .slice A0 zs.length c0, .slice A1 zs.length c1, .func (.func 138) #[] #[.pointer (some ⟨w2.heap.size + 1, 0, none⟩), .pointer (some ⟨w2.heap.size + 2, 0, none⟩)], .int .i64 z.x, .int .i64 z.y, undef, undef, undef, undef, undef, undef, undef, undef, undef, undef], defers := [] }) ?assign ?body ?done ?stop
 case assign =>
  intro l x W K hK
  gi_wp2
  exact hK
 case stop =>
  rintro D c pre W _ _ h _
  exact h.elim
 case body =>
  rintro l pre z W ⟨⟨v, hv, hrow, _⟩, hb2, hB, hS⟩ hlt
  have hcv := hv.cell
  have z0 := z.x0
  have z1 := z.x1
  have z2 := z.y0
  have z3 := z.y1
  gi_wp2_with (gi_at_builtin; refine wpListIn_append_own _ rfl _ _ 28 rfl w.heap.size 3 i0 (.int .i64 0) 1 8 Tryz.underlying28 hi hz0 hz1 hz2 rfl (by decide) _ _ _ rfl (hrow.alloc _) ⟨W.heap.size, 0, none⟩ 1 1 [.int .i64 (z.x - z.y)] rfl rfl (cell_one_new _ _ _) (by simp [Value.oneCell']) Z179 (by omega) (by have := hB.size; simp; omega) ?_; intro v' w9 hown' hgrow _; obtain ⟨g', cap', rfl⟩ := ownsRow_succ hown'; obtain ⟨hv1, hv2, hr2, hk2, hb5⟩ := hv.appended (by decide) hrow hB.size (by omega) hown' hgrow; have hc9 := hv1.cell; have hf9 := hv1.frozen)
  have hb6 := ((hb2.alloc (.cells #[.int .i64 (z.x - z.y)] 3)).kept hgrow (hb2.not_row (by decide) hrow)).other (show w2.heap.size + 2 ≠ w2.heap.size by omega) (.slice (some ⟨g', 0, none⟩) (pre.length + 1) cap')
  have hsx := hb5.size
  exact ⟨hk2.from _, ⟨hb5, fun k h1 h2 => by
   obtain rfl : k = w2.heap.size + 2 := by omega
   exact hb6.trans hb2.symm⟩, ⟨⟨_, hv2, by simpa [SubX.d] using hr2, trivial⟩, hb6, hB.trans hb5, by omega⟩⟩
 case done =>
  rintro D ys W hD rfl ⟨⟨v, hv, hrow, _⟩, hb2, hB, hS⟩ hK
  have hcv := hv.cell
  have hR0 : Kd.R (Kd.int .i64) 3 W w.heap.size (fun _ => True) v (ys.map SubX.d) := Kd.R_of_own (by rw [List.length_map]; unfold encs; rw [List.map_map]; exact hrow) (fun _ _ => trivial)
  obtain ⟨A, c, rfl, hcc, hC⟩ := Kd.R_reads hR0
  cases hq : rowOk (ys.map SubX.d) with
  | true =>
   have hrow' := hrow
   rw [List.length_map] at hrow'
   have HR := AS (show CallsIn Fence.wide 4 Tryz.prog 115 #[.slice A (ys.map SubX.d).length c] W _ from callsIn_wide.2 (row_result_same A c (ys.map SubX.d) W hC hcc (HGL.out.below hB)))
   rw [hq] at HR HR1 HR2
   simp only [if_true, if_false, Bool.false_eq_true, reduceIte] at HR1 HR2
   simp only [if_true, if_false, Bool.false_eq_true, reduceIte] at HR
   have HQ := AS hq
   clear hq
   rw [List.length_map] at HR
   gi_wp2_with (refine ⟨trivial, ?_⟩; gi_at_call 115; refine (HR.out).mono ?_; rintro e X ⟨rfl, hbX⟩; have HBX := AS hbX; clear hbX)
   have hKX := (HBX.out.block D (Array.getElem?_eq_some_iff.1 hK).1).trans hK
   refine ⟨by simp, .inl ⟨_, _, rfl, run_takeDeferred hKX, ?_⟩⟩
   refine ⟨_, results_tmp2 rfl _ _ _, .slice A ys.length c, by rw [HR2.out]; rfl, ?_, (below_step hB HBX.out).trans (belowK_b (w := w) (Nat.le_refl _) X D _ (.deferred none) (by omega) hKX rfl rfl)⟩
   rw [HR1.out]
   exact Kd.R_of_own (ownsRow_putObj (pw_own_below (by rw [List.length_map]; unfold encs; rw [List.map_map]; exact hrow') HBX.out) _ hKX rfl) (fun _ _ => trivial)
  | false =>
   have HR := AS (show CallsIn Fence.wide 4 Tryz.prog 115 #[.slice A (ys.map SubX.d).length c] W _ from callsIn_wide.2 (row_result_same A c (ys.map SubX.d) W hC hcc (HGL.out.below hB)))
   rw [hq] at HR HR1 HR2
   simp only [if_true, if_false, Bool.false_eq_true, reduceIte] at HR1 HR2
   simp only [if_true, if_false, Bool.false_eq_true, reduceIte] at HR
   have HQ := AS hq
   clear hq
   rw [List.length_map] at HR
   gi_wp2_with (refine ⟨trivial, ?_⟩; gi_at_call 115; refine (HR.out).mono ?_; rintro e X ⟨rfl, hbX⟩; have HBX := AS hbX; clear hbX)
   have hKX := (HBX.out.block D (Array.getElem?_eq_some_iff.1 hK).1).trans hK
   refine ⟨by simp, .inl ⟨_, _, rfl, run_takeDeferred hKX, ?_⟩⟩
   refine ⟨_, results_tmp2 rfl _ _ _, .slice none 0 0, by rw [HR2.out]; rfl, ?_, (below_step hB HBX.out).trans (belowK_b (w := w) (Nat.le_refl _) X D _ (.deferred none) (by omega) hKX rfl rfl)⟩
   rw [HR1.out]
   exact Kd.R_nil _ _ _ _ _
def row_Sub.f (l0 : List Int) (l1 : List Int) : Option (List Int × Int) := if rowOk l0 = true ∧ rowOk l1 = true ∧ l0.length = l1.length then some (if rowOk (List.zipWith (· - ·) l0 l1) = true then List.zipWith (· - ·) l0 l1 else [], if rowOk (List.zipWith (· - ·) l0 l1) = true then 0 else 4) else none
theorem row_Sub.calls (A0 : Option Addr) (c0 : Nat) (l0 : List Int) (A1 : Option Addr) (c1 : Nat) (l1 : List Int) (r1 : List Int) (r2 : Int) (w : World) (hr0 : Kd.C (Kd.int .i64) w A0 l0.length l0) (hc0 : l0.length ≤ c0) (hr1 : Kd.C (Kd.int .i64) w A1 l1.length l1) (hc1 : l1.length ≤ c1) (hG : GL w) (h : row_Sub.f l0 l1 = some (r1, r2)) :
  Calls Tryz.prog 86 #[.slice A0 l0.length c0, .slice A1 l1.length c1] w fun e w' => ∃ v0_ : Value, e = .returned (.tuple #[v0_, .int .i64 r2]) ∧ Kd.R (Kd.int .i64) 3 w' w.heap.size (fun _ => True) v0_ r1 ∧ Below w.heap.size w w' := by
 unfold row_Sub.f at h
 by_cases c : rowOk l0 = true ∧ rowOk l1 = true ∧ l0.length = l1.length
 ·rw [if_pos c] at h
  simp only [Option.some.injEq, Prod.mk.injEq] at h
  obtain ⟨rfl, rfl⟩ := h
  exact callsIn_wide.1 (sub_walk A0 c0 l0 A1 c1 l1 w hr0 hc0 hr1 hc1 hG c.1 c.2.1 c.2.2 _ _ rfl rfl)
 ·rw [if_neg c] at h
  cases h
end
end Go.Proofs.YtkgkihichdcpmaaGreatDoor.H
