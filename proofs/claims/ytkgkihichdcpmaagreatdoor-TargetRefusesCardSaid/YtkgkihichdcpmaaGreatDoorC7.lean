import Derived.Test.YtkgkihichdcpmaaGreatDoorC6
import Derived.WalkLawsBesides
namespace Go.Proofs.YtkgkihichdcpmaaGreatDoor.H
open Go.RowKit Go.Proofs.YtkgkihichdcpmaaGreatDoorW.PrintWords Go.Proofs.YtkgkihichdcpmaaGreatDoorW.PrintLast Go.Proofs.YtkgkihichdcpmaaGreatDoorW.PrintMore
attribute [local go_sem] max2_int min2_int max_two min_two max_three min_three max_four min_four
set_option linter.unusedVariables false
set_option linter.unusedSimpArgs false
def interval_equaves.f (k : Nat) (l0 : List Int) (l1 : List Int) (a2 : Int) : Option (List Int × Int) := (api_Row_int_103.f l1).bind fun t398 => (if 0 < (t398.length : Int) then ((some (t398.set (0 : Int).toNat (wrap64 ((rd t398 0) + a2)) : List Int)).bind fun y402 => ((monzo_Check.f k l0 y402).bind fun t403 => (if t403 = 0 then (some (y402, 0)) else (some (([] : List Int), t403))))) else (none))
set_option maxHeartbeats 8000000 in
set_option maxRecDepth 100000 in
theorem interval_equaves.calls (k : Nat) (A0 : Option Addr) (c0 : Nat) (l0 : List Int) (A1 : Option Addr) (c1 : Nat) (l1 : List Int) (a2 : Int) (r1 : List Int) (r2 : Int) (w : World) (hr0 : Kd.C (Kd.int .i64) w A0 l0.length l0) (hc0 : l0.length ≤ c0) (hr1 : Kd.C (Kd.int .i64) w A1 l1.length l1) (hc1 : l1.length ≤ c1) (hG : GL w) (h : interval_equaves.f k l0 l1 a2 = some (r1, r2)) :
  Calls Tryz.prog 74 #[.slice A0 l0.length c0, .slice A1 l1.length c1, .int .i64 a2] w fun e w' => ∃ v0_ : Value, e = .returned (.tuple #[v0_, .int .i64 r2]) ∧ Kd.R (Kd.int .i64) 3 w' w.heap.size (fun _ => True) v0_ r1 ∧ Below w.heap.size w w' := by
 have HR0 := AS hr0
 have HC0 := AS hc0
 clear hr0 hc0
 have HR1 := AS hr1
 have HC1 := AS hc1
 clear hr1 hc1
 have HB := AS (Below.refl w.heap.size w)
 have H : ((api_Row_int_103.f l1).bind fun t398 => (if 0 < (t398.length : Int) then ((some (t398.set (0 : Int).toNat (wrap64 ((rd t398 0) + a2)) : List Int)).bind fun y402 => ((monzo_Check.f k l0 y402).bind fun t403 => (if t403 = 0 then (some (y402, 0)) else (some (([] : List Int), t403))))) else (none))) = some (r1, r2) := h
 clear h
 replace H := Option.bind_eq_some_iff.mp H
 obtain ⟨t398, A40, H⟩ := H
 replace H : (if 0 < (t398.length : Int) then ((some (t398.set (0 : Int).toNat (wrap64 ((rd t398 0) + a2)) : List Int)).bind fun y402 => ((monzo_Check.f k l0 y402).bind fun t403 => (if t403 = 0 then (some (y402, 0)) else (some (([] : List Int), t403))))) else (none)) = some (r1, r2) := H
 have A4 := AS A40
 clear A40
 by_cases c5 : 0 < (t398.length : Int)
 ·rw [if_pos c5] at H
  have c5b0 : decide (0 < (t398.length : Int)) = true := decide_eq_true c5
  have c5b1 : decide (0 < t398.length) = true := decide_eq_true (by omega)
  clear c5
  obtain ⟨y402, hy402⟩ : ∃ y_ : List Int, y_ = (t398.set (0 : Int).toNat (wrap64 ((rd t398 0) + a2))) := ⟨_, rfl⟩
  replace H : ((monzo_Check.f k l0 y402).bind fun t403 => (if t403 = 0 then (some (y402, 0)) else (some (([] : List Int), t403)))) = some (r1, r2) := by first | (rw [hy402]; with_reducible exact H) | (have H2_ := (Option.bind_some _ _).symm.trans H; rw [hy402]; with_reducible exact H2_) | (have H2_ := (Option.bind_some _ _).symm.trans H; with_reducible exact H2_) | with_reducible exact H | (rw [hy402]; exact H) | exact H
  have Ny402 := AS hy402
  clear hy402
  replace H := Option.bind_eq_some_iff.mp H
  obtain ⟨t403, A70, H⟩ := H
  replace H : (if t403 = 0 then (some (y402, 0)) else (some (([] : List Int), t403))) = some (r1, r2) := H
  have A7 := AS A70
  clear A70
  by_cases c8 : t403 = 0
  ·rw [if_pos c8] at H
   have c8b0 : (t403 == 0) = true := beq_iff_eq.mpr c8
   have c8b1 : (t403 != 0) = false := bne_eq_false_iff_eq.mpr c8
   clear c8
   simp only [Option.some.injEq, Prod.mk.injEq] at H
   obtain ⟨rfl, rfl⟩ := H
   go_enter Tryz.func74, Tryz.ntmps74
   go_wp2_with (first | ((with_reducible refine gate_callee (f := 103) rfl ?_); refine goesL_ (some 11) rfl rfl Tryz.func103 Z6 rfl #[.slice A1 l1.length c1] rfl Z1 ?_; (with_reducible refine (api_Row_int_103.calls _ _ l1 t398 _ ?side1 ?side2 ?side3 A4.out).mono ?_); (case side1 => exact Z36); (case side2 => exact Z145); (case side3 => exact Z183); rintro e w9 ⟨v399, rfl, ho0, hb⟩; refine ⟨_, rfl, ?_⟩; have n0_ := AS (Kd.R_lower ho0 (below_size Z0)); have n1_ := AS (below_step Z0 hb); clear HB; have HO400 := n0_; have HB := n1_; clear n0_ n1_; (try clear hb); (try clear hb2); (try clear hk); (try clear hi); (try clear ho0); obtain ⟨Ao10, co10, eo10⟩ := Kd.R_slice HO400.out; subst eo10; have p401 : 0 ≤ (0 : Int) := (by omega); have q401 : 0 < (t398.length : Int) := of_decide_eq_true Z3; obtain ⟨ad401, e401, hx401_0⟩ := Kd.at_int (Kd.R_reads' HO400.out).2.2 0 p401 q401; cases e401; have qi401 : (0 < t398.length) = True := eq_true (by omega); (try rw [show ((0 : Int)).toNat = 0 from rfl] at hx401_0); (try rw [Addr.add_zero'] at hx401_0); replace p401 := eq_true p401; replace q401 := eq_true q401; have p6 : 0 ≤ (0 : Int) := (by omega); have q6 : (0 : Int) < ((t398.length : Int) : Int) := of_decide_eq_true Z3; have qi6 : (0 < t398.length) = True := eq_true (by omega); obtain ⟨go6, co6, eo6, gb6, gl6, cl6, HG6⟩ := Kd.R_form HO400.out (by omega); (first | cases eo6 | (injection eo6 with ea_ en_ ec_; (first | subst ea_ | (injection ea_ with ea_; subst ea_)); subst ec_; clear en_)); have GB6 := AS gb6; have GG6 := AS HG6; clear gb6 gl6 HG6; (first | simp only [add_plain] at hx401_0 | skip); obtain ⟨hx6_0, hf6_0⟩ := Kd.R_celln 0 HO400.out (0 : Int) p6 q6; (try rw [show ((0 : Int)).toNat = 0 from rfl] at hx6_0); (try simp only [Nat.reduceMul, Nat.zero_mul, Nat.zero_add, Nat.reduceAdd] at hx6_0); (try rw [show ((0 : Int)).toNat = 0 from rfl] at hf6_0); (try simp only [Nat.reduceMul, Nat.zero_mul, Nat.zero_add, Nat.reduceAdd] at hf6_0); replace p6 := eq_true p6; replace q6 := eq_true q6; obtain ⟨hy11_, hz11_⟩ := Kd.R_celln 0 HO400.out (0 : Int) (by omega) (of_decide_eq_true Z3); (try simp only [Int.reduceToNat, Int.toNat_zero, Int.toNat_ofNat, Nat.reduceMul, Nat.zero_mul, Nat.zero_add] at hy11_ hz11_); (try rw [show ((0 : Int)).toNat = 0 from rfl] at hy11_); (try rw [show ((0 : Int)).toNat = 0 from rfl] at hz11_); have HP11 := Kd.R_putg HO400.out (0 : Int) (wrap64 ((rd t398 0) + a2))) | ((with_reducible refine gate_store (t := 3) (p := 17) rfl ?_); refine store_event (t := 3) (p := 17) (v := ?vo_w12) (w1 := (w9.setCell ⟨go6, (0 : Int).toNat, none⟩ (.int .i64 (wrap64 ((rd t398 0) + a2))))) ?hg ?ho ?hn ?hr ?_; (case ho => rfl); (case hg => rfl); (case hn => rfl); (case hr => exact Z13); intro w12 hw; have hg : w9.grownBy w12 (some go6) := (by rw [hw]; exact HP11.2); have hp_ : Kd.R (Kd.int .i64) 3 w12 w.heap.size (fun _ => True) (.slice (some ⟨go6, 0, none⟩) t398.length co10) y402 := (by rw [hw, Ny402.out]; exact HP11.1); clear HP11; have n0_ := AS (hp_); have n1_ := AS ((by rw [hw]; exact below_set (HB.out) GB6.out : Below w.heap.size w w12)); clear HO400; clear HB; have HO400 := n0_; have HB := n1_; clear n0_ n1_; clear hg hw hp_) | ((with_reducible refine gate_callee (f := 66) rfl ?_); refine goesL_ (some 20) rfl rfl Tryz.func66 Z6 rfl #[.slice A0 l0.length c0, .slice (some ⟨go6, 0, none⟩) y402.length co10] rfl Z122 ?_; (with_reducible refine (monzo_Check.calls k _ _ l0 (fun k_ => some k_ = (.slice (some ⟨go6, 0, none⟩) t398.length co10 : Value).ownBlock) _ _ y402 t403 _ ?side1 ?side2 ?side3 ?side4 A7.out).mono ?_); (case side1 => exact Z4); (case side2 => exact Z58); (case side3 => exact Z152); (case side4 => exact Z183); rintro e w13 ⟨rfl, hb⟩; refine ⟨_, rfl, ?_⟩; have n0_ := AS (Kd.R_below Z139 hb); have n1_ := AS (below_step Z0 hb); clear HO400; clear HB; have HO400 := n0_; have HB := n1_; clear n0_ n1_; (try clear hb); (try clear hb2); (try clear hk); (try clear hi)))
   go_ret2
   exact ⟨_, Z2, Z139, Z0⟩
  ·rw [if_neg c8] at H
   have c8b0 : (t403 == 0) = false := beq_eq_false_iff_ne.mpr c8
   have c8b1 : (t403 != 0) = true := bne_iff_ne.mpr c8
   simp only [Option.some.injEq, Prod.mk.injEq] at H
   obtain ⟨rfl, rfl⟩ := H
   go_enter Tryz.func74, Tryz.ntmps74
   go_wp2_with (first | ((with_reducible refine gate_callee (f := 103) rfl ?_); refine goesL_ (some 11) rfl rfl Tryz.func103 Z6 rfl #[.slice A1 l1.length c1] rfl Z1 ?_; (with_reducible refine (api_Row_int_103.calls _ _ l1 t398 _ ?side1 ?side2 ?side3 A4.out).mono ?_); (case side1 => exact Z36); (case side2 => exact Z145); (case side3 => exact Z183); rintro e w14 ⟨v399, rfl, ho0, hb⟩; refine ⟨_, rfl, ?_⟩; have n0_ := AS (Kd.R_lower ho0 (below_size Z0)); have n1_ := AS (below_step Z0 hb); clear HB; have HO400 := n0_; have HB := n1_; clear n0_ n1_; (try clear hb); (try clear hb2); (try clear hk); (try clear hi); (try clear ho0); obtain ⟨Ao15, co15, eo15⟩ := Kd.R_slice HO400.out; subst eo15; have p401 : 0 ≤ (0 : Int) := (by omega); have q401 : 0 < (t398.length : Int) := of_decide_eq_true Z3; obtain ⟨ad401, e401, hx401_0⟩ := Kd.at_int (Kd.R_reads' HO400.out).2.2 0 p401 q401; cases e401; have qi401 : (0 < t398.length) = True := eq_true (by omega); (try rw [show ((0 : Int)).toNat = 0 from rfl] at hx401_0); (try rw [Addr.add_zero'] at hx401_0); replace p401 := eq_true p401; replace q401 := eq_true q401; have p6 : 0 ≤ (0 : Int) := (by omega); have q6 : (0 : Int) < ((t398.length : Int) : Int) := of_decide_eq_true Z3; have qi6 : (0 < t398.length) = True := eq_true (by omega); obtain ⟨go6, co6, eo6, gb6, gl6, cl6, HG6⟩ := Kd.R_form HO400.out (by omega); (first | cases eo6 | (injection eo6 with ea_ en_ ec_; (first | subst ea_ | (injection ea_ with ea_; subst ea_)); subst ec_; clear en_)); have GB6 := AS gb6; have GG6 := AS HG6; clear gb6 gl6 HG6; (first | simp only [add_plain] at hx401_0 | skip); obtain ⟨hx6_0, hf6_0⟩ := Kd.R_celln 0 HO400.out (0 : Int) p6 q6; (try rw [show ((0 : Int)).toNat = 0 from rfl] at hx6_0); (try simp only [Nat.reduceMul, Nat.zero_mul, Nat.zero_add, Nat.reduceAdd] at hx6_0); (try rw [show ((0 : Int)).toNat = 0 from rfl] at hf6_0); (try simp only [Nat.reduceMul, Nat.zero_mul, Nat.zero_add, Nat.reduceAdd] at hf6_0); replace p6 := eq_true p6; replace q6 := eq_true q6; obtain ⟨hy16_, hz16_⟩ := Kd.R_celln 0 HO400.out (0 : Int) (by omega) (of_decide_eq_true Z3); (try simp only [Int.reduceToNat, Int.toNat_zero, Int.toNat_ofNat, Nat.reduceMul, Nat.zero_mul, Nat.zero_add] at hy16_ hz16_); (try rw [show ((0 : Int)).toNat = 0 from rfl] at hy16_); (try rw [show ((0 : Int)).toNat = 0 from rfl] at hz16_); have HP16 := Kd.R_putg HO400.out (0 : Int) (wrap64 ((rd t398 0) + a2))) | ((with_reducible refine gate_store (t := 3) (p := 17) rfl ?_); refine store_event (t := 3) (p := 17) (v := ?vo_w17) (w1 := (w14.setCell ⟨go6, (0 : Int).toNat, none⟩ (.int .i64 (wrap64 ((rd t398 0) + a2))))) ?hg ?ho ?hn ?hr ?_; (case ho => rfl); (case hg => rfl); (case hn => rfl); (case hr => exact Z13); intro w17 hw; have hg : w14.grownBy w17 (some go6) := (by rw [hw]; exact HP16.2); have hp_ : Kd.R (Kd.int .i64) 3 w17 w.heap.size (fun _ => True) (.slice (some ⟨go6, 0, none⟩) t398.length co15) y402 := (by rw [hw, Ny402.out]; exact HP16.1); clear HP16; have n0_ := AS (hp_); have n1_ := AS ((by rw [hw]; exact below_set (HB.out) GB6.out : Below w.heap.size w w17)); clear HO400; clear HB; have HO400 := n0_; have HB := n1_; clear n0_ n1_; clear hg hw hp_) | ((with_reducible refine gate_callee (f := 66) rfl ?_); refine goesL_ (some 20) rfl rfl Tryz.func66 Z6 rfl #[.slice A0 l0.length c0, .slice (some ⟨go6, 0, none⟩) y402.length co15] rfl Z122 ?_; (with_reducible refine (monzo_Check.calls k _ _ l0 (fun k_ => some k_ = (.slice (some ⟨go6, 0, none⟩) t398.length co15 : Value).ownBlock) _ _ y402 t403 _ ?side1 ?side2 ?side3 ?side4 A7.out).mono ?_); (case side1 => exact Z4); (case side2 => exact Z58); (case side3 => exact Z152); (case side4 => exact Z183); rintro e w18 ⟨rfl, hb⟩; refine ⟨_, rfl, ?_⟩; have n0_ := AS (Kd.R_below Z139 hb); have n1_ := AS (below_step Z0 hb); clear HO400; clear HB; have HO400 := n0_; have HB := n1_; clear n0_ n1_; (try clear hb); (try clear hb2); (try clear hk); (try clear hi)))
   go_ret2
   exact ⟨_, Z2, Z22, Z0⟩
 ·rw [if_neg c5] at H
  exact absurd H (by simp)
def interval_Reduce.f (k : Nat) (l0 : List Int) (l1 : List Int) : Option (List Int × Int × Int) := (interval_open.f l0 ([] : List (List Int)) (([l1] : List (List Int)))).bind fun t407 => (if t407 = 0 then ((interval_unit.f l0).bind fun t408 => ((interval_floor.f k l0 l1 t408).bind fun bt411 => (if bt411.2 = 0 then ((interval_equaves.f k l0 l1 (wrap64 (-bt411.1))).bind fun bt413 => (if bt413.2 = 0 then (some (bt413.1, bt411.1, 0)) else (some (([] : List Int), 0, bt413.2)))) else (some (([] : List Int), 0, bt411.2))))) else (some (([] : List Int), 0, t407)))
set_option maxHeartbeats 8000000 in
set_option maxRecDepth 100000 in
theorem interval_Reduce.calls (k : Nat) (A0 : Option Addr) (c0 : Nat) (l0 : List Int) (P1_ : Nat → Prop) (A1 : Option Addr) (c1 : Nat) (l1 : List Int) (r1 : List Int) (r2 : Int) (r3 : Int) (w : World) (hr0 : Kd.C (Kd.int .i64) w A0 l0.length l0) (hc0 : l0.length ≤ c0) (hs1 : Kd.V (Kd.int .i64) 3 w w.heap.size (fun k_ => P1_ k_) (.slice A1 l1.length c1) l1) (hG : GL w) (h : interval_Reduce.f k l0 l1 = some (r1, r2, r3)) :
  Calls Tryz.prog 39 #[.slice A0 l0.length c0, .slice A1 l1.length c1] w fun e w' => ∃ v0_ : Value, e = .returned (.tuple #[v0_, .int .i64 r2, .int .i64 r3]) ∧ Kd.R (Kd.int .i64) 3 w' w.heap.size (fun k_ => (w.heap.size ≤ k_)) v0_ r1 ∧ Below w.heap.size w w' := by
 have HR0 := AS hr0
 have HC0 := AS hc0
 clear hr0 hc0
 have HO1 := AS (show Kd.V (Kd.int .i64) 3 w w.heap.size (fun k_ => (P1_ k_ ∨ w.heap.size ≤ k_)) (.slice A1 l1.length c1) l1 from Kd.V_mono hs1 (fun k_ hk => .inl hk))
 have HB := AS (Below.refl w.heap.size w)
 have H : ((interval_open.f l0 ([] : List (List Int)) (([l1] : List (List Int)))).bind fun t407 => (if t407 = 0 then ((interval_unit.f l0).bind fun t408 => ((interval_floor.f k l0 l1 t408).bind fun bt411 => (if bt411.2 = 0 then ((interval_equaves.f k l0 l1 (wrap64 (-bt411.1))).bind fun bt413 => (if bt413.2 = 0 then (some (bt413.1, bt411.1, 0)) else (some (([] : List Int), 0, bt413.2)))) else (some (([] : List Int), 0, bt411.2))))) else (some (([] : List Int), 0, t407)))) = some (r1, r2, r3) := h
 clear h
 obtain ⟨y404, hy404⟩ : ∃ y_ : List (List Int), y_ = (([l1] : List (List Int))) := ⟨_, rfl⟩
 replace H : ((interval_open.f l0 ([] : List (List Int)) y404).bind fun t407 => (if t407 = 0 then ((interval_unit.f l0).bind fun t408 => ((interval_floor.f k l0 l1 t408).bind fun bt411 => (if bt411.2 = 0 then ((interval_equaves.f k l0 l1 (wrap64 (-bt411.1))).bind fun bt413 => (if bt413.2 = 0 then (some (bt413.1, bt411.1, 0)) else (some (([] : List Int), 0, bt413.2)))) else (some (([] : List Int), 0, bt411.2))))) else (some (([] : List Int), 0, t407)))) = some (r1, r2, r3) := by first | (rw [hy404]; with_reducible exact H) | (have H2_ := (Option.bind_some _ _).symm.trans H; rw [hy404]; with_reducible exact H2_) | (have H2_ := (Option.bind_some _ _).symm.trans H; with_reducible exact H2_) | with_reducible exact H | (rw [hy404]; exact H) | exact H
 have Ny404 := AS hy404
 clear hy404
 replace H := Option.bind_eq_some_iff.mp H
 obtain ⟨t407, A30, H⟩ := H
 replace H : (if t407 = 0 then ((interval_unit.f l0).bind fun t408 => ((interval_floor.f k l0 l1 t408).bind fun bt411 => (if bt411.2 = 0 then ((interval_equaves.f k l0 l1 (wrap64 (-bt411.1))).bind fun bt413 => (if bt413.2 = 0 then (some (bt413.1, bt411.1, 0)) else (some (([] : List Int), 0, bt413.2)))) else (some (([] : List Int), 0, bt411.2))))) else (some (([] : List Int), 0, t407))) = some (r1, r2, r3) := H
 have A3 := AS A30
 clear A30
 by_cases c4 : t407 = 0
 ·rw [if_pos c4] at H
  have c4b0 : (t407 == 0) = true := beq_iff_eq.mpr c4
  have c4b1 : (t407 != 0) = false := bne_eq_false_iff_eq.mpr c4
  clear c4
  replace H := Option.bind_eq_some_iff.mp H
  obtain ⟨t408, A50, H⟩ := H
  replace H : ((interval_floor.f k l0 l1 t408).bind fun bt411 => (if bt411.2 = 0 then ((interval_equaves.f k l0 l1 (wrap64 (-bt411.1))).bind fun bt413 => (if bt413.2 = 0 then (some (bt413.1, bt411.1, 0)) else (some (([] : List Int), 0, bt413.2)))) else (some (([] : List Int), 0, bt411.2)))) = some (r1, r2, r3) := H
  have A5 := AS A50
  clear A50
  replace H := Option.bind_eq_some_iff.mp H
  obtain ⟨⟨t411, t412⟩, A60, H⟩ := H
  replace H : (if t412 = 0 then ((interval_equaves.f k l0 l1 (wrap64 (-t411))).bind fun bt413 => (if bt413.2 = 0 then (some (bt413.1, t411, 0)) else (some (([] : List Int), 0, bt413.2)))) else (some (([] : List Int), 0, t412))) = some (r1, r2, r3) := H
  have A6 := AS A60
  clear A60
  by_cases c7 : t412 = 0
  ·rw [if_pos c7] at H
   have c7b0 : (t412 == 0) = true := beq_iff_eq.mpr c7
   have c7b1 : (t412 != 0) = false := bne_eq_false_iff_eq.mpr c7
   clear c7
   replace H := Option.bind_eq_some_iff.mp H
   obtain ⟨⟨t413, t414⟩, A80, H⟩ := H
   replace H : (if t414 = 0 then (some (t413, t411, 0)) else (some (([] : List Int), 0, t414))) = some (r1, r2, r3) := H
   have A8 := AS A80
   clear A80
   by_cases c9 : t414 = 0
   ·rw [if_pos c9] at H
    have c9b0 : (t414 == 0) = true := beq_iff_eq.mpr c9
    have c9b1 : (t414 != 0) = false := bne_eq_false_iff_eq.mpr c9
    clear c9
    simp only [Option.some.injEq, Prod.mk.injEq] at H
    obtain ⟨rfl, rfl, rfl⟩ := H
    go_enter Tryz.func39, Tryz.ntmps39
    go_wp2_with (first | ((with_reducible refine gate_dst (N := 10) rfl ?_); refine Kd.N_lit (Kd.slice 3 (Kd.int .i64)) _ 28 ?hg (N' := 10) ?hd (xs := ([l1] : List (List Int))) (inner := [.slice A1 l1.length c1]) (ok := (fun k_ => (P1_ k_ ∨ w.heap.size ≤ k_))) (okp := (fun k_ => (P1_ k_ ∨ w.heap.size ≤ k_))) ?hr ?hp (fun _ hk => hk) ((show ∀ k_, w.heap.size ≤ k_ → (fun k_ => (P1_ k_ ∨ w.heap.size ≤ k_)) k_ from fun k_ hk => (.inr (Nat.le_trans (below_size Z0) hk))) _ (Nat.le_refl _)) (Below.refl _ _) (Nat.le_refl _) (by simp) ?_; (case hd => rfl); (case hg => rfl); (case hr => exact Z13); (case hp => exact Z25); intro v405 w10 ho11 hb hg_ hnew_; clear hg_ hnew_; (first | rw [← Ny404.out] at ho11 | (simp only [Int.reduceToNat] at ho11; rw [← Ny404.out] at ho11)); have n0_ := AS (Kd.V_elder' Z11 (Kd.N_base ho11) hb); have n1_ := AS (Kd.N_lower ho11 (below_size Z0)); have n2_ := AS (below_step Z0 hb); clear HO1; clear HB; have HO1 := n0_; have HO406 := n1_; have HB := n2_; clear n0_ n1_ n2_; clear hb ho11; obtain ⟨Ao12, co12, eo12⟩ := Kd.N_slice HO406.out; subst eo12) | ((with_reducible refine gate_callee (f := 71) rfl ?_); refine goesL_ (some 11) rfl rfl Tryz.func71 Z6 rfl #[.slice A0 l0.length c0, .slice none 0 0, .slice Ao12 y404.length co12] rfl Z1 ?_; (refine (interval_open.calls _ _ l0 _ _ ([] : List (List Int)) _ _ y404 t407 _ ?side1 ?side2 ?side3 ?side4 ?side5 ?side6 ?side7 A3.out).mono ?_); (case side1 => exact Z4); (case side2 => exact Z58); (case side3 => exact Z182); (case side4 => exact Z180); (case side5 => exact Z96); (case side6 => exact Z164); (case side7 => exact Z183); rintro e w13 ⟨rfl, hb⟩; refine ⟨_, rfl, ?_⟩; have n0_ := AS (Kd.V_below Z11 hb); have n1_ := AS (Kd.N_below Z59 hb); have n2_ := AS (below_step Z0 hb); clear HO1; clear HO406; clear HB; have HO1 := n0_; have HO406 := n1_; have HB := n2_; clear n0_ n1_ n2_; (try clear hb); (try clear hb2); (try clear hk); (try clear hi)) | ((with_reducible refine gate_callee (f := 73) rfl ?_); refine goesL_ (some 19) rfl rfl Tryz.func73 Z6 rfl #[.slice A0 l0.length c0] rfl Z1 ?_; (with_reducible refine (interval_unit.calls _ _ l0 t408 _ ?side1 ?side2 ?side3 A5.out).mono ?_); (case side1 => exact Z4); (case side2 => exact Z58); (case side3 => exact Z183); rintro e w14 ⟨v409, rfl, ho0, hb⟩; refine ⟨_, rfl, ?_⟩; have n0_ := AS (Kd.V_elder' Z11 (Kd.R_base ho0) hb); have n1_ := AS (Kd.N_elder' Z59 (Kd.R_base ho0) hb); have n2_ := AS (Kd.R_lower (Kd.R_newM (M := fun k_ => (w.heap.size ≤ k_)) ho0 (below_size Z0) (fun k_ h_ => h_)) (below_size Z0)); have n3_ := AS (below_step Z0 hb); clear HO1; clear HO406; clear HB; have HO1 := n0_; have HO406 := n1_; have HO410 := n2_; have HB := n3_; clear n0_ n1_ n2_ n3_; (try clear hb); (try clear hb2); (try clear hk); (try clear hi); (try clear ho0); obtain ⟨Ao15, co15, eo15⟩ := Kd.R_slice HO410.out; subst eo15) | ((with_reducible refine gate_callee (f := 72) rfl ?_); refine goesL_ (some 20) rfl rfl Tryz.func72 Z6 rfl #[.slice A0 l0.length c0, .slice A1 l1.length c1, .slice Ao15 t408.length co15] rfl Z1 ?_; (with_reducible refine (interval_floor.calls k _ _ l0 (fun k_ => (((P1_ k_ ∨ w.heap.size ≤ k_) ∧ some k_ ≠ (.slice Ao12 y404.length co12 : Value).ownBlock) ∧ some k_ ≠ (.slice Ao15 t408.length co15 : Value).ownBlock)) _ _ l1 (fun k_ => some k_ = (.slice Ao15 t408.length co15 : Value).ownBlock) _ _ t408 t411 t412 _ ?side1 ?side2 ?side3 ?side4 ?side5 A6.out).mono ?_); (case side1 => exact Z4); (case side2 => exact Z58); (case side3 => exact HO1.out); (case side4 => exact Z147); (case side5 => exact Z183); rintro e w16 ⟨rfl, hb⟩; refine ⟨_, rfl, ?_⟩; have n0_ := AS (Kd.V_below Z11 hb); have n1_ := AS (Kd.N_below Z59 hb); have n2_ := AS (Kd.R_below Z89 hb); have n3_ := AS (below_step Z0 hb); clear HO1; clear HO406; clear HO410; clear HB; have HO1 := n0_; have HO406 := n1_; have HO410 := n2_; have HB := n3_; clear n0_ n1_ n2_ n3_; (try clear hb); (try clear hb2); (try clear hk); (try clear hi)) | ((with_reducible refine gate_callee (f := 74) rfl ?_); refine goesL_ (some 31) rfl rfl Tryz.func74 Z6 rfl #[.slice A0 l0.length c0, .slice A1 l1.length c1, .int .i64 (wrap64 (-t411))] rfl Z1 ?_; (with_reducible refine (interval_equaves.calls k _ _ l0 _ _ l1 (wrap64 (-t411)) t413 t414 _ ?side1 ?side2 ?side3 ?side4 ?side5 A8.out).mono ?_); (case side1 => exact Z4); (case side2 => exact Z58); (case side3 => exact Z115); (case side4 => exact Z177); (case side5 => exact Z183); rintro e w17 ⟨v415, rfl, ho0, hb⟩; refine ⟨_, rfl, ?_⟩; have n0_ := AS (Kd.V_elder' Z11 (Kd.R_base ho0) hb); have n1_ := AS (Kd.N_elder' Z59 (Kd.R_base ho0) hb); have n2_ := AS (Kd.R_elder' Z89 (Kd.R_base ho0) hb); have n3_ := AS (Kd.R_lower (Kd.R_new' (Kd.R_newM (M := fun k_ => (w.heap.size ≤ k_)) ho0 (below_size Z0) (fun k_ h_ => h_)) (Kd.R_lt Z89)) (below_size Z0)); have n4_ := AS (below_step Z0 hb); clear HO1; clear HO406; clear HO410; clear HB; have HO1 := n0_; have HO406 := n1_; have HO410 := n2_; have HO416 := n3_; have HB := n4_; clear n0_ n1_ n2_ n3_ n4_; (try clear hb); (try clear hb2); (try clear hk); (try clear hi); (try clear ho0)))
    go_ret3
    exact ⟨_, Z2, by (with_reducible repeat (first | apply Kd.R_alloc | apply Kd.R_drewN | apply Kd.R_drew)); exact Kd.R_mono HO416.out (fun _ hk => hk.1.1), Z0⟩
   ·rw [if_neg c9] at H
    have c9b0 : (t414 == 0) = false := beq_eq_false_iff_ne.mpr c9
    have c9b1 : (t414 != 0) = true := bne_iff_ne.mpr c9
    simp only [Option.some.injEq, Prod.mk.injEq] at H
    obtain ⟨rfl, rfl, rfl⟩ := H
    go_enter Tryz.func39, Tryz.ntmps39
    go_wp2_with (first | ((with_reducible refine gate_dst (N := 10) rfl ?_); refine Kd.N_lit (Kd.slice 3 (Kd.int .i64)) _ 28 ?hg (N' := 10) ?hd (xs := ([l1] : List (List Int))) (inner := [.slice A1 l1.length c1]) (ok := (fun k_ => (P1_ k_ ∨ w.heap.size ≤ k_))) (okp := (fun k_ => (P1_ k_ ∨ w.heap.size ≤ k_))) ?hr ?hp (fun _ hk => hk) ((show ∀ k_, w.heap.size ≤ k_ → (fun k_ => (P1_ k_ ∨ w.heap.size ≤ k_)) k_ from fun k_ hk => (.inr (Nat.le_trans (below_size Z0) hk))) _ (Nat.le_refl _)) (Below.refl _ _) (Nat.le_refl _) (by simp) ?_; (case hd => rfl); (case hg => rfl); (case hr => exact Z13); (case hp => exact Z25); intro v405 w18 ho19 hb hg_ hnew_; clear hg_ hnew_; (first | rw [← Ny404.out] at ho19 | (simp only [Int.reduceToNat] at ho19; rw [← Ny404.out] at ho19)); have n0_ := AS (Kd.V_elder' Z11 (Kd.N_base ho19) hb); have n1_ := AS (Kd.N_lower ho19 (below_size Z0)); have n2_ := AS (below_step Z0 hb); clear HO1; clear HB; have HO1 := n0_; have HO406 := n1_; have HB := n2_; clear n0_ n1_ n2_; clear hb ho19; obtain ⟨Ao20, co20, eo20⟩ := Kd.N_slice HO406.out; subst eo20) | ((with_reducible refine gate_callee (f := 71) rfl ?_); refine goesL_ (some 11) rfl rfl Tryz.func71 Z6 rfl #[.slice A0 l0.length c0, .slice none 0 0, .slice Ao20 y404.length co20] rfl Z1 ?_; (refine (interval_open.calls _ _ l0 _ _ ([] : List (List Int)) _ _ y404 t407 _ ?side1 ?side2 ?side3 ?side4 ?side5 ?side6 ?side7 A3.out).mono ?_); (case side1 => exact Z4); (case side2 => exact Z58); (case side3 => exact Z182); (case side4 => exact Z180); (case side5 => exact Z96); (case side6 => exact Z164); (case side7 => exact Z183); rintro e w21 ⟨rfl, hb⟩; refine ⟨_, rfl, ?_⟩; have n0_ := AS (Kd.V_below Z11 hb); have n1_ := AS (Kd.N_below Z59 hb); have n2_ := AS (below_step Z0 hb); clear HO1; clear HO406; clear HB; have HO1 := n0_; have HO406 := n1_; have HB := n2_; clear n0_ n1_ n2_; (try clear hb); (try clear hb2); (try clear hk); (try clear hi)) | ((with_reducible refine gate_callee (f := 73) rfl ?_); refine goesL_ (some 19) rfl rfl Tryz.func73 Z6 rfl #[.slice A0 l0.length c0] rfl Z1 ?_; (with_reducible refine (interval_unit.calls _ _ l0 t408 _ ?side1 ?side2 ?side3 A5.out).mono ?_); (case side1 => exact Z4); (case side2 => exact Z58); (case side3 => exact Z183); rintro e w22 ⟨v409, rfl, ho0, hb⟩; refine ⟨_, rfl, ?_⟩; have n0_ := AS (Kd.V_elder' Z11 (Kd.R_base ho0) hb); have n1_ := AS (Kd.N_elder' Z59 (Kd.R_base ho0) hb); have n2_ := AS (Kd.R_lower (Kd.R_newM (M := fun k_ => (w.heap.size ≤ k_)) ho0 (below_size Z0) (fun k_ h_ => h_)) (below_size Z0)); have n3_ := AS (below_step Z0 hb); clear HO1; clear HO406; clear HB; have HO1 := n0_; have HO406 := n1_; have HO410 := n2_; have HB := n3_; clear n0_ n1_ n2_ n3_; (try clear hb); (try clear hb2); (try clear hk); (try clear hi); (try clear ho0); obtain ⟨Ao23, co23, eo23⟩ := Kd.R_slice HO410.out; subst eo23) | ((with_reducible refine gate_callee (f := 72) rfl ?_); refine goesL_ (some 20) rfl rfl Tryz.func72 Z6 rfl #[.slice A0 l0.length c0, .slice A1 l1.length c1, .slice Ao23 t408.length co23] rfl Z1 ?_; (with_reducible refine (interval_floor.calls k _ _ l0 (fun k_ => (((P1_ k_ ∨ w.heap.size ≤ k_) ∧ some k_ ≠ (.slice Ao20 y404.length co20 : Value).ownBlock) ∧ some k_ ≠ (.slice Ao23 t408.length co23 : Value).ownBlock)) _ _ l1 (fun k_ => some k_ = (.slice Ao23 t408.length co23 : Value).ownBlock) _ _ t408 t411 t412 _ ?side1 ?side2 ?side3 ?side4 ?side5 A6.out).mono ?_); (case side1 => exact Z4); (case side2 => exact Z58); (case side3 => exact HO1.out); (case side4 => exact Z147); (case side5 => exact Z183); rintro e w24 ⟨rfl, hb⟩; refine ⟨_, rfl, ?_⟩; have n0_ := AS (Kd.V_below Z11 hb); have n1_ := AS (Kd.N_below Z59 hb); have n2_ := AS (Kd.R_below Z89 hb); have n3_ := AS (below_step Z0 hb); clear HO1; clear HO406; clear HO410; clear HB; have HO1 := n0_; have HO406 := n1_; have HO410 := n2_; have HB := n3_; clear n0_ n1_ n2_ n3_; (try clear hb); (try clear hb2); (try clear hk); (try clear hi)) | ((with_reducible refine gate_callee (f := 74) rfl ?_); refine goesL_ (some 31) rfl rfl Tryz.func74 Z6 rfl #[.slice A0 l0.length c0, .slice A1 l1.length c1, .int .i64 (wrap64 (-t411))] rfl Z1 ?_; (with_reducible refine (interval_equaves.calls k _ _ l0 _ _ l1 (wrap64 (-t411)) t413 t414 _ ?side1 ?side2 ?side3 ?side4 ?side5 A8.out).mono ?_); (case side1 => exact Z4); (case side2 => exact Z58); (case side3 => exact Z115); (case side4 => exact Z177); (case side5 => exact Z183); rintro e w25 ⟨v415, rfl, ho0, hb⟩; refine ⟨_, rfl, ?_⟩; have n0_ := AS (Kd.V_elder' Z11 (Kd.R_base ho0) hb); have n1_ := AS (Kd.N_elder' Z59 (Kd.R_base ho0) hb); have n2_ := AS (Kd.R_elder' Z89 (Kd.R_base ho0) hb); have n3_ := AS (Kd.R_lower (Kd.R_new' (Kd.R_newM (M := fun k_ => (w.heap.size ≤ k_)) ho0 (below_size Z0) (fun k_ h_ => h_)) (Kd.R_lt Z89)) (below_size Z0)); have n4_ := AS (below_step Z0 hb); clear HO1; clear HO406; clear HO410; clear HB; have HO1 := n0_; have HO406 := n1_; have HO410 := n2_; have HO416 := n3_; have HB := n4_; clear n0_ n1_ n2_ n3_ n4_; (try clear hb); (try clear hb2); (try clear hk); (try clear hi); (try clear ho0)))
    go_ret3
    exact ⟨_, Z2, Z22, Z0⟩
  ·rw [if_neg c7] at H
   have c7b0 : (t412 == 0) = false := beq_eq_false_iff_ne.mpr c7
   have c7b1 : (t412 != 0) = true := bne_iff_ne.mpr c7
   simp only [Option.some.injEq, Prod.mk.injEq] at H
   obtain ⟨rfl, rfl, rfl⟩ := H
   go_enter Tryz.func39, Tryz.ntmps39
   go_wp2_with (first | ((with_reducible refine gate_dst (N := 10) rfl ?_); refine Kd.N_lit (Kd.slice 3 (Kd.int .i64)) _ 28 ?hg (N' := 10) ?hd (xs := ([l1] : List (List Int))) (inner := [.slice A1 l1.length c1]) (ok := (fun k_ => (P1_ k_ ∨ w.heap.size ≤ k_))) (okp := (fun k_ => (P1_ k_ ∨ w.heap.size ≤ k_))) ?hr ?hp (fun _ hk => hk) ((show ∀ k_, w.heap.size ≤ k_ → (fun k_ => (P1_ k_ ∨ w.heap.size ≤ k_)) k_ from fun k_ hk => (.inr (Nat.le_trans (below_size Z0) hk))) _ (Nat.le_refl _)) (Below.refl _ _) (Nat.le_refl _) (by simp) ?_; (case hd => rfl); (case hg => rfl); (case hr => exact Z13); (case hp => exact Z25); intro v405 w26 ho27 hb hg_ hnew_; clear hg_ hnew_; (first | rw [← Ny404.out] at ho27 | (simp only [Int.reduceToNat] at ho27; rw [← Ny404.out] at ho27)); have n0_ := AS (Kd.V_elder' Z11 (Kd.N_base ho27) hb); have n1_ := AS (Kd.N_lower ho27 (below_size Z0)); have n2_ := AS (below_step Z0 hb); clear HO1; clear HB; have HO1 := n0_; have HO406 := n1_; have HB := n2_; clear n0_ n1_ n2_; clear hb ho27; obtain ⟨Ao28, co28, eo28⟩ := Kd.N_slice HO406.out; subst eo28) | ((with_reducible refine gate_callee (f := 71) rfl ?_); refine goesL_ (some 11) rfl rfl Tryz.func71 Z6 rfl #[.slice A0 l0.length c0, .slice none 0 0, .slice Ao28 y404.length co28] rfl Z1 ?_; (refine (interval_open.calls _ _ l0 _ _ ([] : List (List Int)) _ _ y404 t407 _ ?side1 ?side2 ?side3 ?side4 ?side5 ?side6 ?side7 A3.out).mono ?_); (case side1 => exact Z4); (case side2 => exact Z58); (case side3 => exact Z182); (case side4 => exact Z180); (case side5 => exact Z96); (case side6 => exact Z164); (case side7 => exact Z183); rintro e w29 ⟨rfl, hb⟩; refine ⟨_, rfl, ?_⟩; have n0_ := AS (Kd.V_below Z11 hb); have n1_ := AS (Kd.N_below Z59 hb); have n2_ := AS (below_step Z0 hb); clear HO1; clear HO406; clear HB; have HO1 := n0_; have HO406 := n1_; have HB := n2_; clear n0_ n1_ n2_; (try clear hb); (try clear hb2); (try clear hk); (try clear hi)) | ((with_reducible refine gate_callee (f := 73) rfl ?_); refine goesL_ (some 19) rfl rfl Tryz.func73 Z6 rfl #[.slice A0 l0.length c0] rfl Z1 ?_; (with_reducible refine (interval_unit.calls _ _ l0 t408 _ ?side1 ?side2 ?side3 A5.out).mono ?_); (case side1 => exact Z4); (case side2 => exact Z58); (case side3 => exact Z183); rintro e w30 ⟨v409, rfl, ho0, hb⟩; refine ⟨_, rfl, ?_⟩; have n0_ := AS (Kd.V_elder' Z11 (Kd.R_base ho0) hb); have n1_ := AS (Kd.N_elder' Z59 (Kd.R_base ho0) hb); have n2_ := AS (Kd.R_lower (Kd.R_newM (M := fun k_ => (w.heap.size ≤ k_)) ho0 (below_size Z0) (fun k_ h_ => h_)) (below_size Z0)); have n3_ := AS (below_step Z0 hb); clear HO1; clear HO406; clear HB; have HO1 := n0_; have HO406 := n1_; have HO410 := n2_; have HB := n3_; clear n0_ n1_ n2_ n3_; (try clear hb); (try clear hb2); (try clear hk); (try clear hi); (try clear ho0); obtain ⟨Ao31, co31, eo31⟩ := Kd.R_slice HO410.out; subst eo31) | ((with_reducible refine gate_callee (f := 72) rfl ?_); refine goesL_ (some 20) rfl rfl Tryz.func72 Z6 rfl #[.slice A0 l0.length c0, .slice A1 l1.length c1, .slice Ao31 t408.length co31] rfl Z1 ?_; (with_reducible refine (interval_floor.calls k _ _ l0 (fun k_ => (((P1_ k_ ∨ w.heap.size ≤ k_) ∧ some k_ ≠ (.slice Ao28 y404.length co28 : Value).ownBlock) ∧ some k_ ≠ (.slice Ao31 t408.length co31 : Value).ownBlock)) _ _ l1 (fun k_ => some k_ = (.slice Ao31 t408.length co31 : Value).ownBlock) _ _ t408 t411 t412 _ ?side1 ?side2 ?side3 ?side4 ?side5 A6.out).mono ?_); (case side1 => exact Z4); (case side2 => exact Z58); (case side3 => exact HO1.out); (case side4 => exact Z147); (case side5 => exact Z183); rintro e w32 ⟨rfl, hb⟩; refine ⟨_, rfl, ?_⟩; have n0_ := AS (Kd.V_below Z11 hb); have n1_ := AS (Kd.N_below Z59 hb); have n2_ := AS (Kd.R_below Z89 hb); have n3_ := AS (below_step Z0 hb); clear HO1; clear HO406; clear HO410; clear HB; have HO1 := n0_; have HO406 := n1_; have HO410 := n2_; have HB := n3_; clear n0_ n1_ n2_ n3_; (try clear hb); (try clear hb2); (try clear hk); (try clear hi)))
   go_ret3
   exact ⟨_, Z2, Z22, Z0⟩
 ·rw [if_neg c4] at H
  have c4b0 : (t407 == 0) = false := beq_eq_false_iff_ne.mpr c4
  have c4b1 : (t407 != 0) = true := bne_iff_ne.mpr c4
  simp only [Option.some.injEq, Prod.mk.injEq] at H
  obtain ⟨rfl, rfl, rfl⟩ := H
  go_enter Tryz.func39, Tryz.ntmps39
  go_wp2_with (first | ((with_reducible refine gate_dst (N := 10) rfl ?_); refine Kd.N_lit (Kd.slice 3 (Kd.int .i64)) _ 28 ?hg (N' := 10) ?hd (xs := ([l1] : List (List Int))) (inner := [.slice A1 l1.length c1]) (ok := (fun k_ => (P1_ k_ ∨ w.heap.size ≤ k_))) (okp := (fun k_ => (P1_ k_ ∨ w.heap.size ≤ k_))) ?hr ?hp (fun _ hk => hk) ((show ∀ k_, w.heap.size ≤ k_ → (fun k_ => (P1_ k_ ∨ w.heap.size ≤ k_)) k_ from fun k_ hk => (.inr (Nat.le_trans (below_size Z0) hk))) _ (Nat.le_refl _)) (Below.refl _ _) (Nat.le_refl _) (by simp) ?_; (case hd => rfl); (case hg => rfl); (case hr => exact Z13); (case hp => exact Z25); intro v405 w33 ho34 hb hg_ hnew_; clear hg_ hnew_; (first | rw [← Ny404.out] at ho34 | (simp only [Int.reduceToNat] at ho34; rw [← Ny404.out] at ho34)); have n0_ := AS (Kd.V_elder' Z11 (Kd.N_base ho34) hb); have n1_ := AS (Kd.N_lower ho34 (below_size Z0)); have n2_ := AS (below_step Z0 hb); clear HO1; clear HB; have HO1 := n0_; have HO406 := n1_; have HB := n2_; clear n0_ n1_ n2_; clear hb ho34; obtain ⟨Ao35, co35, eo35⟩ := Kd.N_slice HO406.out; subst eo35) | ((with_reducible refine gate_callee (f := 71) rfl ?_); refine goesL_ (some 11) rfl rfl Tryz.func71 Z6 rfl #[.slice A0 l0.length c0, .slice none 0 0, .slice Ao35 y404.length co35] rfl Z1 ?_; (refine (interval_open.calls _ _ l0 _ _ ([] : List (List Int)) _ _ y404 t407 _ ?side1 ?side2 ?side3 ?side4 ?side5 ?side6 ?side7 A3.out).mono ?_); (case side1 => exact Z4); (case side2 => exact Z58); (case side3 => exact Z182); (case side4 => exact Z180); (case side5 => exact Z96); (case side6 => exact Z164); (case side7 => exact Z183); rintro e w36 ⟨rfl, hb⟩; refine ⟨_, rfl, ?_⟩; have n0_ := AS (Kd.V_below Z11 hb); have n1_ := AS (Kd.N_below Z59 hb); have n2_ := AS (below_step Z0 hb); clear HO1; clear HO406; clear HB; have HO1 := n0_; have HO406 := n1_; have HB := n2_; clear n0_ n1_ n2_; (try clear hb); (try clear hb2); (try clear hk); (try clear hi)))
  go_ret3
  exact ⟨_, Z2, Z22, Z0⟩
def monzo_result.f (k : Nat) (l0 : List Int) (l1 : List Int) : Option (List Int × Int) := (monzo_CheckAll.f k l0 (([l1] : List (List Int)))).bind fun t420 => (if t420 = 0 then (some (l1, 0)) else (some (([] : List Int), 4)))
set_option maxHeartbeats 8000000 in
set_option maxRecDepth 100000 in
theorem monzo_result.calls (k : Nat) (A0 : Option Addr) (c0 : Nat) (l0 : List Int) (P1_ : Nat → Prop) (A1 : Option Addr) (c1 : Nat) (l1 : List Int) (r1 : List Int) (r2 : Int) (w : World) (hr0 : Kd.C (Kd.int .i64) w A0 l0.length l0) (hc0 : l0.length ≤ c0) (hs1 : Kd.V (Kd.int .i64) 3 w w.heap.size (fun k_ => P1_ k_) (.slice A1 l1.length c1) l1) (hG : GL w) (h : monzo_result.f k l0 l1 = some (r1, r2)) :
  Calls Tryz.prog 94 #[.slice A0 l0.length c0, .slice A1 l1.length c1] w fun e w' => ∃ v0_ : Value, e = .returned (.tuple #[v0_, .int .i64 r2]) ∧ Kd.V (Kd.int .i64) 3 w' w.heap.size (fun k_ => (P1_ k_ ∨ w.heap.size ≤ k_)) v0_ r1 ∧ Below w.heap.size w w' := by
 have HR0 := AS hr0
 have HC0 := AS hc0
 clear hr0 hc0
 have HO1 := AS (show Kd.V (Kd.int .i64) 3 w w.heap.size (fun k_ => (P1_ k_ ∨ w.heap.size ≤ k_)) (.slice A1 l1.length c1) l1 from Kd.V_mono hs1 (fun k_ hk => .inl hk))
 have HB := AS (Below.refl w.heap.size w)
 have H : ((monzo_CheckAll.f k l0 (([l1] : List (List Int)))).bind fun t420 => (if t420 = 0 then (some (l1, 0)) else (some (([] : List Int), 4)))) = some (r1, r2) := h
 clear h
 obtain ⟨y417, hy417⟩ : ∃ y_ : List (List Int), y_ = (([l1] : List (List Int))) := ⟨_, rfl⟩
 replace H : ((monzo_CheckAll.f k l0 y417).bind fun t420 => (if t420 = 0 then (some (l1, 0)) else (some (([] : List Int), 4)))) = some (r1, r2) := by first | (rw [hy417]; with_reducible exact H) | (have H2_ := (Option.bind_some _ _).symm.trans H; rw [hy417]; with_reducible exact H2_) | (have H2_ := (Option.bind_some _ _).symm.trans H; with_reducible exact H2_) | with_reducible exact H | (rw [hy417]; exact H) | exact H
 have Ny417 := AS hy417
 clear hy417
 replace H := Option.bind_eq_some_iff.mp H
 obtain ⟨t420, A30, H⟩ := H
 replace H : (if t420 = 0 then (some (l1, 0)) else (some (([] : List Int), 4))) = some (r1, r2) := H
 have A3 := AS A30
 clear A30
 by_cases c4 : t420 = 0
 ·rw [if_pos c4] at H
  have c4b0 : (t420 == 0) = true := beq_iff_eq.mpr c4
  have c4b1 : (t420 != 0) = false := bne_eq_false_iff_eq.mpr c4
  clear c4
  simp only [Option.some.injEq, Prod.mk.injEq] at H
  obtain ⟨rfl, rfl⟩ := H
  go_enter Tryz.func94, Tryz.ntmps94
  go_wp2_with (first | ((with_reducible refine gate_dst (N := 8) rfl ?_); refine Kd.N_lit (Kd.slice 3 (Kd.int .i64)) _ 28 ?hg (N' := 8) ?hd (xs := ([l1] : List (List Int))) (inner := [.slice A1 l1.length c1]) (ok := (fun k_ => (P1_ k_ ∨ w.heap.size ≤ k_))) (okp := (fun k_ => (P1_ k_ ∨ w.heap.size ≤ k_))) ?hr ?hp (fun _ hk => hk) ((show ∀ k_, w.heap.size ≤ k_ → (fun k_ => (P1_ k_ ∨ w.heap.size ≤ k_)) k_ from fun k_ hk => (.inr (Nat.le_trans (below_size Z0) hk))) _ (Nat.le_refl _)) (Below.refl _ _) (Nat.le_refl _) (by simp) ?_; (case hd => rfl); (case hg => rfl); (case hr => exact Z13); (case hp => exact Z25); intro v418 w5 ho6 hb hg_ hnew_; clear hg_ hnew_; (first | rw [← Ny417.out] at ho6 | (simp only [Int.reduceToNat] at ho6; rw [← Ny417.out] at ho6)); have n0_ := AS (Kd.V_elder' Z11 (Kd.N_base ho6) hb); have n1_ := AS (Kd.N_lower ho6 (below_size Z0)); have n2_ := AS (below_step Z0 hb); clear HO1; clear HB; have HO1 := n0_; have HO419 := n1_; have HB := n2_; clear n0_ n1_ n2_; clear hb ho6; obtain ⟨Ao7, co7, eo7⟩ := Kd.N_slice HO419.out; subst eo7) | ((with_reducible refine gate_callee (f := 32) rfl ?_); refine goesL_ (some 9) rfl rfl Tryz.func32 Z6 rfl #[.slice A0 l0.length c0, .slice Ao7 y417.length co7] rfl Z1 ?_; (with_reducible refine (monzo_CheckAll.calls k _ _ l0 _ _ y417 t420 _ ?side1 ?side2 ?side3 ?side4 ?side5 A3.out).mono ?_); (case side1 => exact Z4); (case side2 => exact Z58); (case side3 => exact Z132); (case side4 => exact (Kd.N_reads' HO419.out).2.1); (case side5 => exact Z183); rintro e w' ⟨rfl, ⟨nd, rfl⟩⟩; refine ⟨_, rfl, ?_⟩))
  go_ret2
  exact ⟨_, Z2, by (with_reducible repeat (first | apply Kd.V_alloc | apply Kd.V_drewN | apply Kd.V_drew)); exact Kd.V_mono HO1.out (fun _ hk => hk.1), Z0⟩
 ·rw [if_neg c4] at H
  have c4b0 : (t420 == 0) = false := beq_eq_false_iff_ne.mpr c4
  have c4b1 : (t420 != 0) = true := bne_iff_ne.mpr c4
  simp only [Option.some.injEq, Prod.mk.injEq] at H
  obtain ⟨rfl, rfl⟩ := H
  go_enter Tryz.func94, Tryz.ntmps94
  go_wp2_with (first | ((with_reducible refine gate_dst (N := 8) rfl ?_); refine Kd.N_lit (Kd.slice 3 (Kd.int .i64)) _ 28 ?hg (N' := 8) ?hd (xs := ([l1] : List (List Int))) (inner := [.slice A1 l1.length c1]) (ok := (fun k_ => (P1_ k_ ∨ w.heap.size ≤ k_))) (okp := (fun k_ => (P1_ k_ ∨ w.heap.size ≤ k_))) ?hr ?hp (fun _ hk => hk) ((show ∀ k_, w.heap.size ≤ k_ → (fun k_ => (P1_ k_ ∨ w.heap.size ≤ k_)) k_ from fun k_ hk => (.inr (Nat.le_trans (below_size Z0) hk))) _ (Nat.le_refl _)) (Below.refl _ _) (Nat.le_refl _) (by simp) ?_; (case hd => rfl); (case hg => rfl); (case hr => exact Z13); (case hp => exact Z25); intro v418 w8 ho9 hb hg_ hnew_; clear hg_ hnew_; (first | rw [← Ny417.out] at ho9 | (simp only [Int.reduceToNat] at ho9; rw [← Ny417.out] at ho9)); have n0_ := AS (Kd.V_elder' Z11 (Kd.N_base ho9) hb); have n1_ := AS (Kd.N_lower ho9 (below_size Z0)); have n2_ := AS (below_step Z0 hb); clear HO1; clear HB; have HO1 := n0_; have HO419 := n1_; have HB := n2_; clear n0_ n1_ n2_; clear hb ho9; obtain ⟨Ao10, co10, eo10⟩ := Kd.N_slice HO419.out; subst eo10) | ((with_reducible refine gate_callee (f := 32) rfl ?_); refine goesL_ (some 9) rfl rfl Tryz.func32 Z6 rfl #[.slice A0 l0.length c0, .slice Ao10 y417.length co10] rfl Z1 ?_; (with_reducible refine (monzo_CheckAll.calls k _ _ l0 _ _ y417 t420 _ ?side1 ?side2 ?side3 ?side4 ?side5 A3.out).mono ?_); (case side1 => exact Z4); (case side2 => exact Z58); (case side3 => exact Z132); (case side4 => exact (Kd.N_reads' HO419.out).2.1); (case side5 => exact Z183); rintro e w' ⟨rfl, ⟨nd, rfl⟩⟩; refine ⟨_, rfl, ?_⟩))
  go_ret2
  exact ⟨_, Z2, Kd.R_V (base := 0) Z22, Z0⟩
def monzo_Power.l0 : Nat → List Int → Int → List Int → List Int → Int → Int → Option (List Int × Int)
 | 0, _, _, _, _, _, _ => none
 | k + 1, x0, x2, x9, x21, x22, x23 => if x23 < x22 then (if 0 ≤ x23 then (if x23 < (x21.length : Int) then (if x9.length < 17592186044416 then (monzo_Power.l0 k x0 x2 (x9 ++ [wrap64 (x2 * (rd x21 x23))]) x21 x22 (wrap64 (x23 + 1))) else (none)) else (none)) else (none)) else ((monzo_result.f k x0 x9).bind fun bt426 => (some (bt426.1, bt426.2)))
def monzo_Power.f (k : Nat) (l0 : List Int) (l1 : List Int) (a2 : Int) : Option (List Int × Int) := (monzo_Check.f k l0 l1).bind fun t421 => (if t421 = 0 then (monzo_Power.l0 k l0 (mn (mx a2 (-1001)) 1001) ([] : List Int) l1 (l1.length : Int) 0) else (some (([] : List Int), t421)))
set_option maxHeartbeats 8000000 in
set_option maxRecDepth 100000 in
theorem monzo_Power.calls (k : Nat) (A0 : Option Addr) (c0 : Nat) (l0 : List Int) (A1 : Option Addr) (c1 : Nat) (l1 : List Int) (a2 : Int) (r1 : List Int) (r2 : Int) (w : World) (hr0 : Kd.C (Kd.int .i64) w A0 l0.length l0) (hc0 : l0.length ≤ c0) (hr1 : Kd.C (Kd.int .i64) w A1 l1.length l1) (hc1 : l1.length ≤ c1) (hG : GL w) (h : monzo_Power.f k l0 l1 a2 = some (r1, r2)) :
  Calls Tryz.prog 77 #[.slice A0 l0.length c0, .slice A1 l1.length c1, .int .i64 a2] w fun e w' => ∃ v0_ : Value, e = .returned (.tuple #[v0_, .int .i64 r2]) ∧ Kd.V (Kd.int .i64) 3 w' w.heap.size (fun k_ => (w.heap.size ≤ k_)) v0_ r1 ∧ Below w.heap.size w w' := by
 have HR0 := AS hr0
 have HC0 := AS hc0
 clear hr0 hc0
 have HR1 := AS hr1
 have HC1 := AS hc1
 clear hr1 hc1
 have HB := AS (Below.refl w.heap.size w)
 have H : ((monzo_Check.f k l0 l1).bind fun t421 => (if t421 = 0 then (monzo_Power.l0 k l0 (mn (mx a2 (-1001)) 1001) ([] : List Int) l1 (l1.length : Int) 0) else (some (([] : List Int), t421)))) = some (r1, r2) := h
 clear h
 replace H := Option.bind_eq_some_iff.mp H
 obtain ⟨t421, A40, H⟩ := H
 replace H : (if t421 = 0 then (monzo_Power.l0 k l0 (mn (mx a2 (-1001)) 1001) ([] : List Int) l1 (l1.length : Int) 0) else (some (([] : List Int), t421))) = some (r1, r2) := H
 have A4 := AS A40
 clear A40
 by_cases c5 : t421 = 0
 ·rw [if_pos c5] at H
  have c5b0 : (t421 == 0) = true := beq_iff_eq.mpr c5
  have c5b1 : (t421 != 0) = false := bne_eq_false_iff_eq.mpr c5
  clear c5
  obtain ⟨ji6, hji6⟩ : ∃ j_ : Int, (mx a2 (-1001)) = j_ := ⟨_, rfl⟩
  replace H : (monzo_Power.l0 k l0 (mn (ji6) 1001) ([] : List Int) l1 (l1.length : Int) 0) = some (r1, r2) := by first | (rw [hji6] at H; exact H) | (simp only [hji6] at H ⊢; exact H)
  (try rw [hji6] at A4)
  have hji6_ : (if a2 < (-1001) then (-1001) else a2) = ji6 := hji6
  obtain ⟨ji7, hji7⟩ : ∃ j_ : Int, (mn (ji6) 1001) = j_ := ⟨_, rfl⟩
  replace H : (monzo_Power.l0 k l0 ji7 ([] : List Int) l1 (l1.length : Int) 0) = some (r1, r2) := by first | (rw [hji7] at H; exact H) | (simp only [hji7] at H ⊢; exact H)
  (try rw [hji7] at A4)
  have hji7_ : (if 1001 < (ji6) then 1001 else (ji6)) = ji7 := hji7
  have H' := AS H
  clear H
  go_enter Tryz.func77, Tryz.ntmps77
  go_wp2_with (first | ((with_reducible refine gate_callee (f := 66) rfl ?_); refine goesL_ (some 14) rfl rfl Tryz.func66 Z6 rfl #[.slice A0 l0.length c0, .slice A1 l1.length c1] rfl Z1 ?_; (with_reducible refine (monzo_Check.calls k _ _ l0 (fun k_ => k_ < w.heap.size) _ _ l1 t421 _ ?side1 ?side2 ?side3 ?side4 A4.out).mono ?_); (case side1 => exact Z12); (case side2 => exact Z58); (case side3 => exact Z191); (case side4 => exact Z183); rintro e w8 ⟨rfl, hb⟩; refine ⟨_, rfl, ?_⟩; have n0_ := AS (below_step Z0 hb); clear HB; have HB := n0_; clear n0_; (try clear hb); (try clear hb2); (try clear hk); (try clear hi)))
  go_loopg [9, 23] k (fun kq v9 v23 w' => ∃ (x9_1 : List Int) (x23_1 : Int), v23 = .int .i64 x23_1 ∧ Aside0 (monzo_Power.l0 kq l0 ji7 x9_1 l1 (l1.length : Int) x23_1 = some (r1, r2)) ∧ Aside0 (kq ≤ k) ∧ Aside0 (Kd.R (Kd.int .i64) 3 w' w.heap.size (fun k_ => (w.heap.size ≤ k_)) v9 x9_1) ∧ Aside0 (Below w.heap.size w w'))
  case atStart => exact ⟨(([] : List Int)), (0), Z5, H', ⟨Nat.le_refl _⟩, ⟨Z22⟩, ⟨Z0⟩⟩
  case round =>
   clear H'
   try clear c1
   try clear p2
   try clear c5
   try clear c5b0
   try clear c5b1
   try clear c6
   try clear c7
   obtain ⟨x9_1, x23_1, rfl, HA, HK1, HO_9, HB⟩ := hrel
   cases gk with
   | zero => exact absurd HA.out (by simp [monzo_Power.l0])
   | succ k1 =>
    have H := HA.out
    clear HA
    simp only [monzo_Power.l0] at H
    by_cases c9 : x23_1 < (l1.length : Int)
    ·rw [if_pos c9] at H
     have c9b0 : decide (x23_1 < (l1.length : Int)) = true := decide_eq_true c9
     clear c9
     by_cases c10 : 0 ≤ x23_1
     ·rw [if_pos c10] at H
      have c10b0 : decide (0 ≤ x23_1) = true := decide_eq_true c10
      clear c10
      by_cases c11 : x23_1 < (l1.length : Int)
      ·rw [if_pos c11] at H
       have c11b0 : decide (x23_1 < (l1.length : Int)) = true := decide_eq_true c11
       clear c11
       by_cases c12 : x9_1.length < 17592186044416
       ·rw [if_pos c12] at H
        have LMc12 := AS c12
        clear c12
        obtain ⟨y423, hy423⟩ : ∃ y_ : List Int, y_ = (x9_1 ++ [wrap64 (ji7 * (rd l1 x23_1))]) := ⟨_, rfl⟩
        replace H : (monzo_Power.l0 k1 l0 ji7 y423 l1 (l1.length : Int) (wrap64 (x23_1 + 1))) = some (r1, r2) := by first | (rw [hy423]; with_reducible exact H) | (have H2_ := (Option.bind_some _ _).symm.trans H; rw [hy423]; with_reducible exact H2_) | (have H2_ := (Option.bind_some _ _).symm.trans H; with_reducible exact H2_) | with_reducible exact H | (rw [hy423]; exact H) | exact H
        have Ny423 := AS hy423
        clear hy423
        have H' := AS H
        clear H
        have p422 : 0 ≤ (x23_1 : Int) := of_decide_eq_true Z3
        have q422 : x23_1 < (l1.length : Int) := of_decide_eq_true Z3
        obtain ⟨ad422, e422, hx422_0⟩ := Kd.at_int HR1.out x23_1 p422 q422
        cases e422
        replace hx422_0 := (HB.out.cell (World.block_lt_of_cell? w _ hx422_0)).trans hx422_0
        replace p422 := eq_true p422
        replace q422 := eq_true q422
        go_wp2_with (first | ((with_reducible refine gate_builtin (b := .append) (xs := #[.tmp 27, .tmp 31]) rfl ?_); at_builtin; refine Kd.R_append (Kd.int .i64) (w0 := w) w.heap.size rfl (.tmp 27) (.tmp 31) 28 3 (.int .i64 0) 8 rfl Tryz.underlying28 info3 rfl (by decide) (by omega) u9 x9_1 (wrap64 (ji7 * (rd l1 x23_1))) [.int .i64 (wrap64 (ji7 * (rd l1 x23_1)))] (fun k_ => (w.heap.size ≤ k_)) (fun _ => False) rfl rfl ?aP (fun _ hk => hk.elim) ?aF ?aO ?aB ?aS ?aL ?_; (case aP => exact rfl); (case aB => exact Z0); (case aF => exact (fun k_ hk => (Nat.le_trans (below_size Z0) hk))); (case aO => exact Z158); (case aS => exact (below_size Z0)); (case aL => have := LMc12.out; omega); intro v424 w13 ho hb hg hat; rw [← Ny423.out] at ho; have n0_ := AS (hb); have n1_ := AS (ho); clear HB; clear HO_9; have HB := n0_; have HO425 := n1_; clear n0_ n1_; clear ho hb hg hat))
        go_roundg k1
        case measure => have := HK1.out; omega
        case rel => exact ⟨(y423), (wrap64 (x23_1 + 1)), Z5, H', ⟨Z101⟩, ⟨by (with_reducible repeat (first | apply Kd.R_alloc | apply Kd.R_drewN | apply Kd.R_drew)); exact HO425.out⟩, ⟨Z0⟩⟩
       ·rw [if_neg c12] at H
        exact absurd H (by simp)
      ·rw [if_neg c11] at H
       exact absurd H (by simp)
     ·rw [if_neg c10] at H
      exact absurd H (by simp)
    ·rw [if_neg c9] at H
     have c9b0 : decide (x23_1 < (l1.length : Int)) = false := decide_eq_false c9
     clear c9
     replace H := Option.bind_eq_some_iff.mp H
     obtain ⟨⟨t426, t429⟩, A140, H⟩ := H
     replace H : (some (t426, t429)) = some (r1, r2) := H
     have A14 := AS A140
     clear A140
     simp only [Option.some.injEq, Prod.mk.injEq] at H
     obtain ⟨rfl, rfl⟩ := H
     obtain ⟨Ao15, co15, eo15⟩ := Kd.R_slice HO_9.out
     subst eo15
     go_wp2_with (first | ((with_reducible refine gate_callee (f := 94) rfl ?_); refine goesL_ (some 36) rfl rfl Tryz.func94 Z6 rfl #[.slice A0 l0.length c0, .slice Ao15 x9_1.length co15] rfl Z1 ?_; (with_reducible refine (monzo_result.calls k1 _ _ l0 (fun k_ => some k_ = (.slice Ao15 x9_1.length co15 : Value).ownBlock) _ _ x9_1 t426 t429 _ ?side1 ?side2 ?side3 ?side4 A14.out).mono ?_); (case side1 => exact Z4); (case side2 => exact Z58); (case side3 => exact Kd.R_V (Kd.R_tight rfl (HO_9.out))); (case side4 => exact Z183); rintro e w16 ⟨v427, rfl, ho0, hb⟩; refine ⟨_, rfl, ?_⟩; have n0_ := AS (Kd.R_below Z158 hb); have n1_ := AS (Kd.V_lower (Kd.V_mono (ok' := fun k_ => (w.heap.size ≤ k_)) ho0 (fun k_ hk_ => Or.elim hk_ (fun hs_ => ((HO_9.out).1 k_ hs_.symm)) (fun hn_ => (Nat.le_trans (below_size Z0) hn_)))) (below_size Z0)); have n2_ := AS (below_step Z0 hb); clear HO_9; clear HB; have HO_9 := n0_; have HO428 := n1_; have HB := n2_; clear n0_ n1_ n2_; (try clear hb); (try clear hb2); (try clear hk); (try clear hi); (try clear ho0)))
     go_ret2
     exact ⟨_, by first | rfl | (simp [errW_none, errW_some] <;> rfl) | (simp only [← hji6, ← hji7]; first | rfl | (simp [errW_none, errW_some] <;> rfl)) | (simp [*, errW_none, errW_some] <;> rfl), by (with_reducible repeat (first | apply Kd.V_alloc | apply Kd.V_drewN | apply Kd.V_drew)); exact HO428.out, Z0⟩
 ·rw [if_neg c5] at H
  have c5b0 : (t421 == 0) = false := beq_eq_false_iff_ne.mpr c5
  have c5b1 : (t421 != 0) = true := bne_iff_ne.mpr c5
  simp only [Option.some.injEq, Prod.mk.injEq] at H
  obtain ⟨rfl, rfl⟩ := H
  go_enter Tryz.func77, Tryz.ntmps77
  go_wp2_with (first | ((with_reducible refine gate_callee (f := 66) rfl ?_); refine goesL_ (some 14) rfl rfl Tryz.func66 Z6 rfl #[.slice A0 l0.length c0, .slice A1 l1.length c1] rfl Z1 ?_; (with_reducible refine (monzo_Check.calls k _ _ l0 (fun k_ => k_ < w.heap.size) _ _ l1 t421 _ ?side1 ?side2 ?side3 ?side4 A4.out).mono ?_); (case side1 => exact Z12); (case side2 => exact Z58); (case side3 => exact Z191); (case side4 => exact Z183); rintro e w17 ⟨rfl, hb⟩; refine ⟨_, rfl, ?_⟩; have n0_ := AS (below_step Z0 hb); clear HB; have HB := n0_; clear n0_; (try clear hb); (try clear hb2); (try clear hk); (try clear hi)))
  go_ret2
  exact ⟨_, Z2, Kd.R_V (base := 0) Z22, Z0⟩
def monzo_Neg.f (k : Nat) (l0 : List Int) (l1 : List Int) : Option (List Int × Int) := (monzo_Power.f k l0 l1 (-1)).bind fun bt430 => (some (bt430.1, bt430.2))
set_option maxHeartbeats 8000000 in
set_option maxRecDepth 100000 in
theorem monzo_Neg.calls (k : Nat) (A0 : Option Addr) (c0 : Nat) (l0 : List Int) (A1 : Option Addr) (c1 : Nat) (l1 : List Int) (r1 : List Int) (r2 : Int) (w : World) (hr0 : Kd.C (Kd.int .i64) w A0 l0.length l0) (hc0 : l0.length ≤ c0) (hr1 : Kd.C (Kd.int .i64) w A1 l1.length l1) (hc1 : l1.length ≤ c1) (hG : GL w) (h : monzo_Neg.f k l0 l1 = some (r1, r2)) :
  Calls Tryz.prog 41 #[.slice A0 l0.length c0, .slice A1 l1.length c1] w fun e w' => ∃ v0_ : Value, e = .returned (.tuple #[v0_, .int .i64 r2]) ∧ Kd.V (Kd.int .i64) 3 w' w.heap.size (fun k_ => (w.heap.size ≤ k_)) v0_ r1 ∧ Below w.heap.size w w' := by
 have HR0 := AS hr0
 have HC0 := AS hc0
 clear hr0 hc0
 have HR1 := AS hr1
 have HC1 := AS hc1
 clear hr1 hc1
 have HB := AS (Below.refl w.heap.size w)
 have H : ((monzo_Power.f k l0 l1 (-1)).bind fun bt430 => (some (bt430.1, bt430.2))) = some (r1, r2) := h
 clear h
 replace H := Option.bind_eq_some_iff.mp H
 obtain ⟨⟨t430, t433⟩, A30, H⟩ := H
 replace H : (some (t430, t433)) = some (r1, r2) := H
 have A3 := AS A30
 clear A30
 simp only [Option.some.injEq, Prod.mk.injEq] at H
 obtain ⟨rfl, rfl⟩ := H
 go_enter Tryz.func41, Tryz.ntmps41
 go_wp2_with (first | ((with_reducible refine gate_callee (f := 77) rfl ?_); refine goesL_ (some 8) rfl rfl Tryz.func77 Z6 rfl #[.slice A0 l0.length c0, .slice A1 l1.length c1, .int .i64 (-1)] rfl Z1 ?_; (with_reducible refine (monzo_Power.calls k _ _ l0 _ _ l1 (-1) t430 t433 _ ?side1 ?side2 ?side3 ?side4 ?side5 A3.out).mono ?_); (case side1 => exact Z12); (case side2 => exact Z58); (case side3 => exact Z36); (case side4 => exact Z145); (case side5 => exact Z183); rintro e w4 ⟨v431, rfl, ho0, hb⟩; refine ⟨_, rfl, ?_⟩; have n0_ := AS (Kd.V_lower (Kd.V_mono (ok' := fun k_ => (w.heap.size ≤ k_)) ho0 (fun k_ hk_ => (Nat.le_trans (below_size Z0) hk_))) (below_size Z0)); have n1_ := AS (below_step Z0 hb); clear HB; have HO432 := n0_; have HB := n1_; clear n0_ n1_; (try clear hb); (try clear hb2); (try clear hk); (try clear hi); (try clear ho0)))
 go_ret2
 exact ⟨_, Z2, by (with_reducible repeat (first | apply Kd.V_alloc | apply Kd.V_drewN | apply Kd.V_drew)); exact HO432.out, Z0⟩
def interval_Inverse.f (k : Nat) (l0 : List Int) (l1 : List Int) : Option (List Int × Int) := (monzo_Neg.f k l0 l1).bind fun bt434 => (if bt434.2 = 0 then ((interval_Reduce.f k l0 bt434.1).bind fun bt438 => (some (bt438.1, bt438.2.2))) else (some (([] : List Int), bt434.2)))
set_option maxHeartbeats 8000000 in
set_option maxRecDepth 100000 in
theorem interval_Inverse.calls (k : Nat) (A0 : Option Addr) (c0 : Nat) (l0 : List Int) (A1 : Option Addr) (c1 : Nat) (l1 : List Int) (r1 : List Int) (r2 : Int) (w : World) (hr0 : Kd.C (Kd.int .i64) w A0 l0.length l0) (hc0 : l0.length ≤ c0) (hr1 : Kd.C (Kd.int .i64) w A1 l1.length l1) (hc1 : l1.length ≤ c1) (hG : GL w) (h : interval_Inverse.f k l0 l1 = some (r1, r2)) :
  Calls Tryz.prog 15 #[.slice A0 l0.length c0, .slice A1 l1.length c1] w fun e w' => ∃ v0_ : Value, e = .returned (.tuple #[v0_, .int .i64 r2]) ∧ Kd.R (Kd.int .i64) 3 w' w.heap.size (fun _ => True) v0_ r1 ∧ Below w.heap.size w w' := by
 have HR0 := AS hr0
 have HC0 := AS hc0
 clear hr0 hc0
 have HR1 := AS hr1
 have HC1 := AS hc1
 clear hr1 hc1
 have HB := AS (Below.refl w.heap.size w)
 have H : ((monzo_Neg.f k l0 l1).bind fun bt434 => (if bt434.2 = 0 then ((interval_Reduce.f k l0 bt434.1).bind fun bt438 => (some (bt438.1, bt438.2.2))) else (some (([] : List Int), bt434.2)))) = some (r1, r2) := h
 clear h
 replace H := Option.bind_eq_some_iff.mp H
 obtain ⟨⟨t434, t437⟩, A30, H⟩ := H
 replace H : (if t437 = 0 then ((interval_Reduce.f k l0 t434).bind fun bt438 => (some (bt438.1, bt438.2.2))) else (some (([] : List Int), t437))) = some (r1, r2) := H
 have A3 := AS A30
 clear A30
 by_cases c4 : t437 = 0
 ·rw [if_pos c4] at H
  have c4b0 : (t437 == 0) = true := beq_iff_eq.mpr c4
  have c4b1 : (t437 != 0) = false := bne_eq_false_iff_eq.mpr c4
  clear c4
  replace H := Option.bind_eq_some_iff.mp H
  obtain ⟨⟨t438, t441, t442⟩, A50, H⟩ := H
  replace H : (some (t438, t442)) = some (r1, r2) := H
  have A5 := AS A50
  clear A50
  simp only [Option.some.injEq, Prod.mk.injEq] at H
  obtain ⟨rfl, rfl⟩ := H
  go_enter Tryz.func15, Tryz.ntmps15
  go_wp2_with (first | ((with_reducible refine gate_callee (f := 41) rfl ?_); refine goesL_ (some 13) rfl rfl Tryz.func41 Z6 rfl #[.slice A0 l0.length c0, .slice A1 l1.length c1] rfl Z1 ?_; (with_reducible refine (monzo_Neg.calls k _ _ l0 _ _ l1 t434 t437 _ ?side1 ?side2 ?side3 ?side4 ?side5 A3.out).mono ?_); (case side1 => exact Z12); (case side2 => exact Z58); (case side3 => exact Z36); (case side4 => exact Z145); (case side5 => exact Z183); rintro e w6 ⟨v435, rfl, ho0, hb⟩; refine ⟨_, rfl, ?_⟩; have n0_ := AS (Kd.V_lower (Kd.V_mono (ok' := fun k_ => True) ho0 (fun k_ hk_ => trivial)) (below_size Z0)); have n1_ := AS (below_step Z0 hb); clear HB; have HO436 := n0_; have HB := n1_; clear n0_ n1_; (try clear hb); (try clear hb2); (try clear hk); (try clear hi); (try clear ho0); obtain ⟨Ao7, co7, eo7⟩ := Kd.V_slice HO436.out; subst eo7) | ((with_reducible refine gate_callee (f := 39) rfl ?_); refine goesL_ (some 22) rfl rfl Tryz.func39 Z6 rfl #[.slice A0 l0.length c0, .slice Ao7 t434.length co7] rfl Z1 ?_; (with_reducible refine (interval_Reduce.calls k _ _ l0 (fun k_ => True) _ _ t434 t438 t441 t442 _ ?side1 ?side2 ?side3 ?side4 A5.out).mono ?_); (case side1 => exact Z4); (case side2 => exact Z58); (case side3 => exact HO436.out); (case side4 => exact Z183); rintro e w8 ⟨v439, rfl, ho0, hb⟩; refine ⟨_, rfl, ?_⟩; have n0_ := AS (Kd.V_elder' (by (with_reducible repeat (first | apply Kd.V_alloc | apply Kd.V_drewN | apply Kd.V_drew)); exact HO436.out) (Kd.R_base ho0) hb); have n1_ := AS (Kd.R_lower (Kd.R_mono (ok' := fun k_ => True) ho0 (fun _ hk_ => trivial)) (below_size Z0)); have n2_ := AS (below_step Z0 hb); clear HO436; clear HB; have HO436 := n0_; have HO440 := n1_; have HB := n2_; clear n0_ n1_ n2_; (try clear hb); (try clear hb2); (try clear hk); (try clear hi); (try clear ho0)))
  go_ret2
  exact ⟨_, Z2, by (with_reducible repeat (first | apply Kd.R_alloc | apply Kd.R_drewN | apply Kd.R_drew)); exact HO440.out, Z0⟩
 ·rw [if_neg c4] at H
  have c4b0 : (t437 == 0) = false := beq_eq_false_iff_ne.mpr c4
  have c4b1 : (t437 != 0) = true := bne_iff_ne.mpr c4
  simp only [Option.some.injEq, Prod.mk.injEq] at H
  obtain ⟨rfl, rfl⟩ := H
  go_enter Tryz.func15, Tryz.ntmps15
  go_wp2_with (first | ((with_reducible refine gate_callee (f := 41) rfl ?_); refine goesL_ (some 13) rfl rfl Tryz.func41 Z6 rfl #[.slice A0 l0.length c0, .slice A1 l1.length c1] rfl Z1 ?_; (with_reducible refine (monzo_Neg.calls k _ _ l0 _ _ l1 t434 t437 _ ?side1 ?side2 ?side3 ?side4 ?side5 A3.out).mono ?_); (case side1 => exact Z12); (case side2 => exact Z58); (case side3 => exact Z36); (case side4 => exact Z145); (case side5 => exact Z183); rintro e w9 ⟨v435, rfl, ho0, hb⟩; refine ⟨_, rfl, ?_⟩; have n0_ := AS (Kd.V_lower (Kd.V_mono (ok' := fun k_ => True) ho0 (fun k_ hk_ => trivial)) (below_size Z0)); have n1_ := AS (below_step Z0 hb); clear HB; have HO436 := n0_; have HB := n1_; clear n0_ n1_; (try clear hb); (try clear hb2); (try clear hk); (try clear hi); (try clear ho0)))
  go_ret2
  exact ⟨_, Z2, Z22, Z0⟩
def bits_Len64.f (a0 : Int) : Option (Int) := if 0 ≤ a0 ∧ a0 ≤ 18446744073709551615 then some (Lib.bitLen a0.toNat) else none
theorem bits_Len64.calls (a0 : Int) (r : Int) (w : World) (hG : GL w) (h : bits_Len64.f a0 = some r) :
  Calls Tryz.prog 131 #[.int .u64 a0] w fun e w' => e = .returned (.int .i64 r) ∧ Below w.heap.size w w' := by
 unfold bits_Len64.f at h
 by_cases c : 0 ≤ a0 ∧ a0 ≤ 18446744073709551615
 ·rw [if_pos c] at h
  obtain rfl := Option.some.inj h
  refine (Tryz.bits_Len64 a0 w c.1 c.2).mono ?_
  rintro e w' ⟨rfl, rfl⟩
  exact ⟨rfl, Below.refl _ _⟩
 ·rw [if_neg c] at h
  cases h
def decimal_Bits.f (a0 : ByteArray) : Option (Int) := (decimal_Small.f a0).bind fun bt443 => (if bt443.2 = true then ((bits_Len64.f bt443.1).bind fun t445 => (some t445)) else (none))
set_option maxHeartbeats 8000000 in
set_option maxRecDepth 100000 in
theorem decimal_Bits.calls (a0 : ByteArray) (r : Int) (w : World) (hG : GL w) (h : decimal_Bits.f a0 = some r) :
  Calls Tryz.prog 105 #[.string a0] w fun e w' => e = .returned (.int .i64 r) ∧ Below w.heap.size w w' := by
 have HB := AS (Below.refl w.heap.size w)
 have H : ((decimal_Small.f a0).bind fun bt443 => (if bt443.2 = true then ((bits_Len64.f bt443.1).bind fun t445 => (some t445)) else (none))) = some r := h
 clear h
 replace H := Option.bind_eq_some_iff.mp H
 obtain ⟨⟨t443, t444⟩, A20, H⟩ := H
 replace H : (if t444 = true then ((bits_Len64.f t443).bind fun t445 => (some t445)) else (none)) = some r := H
 have A2 := AS A20
 clear A20
 by_cases c3 : t444 = true
 ·subst c3
  have H1 : ((bits_Len64.f t443).bind fun t445 => (some t445)) = some r := by rw [if_pos rfl] at H; exact H
  clear H
  have H := H1
  clear H1
  replace H := Option.bind_eq_some_iff.mp H
  obtain ⟨t445, A40, H⟩ := H
  replace H : (some t445) = some r := H
  have A4 := AS A40
  clear A40
  obtain rfl := Option.some.inj H
  go_enter Tryz.func105, Tryz.ntmps105
  go_wp2_with (first | ((with_reducible refine gate_callee (f := 107) rfl ?_); refine goesL_ (some 12) rfl rfl Tryz.func107 Z6 rfl #[.string a0] rfl Z1 ?_; (with_reducible refine (decimal_Small.calls a0 t443 true _ ?side1 A2.out).mono ?_); (case side1 => exact Z183); rintro e w5 ⟨rfl, hb⟩; refine ⟨_, rfl, ?_⟩; have n0_ := AS (below_step Z0 hb); clear HB; have HB := n0_; clear n0_; (try clear hb); (try clear hb2); (try clear hk); (try clear hi)) | ((with_reducible refine gate_callee (f := 131) rfl ?_); refine goesL_ (some 17) rfl rfl Tryz.func131 Z6 rfl #[.int .u64 t443] rfl Z1 ?_; (with_reducible refine (bits_Len64.calls t443 t445 _ ?side1 A4.out).mono ?_); (case side1 => exact Z183); rintro e w6 ⟨rfl, hb⟩; refine ⟨_, rfl, ?_⟩; have n0_ := AS (below_step Z0 hb); clear HB; have HB := n0_; clear n0_; (try clear hb); (try clear hb2); (try clear hk); (try clear hi)))
  go_ret
  exact ⟨Z2, Z0⟩
 ·replace c3 := Bool.eq_false_iff.mpr c3
  subst c3
  have H1 : (none) = some r := by rw [if_neg (show ¬ (false = true) by decide)] at H; exact H
  clear H
  have H := H1
  clear H1
  exact absurd H (by simp)
mutual
def decimal_Power.j0 : Nat → ByteArray → Int → Bool → Option (ByteArray × Int)
 | 0, _, _, _ => none
 | k + 1, x0, x1, x13 => if x13 = true then (some ((⟨#[49]⟩ : ByteArray), 0)) else (if x0.toList = ([48] : List UInt8) then (some ((⟨#[48]⟩ : ByteArray), 0)) else ((decimal_Bits.f x0).bind fun t446 => (if (wrap64 (t446 - 1)) = 0 then (none) else (if x1 > (wrap64 ((66439 : Int) / (wrap64 (t446 - 1)))) then (some ((⟨#[]⟩ : ByteArray), 4)) else ((decimal_cut.f x0).bind fun t450 => (decimal_Power.l0 k x1 (([1] : List Int)) t450))))))
def decimal_Power.l0 : Nat → Int → List Int → List Int → Option (ByteArray × Int)
 | 0, _, _, _ => none
 | k + 1, x1, x7, x8 => if x1 > 0 then (if (Go.bits .and .i64 x1 1) = 1 then ((decimal_pieces_times.f k x7 x8).bind fun t454 => (if x1 > 1 then ((decimal_pieces_times.f k x8 x8).bind fun t457 => (decimal_Power.l0 k (x1 / 2) t454 t457)) else (decimal_Power.l0 k (x1 / 2) t454 x8))) else (if x1 > 1 then ((decimal_pieces_times.f k x8 x8).bind fun t460 => (decimal_Power.l0 k (x1 / 2) x7 t460)) else (decimal_Power.l0 k (x1 / 2) x7 x8))) else ((decimal_pieces_text.f x7).bind fun t453 => (if (t453.size : Int) > 20000 then (some ((⟨#[]⟩ : ByteArray), 4)) else (some (t453, 0))))
end
def decimal_Power.f (k : Nat) (a0 : ByteArray) (a1 : Int) : Option (ByteArray × Int) := if a1 < 0 then (some ((⟨#[]⟩ : ByteArray), 3)) else (if a1 = 0 then (decimal_Power.j0 k a0 a1 true) else (decimal_Power.j0 k a0 a1 (a0.toList == ([49] : List UInt8))))
set_option maxHeartbeats 8000000 in
set_option maxRecDepth 100000 in
theorem decimal_Power.calls (k : Nat) (a0 : ByteArray) (a1 : Int) (r1 : ByteArray) (r2 : Int) (w : World) (hG : GL w) (h : decimal_Power.f k a0 a1 = some (r1, r2)) :
  Calls Tryz.prog 78 #[.string a0, .int .i64 a1] w fun e w' => e = .returned (.tuple #[.string r1, .int .i64 r2]) ∧ Below w.heap.size w w' := by
 have htd_ : ∀ x : Int, Int.tdiv 66439 x = 66439 / x := fun x => Int.tdiv_eq_ediv_of_nonneg (by decide)
 have HB := AS (Below.refl w.heap.size w)
 have H : (if a1 < 0 then (some ((⟨#[]⟩ : ByteArray), 3)) else (if a1 = 0 then (decimal_Power.j0 k a0 a1 true) else (decimal_Power.j0 k a0 a1 (a0.toList == ([49] : List UInt8))))) = some (r1, r2) := h
 clear h
 by_cases c3 : a1 < 0
 ·rw [if_pos c3] at H
  have c3b0 : decide (a1 < 0) = true := decide_eq_true c3
  clear c3
  simp only [Option.some.injEq, Prod.mk.injEq] at H
  obtain ⟨rfl, rfl⟩ := H
  go_enter Tryz.func78, Tryz.ntmps78
  go_wp2
  go_ret2
  exact ⟨Z2, Z0⟩
 ·rw [if_neg c3] at H
  have c3b0 : decide (a1 < 0) = false := decide_eq_false c3
  clear c3
  have HC4 := AS H
  clear H
  go_enter Tryz.func78, Tryz.ntmps78
  go_upto_region 3 with (fail)
  go_cut [13] (fun v13 wc => ∃ (kq : Nat) (x13_3 : Bool), v13 = .bool x13_3 ∧ Aside0 (decimal_Power.j0 kq a0 a1 x13_3 = some (r1, r2)) ∧ Aside0 (kq ≤ k) ∧ Aside0 (Below w.heap.size w wc))
  case first =>
   have H := HC4.out
   clear HC4
   by_cases c5 : a1 = 0
   ·rw [if_pos c5] at H
    have c5b0 : (a1 == 0) = true := beq_iff_eq.mpr c5
    have c5b1 : (a1 != 0) = false := bne_eq_false_iff_eq.mpr c5
    clear c5
    (first | rw [c5b0] | (simp only [i64_w, i32_w]; rw [c5b0]) | skip)
    have H' := AS H
    clear H
    go_wp2
    go_meet
    case rel => exact ⟨_, (true), Z5, H', ⟨Z76⟩, ⟨Z0⟩⟩
   ·rw [if_neg c5] at H
    have c5b0 : (a1 == 0) = false := beq_eq_false_iff_ne.mpr c5
    have c5b1 : (a1 != 0) = true := bne_iff_ne.mpr c5
    (first | rw [c5b0] | (simp only [i64_w, i32_w]; rw [c5b0]) | skip)
    have H' := AS H
    clear H
    go_wp2
    go_meet
    case rel => exact ⟨_, ((a0.toList == ([49] : List UInt8))), Z5, H', ⟨Z76⟩, ⟨Z0⟩⟩
  case rest =>
   clear HC4
   try clear p2
   try clear c3
   try clear c3b0
   try clear c5
   try clear c5b0
   try clear c5b1
   obtain ⟨kq, x13_3, rfl, HA, HJ3, HB⟩ := hcut
   cases kq with
   | zero => exact absurd HA.out (by simp [decimal_Power.j0])
   | succ kj3 =>
    have H := HA.out
    clear HA
    simp only [decimal_Power.j0] at H
    by_cases c6 : x13_3 = true
    ·subst c6
     have H1 : (some ((⟨#[49]⟩ : ByteArray), 0)) = some (r1, r2) := by rw [if_pos rfl] at H; exact H
     clear H
     have H := H1
     clear H1
     simp only [Option.some.injEq, Prod.mk.injEq] at H
     obtain ⟨rfl, rfl⟩ := H
     go_wp2
     go_ret2
     exact ⟨Z2, Z0⟩
    ·replace c6 := Bool.eq_false_iff.mpr c6
     subst c6
     have H1 : (if a0.toList = ([48] : List UInt8) then (some ((⟨#[48]⟩ : ByteArray), 0)) else ((decimal_Bits.f a0).bind fun t446 => (if (wrap64 (t446 - 1)) = 0 then (none) else (if a1 > (wrap64 ((66439 : Int) / (wrap64 (t446 - 1)))) then (some ((⟨#[]⟩ : ByteArray), 4)) else ((decimal_cut.f a0).bind fun t450 => (decimal_Power.l0 kj3 a1 (([1] : List Int)) t450)))))) = some (r1, r2) := by rw [if_neg (show ¬ (false = true) by decide)] at H; exact H
     clear H
     have H := H1
     clear H1
     by_cases c7 : a0.toList = ([48] : List UInt8)
     ·rw [if_pos c7] at H
      have c7b0 : (a0.toList == ([48] : List UInt8)) = true := beq_iff_eq.mpr c7
      have c7b1 : (a0.toList != ([48] : List UInt8)) = false := bne_eq_false_iff_eq.mpr c7
      clear c7
      simp only [Option.some.injEq, Prod.mk.injEq] at H
      obtain ⟨rfl, rfl⟩ := H
      go_wp2
      go_ret2
      exact ⟨Z2, Z0⟩
     ·rw [if_neg c7] at H
      have c7b0 : (a0.toList == ([48] : List UInt8)) = false := beq_eq_false_iff_ne.mpr c7
      have c7b1 : (a0.toList != ([48] : List UInt8)) = true := bne_iff_ne.mpr c7
      replace H := Option.bind_eq_some_iff.mp H
      obtain ⟨t446, A80, H⟩ := H
      replace H : (if (wrap64 (t446 - 1)) = 0 then (none) else (if a1 > (wrap64 ((66439 : Int) / (wrap64 (t446 - 1)))) then (some ((⟨#[]⟩ : ByteArray), 4)) else ((decimal_cut.f a0).bind fun t450 => (decimal_Power.l0 kj3 a1 (([1] : List Int)) t450)))) = some (r1, r2) := H
      have A8 := AS A80
      clear A80
      by_cases c9 : (wrap64 (t446 - 1)) = 0
      ·rw [if_pos c9] at H
       exact absurd H (by simp)
      ·rw [if_neg c9] at H
       have c9b0 : ((wrap64 (t446 - 1)) == 0) = false := beq_eq_false_iff_ne.mpr c9
       have c9b1 : ((wrap64 (t446 - 1)) != 0) = true := bne_iff_ne.mpr c9
       by_cases c10 : a1 > (wrap64 ((66439 : Int) / (wrap64 (t446 - 1))))
       ·rw [if_pos c10] at H
        have c10b0 : decide ((wrap64 ((66439 : Int) / (wrap64 (t446 - 1)))) < a1) = true := decide_eq_true c10
        clear c10
        simp only [Option.some.injEq, Prod.mk.injEq] at H
        obtain ⟨rfl, rfl⟩ := H
        go_wp2_with (first | ((with_reducible refine gate_callee (f := 105) rfl ?_); refine goesL_ (some 24) rfl rfl Tryz.func105 Z6 rfl #[.string a0] rfl Z1 ?_; (with_reducible refine (decimal_Bits.calls a0 t446 _ ?side1 A8.out).mono ?_); (case side1 => exact Z183); rintro e w11 ⟨rfl, hb⟩; refine ⟨_, rfl, ?_⟩; have n0_ := AS (below_step Z0 hb); clear HB; have HB := n0_; clear n0_; (try clear hb); (try clear hb2); (try clear hk); (try clear hi)))
        go_ret2
        exact ⟨Z2, Z0⟩
       ·rw [if_neg c10] at H
        have c10b0 : decide ((wrap64 ((66439 : Int) / (wrap64 (t446 - 1)))) < a1) = false := decide_eq_false c10
        clear c10
        obtain ⟨y447, hy447⟩ : ∃ y_ : List Int, y_ = (([1] : List Int)) := ⟨_, rfl⟩
        replace H : ((decimal_cut.f a0).bind fun t450 => (decimal_Power.l0 kj3 a1 y447 t450)) = some (r1, r2) := by first | (rw [hy447]; with_reducible exact H) | (have H2_ := (Option.bind_some _ _).symm.trans H; rw [hy447]; with_reducible exact H2_) | (have H2_ := (Option.bind_some _ _).symm.trans H; with_reducible exact H2_) | with_reducible exact H | (rw [hy447]; exact H) | exact H
        have Ny447 := AS hy447
        clear hy447
        replace H := Option.bind_eq_some_iff.mp H
        obtain ⟨t450, A120, H⟩ := H
        replace H : (decimal_Power.l0 kj3 a1 y447 t450) = some (r1, r2) := H
        have A12 := AS A120
        clear A120
        have H' := AS H
        clear H
        go_wp2_with (first | ((with_reducible refine gate_callee (f := 105) rfl ?_); refine goesL_ (some 24) rfl rfl Tryz.func105 Z6 rfl #[.string a0] rfl Z1 ?_; (with_reducible refine (decimal_Bits.calls a0 t446 _ ?side1 A8.out).mono ?_); (case side1 => exact Z183); rintro e w13 ⟨rfl, hb⟩; refine ⟨_, rfl, ?_⟩; have n0_ := AS (below_step Z0 hb); clear HB; have HB := n0_; clear n0_; (try clear hb); (try clear hb2); (try clear hk); (try clear hi)) | ((with_reducible refine gate_dst (N := 30) rfl ?_); refine Kd.R_lit (Kd.int .u64) _ 109 ?hg (N := 30) ?hd (xs := ([1] : List Int)) (inner := [.int .u64 1]) (ok := fun _ => True) (okp := fun _ => True) ?hr ?hp (fun _ hk => hk) trivial (Below.refl _ _) (Nat.le_refl _) (by simp) ?_; (case hd => rfl); (case hg => rfl); (case hr => exact Z13); (case hp => exact (Reps.one (show Kd.M (Kd.int .u64) _ _ _ 1 [.int .u64 1] from rfl) (Reps.none _ _))); intro v448 w14 ho15 hb hg_ hnew_; clear hg_ hnew_; (first | rw [← Ny447.out] at ho15 | (simp only [Int.reduceToNat] at ho15; rw [← Ny447.out] at ho15)); have n0_ := AS (Kd.R_lower ho15 (below_size Z0)); have n1_ := AS (below_step Z0 hb); clear HB; have HO449 := n0_; have HB := n1_; clear n0_ n1_; clear hb ho15) | ((with_reducible refine gate_callee (f := 81) rfl ?_); refine goesL_ (some 32) rfl rfl Tryz.func81 Z6 rfl #[.string a0] rfl Z1 ?_; (with_reducible refine (decimal_cut.calls a0 t450 _ ?side1 A12.out).mono ?_); (case side1 => exact Z183); rintro e w16 ⟨v451, rfl, ho0, hb⟩; refine ⟨_, rfl, ?_⟩; have n0_ := AS (Kd.R_below Z140 hb); have n1_ := AS (Kd.V_lower (Kd.V_mono (ok' := fun k_ => some k_ ≠ (v448 : Value).ownBlock) ho0 (fun k_ hk_ => (Kd.fresh' (Kd.R_lt Z140) k_ hk_))) (below_size Z0)); have n2_ := AS (below_step Z0 hb); clear HO449; clear HB; have HO449 := n0_; have HO452 := n1_; have HB := n2_; clear n0_ n1_ n2_; (try clear hb); (try clear hb2); (try clear hk); (try clear hi); (try clear ho0)))
        go_loopg [1, 7, 8] kj3 (fun kq v1 v7 v8 w' => ∃ (x1_2 : Int) (x7_2 : List Int) (x8_2 : List Int), v1 = .int .i64 x1_2 ∧ Aside0 (decimal_Power.l0 kq x1_2 x7_2 x8_2 = some (r1, r2)) ∧ Aside0 (kq ≤ kj3) ∧ Aside0 (Kd.V (Kd.int .u64) 109 w' w.heap.size (fun _ => True) v7 x7_2) ∧ Aside0 (Kd.V (Kd.int .u64) 109 w' w.heap.size (fun _ => True) v8 x8_2) ∧ Aside0 (Below w.heap.size w w'))
        case atStart => exact ⟨(a1), (y447), (t450), Z5, H', ⟨Nat.le_refl _⟩, ⟨Kd.R_V Z140⟩, ⟨by (with_reducible repeat (first | apply Kd.V_alloc | apply Kd.V_drewN | apply Kd.V_drew)); exact Kd.V_mono HO452.out (fun _ hk => trivial)⟩, ⟨Z0⟩⟩
        case round =>
         clear H'
         try clear c1
         try clear p2
         try clear c3
         try clear c3b0
         try clear c5
         try clear c5b0
         try clear c5b1
         try clear c6
         try clear p6
         try clear c7
         try clear c7b0
         try clear c7b1
         try clear c8
         try clear c9
         try clear c9b0
         try clear c9b1
         try clear c10
         try clear c10b0
         try clear p2
         obtain ⟨x1_2, x7_2, x8_2, rfl, HA, HK2, HO_7, HO_8, HB⟩ := hrel
         cases gk with
         | zero => exact absurd HA.out (by simp [decimal_Power.l0])
         | succ k2 =>
          have H := HA.out
          clear HA
          simp only [decimal_Power.l0] at H
          by_cases c17 : x1_2 > 0
          ·rw [if_pos c17] at H
           have c17b0 : decide (0 < x1_2) = true := decide_eq_true c17
           clear c17
           by_cases c18 : (Go.bits .and .i64 x1_2 1) = 1
           ·rw [if_pos c18] at H
            have c18b0 : ((Go.bits .and .i64 x1_2 1) == 1) = true := beq_iff_eq.mpr c18
            have c18b1 : ((Go.bits .and .i64 x1_2 1) != 1) = false := bne_eq_false_iff_eq.mpr c18
            clear c18
            replace H := Option.bind_eq_some_iff.mp H
            obtain ⟨t454, A190, H⟩ := H
            replace H : (if x1_2 > 1 then ((decimal_pieces_times.f k2 x8_2 x8_2).bind fun t457 => (decimal_Power.l0 k2 (x1_2 / 2) t454 t457)) else (decimal_Power.l0 k2 (x1_2 / 2) t454 x8_2)) = some (r1, r2) := H
            have A19 := AS A190
            clear A190
            by_cases c20 : x1_2 > 1
            ·rw [if_pos c20] at H
             have c20b0 : decide (1 < x1_2) = true := decide_eq_true c20
             clear c20
             replace H := Option.bind_eq_some_iff.mp H
             obtain ⟨t457, A210, H⟩ := H
             replace H : (decimal_Power.l0 k2 (x1_2 / 2) t454 t457) = some (r1, r2) := H
             have A21 := AS A210
             clear A210
             have H' := AS H
             clear H
             obtain ⟨Ao22, co22, eo22⟩ := Kd.V_slice HO_7.out
             subst eo22
             obtain ⟨Ao23, co23, eo23⟩ := Kd.V_slice HO_8.out
             subst eo23
             go_wp2_with (first | ((with_reducible refine gate_callee (f := 82) rfl ?_); refine goesL_ (some 42) rfl rfl Tryz.func82 Z6 rfl #[.slice Ao22 x7_2.length co22, .slice Ao23 x8_2.length co23] rfl Z1 ?_; (with_reducible refine (decimal_pieces_times.calls k2 _ _ x7_2 _ _ x8_2 t454 _ ?side1 ?side2 ?side3 ?side4 ?side5 A19.out).mono ?_); (case side1 => exact Z97); (case side2 => exact Z166); (case side3 => exact Z66); (case side4 => exact Z159); (case side5 => exact Z183); rintro e w24 ⟨v455, rfl, ho0, hb⟩; refine ⟨_, rfl, ?_⟩; have n0_ := AS (Kd.V_below Z78 hb); have n1_ := AS (Kd.V_below Z79 hb); have n2_ := AS (Kd.V_lower (Kd.V_mono (ok' := fun k_ => True) ho0 (fun k_ hk_ => trivial)) (below_size Z0)); have n3_ := AS (below_step Z0 hb); clear HO_7; clear HO_8; clear HB; have HO_7 := n0_; have HO_8 := n1_; have HO456 := n2_; have HB := n3_; clear n0_ n1_ n2_ n3_; (try clear hb); (try clear hb2); (try clear hk); (try clear hi); (try clear ho0)) | ((with_reducible refine gate_callee (f := 82) rfl ?_); refine goesL_ (some 47) rfl rfl Tryz.func82 Z6 rfl #[.slice Ao23 x8_2.length co23, .slice Ao23 x8_2.length co23] rfl Z1 ?_; (with_reducible refine (decimal_pieces_times.calls k2 _ _ x8_2 _ _ x8_2 t457 _ ?side1 ?side2 ?side3 ?side4 ?side5 A21.out).mono ?_); (case side1 => exact Z66); (case side2 => exact Z159); (case side3 => exact Z66); (case side4 => exact Z159); (case side5 => exact Z183); rintro e w25 ⟨v458, rfl, ho0, hb⟩; refine ⟨_, rfl, ?_⟩; have n0_ := AS (Kd.V_below Z78 hb); have n1_ := AS (Kd.V_below Z79 hb); have n2_ := AS (Kd.V_below Z141 hb); have n3_ := AS (Kd.V_lower (Kd.V_mono (ok' := fun k_ => True) ho0 (fun k_ hk_ => trivial)) (below_size Z0)); have n4_ := AS (below_step Z0 hb); clear HO_7; clear HO_8; clear HO456; clear HB; have HO_7 := n0_; have HO_8 := n1_; have HO456 := n2_; have HO459 := n3_; have HB := n4_; clear n0_ n1_ n2_ n3_ n4_; (try clear hb); (try clear hb2); (try clear hk); (try clear hi); (try clear ho0)))
             go_roundg k2
             case measure => have := HJ3.out; have := HK2.out; omega
             case rel => exact ⟨(x1_2 / 2), (t454), (t457), Z5, H', ⟨Z161⟩, ⟨Z141⟩, ⟨by (with_reducible repeat (first | apply Kd.V_alloc | apply Kd.V_drewN | apply Kd.V_drew)); exact HO459.out⟩, ⟨Z0⟩⟩
            ·rw [if_neg c20] at H
             have c20b0 : decide (1 < x1_2) = false := decide_eq_false c20
             clear c20
             have H' := AS H
             clear H
             obtain ⟨Ao26, co26, eo26⟩ := Kd.V_slice HO_7.out
             subst eo26
             obtain ⟨Ao27, co27, eo27⟩ := Kd.V_slice HO_8.out
             subst eo27
             go_wp2_with (first | ((with_reducible refine gate_callee (f := 82) rfl ?_); refine goesL_ (some 42) rfl rfl Tryz.func82 Z6 rfl #[.slice Ao26 x7_2.length co26, .slice Ao27 x8_2.length co27] rfl Z1 ?_; (with_reducible refine (decimal_pieces_times.calls k2 _ _ x7_2 _ _ x8_2 t454 _ ?side1 ?side2 ?side3 ?side4 ?side5 A19.out).mono ?_); (case side1 => exact Z97); (case side2 => exact Z166); (case side3 => exact Z66); (case side4 => exact Z159); (case side5 => exact Z183); rintro e w28 ⟨v455, rfl, ho0, hb⟩; refine ⟨_, rfl, ?_⟩; have n0_ := AS (Kd.V_below Z78 hb); have n1_ := AS (Kd.V_below Z79 hb); have n2_ := AS (Kd.V_lower (Kd.V_mono (ok' := fun k_ => True) ho0 (fun k_ hk_ => trivial)) (below_size Z0)); have n3_ := AS (below_step Z0 hb); clear HO_7; clear HO_8; clear HB; have HO_7 := n0_; have HO_8 := n1_; have HO456 := n2_; have HB := n3_; clear n0_ n1_ n2_ n3_; (try clear hb); (try clear hb2); (try clear hk); (try clear hi); (try clear ho0)))
             go_roundg k2
             case measure => have := HJ3.out; have := HK2.out; omega
             case rel => exact ⟨(x1_2 / 2), (t454), (x8_2), Z5, H', ⟨Z161⟩, ⟨Z141⟩, ⟨Z79⟩, ⟨Z0⟩⟩
           ·rw [if_neg c18] at H
            have c18b0 : ((Go.bits .and .i64 x1_2 1) == 1) = false := beq_eq_false_iff_ne.mpr c18
            have c18b1 : ((Go.bits .and .i64 x1_2 1) != 1) = true := bne_iff_ne.mpr c18
            by_cases c29 : x1_2 > 1
            ·rw [if_pos c29] at H
             have c29b0 : decide (1 < x1_2) = true := decide_eq_true c29
             clear c29
             replace H := Option.bind_eq_some_iff.mp H
             obtain ⟨t460, A300, H⟩ := H
             replace H : (decimal_Power.l0 k2 (x1_2 / 2) x7_2 t460) = some (r1, r2) := H
             have A30 := AS A300
             clear A300
             have H' := AS H
             clear H
             obtain ⟨Ao31, co31, eo31⟩ := Kd.V_slice HO_8.out
             subst eo31
             go_wp2_with (first | ((with_reducible refine gate_callee (f := 82) rfl ?_); refine goesL_ (some 47) rfl rfl Tryz.func82 Z6 rfl #[.slice Ao31 x8_2.length co31, .slice Ao31 x8_2.length co31] rfl Z1 ?_; (with_reducible refine (decimal_pieces_times.calls k2 _ _ x8_2 _ _ x8_2 t460 _ ?side1 ?side2 ?side3 ?side4 ?side5 A30.out).mono ?_); (case side1 => exact Z66); (case side2 => exact Z159); (case side3 => exact Z66); (case side4 => exact Z159); (case side5 => exact Z183); rintro e w32 ⟨v461, rfl, ho0, hb⟩; refine ⟨_, rfl, ?_⟩; have n0_ := AS (Kd.V_below Z78 hb); have n1_ := AS (Kd.V_below Z79 hb); have n2_ := AS (Kd.V_lower (Kd.V_mono (ok' := fun k_ => True) ho0 (fun k_ hk_ => trivial)) (below_size Z0)); have n3_ := AS (below_step Z0 hb); clear HO_7; clear HO_8; clear HB; have HO_7 := n0_; have HO_8 := n1_; have HO462 := n2_; have HB := n3_; clear n0_ n1_ n2_ n3_; (try clear hb); (try clear hb2); (try clear hk); (try clear hi); (try clear ho0)))
             go_roundg k2
             case measure => have := HJ3.out; have := HK2.out; omega
             case rel => exact ⟨(x1_2 / 2), (x7_2), (t460), Z5, H', ⟨Z161⟩, ⟨Z78⟩, ⟨by (with_reducible repeat (first | apply Kd.V_alloc | apply Kd.V_drewN | apply Kd.V_drew)); exact HO462.out⟩, ⟨Z0⟩⟩
            ·rw [if_neg c29] at H
             have c29b0 : decide (1 < x1_2) = false := decide_eq_false c29
             clear c29
             have H' := AS H
             clear H
             go_wp2
             go_roundg k2
             case measure => have := HJ3.out; have := HK2.out; omega
             case rel => exact ⟨(x1_2 / 2), (x7_2), (x8_2), Z5, H', ⟨Z161⟩, ⟨Z78⟩, ⟨Z79⟩, ⟨Z0⟩⟩
          ·rw [if_neg c17] at H
           have c17b0 : decide (0 < x1_2) = false := decide_eq_false c17
           clear c17
           replace H := Option.bind_eq_some_iff.mp H
           obtain ⟨t453, A330, H⟩ := H
           replace H : (if (t453.size : Int) > 20000 then (some ((⟨#[]⟩ : ByteArray), 4)) else (some (t453, 0))) = some (r1, r2) := H
           have A33 := AS A330
           clear A330
           by_cases c34 : (t453.size : Int) > 20000
           ·rw [if_pos c34] at H
            have c34b0 : decide (20000 < (t453.size : Int)) = true := decide_eq_true c34
            have c34b1 : decide (20000 < t453.size) = true := decide_eq_true (by omega)
            clear c34
            simp only [Option.some.injEq, Prod.mk.injEq] at H
            obtain ⟨rfl, rfl⟩ := H
            obtain ⟨Ao35, co35, eo35⟩ := Kd.V_slice HO_7.out
            subst eo35
            go_wp2_with (first | ((with_reducible refine gate_callee (f := 83) rfl ?_); refine goesL_ (some 49) rfl rfl Tryz.func83 Z6 rfl #[.slice Ao35 x7_2.length co35] rfl Z1 ?_; (with_reducible refine (decimal_pieces_text.calls _ _ x7_2 t453 _ ?side1 ?side2 ?side3 A33.out).mono ?_); (case side1 => exact Z97); (case side2 => exact Z166); (case side3 => exact Z183); rintro e w36 ⟨rfl, hb⟩; refine ⟨_, rfl, ?_⟩; have n0_ := AS (Kd.V_below Z78 hb); have n1_ := AS (Kd.V_below Z79 hb); have n2_ := AS (below_step Z0 hb); clear HO_7; clear HO_8; clear HB; have HO_7 := n0_; have HO_8 := n1_; have HB := n2_; clear n0_ n1_ n2_; (try clear hb); (try clear hb2); (try clear hk); (try clear hi)))
            go_ret2
            exact ⟨Z2, Z0⟩
           ·rw [if_neg c34] at H
            have c34b0 : decide (20000 < (t453.size : Int)) = false := decide_eq_false c34
            have c34b1 : decide (20000 < t453.size) = false := decide_eq_false (by omega)
            clear c34
            simp only [Option.some.injEq, Prod.mk.injEq] at H
            obtain ⟨rfl, rfl⟩ := H
            obtain ⟨Ao37, co37, eo37⟩ := Kd.V_slice HO_7.out
            subst eo37
            go_wp2_with (first | ((with_reducible refine gate_callee (f := 83) rfl ?_); refine goesL_ (some 49) rfl rfl Tryz.func83 Z6 rfl #[.slice Ao37 x7_2.length co37] rfl Z1 ?_; (with_reducible refine (decimal_pieces_text.calls _ _ x7_2 t453 _ ?side1 ?side2 ?side3 A33.out).mono ?_); (case side1 => exact Z97); (case side2 => exact Z166); (case side3 => exact Z183); rintro e w38 ⟨rfl, hb⟩; refine ⟨_, rfl, ?_⟩; have n0_ := AS (Kd.V_below Z78 hb); have n1_ := AS (Kd.V_below Z79 hb); have n2_ := AS (below_step Z0 hb); clear HO_7; clear HO_8; clear HB; have HO_7 := n0_; have HO_8 := n1_; have HB := n2_; clear n0_ n1_ n2_; (try clear hb); (try clear hb2); (try clear hk); (try clear hi)))
            go_ret2
            exact ⟨Z2, Z0⟩
def monzo_sides.l0 : Nat → List Int → ByteArray → ByteArray → List Int → Int → Int → Option (ByteArray × ByteArray)
 | 0, _, _, _, _, _, _ => none
 | k + 1, x0, x4, x5, x10, x11, x12 => if x12 < x11 then (if 0 ≤ x12 then (if x12 < (x10.length : Int) then (if x12 < (x0.length : Int) then ((decimal_Of.f (IntKind.u64.wrap (rd x0 x12))).bind fun t465 => ((decimal_Power.f k t465 (mx (rd x10 x12) (wrap64 (-(rd x10 x12))))).bind fun bt466 => (if (rd x10 x12) > 0 then ((decimal_Mul.f k x4 bt466.1).bind fun t468 => (monzo_sides.l0 k x0 t468 x5 x10 x11 (wrap64 (x12 + 1)))) else ((decimal_Mul.f k x5 bt466.1).bind fun t469 => (monzo_sides.l0 k x0 x4 t469 x10 x11 (wrap64 (x12 + 1))))))) else (none)) else (none)) else (none)) else (some (x4, x5))
def monzo_sides.f (k : Nat) (l0 : List Int) (l1 : List Int) : Option (ByteArray × ByteArray) := monzo_sides.l0 k l0 (⟨#[49]⟩ : ByteArray) (⟨#[49]⟩ : ByteArray) l1 (l1.length : Int) 0
set_option maxHeartbeats 8000000 in
set_option maxRecDepth 100000 in
theorem monzo_sides.calls (k : Nat) (A0 : Option Addr) (c0 : Nat) (l0 : List Int) (A1 : Option Addr) (c1 : Nat) (l1 : List Int) (r1 : ByteArray) (r2 : ByteArray) (w : World) (hr0 : Kd.C (Kd.int .i64) w A0 l0.length l0) (hc0 : l0.length ≤ c0) (hr1 : Kd.C (Kd.int .i64) w A1 l1.length l1) (hc1 : l1.length ≤ c1) (hG : GL w) (h : monzo_sides.f k l0 l1 = some (r1, r2)) :
  Calls Tryz.prog 42 #[.slice A0 l0.length c0, .slice A1 l1.length c1] w fun e w' => e = .returned (.tuple #[.string r1, .string r2]) ∧ Below w.heap.size w w' := by
 have HR0 := AS hr0
 have HC0 := AS hc0
 clear hr0 hc0
 have HR1 := AS hr1
 have HC1 := AS hc1
 clear hr1 hc1
 have HB := AS (Below.refl w.heap.size w)
 have H : (monzo_sides.l0 k l0 (⟨#[49]⟩ : ByteArray) (⟨#[49]⟩ : ByteArray) l1 (l1.length : Int) 0) = some (r1, r2) := h
 clear h
 have H' := AS H
 clear H
 go_enter Tryz.func42, Tryz.ntmps42
 go_wp2
 go_loopg [4, 5, 12] k (fun kq v4 v5 v12 w' => ∃ (x4_1 : ByteArray) (x5_1 : ByteArray) (x12_1 : Int), v4 = .string x4_1 ∧ v5 = .string x5_1 ∧ v12 = .int .i64 x12_1 ∧ Aside0 (monzo_sides.l0 kq l0 x4_1 x5_1 l1 (l1.length : Int) x12_1 = some (r1, r2)) ∧ Aside0 (kq ≤ k) ∧ Aside0 (Below w.heap.size w w'))
 case atStart => exact ⟨((⟨#[49]⟩ : ByteArray)), ((⟨#[49]⟩ : ByteArray)), (0), Z5, Z5, Z5, H', ⟨Nat.le_refl _⟩, ⟨Z0⟩⟩
 case round =>
  clear H'
  try clear c1
  try clear p2
  obtain ⟨x4_1, x5_1, x12_1, rfl, rfl, rfl, HA, HK1, HB⟩ := hrel
  cases gk with
  | zero => exact absurd HA.out (by simp [monzo_sides.l0])
  | succ k1 =>
   have H := HA.out
   clear HA
   simp only [monzo_sides.l0] at H
   by_cases c3 : x12_1 < (l1.length : Int)
   ·rw [if_pos c3] at H
    have c3b0 : decide (x12_1 < (l1.length : Int)) = true := decide_eq_true c3
    clear c3
    by_cases c4 : 0 ≤ x12_1
    ·rw [if_pos c4] at H
     have c4b0 : decide (0 ≤ x12_1) = true := decide_eq_true c4
     clear c4
     by_cases c5 : x12_1 < (l1.length : Int)
     ·rw [if_pos c5] at H
      have c5b0 : decide (x12_1 < (l1.length : Int)) = true := decide_eq_true c5
      clear c5
      by_cases c6 : x12_1 < (l0.length : Int)
      ·rw [if_pos c6] at H
       have c6b0 : decide (x12_1 < (l0.length : Int)) = true := decide_eq_true c6
       clear c6
       replace H := Option.bind_eq_some_iff.mp H
       obtain ⟨t465, A70, H⟩ := H
       replace H : ((decimal_Power.f k1 t465 (mx (rd l1 x12_1) (wrap64 (-(rd l1 x12_1))))).bind fun bt466 => (if (rd l1 x12_1) > 0 then ((decimal_Mul.f k1 x4_1 bt466.1).bind fun t468 => (monzo_sides.l0 k1 l0 t468 x5_1 l1 (l1.length : Int) (wrap64 (x12_1 + 1)))) else ((decimal_Mul.f k1 x5_1 bt466.1).bind fun t469 => (monzo_sides.l0 k1 l0 x4_1 t469 l1 (l1.length : Int) (wrap64 (x12_1 + 1)))))) = some (r1, r2) := H
       have A7 := AS A70
       clear A70
       obtain ⟨ji8, hji8⟩ : ∃ j_ : Int, (mx (rd l1 x12_1) (wrap64 (-(rd l1 x12_1)))) = j_ := ⟨_, rfl⟩
       replace H : ((decimal_Power.f k1 t465 (ji8)).bind fun bt466 => (if (rd l1 x12_1) > 0 then ((decimal_Mul.f k1 x4_1 bt466.1).bind fun t468 => (monzo_sides.l0 k1 l0 t468 x5_1 l1 (l1.length : Int) (wrap64 (x12_1 + 1)))) else ((decimal_Mul.f k1 x5_1 bt466.1).bind fun t469 => (monzo_sides.l0 k1 l0 x4_1 t469 l1 (l1.length : Int) (wrap64 (x12_1 + 1)))))) = some (r1, r2) := by first | (rw [hji8] at H; exact H) | (simp only [hji8] at H ⊢; exact H)
       (try rw [hji8] at A7)
       have hji8_ : (if (rd l1 x12_1) < (wrap64 (-(rd l1 x12_1))) then (wrap64 (-(rd l1 x12_1))) else (rd l1 x12_1)) = ji8 := hji8
       replace H := Option.bind_eq_some_iff.mp H
       obtain ⟨⟨t466, t467⟩, A90, H⟩ := H
       replace H : (if (rd l1 x12_1) > 0 then ((decimal_Mul.f k1 x4_1 t466).bind fun t468 => (monzo_sides.l0 k1 l0 t468 x5_1 l1 (l1.length : Int) (wrap64 (x12_1 + 1)))) else ((decimal_Mul.f k1 x5_1 t466).bind fun t469 => (monzo_sides.l0 k1 l0 x4_1 t469 l1 (l1.length : Int) (wrap64 (x12_1 + 1))))) = some (r1, r2) := H
       have A9 := AS A90
       clear A90
       by_cases c10 : (rd l1 x12_1) > 0
       ·rw [if_pos c10] at H
        have c10b0 : decide (0 < (rd l1 x12_1)) = true := decide_eq_true c10
        clear c10
        replace H := Option.bind_eq_some_iff.mp H
        obtain ⟨t468, A110, H⟩ := H
        replace H : (monzo_sides.l0 k1 l0 t468 x5_1 l1 (l1.length : Int) (wrap64 (x12_1 + 1))) = some (r1, r2) := H
        have A11 := AS A110
        clear A110
        have H' := AS H
        clear H
        have p463 : 0 ≤ (x12_1 : Int) := of_decide_eq_true Z3
        have q463 : x12_1 < (l1.length : Int) := of_decide_eq_true Z3
        obtain ⟨ad463, e463, hx463_0⟩ := Kd.at_int HR1.out x12_1 p463 q463
        cases e463
        replace hx463_0 := (HB.out.cell (World.block_lt_of_cell? w _ hx463_0)).trans hx463_0
        replace p463 := eq_true p463
        replace q463 := eq_true q463
        have p464 : 0 ≤ (x12_1 : Int) := of_decide_eq_true Z3
        have q464 : x12_1 < (l0.length : Int) := of_decide_eq_true Z3
        obtain ⟨ad464, e464, hx464_0⟩ := Kd.at_int HR0.out x12_1 p464 q464
        cases e464
        replace hx464_0 := (HB.out.cell (World.block_lt_of_cell? w _ hx464_0)).trans hx464_0
        replace p464 := eq_true p464
        replace q464 := eq_true q464
        go_wp2_with (first | ((with_reducible refine gate_callee (f := 79) rfl ?_); refine goesL_ (some 23) rfl rfl Tryz.func79 Z6 rfl #[.int .u64 (IntKind.u64.wrap (rd l0 x12_1))] rfl Z1 ?_; (with_reducible refine (decimal_Of.calls (IntKind.u64.wrap (rd l0 x12_1)) t465 _ ?side1 A7.out).mono ?_); (case side1 => exact Z183); rintro e w12 ⟨rfl, hb⟩; refine ⟨_, rfl, ?_⟩; have n0_ := AS (below_step Z0 hb); clear HB; have HB := n0_; clear n0_; (try clear hb); (try clear hb2); (try clear hk); (try clear hi)) | ((with_reducible refine gate_callee (f := 78) rfl ?_); refine goesL_ (some 28) rfl rfl Tryz.func78 Z6 rfl #[.string t465, .int .i64 ji8] rfl Z136 ?_; (with_reducible refine (decimal_Power.calls k1 t465 ji8 t466 t467 _ ?side1 A9.out).mono ?_); (case side1 => exact Z183); rintro e w13 ⟨rfl, hb⟩; refine ⟨_, rfl, ?_⟩; have n0_ := AS (below_step Z0 hb); clear HB; have HB := n0_; clear n0_; (try clear hb); (try clear hb2); (try clear hk); (try clear hi)) | ((with_reducible refine gate_callee (f := 44) rfl ?_); refine goesL_ (some 35) rfl rfl Tryz.func44 Z6 rfl #[.string x4_1, .string t466] rfl Z1 ?_; (with_reducible refine (decimal_Mul.calls k1 x4_1 t466 t468 _ ?side1 A11.out).mono ?_); (case side1 => exact Z183); rintro e w14 ⟨rfl, hb⟩; refine ⟨_, rfl, ?_⟩; have n0_ := AS (below_step Z0 hb); clear HB; have HB := n0_; clear n0_; (try clear hb); (try clear hb2); (try clear hk); (try clear hi)))
        go_roundg k1
        case measure => have := HK1.out; omega
        case rel => exact ⟨(t468), (x5_1), (wrap64 (x12_1 + 1)), Z5, Z5, Z5, H', ⟨Z101⟩, ⟨Z0⟩⟩
       ·rw [if_neg c10] at H
        have c10b0 : decide (0 < (rd l1 x12_1)) = false := decide_eq_false c10
        clear c10
        replace H := Option.bind_eq_some_iff.mp H
        obtain ⟨t469, A150, H⟩ := H
        replace H : (monzo_sides.l0 k1 l0 x4_1 t469 l1 (l1.length : Int) (wrap64 (x12_1 + 1))) = some (r1, r2) := H
        have A15 := AS A150
        clear A150
        have H' := AS H
        clear H
        have p463 : 0 ≤ (x12_1 : Int) := of_decide_eq_true Z3
        have q463 : x12_1 < (l1.length : Int) := of_decide_eq_true Z3
        obtain ⟨ad463, e463, hx463_0⟩ := Kd.at_int HR1.out x12_1 p463 q463
        cases e463
        replace hx463_0 := (HB.out.cell (World.block_lt_of_cell? w _ hx463_0)).trans hx463_0
        replace p463 := eq_true p463
        replace q463 := eq_true q463
        have p464 : 0 ≤ (x12_1 : Int) := of_decide_eq_true Z3
        have q464 : x12_1 < (l0.length : Int) := of_decide_eq_true Z3
        obtain ⟨ad464, e464, hx464_0⟩ := Kd.at_int HR0.out x12_1 p464 q464
        cases e464
        replace hx464_0 := (HB.out.cell (World.block_lt_of_cell? w _ hx464_0)).trans hx464_0
        replace p464 := eq_true p464
        replace q464 := eq_true q464
        go_wp2_with (first | ((with_reducible refine gate_callee (f := 79) rfl ?_); refine goesL_ (some 23) rfl rfl Tryz.func79 Z6 rfl #[.int .u64 (IntKind.u64.wrap (rd l0 x12_1))] rfl Z1 ?_; (with_reducible refine (decimal_Of.calls (IntKind.u64.wrap (rd l0 x12_1)) t465 _ ?side1 A7.out).mono ?_); (case side1 => exact Z183); rintro e w16 ⟨rfl, hb⟩; refine ⟨_, rfl, ?_⟩; have n0_ := AS (below_step Z0 hb); clear HB; have HB := n0_; clear n0_; (try clear hb); (try clear hb2); (try clear hk); (try clear hi)) | ((with_reducible refine gate_callee (f := 78) rfl ?_); refine goesL_ (some 28) rfl rfl Tryz.func78 Z6 rfl #[.string t465, .int .i64 ji8] rfl Z136 ?_; (with_reducible refine (decimal_Power.calls k1 t465 ji8 t466 t467 _ ?side1 A9.out).mono ?_); (case side1 => exact Z183); rintro e w17 ⟨rfl, hb⟩; refine ⟨_, rfl, ?_⟩; have n0_ := AS (below_step Z0 hb); clear HB; have HB := n0_; clear n0_; (try clear hb); (try clear hb2); (try clear hk); (try clear hi)) | ((with_reducible refine gate_callee (f := 44) rfl ?_); refine goesL_ (some 38) rfl rfl Tryz.func44 Z6 rfl #[.string x5_1, .string t466] rfl Z1 ?_; (with_reducible refine (decimal_Mul.calls k1 x5_1 t466 t469 _ ?side1 A15.out).mono ?_); (case side1 => exact Z183); rintro e w18 ⟨rfl, hb⟩; refine ⟨_, rfl, ?_⟩; have n0_ := AS (below_step Z0 hb); clear HB; have HB := n0_; clear n0_; (try clear hb); (try clear hb2); (try clear hk); (try clear hi)))
        go_roundg k1
        case measure => have := HK1.out; omega
        case rel => exact ⟨(x4_1), (t469), (wrap64 (x12_1 + 1)), Z5, Z5, Z5, H', ⟨Z101⟩, ⟨Z0⟩⟩
      ·rw [if_neg c6] at H
       exact absurd H (by simp)
     ·rw [if_neg c5] at H
      exact absurd H (by simp)
    ·rw [if_neg c4] at H
     exact absurd H (by simp)
   ·rw [if_neg c3] at H
    have c3b0 : decide (x12_1 < (l1.length : Int)) = false := decide_eq_false c3
    clear c3
    simp only [Option.some.injEq, Prod.mk.injEq] at H
    obtain ⟨rfl, rfl⟩ := H
    go_wp2
    go_ret2
    exact ⟨Z2, Z0⟩
theorem bytesLess_irrefl : ∀ l : List UInt8, Op.bytesLess l l = false
 | [] => rfl
 | a :: l => by simp [Op.bytesLess, bytesLess_irrefl l]
theorem bytesLess_total : ∀ x y : List UInt8, Op.bytesLess x y = false → Op.bytesLess y x = false → x = y
 | [], [], _, _ => rfl
 | [], _ :: _, h, _ => by simp [Op.bytesLess] at h
 | _ :: _, [], _, h => by simp [Op.bytesLess] at h
 | a :: x, b :: y, h, k => by
  simp only [Op.bytesLess, Bool.or_eq_false_iff, decide_eq_false_iff_not, Bool.and_eq_false_iff, beq_eq_false_iff_ne] at h k
  have e : a = b := by
   have h1 := h.1; have k1 := k.1
   simp only [UInt8.lt_iff_toNat_lt] at h1 k1
   exact UInt8.toNat_inj.mp (by omega)
  subst e
  rcases h.2 with h2 | h2
  ·exact absurd rfl h2
  rcases k.2 with k2 | k2
  ·exact absurd rfl k2
  rw [bytesLess_total x y h2 k2]
theorem bytesLess_ne {x y : List UInt8} (h : Op.bytesLess y x = true) : (x == y) = false := by
 rw [beq_eq_false_iff_ne]
 rintro rfl
 rw [bytesLess_irrefl] at h
 cases h
theorem ret_int {k : IntKind} {a b : Int} (h : a = b) : Ending.returned (.int k a) = .returned (.int k b) := by rw [h]
def decimal_Compare.f (a0 : ByteArray) (a1 : ByteArray) : Option (Int) := if (a0.size : Int) = (a1.size : Int) then (if (Op.bytesLess a0.toList a1.toList) = true then (some (-1)) else (if (Op.bytesLess a1.toList a0.toList) = true then (some 1) else (some 0))) else (some (mn 1 (mx (-1) (wrap64 ((a0.size : Int) - (a1.size : Int))))))
set_option maxHeartbeats 4000000 in
theorem decimal_Compare.calls (a0 : ByteArray) (a1 : ByteArray) (r : Int) (w : World) (hG : GL w) (h : decimal_Compare.f a0 a1 = some r) :
  Calls Tryz.prog 43 #[.string a0, .string a1] w fun e w' => e = .returned (.int .i64 r) ∧ Below w.heap.size w w' := by
 have hb := Below.refl w.heap.size w
 unfold decimal_Compare.f at h
 by_cases c3 : (a0.size : Int) = (a1.size : Int)
 ·rw [if_pos c3] at h
  have c3b0 : ((a0.size : Int) == (a1.size : Int)) = true := beq_iff_eq.mpr c3
  have c3b1 : ((a0.size : Int) != (a1.size : Int)) = false := bne_eq_false_iff_eq.mpr c3
  have c3b2 : (a0.size == a1.size) = true := by first | simpa using c3 | (simp at c3 ⊢; omega)
  clear c3
  by_cases c4 : (Op.bytesLess a0.toList a1.toList) = true
  ·rw [if_pos c4] at h
   obtain rfl := Option.some.inj h
   clear h
   go_enter Tryz.func43, Tryz.ntmps43
   go_wp2
   go_ret
   exact ⟨rfl, hb⟩
  ·rw [if_neg c4] at h
   have c4b0 : (Op.bytesLess a0.toList a1.toList) = false := by simpa using c4
   by_cases c5 : (Op.bytesLess a1.toList a0.toList) = true
   ·rw [if_pos c5] at h
    have c6 := bytesLess_ne c5
    obtain rfl := Option.some.inj h
    clear h c4
    go_enter Tryz.func43, Tryz.ntmps43
    go_wp2
    go_ret
    exact ⟨rfl, hb⟩
   ·rw [if_neg c5] at h
    have c5b0 : (Op.bytesLess a1.toList a0.toList) = false := by simpa using c5
    have c6 : (a0.toList == a1.toList) = true := beq_iff_eq.mpr (bytesLess_total _ _ c4b0 c5b0)
    obtain rfl := Option.some.inj h
    clear h c4 c5
    go_enter Tryz.func43, Tryz.ntmps43
    go_wp2
    go_ret
    exact ⟨rfl, hb⟩
 ·rw [if_neg c3] at h
  have c3b0 : ((a0.size : Int) == (a1.size : Int)) = false := beq_eq_false_iff_ne.mpr c3
  have c3b1 : ((a0.size : Int) != (a1.size : Int)) = true := bne_iff_ne.mpr c3
  have c3b2 : (a0.size == a1.size) = false := by rw [beq_eq_false_iff_ne]; omega
  obtain rfl := Option.some.inj h
  clear h c3
  go_enter Tryz.func43, Tryz.ntmps43
  go_wp2
  all_goals
   go_ret
   refine ⟨ret_int (k := .i64) ?_, hb⟩
   generalize wrap64 ((a0.size : Int) - (a1.size : Int)) = t at *
   unfold mn mx
   repeat' split
   all_goals omega
end Go.Proofs.YtkgkihichdcpmaaGreatDoor.H
