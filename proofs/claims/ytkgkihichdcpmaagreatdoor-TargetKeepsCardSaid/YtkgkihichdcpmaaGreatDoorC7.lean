import Derived.Test.YtkgkihichdcpmaaGreatDoorC6
import Derived.Shelf.Abstract
namespace Go.Proofs.YtkgkihichdcpmaaGreatDoor.H
open Go.RowKit Go.Proofs.YtkgkihichdcpmaaGreatDoorW.PrintWords Go.Proofs.YtkgkihichdcpmaaGreatDoorW.PrintLast Go.Proofs.YtkgkihichdcpmaaGreatDoorW.PrintMore
attribute [local go_sem] max2_int min2_int max_two min_two max_three min_three max_four min_four
set_option linter.unusedVariables false
set_option linter.unusedSimpArgs false
set_option maxHeartbeats 64000000
set_option maxRecDepth 100000
def prime_Factor.f (k : Nat) (l0 : List Int) (a1_0 : ByteArray) (a1_1 : ByteArray) : Option (List Int × Int) := (prime_open.f k l0 a1_0 a1_1).bind fun t514 => (if t514 = 0 then ((frSi.f a1_0 a1_1).bind fun t515 => (if t515 ≤ 0 then (none) else ((prime_factor.f k l0 a1_0 a1_1).bind fun bt516 => (if bt516.2 = true then ((prime_far.f bt516.1).bind fun t520 => (if t520 = true then (none) else (some (bt516.1, 0)))) else (none))))) else (none))
theorem prime_Factor.calls (k : Nat) (A0 : Option Addr) (c0 : Nat) (l0 : List Int) (a1_0 : ByteArray) (a1_1 : ByteArray) (r1 : List Int) (r2 : Int) (w : World) (hr0 : Kd.C (Kd.int .i64) w A0 l0.length l0) (hc0 : l0.length ≤ c0) (hG : GL w) (h : prime_Factor.f k l0 a1_0 a1_1 = some (r1, r2)) :
  Calls Tryz.prog 87 #[.slice A0 l0.length c0, .agg #[.string a1_0, .string a1_1]] w fun e w' => ∃ v0_ : Value, e = .returned (.tuple #[v0_, .int .i64 r2]) ∧ Kd.R (Kd.int .i64) 3 w' w.heap.size (fun _ => True) v0_ r1 ∧ Below w.heap.size w w' := by
 have hu53 := Tryz.underlying53; have HR0 := AS hr0; have HC0 := AS hc0; clear hr0 hc0; have HB := AS (blr w); have H : ((prime_open.f k l0 a1_0 a1_1).bind fun t514 => (if t514 = 0 then ((frSi.f a1_0 a1_1).bind fun t515 => (if t515 ≤ 0 then (none) else ((prime_factor.f k l0 a1_0 a1_1).bind fun bt516 => (if bt516.2 = true then ((prime_far.f bt516.1).bind fun t520 => (if t520 = true then (none) else (some (bt516.1, 0)))) else (none))))) else (none))) = some (r1, r2) := h; clear h; replace H := bsm H; obtain ⟨t514, A30, H⟩ := H; replace H : (if t514 = 0 then ((frSi.f a1_0 a1_1).bind fun t515 => (if t515 ≤ 0 then (none) else ((prime_factor.f k l0 a1_0 a1_1).bind fun bt516 => (if bt516.2 = true then ((prime_far.f bt516.1).bind fun t520 => (if t520 = true then (none) else (some (bt516.1, 0)))) else (none))))) else (none)) = some (r1, r2) := H; have A3 := AS A30; clear A30
 by_cases c4 : t514 = 0
 ·rw [if_pos c4] at H
  have c4b0 : (t514 == 0) = true := bqt c4; have c4b1 : (t514 != 0) = false := bnf c4; clear c4; replace H := bsm H; obtain ⟨t515, A50, H⟩ := H; replace H : (if t515 ≤ 0 then (none) else ((prime_factor.f k l0 a1_0 a1_1).bind fun bt516 => (if bt516.2 = true then ((prime_far.f bt516.1).bind fun t520 => (if t520 = true then (none) else (some (bt516.1, 0)))) else (none)))) = some (r1, r2) := H; have A5 := AS A50; clear A50
  by_cases c6 : t515 ≤ 0
  ·rw [if_pos c6] at H
   exact absurd H (by simp)
  ·rw [if_neg c6] at H
   have c6b0 : decide (t515 ≤ 0) = false := decide_eq_false c6; clear c6; replace H := bsm H; obtain ⟨⟨t516, t519⟩, A70, H⟩ := H; replace H : (if t519 = true then ((prime_far.f t516).bind fun t520 => (if t520 = true then (none) else (some (t516, 0)))) else (none)) = some (r1, r2) := H; have A7 := AS A70; clear A70
   by_cases c8 : t519 = true
   ·subst c8
    rw [if_pos rfl] at H
    replace H := bsm H; obtain ⟨t520, A90, H⟩ := H; replace H : (if t520 = true then (none) else (some (t516, 0))) = some (r1, r2) := H; have A9 := AS A90; clear A90
    by_cases c10 : t520 = true
    ·subst c10
     rw [if_pos rfl] at H
     exact absurd H (by simp)
    ·replace c10 := Bool.eq_false_iff.mpr c10; subst c10
     rw [if_neg ffl] at H
     simp only [Option.some.injEq, Prod.mk.injEq] at H
     obtain ⟨rfl, rfl⟩ := H; go_enter Tryz.func87, Tryz.ntmps87; go_wp2_with (first | ((with_reducible refine gtd (N := 3) rfl ?_); refine bxe ?hg (N := 3) ?hd (cs := #[.string a1_0, .string a1_1]) (t := 53) ?hr ?_; (case hd => rfl); (case hg => rfl); (case hr => exact Z12); intro gb513 hg w11 hbox hb; have BK513 := AS (hbox); have GW513 := AS ((Z169 : w.heap.size ≤ gb513)); have GE513 := GW513; replace HB := AS (bst Z0 hb); clear hb hbox hg; have hcz12_0 := bc0 BK513.out; have hcz12_1 := bc1 BK513.out; have hfz12_0 := bfz BK513.out 0; have hfz12_1 := bfz BK513.out 1) | ((with_reducible refine gtc (f := 60) rfl ?_); refine gsL (some 11) rfl rfl Tryz.func60 Z6 rfl #[.slice A0 l0.length c0, .agg #[.string a1_0, .string a1_1]] rfl Z1 ?_; (with_reducible refine (prime_open.calls k _ _ l0 a1_0 a1_1 t514 _ ?side1 ?side2 ?side3 A3.out).mono ?_); (case side1 => exact Z9); (case side2 => exact Z81); (case side3 => exact Z203); rintro e w13 ⟨rfl, hb⟩; refine ⟨_, rfl, ?_⟩; replace BK513 := AS (bbl (g := gb513) (o := .cells #[.string a1_0, .string a1_1] 53 (0, 0)) Z114 hb); replace HB := AS (bst Z28 hb); (try clear hb); have hcz14_0 := bc0 BK513.out; have hcz14_1 := bc1 BK513.out; have hfz14_0 := bfz BK513.out 0; have hfz14_1 := bfz BK513.out 1) | ((with_reducible refine gtc (f := 68) rfl ?_); refine gsL (some 16) rfl rfl Tryz.func68 Z6 rfl #[.agg #[.string a1_0, .string a1_1]] rfl Z1 ?_; (with_reducible refine (frSi.calls a1_0 a1_1 t515 _ ?side1 A5.out).mono ?_); (case side1 => exact Z203); rintro e w15 ⟨rfl, hb⟩; refine ⟨_, rfl, ?_⟩; replace BK513 := AS (bbl (g := gb513) (o := .cells #[.string a1_0, .string a1_1] 53 (0, 0)) Z114 hb); replace HB := AS (bst Z28 hb); (try clear hb); have hcz16_0 := bc0 BK513.out; have hcz16_1 := bc1 BK513.out; have hfz16_0 := bfz BK513.out 0; have hfz16_1 := bfz BK513.out 1) | ((with_reducible refine gtc (f := 61) rfl ?_); refine gsL (some 21) rfl rfl Tryz.func61 Z6 rfl #[.slice A0 l0.length c0, .agg #[.string a1_0, .string a1_1]] rfl Z1 ?_; (with_reducible refine (prime_factor.calls k _ _ l0 a1_0 a1_1 t516 true _ ?side1 ?side2 ?side3 A7.out).mono ?_); (case side1 => exact Z9); (case side2 => exact Z81); (case side3 => exact Z203); rintro e w17 ⟨v517, rfl, ho0, hb⟩; refine ⟨_, rfl, ?_⟩; have HO518 := AS (Kd.R_lower ho0 (bsz Z28)); replace BK513 := AS (bbl (g := gb513) (o := .cells #[.string a1_0, .string a1_1] 53 (0, 0)) Z114 hb); replace HB := AS (bst Z28 hb); (try clear hb); (try clear ho0); obtain ⟨Ao18, co18, eo18⟩ := Kd.R_slice HO518.out; subst eo18) | ((with_reducible refine gtc (f := 116) rfl ?_); refine gsL (some 27) rfl rfl Tryz.func116 Z6 rfl #[.slice Ao18 t516.length co18] rfl Z1 ?_; (with_reducible refine (prime_far.calls _ _ t516 false _ ?side1 ?side2 ?side3 A9.out).mono ?_); (case side1 => repeat (first | exact (Kd.R_reads' HO518.out).2.2 | (with_reducible refine Kd.C_alloc ?_ _) | (with_reducible refine Kd.C_drewN ?_ _) | (with_reducible refine Kd.C_drew ?_))); (case side2 => exact (Kd.R_reads' HO518.out).2.1); (case side3 => exact Z203); rintro e w19 ⟨rfl, hb⟩; refine ⟨_, rfl, ?_⟩; replace HO518 := AS (Kd.R_below Z141 hb); replace BK513 := AS (bbl (g := gb513) (o := .cells #[.string a1_0, .string a1_1] 53 (0, 0)) Z114 hb); replace HB := AS (bst Z28 hb); (try clear hb))); go_ret2; exact ⟨_, Z3, Z141, Z28⟩
   ·replace c8 := Bool.eq_false_iff.mpr c8; subst c8
    rw [if_neg ffl] at H
    exact absurd H (by simp)
 ·rw [if_neg c4] at H
  exact absurd H (by simp)
def target_number.f (k : Nat) (l0 : List Int) (a1 : Int) : Option (List Int × Bool) := (fraction_Of.f k a1 1).bind fun bt521 => (if bt521.2.2 = 0 then ((prime_Factor.f k l0 bt521.1 bt521.2.1).bind fun bt525 => (some (bt525.1, (bt525.2 == 0)))) else (some (([] : List Int), false)))
theorem target_number.calls (k : Nat) (A0 : Option Addr) (c0 : Nat) (l0 : List Int) (a1 : Int) (r1 : List Int) (r2 : Bool) (w : World) (hr0 : Kd.C (Kd.int .i64) w A0 l0.length l0) (hc0 : l0.length ≤ c0) (hG : GL w) (h : target_number.f k l0 a1 = some (r1, r2)) :
  Calls Tryz.prog 57 #[.slice A0 l0.length c0, .int .i64 a1] w fun e w' => ∃ v0_ : Value, e = .returned (.tuple #[v0_, .bool r2]) ∧ Kd.R (Kd.int .i64) 3 w' w.heap.size (fun _ => True) v0_ r1 ∧ Below w.heap.size w w' := by
 have hu53 := Tryz.underlying53; have HR0 := AS hr0; have HC0 := AS hc0; clear hr0 hc0; have HB := AS (blr w); have H : ((fraction_Of.f k a1 1).bind fun bt521 => (if bt521.2.2 = 0 then ((prime_Factor.f k l0 bt521.1 bt521.2.1).bind fun bt525 => (some (bt525.1, (bt525.2 == 0)))) else (some (([] : List Int), false)))) = some (r1, r2) := h; clear h; replace H := bsm H; obtain ⟨⟨t521, t522, t523⟩, A30, H⟩ := H; replace H : (if t523 = 0 then ((prime_Factor.f k l0 t521 t522).bind fun bt525 => (some (bt525.1, (bt525.2 == 0)))) else (some (([] : List Int), false))) = some (r1, r2) := H; have A3 := AS A30; clear A30
 by_cases c4 : t523 = 0
 ·rw [if_pos c4] at H
  have c4b0 : (t523 == 0) = true := bqt c4; have c4b1 : (t523 != 0) = false := bnf c4; clear c4; replace H := bsm H; obtain ⟨⟨t525, t528⟩, A50, H⟩ := H; replace H : (some (t525, (t528 == 0))) = some (r1, r2) := H; have A5 := AS A50; clear A50
  simp only [Option.some.injEq, Prod.mk.injEq] at H
  obtain ⟨rfl, rfl⟩ := H; go_enter Tryz.func57, Tryz.ntmps57; go_wp2_with (first | ((with_reducible refine gtc (f := 29) rfl ?_); refine gsL (some 11) rfl rfl Tryz.func29 Z6 rfl #[.int .i64 a1, .int .i64 1] rfl Z1 ?_; (with_reducible refine (fraction_Of.calls k a1 1 t521 t522 t523 _ ?side1 A3.out).mono ?_); (case side1 => exact Z168); rintro e w6 ⟨rfl, hb⟩; refine ⟨_, rfl, ?_⟩; replace HB := AS (bst Z0 hb); (try clear hb)) | ((with_reducible refine gtd (N := 6) rfl ?_); refine bxe ?hg (N := 6) ?hd (cs := #[.string ⟨#[]⟩, .string ⟨#[]⟩]) (t := 53) ?hr ?_; (case hd => rfl); (case hg => rfl); (case hr => exact Z12); intro gb524 hg w7 hbox hb; have BK524 := AS (hbox); have GW524 := AS ((Z169 : w.heap.size ≤ gb524)); have GE524 := GW524; replace HB := AS (bst Z0 hb); clear hb hbox hg; have hcz8_0 := bc0 BK524.out; have hcz8_1 := bc1 BK524.out; have hfz8_0 := bfz BK524.out 0; have hfz8_1 := bfz BK524.out 1) | ((with_reducible refine gtc (f := 87) rfl ?_); refine gsL (some 19) rfl rfl Tryz.func87 Z6 rfl #[.slice A0 l0.length c0, .agg #[.string t521, .string t522]] rfl Z1 ?_; (with_reducible refine (prime_Factor.calls k _ _ l0 t521 t522 t525 t528 _ ?side1 ?side2 ?side3 A5.out).mono ?_); (case side1 => exact Kd.C_below HR0.out Z53); (case side2 => exact Z81); (case side3 => exact GL.below hG Z53); rintro e w9 ⟨v526, rfl, ho0, hb⟩; refine ⟨_, rfl, ?_⟩; have HO527 := AS (Kd.R_lower ho0 (bsz Z53)); replace BK524 := AS (bbl (g := gb524) (o := .cells #[.string t521, .string t522] 53 (0, 0)) (by (with_reducible repeat (first | apply bdn | apply bdr | apply bal)); refine bpt (cs := #[.string t521, .string ⟨#[]⟩]) ?_ 1 _ rfl; (with_reducible repeat (first | apply bdn | apply bdr | apply bal)); refine bpt (cs := #[.string ⟨#[]⟩, .string ⟨#[]⟩]) ?_ 0 _ rfl; (with_reducible repeat (first | apply bdn | apply bdr | apply bal)); exact BK524.out) hb); replace HB := AS (bst Z53 hb); (try clear hb); (try clear ho0))); go_ret2; exact ⟨_, Z3, by (with_reducible repeat (first | apply Kd.R_alloc | apply Kd.R_drewN | apply Kd.R_drew)); exact HO527.out, Z53⟩
 ·rw [if_neg c4] at H
  have c4b0 : (t523 == 0) = false := bqf c4; have c4b1 : (t523 != 0) = true := bnt c4
  simp only [Option.some.injEq, Prod.mk.injEq] at H
  obtain ⟨rfl, rfl⟩ := H; go_enter Tryz.func57, Tryz.ntmps57; go_wp2_with (first | ((with_reducible refine gtc (f := 29) rfl ?_); refine gsL (some 11) rfl rfl Tryz.func29 Z6 rfl #[.int .i64 a1, .int .i64 1] rfl Z1 ?_; (with_reducible refine (fraction_Of.calls k a1 1 t521 t522 t523 _ ?side1 A3.out).mono ?_); (case side1 => exact Z168); rintro e w10 ⟨rfl, hb⟩; refine ⟨_, rfl, ?_⟩; replace HB := AS (bst Z0 hb); (try clear hb)) | ((with_reducible refine gtd (N := 6) rfl ?_); refine bxe ?hg (N := 6) ?hd (cs := #[.string ⟨#[]⟩, .string ⟨#[]⟩]) (t := 53) ?hr ?_; (case hd => rfl); (case hg => rfl); (case hr => exact Z12); intro gb524 hg w11 hbox hb; have BK524 := AS (hbox); have GW524 := AS ((Z169 : w.heap.size ≤ gb524)); have GE524 := GW524; replace HB := AS (bst Z0 hb); clear hb hbox hg; have hcz12_0 := bc0 BK524.out; have hcz12_1 := bc1 BK524.out; have hfz12_0 := bfz BK524.out 0; have hfz12_1 := bfz BK524.out 1)); go_ret2; exact ⟨_, Z3, Z72, Z53⟩
def target_checkList.f (k : Nat) (l0 : List Int) (l1 : List (List Int)) : Option (Int) := (prCk.f k l0).bind fun t529 => (if t529 = 0 then (if (l1.length : Int) > 600 then (none) else ((mzCA.f k l0 l1).bind fun t530 => (some t530))) else (none))
theorem target_checkList.calls (k : Nat) (A0 : Option Addr) (c0 : Nat) (l0 : List Int) (A1 : Option Addr) (c1 : Nat) (l1 : List (List Int)) (r : Int) (w : World) (hr0 : Kd.C (Kd.int .i64) w A0 l0.length l0) (hc0 : l0.length ≤ c0) (hr1 : Kd.C (Kd.slice 3 (Kd.int .i64)) w A1 l1.length l1) (hc1 : l1.length ≤ c1) (hG : GL w) (h : target_checkList.f k l0 l1 = some r) :
  Calls Tryz.prog 45 #[.slice A0 l0.length c0, .slice A1 l1.length c1] w fun e w' => e = .returned (.int .i64 r) ∧ Drawn0 w w' := by
 have HR0 := AS hr0; have HC0 := AS hc0; clear hr0 hc0; have HR1 := AS hr1; have HC1 := AS hc1; clear hr1 hc1; have HB := AS (blr w); have H : ((prCk.f k l0).bind fun t529 => (if t529 = 0 then (if (l1.length : Int) > 600 then (none) else ((mzCA.f k l0 l1).bind fun t530 => (some t530))) else (none))) = some r := h; clear h; replace H := bsm H; obtain ⟨t529, A30, H⟩ := H; replace H : (if t529 = 0 then (if (l1.length : Int) > 600 then (none) else ((mzCA.f k l0 l1).bind fun t530 => (some t530))) else (none)) = some r := H; have A3 := AS A30; clear A30
 by_cases c4 : t529 = 0
 ·rw [if_pos c4] at H
  have c4b0 : (t529 == 0) = true := bqt c4; have c4b1 : (t529 != 0) = false := bnf c4; clear c4
  by_cases c5 : (l1.length : Int) > 600
  ·rw [if_pos c5] at H
   exact absurd H (by simp)
  ·rw [if_neg c5] at H
   have c5b0 : decide (600 < (l1.length : Int)) = false := decide_eq_false c5; have c5b1 : decide (600 < l1.length) = false := decide_eq_false (by omega); clear c5; replace H := bsm H; obtain ⟨t530, A60, H⟩ := H; replace H : (some t530) = some r := H; have A6 := AS A60; clear A60; obtain rfl := Option.some.inj H; go_enter Tryz.func45, Tryz.ntmps45; go_wp2_with (first | ((with_reducible refine gtc (f := 25) rfl ?_); refine gsL (some 7) rfl rfl Tryz.func25 Z6 rfl #[.slice A0 l0.length c0] rfl Z1 ?_; (with_reducible refine (prCk.calls k _ _ l0 t529 _ ?side1 ?side2 ?side3 A3.out).mono ?_); (case side1 => exact Z15); (case side2 => exact Z81); (case side3 => exact Z168); rintro e w' ⟨rfl, ⟨nd, rfl⟩⟩; refine ⟨_, rfl, ?_⟩) | ((with_reducible refine gtc (f := 32) rfl ?_); refine gsL (some 16) rfl rfl Tryz.func32 Z6 rfl #[.slice A0 l0.length c0, .slice A1 l1.length c1] rfl Z1 ?_; (with_reducible refine (mzCA.calls k _ _ l0 _ _ l1 t530 _ ?side1 ?side2 ?side3 ?side4 ?side5 A6.out).mono ?_); (case side1 => exact Z15); (case side2 => exact Z81); (case side3 => exact Z42); (case side4 => exact Z133); (case side5 => exact Z168); rintro e w' ⟨rfl, ⟨nd, rfl⟩⟩; refine ⟨_, rfl, ?_⟩)); go_ret; exact ⟨Z4, Z11⟩
 ·rw [if_neg c4] at H
  exact absurd H (by simp)
def target_checkLimit.f (k : Nat) (l0 : List Int) (a1 : Int) : Option (Int) := (prCk.f k l0).bind fun t531 => (if t531 = 0 then (if a1 < 1 then (none) else (if a1 > 99 then (none) else (some 0))) else (none))
theorem target_checkLimit.calls (k : Nat) (A0 : Option Addr) (c0 : Nat) (l0 : List Int) (a1 : Int) (r : Int) (w : World) (hr0 : Kd.C (Kd.int .i64) w A0 l0.length l0) (hc0 : l0.length ≤ c0) (hG : GL w) (h : target_checkLimit.f k l0 a1 = some r) :
  Calls Tryz.prog 50 #[.slice A0 l0.length c0, .int .i64 a1] w fun e w' => e = .returned (.int .i64 r) ∧ Drawn0 w w' := by
 have HR0 := AS hr0; have HC0 := AS hc0; clear hr0 hc0; have HB := AS (blr w); have H : ((prCk.f k l0).bind fun t531 => (if t531 = 0 then (if a1 < 1 then (none) else (if a1 > 99 then (none) else (some 0))) else (none))) = some r := h; clear h; replace H := bsm H; obtain ⟨t531, A30, H⟩ := H; replace H : (if t531 = 0 then (if a1 < 1 then (none) else (if a1 > 99 then (none) else (some 0))) else (none)) = some r := H; have A3 := AS A30; clear A30
 by_cases c4 : t531 = 0
 ·rw [if_pos c4] at H
  have c4b0 : (t531 == 0) = true := bqt c4; have c4b1 : (t531 != 0) = false := bnf c4; clear c4
  by_cases c5 : a1 < 1
  ·rw [if_pos c5] at H
   exact absurd H (by simp)
  ·rw [if_neg c5] at H
   have c5b0 : decide (a1 < 1) = false := decide_eq_false c5; clear c5
   by_cases c6 : a1 > 99
   ·rw [if_pos c6] at H
    exact absurd H (by simp)
   ·rw [if_neg c6] at H
    have c6b0 : decide (99 < a1) = false := decide_eq_false c6; clear c6; obtain rfl := Option.some.inj H; go_enter Tryz.func50, Tryz.ntmps50; go_wp2_with (first | ((with_reducible refine gtc (f := 25) rfl ?_); refine gsL (some 7) rfl rfl Tryz.func25 Z6 rfl #[.slice A0 l0.length c0] rfl Z1 ?_; (with_reducible refine (prCk.calls k _ _ l0 t531 _ ?side1 ?side2 ?side3 A3.out).mono ?_); (case side1 => exact Z15); (case side2 => exact Z81); (case side3 => exact Z168); rintro e w' ⟨rfl, ⟨nd, rfl⟩⟩; refine ⟨_, rfl, ?_⟩)); go_ret; exact ⟨Z4, Z11⟩
 ·rw [if_neg c4] at H
  exact absurd H (by simp)
def api_Row_int_70.l0 : Nat → List Int → List Int → Int → Int → Option (Bool)
 | 0, _, _, _, _ => none
 | k + 1, x0, x1, x12, x13 => if x13 < x12 then (if 0 ≤ x13 then (if x13 < (x0.length : Int) then (if x13 < (x1.length : Int) then (if (rd x0 x13) = (rd x1 x13) then (api_Row_int_70.l0 k x0 x1 x12 (wrap64 (x13 + 1))) else (some false)) else (none)) else (none)) else (none)) else (some true)
def api_Row_int_70.f (k : Nat) (l0 : List Int) (l1 : List Int) : Option (Bool) := if (l0.length : Int) = (l1.length : Int) then (api_Row_int_70.l0 k l0 l1 (l0.length : Int) 0) else (some false)
theorem api_Row_int_70.calls (k : Nat) (A0 : Option Addr) (c0 : Nat) (l0 : List Int) (A1 : Option Addr) (c1 : Nat) (l1 : List Int) (r : Bool) (w : World) (hr0 : Kd.C (Kd.int .i64) w A0 l0.length l0) (hc0 : l0.length ≤ c0) (hr1 : Kd.C (Kd.int .i64) w A1 l1.length l1) (hc1 : l1.length ≤ c1) (hG : GL w) (h : api_Row_int_70.f k l0 l1 = some r) :
  Calls Tryz.prog 70 #[.slice A0 l0.length c0, .slice A1 l1.length c1] w fun e w' => e = .returned (.bool r) ∧ Drawn0 w w' := by
 have HR0 := AS hr0; have HC0 := AS hc0; clear hr0 hc0; have HR1 := AS hr1; have HC1 := AS hc1; clear hr1 hc1; have HB := AS (blr w); have H : (if (l0.length : Int) = (l1.length : Int) then (api_Row_int_70.l0 k l0 l1 (l0.length : Int) 0) else (some false)) = some r := h; clear h
 by_cases c3 : (l0.length : Int) = (l1.length : Int)
 ·rw [if_pos c3] at H
  have c3b0 : ((l0.length : Int) == (l1.length : Int)) = true := bqt c3; have c3b1 : ((l0.length : Int) != (l1.length : Int)) = false := bnf c3
  have c3b2 : (l0.length == l1.length) = true := by first | simpa using c3 | (simp at c3 ⊢; omega)
  clear c3; have H' := AS H; clear H; go_enter Tryz.func70, Tryz.ntmps70; go_wp2
  repeat (go_quiet (fail); try go_wp2)
  go_loopg [13] k (fun kq v13 w' => ∃ (x13_1 : Int), v13 = .int .i64 x13_1 ∧ Aside0 (api_Row_int_70.l0 kq l0 l1 (l0.length : Int) x13_1 = some r) ∧ Aside0 (kq ≤ k) ∧ Drawn0 w w')
  case atStart => exact ⟨(0), Z4, H', ⟨Nat.le_refl _⟩, Z11⟩
  case round =>
   clear H'; (try clear c1); (try clear p2); (try clear c3); (try clear c3b0); (try clear c3b1); (try clear c3b2); obtain ⟨x13_1, rfl, HA, HK1, ⟨m1, rfl⟩⟩ := hrel
   cases gk with
   | zero => exact absurd HA.out (by simp [api_Row_int_70.l0])
   | succ k1 =>
    have H := HA.out; clear HA
    simp only [api_Row_int_70.l0] at H
    by_cases c4 : x13_1 < (l0.length : Int)
    ·rw [if_pos c4] at H
     have c4b0 : decide (x13_1 < (l0.length : Int)) = true := dqt c4; clear c4
     by_cases c5 : 0 ≤ x13_1
     ·rw [if_pos c5] at H
      have c5b0 : decide (0 ≤ x13_1) = true := dqt c5; clear c5
      by_cases c6 : x13_1 < (l0.length : Int)
      ·rw [if_pos c6] at H
       have c6b0 : decide (x13_1 < (l0.length : Int)) = true := dqt c6; clear c6
       by_cases c7 : x13_1 < (l1.length : Int)
       ·rw [if_pos c7] at H
        have c7b0 : decide (x13_1 < (l1.length : Int)) = true := dqt c7; clear c7
        by_cases c8 : (rd l0 x13_1) = (rd l1 x13_1)
        ·rw [if_pos c8] at H
         have c8b0 : ((rd l0 x13_1) == (rd l1 x13_1)) = true := bqt c8; have c8b1 : ((rd l0 x13_1) != (rd l1 x13_1)) = false := bnf c8; clear c8; have H' := AS H; clear H; have p532 : 0 ≤ (x13_1 : Int) := odt Z2; have q532 : x13_1 < (l0.length : Int) := odt Z2; obtain ⟨ad532, e532, hx532_0⟩ := Kd.at_int HR0.out x13_1 p532 q532; cases e532; replace p532 := eq_true p532; replace q532 := eq_true q532; have p533 : 0 ≤ (x13_1 : Int) := odt Z2; have q533 : x13_1 < (l1.length : Int) := odt Z2; obtain ⟨ad533, e533, hx533_0⟩ := Kd.at_int HR1.out x13_1 p533 q533; cases e533; replace p533 := eq_true p533; replace q533 := eq_true q533; go_wp2
         repeat (go_quiet (fail); try go_wp2)
         go_roundg k1
         case measure => have := HK1.out; omega
         case rel => exact ⟨(wrap64 (x13_1 + 1)), Z4, H', ⟨Z85⟩, Z11⟩
        ·rw [if_neg c8] at H
         have c8b0 : ((rd l0 x13_1) == (rd l1 x13_1)) = false := bqf c8; have c8b1 : ((rd l0 x13_1) != (rd l1 x13_1)) = true := bnt c8; obtain rfl := Option.some.inj H; have p532 : 0 ≤ (x13_1 : Int) := odt Z2; have q532 : x13_1 < (l0.length : Int) := odt Z2; obtain ⟨ad532, e532, hx532_0⟩ := Kd.at_int HR0.out x13_1 p532 q532; cases e532; replace p532 := eq_true p532; replace q532 := eq_true q532; have p533 : 0 ≤ (x13_1 : Int) := odt Z2; have q533 : x13_1 < (l1.length : Int) := odt Z2; obtain ⟨ad533, e533, hx533_0⟩ := Kd.at_int HR1.out x13_1 p533 q533; cases e533; replace p533 := eq_true p533; replace q533 := eq_true q533; go_wp2
         repeat (go_quiet (fail); try go_wp2)
         go_ret; exact ⟨Z4, Z11⟩
       ·rw [if_neg c7] at H
        exact absurd H (by simp)
      ·rw [if_neg c6] at H
       exact absurd H (by simp)
     ·rw [if_neg c5] at H
      exact absurd H (by simp)
    ·rw [if_neg c4] at H
     have c4b0 : decide (x13_1 < (l0.length : Int)) = false := decide_eq_false c4; clear c4; obtain rfl := Option.some.inj H; go_wp2
     repeat (go_quiet (fail); try go_wp2)
     go_ret; exact ⟨Z4, Z11⟩
 ·rw [if_neg c3] at H
  have c3b0 : ((l0.length : Int) == (l1.length : Int)) = false := bqf c3; have c3b1 : ((l0.length : Int) != (l1.length : Int)) = true := bnt c3
  have c3b2 : (l0.length == l1.length) = false := by first | simpa using c3 | (simp at c3 ⊢; omega)
  obtain rfl := Option.some.inj H; go_enter Tryz.func70, Tryz.ntmps70; go_wp2
  repeat (go_quiet (fail); try go_wp2)
  go_ret; exact ⟨Z4, Z11⟩
def row_Equal.f (k : Nat) (l0 : List Int) (l1 : List Int) : Option (Bool) := (api_Row_int_70.f k l0 l1).bind fun t534 => (some t534)
theorem row_Equal.calls (k : Nat) (A0 : Option Addr) (c0 : Nat) (l0 : List Int) (A1 : Option Addr) (c1 : Nat) (l1 : List Int) (r : Bool) (w : World) (hr0 : Kd.C (Kd.int .i64) w A0 l0.length l0) (hc0 : l0.length ≤ c0) (hr1 : Kd.C (Kd.int .i64) w A1 l1.length l1) (hc1 : l1.length ≤ c1) (hG : GL w) (h : row_Equal.f k l0 l1 = some r) :
  Calls Tryz.prog 38 #[.slice A0 l0.length c0, .slice A1 l1.length c1] w fun e w' => e = .returned (.bool r) ∧ Drawn0 w w' := by
 have HR0 := AS hr0; have HC0 := AS hc0; clear hr0 hc0; have HR1 := AS hr1; have HC1 := AS hc1; clear hr1 hc1; have HB := AS (blr w); have H : ((api_Row_int_70.f k l0 l1).bind fun t534 => (some t534)) = some r := h; clear h; replace H := bsm H; obtain ⟨t534, A30, H⟩ := H; replace H : (some t534) = some r := H; have A3 := AS A30; clear A30; obtain rfl := Option.some.inj H; go_enter Tryz.func38, Tryz.ntmps38; go_wp2_with (first | ((with_reducible refine gtc (f := 70) rfl ?_); refine gsL (some 7) rfl rfl Tryz.func70 Z6 rfl #[.slice A0 l0.length c0, .slice A1 l1.length c1] rfl Z1 ?_; (with_reducible refine (api_Row_int_70.calls k _ _ l0 _ _ l1 t534 _ ?side1 ?side2 ?side3 ?side4 ?side5 A3.out).mono ?_); (case side1 => exact Z15); (case side2 => exact Z81); (case side3 => exact Z42); (case side4 => exact Z133); (case side5 => exact Z168); rintro e w' ⟨rfl, ⟨nd, rfl⟩⟩; refine ⟨_, rfl, ?_⟩)); go_ret; exact ⟨Z4, Z11⟩
section
open Go.Shelf
def fitsB (n : Int) : Bool := decide (-1000000000 ≤ n) && decide (n ≤ 1000000000)
def row_Check.f (l0 : List Int) : Option (Int) := some (if l0.length ≤ 64 ∧ l0.all fitsB = true then 0 else 4)
theorem fits_pred (w : World) : PredI 162 #[] (fun n => !fitsB n) w := fun W x _ => by
 by_cases h1 : -1000000000 ≤ x
 ·by_cases h2 : x ≤ 1000000000
  ·go_enter Tryz.func162, Tryz.ntmps162; go_wp2; go_ret; exact ⟨ret_bool (by simp [fitsB, h1, h2]), 0, rfl⟩
  ·go_enter Tryz.func162, Tryz.ntmps162; go_wp2; go_ret; exact ⟨ret_bool (by simp [fitsB, h1, h2]), 0, rfl⟩
 ·go_enter Tryz.func162, Tryz.ntmps162; go_wp2; go_ret; exact ⟨ret_bool (by simp [fitsB, h1]), 0, rfl⟩
theorem row_Check.calls (A0 : Option Addr) (c0 : Nat) (l0 : List Int) (r : Int) (w : World) (hr0 : Kd.C (Kd.int .i64) w A0 l0.length l0) (hc0 : l0.length ≤ c0) (hG : GL w) (h : row_Check.f l0 = some r) :
  Calls Tryz.prog 134 #[.slice A0 l0.length c0] w fun e w' => e = .returned (.int .i64 r) ∧ Below w.heap.size w w' := by
 unfold row_Check.f at h; obtain rfl := Option.some.inj h; have hc := AS (containsFunc_row 162 #[] _ A0 c0 l0 w (enters_of Tryz.func162 Z6 rfl) (fits_pred w) hr0)
 have he : (l0.any fun n => !fitsB n) = !(l0.all fitsB) := by rw [List.all_eq_not_any_not]; simp
 have hm := Kd.C_max hr0; clear hr0 h hG
 by_cases hl : l0.length ≤ 64
 ·rw [he] at hc
  cases hq : l0.all fitsB with
  | true =>
   rw [hq] at hc; clear he hq; rw [if_pos ⟨hl, rfl⟩]; go_enter Tryz.func134, Tryz.ntmps134; go_wp2_with (go_at_call 75; refine (hc.out).mono ?_; rintro e w' ⟨rfl, q, rfl⟩); go_ret; exact ⟨rfl, below_drewN' _ _⟩
  | false =>
   rw [hq] at hc; clear he hq; rw [if_neg (by simp)]; go_enter Tryz.func134, Tryz.ntmps134; go_wp2_with (go_at_call 75; refine (hc.out).mono ?_; rintro e w' ⟨rfl, q, rfl⟩); go_ret; exact ⟨rfl, below_drewN' _ _⟩
 ·rw [if_neg (by omega)]; clear hc he; go_enter Tryz.func134, Tryz.ntmps134; go_wp2; go_ret; exact ⟨rfl, Below.refl _ _⟩
end

def row_both.f (l0 : List Int) (l1 : List Int) : Option (Int) := (row_Check.f l0).bind fun t536 => (if t536 = 0 then ((row_Check.f l1).bind fun t537 => (if t537 = 0 then (if (l0.length : Int) = (l1.length : Int) then (some 0) else (none)) else (none))) else (none))
theorem row_both.calls (A0 : Option Addr) (c0 : Nat) (l0 : List Int) (A1 : Option Addr) (c1 : Nat) (l1 : List Int) (r : Int) (w : World) (hr0 : Kd.C (Kd.int .i64) w A0 l0.length l0) (hc0 : l0.length ≤ c0) (hr1 : Kd.C (Kd.int .i64) w A1 l1.length l1) (hc1 : l1.length ≤ c1) (hG : GL w) (h : row_both.f l0 l1 = some r) :
  Calls Tryz.prog 113 #[.slice A0 l0.length c0, .slice A1 l1.length c1] w fun e w' => e = .returned (.int .i64 r) ∧ Below w.heap.size w w' := by
 have HR0 := AS hr0; have HC0 := AS hc0; clear hr0 hc0; have HR1 := AS hr1; have HC1 := AS hc1; clear hr1 hc1; have HB := AS (blr w); have H : ((row_Check.f l0).bind fun t536 => (if t536 = 0 then ((row_Check.f l1).bind fun t537 => (if t537 = 0 then (if (l0.length : Int) = (l1.length : Int) then (some 0) else (none)) else (none))) else (none))) = some r := h; clear h; replace H := bsm H; obtain ⟨t536, A30, H⟩ := H; replace H : (if t536 = 0 then ((row_Check.f l1).bind fun t537 => (if t537 = 0 then (if (l0.length : Int) = (l1.length : Int) then (some 0) else (none)) else (none))) else (none)) = some r := H; have A3 := AS A30; clear A30
 by_cases c4 : t536 = 0
 ·rw [if_pos c4] at H
  have c4b0 : (t536 == 0) = true := bqt c4; have c4b1 : (t536 != 0) = false := bnf c4; clear c4; replace H := bsm H; obtain ⟨t537, A50, H⟩ := H; replace H : (if t537 = 0 then (if (l0.length : Int) = (l1.length : Int) then (some 0) else (none)) else (none)) = some r := H; have A5 := AS A50; clear A50
  by_cases c6 : t537 = 0
  ·rw [if_pos c6] at H
   have c6b0 : (t537 == 0) = true := bqt c6; have c6b1 : (t537 != 0) = false := bnf c6; clear c6
   by_cases c7 : (l0.length : Int) = (l1.length : Int)
   ·rw [if_pos c7] at H
    have c7b0 : ((l0.length : Int) == (l1.length : Int)) = true := bqt c7; have c7b1 : ((l0.length : Int) != (l1.length : Int)) = false := bnf c7
    have c7b2 : (l0.length == l1.length) = true := by first | simpa using c7 | (simp at c7 ⊢; omega)
    clear c7; obtain rfl := Option.some.inj H; go_enter Tryz.func113, Tryz.ntmps113; go_wp2_with (first | ((with_reducible refine gtc (f := 134) rfl ?_); refine gsL (some 8) rfl rfl Tryz.func134 Z6 rfl #[.slice A0 l0.length c0] rfl Z1 ?_; (with_reducible refine (row_Check.calls _ _ l0 t536 _ ?side1 ?side2 ?side3 A3.out).mono ?_); (case side1 => exact Z15); (case side2 => exact Z81); (case side3 => exact Z168); rintro e w8 ⟨rfl, hb⟩; refine ⟨_, rfl, ?_⟩; replace HB := AS (bst Z0 hb); (try clear hb)) | ((with_reducible refine gtc (f := 134) rfl ?_); refine gsL (some 13) rfl rfl Tryz.func134 Z6 rfl #[.slice A1 l1.length c1] rfl Z1 ?_; (with_reducible refine (row_Check.calls _ _ l1 t537 _ ?side1 ?side2 ?side3 A5.out).mono ?_); (case side1 => exact Z98); (case side2 => exact Z133); (case side3 => exact Z168); rintro e w9 ⟨rfl, hb⟩; refine ⟨_, rfl, ?_⟩; replace HB := AS (bst Z0 hb); (try clear hb))); go_ret; exact ⟨Z3, Z0⟩
   ·rw [if_neg c7] at H
    exact absurd H (by simp)
  ·rw [if_neg c6] at H
   exact absurd H (by simp)
 ·rw [if_neg c4] at H
  exact absurd H (by simp)

section
open Go.Shelf
def rowOk (l : List Int) : Bool := decide (l.length ≤ 64) && l.all fitsB
theorem row_Check_f (l : List Int) : row_Check.f l = some (if rowOk l = true then 0 else 4) := by
 unfold row_Check.f rowOk
 congr 1
 by_cases h : l.length ≤ 64 <;> by_cases h2 : l.all fitsB = true <;> simp [h, h2]
theorem row_result_same (A : Option Addr) (c : Nat) (l : List Int) (w : World) (hr : Kd.C (Kd.int .i64) w A l.length l) (hc : l.length ≤ c) (hG : GL w) :
  Calls Tryz.prog 115 #[.slice A l.length c] w fun e w' => e = .returned (.tuple #[if rowOk l = true then .slice A l.length c else .slice none 0 0, .int .i64 (if rowOk l = true then 0 else 4)]) ∧ Below w.heap.size w w' := by
 have HC := AS (row_Check.calls A c l _ w hr hc hG (row_Check_f l)); clear hr hG
 cases hq : rowOk l with
 | true =>
  rw [hq] at HC; clear hq; go_enter Tryz.func115, Tryz.ntmps115; go_wp2_with (go_at_call 134; refine (HC.out).mono ?_; rintro e w' ⟨rfl, hb⟩; have HB := AS hb; clear hb); go_ret2; exact ⟨rfl, HB.out⟩
 | false =>
  rw [hq] at HC; clear hq; go_enter Tryz.func115, Tryz.ntmps115; go_wp2_with (go_at_call 134; refine (HC.out).mono ?_; rintro e w' ⟨rfl, hb⟩; have HB := AS hb; clear hb); go_ret2; exact ⟨rfl, HB.out⟩
structure SubX where
 x : Int
 y : Int
 x0 : -1000000000 ≤ x
 x1 : x ≤ 1000000000
 y0 : -1000000000 ≤ y
 y1 : y ≤ 1000000000
def SubX.d (z : SubX) : Int := z.x - z.y
theorem subX_zs : ∀ (l m : List Int), l.length = m.length → l.all fitsB = true → m.all fitsB = true → ∃ zs : List SubX, zs.map SubX.x = l ∧ zs.map SubX.y = m
 | [], [], _, _, _ => ⟨[], rfl, rfl⟩
 | [], _ :: _, h, _, _ => by cases h
 | _ :: _, [], h, _, _ => by cases h
 | x :: l, y :: m, h, h1, h2 => by
  simp only [List.all_cons, Bool.and_eq_true] at h1 h2; obtain ⟨zs, e1, e2⟩ := subX_zs l m (by simpa using h) h1.2 h2.2; have f1 := h1.1; have f2 := h2.1; simp only [fitsB, Bool.and_eq_true, decide_eq_true_eq] at f1 f2; exact ⟨⟨x, y, f1.1, f1.2, f2.1, f2.2⟩ :: zs, by simp [e1], by simp [e2]⟩
theorem subX_zip : ∀ zs : List SubX, zs.map SubX.d = List.zipWith (· - ·) (zs.map SubX.x) (zs.map SubX.y)
 | [] => rfl
 | z :: zs => by simp [SubX.d, subX_zip zs]
attribute [local go_sem] Oper.semAt_some in
theorem sub_walk (A0 : Option Addr) (c0 : Nat) (l0 : List Int) (A1 : Option Addr) (c1 : Nat) (l1 : List Int) (w : World) (hr0 : Kd.C (Kd.int .i64) w A0 l0.length l0) (hc0 : l0.length ≤ c0) (hr1 : Kd.C (Kd.int .i64) w A1 l1.length l1) (hc1 : l1.length ≤ c1) (hG : GL w) (h0 : rowOk l0 = true) (h1 : rowOk l1 = true) (hlen : l0.length = l1.length) (r1 : List Int) (r2 : Int) (hr1_ : r1 = if rowOk (List.zipWith (· - ·) l0 l1) = true then List.zipWith (· - ·) l0 l1 else []) (hr2_ : r2 = if rowOk (List.zipWith (· - ·) l0 l1) = true then 0 else 4) :
  CallsIn Fence.wide 5 Tryz.prog 86 #[.slice A0 l0.length c0, .slice A1 l1.length c1] w fun e w' => ∃ v0_ : Value, e = .returned (.tuple #[v0_, .int .i64 r2]) ∧ Kd.R (Kd.int .i64) 3 w' w.heap.size (fun _ => True) v0_ r1 ∧ Below w.heap.size w w' := by
 have hb : row_both.f l0 l1 = some 0 := by
  simp [row_both.f, row_Check_f, h0, h1, hlen]
 have HC := AS (row_both.calls A0 c0 l0 A1 c1 l1 0 w hr0 hc0 hr1 hc1 hG hb); simp only [rowOk, Bool.and_eq_true, decide_eq_true_eq] at h0 h1; obtain ⟨zs, e0, e1⟩ := subX_zs l0 l1 hlen h0.2 h1.2
 have HL1 : Aside0 (HoldsI w.heap.size w A0 zs fun x => .int .i64 x.x) := ⟨fun j hj => by
  obtain ⟨ad, e, hb, hc⟩ := C_int_holds hr0 j (by rw [← e0]; simpa using hj)
  exact ⟨ad, e, hb, by rw [hc]; simp [← e0]⟩⟩
 have HL2 : Aside0 (HoldsI w.heap.size w A1 zs fun x => .int .i64 x.y) := ⟨fun j hj => by
  obtain ⟨ad, e, hb, hc⟩ := C_int_holds hr1 j (by rw [← e1]; simpa using hj)
  exact ⟨ad, e, hb, by rw [hc]; simp [← e1]⟩⟩
 have hl0 : l0.length = zs.length := by rw [← e0]; simp
 have hl1 : l1.length = zs.length := by rw [← e1]; simp
 have hz : zs.length ≤ 64 := by omega
 have HZ : Aside0 (List.zipWith (· - ·) l0 l1 = zs.map SubX.d) := ⟨by rw [subX_zip, e0, e1]⟩; have HGL := AS hG; rw [hl0, hl1] at HC; rw [hl0, hl1]; rw [HZ.out] at hr1_ hr2_; have HR1 := AS hr1_; have HR2 := AS hr2_; clear hr1_ hr2_; clear hr0 hr1 hG hb h0 h1 hlen e0 e1 HZ hl0 hl1 hc0 hc1; obtain ⟨i0, hi, hzz⟩ := Option.map_eq_some_iff.1 info3_row; simp only [Prod.mk.injEq] at hzz; obtain ⟨hz0, hz1, hz2⟩ := hzz
 have hmk : ∀ w1, w.heap.size ≤ w1.heap.size → ∃ w2, (Instr.makeSlice 28 (.int .i64 0) (.int .i64 (zs.length : Int))).run Tryz.prog w1 = .ok (.slice (some ⟨w1.heap.size, 0, none⟩) 0 zs.length) w2 ∧ w2.ownsRow w.heap.size 3 1 (.slice (some ⟨w1.heap.size, 0, none⟩) 0 zs.length) 0 [] ∧ w1.grownBy w2 none := fun w1 hw => by
  obtain ⟨w2, hrun, hown, hgr⟩ := run_make_own (P := Tryz.prog) w1 w.heap.size 28 3 i0 (.int .i64 0) 1 Tryz.underlying28 hi hz0 hz1 .i64 .i64 zs.length (by rw [hz2]; omega) Z166 hw; exact ⟨w2, hrun, hown, hgr⟩
 have HMK := AS hmk; clear hmk; refine callsIn_of_wp_marks Tryz.func86 rfl trivial ?_ rfl; simp only [Tryz.ntmps86, List.size_toArray, List.length_cons, List.length_nil, Nat.reduceAdd, Nat.reduceSub, Array.replicate_succ, Array.replicate_zero, List.push_toArray, List.append_toArray, List.nil_append, List.cons_append]
 gi_wp2_with (first | (refine ⟨trivial, ?_⟩; gi_at_call 113; refine (callsIn_wide.2 HC.out).mono ?_; rintro e w1 ⟨rfl, hB1⟩; have HB1 := AS hB1; have hs1 := hB1.size; clear hB1; obtain ⟨w2, hrun2, hown2, hgr2⟩ := HMK.out w1 hs1; have HOW := AS hown2; have HB2 := AS (HB1.out.grown hgr2 hs1 (fun k e => by cases e)); have hs2 := HB2.out.size; clear hown2 hgr2 HC) | (refine ⟨trivial, ?_⟩; gi_at_call 114; refine (pairs_in Fence.wide 4 trivial rfl _ _ _ _ _ _ _).mono ?_; rintro e w3 ⟨rfl, rfl⟩))
 simp only [Nat.add_assoc, Nat.reduceAdd]
 obtain ⟨W0, hW0⟩ : ∃ W0, ((w2.alloc (.cells #[.slice (some ⟨w1.heap.size, 0, none⟩) 0 zs.length] 28)).alloc (.cells #[.slice A0 zs.length c0] 28)).alloc (.cells #[.slice A1 zs.length c1] 28) = W0 := ⟨_, rfl⟩
 have hsz : W0.heap.size = w2.heap.size + 3 := by rw [← hW0]; simp
 have hB0 : Below w.heap.size w W0 := by
  rw [← hW0]; exact ((HB2.out.alloc hs2 _).alloc Z154 _).alloc Z154 _
 have hb0 : Boxed W0 w2.heap.size 28 (.slice (some ⟨w1.heap.size, 0, none⟩) 0 zs.length) := by
  rw [← hW0]; exact ((Boxed.new w2 28 _).alloc _).alloc _
 have hb1 : Boxed W0 (w2.heap.size + 1) 28 (.slice A0 zs.length c0) := by
  rw [← hW0]; have := Boxed.new (w2.alloc (.cells #[.slice (some ⟨w1.heap.size, 0, none⟩) 0 zs.length] 28)) 28 (.slice A0 zs.length c0); rw [World.size_alloc] at this; exact this.alloc _
 have hb2 : Boxed W0 (w2.heap.size + 2) 28 (.slice A1 zs.length c1) := by
  rw [← hW0]; have := Boxed.new ((w2.alloc (.cells #[.slice (some ⟨w1.heap.size, 0, none⟩) 0 zs.length] 28)).alloc (.cells #[.slice A0 zs.length c0] 28)) 28 (.slice A1 zs.length c1); rw [World.size_alloc, World.size_alloc] at this; exact this
 have ho0 : W0.ownsRow w.heap.size 3 1 (.slice (some ⟨w1.heap.size, 0, none⟩) 0 zs.length) 0 [] := by
  rw [← hW0]; exact ((HOW.out.alloc _).alloc _).alloc _
 rw [hW0]; clear hW0
 refine wpIn_rangeFunc_ownG (n := 5) rfl (by decide) (gf := 138) (lb := #[.pointer (some ⟨w2.heap.size + 1, 0, none⟩), .pointer (some ⟨w2.heap.size + 2, 0, none⟩)]) rfl trivial (enters_of Tryz.func138 Z6 rfl)
  (pairs_stops (α := SubX) (fun x => x.x) (fun x => x.y) zs Fence.wide 4 trivial rfl (by decide) (w2.heap.size + 1) (w2.heap.size + 2) w.heap.size (w2.heap.size + 2) (w2.heap.size + 3) A0 A1 c0 c1 (by omega) W0 (by omega) (by omega) (by omega) (by omega) (by omega) hb1.cell hb2.cell (HL1.out.below hB0) (HL2.out.below hB0)) KeepsB.trans (keepsB_b (by omega) (by omega)) (Below.refl _ _) (fun _ => rfl)
  (fun pre W => (∃ v, Boxed W w2.heap.size 28 v ∧ W.ownsRow w.heap.size 3 1 v pre.length (pre.map fun z => .int .i64 z.d) ∧ True) ∧ Boxed W (w2.heap.size + 2) 28 (.slice A1 zs.length c1) ∧ Below w.heap.size w W ∧ w2.heap.size + 3 ≤ W.heap.size)
  (fun _ _ _ => False)
  (OwnFrom.and (Own.from (holdsRow_own w.heap.size w2.heap.size 28 3 1 (fun pre : List SubX => pre.length) (fun pre : List SubX => pre.map fun z => .int .i64 z.d) (fun _ _ => True)) _) (OwnFrom.and (Own.from (boxed_own _ 28 (fun _ : List SubX => _)) _) (OwnFrom.and (ownFrom_below (Nat.le_refl _) (by omega)) (fun _ _ _ _ hs hg _ => Nat.le_trans hs hg.size))))
  (fun _ _ _ _ _ hs _ _ => hs)
  ⟨⟨_, hb0, ho0, trivial⟩, hb2, hB0, by omega⟩
  (fun z => { tmps := #[.slice A0 zs.length c0, .slice A1 zs.length c1, undef, undef, .slice none 0 0, .int .i64 0, .int .i64 0, .pointer (some ⟨w2.heap.size, 0, none⟩), .int .i64 z.x, .int .i64 z.y, .slice A0 zs.length c0, .slice A1 zs.length c1, .int .i64 0, .int .i64 0, .bool false, undef, .slice A0 zs.length c0, .int .i64 (zs.length : Int), .slice (some ⟨w1.heap.size, 0, none⟩) 0 zs.length, .slice A0 zs.length c0, .slice A1 zs.length c1, .func (.func 138) #[] #[.pointer (some ⟨w2.heap.size + 1, 0, none⟩), .pointer (some ⟨w2.heap.size + 2, 0, none⟩)], .int .i64 z.x, .int .i64 z.y, undef, undef, undef, undef, undef, undef, undef, undef, undef, undef], defers := [] }) ?assign ?body ?done ?stop
 case assign =>
  intro l x W K hK
  gi_wp2
  exact hK
 case stop =>
  rintro D c pre W _ _ h _; exact h.elim
 case body =>
  rintro l pre z W ⟨⟨v, hv, hrow, _⟩, hb2, hB, hS⟩ hlt; have hcv := hv.cell; have z0 := z.x0; have z1 := z.x1; have z2 := z.y0; have z3 := z.y1
  gi_wp2_with (gi_at_builtin; refine wpListIn_append_own _ rfl _ _ 28 rfl w.heap.size 3 i0 (.int .i64 0) 1 8 Tryz.underlying28 hi hz0 hz1 hz2 rfl (by decide) _ _ _ rfl (hrow.alloc _) ⟨W.heap.size, 0, none⟩ 1 1 [.int .i64 (z.x - z.y)] rfl rfl (cell_one_new _ _ _) (by simp [Value.oneCell']) Z166 (by omega) (by have := hB.size; simp; omega) ?_; intro v' w9 hown' hgrow _; obtain ⟨g', cap', rfl⟩ := ownsRow_succ hown'; obtain ⟨hv1, hv2, hr2, hk2, hb5⟩ := hv.appended (by decide) hrow hB.size (by omega) hown' hgrow; have hc9 := hv1.cell; have hf9 := hv1.frozen)
  have hb6 := ((hb2.alloc (.cells #[.int .i64 (z.x - z.y)] 3)).kept hgrow (hb2.not_row (by decide) hrow)).other (show w2.heap.size + 2 ≠ w2.heap.size by omega) (.slice (some ⟨g', 0, none⟩) (pre.length + 1) cap'); have hsx := hb5.size
  exact ⟨hk2.from _, ⟨hb5, fun k h1 h2 => by
   obtain rfl : k = w2.heap.size + 2 := by omega
   exact hb6.trans hb2.symm⟩, ⟨⟨_, hv2, by simpa [SubX.d] using hr2, trivial⟩, hb6, hB.trans hb5, by omega⟩⟩
 case done =>
  rintro D ys W hD rfl ⟨⟨v, hv, hrow, _⟩, hb2, hB, hS⟩ hK; have hcv := hv.cell; have hR0 : Kd.R (Kd.int .i64) 3 W w.heap.size (fun _ => True) v (ys.map SubX.d) := Kd.R_of_own (by rw [List.length_map]; unfold encs; rw [List.map_map]; exact hrow) (fun _ _ => trivial); obtain ⟨A, c, rfl, hcc, hC⟩ := Kd.R_reads hR0
  cases hq : rowOk (ys.map SubX.d) with
  | true =>
   have hrow' := hrow; rw [List.length_map] at hrow'; have HR := AS (show CallsIn Fence.wide 4 Tryz.prog 115 #[.slice A (ys.map SubX.d).length c] W _ from callsIn_wide.2 (row_result_same A c (ys.map SubX.d) W hC hcc (HGL.out.below hB))); rw [hq] at HR HR1 HR2; simp only [if_true, if_false, Bool.false_eq_true, reduceIte] at HR1 HR2; simp only [if_true, if_false, Bool.false_eq_true, reduceIte] at HR; have HQ := AS hq; clear hq; rw [List.length_map] at HR
   gi_wp2_with (refine ⟨trivial, ?_⟩; gi_at_call 115; refine (HR.out).mono ?_; rintro e X ⟨rfl, hbX⟩; have HBX := AS hbX; clear hbX)
   have hKX := (HBX.out.block D (Array.getElem?_eq_some_iff.1 hK).1).trans hK; refine ⟨by simp, .inl ⟨_, _, rfl, run_takeDeferred hKX, ?_⟩⟩; refine ⟨_, results_tmp2 rfl _ _ _, .slice A ys.length c, by rw [HR2.out]; rfl, ?_, (bst hB HBX.out).trans (belowK_b (w := w) (Nat.le_refl _) X D _ (.deferred none) (by omega) hKX rfl rfl)⟩; rw [HR1.out]; exact Kd.R_of_own (ownsRow_putObj (pw_own_below (by rw [List.length_map]; unfold encs; rw [List.map_map]; exact hrow') HBX.out) _ hKX rfl) (fun _ _ => trivial)
  | false =>
   have HR := AS (show CallsIn Fence.wide 4 Tryz.prog 115 #[.slice A (ys.map SubX.d).length c] W _ from callsIn_wide.2 (row_result_same A c (ys.map SubX.d) W hC hcc (HGL.out.below hB))); rw [hq] at HR HR1 HR2; simp only [if_true, if_false, Bool.false_eq_true, reduceIte] at HR1 HR2; simp only [if_true, if_false, Bool.false_eq_true, reduceIte] at HR; have HQ := AS hq; clear hq; rw [List.length_map] at HR
   gi_wp2_with (refine ⟨trivial, ?_⟩; gi_at_call 115; refine (HR.out).mono ?_; rintro e X ⟨rfl, hbX⟩; have HBX := AS hbX; clear hbX)
   have hKX := (HBX.out.block D (Array.getElem?_eq_some_iff.1 hK).1).trans hK; refine ⟨by simp, .inl ⟨_, _, rfl, run_takeDeferred hKX, ?_⟩⟩; refine ⟨_, results_tmp2 rfl _ _ _, .slice none 0 0, by rw [HR2.out]; rfl, ?_, (bst hB HBX.out).trans (belowK_b (w := w) (Nat.le_refl _) X D _ (.deferred none) (by omega) hKX rfl rfl)⟩; rw [HR1.out]; exact Kd.R_nil _ _ _ _ _
def row_Sub.f (l0 : List Int) (l1 : List Int) : Option (List Int × Int) := if rowOk l0 = true ∧ rowOk l1 = true ∧ l0.length = l1.length then some (if rowOk (List.zipWith (· - ·) l0 l1) = true then List.zipWith (· - ·) l0 l1 else [], if rowOk (List.zipWith (· - ·) l0 l1) = true then 0 else 4) else none
theorem row_Sub.calls (A0 : Option Addr) (c0 : Nat) (l0 : List Int) (A1 : Option Addr) (c1 : Nat) (l1 : List Int) (r1 : List Int) (r2 : Int) (w : World) (hr0 : Kd.C (Kd.int .i64) w A0 l0.length l0) (hc0 : l0.length ≤ c0) (hr1 : Kd.C (Kd.int .i64) w A1 l1.length l1) (hc1 : l1.length ≤ c1) (hG : GL w) (h : row_Sub.f l0 l1 = some (r1, r2)) :
  Calls Tryz.prog 86 #[.slice A0 l0.length c0, .slice A1 l1.length c1] w fun e w' => ∃ v0_ : Value, e = .returned (.tuple #[v0_, .int .i64 r2]) ∧ Kd.R (Kd.int .i64) 3 w' w.heap.size (fun _ => True) v0_ r1 ∧ Below w.heap.size w w' := by
 unfold row_Sub.f at h
 by_cases c : rowOk l0 = true ∧ rowOk l1 = true ∧ l0.length = l1.length
 ·rw [if_pos c] at h; simp only [Option.some.injEq, Prod.mk.injEq] at h; obtain ⟨rfl, rfl⟩ := h; exact callsIn_wide.1 (sub_walk A0 c0 l0 A1 c1 l1 w hr0 hc0 hr1 hc1 hG c.1 c.2.1 c.2.2 _ _ rfl rfl)
 ·rw [if_neg c] at h; cases h
end

theorem info9_row : (Tryz.prog.info? 9).map (fun i => (i.zero, i.size, i.bytes)) = some (some (.string ⟨#[]⟩), 1, 16) := by kernel_rfl
def itoaB (n : Int) : ByteArray := ⟨(Lib.itoa n).toArray⟩
def textL (l : List Int) : ByteArray := ⟨(Lib.join (l.map Lib.itoa) [32]).toArray⟩
theorem textL_eq (l : List Int) : textL l = ⟨(Lib.join ((l.map itoaB).map (·.data.toList)) (⟨#[32]⟩ : ByteArray).data.toList).toArray⟩ := by
 simp [textL, itoaB, Function.comp_def]
theorem join_call (xs : List ByteArray) (v : Value) (w : World) (base : Nat) (h : Kd.R Kd.string 9 w base (fun _ => True) v xs) (hb : base ≤ w.heap.size) (hl : (Lib.join (xs.map (·.data.toList)) (⟨#[32]⟩ : ByteArray).data.toList).length ≤ 100000) (hn : xs.length ≤ 64) :
  Calls Tryz.prog 135 #[v, .string ⟨#[32]⟩] w fun e w' => e = .returned (.string ⟨(Lib.join (xs.map (·.data.toList)) (⟨#[32]⟩ : ByteArray).data.toList).toArray⟩) ∧ Below w.heap.size w w' := by
 have ho := Kd.own_of_R h
 rcases ho.2 with ⟨rfl, h0⟩ | ⟨g, cap, cur, rfl, hg, hgb, hc⟩
 ·obtain rfl : xs = [] := List.eq_nil_of_length_eq_zero h0; refine (Tryz.strings_Join_none _ _ _ _).mono ?_; rintro e w' ⟨rfl, rfl⟩; exact ⟨rfl, Below.refl _ _⟩
 ·obtain ⟨hc1, hc2, _⟩ := hc; have hlt := (Array.getElem?_eq_some_iff.1 hgb).1; refine Tryz.strings_Join g 0 cap xs ⟨#[32]⟩ w (fun j x hx => ?_) hlt (by omega) hc1 (by omega); have := ho.cells (g := g) rfl j (.string x) (by simp [encs, hx])
  have ha : (⟨g, 0, none⟩ : Addr).add j = ⟨g, 0 + j, none⟩ := by unfold Addr.add; split <;> simp_all
  rwa [ha] at this
theorem rowText_walk (A0 : Option Addr) (c0 : Nat) (l0 : List Int) (r : ByteArray) (w : World) (hr0 : Kd.C (Kd.int .i64) w A0 l0.length l0) (hc0 : l0.length ≤ c0) (hG : GL w) (h0 : row_Check.f l0 = some 0) (h1 : l0.length ≤ 64 ∧ l0.all fitsB = true) (h2 : (Lib.join ((l0.map itoaB).map (·.data.toList)) (⟨#[32]⟩ : ByteArray).data.toList).length ≤ 100000) (hr : r = textL l0) :
  Calls Tryz.prog 110 #[.slice A0 l0.length c0, .bool true] w fun e w' => e = .returned (.tuple #[.string (⟨#[91]⟩ ++ r ++ ⟨#[62]⟩), .int .i64 0]) ∧ Below w.heap.size w w' := by
 have HC := AS (row_Check.calls A0 c0 l0 0 w hr0 hc0 hG h0); have HR := AS hr0; have HGL := AS hG; have HF := AS h1.2; have HL := AS h2; have hn := h1.1; have HX := AS (hr.trans (textL_eq l0)); clear hr0 hG h0 h1 h2 hr; go_enter Tryz.func110, Tryz.ntmps110; go_wp2_with (go_at_call 134; refine (HC.out).mono ?_; rintro e w1 ⟨rfl, hb⟩; have HB := AS hb; clear hb)
 go_loopw [7, 18] (fun v i wr => ∃ k : Nat, i = .int .i64 k ∧ k ≤ l0.length ∧ Aside0 (Kd.R Kd.string 9 wr w.heap.size (fun _ => True) v ((l0.take k).map itoaB)) ∧ Aside0 (Below w.heap.size w wr)) (fun _ i _ => l0.length - (intOf i).toNat)
 case atStart => exact ⟨0, rfl, Nat.zero_le _, ⟨Kd.R_nil _ _ _ _ _⟩, HB⟩
 case round =>
  obtain ⟨k, rfl, hk, HO, HB2⟩ := hrel
  by_cases hlt : k < l0.length
  ·obtain ⟨ad, rfl, hcell0⟩ := C_int_at HR.out k hlt; have hcell := pcb HB2.out hcell0
   have HT : Aside0 ((l0.take k).map itoaB ++ [itoaB (l0.getD k 0)] = (l0.take (k + 1)).map itoaB) := ⟨by
    rw [List.take_succ_eq_append_getElem hlt, List.map_append, List.getD_eq_getElem?_getD, List.getElem?_eq_getElem hlt]
    rfl⟩
   have hf : -1000000000 ≤ l0.getD k 0 ∧ l0.getD k 0 ≤ 1000000000 := by
    have := List.all_eq_true.mp HF.out (l0[k]) (List.getElem_mem ..); simp only [fitsB, Bool.and_eq_true, decide_eq_true_eq] at this; rw [List.getD_eq_getElem?_getD, List.getElem?_eq_getElem hlt]; exact this
   have hlen : ((l0.take k).map itoaB).length ≤ 64 := by simp; omega
   generalize l0.getD k 0 = x at *; obtain ⟨hf0, hf1⟩ := hf; have HI := AS (strconv_Itoa.calls x (itoaB x) wr (HGL.out.below HB2.out) (by unfold strconv_Itoa.f; rw [if_pos ⟨by omega, by omega⟩]; rfl)); clear hcell0; go_wp2_with (first | (go_at_call 90; refine (HI.out).mono ?_; rintro e w3 ⟨rfl, hbg⟩; have HB3 := AS (bst HB2.out hbg); have HO3 := AS (Kd.R_below HO.out hbg); clear hbg) | (at_builtin; (refine Kd.R_append Kd.string (w0 := w) w.heap.size rfl (.tmp 22) (.tmp 25) 175 9 (.string ⟨#[]⟩) 16 rfl Tryz.underlying175 info9_row rfl (by decide) (by decide) u7 ((l0.take k).map itoaB) (itoaB x) [.string (itoaB x)] (fun _ => True) (fun _ => False) rfl rfl rfl (fun _ hk_ => hk_.elim) (fun _ _ => trivial) HO3.out HB3.out HB3.out.size (by omega) ?_); intro v4 w4 hown4 hB4 _ _; have HO4 := AS hown4; have HB4 := AS hB4; clear hown4 hB4)); go_roundw
   case rel => exact ⟨k + 1, by go_num, by omega, ⟨by rw [← HT.out]; exact HO4.out⟩, HB4⟩
   case measure => simp [intOf]; omega
  ·obtain rfl : k = l0.length := by omega
   rw [List.take_length] at HO; have hj := join_call (l0.map itoaB) u7 wr w.heap.size HO.out HB2.out.size HL.out Z154
   obtain ⟨J, hJ⟩ : ∃ J : ByteArray, J = ⟨(Lib.join ((l0.map itoaB).map (·.data.toList)) (⟨#[32]⟩ : ByteArray).data.toList).toArray⟩ := ⟨_, rfl⟩
   have hJs : J.size ≤ 100000 := by rw [hJ]; exact HL.out
   have HJE := AS hJ; rw [← hJ] at hj
   have hJ2 : ((⟨#[91]⟩ : ByteArray) ++ J).size ≤ 100001 := by rw [ByteArray.size_append]; show 1 + J.size ≤ 100001; omega
   have HJ := AS hj; clear hj hJ; go_wp2_with (go_at_call 135; refine (HJ.out).mono ?_; rintro e w5 ⟨rfl, hb5⟩; have HB5 := AS (bst HB2.out hb5); clear hb5); go_ret2; exact ⟨by rw [HX.out, ← HJE.out]; rfl, HB5.out⟩
def row_Text.f (l0 : List Int) (a1 : Bool) : Option (ByteArray × Int) := if a1 = true ∧ l0.length ≤ 64 ∧ l0.all fitsB = true ∧ (Lib.join ((l0.map itoaB).map (·.data.toList)) (⟨#[32]⟩ : ByteArray).data.toList).length ≤ 100000 then some (⟨#[91]⟩ ++ textL l0 ++ ⟨#[62]⟩, 0) else none
theorem row_Text.calls (A0 : Option Addr) (c0 : Nat) (l0 : List Int) (a1 : Bool) (r1 : ByteArray) (r2 : Int) (w : World) (hr0 : Kd.C (Kd.int .i64) w A0 l0.length l0) (hc0 : l0.length ≤ c0) (hG : GL w) (h : row_Text.f l0 a1 = some (r1, r2)) :
  Calls Tryz.prog 110 #[.slice A0 l0.length c0, .bool a1] w fun e w' => e = .returned (.tuple #[.string r1, .int .i64 r2]) ∧ Below w.heap.size w w' := by
 unfold row_Text.f at h
 by_cases c : a1 = true ∧ l0.length ≤ 64 ∧ l0.all fitsB = true ∧ (Lib.join ((l0.map itoaB).map (·.data.toList)) (⟨#[32]⟩ : ByteArray).data.toList).length ≤ 100000
 ·rw [if_pos c] at h; simp only [Option.some.injEq, Prod.mk.injEq] at h; obtain ⟨rfl, rfl⟩ := h; obtain ⟨rfl, c1, c2, c3⟩ := c; exact rowText_walk A0 c0 l0 _ w hr0 hc0 hG (by unfold row_Check.f; rw [if_pos ⟨c1, c2⟩]) ⟨c1, c2⟩ c3 rfl
 ·rw [if_neg c] at h; cases h

def schismalaw29_same.l0 : Nat → List (List Int) → List (List Int) → Int → Option (Bool)
 | 0, _, _, _ => none
 | k + 1, x0, x1, x5 => if x5 < (x0.length : Int) then (if 0 ≤ x5 then (if x5 < (x1.length : Int) then ((row_Equal.f k (rd_L3 x0 x5) (rd_L3 x1 x5)).bind fun t546 => (if t546 = true then (schismalaw29_same.l0 k x0 x1 (wrap64 (x5 + 1))) else (some false))) else (none)) else (none)) else (some true)
def schismalaw29_same.f (k : Nat) (l0 : List (List Int)) (l1 : List (List Int)) : Option (Bool) := if (l0.length : Int) = (l1.length : Int) then (schismalaw29_same.l0 k l0 l1 0) else (some false)
theorem schismalaw29_same.calls (k : Nat) (A0 : Option Addr) (c0 : Nat) (l0 : List (List Int)) (A1 : Option Addr) (c1 : Nat) (l1 : List (List Int)) (r : Bool) (w : World) (hr0 : Kd.C (Kd.slice 3 (Kd.int .i64)) w A0 l0.length l0) (hc0 : l0.length ≤ c0) (hr1 : Kd.C (Kd.slice 3 (Kd.int .i64)) w A1 l1.length l1) (hc1 : l1.length ≤ c1) (hG : GL w) (h : schismalaw29_same.f k l0 l1 = some r) :
  Calls Tryz.prog 21 #[.slice A0 l0.length c0, .slice A1 l1.length c1] w fun e w' => e = .returned (.bool r) ∧ Drawn0 w w' := by
 have HR0 := AS hr0; have HC0 := AS hc0; clear hr0 hc0; have HR1 := AS hr1; have HC1 := AS hc1; clear hr1 hc1; have HB := AS (blr w); have H : (if (l0.length : Int) = (l1.length : Int) then (schismalaw29_same.l0 k l0 l1 0) else (some false)) = some r := h; clear h
 by_cases c3 : (l0.length : Int) = (l1.length : Int)
 ·rw [if_pos c3] at H
  have c3b0 : ((l0.length : Int) == (l1.length : Int)) = true := bqt c3; have c3b1 : ((l0.length : Int) != (l1.length : Int)) = false := bnf c3
  have c3b2 : (l0.length == l1.length) = true := by first | simpa using c3 | (simp at c3 ⊢; omega)
  clear c3; have H' := AS H; clear H; go_enter Tryz.func21, Tryz.ntmps21; go_wp2
  repeat (go_quiet (fail); try go_wp2)
  go_loopg [5] k (fun kq v5 w' => ∃ (x5_1 : Int), v5 = .int .i64 x5_1 ∧ Aside0 (schismalaw29_same.l0 kq l0 l1 x5_1 = some r) ∧ Aside0 (kq ≤ k) ∧ Drawn0 w w')
  case atStart => exact ⟨(0), Z4, H', ⟨Nat.le_refl _⟩, Z11⟩
  case round =>
   clear H'; (try clear c1); (try clear c2); (try clear p2); (try clear c3); (try clear c3b0); (try clear c3b1); (try clear c3b2); obtain ⟨x5_1, rfl, HA, HK1, ⟨m1, rfl⟩⟩ := hrel
   cases gk with
   | zero => exact absurd HA.out (by simp [schismalaw29_same.l0])
   | succ k1 =>
    have H := HA.out; clear HA
    simp only [schismalaw29_same.l0] at H
    by_cases c4 : x5_1 < (l0.length : Int)
    ·rw [if_pos c4] at H
     have c4b0 : decide (x5_1 < (l0.length : Int)) = true := dqt c4; clear c4
     by_cases c5 : 0 ≤ x5_1
     ·rw [if_pos c5] at H
      have c5b0 : decide (0 ≤ x5_1) = true := dqt c5; clear c5
      by_cases c6 : x5_1 < (l1.length : Int)
      ·rw [if_pos c6] at H
       have c6b0 : decide (x5_1 < (l1.length : Int)) = true := dqt c6; clear c6; replace H := bsm H; obtain ⟨t546, A70, H⟩ := H; replace H : (if t546 = true then (schismalaw29_same.l0 k1 l0 l1 (wrap64 (x5_1 + 1))) else (some false)) = some r := H; have A7 := AS A70; clear A70
       by_cases c8 : t546 = true
       ·subst c8
        rw [if_pos rfl] at H
        have H' := AS H; clear H; have p544 : 0 ≤ (x5_1 : Int) := odt Z2; have q544 : x5_1 < (l0.length : Int) := odt Z2; obtain ⟨ad544, A544_0, c544_0, e544, hx544_0, hl544_0, hi544_0⟩ := at_L3 HR0.out x5_1 p544 q544; cases e544; have HR544_0 := AS hi544_0; have HC544_0 := AS hl544_0; clear hi544_0 hl544_0; replace p544 := eq_true p544; replace q544 := eq_true q544; have p545 : 0 ≤ (x5_1 : Int) := odt Z2; have q545 : x5_1 < (l1.length : Int) := odt Z2; obtain ⟨ad545, A545_0, c545_0, e545, hx545_0, hl545_0, hi545_0⟩ := at_L3 HR1.out x5_1 p545 q545; cases e545; have HR545_0 := AS hi545_0; have HC545_0 := AS hl545_0; clear hi545_0 hl545_0; replace p545 := eq_true p545; replace q545 := eq_true q545; go_wp2_with (first | (go_at_call 38; (with_reducible refine (row_Equal.calls k1 _ _ (rd_L3 l0 x5_1) _ _ (rd_L3 l1 x5_1) true _ ?side1 ?side2 ?side3 ?side4 ?side5 A7.out).mono ?_); (case side1 => exact Z56); (case side2 => exact Z158); (case side3 => exact Z57); (case side4 => exact Z159); (case side5 => exact Z168); rintro e w' ⟨rfl, ⟨nd, rfl⟩⟩; (try first | exact ⟨rfl, _, World.drewN_drewN _ _ _⟩ | exact ⟨rfl, _, Eq.trans (World.drewN_drewN _ _ _) (congrArg (World.drewN _) (Nat.add_assoc _ _ _))⟩)))
        repeat (go_quiet (first | (go_at_call 38; (with_reducible refine (row_Equal.calls k1 _ _ (rd_L3 l0 x5_1) _ _ (rd_L3 l1 x5_1) true _ ?side1 ?side2 ?side3 ?side4 ?side5 A7.out).mono ?_); (case side1 => exact Z56); (case side2 => exact Z158); (case side3 => exact Z57); (case side4 => exact Z159); (case side5 => exact Z168); rintro e w' ⟨rfl, ⟨nd, rfl⟩⟩; (try first | exact ⟨rfl, _, World.drewN_drewN _ _ _⟩ | exact ⟨rfl, _, Eq.trans (World.drewN_drewN _ _ _) (congrArg (World.drewN _) (Nat.add_assoc _ _ _))⟩))); try go_wp2_with (first | (go_at_call 38; (with_reducible refine (row_Equal.calls k1 _ _ (rd_L3 l0 x5_1) _ _ (rd_L3 l1 x5_1) true _ ?side1 ?side2 ?side3 ?side4 ?side5 A7.out).mono ?_); (case side1 => exact Z56); (case side2 => exact Z158); (case side3 => exact Z57); (case side4 => exact Z159); (case side5 => exact Z168); rintro e w' ⟨rfl, ⟨nd, rfl⟩⟩; (try first | exact ⟨rfl, _, World.drewN_drewN _ _ _⟩ | exact ⟨rfl, _, Eq.trans (World.drewN_drewN _ _ _) (congrArg (World.drewN _) (Nat.add_assoc _ _ _))⟩))))
        go_roundg k1
        case measure => have := HK1.out; omega
        case rel => exact ⟨(wrap64 (x5_1 + 1)), Z4, H', ⟨Z85⟩, Z11⟩
       ·replace c8 := Bool.eq_false_iff.mpr c8; subst c8
        rw [if_neg ffl] at H
        obtain rfl := Option.some.inj H; have p544 : 0 ≤ (x5_1 : Int) := odt Z2; have q544 : x5_1 < (l0.length : Int) := odt Z2; obtain ⟨ad544, A544_0, c544_0, e544, hx544_0, hl544_0, hi544_0⟩ := at_L3 HR0.out x5_1 p544 q544; cases e544; have HR544_0 := AS hi544_0; have HC544_0 := AS hl544_0; clear hi544_0 hl544_0; replace p544 := eq_true p544; replace q544 := eq_true q544; have p545 : 0 ≤ (x5_1 : Int) := odt Z2; have q545 : x5_1 < (l1.length : Int) := odt Z2; obtain ⟨ad545, A545_0, c545_0, e545, hx545_0, hl545_0, hi545_0⟩ := at_L3 HR1.out x5_1 p545 q545; cases e545; have HR545_0 := AS hi545_0; have HC545_0 := AS hl545_0; clear hi545_0 hl545_0; replace p545 := eq_true p545; replace q545 := eq_true q545; go_wp2_with (first | (go_at_call 38; (with_reducible refine (row_Equal.calls k1 _ _ (rd_L3 l0 x5_1) _ _ (rd_L3 l1 x5_1) false _ ?side1 ?side2 ?side3 ?side4 ?side5 A7.out).mono ?_); (case side1 => exact Z56); (case side2 => exact Z158); (case side3 => exact Z57); (case side4 => exact Z159); (case side5 => exact Z168); rintro e w' ⟨rfl, ⟨nd, rfl⟩⟩; (try first | exact ⟨rfl, _, World.drewN_drewN _ _ _⟩ | exact ⟨rfl, _, Eq.trans (World.drewN_drewN _ _ _) (congrArg (World.drewN _) (Nat.add_assoc _ _ _))⟩)))
        repeat (go_quiet (first | (go_at_call 38; (with_reducible refine (row_Equal.calls k1 _ _ (rd_L3 l0 x5_1) _ _ (rd_L3 l1 x5_1) false _ ?side1 ?side2 ?side3 ?side4 ?side5 A7.out).mono ?_); (case side1 => exact Z56); (case side2 => exact Z158); (case side3 => exact Z57); (case side4 => exact Z159); (case side5 => exact Z168); rintro e w' ⟨rfl, ⟨nd, rfl⟩⟩; (try first | exact ⟨rfl, _, World.drewN_drewN _ _ _⟩ | exact ⟨rfl, _, Eq.trans (World.drewN_drewN _ _ _) (congrArg (World.drewN _) (Nat.add_assoc _ _ _))⟩))); try go_wp2_with (first | (go_at_call 38; (with_reducible refine (row_Equal.calls k1 _ _ (rd_L3 l0 x5_1) _ _ (rd_L3 l1 x5_1) false _ ?side1 ?side2 ?side3 ?side4 ?side5 A7.out).mono ?_); (case side1 => exact Z56); (case side2 => exact Z158); (case side3 => exact Z57); (case side4 => exact Z159); (case side5 => exact Z168); rintro e w' ⟨rfl, ⟨nd, rfl⟩⟩; (try first | exact ⟨rfl, _, World.drewN_drewN _ _ _⟩ | exact ⟨rfl, _, Eq.trans (World.drewN_drewN _ _ _) (congrArg (World.drewN _) (Nat.add_assoc _ _ _))⟩))))
        go_ret; exact ⟨Z4, Z11⟩
      ·rw [if_neg c6] at H
       exact absurd H (by simp)
     ·rw [if_neg c5] at H
      exact absurd H (by simp)
    ·rw [if_neg c4] at H
     have c4b0 : decide (x5_1 < (l0.length : Int)) = false := decide_eq_false c4; clear c4; obtain rfl := Option.some.inj H; go_wp2
     repeat (go_quiet (fail); try go_wp2)
     go_ret; exact ⟨Z4, Z11⟩
 ·rw [if_neg c3] at H
  have c3b0 : ((l0.length : Int) == (l1.length : Int)) = false := bqf c3; have c3b1 : ((l0.length : Int) != (l1.length : Int)) = true := bnt c3
  have c3b2 : (l0.length == l1.length) = false := by first | simpa using c3 | (simp at c3 ⊢; omega)
  obtain rfl := Option.some.inj H; go_enter Tryz.func21, Tryz.ntmps21; go_wp2
  repeat (go_quiet (fail); try go_wp2)
  go_ret; exact ⟨Z4, Z11⟩

end Go.Proofs.YtkgkihichdcpmaaGreatDoor.H
