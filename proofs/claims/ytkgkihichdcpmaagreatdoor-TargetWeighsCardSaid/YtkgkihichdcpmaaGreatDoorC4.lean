import Derived.Test.YtkgkihichdcpmaaGreatDoorC3
namespace Go.Proofs.YtkgkihichdcpmaaGreatDoor.H
open Go.RowKit Go.Proofs.YtkgkihichdcpmaaGreatDoorW.PrintWords Go.Proofs.YtkgkihichdcpmaaGreatDoorW.PrintLast Go.Proofs.YtkgkihichdcpmaaGreatDoorW.PrintMore
attribute [local go_sem] max2_int min2_int max_two min_two max_three min_three max_four min_four
set_option linter.unusedVariables false
set_option linter.unusedSimpArgs false
mutual
def whDM.j1 : Nat → ByteArray → ByteArray → Option (ByteArray × ByteArray × Int)
 | 0, _, _ => none
 | k + 1, x0, x1 => (whole_split.f x0).bind fun bt229 => ((whole_split.f x1).bind fun bt231 => (none))
def whDM.j0 : Nat → Int → Int → Int → Bool → Option (ByteArray × ByteArray × Int)
 | 0, _, _, _, _ => none
 | k + 1, x9, x11, x12, x47 => if x47 = true then ((whOf.f (wrap64 (x11 - 1))).bind fun t225 => ((whOf.f (wrap64 (x12 + x9))).bind fun t226 => (some (t225, t226, 0)))) else ((whOf.f x11).bind fun t227 => ((whOf.f x12).bind fun t228 => (some (t227, t228, 0))))
end
def whDM.f (k : Nat) (a0 : ByteArray) (a1 : ByteArray) : Option (ByteArray × ByteArray × Int) := if a1.toList = ([48] : List UInt8) then (none) else ((whLi.f a0 18).bind fun bt221 => (if bt221.2 = true then ((whLi.f a1 18).bind fun bt223 => (if bt223.2 = true then (if bt223.1 = 0 then (none) else (if (Int.tmod bt221.1 bt223.1) = 0 then (whDM.j0 k bt223.1 (wrap64 (Int.tdiv bt221.1 bt223.1)) (Int.tmod bt221.1 bt223.1) false) else (whDM.j0 k bt223.1 (wrap64 (Int.tdiv bt221.1 bt223.1)) (Int.tmod bt221.1 bt223.1) ((decide ((Int.tmod bt221.1 bt223.1) < 0)) != (decide (bt223.1 < 0)))))) else (whDM.j1 k a0 a1))) else (whDM.j1 k a0 a1)))
set_option maxHeartbeats 8000000 in
set_option maxRecDepth 100000 in
theorem whDM.calls (k : Nat) (a0 : ByteArray) (a1 : ByteArray) (r1 : ByteArray) (r2 : ByteArray) (r3 : Int) (w : World) (hG : GL w) (h : whDM.f k a0 a1 = some (r1, r2, r3)) :
  Calls Tryz.prog 118 #[.string a0, .string a1] w fun e w' => e = .returned (.tuple #[.string r1, .string r2, .int .i64 r3]) ∧ Below w.heap.size w w' := by
 have HB := AS (Below.refl w.heap.size w); have H : (if a1.toList = ([48] : List UInt8) then (none) else ((whLi.f a0 18).bind fun bt221 => (if bt221.2 = true then ((whLi.f a1 18).bind fun bt223 => (if bt223.2 = true then (if bt223.1 = 0 then (none) else (if (Int.tmod bt221.1 bt223.1) = 0 then (whDM.j0 k bt223.1 (wrap64 (Int.tdiv bt221.1 bt223.1)) (Int.tmod bt221.1 bt223.1) false) else (whDM.j0 k bt223.1 (wrap64 (Int.tdiv bt221.1 bt223.1)) (Int.tmod bt221.1 bt223.1) ((decide ((Int.tmod bt221.1 bt223.1) < 0)) != (decide (bt223.1 < 0)))))) else (whDM.j1 k a0 a1))) else (whDM.j1 k a0 a1)))) = some (r1, r2, r3) := h; clear h
 by_cases c3 : a1.toList = ([48] : List UInt8)
 ·rw [if_pos c3] at H
  exact absurd H (by simp)
 ·rw [if_neg c3] at H
  have c3b0 : (a1.toList == ([48] : List UInt8)) = false := beq_eq_false_iff_ne.mpr c3; have c3b1 : (a1.toList != ([48] : List UInt8)) = true := bne_iff_ne.mpr c3; replace H := Option.bind_eq_some_iff.mp H; obtain ⟨⟨t221, t222⟩, A40, H⟩ := H; replace H : (if t222 = true then ((whLi.f a1 18).bind fun bt223 => (if bt223.2 = true then (if bt223.1 = 0 then (none) else (if (Int.tmod t221 bt223.1) = 0 then (whDM.j0 k bt223.1 (wrap64 (Int.tdiv t221 bt223.1)) (Int.tmod t221 bt223.1) false) else (whDM.j0 k bt223.1 (wrap64 (Int.tdiv t221 bt223.1)) (Int.tmod t221 bt223.1) ((decide ((Int.tmod t221 bt223.1) < 0)) != (decide (bt223.1 < 0)))))) else (whDM.j1 k a0 a1))) else (whDM.j1 k a0 a1)) = some (r1, r2, r3) := H; have A4 := AS A40; clear A40; have HC5 := AS H; clear H; go_enter Tryz.func118, Tryz.ntmps118
  go_upto_if 26 with (first | (go_at_call 123; (with_reducible refine (whLi.calls a0 18 t221 t222 _ ?side1 A4.out).mono ?_); (case side1 => exact Z182); rintro e w6 ⟨rfl, hb⟩; replace HB := AS (bst Z0 hb); (try clear hb); (try clear hb2); (try clear hk); (try clear hi)))
  repeat (go_quiet (first | (go_at_call 123; (with_reducible refine (whLi.calls a0 18 t221 t222 _ ?side1 A4.out).mono ?_); (case side1 => exact Z182); rintro e w6 ⟨rfl, hb⟩; replace HB := AS (bst Z0 hb); (try clear hb); (try clear hb2); (try clear hk); (try clear hi))); go_upto_if 26 with (first | (go_at_call 123; (with_reducible refine (whLi.calls a0 18 t221 t222 _ ?side1 A4.out).mono ?_); (case side1 => exact Z182); rintro e w6 ⟨rfl, hb⟩; replace HB := AS (bst Z0 hb); (try clear hb); (try clear hb2); (try clear hk); (try clear hi))))
  (try simp only [Act.put, List.setIfInBounds_toArray, List.set_cons_zero, List.set_cons_succ])
  go_cut [] (fun wc => ∃ (kq : Nat), Aside0 (whDM.j1 kq a0 a1 = some (r1, r2, r3)) ∧ Aside0 (kq ≤ k) ∧ Aside0 (Below w.heap.size w wc))
  case first =>
   have H := HC5.out; clear HC5
   by_cases c7 : t222 = true
   ·subst c7
    rw [if_pos rfl] at H
    replace H := Option.bind_eq_some_iff.mp H; obtain ⟨⟨t223, t224⟩, A80, H⟩ := H; replace H : (if t224 = true then (if t223 = 0 then (none) else (if (Int.tmod t221 t223) = 0 then (whDM.j0 k t223 (wrap64 (Int.tdiv t221 t223)) (Int.tmod t221 t223) false) else (whDM.j0 k t223 (wrap64 (Int.tdiv t221 t223)) (Int.tmod t221 t223) ((decide ((Int.tmod t221 t223) < 0)) != (decide (t223 < 0)))))) else (whDM.j1 k a0 a1)) = some (r1, r2, r3) := H; have A8 := AS A80; clear A80
    by_cases c9 : t224 = true
    ·subst c9
     rw [if_pos rfl] at H
     by_cases c10 : t223 = 0
     ·rw [if_pos c10] at H
      exact absurd H (by simp)
     ·rw [if_neg c10] at H
      have c10b0 : (t223 == 0) = false := beq_eq_false_iff_ne.mpr c10; have c10b1 : (t223 != 0) = true := bne_iff_ne.mpr c10
      (first | rw [c10b0] | (simp only [i64_w, i32_w]; rw [c10b0]) | skip)
      have HC11 := AS H; clear H
      go_upto_region 8 with (first | (go_at_call 123; (with_reducible refine (whLi.calls a1 18 t223 true _ ?side1 A8.out).mono ?_); (case side1 => exact Z182); rintro e w12 ⟨rfl, hb⟩; replace HB := AS (bst Z0 hb); (try clear hb); (try clear hb2); (try clear hk); (try clear hi)))
      repeat (go_quiet (first | (go_at_call 123; (with_reducible refine (whLi.calls a1 18 t223 true _ ?side1 A8.out).mono ?_); (case side1 => exact Z182); rintro e w12 ⟨rfl, hb⟩; replace HB := AS (bst Z0 hb); (try clear hb); (try clear hb2); (try clear hk); (try clear hi))); go_upto_region 8 with (first | (go_at_call 123; (with_reducible refine (whLi.calls a1 18 t223 true _ ?side1 A8.out).mono ?_); (case side1 => exact Z182); rintro e w12 ⟨rfl, hb⟩; replace HB := AS (bst Z0 hb); (try clear hb); (try clear hb2); (try clear hk); (try clear hi))))
      (try simp only [Act.put, List.setIfInBounds_toArray, List.set_cons_zero, List.set_cons_succ])
      go_cut [47] (fun v47 wc => ∃ (kq : Nat) (x47_10 : Bool), v47 = .bool x47_10 ∧ Aside0 (whDM.j0 kq t223 (wrap64 (Int.tdiv t221 t223)) (Int.tmod t221 t223) x47_10 = some (r1, r2, r3)) ∧ Aside0 (kq ≤ k) ∧ Aside0 (Below w.heap.size w wc))
      case first =>
       have H := HC11.out; clear HC11
       by_cases c13 : (Int.tmod t221 t223) = 0
       ·rw [if_pos c13] at H
        have c13b0 : ((Int.tmod t221 t223) == 0) = true := beq_iff_eq.mpr c13; have c13b1 : ((Int.tmod t221 t223) != 0) = false := bne_eq_false_iff_eq.mpr c13; clear c13
        (first | rw [c13b0] | (simp only [i64_w, i32_w]; rw [c13b0]) | skip)
        have H' := AS H; clear H; go_wp2
        repeat (go_quiet (fail); try go_wp2)
        go_meet
        case rel => exact ⟨_, (false), Z4, H', ⟨Z61⟩, ⟨Z0⟩⟩
       ·rw [if_neg c13] at H
        have c13b0 : ((Int.tmod t221 t223) == 0) = false := beq_eq_false_iff_ne.mpr c13; have c13b1 : ((Int.tmod t221 t223) != 0) = true := bne_iff_ne.mpr c13
        (first | rw [c13b0] | (simp only [i64_w, i32_w]; rw [c13b0]) | skip)
        have H' := AS H; clear H; go_wp2
        repeat (go_quiet (fail); try go_wp2)
        go_meet
        case rel => exact ⟨_, (((decide ((Int.tmod t221 t223) < 0)) != (decide (t223 < 0)))), Z4, H', ⟨Z61⟩, ⟨Z0⟩⟩
      case rest =>
       clear HC11; (try clear c1); (try clear p2); (try clear c3); (try clear c3b0); (try clear c3b1); (try clear p6); (try clear c7); (try clear c9); (try clear c10); (try clear c10b0); (try clear c10b1); (try clear c11); (try clear c13); (try clear c13b0); (try clear c13b1); obtain ⟨kq, x47_10, rfl, HA, HJ10, HB⟩ := hcut
       cases kq with
       | zero => exact absurd HA.out (by simp [whDM.j0])
       | succ kj10 =>
        have H := HA.out; clear HA
        simp only [whDM.j0] at H
        by_cases c14 : x47_10 = true
        ·subst c14
         rw [if_pos rfl] at H
         replace H := Option.bind_eq_some_iff.mp H; obtain ⟨t225, A150, H⟩ := H; replace H : ((whOf.f (wrap64 ((Int.tmod t221 t223) + t223))).bind fun t226 => (some (t225, t226, 0))) = some (r1, r2, r3) := H; have A15 := AS A150; clear A150; replace H := Option.bind_eq_some_iff.mp H; obtain ⟨t226, A160, H⟩ := H; replace H : (some (t225, t226, 0)) = some (r1, r2, r3) := H; have A16 := AS A160; clear A160
         simp only [Option.some.injEq, Prod.mk.injEq] at H
         obtain ⟨rfl, rfl, rfl⟩ := H; go_wp2_with (first | (go_at_call 59; (with_reducible refine (whOf.calls (wrap64 ((wrap64 (Int.tdiv t221 t223)) - 1)) t225 _ ?side1 A15.out).mono ?_); (case side1 => exact Z182); rintro e w17 ⟨rfl, hb⟩; replace HB := AS (bst Z0 hb); (try clear hb); (try clear hb2); (try clear hk); (try clear hi)) | (go_at_call 59; (with_reducible refine (whOf.calls (wrap64 ((Int.tmod t221 t223) + t223)) t226 _ ?side1 A16.out).mono ?_); (case side1 => exact Z182); rintro e w18 ⟨rfl, hb⟩; replace HB := AS (bst Z0 hb); (try clear hb); (try clear hb2); (try clear hk); (try clear hi)))
         repeat (go_quiet (first | (go_at_call 59; (with_reducible refine (whOf.calls (wrap64 ((wrap64 (Int.tdiv t221 t223)) - 1)) t225 _ ?side1 A15.out).mono ?_); (case side1 => exact Z182); rintro e w17 ⟨rfl, hb⟩; replace HB := AS (bst Z0 hb); (try clear hb); (try clear hb2); (try clear hk); (try clear hi)) | (go_at_call 59; (with_reducible refine (whOf.calls (wrap64 ((Int.tmod t221 t223) + t223)) t226 _ ?side1 A16.out).mono ?_); (case side1 => exact Z182); rintro e w18 ⟨rfl, hb⟩; replace HB := AS (bst Z0 hb); (try clear hb); (try clear hb2); (try clear hk); (try clear hi))); try go_wp2_with (first | (go_at_call 59; (with_reducible refine (whOf.calls (wrap64 ((wrap64 (Int.tdiv t221 t223)) - 1)) t225 _ ?side1 A15.out).mono ?_); (case side1 => exact Z182); rintro e w17 ⟨rfl, hb⟩; replace HB := AS (bst Z0 hb); (try clear hb); (try clear hb2); (try clear hk); (try clear hi)) | (go_at_call 59; (with_reducible refine (whOf.calls (wrap64 ((Int.tmod t221 t223) + t223)) t226 _ ?side1 A16.out).mono ?_); (case side1 => exact Z182); rintro e w18 ⟨rfl, hb⟩; replace HB := AS (bst Z0 hb); (try clear hb); (try clear hb2); (try clear hk); (try clear hi))))
         go_ret3
         exact ⟨Z3, Z0⟩
        ·replace c14 := Bool.eq_false_iff.mpr c14; subst c14
         rw [if_neg (show ¬ (false = true) by decide)] at H
         replace H := Option.bind_eq_some_iff.mp H; obtain ⟨t227, A190, H⟩ := H; replace H : ((whOf.f (Int.tmod t221 t223)).bind fun t228 => (some (t227, t228, 0))) = some (r1, r2, r3) := H; have A19 := AS A190; clear A190; replace H := Option.bind_eq_some_iff.mp H; obtain ⟨t228, A200, H⟩ := H; replace H : (some (t227, t228, 0)) = some (r1, r2, r3) := H; have A20 := AS A200; clear A200
         simp only [Option.some.injEq, Prod.mk.injEq] at H
         obtain ⟨rfl, rfl, rfl⟩ := H; go_wp2_with (first | (go_at_call 59; (with_reducible refine (whOf.calls (wrap64 (Int.tdiv t221 t223)) t227 _ ?side1 A19.out).mono ?_); (case side1 => exact Z182); rintro e w21 ⟨rfl, hb⟩; replace HB := AS (bst Z0 hb); (try clear hb); (try clear hb2); (try clear hk); (try clear hi)) | (go_at_call 59; (with_reducible refine (whOf.calls (Int.tmod t221 t223) t228 _ ?side1 A20.out).mono ?_); (case side1 => exact Z182); rintro e w22 ⟨rfl, hb⟩; replace HB := AS (bst Z0 hb); (try clear hb); (try clear hb2); (try clear hk); (try clear hi)))
         repeat (go_quiet (first | (go_at_call 59; (with_reducible refine (whOf.calls (wrap64 (Int.tdiv t221 t223)) t227 _ ?side1 A19.out).mono ?_); (case side1 => exact Z182); rintro e w21 ⟨rfl, hb⟩; replace HB := AS (bst Z0 hb); (try clear hb); (try clear hb2); (try clear hk); (try clear hi)) | (go_at_call 59; (with_reducible refine (whOf.calls (Int.tmod t221 t223) t228 _ ?side1 A20.out).mono ?_); (case side1 => exact Z182); rintro e w22 ⟨rfl, hb⟩; replace HB := AS (bst Z0 hb); (try clear hb); (try clear hb2); (try clear hk); (try clear hi))); try go_wp2_with (first | (go_at_call 59; (with_reducible refine (whOf.calls (wrap64 (Int.tdiv t221 t223)) t227 _ ?side1 A19.out).mono ?_); (case side1 => exact Z182); rintro e w21 ⟨rfl, hb⟩; replace HB := AS (bst Z0 hb); (try clear hb); (try clear hb2); (try clear hk); (try clear hi)) | (go_at_call 59; (with_reducible refine (whOf.calls (Int.tmod t221 t223) t228 _ ?side1 A20.out).mono ?_); (case side1 => exact Z182); rintro e w22 ⟨rfl, hb⟩; replace HB := AS (bst Z0 hb); (try clear hb); (try clear hb2); (try clear hk); (try clear hi))))
         go_ret3
         exact ⟨Z3, Z0⟩
    ·replace c9 := Bool.eq_false_iff.mpr c9; subst c9
     rw [if_neg (show ¬ (false = true) by decide)] at H
     have H' := AS H; clear H; go_wp2_with (first | (go_at_call 123; (with_reducible refine (whLi.calls a1 18 t223 false _ ?side1 A8.out).mono ?_); (case side1 => exact Z182); rintro e w23 ⟨rfl, hb⟩; replace HB := AS (bst Z0 hb); (try clear hb); (try clear hb2); (try clear hk); (try clear hi)))
     repeat (go_quiet (first | (go_at_call 123; (with_reducible refine (whLi.calls a1 18 t223 false _ ?side1 A8.out).mono ?_); (case side1 => exact Z182); rintro e w23 ⟨rfl, hb⟩; replace HB := AS (bst Z0 hb); (try clear hb); (try clear hb2); (try clear hk); (try clear hi))); try go_wp2_with (first | (go_at_call 123; (with_reducible refine (whLi.calls a1 18 t223 false _ ?side1 A8.out).mono ?_); (case side1 => exact Z182); rintro e w23 ⟨rfl, hb⟩; replace HB := AS (bst Z0 hb); (try clear hb); (try clear hb2); (try clear hk); (try clear hi))))
     go_meet
     case rel => exact ⟨_, H', ⟨Z61⟩, ⟨Z0⟩⟩
   ·replace c7 := Bool.eq_false_iff.mpr c7; subst c7
    rw [if_neg (show ¬ (false = true) by decide)] at H
    have H' := AS H; clear H; go_wp2
    repeat (go_quiet (fail); try go_wp2)
    go_meet
    case rel => exact ⟨_, H', ⟨Z61⟩, ⟨Z0⟩⟩
  case rest =>
   clear HC5; (try clear c1); (try clear p2); (try clear c3); (try clear c3b0); (try clear c3b1); (try clear p6); (try clear c7); (try clear c9); (try clear c10); (try clear c10b0); (try clear c10b1); (try clear c11); (try clear c13); (try clear c13b0); (try clear c13b1); (try clear c14); (try clear p2); (try clear p6); obtain ⟨kq, HA, HJ4, HB⟩ := hcut
   cases kq with
   | zero => exact absurd HA.out (by simp [whDM.j1])
   | succ kj4 =>
    have H := HA.out; clear HA
    simp only [whDM.j1] at H
    replace H := Option.bind_eq_some_iff.mp H; obtain ⟨⟨t229, t230⟩, A240, H⟩ := H; replace H : ((whole_split.f a1).bind fun bt231 => (none)) = some (r1, r2, r3) := H; have A24 := AS A240; clear A240; replace H := Option.bind_eq_some_iff.mp H; obtain ⟨⟨t231, t232⟩, A250, H⟩ := H; replace H : (none) = some (r1, r2, r3) := H; have A25 := AS A250; clear A250; exact absurd H (by simp)
def whole_Mul.j0 : Nat → ByteArray → ByteArray → Option (ByteArray)
 | 0, _, _ => none
 | k + 1, x0, x1 => (whole_split.f x0).bind fun bt238 => ((whole_split.f x1).bind fun bt240 => (none))
def whole_Mul.f (k : Nat) (a0 : ByteArray) (a1 : ByteArray) : Option (ByteArray) := (whLi.f a0 9).bind fun bt233 => (if bt233.2 = true then ((whLi.f a1 9).bind fun bt235 => (if bt235.2 = true then ((whOf.f (wrap64 (bt233.1 * bt235.1))).bind fun t237 => (some t237)) else (whole_Mul.j0 k a0 a1))) else (whole_Mul.j0 k a0 a1))
set_option maxHeartbeats 8000000 in
set_option maxRecDepth 100000 in
theorem whole_Mul.calls (k : Nat) (a0 : ByteArray) (a1 : ByteArray) (r : ByteArray) (w : World) (hG : GL w) (h : whole_Mul.f k a0 a1 = some r) :
  Calls Tryz.prog 154 #[.string a0, .string a1] w fun e w' => e = .returned (.string r) ∧ Below w.heap.size w w' := by
 have HB := AS (Below.refl w.heap.size w); have H : ((whLi.f a0 9).bind fun bt233 => (if bt233.2 = true then ((whLi.f a1 9).bind fun bt235 => (if bt235.2 = true then ((whOf.f (wrap64 (bt233.1 * bt235.1))).bind fun t237 => (some t237)) else (whole_Mul.j0 k a0 a1))) else (whole_Mul.j0 k a0 a1))) = some r := h; clear h; replace H := Option.bind_eq_some_iff.mp H; obtain ⟨⟨t233, t234⟩, A30, H⟩ := H; replace H : (if t234 = true then ((whLi.f a1 9).bind fun bt235 => (if bt235.2 = true then ((whOf.f (wrap64 (t233 * bt235.1))).bind fun t237 => (some t237)) else (whole_Mul.j0 k a0 a1))) else (whole_Mul.j0 k a0 a1)) = some r := H; have A3 := AS A30; clear A30; have HC4 := AS H; clear H; go_enter Tryz.func154, Tryz.ntmps154
 go_upto_if 18 with (first | ((with_reducible refine gtc (f := 123) rfl ?_); refine gsL (some 15) rfl rfl Tryz.func123 Z5 rfl #[.string a0, .int .i64 9] rfl Z1 ?_; (with_reducible refine (whLi.calls a0 9 t233 t234 _ ?side1 A3.out).mono ?_); (case side1 => exact Z182); rintro e w5 ⟨rfl, hb⟩; refine ⟨_, rfl, ?_⟩; replace HB := AS (bst Z0 hb); (try clear hb); (try clear hb2); (try clear hk); (try clear hi)))
 (try simp only [Act.put, List.setIfInBounds_toArray, List.set_cons_zero, List.set_cons_succ])
 go_cut [] (fun wc => ∃ (kq : Nat), Aside0 (whole_Mul.j0 kq a0 a1 = some r) ∧ Aside0 (kq ≤ k) ∧ Aside0 (Below w.heap.size w wc))
 case first =>
  have H := HC4.out; clear HC4
  by_cases c6 : t234 = true
  ·subst c6
   rw [if_pos rfl] at H
   replace H := Option.bind_eq_some_iff.mp H; obtain ⟨⟨t235, t236⟩, A70, H⟩ := H; replace H : (if t236 = true then ((whOf.f (wrap64 (t233 * t235))).bind fun t237 => (some t237)) else (whole_Mul.j0 k a0 a1)) = some r := H; have A7 := AS A70; clear A70
   by_cases c8 : t236 = true
   ·subst c8
    rw [if_pos rfl] at H
    replace H := Option.bind_eq_some_iff.mp H; obtain ⟨t237, A90, H⟩ := H; replace H : (some t237) = some r := H; have A9 := AS A90; clear A90; obtain rfl := Option.some.inj H; go_wp2_with (first | ((with_reducible refine gtc (f := 123) rfl ?_); refine gsL (some 21) rfl rfl Tryz.func123 Z5 rfl #[.string a1, .int .i64 9] rfl Z1 ?_; (with_reducible refine (whLi.calls a1 9 t235 true _ ?side1 A7.out).mono ?_); (case side1 => exact Z182); rintro e w10 ⟨rfl, hb⟩; refine ⟨_, rfl, ?_⟩; replace HB := AS (bst Z0 hb); (try clear hb); (try clear hb2); (try clear hk); (try clear hi)) | ((with_reducible refine gtc (f := 59) rfl ?_); refine gsL (some 28) rfl rfl Tryz.func59 Z5 rfl #[.int .i64 (wrap64 (t233 * t235))] rfl Z1 ?_; (with_reducible refine (whOf.calls (wrap64 (t233 * t235)) t237 _ ?side1 A9.out).mono ?_); (case side1 => exact Z182); rintro e w11 ⟨rfl, hb⟩; refine ⟨_, rfl, ?_⟩; replace HB := AS (bst Z0 hb); (try clear hb); (try clear hb2); (try clear hk); (try clear hi))); go_ret; exact ⟨Z3, Z0⟩
   ·replace c8 := Bool.eq_false_iff.mpr c8; subst c8
    rw [if_neg (show ¬ (false = true) by decide)] at H
    have H' := AS H; clear H; go_wp2_with (first | ((with_reducible refine gtc (f := 123) rfl ?_); refine gsL (some 21) rfl rfl Tryz.func123 Z5 rfl #[.string a1, .int .i64 9] rfl Z1 ?_; (with_reducible refine (whLi.calls a1 9 t235 false _ ?side1 A7.out).mono ?_); (case side1 => exact Z182); rintro e w12 ⟨rfl, hb⟩; refine ⟨_, rfl, ?_⟩; replace HB := AS (bst Z0 hb); (try clear hb); (try clear hb2); (try clear hk); (try clear hi))); go_meet
    case rel => exact ⟨_, H', ⟨Z61⟩, ⟨Z0⟩⟩
  ·replace c6 := Bool.eq_false_iff.mpr c6; subst c6
   rw [if_neg (show ¬ (false = true) by decide)] at H
   have H' := AS H; clear H; go_wp2; go_meet
   case rel => exact ⟨_, H', ⟨Z61⟩, ⟨Z0⟩⟩
 case rest =>
  clear HC4; (try clear c1); (try clear p2); (try clear c5); (try clear c6); (try clear p6); (try clear c8); (try clear c12); obtain ⟨kq, HA, HJ3, HB⟩ := hcut
  cases kq with
  | zero => exact absurd HA.out (by simp [whole_Mul.j0])
  | succ kj3 =>
   have H := HA.out; clear HA
   simp only [whole_Mul.j0] at H
   replace H := Option.bind_eq_some_iff.mp H; obtain ⟨⟨t238, t239⟩, A130, H⟩ := H; replace H : ((whole_split.f a1).bind fun bt240 => (none)) = some r := H; have A13 := AS A130; clear A130; replace H := Option.bind_eq_some_iff.mp H; obtain ⟨⟨t240, t241⟩, A140, H⟩ := H; replace H : (none) = some r := H; have A14 := AS A140; clear A140; exact absurd H (by simp)
mutual
def dptm.l0 : Nat → List Int → List Int → List Int → Int → Int → Option (List Int)
 | 0, _, _, _, _, _ => none
 | k + 1, x1, x5, x17, x18, x19 => if x19 < x18 then (if 0 ≤ x19 then (if x19 < (x17.length : Int) then (dptm.l1 k x1 x5 x19 (rd x17 x19) 0 x17 x18 x19 x1 (x1.length : Int) 0) else (none)) else (none)) else ((dptr.f k x5).bind fun t245 => (some t245))
def dptm.l1 : Nat → List Int → List Int → Int → Int → Int → List Int → Int → Int → List Int → Int → Int → Option (List Int)
 | 0, _, _, _, _, _, _, _, _, _, _, _ => none
 | k + 1, x1, x5, x6, x7, x8, x17, x18, x19, x24, x25, x26 => if x26 < x25 then (if 0 ≤ x26 then (if x26 < (x24.length : Int) then (if 0 ≤ (wrap64 (x6 + x26)) then (if (wrap64 (x6 + x26)) < (x5.length : Int) then (dptm.l1 k x1 (x5.set ((wrap64 (x6 + x26)) : Int).toNat (Int.tmod (IntKind.u64.wrap (x8 + (IntKind.u64.wrap ((rd x5 (wrap64 (x6 + x26))) + (IntKind.u64.wrap (x7 * (rd x24 x26))))))) 1000000000)) x6 x7 (IntKind.u64.wrap (Int.tdiv (IntKind.u64.wrap (x8 + (IntKind.u64.wrap ((rd x5 (wrap64 (x6 + x26))) + (IntKind.u64.wrap (x7 * (rd x24 x26))))))) 1000000000)) x17 x18 x19 x24 x25 (wrap64 (x26 + 1))) else (none)) else (none)) else (none)) else (none)) else (if 0 ≤ (wrap64 (x6 + (x1.length : Int))) then (if (wrap64 (x6 + (x1.length : Int))) < (x5.length : Int) then (dptm.l0 k x1 (x5.set ((wrap64 (x6 + (x1.length : Int))) : Int).toNat x8) x17 x18 (wrap64 (x19 + 1))) else (none)) else (none))
end
def dptm.f (k : Nat) (l0 : List Int) (l1 : List Int) : Option (List Int) := if 0 ≤ (wrap64 ((l0.length : Int) + (l1.length : Int))) then (if (wrap64 ((l0.length : Int) + (l1.length : Int)) : Int).toNat ≤ 35184372088832 then (dptm.l0 k l1 (List.replicate (wrap64 ((l0.length : Int) + (l1.length : Int)) : Int).toNat 0) l0 (l0.length : Int) 0) else (none)) else (none)
set_option maxHeartbeats 8000000 in
set_option maxRecDepth 100000 in
theorem dptm.calls (k : Nat) (A0 : Option Addr) (c0 : Nat) (l0 : List Int) (A1 : Option Addr) (c1 : Nat) (l1 : List Int) (r : List Int) (w : World) (hr0 : Kd.C (Kd.int .u64) w A0 l0.length l0) (hc0 : l0.length ≤ c0) (hr1 : Kd.C (Kd.int .u64) w A1 l1.length l1) (hc1 : l1.length ≤ c1) (hG : GL w) (h : dptm.f k l0 l1 = some r) :
  Calls Tryz.prog 82 #[.slice A0 l0.length c0, .slice A1 l1.length c1] w fun e w' => ∃ v0_ : Value, e = .returned (v0_) ∧ Kd.V (Kd.int .u64) 109 w' w.heap.size (fun k_ => (w.heap.size ≤ k_)) v0_ r ∧ Below w.heap.size w w' := by
 have HR0 := AS hr0; have HC0 := AS hc0; clear hr0 hc0; have HR1 := AS hr1; have HC1 := AS hc1; clear hr1 hc1; have HB := AS (Below.refl w.heap.size w); have H : (if 0 ≤ (wrap64 ((l0.length : Int) + (l1.length : Int))) then (if (wrap64 ((l0.length : Int) + (l1.length : Int)) : Int).toNat ≤ 35184372088832 then (dptm.l0 k l1 (List.replicate (wrap64 ((l0.length : Int) + (l1.length : Int)) : Int).toNat 0) l0 (l0.length : Int) 0) else (none)) else (none)) = some r := h; clear h
 obtain ⟨ji3, hji3⟩ : ∃ j_ : Int, (wrap64 ((l0.length : Int) + (l1.length : Int))) = j_ := ⟨_, rfl⟩
 replace H : (if 0 ≤ (ji3) then (if (ji3 : Int).toNat ≤ 35184372088832 then (dptm.l0 k l1 (List.replicate (ji3 : Int).toNat 0) l0 (l0.length : Int) 0) else (none)) else (none)) = some r := by first | (rw [hji3] at H; exact H) | (simp only [hji3] at H ⊢; exact H)
 have hji3w : (IntKind.i64.wrap ((l0.length : Int) + (l1.length : Int))) = ji3 := (i64_w _).trans hji3
 by_cases c4 : 0 ≤ (ji3)
 ·rw [if_pos c4] at H
  have c4b0 := eq_true c4; have c4b1 : decide (0 ≤ (ji3)) = true := decide_eq_true c4; clear c4
  by_cases c5 : (ji3 : Int).toNat ≤ 35184372088832
  ·rw [if_pos c5] at H
   have c5b0 := eq_true c5; have c5b1 : decide ((ji3 : Int).toNat ≤ 35184372088832) = true := decide_eq_true c5; clear c5
   obtain ⟨y242, hy242⟩ : ∃ y_ : List Int, y_ = (List.replicate (ji3 : Int).toNat 0) := ⟨_, rfl⟩
   replace H : (dptm.l0 k l1 y242 l0 (l0.length : Int) 0) = some r := by first | (rw [hy242]; with_reducible exact H) | (have H2_ := (Option.bind_some _ _).symm.trans H; rw [hy242]; with_reducible exact H2_) | (have H2_ := (Option.bind_some _ _).symm.trans H; with_reducible exact H2_) | with_reducible exact H | (rw [hy242]; exact H) | exact H
   have Ny242 := AS hy242; clear hy242; have H' := AS H; clear H; go_enter Tryz.func82, Tryz.ntmps82; go_wp2_with (first | ((with_reducible refine gtd (N := 16) rfl ?_); refine Kd.R_make (Kd.int .u64) _ 109 rfl (N := 16) rfl 113 _ _ rfl ji3 rfl rfl Tryz.underlying113 (.int .u64 0) 8 info109 rfl (by decide) (by omega) 0 (ok := fun _ => True) (okp := fun _ => True) rfl (fun _ hk => hk) trivial (of_decide_eq_true Z2) (Nat.le_trans (Nat.mul_le_mul_right _ (of_decide_eq_true Z2 : ji3.toNat ≤ 35184372088832)) (by omega)) (Below.refl _ _) (Nat.le_refl _) ?_; intro v243 w6 ho7 hb hg_ hnew_; clear hg_ hnew_; (first | rw [← Ny242.out] at ho7 | (simp only [Int.reduceToNat] at ho7; rw [← Ny242.out] at ho7)); have HO244 := AS (Kd.R_lower (Kd.R_newM (M := fun k_ => (w.heap.size ≤ k_)) ho7 (bsz Z0) (fun k_ h_ => h_)) (bsz Z0)); replace HB := AS (bst Z0 hb); clear hb ho7))
   go_loopg [19] k (fun kq v19 w' => ∃ (x5_1 : List Int) (x19_1 : Int), v19 = .int .i64 x19_1 ∧ Aside0 (dptm.l0 kq l1 x5_1 l0 (l0.length : Int) x19_1 = some r) ∧ Aside0 (kq ≤ k) ∧ Aside0 (Kd.R (Kd.int .u64) 109 w' w.heap.size (fun k_ => (w.heap.size ≤ k_)) v243 x5_1) ∧ Aside0 (Below w.heap.size w w'))
   case atStart => exact ⟨(y242), (0), Z4, H', ⟨Nat.le_refl _⟩, ⟨by (with_reducible repeat (first | apply Kd.R_alloc | apply Kd.R_drewN | apply Kd.R_drew)); exact Kd.R_mono HO244.out (fun _ hk => hk.1)⟩, ⟨Z0⟩⟩
   case round =>
    clear H'; (try clear c1); (try clear p2); (try clear c4); (try clear c4b0); (try clear c4b1); (try clear c5); (try clear c5b0); (try clear c5b1); (try clear p6); obtain ⟨x5_1, x19_1, rfl, HA, HK1, HO_5, HB⟩ := hrel
    cases gk with
    | zero => exact absurd HA.out (by simp [dptm.l0])
    | succ k1 =>
     have H := HA.out; clear HA
     simp only [dptm.l0] at H
     by_cases c8 : x19_1 < (l0.length : Int)
     ·rw [if_pos c8] at H
      have c8b0 : decide (x19_1 < (l0.length : Int)) = true := decide_eq_true c8; clear c8
      by_cases c9 : 0 ≤ x19_1
      ·rw [if_pos c9] at H
       have c9b0 : decide (0 ≤ x19_1) = true := decide_eq_true c9; clear c9
       by_cases c10 : x19_1 < (l0.length : Int)
       ·rw [if_pos c10] at H
        have c10b0 : decide (x19_1 < (l0.length : Int)) = true := decide_eq_true c10; clear c10; have H' := AS H; clear H; have p248 : 0 ≤ (x19_1 : Int) := of_decide_eq_true Z2; have q248 : x19_1 < (l0.length : Int) := of_decide_eq_true Z2; obtain ⟨ad248, e248, hx248_0⟩ := Kd.at_int HR0.out x19_1 p248 q248; cases e248; replace hx248_0 := (HB.out.cell (World.block_lt_of_cell? w _ hx248_0)).trans hx248_0; replace p248 := eq_true p248; replace q248 := eq_true q248; go_wp2
        go_loopg [8, 26] k1 (fun kq v8 v26 w' => ∃ (x5_2 : List Int) (x8_2 : Int) (x26_2 : Int), v8 = .int .u64 x8_2 ∧ v26 = .int .i64 x26_2 ∧ Aside0 (dptm.l1 kq l1 x5_2 x19_1 (rd l0 x19_1) x8_2 l0 (l0.length : Int) x19_1 l1 (l1.length : Int) x26_2 = some r) ∧ Aside0 (kq ≤ k1) ∧ Aside0 (Kd.R (Kd.int .u64) 109 w' w.heap.size (fun k_ => (w.heap.size ≤ k_)) v243 x5_2) ∧ Aside0 (Below w.heap.size w w'))
        case atStart => exact ⟨(x5_1), (0), (0), Z4, Z4, H', ⟨Nat.le_refl _⟩, ⟨Z121⟩, ⟨Z0⟩⟩
        case round =>
         clear H'; (try clear c1); (try clear p2); (try clear q2); (try clear hx2); (try clear c4); (try clear c4b0); (try clear c4b1); (try clear c5); (try clear c5b0); (try clear c5b1); (try clear p6); (try clear c8); (try clear c8b0); (try clear c9); (try clear c9b0); (try clear c10); (try clear c10b0); (try clear hx248_0); (try clear p2); (try clear p248); (try clear p6); (try clear q248); obtain ⟨x5_2, x8_2, x26_2, rfl, rfl, HA, HK2, HO_5, HB⟩ := hrel
         cases gk with
         | zero => exact absurd HA.out (by simp [dptm.l1])
         | succ k2 =>
          have H := HA.out; clear HA
          simp only [dptm.l1] at H
          by_cases c11 : x26_2 < (l1.length : Int)
          ·rw [if_pos c11] at H
           have c11b0 : decide (x26_2 < (l1.length : Int)) = true := decide_eq_true c11; clear c11
           by_cases c12 : 0 ≤ x26_2
           ·rw [if_pos c12] at H
            have c12b0 : decide (0 ≤ x26_2) = true := decide_eq_true c12; clear c12
            by_cases c13 : x26_2 < (l1.length : Int)
            ·rw [if_pos c13] at H
             have c13b0 : decide (x26_2 < (l1.length : Int)) = true := decide_eq_true c13; clear c13
             obtain ⟨ji14, hji14⟩ : ∃ j_ : Int, (wrap64 (x19_1 + x26_2)) = j_ := ⟨_, rfl⟩
             replace H : (if 0 ≤ (ji14) then (if (ji14) < (x5_2.length : Int) then (dptm.l1 k2 l1 (x5_2.set ((ji14) : Int).toNat (Int.tmod (IntKind.u64.wrap (x8_2 + (IntKind.u64.wrap ((rd x5_2 (ji14)) + (IntKind.u64.wrap ((rd l0 x19_1) * (rd l1 x26_2))))))) 1000000000)) x19_1 (rd l0 x19_1) (IntKind.u64.wrap (Int.tdiv (IntKind.u64.wrap (x8_2 + (IntKind.u64.wrap ((rd x5_2 (ji14)) + (IntKind.u64.wrap ((rd l0 x19_1) * (rd l1 x26_2))))))) 1000000000)) l0 (l0.length : Int) x19_1 l1 (l1.length : Int) (wrap64 (x26_2 + 1))) else (none)) else (none)) = some r := by first | (rw [hji14] at H; exact H) | (simp only [hji14] at H ⊢; exact H)
             have hji14w : (IntKind.i64.wrap (x19_1 + x26_2)) = ji14 := (i64_w _).trans hji14
             by_cases c15 : 0 ≤ (ji14)
             ·rw [if_pos c15] at H
              have c15b0 : decide (0 ≤ (ji14)) = true := decide_eq_true c15; clear c15
              by_cases c16 : (ji14) < (x5_2.length : Int)
              ·rw [if_pos c16] at H
               have c16b0 : decide ((ji14) < (x5_2.length : Int)) = true := decide_eq_true c16; clear c16
               obtain ⟨y251, hy251⟩ : ∃ y_ : List Int, y_ = (x5_2.set ((ji14) : Int).toNat (Int.tmod (IntKind.u64.wrap (x8_2 + (IntKind.u64.wrap ((rd x5_2 (ji14)) + (IntKind.u64.wrap ((rd l0 x19_1) * (rd l1 x26_2))))))) 1000000000)) := ⟨_, rfl⟩
               replace H : (dptm.l1 k2 l1 y251 x19_1 (rd l0 x19_1) (IntKind.u64.wrap (Int.tdiv (IntKind.u64.wrap (x8_2 + (IntKind.u64.wrap ((rd x5_2 (ji14)) + (IntKind.u64.wrap ((rd l0 x19_1) * (rd l1 x26_2))))))) 1000000000)) l0 (l0.length : Int) x19_1 l1 (l1.length : Int) (wrap64 (x26_2 + 1))) = some r := by first | (rw [hy251]; with_reducible exact H) | (have H2_ := (Option.bind_some _ _).symm.trans H; rw [hy251]; with_reducible exact H2_) | (have H2_ := (Option.bind_some _ _).symm.trans H; with_reducible exact H2_) | with_reducible exact H | (rw [hy251]; exact H) | exact H
               have Ny251 := AS hy251; clear hy251; have H' := AS H; clear H; have p249 : 0 ≤ (x26_2 : Int) := of_decide_eq_true Z2; have q249 : x26_2 < (l1.length : Int) := of_decide_eq_true Z2; obtain ⟨ad249, e249, hx249_0⟩ := Kd.at_int HR1.out x26_2 p249 q249; cases e249; replace hx249_0 := (HB.out.cell (World.block_lt_of_cell? w _ hx249_0)).trans hx249_0; replace p249 := eq_true p249; replace q249 := eq_true q249; obtain ⟨Ao18, co18, eo18⟩ := Kd.R_slice HO_5.out; subst eo18; have p250 : 0 ≤ ((ji14) : Int) := of_decide_eq_true Z2; have q250 : (ji14) < (x5_2.length : Int) := of_decide_eq_true Z2; obtain ⟨ad250, e250, hx250_0⟩ := Kd.at_int (Kd.R_reads' HO_5.out).2.2 (ji14) p250 q250; cases e250; replace p250 := eq_true p250; replace q250 := eq_true q250; have p17 : 0 ≤ ((ji14) : Int) := of_decide_eq_true Z2; have q17 : ((ji14) : Int) < ((x5_2.length : Int) : Int) := of_decide_eq_true Z2; obtain ⟨go17, co17, eo17, gb17, gl17, cl17, HG17⟩ := Kd.R_form HO_5.out (by omega)
               (first | cases eo17 | (injection eo17 with ea_ en_ ec_; (first | subst ea_ | (injection ea_ with ea_; subst ea_)); subst ec_; clear en_))
               have GB17 := AS gb17; have GG17 := AS HG17; clear gb17 gl17 HG17
               (first | simp only [add_plain] at hx250_0 | skip)
               obtain ⟨hx17_0, hf17_0⟩ := Kd.R_celln 0 HO_5.out ((ji14) : Int) p17 q17; replace p17 := eq_true p17; replace q17 := eq_true q17; have HP19 := Kd.R_putg HO_5.out ((ji14) : Int) (Int.tmod (IntKind.u64.wrap (x8_2 + (IntKind.u64.wrap ((rd x5_2 (ji14)) + (IntKind.u64.wrap ((rd l0 x19_1) * (rd l1 x26_2))))))) 1000000000); go_wp2_with (first | ((with_reducible refine gate_store (t := 109) (p := 49) rfl ?_); refine store_event (t := 109) (p := 49) (v := ?vo_w20) (w1 := (wr.setCell ⟨go17, ((ji14) : Int).toNat, none⟩ (.int .u64 (Int.tmod (IntKind.u64.wrap (x8_2 + (IntKind.u64.wrap ((rd x5_2 (ji14)) + (IntKind.u64.wrap ((rd l0 x19_1) * (rd l1 x26_2))))))) 1000000000)))) ?hg ?ho ?hn ?hr ?_; (case ho => rfl); (case hg => rfl); (case hn => rfl); (case hr => exact Z11); intro w20 hw; have hg : wr.grownBy w20 (some go17) := (by rw [hw]; exact HP19.2); have hp_ : Kd.R (Kd.int .u64) 109 w20 w.heap.size (fun k_ => (w.heap.size ≤ k_)) (.slice (some ⟨go17, 0, none⟩) x5_2.length co18) y251 := (by rw [hw, Ny251.out]; exact HP19.1); clear HP19; replace HO_5 := AS (hp_); replace HB := AS ((by rw [hw]; exact bls (HB.out) GB17.out : Below w.heap.size w w20)); clear hg hw hp_))
               go_roundg k2
               case measure => have := HK1.out; have := HK2.out; omega
               case rel => exact ⟨(y251), (IntKind.u64.wrap (Int.tdiv (IntKind.u64.wrap (x8_2 + (IntKind.u64.wrap ((rd x5_2 (ji14)) + (IntKind.u64.wrap ((rd l0 x19_1) * (rd l1 x26_2))))))) 1000000000)), (wrap64 (x26_2 + 1)), (by first | rfl | (simp; done) | (simp only [← hji14] <;> (first | rfl | simp)) | (simp [*]; done)), Z4, H', ⟨Z143⟩, ⟨Z121⟩, ⟨Z0⟩⟩
              ·rw [if_neg c16] at H
               exact absurd H (by simp)
             ·rw [if_neg c15] at H
              exact absurd H (by simp)
            ·rw [if_neg c13] at H
             exact absurd H (by simp)
           ·rw [if_neg c12] at H
            exact absurd H (by simp)
          ·rw [if_neg c11] at H
           have c11b0 : decide (x26_2 < (l1.length : Int)) = false := decide_eq_false c11; clear c11
           obtain ⟨ji21, hji21⟩ : ∃ j_ : Int, (wrap64 (x19_1 + (l1.length : Int))) = j_ := ⟨_, rfl⟩
           replace H : (if 0 ≤ (ji21) then (if (ji21) < (x5_2.length : Int) then (dptm.l0 k2 l1 (x5_2.set ((ji21) : Int).toNat x8_2) l0 (l0.length : Int) (wrap64 (x19_1 + 1))) else (none)) else (none)) = some r := by first | (rw [hji21] at H; exact H) | (simp only [hji21] at H ⊢; exact H)
           have hji21w : (IntKind.i64.wrap (x19_1 + (l1.length : Int))) = ji21 := (i64_w _).trans hji21
           by_cases c22 : 0 ≤ (ji21)
           ·rw [if_pos c22] at H
            have c22b0 : decide (0 ≤ (ji21)) = true := decide_eq_true c22; clear c22
            by_cases c23 : (ji21) < (x5_2.length : Int)
            ·rw [if_pos c23] at H
             have c23b0 : decide ((ji21) < (x5_2.length : Int)) = true := decide_eq_true c23; clear c23
             obtain ⟨y252, hy252⟩ : ∃ y_ : List Int, y_ = (x5_2.set ((ji21) : Int).toNat x8_2) := ⟨_, rfl⟩
             replace H : (dptm.l0 k2 l1 y252 l0 (l0.length : Int) (wrap64 (x19_1 + 1))) = some r := by first | (rw [hy252]; with_reducible exact H) | (have H2_ := (Option.bind_some _ _).symm.trans H; rw [hy252]; with_reducible exact H2_) | (have H2_ := (Option.bind_some _ _).symm.trans H; with_reducible exact H2_) | with_reducible exact H | (rw [hy252]; exact H) | exact H
             have Ny252 := AS hy252; clear hy252; have H' := AS H; clear H; have p24 : 0 ≤ ((ji21) : Int) := of_decide_eq_true Z2; have q24 : ((ji21) : Int) < ((x5_2.length : Int) : Int) := of_decide_eq_true Z2; obtain ⟨go24, co24, eo24, gb24, gl24, cl24, HG24⟩ := Kd.R_form HO_5.out (by omega)
             (first | cases eo24 | (injection eo24 with ea_ en_ ec_; (first | subst ea_ | (injection ea_ with ea_; subst ea_)); subst ec_; clear en_))
             have GB24 := AS gb24; have GG24 := AS HG24; clear gb24 gl24 HG24; obtain ⟨hx24_0, hf24_0⟩ := Kd.R_celln 0 HO_5.out ((ji21) : Int) p24 q24; replace p24 := eq_true p24; replace q24 := eq_true q24; have HP25 := Kd.R_putg HO_5.out ((ji21) : Int) x8_2; go_wp2_with (first | ((with_reducible refine gate_store (t := 109) (p := 59) rfl ?_); refine store_event (t := 109) (p := 59) (v := ?vo_w26) (w1 := (wr.setCell ⟨go24, ((ji21) : Int).toNat, none⟩ (.int .u64 x8_2))) ?hg ?ho ?hn ?hr ?_; (case ho => rfl); (case hg => rfl); (case hn => rfl); (case hr => exact Z11); intro w26 hw; have hg : wr.grownBy w26 (some go24) := Z179; have hp_ : Kd.R (Kd.int .u64) 109 w26 w.heap.size (fun k_ => (w.heap.size ≤ k_)) (.slice (some ⟨go24, 0, none⟩) x5_2.length co24) y252 := (by rw [hw, Ny252.out]; exact HP25.1); clear HP25; replace HO_5 := AS (hp_); replace HB := AS ((by rw [hw]; exact bls (HB.out) GB24.out : Below w.heap.size w w26)); clear hg hw hp_))
             go_roundg k2
             case measure => have := HK1.out; have := HK2.out; omega
             case rel => exact ⟨(y252), (wrap64 (x19_1 + 1)), Z4, H', ⟨Z143⟩, ⟨Z121⟩, ⟨Z0⟩⟩
            ·rw [if_neg c23] at H
             exact absurd H (by simp)
           ·rw [if_neg c22] at H
            exact absurd H (by simp)
       ·rw [if_neg c10] at H
        exact absurd H (by simp)
      ·rw [if_neg c9] at H
       exact absurd H (by simp)
     ·rw [if_neg c8] at H
      have c8b0 : decide (x19_1 < (l0.length : Int)) = false := decide_eq_false c8; clear c8; replace H := Option.bind_eq_some_iff.mp H; obtain ⟨t245, A270, H⟩ := H; replace H : (some t245) = some r := H; have A27 := AS A270; clear A270; obtain rfl := Option.some.inj H; obtain ⟨Ao28, co28, eo28⟩ := Kd.R_slice HO_5.out; subst eo28; go_wp2_with (first | ((with_reducible refine gtc (f := 108) rfl ?_); refine gsL (some 62) rfl rfl Tryz.func108 Z5 rfl #[.slice Ao28 x5_1.length co28] rfl Z1 ?_; (with_reducible refine (dptr.calls k1 (fun k_ => some k_ = (.slice Ao28 x5_1.length co28 : Value).ownBlock) _ _ x5_1 t245 _ ?side1 ?side2 A27.out).mono ?_); (case side1 => exact Kd.R_V (Kd.R_tight rfl (HO_5.out))); (case side2 => exact Z182); rintro e w29 ⟨v246, rfl, ho0, hb⟩; refine ⟨_, rfl, ?_⟩; have HO247 := AS (Kd.V_lower (Kd.V_mono (ok' := fun k_ => (w.heap.size ≤ k_)) ho0 (fun k_ hk_ => Or.elim hk_ (fun hs_ => ((HO_5.out).1 k_ hs_.symm)) (fun hn_ => (Nat.le_trans (bsz Z0) hn_)))) (bsz Z0)); replace HO_5 := AS (Kd.R_below Z121 hb); replace HB := AS (bst Z0 hb); (try clear hb); (try clear hb2); (try clear hk); (try clear hi); (try clear ho0))); go_ret; exact ⟨_, Z130, by (with_reducible repeat (first | apply Kd.V_alloc | apply Kd.V_drewN | apply Kd.V_drew)); exact HO247.out, Z0⟩
  ·rw [if_neg c5] at H
   exact absurd H (by simp)
 ·rw [if_neg c4] at H
  exact absurd H (by simp)
def deMu.f (k : Nat) (a0 : ByteArray) (a1 : ByteArray) : Option (ByteArray) := if (wrap64 ((a0.size : Int) + (a1.size : Int))) ≤ 18 then ((debo.f k a0 a1).bind fun bt253 => ((decimal_Of.f (IntKind.u64.wrap (bt253.1 * bt253.2.1))).bind fun t256 => (some t256))) else ((decu.f a0).bind fun t257 => ((decu.f a1).bind fun t260 => ((dptm.f k t257 t260).bind fun t263 => ((dptx.f t263).bind fun t266 => (some t266)))))
set_option maxHeartbeats 8000000 in
set_option maxRecDepth 100000 in
theorem deMu.calls (k : Nat) (a0 : ByteArray) (a1 : ByteArray) (r : ByteArray) (w : World) (hG : GL w) (h : deMu.f k a0 a1 = some r) :
  Calls Tryz.prog 44 #[.string a0, .string a1] w fun e w' => e = .returned (.string r) ∧ Below w.heap.size w w' := by
 have HB := AS (Below.refl w.heap.size w); have H : (if (wrap64 ((a0.size : Int) + (a1.size : Int))) ≤ 18 then ((debo.f k a0 a1).bind fun bt253 => ((decimal_Of.f (IntKind.u64.wrap (bt253.1 * bt253.2.1))).bind fun t256 => (some t256))) else ((decu.f a0).bind fun t257 => ((decu.f a1).bind fun t260 => ((dptm.f k t257 t260).bind fun t263 => ((dptx.f t263).bind fun t266 => (some t266)))))) = some r := h; clear h
 by_cases c3 : (wrap64 ((a0.size : Int) + (a1.size : Int))) ≤ 18
 ·rw [if_pos c3] at H
  have c3b0 : decide ((wrap64 ((a0.size : Int) + (a1.size : Int))) ≤ 18) = true := decide_eq_true c3; clear c3; replace H := Option.bind_eq_some_iff.mp H; obtain ⟨⟨t253, t254, t255⟩, A40, H⟩ := H; replace H : ((decimal_Of.f (IntKind.u64.wrap (t253 * t254))).bind fun t256 => (some t256)) = some r := H; have A4 := AS A40; clear A40; replace H := Option.bind_eq_some_iff.mp H; obtain ⟨t256, A50, H⟩ := H; replace H : (some t256) = some r := H; have A5 := AS A50; clear A50; obtain rfl := Option.some.inj H; go_enter Tryz.func44, Tryz.ntmps44; go_wp2_with (first | ((with_reducible refine gtc (f := 80) rfl ?_); refine gsL (some 17) rfl rfl Tryz.func80 Z5 rfl #[.string a0, .string a1] rfl Z1 ?_; (with_reducible refine (debo.calls k a0 a1 t253 t254 t255 _ ?side1 A4.out).mono ?_); (case side1 => exact Z182); rintro e w6 ⟨rfl, hb⟩; refine ⟨_, rfl, ?_⟩; replace HB := AS (bst Z0 hb); (try clear hb); (try clear hb2); (try clear hk); (try clear hi)) | ((with_reducible refine gtc (f := 79) rfl ?_); refine gsL (some 24) rfl rfl Tryz.func79 Z5 rfl #[.int .u64 (IntKind.u64.wrap (t253 * t254))] rfl Z1 ?_; (with_reducible refine (decimal_Of.calls (IntKind.u64.wrap (t253 * t254)) t256 _ ?side1 A5.out).mono ?_); (case side1 => exact Z182); rintro e w7 ⟨rfl, hb⟩; refine ⟨_, rfl, ?_⟩; replace HB := AS (bst Z0 hb); (try clear hb); (try clear hb2); (try clear hk); (try clear hi))); go_ret; exact ⟨Z3, Z0⟩
 ·rw [if_neg c3] at H
  have c3b0 : decide ((wrap64 ((a0.size : Int) + (a1.size : Int))) ≤ 18) = false := decide_eq_false c3; clear c3; replace H := Option.bind_eq_some_iff.mp H; obtain ⟨t257, A80, H⟩ := H; replace H : ((decu.f a1).bind fun t260 => ((dptm.f k t257 t260).bind fun t263 => ((dptx.f t263).bind fun t266 => (some t266)))) = some r := H; have A8 := AS A80; clear A80; replace H := Option.bind_eq_some_iff.mp H; obtain ⟨t260, A90, H⟩ := H; replace H : ((dptm.f k t257 t260).bind fun t263 => ((dptx.f t263).bind fun t266 => (some t266))) = some r := H; have A9 := AS A90; clear A90; replace H := Option.bind_eq_some_iff.mp H; obtain ⟨t263, A100, H⟩ := H; replace H : ((dptx.f t263).bind fun t266 => (some t266)) = some r := H; have A10 := AS A100; clear A100; replace H := Option.bind_eq_some_iff.mp H; obtain ⟨t266, A110, H⟩ := H; replace H : (some t266) = some r := H; have A11 := AS A110; clear A110; obtain rfl := Option.some.inj H; go_enter Tryz.func44, Tryz.ntmps44; go_wp2_with (first | ((with_reducible refine gtc (f := 81) rfl ?_); refine gsL (some 26) rfl rfl Tryz.func81 Z5 rfl #[.string a0] rfl Z1 ?_; (with_reducible refine (decu.calls a0 t257 _ ?side1 A8.out).mono ?_); (case side1 => exact Z182); rintro e w12 ⟨v258, rfl, ho0, hb⟩; refine ⟨_, rfl, ?_⟩; have HO259 := AS (Kd.V_lower (Kd.V_mono (ok' := fun k_ => True) ho0 (fun k_ hk_ => trivial)) (bsz Z0)); replace HB := AS (bst Z0 hb); (try clear hb); (try clear hb2); (try clear hk); (try clear hi); (try clear ho0)) | ((with_reducible refine gtc (f := 81) rfl ?_); refine gsL (some 28) rfl rfl Tryz.func81 Z5 rfl #[.string a1] rfl Z1 ?_; (with_reducible refine (decu.calls a1 t260 _ ?side1 A9.out).mono ?_); (case side1 => exact Z182); rintro e w13 ⟨v261, rfl, ho0, hb⟩; refine ⟨_, rfl, ?_⟩; have HO262 := AS (Kd.V_lower (Kd.V_mono (ok' := fun k_ => True) ho0 (fun k_ hk_ => trivial)) (bsz Z0)); replace HO259 := AS (Kd.V_below Z133 hb); replace HB := AS (bst Z0 hb); (try clear hb); (try clear hb2); (try clear hk); (try clear hi); (try clear ho0); obtain ⟨Ao14, co14, eo14⟩ := Kd.V_slice HO259.out; subst eo14; obtain ⟨Ao15, co15, eo15⟩ := Kd.V_slice HO262.out; subst eo15) | ((with_reducible refine gtc (f := 82) rfl ?_); refine gsL (some 29) rfl rfl Tryz.func82 Z5 rfl #[.slice Ao14 t257.length co14, .slice Ao15 t260.length co15] rfl Z1 ?_; (with_reducible refine (dptm.calls k _ _ t257 _ _ t260 t263 _ ?side1 ?side2 ?side3 ?side4 ?side5 A10.out).mono ?_); (case side1 => repeat (first | exact (Kd.V_reads' HO259.out).2.2 | (with_reducible refine Kd.C_alloc ?_ _) | (with_reducible refine Kd.C_drewN ?_ _) | (with_reducible refine Kd.C_drew ?_))); (case side2 => exact (Kd.V_reads' HO259.out).2.1); (case side3 => repeat (first | exact (Kd.V_reads' HO262.out).2.2 | (with_reducible refine Kd.C_alloc ?_ _) | (with_reducible refine Kd.C_drewN ?_ _) | (with_reducible refine Kd.C_drew ?_))); (case side4 => exact (Kd.V_reads' HO262.out).2.1); (case side5 => exact Z182); rintro e w16 ⟨v264, rfl, ho0, hb⟩; refine ⟨_, rfl, ?_⟩; have HO265 := AS (Kd.V_lower (Kd.V_mono (ok' := fun k_ => True) ho0 (fun k_ hk_ => trivial)) (bsz Z0)); replace HO259 := AS (Kd.V_below Z133 hb); replace HO262 := AS (Kd.V_below Z149 hb); replace HB := AS (bst Z0 hb); (try clear hb); (try clear hb2); (try clear hk); (try clear hi); (try clear ho0); obtain ⟨Ao17, co17, eo17⟩ := Kd.V_slice HO265.out; subst eo17) | ((with_reducible refine gtc (f := 83) rfl ?_); refine gsL (some 30) rfl rfl Tryz.func83 Z5 rfl #[.slice Ao17 t263.length co17] rfl Z1 ?_; (with_reducible refine (dptx.calls _ _ t263 t266 _ ?side1 ?side2 ?side3 A11.out).mono ?_); (case side1 => repeat (first | exact (Kd.V_reads' HO265.out).2.2 | (with_reducible refine Kd.C_alloc ?_ _) | (with_reducible refine Kd.C_drewN ?_ _) | (with_reducible refine Kd.C_drew ?_))); (case side2 => exact (Kd.V_reads' HO265.out).2.1); (case side3 => exact Z182); rintro e w18 ⟨rfl, hb⟩; refine ⟨_, rfl, ?_⟩; replace HO259 := AS (Kd.V_below Z133 hb); replace HO262 := AS (Kd.V_below Z149 hb); replace HO265 := AS (Kd.V_below (by (with_reducible repeat (first | apply Kd.V_alloc | apply Kd.V_drewN | apply Kd.V_drew)); exact HO265.out) hb); replace HB := AS (bst Z0 hb); (try clear hb); (try clear hb2); (try clear hk); (try clear hi))); go_ret; exact ⟨Z3, Z0⟩

def decimal_Lcm.j0 : Nat → ByteArray → ByteArray → Bool → Option (ByteArray)
 | 0, _, _, _ => none
 | k + 1, x0, x1, x13 => if x13 = true then (some (⟨#[48]⟩ : ByteArray)) else ((deGc.f k x0 x1).bind fun t267 => ((deDM.f k x0 t267).bind fun bt268 => (if bt268.2.2 = 0 then ((deMu.f k bt268.1 x1).bind fun t271 => (some t271)) else (some (⟨#[]⟩ : ByteArray)))))
def decimal_Lcm.f (k : Nat) (a0 : ByteArray) (a1 : ByteArray) : Option (ByteArray) := if a0.toList = ([48] : List UInt8) then (decimal_Lcm.j0 k a0 a1 true) else (decimal_Lcm.j0 k a0 a1 (a1.toList == ([48] : List UInt8)))
set_option maxHeartbeats 8000000 in
set_option maxRecDepth 100000 in
theorem decimal_Lcm.calls (k : Nat) (a0 : ByteArray) (a1 : ByteArray) (r : ByteArray) (w : World) (hG : GL w) (h : decimal_Lcm.f k a0 a1 = some r) :
  Calls Tryz.prog 209 #[.string a0, .string a1] w fun e w' => e = .returned (.string r) ∧ Below w.heap.size w w' := by
 have HB := AS (Below.refl w.heap.size w); have H : (if a0.toList = ([48] : List UInt8) then (decimal_Lcm.j0 k a0 a1 true) else (decimal_Lcm.j0 k a0 a1 (a1.toList == ([48] : List UInt8)))) = some r := h; clear h; have HC3 := AS H; clear H; go_enter Tryz.func209, Tryz.ntmps209
 go_upto_region 1 with (fail)
 go_cut [13] (fun v13 wc => ∃ (kq : Nat) (x13_2 : Bool), v13 = .bool x13_2 ∧ Aside0 (decimal_Lcm.j0 kq a0 a1 x13_2 = some r) ∧ Aside0 (kq ≤ k) ∧ Aside0 (Below w.heap.size w wc))
 case first =>
  have H := HC3.out; clear HC3
  by_cases c4 : a0.toList = ([48] : List UInt8)
  ·rw [if_pos c4] at H
   have c4b0 : (a0.toList == ([48] : List UInt8)) = true := beq_iff_eq.mpr c4; have c4b1 : (a0.toList != ([48] : List UInt8)) = false := bne_eq_false_iff_eq.mpr c4; clear c4
   (first | rw [c4b0] | (simp only [i64_w, i32_w]; rw [c4b0]) | skip)
   have H' := AS H; clear H; go_wp2; go_meet
   case rel => exact ⟨_, (true), Z4, H', ⟨Z61⟩, ⟨Z0⟩⟩
  ·rw [if_neg c4] at H
   have c4b0 : (a0.toList == ([48] : List UInt8)) = false := beq_eq_false_iff_ne.mpr c4; have c4b1 : (a0.toList != ([48] : List UInt8)) = true := bne_iff_ne.mpr c4
   (first | rw [c4b0] | (simp only [i64_w, i32_w]; rw [c4b0]) | skip)
   have H' := AS H; clear H; go_wp2; go_meet
   case rel => exact ⟨_, ((a1.toList == ([48] : List UInt8))), Z4, H', ⟨Z61⟩, ⟨Z0⟩⟩
 case rest =>
  clear HC3; (try clear c2); (try clear p2); (try clear c4); (try clear c4b0); (try clear c4b1); obtain ⟨kq, x13_2, rfl, HA, HJ2, HB⟩ := hcut
  cases kq with
  | zero => exact absurd HA.out (by simp [decimal_Lcm.j0])
  | succ kj2 =>
   have H := HA.out; clear HA
   simp only [decimal_Lcm.j0] at H
   by_cases c5 : x13_2 = true
   ·subst c5
    rw [if_pos rfl] at H
    obtain rfl := Option.some.inj H; go_wp2; go_ret; exact ⟨Z3, Z0⟩
   ·replace c5 := Bool.eq_false_iff.mpr c5; subst c5
    rw [if_neg (show ¬ (false = true) by decide)] at H
    replace H := Option.bind_eq_some_iff.mp H; obtain ⟨t267, A60, H⟩ := H; replace H : ((deDM.f kj2 a0 t267).bind fun bt268 => (if bt268.2.2 = 0 then ((deMu.f kj2 bt268.1 a1).bind fun t271 => (some t271)) else (some (⟨#[]⟩ : ByteArray)))) = some r := H; have A6 := AS A60; clear A60; replace H := Option.bind_eq_some_iff.mp H; obtain ⟨⟨t268, t269, t270⟩, A70, H⟩ := H; replace H : (if t270 = 0 then ((deMu.f kj2 t268 a1).bind fun t271 => (some t271)) else (some (⟨#[]⟩ : ByteArray))) = some r := H; have A7 := AS A70; clear A70
    by_cases c8 : t270 = 0
    ·rw [if_pos c8] at H
     have c8b0 : (t270 == 0) = true := beq_iff_eq.mpr c8; have c8b1 : (t270 != 0) = false := bne_eq_false_iff_eq.mpr c8; clear c8; replace H := Option.bind_eq_some_iff.mp H; obtain ⟨t271, A90, H⟩ := H; replace H : (some t271) = some r := H; have A9 := AS A90; clear A90; obtain rfl := Option.some.inj H; go_wp2_with (first | ((with_reducible refine gtc (f := 125) rfl ?_); refine gsL (some 18) rfl rfl Tryz.func125 Z5 rfl #[.string a0, .string a1] rfl Z1 ?_; (with_reducible refine (deGc.calls kj2 a0 a1 t267 _ ?side1 A6.out).mono ?_); (case side1 => exact Z182); rintro e w10 ⟨rfl, hb⟩; refine ⟨_, rfl, ?_⟩; replace HB := AS (bst Z0 hb); (try clear hb); (try clear hb2); (try clear hk); (try clear hi)) | ((with_reducible refine gtc (f := 141) rfl ?_); refine gsL (some 19) rfl rfl Tryz.func141 Z5 rfl #[.string a0, .string t267] rfl Z1 ?_; (with_reducible refine (deDM.calls kj2 a0 t267 t268 t269 t270 _ ?side1 A7.out).mono ?_); (case side1 => exact Z182); rintro e w11 ⟨rfl, hb⟩; refine ⟨_, rfl, ?_⟩; replace HB := AS (bst Z0 hb); (try clear hb); (try clear hb2); (try clear hk); (try clear hi)) | ((with_reducible refine gtc (f := 44) rfl ?_); refine gsL (some 27) rfl rfl Tryz.func44 Z5 rfl #[.string t268, .string a1] rfl Z1 ?_; (with_reducible refine (deMu.calls kj2 t268 a1 t271 _ ?side1 A9.out).mono ?_); (case side1 => exact Z182); rintro e w12 ⟨rfl, hb⟩; refine ⟨_, rfl, ?_⟩; replace HB := AS (bst Z0 hb); (try clear hb); (try clear hb2); (try clear hk); (try clear hi))); go_ret; exact ⟨Z3, Z0⟩
    ·rw [if_neg c8] at H
     have c8b0 : (t270 == 0) = false := beq_eq_false_iff_ne.mpr c8; have c8b1 : (t270 != 0) = true := bne_iff_ne.mpr c8; obtain rfl := Option.some.inj H; go_wp2_with (first | ((with_reducible refine gtc (f := 125) rfl ?_); refine gsL (some 18) rfl rfl Tryz.func125 Z5 rfl #[.string a0, .string a1] rfl Z1 ?_; (with_reducible refine (deGc.calls kj2 a0 a1 t267 _ ?side1 A6.out).mono ?_); (case side1 => exact Z182); rintro e w13 ⟨rfl, hb⟩; refine ⟨_, rfl, ?_⟩; replace HB := AS (bst Z0 hb); (try clear hb); (try clear hb2); (try clear hk); (try clear hi)) | ((with_reducible refine gtc (f := 141) rfl ?_); refine gsL (some 19) rfl rfl Tryz.func141 Z5 rfl #[.string a0, .string t267] rfl Z1 ?_; (with_reducible refine (deDM.calls kj2 a0 t267 t268 t269 t270 _ ?side1 A7.out).mono ?_); (case side1 => exact Z182); rintro e w14 ⟨rfl, hb⟩; refine ⟨_, rfl, ?_⟩; replace HB := AS (bst Z0 hb); (try clear hb); (try clear hb2); (try clear hk); (try clear hi))); go_ret; exact ⟨Z3, Z0⟩
def whole_Lcm.f (k : Nat) (a0 : ByteArray) (a1 : ByteArray) : Option (ByteArray) := (whole_Abs.f a0).bind fun t272 => ((whole_Abs.f a1).bind fun t273 => ((decimal_Lcm.f k t272 t273).bind fun t274 => (some t274)))
set_option maxHeartbeats 8000000 in
set_option maxRecDepth 100000 in
theorem whole_Lcm.calls (k : Nat) (a0 : ByteArray) (a1 : ByteArray) (r : ByteArray) (w : World) (hG : GL w) (h : whole_Lcm.f k a0 a1 = some r) :
  Calls Tryz.prog 182 #[.string a0, .string a1] w fun e w' => e = .returned (.string r) ∧ Below w.heap.size w w' := by
 have HB := AS (Below.refl w.heap.size w); have H : ((whole_Abs.f a0).bind fun t272 => ((whole_Abs.f a1).bind fun t273 => ((decimal_Lcm.f k t272 t273).bind fun t274 => (some t274)))) = some r := h; clear h; replace H := Option.bind_eq_some_iff.mp H; obtain ⟨t272, A30, H⟩ := H; replace H : ((whole_Abs.f a1).bind fun t273 => ((decimal_Lcm.f k t272 t273).bind fun t274 => (some t274))) = some r := H; have A3 := AS A30; clear A30; replace H := Option.bind_eq_some_iff.mp H; obtain ⟨t273, A40, H⟩ := H; replace H : ((decimal_Lcm.f k t272 t273).bind fun t274 => (some t274)) = some r := H; have A4 := AS A40; clear A40; replace H := Option.bind_eq_some_iff.mp H; obtain ⟨t274, A50, H⟩ := H; replace H : (some t274) = some r := H; have A5 := AS A50; clear A50; obtain rfl := Option.some.inj H; go_enter Tryz.func182, Tryz.ntmps182; go_wp2_with (first | ((with_reducible refine gtc (f := 69) rfl ?_); refine gsL (some 6) rfl rfl Tryz.func69 Z5 rfl #[.string a0] rfl Z1 ?_; (with_reducible refine (whole_Abs.calls a0 t272 _ ?side1 A3.out).mono ?_); (case side1 => exact Z182); rintro e w' ⟨rfl, ⟨nd, rfl⟩⟩; refine ⟨_, rfl, ?_⟩) | ((with_reducible refine gtc (f := 69) rfl ?_); refine gsL (some 8) rfl rfl Tryz.func69 Z5 rfl #[.string a1] rfl Z1 ?_; (with_reducible refine (whole_Abs.calls a1 t273 _ ?side1 A4.out).mono ?_); (case side1 => exact Z182); rintro e w' ⟨rfl, ⟨nd, rfl⟩⟩; refine ⟨_, rfl, ?_⟩) | ((with_reducible refine gtc (f := 209) rfl ?_); refine gsL (some 9) rfl rfl Tryz.func209 Z5 rfl #[.string t272, .string t273] rfl Z1 ?_; (with_reducible refine (decimal_Lcm.calls k t272 t273 t274 _ ?side1 A5.out).mono ?_); (case side1 => exact Z182); rintro e w6 ⟨rfl, hb⟩; refine ⟨_, rfl, ?_⟩; replace HB := AS (bst Z0 hb); (try clear hb); (try clear hb2); (try clear hk); (try clear hi))); go_ret; exact ⟨Z3, Z0⟩
mutual
def szTO.l0 : Nat → List Int → List (S53) → List (S53) → Int → Int → ByteArray → Option (List Int × List ByteArray × ByteArray)
 | 0, _, _, _, _, _, _ => none
 | k + 1, x0, x1, x14, x15, x16, x277002 => if x16 < x15 then (if 0 ≤ x16 then (if x16 < (x14.length : Int) then ((whole_Lcm.f k x277002 ((rd_T53 x14 x16).f1)).bind fun t279 => (szTO.l0 k x0 x1 x14 x15 (wrap64 (x16 + 1)) t279)) else (none)) else (none)) else (szTO.l1 k x0 x1 (x1.length : Int) 0 ([] : List Int) ([] : List ByteArray) x277002)
def szTO.l1 : Nat → List Int → List (S53) → Int → Int → List Int → List ByteArray → ByteArray → Option (List Int × List ByteArray × ByteArray)
 | 0, _, _, _, _, _, _, _ => none
 | k + 1, x0, x27, x28, x29, x277000, x277001, x277002 => if x29 < x28 then (if 0 ≤ x29 then (if x29 < (x27.length : Int) then (if ((rd_T53 x27 x29).f0).toList = ([48] : List UInt8) then (szTO.l1 k x0 x27 x28 (wrap64 (x29 + 1)) x277000 x277001 x277002) else ((whDM.f k x277002 ((rd_T53 x27 x29).f1)).bind fun bt282 => (if x29 < (x0.length : Int) then (if x277000.length < 17592186044416 then ((whole_Mul.f k ((rd_T53 x27 x29).f0) bt282.1).bind fun t289 => (if x277001.length < 8796093022208 then (szTO.l1 k x0 x27 x28 (wrap64 (x29 + 1)) (x277000 ++ [rd x0 x29]) (x277001 ++ [t289]) x277002) else (none))) else (none)) else (none)))) else (none)) else (none)) else (some (x277000, x277001, x277002))
end
def szTO.f (k : Nat) (l0 : List Int) (l1 : List (S53)) : Option (List Int × List ByteArray × ByteArray) := szTO.l0 k l0 l1 l1 (l1.length : Int) 0 (⟨#[49]⟩ : ByteArray)
def szTO.T12 : Bool × List (List Nat × List Nat) := (true, [([], []), ([0], [0]), ([], []), ([], []), ([2, 3], [2, 3]), ([4], [4]), ([5], [5]), ([1, 6], [1, 6]), ([], []), ([8], [8]), ([], []), ([10], [10]), ([], []), ([11, 12, 7], [11, 12]), ([13], [13]), ([9, 14, 13], [9, 14]), ([0, 1, 2, 3, 4, 5, 6, 7, 8, 9], []), ([16, 7, 15, 0, 1, 2, 3, 4, 5, 6, 7, 8, 9], [7, 16]), ([0, 1, 2, 3, 4, 5, 6, 7, 8, 9, 10, 11, 12, 13, 14, 15, 16, 17], []), ([18, 15, 17, 0, 1, 2, 3, 4, 5, 6, 7, 8, 9, 10, 11, 12, 13, 14, 15, 16, 17], [15, 18])])
def szTO.B12 : List Nat := [0, 1, 0, 0, 12, 28, 60, 127, 0, 256, 0, 1024, 0, 7423, 15615, 32767, 1023, 131071, 262143, 524287]
theorem szTO.tab12 : rtab .any (opsOf Tryz.f149 12) = szTO.T12 := by kernel_rfl
theorem szTO.bits12 : waitsOk szTO.T12.2 szTO.B12 = true := by kernel_rfl
set_option maxHeartbeats 8000000 in
set_option maxRecDepth 100000 in
theorem szTO.calls (k : Nat) (A0 : Option Addr) (c0 : Nat) (l0 : List Int) (A1 : Option Addr) (c1 : Nat) (l1 : List (S53)) (r1 : List Int) (r2 : List ByteArray) (r3 : ByteArray) (w : World) (hr0 : Kd.C (Kd.int .i64) w A0 l0.length l0) (hc0 : l0.length ≤ c0) (hr1 : Kd.C k53 w A1 l1.length l1) (hc1 : l1.length ≤ c1) (hG : GL w) (h : szTO.f k l0 l1 = some (r1, r2, r3)) :
  Calls Tryz.prog 149 #[.slice A0 l0.length c0, .slice A1 l1.length c1] w fun e w' => ∃ v0_ v1_ : Value, e = .returned (.agg #[v0_, v1_, .string r3]) ∧ Kd.R (Kd.int .i64) 3 w' w.heap.size (fun _ => True) v0_ r1 ∧ Kd.R Kd.string 51 w' w.heap.size (fun _ => True) v1_ r2 ∧ Below w.heap.size w w' := by
 have hu191 := Tryz.underlying191; have hu53 := Tryz.underlying53; have HR0 := AS hr0; have HC0 := AS hc0; clear hr0 hc0; have HR1 := AS hr1; have HC1 := AS hc1; clear hr1 hc1; have HB := AS (Below.refl w.heap.size w); have H : (szTO.l0 k l0 l1 l1 (l1.length : Int) 0 (⟨#[49]⟩ : ByteArray)) = some (r1, r2, r3) := h; clear h; have H' := AS H; clear H; go_enter Tryz.func149, Tryz.ntmps149; go_wp2_with (first | ((with_reducible refine gtd (N := 4) rfl ?_); refine bxe ?hg (N := 4) ?hd (cs := #[.slice none 0 0, .slice none 0 0, .string (⟨#[]⟩ : ByteArray)]) (t := 191) ?hr ?_; (case hd => rfl); (case hg => rfl); (case hr => exact Z11); intro gb275 hg w3 hbox hb; have BK275 := AS (hbox); have GW275 := AS ((Z183 : w.heap.size ≤ gb275)); have GE275 := AS ((Z183 : w.heap.size ≤ gb275)); replace HB := AS (bst Z0 hb); clear hb hbox hg) | ((with_reducible refine gtd (N := 5) rfl ?_); refine bxe ?hg (N := 5) ?hd (cs := #[.slice none 0 0, .slice none 0 0, .string (⟨#[]⟩ : ByteArray)]) (t := 191) ?hr ?_; (case hd => rfl); (case hg => rfl); (case hr => exact Z11); intro gb276 hg w4 hbox hb; have BK276 := AS (hbox); have GW276 := AS ((by rw [hg]; exact (bsz Z112) : w.heap.size ≤ gb276)); have GE276 := AS ((by rw [hg]; exact (bsz Z112) : w.heap.size ≤ gb276)); have NB275_276 := AS ((Z186 : gb275 ≠ gb276)); have NB276_275 := AS ((Z187 : gb276 ≠ gb275)); replace BK275 := AS (bbl (g := gb275) (o := .cells #[.slice none 0 0, .slice none 0 0, .string (⟨#[]⟩ : ByteArray)] 191 (0, 0)) Z32 hb); replace HB := AS (bst Z112 hb); clear hb hbox hg; have hnb5 := NB276_275.out; have hnc5 := NB275_276.out; have hcz6_0 := bc0 BK276.out; have hcz6_1 := bc1 BK276.out; have hcz6_2 := bc2 BK276.out; have hfz6_0 := bfz BK276.out 0; have hfz6_1 := bfz BK276.out 1; have hfz6_2 := bfz BK276.out 2))
 go_loopg [16] k (fun kq v16 w' => ∃ (x16_1 : Int) (x277002_1 : ByteArray), v16 = .int .i64 x16_1 ∧ Aside0 (szTO.l0 kq l0 l1 l1 (l1.length : Int) x16_1 x277002_1 = some (r1, r2, r3)) ∧ Aside0 (kq ≤ k) ∧ Aside0 (w'.heap[gb275]? = some (.cells #[(.slice none 0 0), (.slice none 0 0), .string (⟨#[]⟩ : ByteArray)] 191 (0, 0))) ∧ Aside0 (w'.heap[gb276]? = some (.cells #[(.slice none 0 0), (.slice none 0 0), .string x277002_1] 191 (0, 0))) ∧ Aside0 (Below w.heap.size w w'))
 case atStart => exact ⟨(0), ((⟨#[49]⟩ : ByteArray)), Z4, H', ⟨Nat.le_refl _⟩, ⟨by (with_reducible repeat (first | apply bdn | apply bdr | apply bal)); refine blk_far ?_ NB275_276.out _; (with_reducible repeat (first | apply bdn | apply bdr | apply bal)); refine blk_far ?_ NB275_276.out _; (with_reducible repeat (first | apply bdn | apply bdr | apply bal)); refine blk_far ?_ NB275_276.out _; (with_reducible repeat (first | apply bdn | apply bdr | apply bal)); exact BK275.out⟩, ⟨by (with_reducible repeat (first | apply bdn | apply bdr | apply bal)); refine bpt (cs := #[.slice none 0 0, .slice none 0 0, .string (⟨#[]⟩ : ByteArray)]) ?_ 2 _ rfl; (with_reducible repeat (first | apply bdn | apply bdr | apply bal)); refine bpt (cs := #[.slice none 0 0, .slice none 0 0, .string (⟨#[]⟩ : ByteArray)]) ?_ 1 _ rfl; (with_reducible repeat (first | apply bdn | apply bdr | apply bal)); refine bpt (cs := #[.slice none 0 0, .slice none 0 0, .string (⟨#[]⟩ : ByteArray)]) ?_ 0 _ rfl; (with_reducible repeat (first | apply bdn | apply bdr | apply bal)); exact BK276.out⟩, ⟨Z16⟩⟩
 case round =>
  clear H'; (try clear c1); (try clear p2); (try clear c5); (try clear hcz6_0); (try clear hcz6_1); (try clear hcz6_2); (try clear hfz6_0); (try clear hfz6_1); (try clear hfz6_2); obtain ⟨x16_1, x277002_1, rfl, HA, HK1, BK275, BK276, HB⟩ := hrel
  cases gk with
  | zero => exact absurd HA.out (by simp [szTO.l0])
  | succ k1 =>
   have H := HA.out; clear HA
   simp only [szTO.l0] at H
   by_cases c7 : x16_1 < (l1.length : Int)
   ·rw [if_pos c7] at H
    have c7b0 : decide (x16_1 < (l1.length : Int)) = true := decide_eq_true c7; clear c7
    by_cases c8 : 0 ≤ x16_1
    ·rw [if_pos c8] at H
     have c8b0 : decide (0 ≤ x16_1) = true := decide_eq_true c8; clear c8
     by_cases c9 : x16_1 < (l1.length : Int)
     ·rw [if_pos c9] at H
      have c9b0 : decide (x16_1 < (l1.length : Int)) = true := decide_eq_true c9; clear c9; replace H := Option.bind_eq_some_iff.mp H; obtain ⟨t279, A100, H⟩ := H; replace H : (szTO.l0 k1 l0 l1 l1 (l1.length : Int) (wrap64 (x16_1 + 1)) t279) = some (r1, r2, r3) := H; have A10 := AS A100; clear A100; have H' := AS H; clear H; have p277 : 0 ≤ (x16_1 : Int) := of_decide_eq_true Z2; have q277 : x16_1 < (l1.length : Int) := of_decide_eq_true Z2; obtain ⟨ad277, e277, hx277_0, hx277_1⟩ := at_T53 HR1.out x16_1 p277 q277; cases e277; replace hx277_0 := (HB.out.cell (World.block_lt_of_cell? w _ hx277_0)).trans hx277_0; replace hx277_1 := (HB.out.cell (World.block_lt_of_cell? w _ hx277_1)).trans hx277_1; replace p277 := eq_true p277; replace q277 := eq_true q277; go_wp2_with (first | ((with_reducible refine gtd (N := 7) rfl ?_); refine bxe ?hg (N := 7) ?hd (cs := #[.string (⟨#[]⟩ : ByteArray), .string (⟨#[]⟩ : ByteArray)]) (t := 53) ?hr ?_; (case hd => rfl); (case hg => rfl); (case hr => exact Z11); intro gb278 hg w11 hbox hb; have BK278 := AS (hbox); have GW278 := AS ((Z207 : w.heap.size ≤ gb278)); have GE278 := AS ((Z207 : w.heap.size ≤ gb278)); have NB275_278 := AS ((Z186 : gb275 ≠ gb278)); have NB278_275 := AS ((Z187 : gb278 ≠ gb275)); have NB276_278 := AS ((by rw [hg]; exact Nat.ne_of_lt (blk_lt (g := gb276) (o := .cells #[.slice none 0 0, .slice none 0 0, .string x277002_1] 191 (0, 0)) Z48) : gb276 ≠ gb278)); have NB278_276 := AS ((by rw [hg]; exact Nat.ne_of_gt (blk_lt (g := gb276) (o := .cells #[.slice none 0 0, .slice none 0 0, .string x277002_1] 191 (0, 0)) Z48) : gb278 ≠ gb276)); replace BK275 := AS (bbl (g := gb275) (o := .cells #[.slice none 0 0, .slice none 0 0, .string (⟨#[]⟩ : ByteArray)] 191 (0, 0)) Z32 hb); replace BK276 := AS (bbl (g := gb276) (o := .cells #[.slice none 0 0, .slice none 0 0, .string x277002_1] 191 (0, 0)) Z48 hb); replace HB := AS (bst Z16 hb); clear hb hbox hg; have hnb12 := NB278_275.out; have hnc12 := NB275_278.out; have hnb13 := NB278_276.out; have hnc13 := NB276_278.out; have hcz14_0 := bc0 BK278.out; have hcz14_1 := bc1 BK278.out; have hfz14_0 := bfz BK278.out 0; have hfz14_1 := bfz BK278.out 1; have hnb15 := NB276_275.out; have hnc15 := NB275_276.out; have hcz16_0 := bc0 BK276.out; have hcz16_1 := bc1 BK276.out; have hcz16_2 := bc2 BK276.out; have hfz16_0 := bfz BK276.out 0; have hfz16_1 := bfz BK276.out 1; have hfz16_2 := bfz BK276.out 2) | ((with_reducible refine gtc (f := 182) rfl ?_); refine gsL (some 24) rfl rfl Tryz.func182 Z5 rfl #[.string x277002_1, .string ((rd_T53 l1 x16_1).f1)] rfl Z1 ?_; (with_reducible refine (whole_Lcm.calls k1 x277002_1 ((rd_T53 l1 x16_1).f1) t279 _ ?side1 A10.out).mono ?_); (case side1 => exact GL.below hG Z80); rintro e w17 ⟨rfl, hb⟩; refine ⟨_, rfl, ?_⟩; replace BK275 := AS (bbl (g := gb275) (o := .cells #[.slice none 0 0, .slice none 0 0, .string (⟨#[]⟩ : ByteArray)] 191 (0, 0)) (by (with_reducible repeat (first | apply bdn | apply bdr | apply bal)); refine blk_far ?_ NB275_278.out _; (with_reducible repeat (first | apply bdn | apply bdr | apply bal)); refine blk_far ?_ NB275_278.out _; (with_reducible repeat (first | apply bdn | apply bdr | apply bal)); exact BK275.out) hb); replace BK276 := AS (bbl (g := gb276) (o := .cells #[.slice none 0 0, .slice none 0 0, .string x277002_1] 191 (0, 0)) (by (with_reducible repeat (first | apply bdn | apply bdr | apply bal)); refine blk_far ?_ NB276_278.out _; (with_reducible repeat (first | apply bdn | apply bdr | apply bal)); refine blk_far ?_ NB276_278.out _; (with_reducible repeat (first | apply bdn | apply bdr | apply bal)); exact BK276.out) hb); replace BK278 := AS (bbl (g := gb278) (o := .cells #[.string ((rd_T53 l1 x16_1).f0), .string ((rd_T53 l1 x16_1).f1)] 53 (0, 0)) (by (with_reducible repeat (first | apply bdn | apply bdr | apply bal)); refine bpt (cs := #[.string ((rd_T53 l1 x16_1).f0), .string (⟨#[]⟩ : ByteArray)]) ?_ 1 _ rfl; (with_reducible repeat (first | apply bdn | apply bdr | apply bal)); refine bpt (cs := #[.string (⟨#[]⟩ : ByteArray), .string (⟨#[]⟩ : ByteArray)]) ?_ 0 _ rfl; (with_reducible repeat (first | apply bdn | apply bdr | apply bal)); exact BK278.out) hb); replace HB := AS (bst Z80 hb); (try clear hb); (try clear hb2); (try clear hk); (try clear hi); have hcz18_0 := bc0 BK276.out; have hcz18_1 := bc1 BK276.out; have hcz18_2 := bc2 BK276.out; have hfz18_0 := bfz BK276.out 0; have hfz18_1 := bfz BK276.out 1; have hfz18_2 := bfz BK276.out 2))
      go_roundg k1
      case measure => have := HK1.out; omega
      case rel => exact ⟨(wrap64 (x16_1 + 1)), (t279), Z4, H', ⟨Z88⟩, ⟨by (with_reducible repeat (first | apply bdn | apply bdr | apply bal)); refine blk_far ?_ NB275_276.out _; (with_reducible repeat (first | apply bdn | apply bdr | apply bal)); exact BK275.out⟩, ⟨by (with_reducible repeat (first | apply bdn | apply bdr | apply bal)); refine bpt (cs := #[.slice none 0 0, .slice none 0 0, .string x277002_1]) ?_ 2 _ rfl; (with_reducible repeat (first | apply bdn | apply bdr | apply bal)); exact BK276.out⟩, ⟨Z80⟩⟩
     ·rw [if_neg c9] at H
      exact absurd H (by simp)
    ·rw [if_neg c8] at H
     exact absurd H (by simp)
   ·rw [if_neg c7] at H
    have c7b0 : decide (x16_1 < (l1.length : Int)) = false := decide_eq_false c7; clear c7; have H' := AS H; clear H; go_wp2
    go_loopg [29] k1 (fun kq v29 w' => ∃ (x29_2 : Int) (x277000_2 : List Int) (x277001_2 : List ByteArray) (u277000 : Value) (u277001 : Value), v29 = .int .i64 x29_2 ∧ Aside0 (szTO.l1 kq l0 l1 (l1.length : Int) x29_2 x277000_2 x277001_2 x277002_1 = some (r1, r2, r3)) ∧ Aside0 (kq ≤ k1) ∧ Aside0 (Kd.R (Kd.int .i64) 3 w' w.heap.size (fun _ => True) u277000 x277000_2) ∧ Aside0 (Kd.R Kd.string 51 w' w.heap.size (fun _ => True) u277001 x277001_2) ∧ Aside0 (w'.heap[gb275]? = some (.cells #[(.slice none 0 0), (.slice none 0 0), .string (⟨#[]⟩ : ByteArray)] 191 (0, 0))) ∧ Aside0 (w'.heap[gb276]? = some (.cells #[u277000, u277001, .string x277002_1] 191 (0, 0))) ∧ Aside0 (Below w.heap.size w w'))
    case atStart => exact ⟨(0), (([] : List Int)), (([] : List ByteArray)), (.slice none 0 0), (.slice none 0 0), Z4, H', ⟨Nat.le_refl _⟩, ⟨Z79⟩, ⟨Z79⟩, ⟨Z32⟩, ⟨Z48⟩, ⟨Z16⟩⟩
    case round =>
     clear H'; (try clear c1); (try clear p2); (try clear q2); (try clear hx2); (try clear c5); (try clear p6); (try clear c7); (try clear c7b0); (try clear c8); (try clear c8b0); (try clear c9); (try clear c9b0); (try clear c12); (try clear c13); (try clear c14); (try clear c15); (try clear c18); (try clear hcz14_0); (try clear hcz14_1); (try clear hcz16_0); (try clear hcz16_1); (try clear hcz16_2); (try clear hcz18_0); (try clear hcz18_1); (try clear hcz18_2); (try clear hcz6_0); (try clear hcz6_1); (try clear hcz6_2); (try clear hfz14_0); (try clear hfz14_1); (try clear hfz16_0); (try clear hfz16_1); (try clear hfz16_2); (try clear hfz18_0); (try clear hfz18_1); (try clear hfz18_2); (try clear hfz6_0); (try clear hfz6_1); (try clear hfz6_2); (try clear hx277_0); (try clear hx277_1); (try clear p2); (try clear p277); (try clear q277); obtain ⟨x29_2, x277000_2, x277001_2, u277000, u277001, rfl, HA, HK2, HO_277000, HO_277001, BK275, BK276, HB⟩ := hrel
     cases gk with
     | zero => exact absurd HA.out (by simp [szTO.l1])
     | succ k2 =>
      have H := HA.out; clear HA
      simp only [szTO.l1] at H
      by_cases c19 : x29_2 < (l1.length : Int)
      ·rw [if_pos c19] at H
       have c19b0 : decide (x29_2 < (l1.length : Int)) = true := decide_eq_true c19; clear c19
       by_cases c20 : 0 ≤ x29_2
       ·rw [if_pos c20] at H
        have c20b0 : decide (0 ≤ x29_2) = true := decide_eq_true c20; clear c20
        by_cases c21 : x29_2 < (l1.length : Int)
        ·rw [if_pos c21] at H
         have c21b0 : decide (x29_2 < (l1.length : Int)) = true := decide_eq_true c21; clear c21
         by_cases c22 : ((rd_T53 l1 x29_2).f0).toList = ([48] : List UInt8)
         ·rw [if_pos c22] at H
          have c22b0 : (((rd_T53 l1 x29_2).f0).toList == ([48] : List UInt8)) = true := beq_iff_eq.mpr c22; have c22b1 : (((rd_T53 l1 x29_2).f0).toList != ([48] : List UInt8)) = false := bne_eq_false_iff_eq.mpr c22; clear c22; have H' := AS H; clear H; have p280 : 0 ≤ (x29_2 : Int) := of_decide_eq_true Z2; have q280 : x29_2 < (l1.length : Int) := of_decide_eq_true Z2; obtain ⟨ad280, e280, hx280_0, hx280_1⟩ := at_T53 HR1.out x29_2 p280 q280; cases e280; replace hx280_0 := (HB.out.cell (World.block_lt_of_cell? w _ hx280_0)).trans hx280_0; replace hx280_1 := (HB.out.cell (World.block_lt_of_cell? w _ hx280_1)).trans hx280_1; replace p280 := eq_true p280; replace q280 := eq_true q280; go_wp2_with (first | ((with_reducible refine gtd (N := 9) rfl ?_); refine bxe ?hg (N := 9) ?hd (cs := #[.string (⟨#[]⟩ : ByteArray), .string (⟨#[]⟩ : ByteArray)]) (t := 53) ?hr ?_; (case hd => rfl); (case hg => rfl); (case hr => exact Z11); intro gb281 hg w23 hbox hb; have BK281 := AS (hbox); have GW281 := AS ((Z207 : w.heap.size ≤ gb281)); have GE281 := AS ((Z207 : w.heap.size ≤ gb281)); have NB275_281 := AS ((Z186 : gb275 ≠ gb281)); have NB281_275 := AS ((Z187 : gb281 ≠ gb275)); have NB276_281 := AS ((Z198 : gb276 ≠ gb281)); have NB281_276 := AS ((Z199 : gb281 ≠ gb276)); replace HO_277000 := AS (Kd.R_below Z117 hb); replace HO_277001 := AS (Kd.R_below Z91 hb); replace BK275 := AS (bbl (g := gb275) (o := .cells #[.slice none 0 0, .slice none 0 0, .string (⟨#[]⟩ : ByteArray)] 191 (0, 0)) Z32 hb); replace BK276 := AS (bbl (g := gb276) (o := .cells #[u277000, u277001, .string x277002_1] 191 (0, 0)) Z48 hb); replace HB := AS (bst Z16 hb); clear hb hbox hg; have hnb24 := NB281_275.out; have hnc24 := NB275_281.out; have hnb25 := NB281_276.out; have hnc25 := NB276_281.out; have hcz26_0 := bc0 BK281.out; have hcz26_1 := bc1 BK281.out; have hfz26_0 := bfz BK281.out 0; have hfz26_1 := bfz BK281.out 1))
          go_roundg k2
          case measure => have := HK1.out; have := HK2.out; omega
          case rel => exact ⟨(wrap64 (x29_2 + 1)), (x277000_2), (x277001_2), (u277000), (u277001), Z4, H', ⟨Z143⟩, ⟨by (with_reducible repeat (first | apply Kd.R_alloc | apply Kd.R_drewN | apply Kd.R_drew)); exact Kd.R_mono (Kd.R_far (p := ⟨gb281, 1, none⟩) (Kd.R_far (p := ⟨gb281, 0, none⟩) (Kd.R_types HO_277000.out BK281.out (by decide)) (fun _ hk => hk.2) (.string ((rd_T53 l1 x29_2).f0))) (fun _ hk => hk.2) (.string ((rd_T53 l1 x29_2).f1))) (fun _ hk => trivial)⟩, ⟨by (with_reducible repeat (first | apply Kd.R_alloc | apply Kd.R_drewN | apply Kd.R_drew)); exact Kd.R_mono (Kd.R_far (p := ⟨gb281, 1, none⟩) (Kd.R_far (p := ⟨gb281, 0, none⟩) (Kd.R_types HO_277001.out BK281.out (by decide)) (fun _ hk => hk.2) (.string ((rd_T53 l1 x29_2).f0))) (fun _ hk => hk.2) (.string ((rd_T53 l1 x29_2).f1))) (fun _ hk => trivial)⟩, ⟨Z81⟩, ⟨Z82⟩, ⟨Z17⟩⟩
         ·rw [if_neg c22] at H
          have c22b0 : (((rd_T53 l1 x29_2).f0).toList == ([48] : List UInt8)) = false := beq_eq_false_iff_ne.mpr c22; have c22b1 : (((rd_T53 l1 x29_2).f0).toList != ([48] : List UInt8)) = true := bne_iff_ne.mpr c22; replace H := Option.bind_eq_some_iff.mp H; obtain ⟨⟨t282, t283, t284⟩, A270, H⟩ := H; replace H : (if x29_2 < (l0.length : Int) then (if x277000_2.length < 17592186044416 then ((whole_Mul.f k2 ((rd_T53 l1 x29_2).f0) t282).bind fun t289 => (if x277001_2.length < 8796093022208 then (szTO.l1 k2 l0 l1 (l1.length : Int) (wrap64 (x29_2 + 1)) (x277000_2 ++ [rd l0 x29_2]) (x277001_2 ++ [t289]) x277002_1) else (none))) else (none)) else (none)) = some (r1, r2, r3) := H; have A27 := AS A270; clear A270
          by_cases c28 : x29_2 < (l0.length : Int)
          ·rw [if_pos c28] at H
           have c28b0 : decide (x29_2 < (l0.length : Int)) = true := decide_eq_true c28; clear c28
           by_cases c29 : x277000_2.length < 17592186044416
           ·rw [if_pos c29] at H
            have LMc29 := AS c29; clear c29
            obtain ⟨y286, hy286⟩ : ∃ y_ : List Int, y_ = (x277000_2 ++ [rd l0 x29_2]) := ⟨_, rfl⟩
            replace H : ((whole_Mul.f k2 ((rd_T53 l1 x29_2).f0) t282).bind fun t289 => (if x277001_2.length < 8796093022208 then (szTO.l1 k2 l0 l1 (l1.length : Int) (wrap64 (x29_2 + 1)) y286 (x277001_2 ++ [t289]) x277002_1) else (none))) = some (r1, r2, r3) := by first | (rw [hy286]; with_reducible exact H) | (have H2_ := (Option.bind_some _ _).symm.trans H; rw [hy286]; with_reducible exact H2_) | (have H2_ := (Option.bind_some _ _).symm.trans H; with_reducible exact H2_) | with_reducible exact H | (rw [hy286]; exact H) | exact H
            have Ny286 := AS hy286; clear hy286; replace H := Option.bind_eq_some_iff.mp H; obtain ⟨t289, A300, H⟩ := H; replace H : (if x277001_2.length < 8796093022208 then (szTO.l1 k2 l0 l1 (l1.length : Int) (wrap64 (x29_2 + 1)) y286 (x277001_2 ++ [t289]) x277002_1) else (none)) = some (r1, r2, r3) := H; have A30 := AS A300; clear A300
            by_cases c31 : x277001_2.length < 8796093022208
            ·rw [if_pos c31] at H
             have LMc31 := AS c31; clear c31
             obtain ⟨y290, hy290⟩ : ∃ y_ : List ByteArray, y_ = (x277001_2 ++ [t289]) := ⟨_, rfl⟩
             replace H : (szTO.l1 k2 l0 l1 (l1.length : Int) (wrap64 (x29_2 + 1)) y286 y290 x277002_1) = some (r1, r2, r3) := by first | (rw [hy290]; with_reducible exact H) | (have H2_ := (Option.bind_some _ _).symm.trans H; rw [hy290]; with_reducible exact H2_) | (have H2_ := (Option.bind_some _ _).symm.trans H; with_reducible exact H2_) | with_reducible exact H | (rw [hy290]; exact H) | exact H
             have Ny290 := AS hy290; clear hy290; have H' := AS H; clear H; have p280 : 0 ≤ (x29_2 : Int) := of_decide_eq_true Z2; have q280 : x29_2 < (l1.length : Int) := of_decide_eq_true Z2; obtain ⟨ad280, e280, hx280_0, hx280_1⟩ := at_T53 HR1.out x29_2 p280 q280; cases e280; replace hx280_0 := (HB.out.cell (World.block_lt_of_cell? w _ hx280_0)).trans hx280_0; replace hx280_1 := (HB.out.cell (World.block_lt_of_cell? w _ hx280_1)).trans hx280_1; replace p280 := eq_true p280; replace q280 := eq_true q280; (try go_wp2_with (first | ((with_reducible refine gtd (N := 9) rfl ?_); refine bxe ?hg (N := 9) ?hd (cs := #[.string (⟨#[]⟩ : ByteArray), .string (⟨#[]⟩ : ByteArray)]) (t := 53) ?hr ?_; (case hd => rfl); (case hg => rfl); (case hr => exact Z11); intro gb281 hg w32 hbox hb; have BK281 := AS (hbox); have GW281 := AS ((Z207 : w.heap.size ≤ gb281)); have GE281 := AS ((Z207 : w.heap.size ≤ gb281)); have NB275_281 := AS ((Z186 : gb275 ≠ gb281)); have NB281_275 := AS ((Z187 : gb281 ≠ gb275)); have NB276_281 := AS ((Z198 : gb276 ≠ gb281)); have NB281_276 := AS ((Z199 : gb281 ≠ gb276)); replace HO_277000 := AS (Kd.R_below Z117 hb); replace HO_277001 := AS (Kd.R_below Z91 hb); replace BK275 := AS (bbl (g := gb275) (o := .cells #[.slice none 0 0, .slice none 0 0, .string (⟨#[]⟩ : ByteArray)] 191 (0, 0)) Z32 hb); replace BK276 := AS (bbl (g := gb276) (o := .cells #[u277000, u277001, .string x277002_1] 191 (0, 0)) Z48 hb); replace HB := AS (bst Z16 hb); clear hb hbox hg; have hnb33 := NB281_275.out; have hnc33 := NB275_281.out; have hnb34 := NB281_276.out; have hnc34 := NB276_281.out; have hcz35_0 := bc0 BK281.out; have hcz35_1 := bc1 BK281.out; have hfz35_0 := bfz BK281.out 0; have hfz35_1 := bfz BK281.out 1; have hnb36 := NB276_275.out; have hnc36 := NB275_276.out; have hcz37_0 := bc0 BK276.out; have hcz37_1 := bc1 BK276.out; have hcz37_2 := bc2 BK276.out; have hfz37_0 := bfz BK276.out 0; have hfz37_1 := bfz BK276.out 1; have hfz37_2 := bfz BK276.out 2) | ((with_reducible refine gtc (f := 118) rfl ?_); refine gsL (some 42) rfl rfl Tryz.func118 Z5 rfl #[.string x277002_1, .string ((rd_T53 l1 x29_2).f1)] rfl Z1 ?_; (with_reducible refine (whDM.calls k2 x277002_1 ((rd_T53 l1 x29_2).f1) t282 t283 t284 _ ?side1 A27.out).mono ?_); (case side1 => exact GL.below hG Z17); rintro e w38 ⟨rfl, hb⟩; refine ⟨_, rfl, ?_⟩; replace HO_277000 := AS (Kd.R_below (by (with_reducible repeat (first | apply Kd.R_alloc | apply Kd.R_drewN | apply Kd.R_drew)); exact (Kd.R_mono (Kd.R_far (p := ⟨gb281, 1, none⟩) (Kd.R_far (p := ⟨gb281, 0, none⟩) (Kd.R_types HO_277000.out BK281.out (by decide)) (fun _ hk => hk.2) (.string ((rd_T53 l1 x29_2).f0))) (fun _ hk => hk.2) (.string ((rd_T53 l1 x29_2).f1))) (fun _ h_ => h_.1))) hb); replace HO_277001 := AS (Kd.R_below (by (with_reducible repeat (first | apply Kd.R_alloc | apply Kd.R_drewN | apply Kd.R_drew)); exact (Kd.R_mono (Kd.R_far (p := ⟨gb281, 1, none⟩) (Kd.R_far (p := ⟨gb281, 0, none⟩) (Kd.R_types HO_277001.out BK281.out (by decide)) (fun _ hk => hk.2) (.string ((rd_T53 l1 x29_2).f0))) (fun _ hk => hk.2) (.string ((rd_T53 l1 x29_2).f1))) (fun _ h_ => h_.1))) hb); replace BK275 := AS (bbl (g := gb275) (o := .cells #[.slice none 0 0, .slice none 0 0, .string (⟨#[]⟩ : ByteArray)] 191 (0, 0)) Z81 hb); replace BK276 := AS (bbl (g := gb276) (o := .cells #[u277000, u277001, .string x277002_1] 191 (0, 0)) Z82 hb); replace BK281 := AS (bbl (g := gb281) (o := .cells #[.string ((rd_T53 l1 x29_2).f0), .string ((rd_T53 l1 x29_2).f1)] 53 (0, 0)) (by (with_reducible repeat (first | apply bdn | apply bdr | apply bal)); refine bpt (cs := #[.string ((rd_T53 l1 x29_2).f0), .string (⟨#[]⟩ : ByteArray)]) ?_ 1 _ rfl; (with_reducible repeat (first | apply bdn | apply bdr | apply bal)); refine bpt (cs := #[.string (⟨#[]⟩ : ByteArray), .string (⟨#[]⟩ : ByteArray)]) ?_ 0 _ rfl; (with_reducible repeat (first | apply bdn | apply bdr | apply bal)); exact BK281.out) hb); replace HB := AS (bst Z17 hb); (try clear hb); (try clear hb2); (try clear hk); (try clear hi)))); have n0_ := AS (Kd.R_drew HO_277000.out); have n1_ := AS (Kd.R_drew HO_277001.out); have n2_ := AS (bdr BK275.out); have n3_ := AS (bdr BK276.out); have n4_ := AS (bdr BK281.out); have n5_ := AS (bl1 HB.out); clear HO_277000 HO_277001; clear BK275 BK276; clear BK281 HB; have HO_277000 := n0_; have HO_277001 := n1_; have BK275 := n2_; have BK276 := n3_; have BK281 := n4_; have HB := n5_; clear n0_ n1_ n2_ n3_ n4_ n5_; have p285 : 0 ≤ (x29_2 : Int) := of_decide_eq_true Z2; have q285 : x29_2 < (l0.length : Int) := of_decide_eq_true Z2; obtain ⟨ad285, e285, hx285_0⟩ := Kd.at_int HR0.out x29_2 p285 q285; have hw285_0 := hx285_0; cases e285; replace hx285_0 := (HB.out.cell (World.block_lt_of_cell? w _ hx285_0)).trans hx285_0; replace p285 := eq_true p285; replace q285 := eq_true q285
             refine start_ (n := 20) (S := fun w' => w'.cell? ⟨gb276, 0, none⟩ = some (u277000) ∧ w'.cell? ⟨gb276, 1, none⟩ = some (u277001) ∧ w'.cell? ⟨gb276, 2, none⟩ = some (.string x277002_1) ∧ w'.cell? ⟨gb281, 0, none⟩ = some (.string ((rd_T53 l1 x29_2).f0)) ∧ w'.cell? ⟨gb281, 1, none⟩ = some (.string ((rd_T53 l1 x29_2).f1)) ∧ w'.cell? (ad285.add (x29_2).toNat) = some (.int .i64 (rd l0 x29_2))) (ds := [17, 19]) #[false, false, false, false, false, false, false, false, false, false, false, false, false, false, false, false, false, false, false, false] Z5 rfl rfl ⟨bc0 BK276.out, bc1 BK276.out, bc2 BK276.out, bc0 BK281.out, bc1 BK281.out, ((HB.out.cell (World.block_lt_of_cell? w _ hw285_0)).trans hw285_0)⟩ (fun hHeld => ?_); refine with_tabW szTO.tab12 szTO.bits12 (fun HT_ HW_ => ?_)
             generalize w38.drew = w39 at HO_277000 HO_277001 BK275 BK276 BK281 HB hx285_0 hHeld ⊢; refine pure_ (i := 0) (N := some 46) (v := ?_) (a' := ?_) #[true, false, false, false, false, false, false, false, false, false, false, false, false, false, false, false, false, false, false, false] rfl rfl (any_of HT_.out Z5) (fun _ _ _ h => h) (Or.inl ⟨by rfl, ?_⟩) ?_ ?_; rotate_left
             ·intro w'; go_simp; with_reducible rfl
             rotate_left
             ·simp only [Act.put, List.setIfInBounds_toArray, List.set_cons_zero, List.set_cons_succ, i64_w, i32_w]; rfl
             refine pure_ (i := 2) (N := some 48) (v := ?_) (a' := ?_) #[true, false, true, false, false, false, false, false, false, false, false, false, false, false, false, false, false, false, false, false] rfl rfl (any_of HT_.out Z5) (fun _ _ _ h => h) (Or.inl ⟨by rfl, ?_⟩) ?_ ?_; rotate_left
             ·intro w'; go_simp; with_reducible rfl
             rotate_left
             ·simp only [Act.put, List.setIfInBounds_toArray, List.set_cons_zero, List.set_cons_succ, i64_w, i32_w]; rfl
             refine pure_ (i := 3) (N := some 49) (v := ?_) (a' := ?_) #[true, false, true, true, false, false, false, false, false, false, false, false, false, false, false, false, false, false, false, false] rfl rfl (any_of HT_.out Z5) (fun _ _ _ h => h) (Or.inl ⟨by rfl, ?_⟩) ?_ ?_; rotate_left
             ·intro w'; go_simp; with_reducible rfl
             rotate_left
             ·simp only [Act.put, List.setIfInBounds_toArray, List.set_cons_zero, List.set_cons_succ, i64_w, i32_w]; rfl
             refine pure_ (i := 4) (N := some 50) (v := ?_) (a' := ?_) #[true, false, true, true, true, false, false, false, false, false, false, false, false, false, false, false, false, false, false, false] rfl rfl (any_of HT_.out Z5) (fun _ _ _ h => h) (Or.inl ⟨by rfl, ?_⟩) ?_ ?_; rotate_left
             ·intro w'; go_simp; with_reducible rfl
             rotate_left
             ·simp only [Act.put, List.setIfInBounds_toArray, List.set_cons_zero, List.set_cons_succ, i64_w, i32_w]; rfl
             refine pure_ (i := 8) (N := some 54) (v := ?_) (a' := ?_) #[true, false, true, true, true, false, false, false, true, false, false, false, false, false, false, false, false, false, false, false] rfl rfl (any_of HT_.out Z5) (fun _ _ _ h => h) (Or.inl ⟨by rfl, ?_⟩) ?_ ?_; rotate_left
             ·intro w'; go_simp; with_reducible rfl
             rotate_left
             ·simp only [Act.put, List.setIfInBounds_toArray, List.set_cons_zero, List.set_cons_succ, i64_w, i32_w]; rfl
             refine pure_ (i := 10) (N := some 56) (v := ?_) (a' := ?_) #[true, false, true, true, true, false, false, false, true, false, true, false, false, false, false, false, false, false, false, false] rfl rfl (any_of HT_.out Z5) (fun _ _ _ h => h) (Or.inl ⟨by rfl, ?_⟩) ?_ ?_; rotate_left
             ·intro w'; go_simp; with_reducible rfl
             rotate_left
             ·simp only [Act.put, List.setIfInBounds_toArray, List.set_cons_zero, List.set_cons_succ, i64_w, i32_w]; rfl
             refine pure_ (i := 12) (N := some 58) (v := ?_) (a' := ?_) #[true, false, true, true, true, false, false, false, true, false, true, false, true, false, false, false, false, false, false, false] rfl rfl (any_of HT_.out Z5) (fun _ _ _ h => h) (Or.inl ⟨by rfl, ?_⟩) ?_ ?_; rotate_left
             ·intro w'; go_simp; with_reducible rfl
             rotate_left
             ·simp only [Act.put, List.setIfInBounds_toArray, List.set_cons_zero, List.set_cons_succ, i64_w, i32_w]; rfl
             refine take_ (i := 1) (N := some 47) (v := ?_) (a' := ?_) #[true, true, true, true, true, false, false, false, true, false, true, false, true, false, false, false, false, false, false, false] rfl rfl (take_ofW HT_.out HW_.out Z5) (fun _ _ _ h => h) (Or.inl ⟨by rfl, ?_⟩) hHeld ?_ ?_; rotate_left
             ·rintro w' ⟨s0, s1, s2, s3, s4, s5⟩; go_simp; with_reducible rfl
             rotate_left
             ·simp only [Act.put, List.setIfInBounds_toArray, List.set_cons_zero, List.set_cons_succ, i64_w, i32_w]; rfl
             refine take_ (i := 5) (N := some 51) (v := ?_) (a' := ?_) #[true, true, true, true, true, true, false, false, true, false, true, false, true, false, false, false, false, false, false, false] rfl rfl (take_ofW HT_.out HW_.out Z5) (fun _ _ _ h => h) (Or.inl ⟨by rfl, ?_⟩) hHeld ?_ ?_; rotate_left
             ·rintro w' ⟨s0, s1, s2, s3, s4, s5⟩; go_simp; with_reducible rfl
             rotate_left
             ·simp only [Act.put, List.setIfInBounds_toArray, List.set_cons_zero, List.set_cons_succ, i64_w, i32_w]; rfl
             refine take_ (i := 9) (N := some 55) (v := ?_) (a' := ?_) #[true, true, true, true, true, true, false, false, true, true, true, false, true, false, false, false, false, false, false, false] rfl rfl (take_ofW HT_.out HW_.out Z5) (fun _ _ _ h => h) (Or.inl ⟨by rfl, ?_⟩) hHeld ?_ ?_; rotate_left
             ·rintro w' ⟨s0, s1, s2, s3, s4, s5⟩; go_simp; with_reducible rfl
             rotate_left
             ·simp only [Act.put, List.setIfInBounds_toArray, List.set_cons_zero, List.set_cons_succ, i64_w, i32_w]; rfl
             refine take_ (i := 11) (N := some 57) (v := ?_) (a' := ?_) #[true, true, true, true, true, true, false, false, true, true, true, true, true, false, false, false, false, false, false, false] rfl rfl (take_ofW HT_.out HW_.out Z5) (fun _ _ _ h => h) (Or.inl ⟨by rfl, ?_⟩) hHeld ?_ ?_; rotate_left
             ·rintro w' ⟨s0, s1, s2, s3, s4, s5⟩; go_simp; with_reducible rfl
             rotate_left
             ·simp only [Act.put, List.setIfInBounds_toArray, List.set_cons_zero, List.set_cons_succ, i64_w, i32_w]; rfl
             refine one_ (i := 6) (N := some 52) #[true, true, true, true, true, true, true, false, true, true, true, true, true, false, false, false, false, false, false, false] rfl rfl (one_of HT_.out Z5) (by decide) (fun K hK => ?_); refine value_ (w1 := ?_) (v := ?_) (by rfl) rfl ?_ ?_; rotate_left 2
             ·go_simp
              constructor
              ·rfl
              ·rfl
             refine hK.out _ _ ⟨(bce (bal BK276.out _) 0).trans rfl, (bce (bal BK276.out _) 1).trans rfl, (bce (bal BK276.out _) 2).trans rfl, (bce (bal BK281.out _) 0).trans rfl, (bce (bal BK281.out _) 1).trans rfl, (World.cell?_alloc_lt _ _ _ (World.block_lt_of_cell? _ _ (((HB.out.cell (World.block_lt_of_cell? w _ hw285_0)).trans hw285_0)))).trans (((HB.out.cell (World.block_lt_of_cell? w _ hw285_0)).trans hw285_0))⟩ (fun hHeld => ?_); clear hK K; refine norm_ (a' := ?_) ?_ ?_; rotate_left
             ·show Act.put _ (some 52) _ = _
              simp only [Act.put, List.setIfInBounds_toArray, List.set_cons_zero, List.set_cons_succ, i64_w, i32_w]; rfl
             refine one_ (i := 7) (N := some 53) #[true, true, true, true, true, true, true, true, true, true, true, true, true, false, false, false, false, false, false, false] rfl rfl (one_of HT_.out Z5) (by decide) (fun K hK => ?_); refine Kd.R_append_step (Kd.int .i64) (w0 := w) w.heap.size (by rfl) (.tmp 47) (.tmp 52) 25 3 (.int .i64 0) 8 rfl Tryz.underlying25 info3 rfl (by decide) (by omega) u277000 x277000_2 (rd l0 x29_2) [.int .i64 (rd l0 x29_2)] (fun _ => True) (fun _ => False) rfl rfl ?aP (fun _ hk => hk.elim) ?aF ?aO ?aB ?aS ?aL ?_
             (case aP => exact rfl)
             (case aB => exact Z17)
             (case aF => exact Z163)
             (case aO => exact Z117)
             (case aS => exact (bsz Z17))
             (case aL => have := LMc29.out; omega)
             intro v287 w40 ho hb hg hat; rw [← Ny286.out] at ho; have n0_ := AS (Kd.R_over' Z91 (Kd.R_typed Z117) (by decide) hg); have n1_ := AS (bgr (g := gb275) (o := .cells #[.slice none 0 0, .slice none 0 0, .string (⟨#[]⟩ : ByteArray)] 191 (0, 0)) Z32 hg (Kd.R_ne HO_277000.out BK275.out (by decide))); have n2_ := AS (bgr (g := gb276) (o := .cells #[u277000, u277001, .string x277002_1] 191 (0, 0)) Z48 hg (Kd.R_ne HO_277000.out BK276.out (by decide))); have n3_ := AS (bgr (g := gb281) (o := .cells #[.string ((rd_T53 l1 x29_2).f0), .string ((rd_T53 l1 x29_2).f1)] 53 (0, 0)) Z140 hg (Kd.R_ne HO_277000.out BK281.out (by decide))); have n4_ := AS (hb); have n5_ := AS (ho); clear HO_277001 BK275; clear BK276 BK281; clear HB HO_277000; have HO_277001 := n0_; have BK275 := n1_; have BK276 := n2_; have BK281 := n3_; have HB := n4_; have HO288 := n5_; clear n0_ n1_ n2_ n3_ n4_ n5_; clear ho hb hg hat; refine hK.out _ _ ⟨bc0 BK276.out, bc1 BK276.out, bc2 BK276.out, bc0 BK281.out, bc1 BK281.out, ((HB.out.cell (World.block_lt_of_cell? w _ hw285_0)).trans hw285_0)⟩ (fun hHeld => ?_); clear hK K; refine norm_ (a' := ?_) ?_ ?_; rotate_left
             ·show Act.put _ (some 53) _ = _
              simp only [Act.put, List.setIfInBounds_toArray, List.set_cons_zero, List.set_cons_succ, i64_w, i32_w]; rfl
             refine pure_ (i := 16) (N := some 62) (v := ?_) (a' := ?_) #[true, true, true, true, true, true, true, true, true, true, true, true, true, false, false, false, true, false, false, false] rfl rfl (any_of HT_.out Z5) (fun _ _ _ h => h) (Or.inl ⟨by rfl, ?_⟩) ?_ ?_; rotate_left
             ·intro w'; go_simp; with_reducible rfl
             rotate_left
             ·simp only [Act.put, List.setIfInBounds_toArray, List.set_cons_zero, List.set_cons_succ, i64_w, i32_w]; rfl
             refine one_ (i := 13) (N := some 59) #[true, true, true, true, true, true, true, true, true, true, true, true, true, true, false, false, true, false, false, false] rfl rfl (one_of HT_.out Z5) (by decide) (fun K hK => ?_); refine goes_ Tryz.func154 Z5 rfl #[.string ((rd_T53 l1 x29_2).f0), .string t282] (by rfl) rfl rfl Z1 ?_
             with_reducible refine (whole_Mul.calls k2 ((rd_T53 l1 x29_2).f0) t282 t289 _ ?side1 A30.out).mono ?_
             (case side1 => exact GL.below hG Z17)
             rintro e w41 ⟨rfl, hb⟩; refine ⟨_, rfl, ?_⟩; have n0_ := AS (Kd.R_below Z91 hb); have n1_ := AS (Kd.R_below Z150 hb); have n2_ := AS (bbl (g := gb275) (o := .cells #[.slice none 0 0, .slice none 0 0, .string (⟨#[]⟩ : ByteArray)] 191 (0, 0)) Z32 hb); have n3_ := AS (bbl (g := gb276) (o := .cells #[u277000, u277001, .string x277002_1] 191 (0, 0)) Z48 hb); have n4_ := AS (bbl (g := gb281) (o := .cells #[.string ((rd_T53 l1 x29_2).f0), .string ((rd_T53 l1 x29_2).f1)] 53 (0, 0)) Z140 hb); have n5_ := AS (bst Z17 hb); clear HO_277001 HO288; clear BK275 BK276; clear BK281 HB; have HO_277001 := n0_; have HO288 := n1_; have BK275 := n2_; have BK276 := n3_; have BK281 := n4_; have HB := n5_; clear n0_ n1_ n2_ n3_ n4_ n5_
             (try clear hb)
             (try clear hb2)
             (try clear hk)
             (try clear hi)
             refine hK.out _ _ ⟨bc0 BK276.out, bc1 BK276.out, bc2 BK276.out, bc0 BK281.out, bc1 BK281.out, ((HB.out.cell (World.block_lt_of_cell? w _ hw285_0)).trans hw285_0)⟩ (fun hHeld => ?_); clear hK K; refine norm_ (a' := ?_) ?_ ?_; rotate_left
             ·show Act.put _ (some 59) _ = _
              simp only [Act.put, List.setIfInBounds_toArray, List.set_cons_zero, List.set_cons_succ, i64_w, i32_w]; rfl
             refine one_ (i := 14) (N := some 60) #[true, true, true, true, true, true, true, true, true, true, true, true, true, true, true, false, true, false, false, false] rfl rfl (one_of HT_.out Z5) (by decide) (fun K hK => ?_); refine value_ (w1 := ?_) (v := ?_) (by rfl) rfl ?_ ?_; rotate_left 2
             ·go_simp
              constructor
              ·rfl
              ·rfl
             refine hK.out _ _ ⟨(bce (bal BK276.out _) 0).trans rfl, (bce (bal BK276.out _) 1).trans rfl, (bce (bal BK276.out _) 2).trans rfl, (bce (bal BK281.out _) 0).trans rfl, (bce (bal BK281.out _) 1).trans rfl, (World.cell?_alloc_lt _ _ _ (World.block_lt_of_cell? _ _ (((HB.out.cell (World.block_lt_of_cell? w _ hw285_0)).trans hw285_0)))).trans (((HB.out.cell (World.block_lt_of_cell? w _ hw285_0)).trans hw285_0))⟩ (fun hHeld => ?_); clear hK K; refine norm_ (a' := ?_) ?_ ?_; rotate_left
             ·show Act.put _ (some 60) _ = _
              simp only [Act.put, List.setIfInBounds_toArray, List.set_cons_zero, List.set_cons_succ, i64_w, i32_w]; rfl
             refine one_ (i := 15) (N := some 61) #[true, true, true, true, true, true, true, true, true, true, true, true, true, true, true, true, true, false, false, false] rfl rfl (one_of HT_.out Z5) (by decide) (fun K hK => ?_); refine Kd.R_append_step Kd.string (w0 := w) w.heap.size (by rfl) (.tmp 55) (.tmp 60) 189 51 (.string ⟨#[]⟩) 16 rfl Tryz.underlying189 info51 rfl (by decide) (by omega) u277001 x277001_2 t289 [.string t289] (fun _ => True) (fun _ => False) rfl rfl ?aP (fun _ hk => hk.elim) ?aF ?aO ?aB ?aS ?aL ?_
             (case aP => exact rfl)
             (case aB => exact Z17)
             (case aF => exact Z163)
             (case aO => exact Z91)
             (case aS => exact (bsz Z17))
             (case aL => have := LMc31.out; omega)
             intro v291 w42 ho hb hg hat; rw [← Ny290.out] at ho; have n0_ := AS (bgr (g := gb275) (o := .cells #[.slice none 0 0, .slice none 0 0, .string (⟨#[]⟩ : ByteArray)] 191 (0, 0)) Z32 hg (Kd.R_ne HO_277001.out BK275.out (by decide))); have n1_ := AS (bgr (g := gb276) (o := .cells #[u277000, u277001, .string x277002_1] 191 (0, 0)) Z48 hg (Kd.R_ne HO_277001.out BK276.out (by decide))); have n2_ := AS (bgr (g := gb281) (o := .cells #[.string ((rd_T53 l1 x29_2).f0), .string ((rd_T53 l1 x29_2).f1)] 53 (0, 0)) Z140 hg (Kd.R_ne HO_277001.out BK281.out (by decide))); have n3_ := AS (Kd.R_over' Z150 (Kd.R_typed Z91) (by decide) hg); have n4_ := AS (hb); have n5_ := AS (ho); clear BK275 BK276; clear BK281 HO288; clear HB HO_277001; have BK275 := n0_; have BK276 := n1_; have BK281 := n2_; have HO288 := n3_; have HB := n4_; have HO292 := n5_; clear n0_ n1_ n2_ n3_ n4_ n5_; clear ho hb hg hat; obtain ⟨Ao43, co43, eo43⟩ := Kd.R_slice HO288.out
             (first | subst eo43 | (injection eo43 with f1_ f2_ f3_; have f4_ := f1_.symm; have f5_ := f3_.symm; clear f1_ f2_ f3_; subst f4_; subst f5_))
             obtain ⟨Ao45, co45, eo45⟩ := Kd.R_slice HO292.out
             (first | subst eo45 | (injection eo45 with f1_ f2_ f3_; have f4_ := f1_.symm; have f5_ := f3_.symm; clear f1_ f2_ f3_; subst f4_; subst f5_))
             refine hK.out _ _ ⟨bc0 BK276.out, bc1 BK276.out, bc2 BK276.out, bc0 BK281.out, bc1 BK281.out, ((HB.out.cell (World.block_lt_of_cell? w _ hw285_0)).trans hw285_0)⟩ (fun hHeld => ?_); clear hK K; refine norm_ (a' := ?_) ?_ ?_; rotate_left
             ·show Act.put _ (some 61) _ = _
              simp only [Act.put, List.setIfInBounds_toArray, List.set_cons_zero, List.set_cons_succ, i64_w, i32_w]; rfl
             refine last_ (i := 17) (N := none) #[true, true, true, true, true, true, true, true, true, true, true, true, true, true, true, true, true, true, false, false] rfl rfl (one_of HT_.out Z5) (by decide) (fun K hK => ?_); have hs44 : w42.cell? ⟨gb276, 0, none⟩ = some (u277000) := bc0 BK276.out; have hfs44 := bfz BK276.out 0; have hns44_0 := NB275_276.out; have hns44_2 := NB281_276.out; have hms44_0 := NB276_275.out; have hms44_2 := NB276_281.out; refine skip_ (w1 := ?_) (by rfl) rfl ?_ ?_; rotate_left
             ·go_simp; rfl
             refine hK.out _ _ ?_; clear hK K; refine pure_ (i := 18) (N := some 63) (v := ?_) (a' := ?_) #[true, true, true, true, true, true, true, true, true, true, true, true, true, true, true, true, true, true, true, false] rfl rfl (any_of HT_.out Z5) (fun _ _ _ h => h) (Or.inl ⟨by rfl, ?_⟩) ?_ ?_; rotate_left
             ·intro w'; go_simp; with_reducible rfl
             rotate_left
             ·simp only [Act.put, List.setIfInBounds_toArray, List.set_cons_zero, List.set_cons_succ, i64_w, i32_w]; rfl
             refine last_ (i := 19) (N := none) #[true, true, true, true, true, true, true, true, true, true, true, true, true, true, true, true, true, true, true, true] rfl rfl (one_of HT_.out Z5) (by decide) (fun K hK => ?_); have hs46 : w42.cell? ⟨gb276, 1, none⟩ = some (u277001) := bc1 BK276.out; have hfs46 := bfz BK276.out 1; have hns46_0 := NB275_276.out; have hns46_2 := NB281_276.out; have hms46_0 := NB276_275.out; have hms46_2 := NB276_281.out; refine skip_ (w1 := ?_) (by rfl) rfl ?_ ?_; rotate_left
             ·go_simp; rfl
             refine hK.out _ _ ?_; clear hK K; refine done_ (done_of HT_.out Z5) ?_; (try go_wp2)
             go_roundg k2
             case measure => have := HK1.out; have := HK2.out; omega
             case rel => exact ⟨(wrap64 (x29_2 + 1)), (y286), (y290), (.slice Ao43 y286.length co43), (.slice Ao45 y290.length co45), Z4, H', ⟨Z143⟩, ⟨by (with_reducible repeat (first | apply Kd.R_alloc | apply Kd.R_drewN | apply Kd.R_drew)); exact Kd.R_mono (Kd.R_far (p := ⟨gb276, 1, none⟩) (Kd.R_far (p := ⟨gb276, 0, none⟩) (Kd.R_types HO288.out BK276.out (by decide)) (fun _ hk => hk.2) (.slice Ao43 y286.length co43)) (fun _ hk => hk.2) (.slice Ao45 y290.length co45)) (fun _ hk => trivial)⟩, ⟨by (with_reducible repeat (first | apply Kd.R_alloc | apply Kd.R_drewN | apply Kd.R_drew)); exact Kd.R_mono (Kd.R_far (p := ⟨gb276, 1, none⟩) (Kd.R_far (p := ⟨gb276, 0, none⟩) (Kd.R_types HO292.out BK276.out (by decide)) (fun _ hk => hk.2) (.slice Ao43 y286.length co43)) (fun _ hk => hk.2) (.slice Ao45 y290.length co45)) (fun _ hk => trivial)⟩, ⟨by (with_reducible repeat (first | apply bdn | apply bdr | apply bal)); refine blk_far ?_ NB275_276.out _; (with_reducible repeat (first | apply bdn | apply bdr | apply bal)); refine blk_far ?_ NB275_276.out _; (with_reducible repeat (first | apply bdn | apply bdr | apply bal)); exact BK275.out⟩, ⟨by (with_reducible repeat (first | apply bdn | apply bdr | apply bal)); refine bpt (cs := #[.slice Ao43 y286.length co43, u277001, .string x277002_1]) ?_ 1 _ rfl; (with_reducible repeat (first | apply bdn | apply bdr | apply bal)); refine bpt (cs := #[u277000, u277001, .string x277002_1]) ?_ 0 _ rfl; (with_reducible repeat (first | apply bdn | apply bdr | apply bal)); exact BK276.out⟩, ⟨Z17⟩⟩
            ·rw [if_neg c31] at H
             exact absurd H (by simp)
           ·rw [if_neg c29] at H
            exact absurd H (by simp)
          ·rw [if_neg c28] at H
           exact absurd H (by simp)
        ·rw [if_neg c21] at H
         exact absurd H (by simp)
       ·rw [if_neg c20] at H
        exact absurd H (by simp)
      ·rw [if_neg c19] at H
       have c19b0 : decide (x29_2 < (l1.length : Int)) = false := decide_eq_false c19; clear c19
       simp only [Option.some.injEq, Prod.mk.injEq] at H
       obtain ⟨rfl, rfl, rfl⟩ := H; have hnb47 := NB276_275.out; have hnc47 := NB275_276.out; have hcz48_0 := bc0 BK276.out; have hcz48_1 := bc1 BK276.out; have hcz48_2 := bc2 BK276.out; have hfz48_0 := bfz BK276.out 0; have hfz48_1 := bfz BK276.out 1; have hfz48_2 := bfz BK276.out 2; obtain ⟨Ao49, co49, eo49⟩ := Kd.R_slice HO_277000.out; subst eo49; have hcz50_0 := bc0 BK275.out; have hcz50_1 := bc1 BK275.out; have hcz50_2 := bc2 BK275.out; have hfz50_0 := bfz BK275.out 0; have hfz50_1 := bfz BK275.out 1; have hfz50_2 := bfz BK275.out 2; obtain ⟨Ao51, co51, eo51⟩ := Kd.R_slice HO_277001.out; subst eo51; go_wp2; refine bodyPost_ret (results_cell_row rfl _ _ gb275 191 #[.slice Ao49 x277000_2.length co49, .slice Ao51 x277001_2.length co51, .string x277002_1] (0, 0) _ rfl (by (with_reducible repeat (first | apply bdn | apply bdr | apply bal)); refine bpt (cs := #[.slice Ao49 x277000_2.length co49, .slice Ao51 x277001_2.length co51, .string (⟨#[]⟩ : ByteArray)]) ?_ 2 _ rfl; (with_reducible repeat (first | apply bdn | apply bdr | apply bal)); refine bpt (cs := #[.slice Ao49 x277000_2.length co49, .slice none 0 0, .string (⟨#[]⟩ : ByteArray)]) ?_ 1 _ rfl; (with_reducible repeat (first | apply bdn | apply bdr | apply bal)); refine bpt (cs := #[.slice none 0 0, .slice none 0 0, .string (⟨#[]⟩ : ByteArray)]) ?_ 0 _ rfl; (with_reducible repeat (first | apply bdn | apply bdr | apply bal)); exact BK275.out) Tryz.underlying191 rfl Z5) rfl ?_; exact ⟨_, _, Z3, by (with_reducible repeat (first | apply Kd.R_alloc | apply Kd.R_drewN | apply Kd.R_drew)); exact Kd.R_mono (Kd.R_far (p := ⟨gb275, 2, none⟩) (Kd.R_far (p := ⟨gb275, 1, none⟩) (Kd.R_far (p := ⟨gb275, 0, none⟩) (Kd.R_types HO_277000.out BK275.out (by decide)) (fun _ hk => hk.2) (.slice Ao49 x277000_2.length co49)) (fun _ hk => hk.2) (.slice Ao51 x277001_2.length co51)) (fun _ hk => hk.2) (.string x277002_1)) (fun _ hk => trivial), by (with_reducible repeat (first | apply Kd.R_alloc | apply Kd.R_drewN | apply Kd.R_drew)); exact Kd.R_mono (Kd.R_far (p := ⟨gb275, 2, none⟩) (Kd.R_far (p := ⟨gb275, 1, none⟩) (Kd.R_far (p := ⟨gb275, 0, none⟩) (Kd.R_types HO_277001.out BK275.out (by decide)) (fun _ hk => hk.2) (.slice Ao49 x277000_2.length co49)) (fun _ hk => hk.2) (.slice Ao51 x277001_2.length co51)) (fun _ hk => hk.2) (.string x277002_1)) (fun _ hk => trivial), Z16⟩
def size_checkQuotient.f (k : Nat) (l0 : List Int) (l1 : List (S53)) (l2 : List (S53)) : Option (Int) := (size_CheckAll.f k l0 (([l1, l2] : List (List (S53))))).bind fun t296 => (if t296 = 0 then ((szTO.f k l0 l2).bind fun bt297 => (if (bt297.1.length : Int) = 0 then (none) else (some 0))) else (none))
set_option maxHeartbeats 8000000 in
set_option maxRecDepth 100000 in
theorem size_checkQuotient.callsS (k : Nat) (A0 : Option Addr) (c0 : Nat) (l0 : List Int) (P1_ : Nat → Prop) (A1 : Option Addr) (c1 : Nat) (l1 : List (S53)) (P2_ : Nat → Prop) (A2 : Option Addr) (c2 : Nat) (l2 : List (S53)) (r : Int) (w : World) (hr0 : Kd.C (Kd.int .i64) w A0 l0.length l0) (hc0 : l0.length ≤ c0) (hs1 : Kd.V k53 53 w w.heap.size (fun k_ => P1_ k_) (.slice A1 l1.length c1) l1) (hs2 : Kd.V k53 53 w w.heap.size (fun k_ => P2_ k_) (.slice A2 l2.length c2) l2) (hG : GL w) (h : size_checkQuotient.f k l0 l1 l2 = some r) :
  Calls Tryz.prog 128 #[.slice A0 l0.length c0, .slice A1 l1.length c1, .slice A2 l2.length c2] w fun e w' => e = .returned (.int .i64 r) ∧ Below w.heap.size w w' := by
 have hu191 := Tryz.underlying191
 have hfd191_0 : ∀ (z0_ z1_ z2_ : Value) (W : World), (Instr.field 191 (.agg #[z0_, z1_, z2_]) 0).run Tryz.prog W = .ok z0_ W := fun _ _ _ _ => by rfl
 have HR0 := AS hr0; have HC0 := AS hc0; clear hr0 hc0; have HO1 := AS (show Kd.V k53 53 w w.heap.size (fun k_ => ((P1_ k_ ∨ P2_ k_) ∨ w.heap.size ≤ k_)) (.slice A1 l1.length c1) l1 from Kd.V_mono hs1 (fun k_ hk => .inl (.inl hk))); have HO2 := AS (show Kd.V k53 53 w w.heap.size (fun k_ => ((P1_ k_ ∨ P2_ k_) ∨ w.heap.size ≤ k_)) (.slice A2 l2.length c2) l2 from Kd.V_mono hs2 (fun k_ hk => .inl (.inr hk))); have HB := AS (Below.refl w.heap.size w); have H : ((size_CheckAll.f k l0 (([l1, l2] : List (List (S53))))).bind fun t296 => (if t296 = 0 then ((szTO.f k l0 l2).bind fun bt297 => (if (bt297.1.length : Int) = 0 then (none) else (some 0))) else (none))) = some r := h; clear h
 obtain ⟨y293, hy293⟩ : ∃ y_ : List (List (S53)), y_ = (([l1, l2] : List (List (S53)))) := ⟨_, rfl⟩
 replace H : ((size_CheckAll.f k l0 y293).bind fun t296 => (if t296 = 0 then ((szTO.f k l0 l2).bind fun bt297 => (if (bt297.1.length : Int) = 0 then (none) else (some 0))) else (none))) = some r := by first | (rw [hy293]; with_reducible exact H) | (have H2_ := (Option.bind_some _ _).symm.trans H; rw [hy293]; with_reducible exact H2_) | (have H2_ := (Option.bind_some _ _).symm.trans H; with_reducible exact H2_) | with_reducible exact H | (rw [hy293]; exact H) | exact H
 have Ny293 := AS hy293; clear hy293; replace H := Option.bind_eq_some_iff.mp H; obtain ⟨t296, A40, H⟩ := H; replace H : (if t296 = 0 then ((szTO.f k l0 l2).bind fun bt297 => (if (bt297.1.length : Int) = 0 then (none) else (some 0))) else (none)) = some r := H; have A4 := AS A40; clear A40
 by_cases c5 : t296 = 0
 ·rw [if_pos c5] at H
  have c5b0 : (t296 == 0) = true := beq_iff_eq.mpr c5; have c5b1 : (t296 != 0) = false := bne_eq_false_iff_eq.mpr c5; clear c5; replace H := Option.bind_eq_some_iff.mp H; obtain ⟨⟨t297, t300, t303⟩, A60, H⟩ := H; replace H : (if (t297.length : Int) = 0 then (none) else (some 0)) = some r := H; have A6 := AS A60; clear A60
  by_cases c7 : (t297.length : Int) = 0
  ·rw [if_pos c7] at H
   exact absurd H (by simp)
  ·rw [if_neg c7] at H
   have c7b0 : ((t297.length : Int) == 0) = false := beq_eq_false_iff_ne.mpr c7; have c7b1 : ((t297.length : Int) != 0) = true := bne_iff_ne.mpr c7
   have c7b2 : ¬ (t297 = []) := fun h_ => c7 (by rw [h_]; rfl)
   obtain rfl := Option.some.inj H; go_enter Tryz.func128, Tryz.ntmps128; go_wp2_with (first | ((with_reducible refine gtd (N := 11) rfl ?_); refine Kd.N_lit (Kd.slice 53 k53) _ 134 ?hg (N' := 11) ?hd (xs := ([l1, l2] : List (List (S53)))) (inner := [.slice A1 l1.length c1, .slice A2 l2.length c2]) (ok := (fun k_ => ((P1_ k_ ∨ P2_ k_) ∨ w.heap.size ≤ k_))) (okp := (fun k_ => ((P1_ k_ ∨ P2_ k_) ∨ w.heap.size ≤ k_))) ?hr ?hp (fun _ hk => hk) ((show ∀ k_, w.heap.size ≤ k_ → (fun k_ => ((P1_ k_ ∨ P2_ k_) ∨ w.heap.size ≤ k_)) k_ from fun k_ hk => (.inr (Nat.le_trans (bsz Z0) hk))) _ (Nat.le_refl _)) (Below.refl _ _) (Nat.le_refl _) (by simp) ?_; (case hd => rfl); (case hg => rfl); (case hr => exact Z11); (case hp => exact (Reps.one (show Kd.FK (Kd.slice 53 k53) _ _ l1 [.slice A1 l1.length c1] from (Kd.FK_slice_mk (Kd.V_reads' (Kd.V_mono (ok' := (fun k_ => ((P1_ k_ ∨ P2_ k_) ∨ w.heap.size ≤ k_))) (HO1.out) (fun k_ hk => hk))).2.1 (Kd.V_F (Kd.V_mono (ok' := (fun k_ => ((P1_ k_ ∨ P2_ k_) ∨ w.heap.size ≤ k_))) (HO1.out) (fun k_ hk => hk))))) (Reps.one (show Kd.FK (Kd.slice 53 k53) _ _ l2 [.slice A2 l2.length c2] from (Kd.FK_slice_mk (Kd.V_reads' (Kd.V_mono (ok' := (fun k_ => ((P1_ k_ ∨ P2_ k_) ∨ w.heap.size ≤ k_))) (HO2.out) (fun k_ hk => hk))).2.1 (Kd.V_F (Kd.V_mono (ok' := (fun k_ => ((P1_ k_ ∨ P2_ k_) ∨ w.heap.size ≤ k_))) (HO2.out) (fun k_ hk => hk))))) (Reps.none _ _)))); intro v294 w8 ho9 hb hg_ hnew_; clear hg_ hnew_; (first | rw [← Ny293.out] at ho9 | (simp only [Int.reduceToNat] at ho9; rw [← Ny293.out] at ho9)); have HO295 := AS (Kd.N_lower ho9 (bsz Z0)); replace HO1 := AS (Kd.V_elder' Z19 (Kd.N_base ho9) hb); replace HO2 := AS (Kd.V_elder' Z46 (Kd.N_base ho9) hb); replace HB := AS (bst Z0 hb); clear hb ho9; obtain ⟨Ao10, co10, eo10⟩ := Kd.N_slice HO295.out; subst eo10) | ((with_reducible refine gtc (f := 148) rfl ?_); refine gsL (some 12) rfl rfl Tryz.func148 Z5 rfl #[.slice A0 l0.length c0, .slice Ao10 y293.length co10] rfl Z1 ?_; (with_reducible refine (size_CheckAll.calls k _ _ l0 _ _ y293 t296 _ ?side1 ?side2 ?side3 ?side4 ?side5 A4.out).mono ?_); (case side1 => exact Z10); (case side2 => exact Z72); (case side3 => repeat (first | exact (Kd.N_reads' HO295.out).2.2 | (with_reducible refine Kd.C_alloc ?_ _) | (with_reducible refine Kd.C_drewN ?_ _) | (with_reducible refine Kd.C_drew ?_))); (case side4 => exact (Kd.N_reads' HO295.out).2.1); (case side5 => exact Z182); rintro e w11 ⟨rfl, hb⟩; refine ⟨_, rfl, ?_⟩; replace HO1 := AS (Kd.V_below Z19 hb); replace HO2 := AS (Kd.V_below Z46 hb); replace HO295 := AS (Kd.N_below Z151 hb); replace HB := AS (bst Z0 hb); (try clear hb); (try clear hb2); (try clear hk); (try clear hi)) | ((with_reducible refine gtc (f := 149) rfl ?_); refine gsL (some 18) rfl rfl Tryz.func149 Z5 rfl #[.slice A0 l0.length c0, .slice A2 l2.length c2] rfl Z1 ?_; (with_reducible refine (szTO.calls k _ _ l0 _ _ l2 t297 t300 t303 _ ?side1 ?side2 ?side3 ?side4 ?side5 A6.out).mono ?_); (case side1 => exact Z10); (case side2 => exact Z72); (case side3 => exact Z128); (case side4 => exact (Kd.V_reads' HO2.out).2.1); (case side5 => exact Z182); rintro e w12 ⟨v298, v301, rfl, ho0, ho1, hb⟩; refine ⟨_, rfl, ?_⟩; have HO299 := AS (Kd.R_lower (Kd.R_newM (M := fun k_ => (w.heap.size ≤ k_)) ho0 (bsz Z0) (fun k_ h_ => h_)) (bsz Z0)); have HO302 := AS (Kd.R_lower (Kd.R_newM (M := fun k_ => (w.heap.size ≤ k_)) ho1 (bsz Z0) (fun k_ h_ => h_)) (bsz Z0)); replace HO1 := AS (Kd.V_mono (Kd.V_told (Kd.V_told (Kd.V_old Z19 hb) (Kd.R_base ho0)) (Kd.R_base ho1)) (fun _ h_ => h_.1)); replace HO2 := AS (Kd.V_mono (Kd.V_told (Kd.V_told (Kd.V_old Z46 hb) (Kd.R_base ho0)) (Kd.R_base ho1)) (fun _ h_ => h_.1)); replace HO295 := AS (Kd.N_mono (Kd.N_told (Kd.N_told (Kd.N_old Z151 hb) (Kd.R_base ho0)) (Kd.R_base ho1)) (fun _ h_ => h_.1)); replace HB := AS (bst Z0 hb); (try clear hb); (try clear hb2); (try clear hk); (try clear hi); (try clear ho0); (try clear ho1); obtain ⟨Ao13, co13, eo13⟩ := Kd.R_slice HO302.out; subst eo13; obtain ⟨Ao14, co14, eo14⟩ := Kd.R_slice HO299.out; subst eo14)); go_ret; exact ⟨Z3, Z0⟩
 ·rw [if_neg c5] at H
  exact absurd H (by simp)
theorem size_checkQuotient.calls (k : Nat) (A0 : Option Addr) (c0 : Nat) (l0 : List Int) (A1 : Option Addr) (c1 : Nat) (l1 : List (S53)) (A2 : Option Addr) (c2 : Nat) (l2 : List (S53)) (r : Int) (w : World) (hr0 : Kd.C (Kd.int .i64) w A0 l0.length l0) (hc0 : l0.length ≤ c0) (hr1 : Kd.C k53 w A1 l1.length l1) (hc1 : l1.length ≤ c1) (hr2 : Kd.C k53 w A2 l2.length l2) (hc2 : l2.length ≤ c2) (hG : GL w) (h : size_checkQuotient.f k l0 l1 l2 = some r) :
  Calls Tryz.prog 128 #[.slice A0 l0.length c0, .slice A1 l1.length c1, .slice A2 l2.length c2] w fun e w' => e = .returned (.int .i64 r) ∧ Below w.heap.size w w' :=
 size_checkQuotient.callsS k _ _ l0 (fun k_ => k_ < w.heap.size) _ _ l1 (fun k_ => k_ < w.heap.size) _ _ l2 r w hr0 hc0 (Kd.V_mk hc1 (Kd.F_below (Kd.C_F k53_heap hr1) (Below.refl w.heap.size w))) (Kd.V_mk hc2 (Kd.F_below (Kd.C_F k53_heap hr2) (Below.refl w.heap.size w))) hG h

def whole_Neg.f (a0 : ByteArray) : Option (ByteArray) := (whole_split.f a0).bind fun bt304 => ((whole_join.f (!bt304.1) bt304.2).bind fun t306 => (some t306))
set_option maxHeartbeats 8000000 in
set_option maxRecDepth 100000 in
theorem whole_Neg.calls (a0 : ByteArray) (r : ByteArray) (w : World) (hG : GL w) (h : whole_Neg.f a0 = some r) :
  Calls Tryz.prog 117 #[.string a0] w fun e w' => e = .returned (.string r) ∧ Drawn0 w w' := by
 have HB := AS (Below.refl w.heap.size w); have H : ((whole_split.f a0).bind fun bt304 => ((whole_join.f (!bt304.1) bt304.2).bind fun t306 => (some t306))) = some r := h; clear h; replace H := Option.bind_eq_some_iff.mp H; obtain ⟨⟨t304, t305⟩, A20, H⟩ := H; replace H : ((whole_join.f (!t304) t305).bind fun t306 => (some t306)) = some r := H; have A2 := AS A20; clear A20; replace H := Option.bind_eq_some_iff.mp H; obtain ⟨t306, A30, H⟩ := H; replace H : (some t306) = some r := H; have A3 := AS A30; clear A30; obtain rfl := Option.some.inj H; go_enter Tryz.func117, Tryz.ntmps117; go_wp2_with (first | ((with_reducible refine gtc (f := 98) rfl ?_); refine gsL (some 7) rfl rfl Tryz.func98 Z5 rfl #[.string a0] rfl Z1 ?_; (with_reducible refine (whole_split.calls a0 t304 t305 _ ?side1 A2.out).mono ?_); (case side1 => exact Z182); rintro e w' ⟨rfl, ⟨nd, rfl⟩⟩; refine ⟨_, rfl, ?_⟩) | ((with_reducible refine gtc (f := 140) rfl ?_); refine gsL (some 13) rfl rfl Tryz.func140 Z5 rfl #[.bool (!t304), .string t305] rfl Z1 ?_; (with_reducible refine (whole_join.calls (!t304) t305 t306 _ ?side1 A3.out).mono ?_); (case side1 => exact Z182); rintro e w' ⟨rfl, ⟨nd, rfl⟩⟩; refine ⟨_, rfl, ?_⟩)); go_ret; exact ⟨Z4, Z13⟩
def frSi.f (a0_0 : ByteArray) (a0_1 : ByteArray) : Option (Int) := (whole_Sign.f a0_0).bind fun t308 => (some t308)
set_option maxHeartbeats 8000000 in
set_option maxRecDepth 100000 in
theorem frSi.calls (a0_0 : ByteArray) (a0_1 : ByteArray) (r : Int) (w : World) (hG : GL w) (h : frSi.f a0_0 a0_1 = some r) :
  Calls Tryz.prog 68 #[.agg #[.string a0_0, .string a0_1]] w fun e w' => e = .returned (.int .i64 r) ∧ Below w.heap.size w w' := by
 have hu53 := Tryz.underlying53; have HB := AS (Below.refl w.heap.size w); have H : ((whole_Sign.f a0_0).bind fun t308 => (some t308)) = some r := h; clear h; replace H := Option.bind_eq_some_iff.mp H; obtain ⟨t308, A20, H⟩ := H; replace H : (some t308) = some r := H; have A2 := AS A20; clear A20; obtain rfl := Option.some.inj H; go_enter Tryz.func68, Tryz.ntmps68; go_wp2_with (first | ((with_reducible refine gtd (N := 1) rfl ?_); refine bxe ?hg (N := 1) ?hd (cs := #[.string a0_0, .string a0_1]) (t := 53) ?hr ?_; (case hd => rfl); (case hg => rfl); (case hr => exact Z11); intro gb307 hg w3 hbox hb; have BK307 := AS (hbox); have GW307 := AS ((Z183 : w.heap.size ≤ gb307)); have GE307 := AS ((Z183 : w.heap.size ≤ gb307)); replace HB := AS (bst Z0 hb); clear hb hbox hg; have hcz4_0 := bc0 BK307.out; have hcz4_1 := bc1 BK307.out; have hfz4_0 := bfz BK307.out 0; have hfz4_1 := bfz BK307.out 1) | ((with_reducible refine gtc (f := 88) rfl ?_); refine gsL (some 5) rfl rfl Tryz.func88 Z5 rfl #[.string a0_0] rfl Z1 ?_; (with_reducible refine (whole_Sign.calls a0_0 t308 _ ?side1 A2.out).mono ?_); (case side1 => exact GL.below hG Z132); rintro e w' ⟨rfl, ⟨nd, rfl⟩⟩; refine ⟨_, rfl, ?_⟩)); go_ret; exact ⟨Z3, Z132⟩
def frlo.j0 : Nat → ByteArray → ByteArray → Option (ByteArray × ByteArray)
 | 0, _, _ => none
 | k + 1, x0, x1 => (whole_Gcd.f k x0 x1).bind fun t313 => (if t313.toList = ([49] : List UInt8) then (some (x0, x1)) else ((whDM.f k x0 t313).bind fun bt314 => ((whDM.f k x1 t313).bind fun bt317 => (some (bt314.1, bt317.1)))))
def frlo.f (k : Nat) (a0 : ByteArray) (a1 : ByteArray) : Option (ByteArray × ByteArray) := (whole_Sign.f a1).bind fun t310 => (if t310 < 0 then ((whole_Neg.f a0).bind fun t311 => ((whole_Neg.f a1).bind fun t312 => (frlo.j0 k t311 t312))) else (frlo.j0 k a0 a1))
set_option maxHeartbeats 8000000 in
set_option maxRecDepth 100000 in
theorem frlo.calls (k : Nat) (a0 : ByteArray) (a1 : ByteArray) (r1 : ByteArray) (r2 : ByteArray) (w : World) (hG : GL w) (h : frlo.f k a0 a1 = some (r1, r2)) :
  Calls Tryz.prog 89 #[.string a0, .string a1] w fun e w' => e = .returned (.agg #[.string r1, .string r2]) ∧ Below w.heap.size w w' := by
 have hu53 := Tryz.underlying53; have HB := AS (Below.refl w.heap.size w); have H : ((whole_Sign.f a1).bind fun t310 => (if t310 < 0 then ((whole_Neg.f a0).bind fun t311 => ((whole_Neg.f a1).bind fun t312 => (frlo.j0 k t311 t312))) else (frlo.j0 k a0 a1))) = some (r1, r2) := h; clear h; replace H := Option.bind_eq_some_iff.mp H; obtain ⟨t310, A30, H⟩ := H; replace H : (if t310 < 0 then ((whole_Neg.f a0).bind fun t311 => ((whole_Neg.f a1).bind fun t312 => (frlo.j0 k t311 t312))) else (frlo.j0 k a0 a1)) = some (r1, r2) := H; have A3 := AS A30; clear A30; have HC4 := AS H; clear H; go_enter Tryz.func89, Tryz.ntmps89
 go_upto_if 8 with (first | ((with_reducible refine gtd (N := 4) rfl ?_); refine bxe ?hg (N := 4) ?hd (cs := #[.string (⟨#[]⟩ : ByteArray), .string (⟨#[]⟩ : ByteArray)]) (t := 53) ?hr ?_; (case hd => rfl); (case hg => rfl); (case hr => exact Z11); intro gb309 hg w5 hbox hb; have BK309 := AS (hbox); have GW309 := AS ((Z183 : w.heap.size ≤ gb309)); have GE309 := AS ((Z183 : w.heap.size ≤ gb309)); replace HB := AS (bst Z0 hb); clear hb hbox hg) | ((with_reducible refine gtc (f := 88) rfl ?_); refine gsL (some 7) rfl rfl Tryz.func88 Z5 rfl #[.string a1] rfl Z1 ?_; (with_reducible refine (whole_Sign.calls a1 t310 _ ?side1 A3.out).mono ?_); (case side1 => exact Z209); rintro e w' ⟨rfl, ⟨nd, rfl⟩⟩; refine ⟨_, rfl, ?_⟩))
 (try simp only [Act.put, List.setIfInBounds_toArray, List.set_cons_zero, List.set_cons_succ])
 go_cut [0, 1] (fun v0 v1 wc => ∃ (kq : Nat) (x0_3 : ByteArray) (x1_3 : ByteArray), v0 = .string x0_3 ∧ v1 = .string x1_3 ∧ Aside0 (frlo.j0 kq x0_3 x1_3 = some (r1, r2)) ∧ Aside0 (kq ≤ k) ∧ Aside0 (wc.heap[gb309]? = some (.cells #[.string (⟨#[]⟩ : ByteArray), .string (⟨#[]⟩ : ByteArray)] 53 (0, 0))) ∧ Aside0 (Below w.heap.size w wc))
 case first =>
  have H := HC4.out; clear HC4
  by_cases c6 : t310 < 0
  ·rw [if_pos c6] at H
   have c6b0 : decide (t310 < 0) = true := decide_eq_true c6; clear c6
   (first | rw [c6b0] | (simp only [i64_w, i32_w]; rw [c6b0]) | skip)
   replace H := Option.bind_eq_some_iff.mp H; obtain ⟨t311, A70, H⟩ := H; replace H : ((whole_Neg.f a1).bind fun t312 => (frlo.j0 k t311 t312)) = some (r1, r2) := H; have A7 := AS A70; clear A70; replace H := Option.bind_eq_some_iff.mp H; obtain ⟨t312, A80, H⟩ := H; replace H : (frlo.j0 k t311 t312) = some (r1, r2) := H; have A8 := AS A80; clear A80; have H' := AS H; clear H; go_wp2_with (first | ((with_reducible refine gtc (f := 117) rfl ?_); refine gsL (some 10) rfl rfl Tryz.func117 Z5 rfl #[.string a0] rfl Z1 ?_; (with_reducible refine (whole_Neg.calls a0 t311 _ ?side1 A7.out).mono ?_); (case side1 => exact Z209); rintro e w' ⟨rfl, ⟨nd, rfl⟩⟩; refine ⟨_, rfl, ?_⟩) | ((with_reducible refine gtc (f := 117) rfl ?_); refine gsL (some 12) rfl rfl Tryz.func117 Z5 rfl #[.string a1] rfl Z1 ?_; (with_reducible refine (whole_Neg.calls a1 t312 _ ?side1 A8.out).mono ?_); (case side1 => exact Z209); rintro e w' ⟨rfl, ⟨nd, rfl⟩⟩; refine ⟨_, rfl, ?_⟩)); go_meet
   case rel => exact ⟨_, (t311), (t312), Z4, Z4, H', ⟨Z61⟩, ⟨Z92⟩, ⟨Z14⟩⟩
  ·rw [if_neg c6] at H
   have c6b0 : decide (t310 < 0) = false := decide_eq_false c6; clear c6
   (first | rw [c6b0] | (simp only [i64_w, i32_w]; rw [c6b0]) | skip)
   have H' := AS H; clear H; go_wp2; go_meet
   case rel => exact ⟨_, (a0), (a1), Z4, Z4, H', ⟨Z61⟩, ⟨Z92⟩, ⟨Z14⟩⟩
 case rest =>
  clear HC4; (try clear c1); (try clear p2); (try clear c6); (try clear c6b0); (try clear c8); obtain ⟨kq, x0_3, x1_3, rfl, rfl, HA, HJ3, BK309, HB⟩ := hcut
  cases kq with
  | zero => exact absurd HA.out (by simp [frlo.j0])
  | succ kj3 =>
   have H := HA.out; clear HA
   simp only [frlo.j0] at H
   replace H := Option.bind_eq_some_iff.mp H; obtain ⟨t313, A90, H⟩ := H; replace H : (if t313.toList = ([49] : List UInt8) then (some (x0_3, x1_3)) else ((whDM.f kj3 x0_3 t313).bind fun bt314 => ((whDM.f kj3 x1_3 t313).bind fun bt317 => (some (bt314.1, bt317.1))))) = some (r1, r2) := H; have A9 := AS A90; clear A90
   by_cases c10 : t313.toList = ([49] : List UInt8)
   ·rw [if_pos c10] at H
    have c10b0 : (t313.toList == ([49] : List UInt8)) = true := beq_iff_eq.mpr c10; have c10b1 : (t313.toList != ([49] : List UInt8)) = false := bne_eq_false_iff_eq.mpr c10; clear c10
    simp only [Option.some.injEq, Prod.mk.injEq] at H
    obtain ⟨rfl, rfl⟩ := H; go_wp2_with (first | ((with_reducible refine gtc (f := 97) rfl ?_); refine gsL (some 15) rfl rfl Tryz.func97 Z5 rfl #[.string x0_3, .string x1_3] rfl Z1 ?_; (with_reducible refine (whole_Gcd.calls kj3 x0_3 x1_3 t313 _ ?side1 A9.out).mono ?_); (case side1 => exact Z209); rintro e w11 ⟨rfl, hb⟩; refine ⟨_, rfl, ?_⟩; replace BK309 := AS (bbl (g := gb309) (o := .cells #[.string (⟨#[]⟩ : ByteArray), .string (⟨#[]⟩ : ByteArray)] 53 (0, 0)) Z92 hb); replace HB := AS (bst Z14 hb); (try clear hb); (try clear hb2); (try clear hk); (try clear hi); have hcz12_0 := bc0 BK309.out; have hcz12_1 := bc1 BK309.out; have hfz12_0 := bfz BK309.out 0; have hfz12_1 := bfz BK309.out 1)); refine bodyPost_ret (results_cell_row rfl _ _ gb309 53 #[.string x0_3, .string x1_3] (0, 0) _ rfl (by (with_reducible repeat (first | apply bdn | apply bdr | apply bal)); refine bpt (cs := #[.string x0_3, .string (⟨#[]⟩ : ByteArray)]) ?_ 1 _ rfl; (with_reducible repeat (first | apply bdn | apply bdr | apply bal)); refine bpt (cs := #[.string (⟨#[]⟩ : ByteArray), .string (⟨#[]⟩ : ByteArray)]) ?_ 0 _ rfl; (with_reducible repeat (first | apply bdn | apply bdr | apply bal)); exact BK309.out) Tryz.underlying53 rfl Z5) rfl ?_; exact ⟨Z3, Z14⟩
   ·rw [if_neg c10] at H
    have c10b0 : (t313.toList == ([49] : List UInt8)) = false := beq_eq_false_iff_ne.mpr c10; have c10b1 : (t313.toList != ([49] : List UInt8)) = true := bne_iff_ne.mpr c10; replace H := Option.bind_eq_some_iff.mp H; obtain ⟨⟨t314, t315, t316⟩, A130, H⟩ := H; replace H : ((whDM.f kj3 x1_3 t313).bind fun bt317 => (some (t314, bt317.1))) = some (r1, r2) := H; have A13 := AS A130; clear A130; replace H := Option.bind_eq_some_iff.mp H; obtain ⟨⟨t317, t318, t319⟩, A140, H⟩ := H; replace H : (some (t314, t317)) = some (r1, r2) := H; have A14 := AS A140; clear A140
    simp only [Option.some.injEq, Prod.mk.injEq] at H
    obtain ⟨rfl, rfl⟩ := H; go_wp2_with (first | ((with_reducible refine gtc (f := 97) rfl ?_); refine gsL (some 15) rfl rfl Tryz.func97 Z5 rfl #[.string x0_3, .string x1_3] rfl Z1 ?_; (with_reducible refine (whole_Gcd.calls kj3 x0_3 x1_3 t313 _ ?side1 A9.out).mono ?_); (case side1 => exact Z209); rintro e w15 ⟨rfl, hb⟩; refine ⟨_, rfl, ?_⟩; replace BK309 := AS (bbl (g := gb309) (o := .cells #[.string (⟨#[]⟩ : ByteArray), .string (⟨#[]⟩ : ByteArray)] 53 (0, 0)) Z92 hb); replace HB := AS (bst Z14 hb); (try clear hb); (try clear hb2); (try clear hk); (try clear hi)) | ((with_reducible refine gtc (f := 118) rfl ?_); refine gsL (some 21) rfl rfl Tryz.func118 Z5 rfl #[.string x0_3, .string t313] rfl Z1 ?_; (with_reducible refine (whDM.calls kj3 x0_3 t313 t314 t315 t316 _ ?side1 A13.out).mono ?_); (case side1 => exact Z209); rintro e w16 ⟨rfl, hb⟩; refine ⟨_, rfl, ?_⟩; replace BK309 := AS (bbl (g := gb309) (o := .cells #[.string (⟨#[]⟩ : ByteArray), .string (⟨#[]⟩ : ByteArray)] 53 (0, 0)) Z92 hb); replace HB := AS (bst Z14 hb); (try clear hb); (try clear hb2); (try clear hk); (try clear hi)) | ((with_reducible refine gtc (f := 118) rfl ?_); refine gsL (some 28) rfl rfl Tryz.func118 Z5 rfl #[.string x1_3, .string t313] rfl Z1 ?_; (with_reducible refine (whDM.calls kj3 x1_3 t313 t317 t318 t319 _ ?side1 A14.out).mono ?_); (case side1 => exact Z209); rintro e w17 ⟨rfl, hb⟩; refine ⟨_, rfl, ?_⟩; replace BK309 := AS (bbl (g := gb309) (o := .cells #[.string (⟨#[]⟩ : ByteArray), .string (⟨#[]⟩ : ByteArray)] 53 (0, 0)) Z92 hb); replace HB := AS (bst Z14 hb); (try clear hb); (try clear hb2); (try clear hk); (try clear hi); have hcz18_0 := bc0 BK309.out; have hcz18_1 := bc1 BK309.out; have hfz18_0 := bfz BK309.out 0; have hfz18_1 := bfz BK309.out 1)); refine bodyPost_ret (results_cell_row rfl _ _ gb309 53 #[.string t314, .string t317] (0, 0) _ rfl (by (with_reducible repeat (first | apply bdn | apply bdr | apply bal)); refine bpt (cs := #[.string t314, .string (⟨#[]⟩ : ByteArray)]) ?_ 1 _ rfl; (with_reducible repeat (first | apply bdn | apply bdr | apply bal)); refine bpt (cs := #[.string (⟨#[]⟩ : ByteArray), .string (⟨#[]⟩ : ByteArray)]) ?_ 0 _ rfl; (with_reducible repeat (first | apply bdn | apply bdr | apply bal)); exact BK309.out) Tryz.underlying53 rfl Z5) rfl ?_; exact ⟨Z3, Z14⟩
def fraction_Div.f (k : Nat) (a0_0 : ByteArray) (a0_1 : ByteArray) (a1_0 : ByteArray) (a1_1 : ByteArray) : Option (ByteArray × ByteArray × Int) := (frSi.f a1_0 a1_1).bind fun t323 => (if t323 = 0 then (none) else ((whole_Mul.f k a0_0 a1_1).bind fun t324 => ((whole_Mul.f k a0_1 a1_0).bind fun t325 => ((frlo.f k t324 t325).bind fun bt326 => (some (bt326.1, bt326.2, 0))))))
def fraction_Div.T3 : Bool × List (List Nat × List Nat) := (true, [([], []), ([0], [0]), ([], []), ([2], [2]), ([1, 3], [1, 3]), ([], []), ([5], [5]), ([], []), ([7], [7]), ([6, 8, 4], [6, 8]), ([4, 9, 9], [4, 9]), ([10, 10, 0, 1, 2, 3, 4, 5, 6, 7, 8, 9, 10], [10]), ([11, 0, 1, 2, 3, 4, 5, 6, 7, 8, 9, 10, 11], [])])
def fraction_Div.B3 : List Nat := [0, 1, 0, 4, 15, 0, 32, 0, 128, 511, 1023, 2047, 4095]
theorem fraction_Div.tab3 : rtab .any (opsOf Tryz.f183 3) = fraction_Div.T3 := by kernel_rfl
theorem fraction_Div.bits3 : waitsOk fraction_Div.T3.2 fraction_Div.B3 = true := by kernel_rfl
set_option maxHeartbeats 8000000 in
set_option maxRecDepth 100000 in
theorem fraction_Div.calls (k : Nat) (a0_0 : ByteArray) (a0_1 : ByteArray) (a1_0 : ByteArray) (a1_1 : ByteArray) (r1 : ByteArray) (r2 : ByteArray) (r3 : Int) (w : World) (hG : GL w) (h : fraction_Div.f k a0_0 a0_1 a1_0 a1_1 = some (r1, r2, r3)) :
  Calls Tryz.prog 183 #[.agg #[.string a0_0, .string a0_1], .agg #[.string a1_0, .string a1_1]] w fun e w' => e = .returned (.tuple #[.agg #[.string r1, .string r2], .int .i64 r3]) ∧ Below w.heap.size w w' := by
 have hu53 := Tryz.underlying53; have HB := AS (Below.refl w.heap.size w); have H : ((frSi.f a1_0 a1_1).bind fun t323 => (if t323 = 0 then (none) else ((whole_Mul.f k a0_0 a1_1).bind fun t324 => ((whole_Mul.f k a0_1 a1_0).bind fun t325 => ((frlo.f k t324 t325).bind fun bt326 => (some (bt326.1, bt326.2, 0))))))) = some (r1, r2, r3) := h; clear h; replace H := Option.bind_eq_some_iff.mp H; obtain ⟨t323, A30, H⟩ := H; replace H : (if t323 = 0 then (none) else ((whole_Mul.f k a0_0 a1_1).bind fun t324 => ((whole_Mul.f k a0_1 a1_0).bind fun t325 => ((frlo.f k t324 t325).bind fun bt326 => (some (bt326.1, bt326.2, 0)))))) = some (r1, r2, r3) := H; have A3 := AS A30; clear A30
 by_cases c4 : t323 = 0
 ·rw [if_pos c4] at H
  have c4b0 : (t323 == 0) = true := beq_iff_eq.mpr c4; have c4b1 : (t323 != 0) = false := bne_eq_false_iff_eq.mpr c4; clear c4; exact absurd H (by simp)
 ·rw [if_neg c4] at H
  have c4b0 : (t323 == 0) = false := beq_eq_false_iff_ne.mpr c4; have c4b1 : (t323 != 0) = true := bne_iff_ne.mpr c4; replace H := Option.bind_eq_some_iff.mp H; obtain ⟨t324, A50, H⟩ := H; replace H : ((whole_Mul.f k a0_1 a1_0).bind fun t325 => ((frlo.f k t324 t325).bind fun bt326 => (some (bt326.1, bt326.2, 0)))) = some (r1, r2, r3) := H; have A5 := AS A50; clear A50; replace H := Option.bind_eq_some_iff.mp H; obtain ⟨t325, A60, H⟩ := H; replace H : ((frlo.f k t324 t325).bind fun bt326 => (some (bt326.1, bt326.2, 0))) = some (r1, r2, r3) := H; have A6 := AS A60; clear A60; replace H := Option.bind_eq_some_iff.mp H; obtain ⟨⟨t326, t327⟩, A70, H⟩ := H; replace H : (some (t326, t327, 0)) = some (r1, r2, r3) := H; have A7 := AS A70; clear A70
  simp only [Option.some.injEq, Prod.mk.injEq] at H
  obtain ⟨rfl, rfl, rfl⟩ := H; go_enter Tryz.func183, Tryz.ntmps183; (try go_wp2_with (first | ((with_reducible refine gtd (N := 2) rfl ?_); refine bxe ?hg (N := 2) ?hd (cs := #[.string a0_0, .string a0_1]) (t := 53) ?hr ?_; (case hd => rfl); (case hg => rfl); (case hr => exact Z11); intro gb320 hg w8 hbox hb; have BK320 := AS (hbox); have GW320 := AS ((Z183 : w.heap.size ≤ gb320)); have GE320 := AS ((Z183 : w.heap.size ≤ gb320)); replace HB := AS (bst Z0 hb); clear hb hbox hg) | ((with_reducible refine gtd (N := 3) rfl ?_); refine bxe ?hg (N := 3) ?hd (cs := #[.string a1_0, .string a1_1]) (t := 53) ?hr ?_; (case hd => rfl); (case hg => rfl); (case hr => exact Z11); intro gb321 hg w9 hbox hb; have BK321 := AS (hbox); have GW321 := AS ((by rw [hg]; exact (bsz Z113) : w.heap.size ≤ gb321)); have GE321 := AS ((by rw [hg]; exact (bsz Z113) : w.heap.size ≤ gb321)); have NB320_321 := AS ((Z203 : gb320 ≠ gb321)); have NB321_320 := AS ((Z204 : gb321 ≠ gb320)); replace BK320 := AS (bbl (g := gb320) (o := .cells #[.string a0_0, .string a0_1] 53 (0, 0)) Z56 hb); replace HB := AS (bst Z113 hb); clear hb hbox hg) | ((with_reducible refine gtd (N := 4) rfl ?_); refine bxe ?hg (N := 4) ?hd (cs := #[.string (⟨#[]⟩ : ByteArray), .string (⟨#[]⟩ : ByteArray)]) (t := 53) ?hr ?_; (case hd => rfl); (case hg => rfl); (case hr => exact Z11); intro gb322 hg w10 hbox hb; have BK322 := AS (hbox); have GW322 := AS ((by rw [hg]; exact (bsz Z97) : w.heap.size ≤ gb322)); have GE322 := AS ((by rw [hg]; exact (bsz Z97) : w.heap.size ≤ gb322)); have NB320_322 := AS ((Z203 : gb320 ≠ gb322)); have NB322_320 := AS ((Z204 : gb322 ≠ gb320)); have NB321_322 := AS ((by rw [hg]; exact Nat.ne_of_lt (blk_lt (g := gb321) (o := .cells #[.string a1_0, .string a1_1] 53 (0, 0)) Z78) : gb321 ≠ gb322)); have NB322_321 := AS ((by rw [hg]; exact Nat.ne_of_gt (blk_lt (g := gb321) (o := .cells #[.string a1_0, .string a1_1] 53 (0, 0)) Z78) : gb322 ≠ gb321)); replace BK320 := AS (bbl (g := gb320) (o := .cells #[.string a0_0, .string a0_1] 53 (0, 0)) Z56 hb); replace BK321 := AS (bbl (g := gb321) (o := .cells #[.string a1_0, .string a1_1] 53 (0, 0)) Z78 hb); replace HB := AS (bst Z97 hb); clear hb hbox hg; have hnb11 := NB321_320.out; have hnc11 := NB320_321.out; have hnb12 := NB321_322.out; have hnc12 := NB322_321.out; have hcz13_0 := bc0 BK321.out; have hcz13_1 := bc1 BK321.out; have hfz13_0 := bfz BK321.out 0; have hfz13_1 := bfz BK321.out 1) | ((with_reducible refine gtc (f := 68) rfl ?_); refine gsL (some 7) rfl rfl Tryz.func68 Z5 rfl #[.agg #[.string a1_0, .string a1_1]] rfl Z1 ?_; (with_reducible refine (frSi.calls a1_0 a1_1 t323 _ ?side1 A3.out).mono ?_); (case side1 => exact Z215); rintro e w14 ⟨rfl, hb⟩; refine ⟨_, rfl, ?_⟩; replace BK320 := AS (bbl (g := gb320) (o := .cells #[.string a0_0, .string a0_1] 53 (0, 0)) Z56 hb); replace BK321 := AS (bbl (g := gb321) (o := .cells #[.string a1_0, .string a1_1] 53 (0, 0)) Z78 hb); replace BK322 := AS (bbl (g := gb322) (o := .cells #[.string (⟨#[]⟩ : ByteArray), .string (⟨#[]⟩ : ByteArray)] 53 (0, 0)) Z122 hb); replace HB := AS (bst Z21 hb); (try clear hb); (try clear hb2); (try clear hk); (try clear hi)))); have n0_ := AS (bdr BK320.out); have n1_ := AS (bdr BK321.out); have n2_ := AS (bdr BK322.out); have n3_ := AS (bl1 HB.out); clear BK320 BK321; clear BK322 HB; have BK320 := n0_; have BK321 := n1_; have BK322 := n2_; have HB := n3_; clear n0_ n1_ n2_ n3_
  refine start_ (n := 13) (S := fun w' => w'.cell? ⟨gb320, 0, none⟩ = some (.string a0_0) ∧ w'.cell? ⟨gb320, 1, none⟩ = some (.string a0_1) ∧ w'.cell? ⟨gb321, 0, none⟩ = some (.string a1_0) ∧ w'.cell? ⟨gb321, 1, none⟩ = some (.string a1_1)) (ds := []) #[false, false, false, false, false, false, false, false, false, false, false, false, false] Z5 rfl rfl ⟨bc0 BK320.out, bc1 BK320.out, bc0 BK321.out, bc1 BK321.out⟩ (fun hHeld => ?_); refine with_tabW fraction_Div.tab3 fraction_Div.bits3 (fun HT_ HW_ => ?_)
  generalize w14.drew = w15 at BK320 BK321 BK322 HB hHeld ⊢; refine pure_ (i := 0) (N := some 10) (v := ?_) (a' := ?_) #[true, false, false, false, false, false, false, false, false, false, false, false, false] rfl rfl (any_of HT_.out Z5) (fun _ _ _ h => h) (Or.inl ⟨by rfl, ?_⟩) ?_ ?_; rotate_left
  ·intro w'; go_simp; with_reducible rfl
  rotate_left
  ·simp only [Act.put, List.setIfInBounds_toArray, List.set_cons_zero, List.set_cons_succ, i64_w, i32_w]; rfl
  refine pure_ (i := 2) (N := some 12) (v := ?_) (a' := ?_) #[true, false, true, false, false, false, false, false, false, false, false, false, false] rfl rfl (any_of HT_.out Z5) (fun _ _ _ h => h) (Or.inl ⟨by rfl, ?_⟩) ?_ ?_; rotate_left
  ·intro w'; go_simp; with_reducible rfl
  rotate_left
  ·simp only [Act.put, List.setIfInBounds_toArray, List.set_cons_zero, List.set_cons_succ, i64_w, i32_w]; rfl
  refine pure_ (i := 5) (N := some 15) (v := ?_) (a' := ?_) #[true, false, true, false, false, true, false, false, false, false, false, false, false] rfl rfl (any_of HT_.out Z5) (fun _ _ _ h => h) (Or.inl ⟨by rfl, ?_⟩) ?_ ?_; rotate_left
  ·intro w'; go_simp; with_reducible rfl
  rotate_left
  ·simp only [Act.put, List.setIfInBounds_toArray, List.set_cons_zero, List.set_cons_succ, i64_w, i32_w]; rfl
  refine pure_ (i := 7) (N := some 17) (v := ?_) (a' := ?_) #[true, false, true, false, false, true, false, true, false, false, false, false, false] rfl rfl (any_of HT_.out Z5) (fun _ _ _ h => h) (Or.inl ⟨by rfl, ?_⟩) ?_ ?_; rotate_left
  ·intro w'; go_simp; with_reducible rfl
  rotate_left
  ·simp only [Act.put, List.setIfInBounds_toArray, List.set_cons_zero, List.set_cons_succ, i64_w, i32_w]; rfl
  refine take_ (i := 1) (N := some 11) (v := ?_) (a' := ?_) #[true, true, true, false, false, true, false, true, false, false, false, false, false] rfl rfl (take_ofW HT_.out HW_.out Z5) (fun _ _ _ h => h) (Or.inl ⟨by rfl, ?_⟩) hHeld ?_ ?_; rotate_left
  ·rintro w' ⟨s0, s1, s2, s3⟩; go_simp; with_reducible rfl
  rotate_left
  ·simp only [Act.put, List.setIfInBounds_toArray, List.set_cons_zero, List.set_cons_succ, i64_w, i32_w]; rfl
  refine take_ (i := 3) (N := some 13) (v := ?_) (a' := ?_) #[true, true, true, true, false, true, false, true, false, false, false, false, false] rfl rfl (take_ofW HT_.out HW_.out Z5) (fun _ _ _ h => h) (Or.inl ⟨by rfl, ?_⟩) hHeld ?_ ?_; rotate_left
  ·rintro w' ⟨s0, s1, s2, s3⟩; go_simp; with_reducible rfl
  rotate_left
  ·simp only [Act.put, List.setIfInBounds_toArray, List.set_cons_zero, List.set_cons_succ, i64_w, i32_w]; rfl
  refine take_ (i := 6) (N := some 16) (v := ?_) (a' := ?_) #[true, true, true, true, false, true, true, true, false, false, false, false, false] rfl rfl (take_ofW HT_.out HW_.out Z5) (fun _ _ _ h => h) (Or.inl ⟨by rfl, ?_⟩) hHeld ?_ ?_; rotate_left
  ·rintro w' ⟨s0, s1, s2, s3⟩; go_simp; with_reducible rfl
  rotate_left
  ·simp only [Act.put, List.setIfInBounds_toArray, List.set_cons_zero, List.set_cons_succ, i64_w, i32_w]; rfl
  refine take_ (i := 8) (N := some 18) (v := ?_) (a' := ?_) #[true, true, true, true, false, true, true, true, true, false, false, false, false] rfl rfl (take_ofW HT_.out HW_.out Z5) (fun _ _ _ h => h) (Or.inl ⟨by rfl, ?_⟩) hHeld ?_ ?_; rotate_left
  ·rintro w' ⟨s0, s1, s2, s3⟩; go_simp; with_reducible rfl
  rotate_left
  ·simp only [Act.put, List.setIfInBounds_toArray, List.set_cons_zero, List.set_cons_succ, i64_w, i32_w]; rfl
  refine one_ (i := 4) (N := some 14) #[true, true, true, true, true, true, true, true, true, false, false, false, false] rfl rfl (one_of HT_.out Z5) (by decide) (fun K hK => ?_); refine goes_ Tryz.func154 Z5 rfl #[.string a0_0, .string a1_1] (by rfl) rfl rfl Z1 ?_
  with_reducible refine (whole_Mul.calls k a0_0 a1_1 t324 _ ?side1 A5.out).mono ?_
  (case side1 => exact Z215)
  rintro e w16 ⟨rfl, hb⟩; refine ⟨_, rfl, ?_⟩; have n0_ := AS (bbl (g := gb320) (o := .cells #[.string a0_0, .string a0_1] 53 (0, 0)) Z56 hb); have n1_ := AS (bbl (g := gb321) (o := .cells #[.string a1_0, .string a1_1] 53 (0, 0)) Z78 hb); have n2_ := AS (bbl (g := gb322) (o := .cells #[.string (⟨#[]⟩ : ByteArray), .string (⟨#[]⟩ : ByteArray)] 53 (0, 0)) Z122 hb); have n3_ := AS (bst Z21 hb); clear BK320 BK321; clear BK322 HB; have BK320 := n0_; have BK321 := n1_; have BK322 := n2_; have HB := n3_; clear n0_ n1_ n2_ n3_
  (try clear hb)
  (try clear hb2)
  (try clear hk)
  (try clear hi)
  refine hK.out _ _ ⟨bc0 BK320.out, bc1 BK320.out, bc0 BK321.out, bc1 BK321.out⟩ (fun hHeld => ?_); clear hK K; refine norm_ (a' := ?_) ?_ ?_; rotate_left
  ·show Act.put _ (some 14) _ = _
   simp only [Act.put, List.setIfInBounds_toArray, List.set_cons_zero, List.set_cons_succ, i64_w, i32_w]; rfl
  refine one_ (i := 9) (N := some 19) #[true, true, true, true, true, true, true, true, true, true, false, false, false] rfl rfl (one_of HT_.out Z5) (by decide) (fun K hK => ?_); refine goes_ Tryz.func154 Z5 rfl #[.string a0_1, .string a1_0] (by rfl) rfl rfl Z1 ?_
  with_reducible refine (whole_Mul.calls k a0_1 a1_0 t325 _ ?side1 A6.out).mono ?_
  (case side1 => exact Z215)
  rintro e w17 ⟨rfl, hb⟩; refine ⟨_, rfl, ?_⟩; have n0_ := AS (bbl (g := gb320) (o := .cells #[.string a0_0, .string a0_1] 53 (0, 0)) Z56 hb); have n1_ := AS (bbl (g := gb321) (o := .cells #[.string a1_0, .string a1_1] 53 (0, 0)) Z78 hb); have n2_ := AS (bbl (g := gb322) (o := .cells #[.string (⟨#[]⟩ : ByteArray), .string (⟨#[]⟩ : ByteArray)] 53 (0, 0)) Z122 hb); have n3_ := AS (bst Z21 hb); clear BK320 BK321; clear BK322 HB; have BK320 := n0_; have BK321 := n1_; have BK322 := n2_; have HB := n3_; clear n0_ n1_ n2_ n3_
  (try clear hb)
  (try clear hb2)
  (try clear hk)
  (try clear hi)
  refine hK.out _ _ ⟨bc0 BK320.out, bc1 BK320.out, bc0 BK321.out, bc1 BK321.out⟩ (fun hHeld => ?_); clear hK K; refine norm_ (a' := ?_) ?_ ?_; rotate_left
  ·show Act.put _ (some 19) _ = _
   simp only [Act.put, List.setIfInBounds_toArray, List.set_cons_zero, List.set_cons_succ, i64_w, i32_w]; rfl
  refine one_ (i := 10) (N := some 20) #[true, true, true, true, true, true, true, true, true, true, true, false, false] rfl rfl (one_of HT_.out Z5) (by decide) (fun K hK => ?_); refine goes_ Tryz.func89 Z5 rfl #[.string t324, .string t325] (by rfl) rfl rfl Z1 ?_
  with_reducible refine (frlo.calls k t324 t325 t326 t327 _ ?side1 A7.out).mono ?_
  (case side1 => exact Z215)
  rintro e w18 ⟨rfl, hb⟩; refine ⟨_, rfl, ?_⟩; have n0_ := AS (bbl (g := gb320) (o := .cells #[.string a0_0, .string a0_1] 53 (0, 0)) Z56 hb); have n1_ := AS (bbl (g := gb321) (o := .cells #[.string a1_0, .string a1_1] 53 (0, 0)) Z78 hb); have n2_ := AS (bbl (g := gb322) (o := .cells #[.string (⟨#[]⟩ : ByteArray), .string (⟨#[]⟩ : ByteArray)] 53 (0, 0)) Z122 hb); have n3_ := AS (bst Z21 hb); clear BK320 BK321; clear BK322 HB; have BK320 := n0_; have BK321 := n1_; have BK322 := n2_; have HB := n3_; clear n0_ n1_ n2_ n3_
  (try clear hb)
  (try clear hb2)
  (try clear hk)
  (try clear hi)
  refine hK.out _ _ ⟨bc0 BK320.out, bc1 BK320.out, bc0 BK321.out, bc1 BK321.out⟩ (fun hHeld => ?_); clear hK K; refine norm_ (a' := ?_) ?_ ?_; rotate_left
  ·show Act.put _ (some 20) _ = _
   simp only [Act.put, List.setIfInBounds_toArray, List.set_cons_zero, List.set_cons_succ, i64_w, i32_w]; rfl
  refine one_ (i := 11) (N := none) #[true, true, true, true, true, true, true, true, true, true, true, true, false] rfl rfl (one_of HT_.out Z5) (by decide) (fun K hK => ?_); have hs19 : w18.cell? ⟨gb322, 0, none⟩ = some (.string (⟨#[]⟩ : ByteArray)) := bc0 BK322.out; have hfs19 := bfz BK322.out 0; have hns19_0 := NB320_322.out; have hns19_1 := NB321_322.out; have hms19_0 := NB322_320.out; have hms19_1 := NB322_321.out; have hs20 : w18.cell? ⟨gb322, 1, none⟩ = some (.string (⟨#[]⟩ : ByteArray)) := bc1 BK322.out; have hfs20 := bfz BK322.out 1; have hns20_0 := NB320_322.out; have hns20_1 := NB321_322.out; have hms20_0 := NB322_320.out; have hms20_1 := NB322_321.out; refine skip_ (w1 := ?_) (by rfl) rfl ?_ ?_; rotate_left
  ·go_simp; rfl
  refine hK.out _ _ ⟨((cell_far (p := ⟨gb322, _, none⟩) NB320_322.out _).trans (((cell_far (p := ⟨gb322, _, none⟩) NB320_322.out _).trans (hHeld.1)))), ((cell_far (p := ⟨gb322, _, none⟩) NB320_322.out _).trans (((cell_far (p := ⟨gb322, _, none⟩) NB320_322.out _).trans (hHeld.2.1)))), ((cell_far (p := ⟨gb322, _, none⟩) NB321_322.out _).trans (((cell_far (p := ⟨gb322, _, none⟩) NB321_322.out _).trans (hHeld.2.2.1)))), ((cell_far (p := ⟨gb322, _, none⟩) NB321_322.out _).trans (((cell_far (p := ⟨gb322, _, none⟩) NB321_322.out _).trans (hHeld.2.2.2))))⟩ (fun hHeld => ?_); clear hK K; refine pure_ (i := 12) (N := some 5) (v := ?_) (a' := ?_) #[true, true, true, true, true, true, true, true, true, true, true, true, true] rfl rfl (any_of HT_.out Z5) (fun _ _ _ h => h) (Or.inl ⟨by rfl, ?_⟩) ?_ ?_; rotate_left
  ·intro w'; go_simp; with_reducible rfl
  rotate_left
  ·simp only [Act.put, List.setIfInBounds_toArray, List.set_cons_zero, List.set_cons_succ, i64_w, i32_w]; rfl
  refine done_ (done_of HT_.out Z5) ?_; (try go_wp2); refine bodyPost_ret (results_ct rfl _ _ gb322 53 #[.string t326, .string t327] (0, 0) _ rfl (by (with_reducible repeat (first | apply bdn | apply bdr | apply bal)); refine bpt (cs := #[.string t326, .string (⟨#[]⟩ : ByteArray)]) ?_ 1 _ rfl; (with_reducible repeat (first | apply bdn | apply bdr | apply bal)); refine bpt (cs := #[.string (⟨#[]⟩ : ByteArray), .string (⟨#[]⟩ : ByteArray)]) ?_ 0 _ rfl; (with_reducible repeat (first | apply bdn | apply bdr | apply bal)); exact BK322.out) Tryz.underlying53 rfl Z5) rfl ?_; exact ⟨Z3, Z21⟩

def fraction_little.f (a0 : ByteArray) : Option (Int × Bool) := if (a0.size : Int) > 9 then some (0, false) else (atoiOk a0).map fun v => (v, true)
set_option maxHeartbeats 2000000 in
theorem fraction_little.calls (a0 : ByteArray) (r1 : Int) (r2 : Bool) (w : World) (hG : GL w) (h : fraction_little.f a0 = some (r1, r2)) :
  Calls Tryz.prog 223 #[.string a0] w fun e w' => e = .returned (.tuple #[.int .i64 r1, .bool r2]) ∧ Below w.heap.size w w' := by
 unfold fraction_little.f at h
 by_cases c : (a0.size : Int) > 9
 ·rw [if_pos c] at h; have c1 : decide (9 < (a0.size : Int)) = true := decide_eq_true c; simp only [Option.some.injEq, Prod.mk.injEq] at h; obtain ⟨rfl, rfl⟩ := h; have hb := Below.refl w.heap.size w; clear c; go_enter Tryz.func223, Tryz.ntmps223; go_wp2; go_ret2; exact ⟨rfl, hb⟩
 ·rw [if_neg c] at h; have c1 : decide (9 < (a0.size : Int)) = false := decide_eq_false c; obtain ⟨v, hv, he⟩ := Option.map_eq_some_iff.mp h; simp only [Prod.mk.injEq] at he; obtain ⟨rfl, rfl⟩ := he; have hc := AS (atoi_calls hv); clear c h hv; go_enter Tryz.func223, Tryz.ntmps223; go_wp2_with (go_at_call 145; refine (hc.out _).mono ?_; rintro e w' ⟨rfl, hb⟩)
  go_quiet (fail)
  go_wp2; go_ret2; exact ⟨rfl, pbn hb _⟩

end Go.Proofs.YtkgkihichdcpmaaGreatDoor.H
