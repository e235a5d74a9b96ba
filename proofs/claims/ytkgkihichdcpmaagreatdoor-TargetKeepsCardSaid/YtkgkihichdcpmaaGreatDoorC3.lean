import Derived.Test.YtkgkihichdcpmaaGreatDoorC2
import Derived.Shelf.Strconv.Itoa3
import Derived.Lib.ItoaLen
import Derived.Lib.ConvBytes
import Derived.Lib.AtoiErrMem
import Derived.Laws.DeepStrings4
namespace Go.Proofs.YtkgkihichdcpmaaGreatDoor.H
open Go.RowKit Go.Proofs.YtkgkihichdcpmaaGreatDoorW.PrintWords Go.Proofs.YtkgkihichdcpmaaGreatDoorW.PrintLast Go.Proofs.YtkgkihichdcpmaaGreatDoorW.PrintMore
attribute [local go_sem] max2_int min2_int max_two min_two max_three min_three max_four min_four
set_option linter.unusedVariables false
set_option linter.unusedSimpArgs false
set_option maxHeartbeats 64000000
set_option maxRecDepth 100000
def whole_gcd.l0 : Nat → Int → Int → Option (Int)
 | 0, _, _ => none
 | k + 1, x0, x1 => if x1 = 0 then (some x0) else (whole_gcd.l0 k x1 (Int.tmod x0 x1))
def whole_gcd.f (k : Nat) (a0 : Int) (a1 : Int) : Option (Int) := whole_gcd.l0 k a0 a1
theorem whole_gcd.mono_l : ∀ k, (∀ y0 y1, LeO (whole_gcd.l0 k y0 y1) (whole_gcd.l0 (k + 1) y0 y1))
 | 0 => fun _ _ r h => by simp [whole_gcd.l0] at h
 | k + 1 => by
  have ih0 := whole_gcd.mono_l k
  ·intro y0 y1; unfold whole_gcd.l0
   repeat' (with_reducible first | exact ih0 _ _ | exact LeO.refl _ | exact LeO.none _ | refine LeO.ite ?_ ?_ | refine LeO.bind ?_ (fun _ => ?_))
theorem whole_gcd.mono : ∀ a0 a1 k, LeO (whole_gcd.f k a0 a1) (whole_gcd.f (k + 1) a0 a1) := by
 intro a0 a1 k; have ih0 := whole_gcd.mono_l k; unfold whole_gcd.f
 repeat' (with_reducible first | exact ih0 _ _ | exact LeO.refl _ | exact LeO.none _ | refine LeO.ite ?_ ?_ | refine LeO.bind ?_ (fun _ => ?_))
theorem whole_gcd.calls (k : Nat) (a0 : Int) (a1 : Int) (r : Int) (w : World) (hG : GL w) (h : whole_gcd.f k a0 a1 = some r) :
  Calls Tryz.prog 124 #[.int .i64 a0, .int .i64 a1] w fun e w' => e = .returned (.int .i64 r) ∧ Drawn0 w w' := by
 have HB := AS (blr w); have H : (whole_gcd.l0 k a0 a1) = some r := h; clear h; have H' := AS H; clear H; go_enter Tryz.func124, Tryz.ntmps124; go_wp2
 repeat (go_quiet (fail); try go_wp2)
 go_loopg [0, 1] k (fun kq v0 v1 w' => ∃ (x0_1 : Int) (x1_1 : Int), v0 = .int .i64 x0_1 ∧ v1 = .int .i64 x1_1 ∧ Aside0 (whole_gcd.l0 kq x0_1 x1_1 = some r) ∧ Aside0 (kq ≤ k) ∧ Drawn0 w w')
 case atStart => exact ⟨(a0), (a1), Z4, Z4, H', ⟨Nat.le_refl _⟩, Z11⟩
 case round =>
  clear H'; (try clear c1); (try clear p2); obtain ⟨x0_1, x1_1, rfl, rfl, HA, HK1, ⟨m1, rfl⟩⟩ := hrel
  cases gk with
  | zero => exact absurd HA.out (by simp [whole_gcd.l0])
  | succ k1 =>
   have H := HA.out; clear HA
   simp only [whole_gcd.l0] at H
   by_cases c3 : x1_1 = 0
   ·rw [if_pos c3] at H
    have c3b0 : (x1_1 == 0) = true := bqt c3; have c3b1 : (x1_1 != 0) = false := bnf c3; clear c3; obtain rfl := Option.some.inj H; go_wp2
    repeat (go_quiet (fail); try go_wp2)
    go_ret; exact ⟨Z4, Z11⟩
   ·rw [if_neg c3] at H
    have c3b0 : (x1_1 == 0) = false := bqf c3; have c3b1 : (x1_1 != 0) = true := bnt c3; have H' := AS H; clear H; go_wp2
    repeat (go_quiet (fail); try go_wp2)
    go_roundg k1
    case measure => have := HK1.out; omega
    case rel => exact ⟨(x1_1), (Int.tmod x0_1 x1_1), Z4, Z4, H', ⟨Z85⟩, Z11⟩
def whole_Gcd.f (k : Nat) (a0 : ByteArray) (a1 : ByteArray) : Option (ByteArray) := (whole_Abs.f a0).bind fun t152 => ((whole_Abs.f a1).bind fun t153 => ((whLi.f t152 18).bind fun bt154 => (if bt154.2 = true then ((whLi.f t153 18).bind fun bt156 => (if bt156.2 = true then ((whole_gcd.f k bt154.1 bt156.1).bind fun t158 => ((whOf.f t158).bind fun t159 => (some t159))) else (none))) else (none))))
theorem whole_Gcd.mono : ∀ a0 a1 k, LeO (whole_Gcd.f k a0 a1) (whole_Gcd.f (k + 1) a0 a1) := by
 intro a0 a1 k; unfold whole_Gcd.f
 repeat' (with_reducible first | exact whole_gcd.mono _ _ _ | exact LeO.refl _ | exact LeO.none _ | refine LeO.ite ?_ ?_ | refine LeO.bind ?_ (fun _ => ?_))
theorem whole_Gcd.calls (k : Nat) (a0 : ByteArray) (a1 : ByteArray) (r : ByteArray) (w : World) (hG : GL w) (h : whole_Gcd.f k a0 a1 = some r) :
  Calls Tryz.prog 97 #[.string a0, .string a1] w fun e w' => e = .returned (.string r) ∧ Below w.heap.size w w' := by
 have HB := AS (blr w); have H : ((whole_Abs.f a0).bind fun t152 => ((whole_Abs.f a1).bind fun t153 => ((whLi.f t152 18).bind fun bt154 => (if bt154.2 = true then ((whLi.f t153 18).bind fun bt156 => (if bt156.2 = true then ((whole_gcd.f k bt154.1 bt156.1).bind fun t158 => ((whOf.f t158).bind fun t159 => (some t159))) else (none))) else (none))))) = some r := h; clear h; replace H := bsm H; obtain ⟨t152, A30, H⟩ := H; replace H : ((whole_Abs.f a1).bind fun t153 => ((whLi.f t152 18).bind fun bt154 => (if bt154.2 = true then ((whLi.f t153 18).bind fun bt156 => (if bt156.2 = true then ((whole_gcd.f k bt154.1 bt156.1).bind fun t158 => ((whOf.f t158).bind fun t159 => (some t159))) else (none))) else (none)))) = some r := H; have A3 := AS A30; clear A30; replace H := bsm H; obtain ⟨t153, A40, H⟩ := H; replace H : ((whLi.f t152 18).bind fun bt154 => (if bt154.2 = true then ((whLi.f t153 18).bind fun bt156 => (if bt156.2 = true then ((whole_gcd.f k bt154.1 bt156.1).bind fun t158 => ((whOf.f t158).bind fun t159 => (some t159))) else (none))) else (none))) = some r := H; have A4 := AS A40; clear A40; replace H := bsm H; obtain ⟨⟨t154, t155⟩, A50, H⟩ := H; replace H : (if t155 = true then ((whLi.f t153 18).bind fun bt156 => (if bt156.2 = true then ((whole_gcd.f k t154 bt156.1).bind fun t158 => ((whOf.f t158).bind fun t159 => (some t159))) else (none))) else (none)) = some r := H; have A5 := AS A50; clear A50
 by_cases c6 : t155 = true
 ·subst c6
  rw [if_pos rfl] at H
  replace H := bsm H; obtain ⟨⟨t156, t157⟩, A70, H⟩ := H; replace H : (if t157 = true then ((whole_gcd.f k t154 t156).bind fun t158 => ((whOf.f t158).bind fun t159 => (some t159))) else (none)) = some r := H; have A7 := AS A70; clear A70
  by_cases c8 : t157 = true
  ·subst c8
   rw [if_pos rfl] at H
   replace H := bsm H; obtain ⟨t158, A90, H⟩ := H; replace H : ((whOf.f t158).bind fun t159 => (some t159)) = some r := H; have A9 := AS A90; clear A90; replace H := bsm H; obtain ⟨t159, A100, H⟩ := H; replace H : (some t159) = some r := H; have A10 := AS A100; clear A100; obtain rfl := Option.some.inj H; go_enter Tryz.func97, Tryz.ntmps97; go_wp2_with (first | ((with_reducible refine gtc (f := 69) rfl ?_); refine gsL (some 12) rfl rfl Tryz.func69 Z6 rfl #[.string a0] rfl Z1 ?_; (with_reducible refine (whole_Abs.calls a0 t152 _ ?side1 A3.out).mono ?_); (case side1 => exact Z168); rintro e w' ⟨rfl, ⟨nd, rfl⟩⟩; refine ⟨_, rfl, ?_⟩) | ((with_reducible refine gtc (f := 69) rfl ?_); refine gsL (some 14) rfl rfl Tryz.func69 Z6 rfl #[.string a1] rfl Z1 ?_; (with_reducible refine (whole_Abs.calls a1 t153 _ ?side1 A4.out).mono ?_); (case side1 => exact Z168); rintro e w' ⟨rfl, ⟨nd, rfl⟩⟩; refine ⟨_, rfl, ?_⟩) | ((with_reducible refine gtc (f := 123) rfl ?_); refine gsL (some 17) rfl rfl Tryz.func123 Z6 rfl #[.string t152, .int .i64 18] rfl Z1 ?_; (with_reducible refine (whLi.calls t152 18 t154 true _ ?side1 A5.out).mono ?_); (case side1 => exact Z168); rintro e w11 ⟨rfl, hb⟩; refine ⟨_, rfl, ?_⟩; replace HB := AS (bst Z0 hb); (try clear hb)) | ((with_reducible refine gtc (f := 123) rfl ?_); refine gsL (some 23) rfl rfl Tryz.func123 Z6 rfl #[.string t153, .int .i64 18] rfl Z1 ?_; (with_reducible refine (whLi.calls t153 18 t156 true _ ?side1 A7.out).mono ?_); (case side1 => exact Z168); rintro e w12 ⟨rfl, hb⟩; refine ⟨_, rfl, ?_⟩; replace HB := AS (bst Z0 hb); (try clear hb)) | ((with_reducible refine gtc (f := 124) rfl ?_); refine gsL (some 29) rfl rfl Tryz.func124 Z6 rfl #[.int .i64 t154, .int .i64 t156] rfl Z1 ?_; (with_reducible refine (whole_gcd.calls k t154 t156 t158 _ ?side1 A9.out).mono ?_); (case side1 => exact Z168); rintro e w' ⟨rfl, ⟨nd, rfl⟩⟩; refine ⟨_, rfl, ?_⟩) | ((with_reducible refine gtc (f := 59) rfl ?_); refine gsL (some 30) rfl rfl Tryz.func59 Z6 rfl #[.int .i64 t158] rfl Z1 ?_; (with_reducible refine (whOf.calls t158 t159 _ ?side1 A10.out).mono ?_); (case side1 => exact Z168); rintro e w13 ⟨rfl, hb⟩; refine ⟨_, rfl, ?_⟩; replace HB := AS (bst Z0 hb); (try clear hb))); go_ret; exact ⟨Z3, Z0⟩
  ·replace c8 := Bool.eq_false_iff.mpr c8; subst c8
   rw [if_neg ffl] at H
   exact absurd H (by simp)
 ·replace c6 := Bool.eq_false_iff.mpr c6; subst c6
  rw [if_neg ffl] at H
  exact absurd H (by simp)
def frCk.j0 : Nat → Bool → ByteArray → ByteArray → Option (Int)
 | 0, _, _, _ => none
 | k + 1, x3, x161000, x161001 => if x3 = true then (none) else ((whole_Sign.f x161001).bind fun t163 => (if t163 ≤ 0 then (none) else ((whole_Gcd.f k x161000 x161001).bind fun t164 => (if t164.toList = ([49] : List UInt8) then (some 0) else (none)))))
def frCk.f (k : Nat) (a0_0 : ByteArray) (a0_1 : ByteArray) : Option (Int) := (whole_Check.f a0_0).bind fun t161 => (if t161 = 0 then ((whole_Check.f a0_1).bind fun t162 => (frCk.j0 k (t162 != 0) a0_0 a0_1)) else (frCk.j0 k (t161 != 0) a0_0 a0_1))
theorem frCk.mono_l : ∀ k, (∀ y0 y1 y2, LeO (frCk.j0 k y0 y1 y2) (frCk.j0 (k + 1) y0 y1 y2))
 | 0 => fun _ _ _ r h => by simp [frCk.j0] at h
 | k + 1 => by
  have ih0 := frCk.mono_l k
  ·intro y0 y1 y2; unfold frCk.j0
   repeat' (with_reducible first | exact ih0 _ _ _ | exact whole_Gcd.mono _ _ _ | exact LeO.refl _ | exact LeO.none _ | refine LeO.ite ?_ ?_ | refine LeO.bind ?_ (fun _ => ?_))
theorem frCk.mono : ∀ a0 a1 k, LeO (frCk.f k a0 a1) (frCk.f (k + 1) a0 a1) := by
 intro a0 a1 k; have ih0 := frCk.mono_l k; unfold frCk.f
 repeat' (with_reducible first | exact ih0 _ _ _ | exact whole_Gcd.mono _ _ _ | exact LeO.refl _ | exact LeO.none _ | refine LeO.ite ?_ ?_ | refine LeO.bind ?_ (fun _ => ?_))
theorem frCk.calls (k : Nat) (a0_0 : ByteArray) (a0_1 : ByteArray) (r : Int) (w : World) (hG : GL w) (h : frCk.f k a0_0 a0_1 = some r) :
  Calls Tryz.prog 67 #[.agg #[.string a0_0, .string a0_1]] w fun e w' => e = .returned (.int .i64 r) ∧ Below w.heap.size w w' := by
 have hu53 := Tryz.underlying53; have HB := AS (blr w); have H : ((whole_Check.f a0_0).bind fun t161 => (if t161 = 0 then ((whole_Check.f a0_1).bind fun t162 => (frCk.j0 k (t162 != 0) a0_0 a0_1)) else (frCk.j0 k (t161 != 0) a0_0 a0_1))) = some r := h; clear h; replace H := bsm H; obtain ⟨t161, A20, H⟩ := H; replace H : (if t161 = 0 then ((whole_Check.f a0_1).bind fun t162 => (frCk.j0 k (t162 != 0) a0_0 a0_1)) else (frCk.j0 k (t161 != 0) a0_0 a0_1)) = some r := H; have A2 := AS A20; clear A20; have HC3 := AS H; clear H; go_enter Tryz.func67, Tryz.ntmps67
 go_upto_if 3 with (first | ((with_reducible refine gtd (N := 1) rfl ?_); refine bxe ?hg (N := 1) ?hd (cs := #[.string a0_0, .string a0_1]) (t := 53) ?hr ?_; (case hd => rfl); (case hg => rfl); (case hr => exact Z12); intro gb160 hg w4 hbox hb; have BK160 := AS (hbox); have GW160 := AS ((Z169 : w.heap.size ≤ gb160)); have GE160 := GW160; replace HB := AS (bst Z0 hb); clear hb hbox hg; have hcz5_0 := bc0 BK160.out; have hcz5_1 := bc1 BK160.out; have hfz5_0 := bfz BK160.out 0; have hfz5_1 := bfz BK160.out 1) | ((with_reducible refine gtc (f := 96) rfl ?_); refine gsL (some 6) rfl rfl Tryz.func96 Z6 rfl #[.string a0_0] rfl Z1 ?_; (with_reducible refine (whole_Check.calls a0_0 t161 _ ?side1 A2.out).mono ?_); (case side1 => exact Z199); rintro e w6 ⟨rfl, hb⟩; refine ⟨_, rfl, ?_⟩; replace BK160 := AS (bbl (g := gb160) (o := .cells #[.string a0_0, .string a0_1] 53 (0, 0)) Z100 hb); replace HB := AS (bst Z26 hb); (try clear hb)))
 (try simp only [Act.put, sA1, sA2, sA3])
 go_cut [3] (fun v3 wc => ∃ (kq : Nat) (x3_2 : Bool), v3 = .bool x3_2 ∧ Aside0 (frCk.j0 kq x3_2 a0_0 a0_1 = some r) ∧ Aside0 (kq ≤ k) ∧ Aside0 (wc.heap[gb160]? = some (.cells #[.string a0_0, .string a0_1] 53 (0, 0))) ∧ Aside0 (Below w.heap.size w wc))
 case first =>
  have H := HC3.out; clear HC3
  by_cases c7 : t161 = 0
  ·rw [if_pos c7] at H
   have c7b0 : (t161 == 0) = true := bqt c7; have c7b1 : (t161 != 0) = false := bnf c7; clear c7
   (first | rw [c7b0] | (simp only [i64_w, i32_w]; rw [c7b0]) | skip)
   replace H := bsm H; obtain ⟨t162, A80, H⟩ := H; replace H : (frCk.j0 k (t162 != 0) a0_0 a0_1) = some r := H; have A8 := AS A80; clear A80; have H' := AS H; clear H; have hcz9_0 := bc0 BK160.out; have hcz9_1 := bc1 BK160.out; have hfz9_0 := bfz BK160.out 0; have hfz9_1 := bfz BK160.out 1; go_wp2_with (first | ((with_reducible refine gtc (f := 96) rfl ?_); refine gsL (some 10) rfl rfl Tryz.func96 Z6 rfl #[.string a0_1] rfl Z1 ?_; (with_reducible refine (whole_Check.calls a0_1 t162 _ ?side1 A8.out).mono ?_); (case side1 => exact Z199); rintro e w10 ⟨rfl, hb⟩; refine ⟨_, rfl, ?_⟩; replace BK160 := AS (bbl (g := gb160) (o := .cells #[.string a0_0, .string a0_1] 53 (0, 0)) Z100 hb); replace HB := AS (bst Z26 hb); (try clear hb))); go_meet
   case rel => exact ⟨_, ((t162 != 0)), Z4, H', ⟨Z61⟩, ⟨Z100⟩, ⟨Z26⟩⟩
  ·rw [if_neg c7] at H
   have c7b0 : (t161 == 0) = false := bqf c7; have c7b1 : (t161 != 0) = true := bnt c7
   (first | rw [c7b0] | (simp only [i64_w, i32_w]; rw [c7b0]) | skip)
   have H' := AS H; clear H; go_wp2; go_meet
   case rel => exact ⟨_, ((t161 != 0)), Z4, H', ⟨Z61⟩, ⟨Z100⟩, ⟨Z26⟩⟩
 case rest =>
  clear HC3; (try clear p2); (try clear c6); (try clear c7); (try clear c7b0); (try clear c7b1); (try clear c9); (try clear hcz5_0); (try clear hcz5_1); (try clear hcz9_0); (try clear hcz9_1); (try clear hfz5_0); (try clear hfz5_1); (try clear hfz9_0); (try clear hfz9_1); obtain ⟨kq, x3_2, rfl, HA, HJ2, BK160, HB⟩ := hcut
  cases kq with
  | zero => exact absurd HA.out (by simp [frCk.j0])
  | succ kj2 =>
   have H := HA.out; clear HA
   simp only [frCk.j0] at H
   by_cases c11 : x3_2 = true
   ·subst c11
    rw [if_pos rfl] at H
    exact absurd H (by simp)
   ·replace c11 := Bool.eq_false_iff.mpr c11; subst c11
    rw [if_neg ffl] at H
    replace H := bsm H; obtain ⟨t163, A120, H⟩ := H; replace H : (if t163 ≤ 0 then (none) else ((whole_Gcd.f kj2 a0_0 a0_1).bind fun t164 => (if t164.toList = ([49] : List UInt8) then (some 0) else (none)))) = some r := H; have A12 := AS A120; clear A120
    by_cases c13 : t163 ≤ 0
    ·rw [if_pos c13] at H
     exact absurd H (by simp)
    ·rw [if_neg c13] at H
     have c13b0 : decide (t163 ≤ 0) = false := decide_eq_false c13; clear c13; replace H := bsm H; obtain ⟨t164, A140, H⟩ := H; replace H : (if t164.toList = ([49] : List UInt8) then (some 0) else (none)) = some r := H; have A14 := AS A140; clear A140
     by_cases c15 : t164.toList = ([49] : List UInt8)
     ·rw [if_pos c15] at H
      have c15b0 : (t164.toList == ([49] : List UInt8)) = true := bqt c15; have c15b1 : (t164.toList != ([49] : List UInt8)) = false := bnf c15; clear c15; obtain rfl := Option.some.inj H; have hcz16_0 := bc0 BK160.out; have hcz16_1 := bc1 BK160.out; have hfz16_0 := bfz BK160.out 0; have hfz16_1 := bfz BK160.out 1; go_wp2_with (first | ((with_reducible refine gtc (f := 88) rfl ?_); refine gsL (some 15) rfl rfl Tryz.func88 Z6 rfl #[.string a0_1] rfl Z1 ?_; (with_reducible refine (whole_Sign.calls a0_1 t163 _ ?side1 A12.out).mono ?_); (case side1 => exact Z199); rintro e w' ⟨rfl, ⟨nd, rfl⟩⟩; refine ⟨_, rfl, ?_⟩) | ((with_reducible refine gtc (f := 97) rfl ?_); refine gsL (some 21) rfl rfl Tryz.func97 Z6 rfl #[.string a0_0, .string a0_1] rfl Z1 ?_; (with_reducible refine (whole_Gcd.calls kj2 a0_0 a0_1 t164 _ ?side1 A14.out).mono ?_); (case side1 => exact Z199); rintro e w17 ⟨rfl, hb⟩; refine ⟨_, rfl, ?_⟩; replace BK160 := AS (bbl (g := gb160) (o := .cells #[.string a0_0, .string a0_1] 53 (0, 0)) Z100 hb); replace HB := AS (bst Z26 hb); (try clear hb))); go_ret; exact ⟨Z3, Z26⟩
     ·rw [if_neg c15] at H
      exact absurd H (by simp)
def size_short.f (a0_0 : ByteArray) (a0_1 : ByteArray) : Option (Bool) := (whole_Abs.f a0_0).bind fun t166 => (if (t166.size : Int) ≤ 30 then (some (decide ((a0_1.size : Int) ≤ 30))) else (some false))
theorem size_short.calls (a0_0 : ByteArray) (a0_1 : ByteArray) (r : Bool) (w : World) (hG : GL w) (h : size_short.f a0_0 a0_1 = some r) :
  Calls Tryz.prog 208 #[.agg #[.string a0_0, .string a0_1]] w fun e w' => e = .returned (.bool r) ∧ Below w.heap.size w w' := by
 have hu53 := Tryz.underlying53; have HB := AS (blr w); have H : ((whole_Abs.f a0_0).bind fun t166 => (if (t166.size : Int) ≤ 30 then (some (decide ((a0_1.size : Int) ≤ 30))) else (some false))) = some r := h; clear h; replace H := bsm H; obtain ⟨t166, A20, H⟩ := H; replace H : (if (t166.size : Int) ≤ 30 then (some (decide ((a0_1.size : Int) ≤ 30))) else (some false)) = some r := H; have A2 := AS A20; clear A20
 by_cases c3 : (t166.size : Int) ≤ 30
 ·rw [if_pos c3] at H
  have c3b0 : decide ((t166.size : Int) ≤ 30) = true := dqt c3; have c3b1 : decide (t166.size ≤ 30) = true := dqt (by omega); clear c3; obtain rfl := Option.some.inj H; go_enter Tryz.func208, Tryz.ntmps208; go_wp2_with (first | ((with_reducible refine gtd (N := 1) rfl ?_); (try (refine gtg (by rfl) ?_; dsimp only)); refine bxe ?hg (N := 1) ?hd (cs := #[.string a0_0, .string a0_1]) (t := 53) ?hr ?_; (case hd => rfl); (case hg => rfl); (case hr => exact Z12); intro gb165 hg w4 hbox hb; have BK165 := AS (hbox); have GW165 := AS ((Z169 : w.heap.size ≤ gb165)); have GE165 := GW165; replace HB := AS (bst Z0 hb); clear hb hbox hg; have hcz5_0 := bc0 BK165.out; have hcz5_1 := bc1 BK165.out; have hfz5_0 := bfz BK165.out 0; have hfz5_1 := bfz BK165.out 1) | ((with_reducible refine gtc (f := 69) rfl ?_); refine gsL (some 5) rfl rfl Tryz.func69 Z6 rfl #[.string a0_0] rfl Z1 ?_; (with_reducible refine (whole_Abs.calls a0_0 t166 _ ?side1 A2.out).mono ?_); (case side1 => exact GL.below hG Z82); rintro e w' ⟨rfl, ⟨nd, rfl⟩⟩; refine ⟨_, rfl, ?_⟩)); go_ret; exact ⟨Z3, Z82⟩
 ·rw [if_neg c3] at H
  have c3b0 : decide ((t166.size : Int) ≤ 30) = false := decide_eq_false c3; have c3b1 : decide (t166.size ≤ 30) = false := decide_eq_false (by omega); clear c3; obtain rfl := Option.some.inj H; go_enter Tryz.func208, Tryz.ntmps208; go_wp2_with (first | ((with_reducible refine gtd (N := 1) rfl ?_); (try (refine gtg (by rfl) ?_; dsimp only)); refine bxe ?hg (N := 1) ?hd (cs := #[.string a0_0, .string a0_1]) (t := 53) ?hr ?_; (case hd => rfl); (case hg => rfl); (case hr => exact Z12); intro gb165 hg w6 hbox hb; have BK165 := AS (hbox); have GW165 := AS ((Z169 : w.heap.size ≤ gb165)); have GE165 := GW165; replace HB := AS (bst Z0 hb); clear hb hbox hg; have hcz7_0 := bc0 BK165.out; have hcz7_1 := bc1 BK165.out; have hfz7_0 := bfz BK165.out 0; have hfz7_1 := bfz BK165.out 1) | ((with_reducible refine gtc (f := 69) rfl ?_); refine gsL (some 5) rfl rfl Tryz.func69 Z6 rfl #[.string a0_0] rfl Z1 ?_; (with_reducible refine (whole_Abs.calls a0_0 t166 _ ?side1 A2.out).mono ?_); (case side1 => exact GL.below hG Z82); rintro e w' ⟨rfl, ⟨nd, rfl⟩⟩; refine ⟨_, rfl, ?_⟩)); go_ret; exact ⟨Z3, Z82⟩
def size_check.l0 : Nat → List (S53) → Int → Int → Option (Int)
 | 0, _, _, _ => none
 | k + 1, x12, x13, x14 => if x14 < x13 then (if 0 ≤ x14 then (if x14 < (x12.length : Int) then ((frCk.f k ((rd_T53 x12 x14).f0) ((rd_T53 x12 x14).f1)).bind fun t169 => (if t169 = 0 then ((size_short.f ((rd_T53 x12 x14).f0) ((rd_T53 x12 x14).f1)).bind fun t170 => (if t170 = true then (size_check.l0 k x12 x13 (wrap64 (x14 + 1))) else (none))) else (none))) else (none)) else (none)) else (some 0)
def size_check.f (k : Nat) (l0 : List Int) (l1 : List (S53)) : Option (Int) := if (l1.length : Int) = (l0.length : Int) then (size_check.l0 k l1 (l1.length : Int) 0) else (none)
theorem size_check.calls (k : Nat) (A0 : Option Addr) (c0 : Nat) (l0 : List Int) (A1 : Option Addr) (c1 : Nat) (l1 : List (S53)) (r : Int) (w : World) (hr0 : Kd.C (Kd.int .i64) w A0 l0.length l0) (hc0 : l0.length ≤ c0) (hr1 : Kd.C k53 w A1 l1.length l1) (hc1 : l1.length ≤ c1) (hG : GL w) (h : size_check.f k l0 l1 = some r) :
  Calls Tryz.prog 181 #[.slice A0 l0.length c0, .slice A1 l1.length c1] w fun e w' => e = .returned (.int .i64 r) ∧ Below w.heap.size w w' := by
 have hu53 := Tryz.underlying53; have HR0 := AS hr0; have HC0 := AS hc0; clear hr0 hc0; have HR1 := AS hr1; have HC1 := AS hc1; clear hr1 hc1; have HB := AS (blr w); have H : (if (l1.length : Int) = (l0.length : Int) then (size_check.l0 k l1 (l1.length : Int) 0) else (none)) = some r := h; clear h
 by_cases c3 : (l1.length : Int) = (l0.length : Int)
 ·rw [if_pos c3] at H
  have c3b0 : ((l1.length : Int) == (l0.length : Int)) = true := bqt c3; have c3b1 : ((l1.length : Int) != (l0.length : Int)) = false := bnf c3
  have c3b2 : (l1.length == l0.length) = true := by first | simpa using c3 | (simp at c3 ⊢; omega)
  clear c3; have H' := AS H; clear H; go_enter Tryz.func181, Tryz.ntmps181; go_wp2
  go_loopg [14] k (fun kq v14 w' => ∃ (x14_1 : Int), v14 = .int .i64 x14_1 ∧ Aside0 (size_check.l0 kq l1 (l1.length : Int) x14_1 = some r) ∧ Aside0 (kq ≤ k) ∧ Aside0 (Below w.heap.size w w'))
  case atStart => exact ⟨(0), Z4, H', ⟨Nat.le_refl _⟩, ⟨Z0⟩⟩
  case round =>
   clear H'; (try clear c1); (try clear p2); (try clear c3); (try clear c3b0); (try clear c3b1); (try clear c3b2); obtain ⟨x14_1, rfl, HA, HK1, HB⟩ := hrel
   cases gk with
   | zero => exact absurd HA.out (by simp [size_check.l0])
   | succ k1 =>
    have H := HA.out; clear HA
    simp only [size_check.l0] at H
    by_cases c4 : x14_1 < (l1.length : Int)
    ·rw [if_pos c4] at H
     have c4b0 : decide (x14_1 < (l1.length : Int)) = true := dqt c4; clear c4
     by_cases c5 : 0 ≤ x14_1
     ·rw [if_pos c5] at H
      have c5b0 : decide (0 ≤ x14_1) = true := dqt c5; clear c5
      by_cases c6 : x14_1 < (l1.length : Int)
      ·rw [if_pos c6] at H
       have c6b0 : decide (x14_1 < (l1.length : Int)) = true := dqt c6; clear c6; replace H := bsm H; obtain ⟨t169, A70, H⟩ := H; replace H : (if t169 = 0 then ((size_short.f ((rd_T53 l1 x14_1).f0) ((rd_T53 l1 x14_1).f1)).bind fun t170 => (if t170 = true then (size_check.l0 k1 l1 (l1.length : Int) (wrap64 (x14_1 + 1))) else (none))) else (none)) = some r := H; have A7 := AS A70; clear A70
       by_cases c8 : t169 = 0
       ·rw [if_pos c8] at H
        have c8b0 : (t169 == 0) = true := bqt c8; have c8b1 : (t169 != 0) = false := bnf c8; clear c8; replace H := bsm H; obtain ⟨t170, A90, H⟩ := H; replace H : (if t170 = true then (size_check.l0 k1 l1 (l1.length : Int) (wrap64 (x14_1 + 1))) else (none)) = some r := H; have A9 := AS A90; clear A90
        by_cases c10 : t170 = true
        ·subst c10
         rw [if_pos rfl] at H
         have H' := AS H; clear H; have p167 : 0 ≤ (x14_1 : Int) := odt Z2; have q167 : x14_1 < (l1.length : Int) := odt Z2; obtain ⟨ad167, e167, hx167_0, hx167_1⟩ := at_T53 HR1.out x14_1 p167 q167; cases e167; replace hx167_0 := (HB.out.cell (wbl w _ hx167_0)).trans hx167_0; replace hx167_1 := (HB.out.cell (wbl w _ hx167_1)).trans hx167_1; replace p167 := eq_true p167; replace q167 := eq_true q167; go_wp2_with (first | ((with_reducible refine gtd (N := 6) rfl ?_); refine bxe ?hg (N := 6) ?hd (cs := #[.string ⟨#[]⟩, .string ⟨#[]⟩]) (t := 53) ?hr ?_; (case hd => rfl); (case hg => rfl); (case hr => exact Z12); intro gb168 hg w11 hbox hb; have BK168 := AS (hbox); have GW168 := AS ((Z169 : w.heap.size ≤ gb168)); have GE168 := GW168; replace HB := AS (bst Z0 hb); clear hb hbox hg; have hcz12_0 := bc0 BK168.out; have hcz12_1 := bc1 BK168.out; have hfz12_0 := bfz BK168.out 0; have hfz12_1 := bfz BK168.out 1) | ((with_reducible refine gtc (f := 67) rfl ?_); refine gsL (some 19) rfl rfl Tryz.func67 Z6 rfl #[.agg #[.string ((rd_T53 l1 x14_1).f0), .string ((rd_T53 l1 x14_1).f1)]] rfl Z1 ?_; (with_reducible refine (frCk.calls k1 ((rd_T53 l1 x14_1).f0) ((rd_T53 l1 x14_1).f1) t169 _ ?side1 A7.out).mono ?_); (case side1 => exact GL.below hG Z63); rintro e w13 ⟨rfl, hb⟩; refine ⟨_, rfl, ?_⟩; replace BK168 := AS (bbl (g := gb168) (o := .cells #[.string ((rd_T53 l1 x14_1).f0), .string ((rd_T53 l1 x14_1).f1)] 53 (0, 0)) (by (with_reducible repeat (first | apply bdn | apply bdr | apply bal)); refine bpt (cs := #[.string ((rd_T53 l1 x14_1).f0), .string ⟨#[]⟩]) ?_ 1 _ rfl; (with_reducible repeat (first | apply bdn | apply bdr | apply bal)); refine bpt (cs := #[.string ⟨#[]⟩, .string ⟨#[]⟩]) ?_ 0 _ rfl; (with_reducible repeat (first | apply bdn | apply bdr | apply bal)); exact BK168.out) hb); replace HB := AS (bst Z63 hb); (try clear hb); have hcz14_0 := bc0 BK168.out; have hcz14_1 := bc1 BK168.out; have hfz14_0 := bfz BK168.out 0; have hfz14_1 := bfz BK168.out 1) | ((with_reducible refine gtc (f := 208) rfl ?_); refine gsL (some 22) rfl rfl Tryz.func208 Z6 rfl #[.agg #[.string ((rd_T53 l1 x14_1).f0), .string ((rd_T53 l1 x14_1).f1)]] rfl Z1 ?_; (with_reducible refine (size_short.calls ((rd_T53 l1 x14_1).f0) ((rd_T53 l1 x14_1).f1) true _ ?side1 A9.out).mono ?_); (case side1 => exact GL.below hG Z63); rintro e w15 ⟨rfl, hb⟩; refine ⟨_, rfl, ?_⟩; replace BK168 := AS (bbl (g := gb168) (o := .cells #[.string ((rd_T53 l1 x14_1).f0), .string ((rd_T53 l1 x14_1).f1)] 53 (0, 0)) (by (with_reducible repeat (first | apply bdn | apply bdr | apply bal)); exact BK168.out) hb); replace HB := AS (bst Z63 hb); (try clear hb)))
         go_roundg k1
         case measure => have := HK1.out; omega
         case rel => exact ⟨(wrap64 (x14_1 + 1)), Z4, H', ⟨Z85⟩, ⟨Z63⟩⟩
        ·replace c10 := Bool.eq_false_iff.mpr c10; subst c10
         rw [if_neg ffl] at H
         exact absurd H (by simp)
       ·rw [if_neg c8] at H
        exact absurd H (by simp)
      ·rw [if_neg c6] at H
       exact absurd H (by simp)
     ·rw [if_neg c5] at H
      exact absurd H (by simp)
    ·rw [if_neg c4] at H
     have c4b0 : decide (x14_1 < (l1.length : Int)) = false := decide_eq_false c4; clear c4; obtain rfl := Option.some.inj H; go_wp2; go_ret; exact ⟨Z3, Z0⟩
 ·rw [if_neg c3] at H
  exact absurd H (by simp)
def size_CheckAll.l0 : Nat → List Int → List (List (S53)) → Int → Int → Option (Int)
 | 0, _, _, _, _ => none
 | k + 1, x0, x14, x15, x16 => if x16 < x15 then (if 0 ≤ x16 then (if x16 < (x14.length : Int) then ((size_check.f k x0 (rd_L8 x14 x16)).bind fun t173 => (if t173 = 0 then (size_CheckAll.l0 k x0 x14 x15 (wrap64 (x16 + 1))) else (none))) else (none)) else (none)) else (some 0)
def size_CheckAll.f (k : Nat) (l0 : List Int) (l1 : List (List (S53))) : Option (Int) := (prCk.f k l0).bind fun t171 => (if t171 = 0 then (size_CheckAll.l0 k l0 l1 (l1.length : Int) 0) else (none))
theorem size_CheckAll.calls (k : Nat) (A0 : Option Addr) (c0 : Nat) (l0 : List Int) (A1 : Option Addr) (c1 : Nat) (l1 : List (List (S53))) (r : Int) (w : World) (hr0 : Kd.C (Kd.int .i64) w A0 l0.length l0) (hc0 : l0.length ≤ c0) (hr1 : Kd.C (Kd.slice 53 k53) w A1 l1.length l1) (hc1 : l1.length ≤ c1) (hG : GL w) (h : size_CheckAll.f k l0 l1 = some r) :
  Calls Tryz.prog 148 #[.slice A0 l0.length c0, .slice A1 l1.length c1] w fun e w' => e = .returned (.int .i64 r) ∧ Below w.heap.size w w' := by
 have HR0 := AS hr0; have HC0 := AS hc0; clear hr0 hc0; have HR1 := AS hr1; have HC1 := AS hc1; clear hr1 hc1; have HB := AS (blr w); have H : ((prCk.f k l0).bind fun t171 => (if t171 = 0 then (size_CheckAll.l0 k l0 l1 (l1.length : Int) 0) else (none))) = some r := h; clear h; replace H := bsm H; obtain ⟨t171, A30, H⟩ := H; replace H : (if t171 = 0 then (size_CheckAll.l0 k l0 l1 (l1.length : Int) 0) else (none)) = some r := H; have A3 := AS A30; clear A30
 by_cases c4 : t171 = 0
 ·rw [if_pos c4] at H
  have c4b0 : (t171 == 0) = true := bqt c4; have c4b1 : (t171 != 0) = false := bnf c4; clear c4; have H' := AS H; clear H; go_enter Tryz.func148, Tryz.ntmps148; go_wp2_with (first | ((with_reducible refine gtc (f := 25) rfl ?_); refine gsL (some 10) rfl rfl Tryz.func25 Z6 rfl #[.slice A0 l0.length c0] rfl Z1 ?_; (with_reducible refine (prCk.calls k _ _ l0 t171 _ ?side1 ?side2 ?side3 A3.out).mono ?_); (case side1 => exact Z15); (case side2 => exact Z81); (case side3 => exact Z168); rintro e w' ⟨rfl, ⟨nd, rfl⟩⟩; refine ⟨_, rfl, ?_⟩))
  go_loopg [16] k (fun kq v16 w' => ∃ (x16_1 : Int), v16 = .int .i64 x16_1 ∧ Aside0 (size_CheckAll.l0 kq l0 l1 (l1.length : Int) x16_1 = some r) ∧ Aside0 (kq ≤ k) ∧ Aside0 (Below w.heap.size w w'))
  case atStart => exact ⟨(0), Z4, H', ⟨Nat.le_refl _⟩, ⟨Z0⟩⟩
  case round =>
   clear H'; (try clear c1); (try clear c2); (try clear p2); (try clear c4); (try clear c4b0); (try clear c4b1); obtain ⟨x16_1, rfl, HA, HK1, HB⟩ := hrel
   cases gk with
   | zero => exact absurd HA.out (by simp [size_CheckAll.l0])
   | succ k1 =>
    have H := HA.out; clear HA
    simp only [size_CheckAll.l0] at H
    by_cases c5 : x16_1 < (l1.length : Int)
    ·rw [if_pos c5] at H
     have c5b0 : decide (x16_1 < (l1.length : Int)) = true := dqt c5; clear c5
     by_cases c6 : 0 ≤ x16_1
     ·rw [if_pos c6] at H
      have c6b0 : decide (0 ≤ x16_1) = true := dqt c6; clear c6
      by_cases c7 : x16_1 < (l1.length : Int)
      ·rw [if_pos c7] at H
       have c7b0 : decide (x16_1 < (l1.length : Int)) = true := dqt c7; clear c7; replace H := bsm H; obtain ⟨t173, A80, H⟩ := H; replace H : (if t173 = 0 then (size_CheckAll.l0 k1 l0 l1 (l1.length : Int) (wrap64 (x16_1 + 1))) else (none)) = some r := H; have A8 := AS A80; clear A80
       by_cases c9 : t173 = 0
       ·rw [if_pos c9] at H
        have c9b0 : (t173 == 0) = true := bqt c9; have c9b1 : (t173 != 0) = false := bnf c9; clear c9; have H' := AS H; clear H; have p172 : 0 ≤ (x16_1 : Int) := odt Z2; have q172 : x16_1 < (l1.length : Int) := odt Z2; obtain ⟨ad172, A172_0, c172_0, e172, hx172_0, hl172_0, hi172_0⟩ := at_L8 HR1.out x16_1 p172 q172; cases e172; replace hx172_0 := (HB.out.cell (wbl w _ hx172_0)).trans hx172_0; have HR172_0 := AS hi172_0; have HC172_0 := AS hl172_0; clear hi172_0 hl172_0; replace p172 := eq_true p172; replace q172 := eq_true q172; go_wp2_with (first | ((with_reducible refine gtc (f := 181) rfl ?_); refine gsL (some 22) rfl rfl Tryz.func181 Z6 rfl #[.slice A0 l0.length c0, .slice A172_0 (rd_L8 l1 x16_1).length c172_0] rfl Z1 ?_; (with_reducible refine (size_check.calls k1 _ _ l0 _ _ (rd_L8 l1 x16_1) t173 _ ?side1 ?side2 ?side3 ?side4 ?side5 A8.out).mono ?_); (case side1 => exact Z9); (case side2 => exact Z81); (case side3 => repeat (first | exact (Kd.C_below HR172_0.out HB.out) | (with_reducible refine Kd.C_alloc ?_ _) | (with_reducible refine Kd.C_drewN ?_ _) | (with_reducible refine Kd.C_drew ?_))); (case side4 => exact HC172_0.out); (case side5 => exact Z168); rintro e w10 ⟨rfl, hb⟩; refine ⟨_, rfl, ?_⟩; replace HB := AS (bst Z0 hb); (try clear hb)))
        go_roundg k1
        case measure => have := HK1.out; omega
        case rel => exact ⟨(wrap64 (x16_1 + 1)), Z4, H', ⟨Z85⟩, ⟨Z0⟩⟩
       ·rw [if_neg c9] at H
        exact absurd H (by simp)
      ·rw [if_neg c7] at H
       exact absurd H (by simp)
     ·rw [if_neg c6] at H
      exact absurd H (by simp)
    ·rw [if_neg c5] at H
     have c5b0 : decide (x16_1 < (l1.length : Int)) = false := decide_eq_false c5; clear c5; obtain rfl := Option.some.inj H; go_wp2; go_ret; exact ⟨Z3, Z0⟩
 ·rw [if_neg c4] at H
  exact absurd H (by simp)
def whole_join.f (a0 : Bool) (a1 : ByteArray) : Option (ByteArray) := if a0 = true then (if a1.toList = ([48] : List UInt8) then (some a1) else (if 1 + a1.size ≤ 9223372036854775807 then (some ((⟨#[45]⟩ : ByteArray) ++ a1)) else (none))) else (some a1)
theorem whole_join.calls (a0 : Bool) (a1 : ByteArray) (r : ByteArray) (w : World) (hG : GL w) (h : whole_join.f a0 a1 = some r) :
  Calls Tryz.prog 140 #[.bool a0, .string a1] w fun e w' => e = .returned (.string r) ∧ Drawn0 w w' := by
 have HB := AS (blr w); have H : (if a0 = true then (if a1.toList = ([48] : List UInt8) then (some a1) else (if 1 + a1.size ≤ 9223372036854775807 then (some ((⟨#[45]⟩ : ByteArray) ++ a1)) else (none))) else (some a1)) = some r := h; clear h
 by_cases c3 : a0 = true
 ·subst c3
  rw [if_pos rfl] at H
  by_cases c4 : a1.toList = ([48] : List UInt8)
  ·rw [if_pos c4] at H
   have c4b0 : (a1.toList == ([48] : List UInt8)) = true := bqt c4; have c4b1 : (a1.toList != ([48] : List UInt8)) = false := bnf c4; clear c4; obtain rfl := Option.some.inj H; go_enter Tryz.func140, Tryz.ntmps140; go_wp2; go_ret; exact ⟨Z4, Z11⟩
  ·rw [if_neg c4] at H
   have c4b0 : (a1.toList == ([48] : List UInt8)) = false := bqf c4; have c4b1 : (a1.toList != ([48] : List UInt8)) = true := bnt c4
   by_cases c5 : 1 + a1.size ≤ 9223372036854775807
   ·rw [if_pos c5] at H
    have c5b0 := eq_true c5; have c5b1 : decide (1 + a1.size ≤ 9223372036854775807) = true := dqt c5; (try have c5b2 : (9223372036854775807 < 1 + a1.size) = False := eq_false (Nat.not_lt.2 c5)); obtain rfl := Option.some.inj H; go_enter Tryz.func140, Tryz.ntmps140; go_wp2; go_ret; exact ⟨Z4, Z11⟩
   ·rw [if_neg c5] at H
    exact absurd H (by simp)
 ·replace c3 := Bool.eq_false_iff.mpr c3; subst c3
  rw [if_neg ffl] at H
  obtain rfl := Option.some.inj H; go_enter Tryz.func140, Tryz.ntmps140; go_wp2; go_ret; exact ⟨Z4, Z11⟩

mutual
def whDM.j1 : Nat → ByteArray → ByteArray → Option (ByteArray × ByteArray × Int)
 | 0, _, _ => none
 | k + 1, x0, x1 => (whole_split.f x0).bind fun bt182 => ((whole_split.f x1).bind fun bt184 => (none))
def whDM.j0 : Nat → Int → Int → Int → Bool → Option (ByteArray × ByteArray × Int)
 | 0, _, _, _, _ => none
 | k + 1, x9, x11, x12, x47 => if x47 = true then ((whOf.f (wrap64 (x11 - 1))).bind fun t178 => ((whOf.f (wrap64 (x12 + x9))).bind fun t179 => (some (t178, t179, 0)))) else ((whOf.f x11).bind fun t180 => ((whOf.f x12).bind fun t181 => (some (t180, t181, 0))))
end
def whDM.f (k : Nat) (a0 : ByteArray) (a1 : ByteArray) : Option (ByteArray × ByteArray × Int) := if a1.toList = ([48] : List UInt8) then (none) else ((whLi.f a0 18).bind fun bt174 => (if bt174.2 = true then ((whLi.f a1 18).bind fun bt176 => (if bt176.2 = true then (if bt176.1 = 0 then (none) else (if (Int.tmod bt174.1 bt176.1) = 0 then (whDM.j0 k bt176.1 (wrap64 (Int.tdiv bt174.1 bt176.1)) (Int.tmod bt174.1 bt176.1) false) else (whDM.j0 k bt176.1 (wrap64 (Int.tdiv bt174.1 bt176.1)) (Int.tmod bt174.1 bt176.1) ((decide ((Int.tmod bt174.1 bt176.1) < 0)) != (decide (bt176.1 < 0)))))) else (whDM.j1 k a0 a1))) else (whDM.j1 k a0 a1)))
theorem whDM.mono_l : ∀ k, (∀ y0 y1, LeO (whDM.j1 k y0 y1) (whDM.j1 (k + 1) y0 y1)) ∧ (∀ y0 y1 y2 y3, LeO (whDM.j0 k y0 y1 y2 y3) (whDM.j0 (k + 1) y0 y1 y2 y3))
 | 0 => ⟨fun _ _ r h => by simp [whDM.j1] at h, fun _ _ _ _ r h => by simp [whDM.j0] at h⟩
 | k + 1 => by
  obtain ⟨ih0, ih1⟩ := whDM.mono_l k; refine ⟨?_, ?_⟩
  ·intro y0 y1; unfold whDM.j1
   repeat' (with_reducible first | exact ih0 _ _ | exact ih1 _ _ _ _ | exact LeO.refl _ | exact LeO.none _ | refine LeO.ite ?_ ?_ | refine LeO.bind ?_ (fun _ => ?_))
  ·intro y0 y1 y2 y3; unfold whDM.j0
   repeat' (with_reducible first | exact ih0 _ _ | exact ih1 _ _ _ _ | exact LeO.refl _ | exact LeO.none _ | refine LeO.ite ?_ ?_ | refine LeO.bind ?_ (fun _ => ?_))
theorem whDM.mono : ∀ a0 a1 k, LeO (whDM.f k a0 a1) (whDM.f (k + 1) a0 a1) := by
 intro a0 a1 k; obtain ⟨ih0, ih1⟩ := whDM.mono_l k; unfold whDM.f
 repeat' (with_reducible first | exact ih0 _ _ | exact ih1 _ _ _ _ | exact LeO.refl _ | exact LeO.none _ | refine LeO.ite ?_ ?_ | refine LeO.bind ?_ (fun _ => ?_))
theorem whDM.calls (k : Nat) (a0 : ByteArray) (a1 : ByteArray) (r1 : ByteArray) (r2 : ByteArray) (r3 : Int) (w : World) (hG : GL w) (h : whDM.f k a0 a1 = some (r1, r2, r3)) :
  Calls Tryz.prog 118 #[.string a0, .string a1] w fun e w' => e = .returned (.tuple #[.string r1, .string r2, .int .i64 r3]) ∧ Below w.heap.size w w' := by
 have HB := AS (blr w); have H : (if a1.toList = ([48] : List UInt8) then (none) else ((whLi.f a0 18).bind fun bt174 => (if bt174.2 = true then ((whLi.f a1 18).bind fun bt176 => (if bt176.2 = true then (if bt176.1 = 0 then (none) else (if (Int.tmod bt174.1 bt176.1) = 0 then (whDM.j0 k bt176.1 (wrap64 (Int.tdiv bt174.1 bt176.1)) (Int.tmod bt174.1 bt176.1) false) else (whDM.j0 k bt176.1 (wrap64 (Int.tdiv bt174.1 bt176.1)) (Int.tmod bt174.1 bt176.1) ((decide ((Int.tmod bt174.1 bt176.1) < 0)) != (decide (bt176.1 < 0)))))) else (whDM.j1 k a0 a1))) else (whDM.j1 k a0 a1)))) = some (r1, r2, r3) := h; clear h
 by_cases c3 : a1.toList = ([48] : List UInt8)
 ·rw [if_pos c3] at H
  exact absurd H (by simp)
 ·rw [if_neg c3] at H
  have c3b0 : (a1.toList == ([48] : List UInt8)) = false := bqf c3; have c3b1 : (a1.toList != ([48] : List UInt8)) = true := bnt c3; replace H := bsm H; obtain ⟨⟨t174, t175⟩, A40, H⟩ := H; replace H : (if t175 = true then ((whLi.f a1 18).bind fun bt176 => (if bt176.2 = true then (if bt176.1 = 0 then (none) else (if (Int.tmod t174 bt176.1) = 0 then (whDM.j0 k bt176.1 (wrap64 (Int.tdiv t174 bt176.1)) (Int.tmod t174 bt176.1) false) else (whDM.j0 k bt176.1 (wrap64 (Int.tdiv t174 bt176.1)) (Int.tmod t174 bt176.1) ((decide ((Int.tmod t174 bt176.1) < 0)) != (decide (bt176.1 < 0)))))) else (whDM.j1 k a0 a1))) else (whDM.j1 k a0 a1)) = some (r1, r2, r3) := H; have A4 := AS A40; clear A40; have HC5 := AS H; clear H; go_enter Tryz.func118, Tryz.ntmps118
  go_upto_if 26 with (first | (go_at_call 123; (with_reducible refine (whLi.calls a0 18 t174 t175 _ ?side1 A4.out).mono ?_); (case side1 => exact Z168); rintro e w6 ⟨rfl, hb⟩; replace HB := AS (bst Z0 hb); (try clear hb)))
  repeat (go_quiet (first | (go_at_call 123; (with_reducible refine (whLi.calls a0 18 t174 t175 _ ?side1 A4.out).mono ?_); (case side1 => exact Z168); rintro e w6 ⟨rfl, hb⟩; replace HB := AS (bst Z0 hb); (try clear hb))); go_upto_if 26 with (first | (go_at_call 123; (with_reducible refine (whLi.calls a0 18 t174 t175 _ ?side1 A4.out).mono ?_); (case side1 => exact Z168); rintro e w6 ⟨rfl, hb⟩; replace HB := AS (bst Z0 hb); (try clear hb))))
  (try simp only [Act.put, sA1, sA2, sA3])
  go_cut [] (fun wc => ∃ (kq : Nat), Aside0 (whDM.j1 kq a0 a1 = some (r1, r2, r3)) ∧ Aside0 (kq ≤ k) ∧ Aside0 (Below w.heap.size w wc))
  case first =>
   have H := HC5.out; clear HC5
   by_cases c7 : t175 = true
   ·subst c7
    rw [if_pos rfl] at H
    replace H := bsm H; obtain ⟨⟨t176, t177⟩, A80, H⟩ := H; replace H : (if t177 = true then (if t176 = 0 then (none) else (if (Int.tmod t174 t176) = 0 then (whDM.j0 k t176 (wrap64 (Int.tdiv t174 t176)) (Int.tmod t174 t176) false) else (whDM.j0 k t176 (wrap64 (Int.tdiv t174 t176)) (Int.tmod t174 t176) ((decide ((Int.tmod t174 t176) < 0)) != (decide (t176 < 0)))))) else (whDM.j1 k a0 a1)) = some (r1, r2, r3) := H; have A8 := AS A80; clear A80
    by_cases c9 : t177 = true
    ·subst c9
     rw [if_pos rfl] at H
     by_cases c10 : t176 = 0
     ·rw [if_pos c10] at H
      exact absurd H (by simp)
     ·rw [if_neg c10] at H
      have c10b0 : (t176 == 0) = false := bqf c10; have c10b1 : (t176 != 0) = true := bnt c10
      (first | rw [c10b0] | (simp only [i64_w, i32_w]; rw [c10b0]) | skip)
      have HC11 := AS H; clear H
      go_upto_region 8 with (first | (go_at_call 123; (with_reducible refine (whLi.calls a1 18 t176 true _ ?side1 A8.out).mono ?_); (case side1 => exact Z168); rintro e w12 ⟨rfl, hb⟩; replace HB := AS (bst Z0 hb); (try clear hb)))
      repeat (go_quiet (first | (go_at_call 123; (with_reducible refine (whLi.calls a1 18 t176 true _ ?side1 A8.out).mono ?_); (case side1 => exact Z168); rintro e w12 ⟨rfl, hb⟩; replace HB := AS (bst Z0 hb); (try clear hb))); go_upto_region 8 with (first | (go_at_call 123; (with_reducible refine (whLi.calls a1 18 t176 true _ ?side1 A8.out).mono ?_); (case side1 => exact Z168); rintro e w12 ⟨rfl, hb⟩; replace HB := AS (bst Z0 hb); (try clear hb))))
      (try simp only [Act.put, sA1, sA2, sA3])
      go_cut [47] (fun v47 wc => ∃ (kq : Nat) (x47_10 : Bool), v47 = .bool x47_10 ∧ Aside0 (whDM.j0 kq t176 (wrap64 (Int.tdiv t174 t176)) (Int.tmod t174 t176) x47_10 = some (r1, r2, r3)) ∧ Aside0 (kq ≤ k) ∧ Aside0 (Below w.heap.size w wc))
      case first =>
       have H := HC11.out; clear HC11
       by_cases c13 : (Int.tmod t174 t176) = 0
       ·rw [if_pos c13] at H
        have c13b0 : ((Int.tmod t174 t176) == 0) = true := bqt c13; have c13b1 : ((Int.tmod t174 t176) != 0) = false := bnf c13; clear c13
        (first | rw [c13b0] | (simp only [i64_w, i32_w]; rw [c13b0]) | skip)
        have H' := AS H; clear H; go_wp2
        repeat (go_quiet (fail); try go_wp2)
        go_meet
        case rel => exact ⟨_, (false), Z4, H', ⟨Z61⟩, ⟨Z0⟩⟩
       ·rw [if_neg c13] at H
        have c13b0 : ((Int.tmod t174 t176) == 0) = false := bqf c13; have c13b1 : ((Int.tmod t174 t176) != 0) = true := bnt c13
        (first | rw [c13b0] | (simp only [i64_w, i32_w]; rw [c13b0]) | skip)
        have H' := AS H; clear H; go_wp2
        repeat (go_quiet (fail); try go_wp2)
        go_meet
        case rel => exact ⟨_, (((decide ((Int.tmod t174 t176) < 0)) != (decide (t176 < 0)))), Z4, H', ⟨Z61⟩, ⟨Z0⟩⟩
      case rest =>
       clear HC11; (try clear c1); (try clear p2); (try clear c3); (try clear c3b0); (try clear c3b1); (try clear p6); (try clear c7); (try clear c9); (try clear c10); (try clear c10b0); (try clear c10b1); (try clear c11); (try clear c13); (try clear c13b0); (try clear c13b1); obtain ⟨kq, x47_10, rfl, HA, HJ10, HB⟩ := hcut
       cases kq with
       | zero => exact absurd HA.out (by simp [whDM.j0])
       | succ kj10 =>
        have H := HA.out; clear HA
        simp only [whDM.j0] at H
        by_cases c14 : x47_10 = true
        ·subst c14
         rw [if_pos rfl] at H
         replace H := bsm H; obtain ⟨t178, A150, H⟩ := H; replace H : ((whOf.f (wrap64 ((Int.tmod t174 t176) + t176))).bind fun t179 => (some (t178, t179, 0))) = some (r1, r2, r3) := H; have A15 := AS A150; clear A150; replace H := bsm H; obtain ⟨t179, A160, H⟩ := H; replace H : (some (t178, t179, 0)) = some (r1, r2, r3) := H; have A16 := AS A160; clear A160
         simp only [Option.some.injEq, Prod.mk.injEq] at H
         obtain ⟨rfl, rfl, rfl⟩ := H; go_wp2_with (first | (go_at_call 59; (with_reducible refine (whOf.calls (wrap64 ((wrap64 (Int.tdiv t174 t176)) - 1)) t178 _ ?side1 A15.out).mono ?_); (case side1 => exact Z168); rintro e w17 ⟨rfl, hb⟩; replace HB := AS (bst Z0 hb); (try clear hb)) | (go_at_call 59; (with_reducible refine (whOf.calls (wrap64 ((Int.tmod t174 t176) + t176)) t179 _ ?side1 A16.out).mono ?_); (case side1 => exact Z168); rintro e w18 ⟨rfl, hb⟩; replace HB := AS (bst Z0 hb); (try clear hb)))
         repeat (go_quiet (first | (go_at_call 59; (with_reducible refine (whOf.calls (wrap64 ((wrap64 (Int.tdiv t174 t176)) - 1)) t178 _ ?side1 A15.out).mono ?_); (case side1 => exact Z168); rintro e w17 ⟨rfl, hb⟩; replace HB := AS (bst Z0 hb); (try clear hb)) | (go_at_call 59; (with_reducible refine (whOf.calls (wrap64 ((Int.tmod t174 t176) + t176)) t179 _ ?side1 A16.out).mono ?_); (case side1 => exact Z168); rintro e w18 ⟨rfl, hb⟩; replace HB := AS (bst Z0 hb); (try clear hb))); try go_wp2_with (first | (go_at_call 59; (with_reducible refine (whOf.calls (wrap64 ((wrap64 (Int.tdiv t174 t176)) - 1)) t178 _ ?side1 A15.out).mono ?_); (case side1 => exact Z168); rintro e w17 ⟨rfl, hb⟩; replace HB := AS (bst Z0 hb); (try clear hb)) | (go_at_call 59; (with_reducible refine (whOf.calls (wrap64 ((Int.tmod t174 t176) + t176)) t179 _ ?side1 A16.out).mono ?_); (case side1 => exact Z168); rintro e w18 ⟨rfl, hb⟩; replace HB := AS (bst Z0 hb); (try clear hb))))
         go_ret3
         exact ⟨Z3, Z0⟩
        ·replace c14 := Bool.eq_false_iff.mpr c14; subst c14
         rw [if_neg ffl] at H
         replace H := bsm H; obtain ⟨t180, A190, H⟩ := H; replace H : ((whOf.f (Int.tmod t174 t176)).bind fun t181 => (some (t180, t181, 0))) = some (r1, r2, r3) := H; have A19 := AS A190; clear A190; replace H := bsm H; obtain ⟨t181, A200, H⟩ := H; replace H : (some (t180, t181, 0)) = some (r1, r2, r3) := H; have A20 := AS A200; clear A200
         simp only [Option.some.injEq, Prod.mk.injEq] at H
         obtain ⟨rfl, rfl, rfl⟩ := H; go_wp2_with (first | (go_at_call 59; (with_reducible refine (whOf.calls (wrap64 (Int.tdiv t174 t176)) t180 _ ?side1 A19.out).mono ?_); (case side1 => exact Z168); rintro e w21 ⟨rfl, hb⟩; replace HB := AS (bst Z0 hb); (try clear hb)) | (go_at_call 59; (with_reducible refine (whOf.calls (Int.tmod t174 t176) t181 _ ?side1 A20.out).mono ?_); (case side1 => exact Z168); rintro e w22 ⟨rfl, hb⟩; replace HB := AS (bst Z0 hb); (try clear hb)))
         repeat (go_quiet (first | (go_at_call 59; (with_reducible refine (whOf.calls (wrap64 (Int.tdiv t174 t176)) t180 _ ?side1 A19.out).mono ?_); (case side1 => exact Z168); rintro e w21 ⟨rfl, hb⟩; replace HB := AS (bst Z0 hb); (try clear hb)) | (go_at_call 59; (with_reducible refine (whOf.calls (Int.tmod t174 t176) t181 _ ?side1 A20.out).mono ?_); (case side1 => exact Z168); rintro e w22 ⟨rfl, hb⟩; replace HB := AS (bst Z0 hb); (try clear hb))); try go_wp2_with (first | (go_at_call 59; (with_reducible refine (whOf.calls (wrap64 (Int.tdiv t174 t176)) t180 _ ?side1 A19.out).mono ?_); (case side1 => exact Z168); rintro e w21 ⟨rfl, hb⟩; replace HB := AS (bst Z0 hb); (try clear hb)) | (go_at_call 59; (with_reducible refine (whOf.calls (Int.tmod t174 t176) t181 _ ?side1 A20.out).mono ?_); (case side1 => exact Z168); rintro e w22 ⟨rfl, hb⟩; replace HB := AS (bst Z0 hb); (try clear hb))))
         go_ret3
         exact ⟨Z3, Z0⟩
    ·replace c9 := Bool.eq_false_iff.mpr c9; subst c9
     rw [if_neg ffl] at H
     have H' := AS H; clear H; go_wp2_with (first | (go_at_call 123; (with_reducible refine (whLi.calls a1 18 t176 false _ ?side1 A8.out).mono ?_); (case side1 => exact Z168); rintro e w23 ⟨rfl, hb⟩; replace HB := AS (bst Z0 hb); (try clear hb)))
     repeat (go_quiet (first | (go_at_call 123; (with_reducible refine (whLi.calls a1 18 t176 false _ ?side1 A8.out).mono ?_); (case side1 => exact Z168); rintro e w23 ⟨rfl, hb⟩; replace HB := AS (bst Z0 hb); (try clear hb))); try go_wp2_with (first | (go_at_call 123; (with_reducible refine (whLi.calls a1 18 t176 false _ ?side1 A8.out).mono ?_); (case side1 => exact Z168); rintro e w23 ⟨rfl, hb⟩; replace HB := AS (bst Z0 hb); (try clear hb))))
     go_meet
     case rel => exact ⟨_, H', ⟨Z61⟩, ⟨Z0⟩⟩
   ·replace c7 := Bool.eq_false_iff.mpr c7; subst c7
    rw [if_neg ffl] at H
    have H' := AS H; clear H; go_wp2
    repeat (go_quiet (fail); try go_wp2)
    go_meet
    case rel => exact ⟨_, H', ⟨Z61⟩, ⟨Z0⟩⟩
  case rest =>
   clear HC5; (try clear c1); (try clear p2); (try clear c3); (try clear c3b0); (try clear c3b1); (try clear p6); (try clear c7); (try clear c9); (try clear c10); (try clear c10b0); (try clear c10b1); (try clear c11); (try clear c13); (try clear c13b0); (try clear c13b1); (try clear c14); (try clear p2); (try clear p6); obtain ⟨kq, HA, HJ4, HB⟩ := hcut
   cases kq with
   | zero => exact absurd HA.out (by simp [whDM.j1])
   | succ kj4 =>
    have H := HA.out; clear HA
    simp only [whDM.j1] at H
    replace H := bsm H; obtain ⟨⟨t182, t183⟩, A240, H⟩ := H; replace H : ((whole_split.f a1).bind fun bt184 => (none)) = some (r1, r2, r3) := H; have A24 := AS A240; clear A240; replace H := bsm H; obtain ⟨⟨t184, t185⟩, A250, H⟩ := H; replace H : (none) = some (r1, r2, r3) := H; have A25 := AS A250; clear A250; exact absurd H (by simp)
def whole_Mul.j0 : Nat → ByteArray → ByteArray → Option (ByteArray)
 | 0, _, _ => none
 | k + 1, x0, x1 => (whole_split.f x0).bind fun bt191 => ((whole_split.f x1).bind fun bt193 => (none))
def whole_Mul.f (k : Nat) (a0 : ByteArray) (a1 : ByteArray) : Option (ByteArray) := (whLi.f a0 9).bind fun bt186 => (if bt186.2 = true then ((whLi.f a1 9).bind fun bt188 => (if bt188.2 = true then ((whOf.f (wrap64 (bt186.1 * bt188.1))).bind fun t190 => (some t190)) else (whole_Mul.j0 k a0 a1))) else (whole_Mul.j0 k a0 a1))
theorem whole_Mul.mono_l : ∀ k, (∀ y0 y1, LeO (whole_Mul.j0 k y0 y1) (whole_Mul.j0 (k + 1) y0 y1))
 | 0 => fun _ _ r h => by simp [whole_Mul.j0] at h
 | k + 1 => by
  have ih0 := whole_Mul.mono_l k
  ·intro y0 y1; unfold whole_Mul.j0
   repeat' (with_reducible first | exact ih0 _ _ | exact LeO.refl _ | exact LeO.none _ | refine LeO.ite ?_ ?_ | refine LeO.bind ?_ (fun _ => ?_))
theorem whole_Mul.mono : ∀ a0 a1 k, LeO (whole_Mul.f k a0 a1) (whole_Mul.f (k + 1) a0 a1) := by
 intro a0 a1 k; have ih0 := whole_Mul.mono_l k; unfold whole_Mul.f
 repeat' (with_reducible first | exact ih0 _ _ | exact LeO.refl _ | exact LeO.none _ | refine LeO.ite ?_ ?_ | refine LeO.bind ?_ (fun _ => ?_))
theorem whole_Mul.calls (k : Nat) (a0 : ByteArray) (a1 : ByteArray) (r : ByteArray) (w : World) (hG : GL w) (h : whole_Mul.f k a0 a1 = some r) :
  Calls Tryz.prog 154 #[.string a0, .string a1] w fun e w' => e = .returned (.string r) ∧ Below w.heap.size w w' := by
 have HB := AS (blr w); have H : ((whLi.f a0 9).bind fun bt186 => (if bt186.2 = true then ((whLi.f a1 9).bind fun bt188 => (if bt188.2 = true then ((whOf.f (wrap64 (bt186.1 * bt188.1))).bind fun t190 => (some t190)) else (whole_Mul.j0 k a0 a1))) else (whole_Mul.j0 k a0 a1))) = some r := h; clear h; replace H := bsm H; obtain ⟨⟨t186, t187⟩, A30, H⟩ := H; replace H : (if t187 = true then ((whLi.f a1 9).bind fun bt188 => (if bt188.2 = true then ((whOf.f (wrap64 (t186 * bt188.1))).bind fun t190 => (some t190)) else (whole_Mul.j0 k a0 a1))) else (whole_Mul.j0 k a0 a1)) = some r := H; have A3 := AS A30; clear A30; have HC4 := AS H; clear H; go_enter Tryz.func154, Tryz.ntmps154
 go_upto_if 18 with (first | ((with_reducible refine gtc (f := 123) rfl ?_); refine gsL (some 15) rfl rfl Tryz.func123 Z6 rfl #[.string a0, .int .i64 9] rfl Z1 ?_; (with_reducible refine (whLi.calls a0 9 t186 t187 _ ?side1 A3.out).mono ?_); (case side1 => exact Z168); rintro e w5 ⟨rfl, hb⟩; refine ⟨_, rfl, ?_⟩; replace HB := AS (bst Z0 hb); (try clear hb)))
 (try simp only [Act.put, sA1, sA2, sA3])
 go_cut [] (fun wc => ∃ (kq : Nat), Aside0 (whole_Mul.j0 kq a0 a1 = some r) ∧ Aside0 (kq ≤ k) ∧ Aside0 (Below w.heap.size w wc))
 case first =>
  have H := HC4.out; clear HC4
  by_cases c6 : t187 = true
  ·subst c6
   rw [if_pos rfl] at H
   replace H := bsm H; obtain ⟨⟨t188, t189⟩, A70, H⟩ := H; replace H : (if t189 = true then ((whOf.f (wrap64 (t186 * t188))).bind fun t190 => (some t190)) else (whole_Mul.j0 k a0 a1)) = some r := H; have A7 := AS A70; clear A70
   by_cases c8 : t189 = true
   ·subst c8
    rw [if_pos rfl] at H
    replace H := bsm H; obtain ⟨t190, A90, H⟩ := H; replace H : (some t190) = some r := H; have A9 := AS A90; clear A90; obtain rfl := Option.some.inj H; go_wp2_with (first | ((with_reducible refine gtc (f := 123) rfl ?_); refine gsL (some 21) rfl rfl Tryz.func123 Z6 rfl #[.string a1, .int .i64 9] rfl Z1 ?_; (with_reducible refine (whLi.calls a1 9 t188 true _ ?side1 A7.out).mono ?_); (case side1 => exact Z168); rintro e w10 ⟨rfl, hb⟩; refine ⟨_, rfl, ?_⟩; replace HB := AS (bst Z0 hb); (try clear hb)) | ((with_reducible refine gtc (f := 59) rfl ?_); refine gsL (some 28) rfl rfl Tryz.func59 Z6 rfl #[.int .i64 (wrap64 (t186 * t188))] rfl Z1 ?_; (with_reducible refine (whOf.calls (wrap64 (t186 * t188)) t190 _ ?side1 A9.out).mono ?_); (case side1 => exact Z168); rintro e w11 ⟨rfl, hb⟩; refine ⟨_, rfl, ?_⟩; replace HB := AS (bst Z0 hb); (try clear hb))); go_ret; exact ⟨Z3, Z0⟩
   ·replace c8 := Bool.eq_false_iff.mpr c8; subst c8
    rw [if_neg ffl] at H
    have H' := AS H; clear H; go_wp2_with (first | ((with_reducible refine gtc (f := 123) rfl ?_); refine gsL (some 21) rfl rfl Tryz.func123 Z6 rfl #[.string a1, .int .i64 9] rfl Z1 ?_; (with_reducible refine (whLi.calls a1 9 t188 false _ ?side1 A7.out).mono ?_); (case side1 => exact Z168); rintro e w12 ⟨rfl, hb⟩; refine ⟨_, rfl, ?_⟩; replace HB := AS (bst Z0 hb); (try clear hb))); go_meet
    case rel => exact ⟨_, H', ⟨Z61⟩, ⟨Z0⟩⟩
  ·replace c6 := Bool.eq_false_iff.mpr c6; subst c6
   rw [if_neg ffl] at H
   have H' := AS H; clear H; go_wp2; go_meet
   case rel => exact ⟨_, H', ⟨Z61⟩, ⟨Z0⟩⟩
 case rest =>
  clear HC4; (try clear c1); (try clear p2); (try clear c5); (try clear c6); (try clear p6); (try clear c8); (try clear c12); obtain ⟨kq, HA, HJ3, HB⟩ := hcut
  cases kq with
  | zero => exact absurd HA.out (by simp [whole_Mul.j0])
  | succ kj3 =>
   have H := HA.out; clear HA
   simp only [whole_Mul.j0] at H
   replace H := bsm H; obtain ⟨⟨t191, t192⟩, A130, H⟩ := H; replace H : ((whole_split.f a1).bind fun bt193 => (none)) = some r := H; have A13 := AS A130; clear A130; replace H := bsm H; obtain ⟨⟨t193, t194⟩, A140, H⟩ := H; replace H : (none) = some r := H; have A14 := AS A140; clear A140; exact absurd H (by simp)

section
open Go.Sort Go.Shelf
theorem holds_zero0 (w : World) (T : TypeId) (nd : Nat) (hs : nd ≤ 24) : Holds (fun (b : UInt8) => Value.int .u8 (b.toNat : Int)) (w.alloc (.cells Lib.zeros24 T)) w.heap.size 0 (Array.replicate nd (0 : UInt8)) := fun j hj => by
 have hj' : j < nd := by simpa using hj
 refine ⟨?_, World.frozen?_alloc_new _ _ _ _⟩; rw [World.cell?_alloc_new, Lib.zeros24_at _ (by omega), getElem!_pos _ j hj]; simp
theorem internal_FormatUint_calls (u : Nat) (hu64 : u < 18446744073709551616) (w : World) (htab : Lib.TabIs Tryz.prog w "internal/strconv.uint64pow10" .u64 Lib.pow10Tab) :
  Calls Tryz.prog 132 #[.int .u64 (u : Int), .int .i64 10] w fun e w' => e = .returned (.string ⟨(Lib.decDigits u).toArray⟩) ∧ Below w.heap.size w w' := by
 by_cases hs : u < 100
 ·have hs' : (u : Int) < 100 := by omega
  have hb := Below.refl w.heap.size w; have hc := AS (Tryz.internal_strconv_small u hs); go_enter Tryz.func132, Tryz.ntmps132; go_wp2_with (go_at_call 157; refine (hc.out _).mono ?_; rintro e w' ⟨rfl, rfl⟩); go_ret; exact ⟨rfl, hb⟩
 ·have hs' : ¬ (u : Int) < 100 := by omega
  have hu1 : 1 ≤ u := by omega
  have hnd := Lib.nDigits_le20 u hu64
  have hal : Tryz.prog.arrayLen 199 = 24 := by simp [Program.arrayLen, Tryz.underlying199]
  have hsl : ∀ W, (Instr.sliceAt 199 (.pointer (some ⟨w.heap.size, 0, none⟩)) none (some (.int .i64 (Lib.nDigits u : Int))) none).run Tryz.prog W = .ok (.slice (some ⟨w.heap.size, 0, none⟩) (Lib.nDigits u) 24) W := fun W => by
   rw [run_sliceAt_array_h W 199 ⟨w.heap.size, 0, none⟩ (by simp [Program.arrayLen, Program.elem, Tryz.underlying199]) .i64 (Lib.nDigits u : Int) (by omega) (by rw [hal]; omega)]; go_simp
  have hH0 := holds_zero0 w 199 (Lib.nDigits u) (by omega); have hfmt := Tryz.internal_strconv_formatBase10 w.heap.size 0 24 u (Array.replicate (Lib.nDigits u) 0) (w.alloc (.cells Lib.zeros24 199)) hH0 (by rw [Array.size_replicate]; exact Lib.lt_pow_nDigits u) hu64 (by rw [Array.size_replicate]; omega); rw [Array.size_replicate] at hfmt; have HH0 := Lib.hid hH0; clear hH0 hal; go_enter Tryz.func132, Tryz.ntmps132; go_wp2_with (go_at_call 158; refine (Tryz.internal_strconv_numDigits u hu1 hu64 _ (Lib.tabIs_alloc htab _)).mono ?_; rintro e w' ⟨rfl, rfl⟩)
  go_at_call 159
  refine hfmt.mono ?_; rintro e w' ⟨rfl, k, v', dk, rfl, hF⟩
  have hcv : (convert 143 9 (.slice (some ⟨w.heap.size, 0, none⟩) (Lib.nDigits u) 24)).run Tryz.prog ((putRow (fun (b : UInt8) => Value.int .u8 (b.toNat : Int)) (w.alloc (.cells Lib.zeros24 199)) w.heap.size 0 dk).drewN k) = .ok (.string ⟨(Lib.decDigits u).toArray⟩) ((putRow (fun (b : UInt8) => Value.int .u8 (b.toNat : Int)) (w.alloc (.cells Lib.zeros24 199)) w.heap.size 0 dk).drewN k) := by
   have h := run_convert_bytes_back (P := Tryz.prog) ((putRow (fun (b : UInt8) => Value.int .u8 (b.toNat : Int)) (w.alloc (.cells Lib.zeros24 199)) w.heap.size 0 dk).drewN k) 143 9 5 ⟨w.heap.size, 0, none⟩ 24 (Lib.decDigits u) Tryz.underlying143 Tryz.underlying5 Tryz.underlying9 (fun j hj => by
    rw [Lib.row_is_numeral hF j hj, Lib.add_plain, World.cell?_drewN]
    exact cell?_putRow (fun (b : UInt8) => Value.int .u8 (b.toNat : Int)) _ w.heap.size 0 _ dk HH0.out (by rw [hF.size, Array.size_replicate]) j (by rw [hF.size]; rw [Lib.decDigits_length] at hj; exact hj))
   rw [Lib.decDigits_length] at h; exact h
  go_wp2; go_ret; refine ⟨rfl, ?_⟩; rw [alloc_eq_grow]; obtain ⟨os', _, e⟩ := putRow_grow_new (fun (b : UInt8) => Value.int .u8 (b.toNat : Int)) w #[.cells Lib.zeros24 199] w.heap.size 0 dk (Nat.le_refl _); rw [e]; exact Lib.below_grow _ _ (Nat.le_refl _) k os'
def strconv_FormatUint.f (a0 : Int) (a1 : Int) : Option (ByteArray) := if a1 = 10 ∧ 0 ≤ a0 ∧ a0 ≤ 18446744073709551615 then some ⟨(Lib.decDigits a0.toNat).toArray⟩ else none
theorem strconv_FormatUint.calls (a0 : Int) (a1 : Int) (r : ByteArray) (w : World) (hG : GL w) (h : strconv_FormatUint.f a0 a1 = some r) :
  Calls Tryz.prog 106 #[.int .u64 a0, .int .i64 a1] w fun e w' => e = .returned (.string r) ∧ Below w.heap.size w w' := by
 unfold strconv_FormatUint.f at h
 by_cases c : a1 = 10 ∧ 0 ≤ a0 ∧ a0 ≤ 18446744073709551615
 ·rw [if_pos c] at h; obtain rfl := Option.some.inj h; obtain ⟨rfl, h0, h1⟩ := c; obtain ⟨u, rfl⟩ := Int.eq_ofNat_of_zero_le h0; have hc := AS (fun W hW => internal_FormatUint_calls u (by omega) W hW); have ht := AS hG.tab; rw [Int.toNat_natCast]; clear h; go_enter Tryz.func106, Tryz.ntmps106; go_wp2_with (go_at_call 132; refine (hc.out _ ht.out).mono ?_; rintro e w' ⟨rfl, hb⟩); go_ret; exact ⟨rfl, hb⟩
 ·rw [if_neg c] at h; cases h
end

def decimal_Of.f (a0 : Int) : Option (ByteArray) := (strconv_FormatUint.f a0 10).bind fun t195 => (some t195)
theorem decimal_Of.calls (a0 : Int) (r : ByteArray) (w : World) (hG : GL w) (h : decimal_Of.f a0 = some r) :
  Calls Tryz.prog 79 #[.int .u64 a0] w fun e w' => e = .returned (.string r) ∧ Below w.heap.size w w' := by
 have HB := AS (blr w); have H : ((strconv_FormatUint.f a0 10).bind fun t195 => (some t195)) = some r := h; clear h; replace H := bsm H; obtain ⟨t195, A20, H⟩ := H; replace H : (some t195) = some r := H; have A2 := AS A20; clear A20; obtain rfl := Option.some.inj H; go_enter Tryz.func79, Tryz.ntmps79; go_wp2_with (first | ((with_reducible refine gtc (f := 106) rfl ?_); refine gsL (some 4) rfl rfl Tryz.func106 Z6 rfl #[.int .u64 a0, .int .i64 10] rfl Z1 ?_; (with_reducible refine (strconv_FormatUint.calls a0 10 t195 _ ?side1 A2.out).mono ?_); (case side1 => exact Z168); rintro e w3 ⟨rfl, hb⟩; refine ⟨_, rfl, ?_⟩; replace HB := AS (bst Z0 hb); (try clear hb))); go_ret; exact ⟨Z3, Z0⟩

def parseUOk (s : ByteArray) : Option Nat := if s.size ≤ 1000000 then (match Lib.parseUintB 64 s.data.toList with | .ok v => some v | _ => none) else none
theorem parseUOk_spec {s : ByteArray} {v : Nat} (h : parseUOk s = some v) : s.size ≤ 1000000 ∧ Lib.parseUintB 64 s.data.toList = .ok v := by
 unfold parseUOk at h
 by_cases c : s.size ≤ 1000000
 ·rw [if_pos c] at h; refine ⟨c, ?_⟩
  split at h
  ·rename_i x hx
   rw [hx]; cases h; rfl
  ·cases h
 ·rw [if_neg c] at h; cases h
theorem parseUint_calls {s : ByteArray} {v : Nat} (h : parseUOk s = some v) (w : World) :
  Calls Tryz.prog 133 #[.string s, .int .i64 10, .int .i64 64] w fun e w' => e = .returned (.tuple #[.int .u64 (v : Int), .nilIface]) ∧ Below w.heap.size w w' := by
 obtain ⟨hs, hv⟩ := parseUOk_spec h; refine (Tryz.strconv_ParseUint_10_at64_ok s (by omega) v hv w).mono ?_; rintro e w' ⟨rfl, rfl | rfl⟩
 ·exact ⟨rfl, Below.refl _ _⟩
 ·exact ⟨rfl, Lib.bytesWorld_below w 5 s⟩
def decimal_Small.f (a0 : ByteArray) : Option (Int × Bool) := (parseUOk a0).map fun (v : Nat) => ((v : Int), true)
theorem decimal_Small.calls (a0 : ByteArray) (r1 : Int) (r2 : Bool) (w : World) (hG : GL w) (h : decimal_Small.f a0 = some (r1, r2)) :
  Calls Tryz.prog 107 #[.string a0] w fun e w' => e = .returned (.tuple #[.int .u64 r1, .bool r2]) ∧ Below w.heap.size w w' := by
 unfold decimal_Small.f at h; obtain ⟨v, hv, he⟩ := Option.map_eq_some_iff.mp h; simp only [Prod.mk.injEq] at he; obtain ⟨rfl, rfl⟩ := he; have hc := AS (parseUint_calls hv); clear h hv; go_enter Tryz.func107, Tryz.ntmps107; go_wp2_with (go_at_call 133; refine (hc.out _).mono ?_; rintro e w' ⟨rfl, hb⟩); go_ret2; exact ⟨rfl, hb⟩

def debo.j0 : Nat → ByteArray → ByteArray → Bool → Option (Int × Int × Bool)
 | 0, _, _, _ => none
 | k + 1, x0, x1, x14 => if x14 = true then (some (0, 0, false)) else ((decimal_Small.f x0).bind fun bt196 => ((decimal_Small.f x1).bind fun bt198 => (some (bt196.1, bt198.1, true))))
def debo.f (k : Nat) (a0 : ByteArray) (a1 : ByteArray) : Option (Int × Int × Bool) := if (a0.size : Int) > 18 then (debo.j0 k a0 a1 true) else (debo.j0 k a0 a1 (decide ((a1.size : Int) > 18)))
theorem debo.mono_l : ∀ k, (∀ y0 y1 y2, LeO (debo.j0 k y0 y1 y2) (debo.j0 (k + 1) y0 y1 y2))
 | 0 => fun _ _ _ r h => by simp [debo.j0] at h
 | k + 1 => by
  have ih0 := debo.mono_l k
  ·intro y0 y1 y2; unfold debo.j0
   repeat' (with_reducible first | exact ih0 _ _ _ | exact LeO.refl _ | exact LeO.none _ | refine LeO.ite ?_ ?_ | refine LeO.bind ?_ (fun _ => ?_))
theorem debo.mono : ∀ a0 a1 k, LeO (debo.f k a0 a1) (debo.f (k + 1) a0 a1) := by
 intro a0 a1 k; have ih0 := debo.mono_l k; unfold debo.f
 repeat' (with_reducible first | exact ih0 _ _ _ | exact LeO.refl _ | exact LeO.none _ | refine LeO.ite ?_ ?_ | refine LeO.bind ?_ (fun _ => ?_))
theorem debo.calls (k : Nat) (a0 : ByteArray) (a1 : ByteArray) (r1 : Int) (r2 : Int) (r3 : Bool) (w : World) (hG : GL w) (h : debo.f k a0 a1 = some (r1, r2, r3)) :
  Calls Tryz.prog 80 #[.string a0, .string a1] w fun e w' => e = .returned (.tuple #[.int .u64 r1, .int .u64 r2, .bool r3]) ∧ Below w.heap.size w w' := by
 have HB := AS (blr w); have H : (if (a0.size : Int) > 18 then (debo.j0 k a0 a1 true) else (debo.j0 k a0 a1 (decide ((a1.size : Int) > 18)))) = some (r1, r2, r3) := h; clear h; have HC3 := AS H; clear H; go_enter Tryz.func80, Tryz.ntmps80
 go_upto_region 1 with (fail)
 go_cut [14] (fun v14 wc => ∃ (kq : Nat) (x14_2 : Bool), v14 = .bool x14_2 ∧ Aside0 (debo.j0 kq a0 a1 x14_2 = some (r1, r2, r3)) ∧ Aside0 (kq ≤ k) ∧ Aside0 (Below w.heap.size w wc))
 case first =>
  have H := HC3.out; clear HC3
  by_cases c4 : (a0.size : Int) > 18
  ·rw [if_pos c4] at H
   have c4b0 : decide (18 < (a0.size : Int)) = true := dqt c4; have c4b1 : decide (18 < a0.size) = true := dqt (by omega); clear c4
   (first | rw [c4b0] | (simp only [i64_w, i32_w]; rw [c4b0]) | skip)
   have H' := AS H; clear H; go_wp2; go_meet
   case rel => exact ⟨_, (true), Z4, H', ⟨Z61⟩, ⟨Z0⟩⟩
  ·rw [if_neg c4] at H
   have c4b0 : decide (18 < (a0.size : Int)) = false := decide_eq_false c4; have c4b1 : decide (18 < a0.size) = false := decide_eq_false (by omega); clear c4
   (first | rw [c4b0] | (simp only [i64_w, i32_w]; rw [c4b0]) | skip)
   have H' := AS H; clear H; go_wp2; go_meet
   case rel => exact ⟨_, (decide ((a1.size : Int) > 18)), Z4, H', ⟨Z61⟩, ⟨Z0⟩⟩
 case rest =>
  clear HC3; (try clear p2); (try clear c4); (try clear c4b0); (try clear c4b1); obtain ⟨kq, x14_2, rfl, HA, HJ2, HB⟩ := hcut
  cases kq with
  | zero => exact absurd HA.out (by simp [debo.j0])
  | succ kj2 =>
   have H := HA.out; clear HA
   simp only [debo.j0] at H
   by_cases c5 : x14_2 = true
   ·subst c5
    rw [if_pos rfl] at H
    simp only [Option.some.injEq, Prod.mk.injEq] at H
    obtain ⟨rfl, rfl, rfl⟩ := H; go_wp2
    go_ret3
    exact ⟨Z3, Z0⟩
   ·replace c5 := Bool.eq_false_iff.mpr c5; subst c5
    rw [if_neg ffl] at H
    replace H := bsm H; obtain ⟨⟨t196, t197⟩, A60, H⟩ := H; replace H : ((decimal_Small.f a1).bind fun bt198 => (some (t196, bt198.1, true))) = some (r1, r2, r3) := H; have A6 := AS A60; clear A60; replace H := bsm H; obtain ⟨⟨t198, t199⟩, A70, H⟩ := H; replace H : (some (t196, t198, true)) = some (r1, r2, r3) := H; have A7 := AS A70; clear A70
    simp only [Option.some.injEq, Prod.mk.injEq] at H
    obtain ⟨rfl, rfl, rfl⟩ := H; go_wp2_with (first | ((with_reducible refine gtc (f := 107) rfl ?_); refine gsL (some 17) rfl rfl Tryz.func107 Z6 rfl #[.string a0] rfl Z1 ?_; (with_reducible refine (decimal_Small.calls a0 t196 t197 _ ?side1 A6.out).mono ?_); (case side1 => exact Z168); rintro e w8 ⟨rfl, hb⟩; refine ⟨_, rfl, ?_⟩; replace HB := AS (bst Z0 hb); (try clear hb)) | ((with_reducible refine gtc (f := 107) rfl ?_); refine gsL (some 22) rfl rfl Tryz.func107 Z6 rfl #[.string a1] rfl Z1 ?_; (with_reducible refine (decimal_Small.calls a1 t198 t199 _ ?side1 A7.out).mono ?_); (case side1 => exact Z168); rintro e w9 ⟨rfl, hb⟩; refine ⟨_, rfl, ?_⟩; replace HB := AS (bst Z0 hb); (try clear hb)))
    go_ret3
    exact ⟨Z3, Z0⟩

def dptr.l0 : Nat → List Int → Option (List Int)
 | 0, _ => none
 | k + 1, x0 => if (x0.length : Int) > 0 then (if 0 ≤ (wrap64 ((x0.length : Int) - 1)) then (if (wrap64 ((x0.length : Int) - 1)) < (x0.length : Int) then (if (rd x0 (wrap64 ((x0.length : Int) - 1))) = 0 then (if (wrap64 ((x0.length : Int) - 1)) ≤ (x0.length : Int) then (dptr.l0 k (x0.take ((wrap64 ((x0.length : Int) - 1)) : Int).toNat)) else (none)) else (some x0)) else (none)) else (none)) else (some x0)
def dptr.f (k : Nat) (l0 : List Int) : Option (List Int) := dptr.l0 k l0
theorem dptr.mono_l : ∀ k, (∀ y0, LeO (dptr.l0 k y0) (dptr.l0 (k + 1) y0))
 | 0 => fun _ r h => by simp [dptr.l0] at h
 | k + 1 => by
  have ih0 := dptr.mono_l k
  ·intro y0; unfold dptr.l0
   repeat' (with_reducible first | exact ih0 _ | exact LeO.refl _ | exact LeO.none _ | refine LeO.ite ?_ ?_ | refine LeO.bind ?_ (fun _ => ?_))
theorem dptr.mono : ∀ a0 k, LeO (dptr.f k a0) (dptr.f (k + 1) a0) := by
 intro a0 k; have ih0 := dptr.mono_l k; unfold dptr.f
 repeat' (with_reducible first | exact ih0 _ | exact LeO.refl _ | exact LeO.none _ | refine LeO.ite ?_ ?_ | refine LeO.bind ?_ (fun _ => ?_))
theorem dptr.calls (k : Nat) (P0_ : Nat → Prop) (A0 : Option Addr) (c0 : Nat) (l0 : List Int) (r : List Int) (w : World) (hs0 : Kd.V (Kd.int .u64) 109 w w.heap.size (fun k_ => P0_ k_) (.slice A0 l0.length c0) l0) (hG : GL w) (h : dptr.f k l0 = some r) :
  Calls Tryz.prog 108 #[.slice A0 l0.length c0] w fun e w' => ∃ v0_ : Value, e = .returned (v0_) ∧ Kd.V (Kd.int .u64) 109 w' w.heap.size (fun k_ => (P0_ k_ ∨ w.heap.size ≤ k_)) v0_ r ∧ Below w.heap.size w w' := by
 have HO0 := AS (show Kd.V (Kd.int .u64) 109 w w.heap.size (fun k_ => (P0_ k_ ∨ w.heap.size ≤ k_)) (.slice A0 l0.length c0) l0 from Kd.V_mono hs0 (fun k_ hk => .inl hk)); have HB := AS (blr w); have H : (dptr.l0 k l0) = some r := h; clear h; have H' := AS H; clear H; go_enter Tryz.func108, Tryz.ntmps108; go_wp2
 go_loopg [0] k (fun kq v0 w' => ∃ (x0_1 : List Int), Aside0 (dptr.l0 kq x0_1 = some r) ∧ Aside0 (kq ≤ k) ∧ Aside0 (Kd.V (Kd.int .u64) 109 w' w.heap.size (fun k_ => (P0_ k_ ∨ w.heap.size ≤ k_)) v0 x0_1) ∧ Aside0 (Below w.heap.size w w'))
 case atStart => exact ⟨(l0), H', ⟨Nat.le_refl _⟩, ⟨by (with_reducible repeat (first | apply Kd.V_alloc | apply Kd.V_drewN | apply Kd.V_drew)); exact HO0.out⟩, ⟨Z0⟩⟩
 case round =>
  clear H'; (try clear c1); obtain ⟨x0_1, HA, HK1, HO_0, HB⟩ := hrel
  cases gk with
  | zero => exact absurd HA.out (by simp [dptr.l0])
  | succ k1 =>
   have H := HA.out; clear HA
   simp only [dptr.l0] at H
   by_cases c2 : (x0_1.length : Int) > 0
   ·rw [if_pos c2] at H
    have c2b0 : decide (0 < (x0_1.length : Int)) = true := dqt c2; have c2b1 : decide (0 < x0_1.length) = true := dqt (by omega); clear c2
    obtain ⟨ji3, hji3⟩ : ∃ j_ : Int, (wrap64 ((x0_1.length : Int) - 1)) = j_ := ⟨_, rfl⟩
    replace H : (if 0 ≤ (ji3) then (if (ji3) < (x0_1.length : Int) then (if (rd x0_1 (ji3)) = 0 then (if (ji3) ≤ (x0_1.length : Int) then (dptr.l0 k1 (x0_1.take ((ji3) : Int).toNat)) else (none)) else (some x0_1)) else (none)) else (none)) = some r := by first | (rw [hji3] at H; exact H) | (simp only [hji3] at H ⊢; exact H)
    have hji3w : (IntKind.i64.wrap ((x0_1.length : Int) - 1)) = ji3 := (i64_w _).trans hji3
    by_cases c4 : 0 ≤ (ji3)
    ·rw [if_pos c4] at H
     have c4b0 : decide (0 ≤ (ji3)) = true := dqt c4; clear c4
     by_cases c5 : (ji3) < (x0_1.length : Int)
     ·rw [if_pos c5] at H
      have c5b0 : decide ((ji3) < (x0_1.length : Int)) = true := dqt c5; clear c5
      by_cases c6 : (rd x0_1 (ji3)) = 0
      ·rw [if_pos c6] at H
       have c6b0 : ((rd x0_1 (ji3)) == 0) = true := bqt c6; have c6b1 : ((rd x0_1 (ji3)) != 0) = false := bnf c6; clear c6; have c7b0 := eq_true (odt Z2 : 0 ≤ (ji3))
       by_cases c8 : (ji3) ≤ (x0_1.length : Int)
       ·rw [if_pos c8] at H
        have c8b0 := eq_true c8; have c8b1 : decide ((ji3) ≤ (x0_1.length : Int)) = true := dqt c8; clear c8
        obtain ⟨y201, hy201⟩ : ∃ y_ : List Int, y_ = (x0_1.take ((ji3) : Int).toNat) := ⟨_, rfl⟩
        replace H : (dptr.l0 k1 y201) = some r := by first | (rw [hy201]; with_reducible exact H) | (have H2_ := (Option.bind_some _ _).symm.trans H; rw [hy201]; with_reducible exact H2_) | (have H2_ := (Option.bind_some _ _).symm.trans H; with_reducible exact H2_) | with_reducible exact H | (rw [hy201]; exact H) | exact H
        have Ny201 := AS hy201; clear hy201; have H' := AS H; clear H; obtain ⟨Ao9, co9, eo9⟩ := Kd.V_slice HO_0.out; subst eo9; have p200 : 0 ≤ ((ji3) : Int) := odt Z2; have q200 : (ji3) < (x0_1.length : Int) := odt Z2; obtain ⟨ad200, e200, hx200_0⟩ := Kd.at_int (Kd.V_reads' HO_0.out).2.2 (ji3) p200 q200; cases e200; replace p200 := eq_true p200; replace q200 := eq_true q200; have q10 : ((ji3) : Int) ≤ ((x0_1.length : Int) : Int) := odt Z2; obtain ⟨i010, hi010, _, hsz10, _⟩ := info_parts info109; have hroom10 : x0_1.length ≤ co9 := (Kd.V_reads' HO_0.out).2.1; have hC10 : Kd.F (Kd.int .u64) _ _ (some ad200) x0_1.length x0_1 := (Kd.V_at (base := w.heap.size) HO_0.out).2.2; have hcut10 := cut_to (P := Tryz.prog) 113 109 .i64 Tryz.underlying113 hi010 (some ad200) x0_1.length co9 (ji3) (odt Z2) q10 hroom10; have hr10 := Kd.F_take (m := ((ji3) : Int).toNat) hC10 (by omega); have hy10 : y201.length = ((ji3) : Int).toNat := (by rw [Ny201.out, List.length_take]; omega); rw [← Ny201.out] at hr10; rw [← hy10] at hcut10; have HO205 := AS (show Kd.V (Kd.int .u64) 109 _ w.heap.size _ (.slice (some ad200) y201.length co9) y201 from Kd.V_mk (by omega) hr10); have HC205 := AS (show y201.length ≤ co9 from by omega); clear hr10 hC10 hroom10 hi010 hsz10; have KY10 := AS hy10; clear hy10; replace q10 := eq_true q10; go_wp2
        go_roundg k1
        case measure => have := HK1.out; omega
        case rel => exact ⟨(y201), H', ⟨Z85⟩, ⟨by (with_reducible repeat (first | apply Kd.V_alloc | apply Kd.V_drewN | apply Kd.V_drew)); exact HO205.out⟩, ⟨Z0⟩⟩
       ·rw [if_neg c8] at H
        exact absurd H (by simp)
      ·rw [if_neg c6] at H
       have c6b0 : ((rd x0_1 (ji3)) == 0) = false := bqf c6; have c6b1 : ((rd x0_1 (ji3)) != 0) = true := bnt c6; obtain rfl := Option.some.inj H; obtain ⟨Ao11, co11, eo11⟩ := Kd.V_slice HO_0.out; subst eo11; have p200 : 0 ≤ ((ji3) : Int) := odt Z2; have q200 : (ji3) < (x0_1.length : Int) := odt Z2; obtain ⟨ad200, e200, hx200_0⟩ := Kd.at_int (Kd.V_reads' HO_0.out).2.2 (ji3) p200 q200; cases e200; replace p200 := eq_true p200; replace q200 := eq_true q200; go_wp2; go_ret; exact ⟨_, Z118, Z144, Z0⟩
     ·rw [if_neg c5] at H
      exact absurd H (by simp)
    ·rw [if_neg c4] at H
     exact absurd H (by simp)
   ·rw [if_neg c2] at H
    have c2b0 : decide (0 < (x0_1.length : Int)) = false := decide_eq_false c2; have c2b1 : decide (0 < x0_1.length) = false := decide_eq_false (by omega); clear c2; obtain rfl := Option.some.inj H; obtain ⟨Ao12, co12, eo12⟩ := Kd.V_slice HO_0.out; subst eo12; go_wp2; go_ret; exact ⟨_, Z3, Z144, Z0⟩
mutual
def dptm.l0 : Nat → List Int → List Int → List Int → Int → Int → Option (List Int)
 | 0, _, _, _, _, _ => none
 | k + 1, x1, x5, x17, x18, x19 => if x19 < x18 then (if 0 ≤ x19 then (if x19 < (x17.length : Int) then (dptm.l1 k x1 x5 x19 (rd x17 x19) 0 x17 x18 x19 x1 (x1.length : Int) 0) else (none)) else (none)) else ((dptr.f k x5).bind fun t209 => (some t209))
def dptm.l1 : Nat → List Int → List Int → Int → Int → Int → List Int → Int → Int → List Int → Int → Int → Option (List Int)
 | 0, _, _, _, _, _, _, _, _, _, _, _ => none
 | k + 1, x1, x5, x6, x7, x8, x17, x18, x19, x24, x25, x26 => if x26 < x25 then (if 0 ≤ x26 then (if x26 < (x24.length : Int) then (if 0 ≤ (wrap64 (x6 + x26)) then (if (wrap64 (x6 + x26)) < (x5.length : Int) then (dptm.l1 k x1 (x5.set ((wrap64 (x6 + x26)) : Int).toNat (Int.tmod (IntKind.u64.wrap (x8 + (IntKind.u64.wrap ((rd x5 (wrap64 (x6 + x26))) + (IntKind.u64.wrap (x7 * (rd x24 x26))))))) 1000000000)) x6 x7 (IntKind.u64.wrap (Int.tdiv (IntKind.u64.wrap (x8 + (IntKind.u64.wrap ((rd x5 (wrap64 (x6 + x26))) + (IntKind.u64.wrap (x7 * (rd x24 x26))))))) 1000000000)) x17 x18 x19 x24 x25 (wrap64 (x26 + 1))) else (none)) else (none)) else (none)) else (none)) else (if 0 ≤ (wrap64 (x6 + (x1.length : Int))) then (if (wrap64 (x6 + (x1.length : Int))) < (x5.length : Int) then (dptm.l0 k x1 (x5.set ((wrap64 (x6 + (x1.length : Int))) : Int).toNat x8) x17 x18 (wrap64 (x19 + 1))) else (none)) else (none))
end
def dptm.f (k : Nat) (l0 : List Int) (l1 : List Int) : Option (List Int) := if 0 ≤ (wrap64 ((l0.length : Int) + (l1.length : Int))) then (if (wrap64 ((l0.length : Int) + (l1.length : Int)) : Int).toNat ≤ 35184372088832 then (dptm.l0 k l1 (List.replicate (wrap64 ((l0.length : Int) + (l1.length : Int)) : Int).toNat 0) l0 (l0.length : Int) 0) else (none)) else (none)
theorem dptm.mono_l : ∀ k, (∀ y0 y1 y2 y3 y4, LeO (dptm.l0 k y0 y1 y2 y3 y4) (dptm.l0 (k + 1) y0 y1 y2 y3 y4)) ∧ (∀ y0 y1 y2 y3 y4 y5 y6 y7 y8 y9 y10, LeO (dptm.l1 k y0 y1 y2 y3 y4 y5 y6 y7 y8 y9 y10) (dptm.l1 (k + 1) y0 y1 y2 y3 y4 y5 y6 y7 y8 y9 y10))
 | 0 => ⟨fun _ _ _ _ _ r h => by simp [dptm.l0] at h, fun _ _ _ _ _ _ _ _ _ _ _ r h => by simp [dptm.l1] at h⟩
 | k + 1 => by
  obtain ⟨ih0, ih1⟩ := dptm.mono_l k; refine ⟨?_, ?_⟩
  ·intro y0 y1 y2 y3 y4; unfold dptm.l0
   repeat' (with_reducible first | exact ih0 _ _ _ _ _ | exact ih1 _ _ _ _ _ _ _ _ _ _ _ | exact dptr.mono _ _ | exact LeO.refl _ | exact LeO.none _ | refine LeO.ite ?_ ?_ | refine LeO.bind ?_ (fun _ => ?_))
  ·intro y0 y1 y2 y3 y4 y5 y6 y7 y8 y9 y10; unfold dptm.l1
   repeat' (with_reducible first | exact ih0 _ _ _ _ _ | exact ih1 _ _ _ _ _ _ _ _ _ _ _ | exact dptr.mono _ _ | exact LeO.refl _ | exact LeO.none _ | refine LeO.ite ?_ ?_ | refine LeO.bind ?_ (fun _ => ?_))
theorem dptm.mono : ∀ a0 a1 k, LeO (dptm.f k a0 a1) (dptm.f (k + 1) a0 a1) := by
 intro a0 a1 k; obtain ⟨ih0, ih1⟩ := dptm.mono_l k; unfold dptm.f
 repeat' (with_reducible first | exact ih0 _ _ _ _ _ | exact ih1 _ _ _ _ _ _ _ _ _ _ _ | exact dptr.mono _ _ | exact LeO.refl _ | exact LeO.none _ | refine LeO.ite ?_ ?_ | refine LeO.bind ?_ (fun _ => ?_))
theorem dptm.calls (k : Nat) (A0 : Option Addr) (c0 : Nat) (l0 : List Int) (A1 : Option Addr) (c1 : Nat) (l1 : List Int) (r : List Int) (w : World) (hr0 : Kd.C (Kd.int .u64) w A0 l0.length l0) (hc0 : l0.length ≤ c0) (hr1 : Kd.C (Kd.int .u64) w A1 l1.length l1) (hc1 : l1.length ≤ c1) (hG : GL w) (h : dptm.f k l0 l1 = some r) :
  Calls Tryz.prog 82 #[.slice A0 l0.length c0, .slice A1 l1.length c1] w fun e w' => ∃ v0_ : Value, e = .returned (v0_) ∧ Kd.V (Kd.int .u64) 109 w' w.heap.size (fun k_ => (w.heap.size ≤ k_)) v0_ r ∧ Below w.heap.size w w' := by
 have HR0 := AS hr0; have HC0 := AS hc0; clear hr0 hc0; have HR1 := AS hr1; have HC1 := AS hc1; clear hr1 hc1; have HB := AS (blr w); have H : (if 0 ≤ (wrap64 ((l0.length : Int) + (l1.length : Int))) then (if (wrap64 ((l0.length : Int) + (l1.length : Int)) : Int).toNat ≤ 35184372088832 then (dptm.l0 k l1 (List.replicate (wrap64 ((l0.length : Int) + (l1.length : Int)) : Int).toNat 0) l0 (l0.length : Int) 0) else (none)) else (none)) = some r := h; clear h
 obtain ⟨ji3, hji3⟩ : ∃ j_ : Int, (wrap64 ((l0.length : Int) + (l1.length : Int))) = j_ := ⟨_, rfl⟩
 replace H : (if 0 ≤ (ji3) then (if (ji3 : Int).toNat ≤ 35184372088832 then (dptm.l0 k l1 (List.replicate (ji3 : Int).toNat 0) l0 (l0.length : Int) 0) else (none)) else (none)) = some r := by first | (rw [hji3] at H; exact H) | (simp only [hji3] at H ⊢; exact H)
 have hji3w : (IntKind.i64.wrap ((l0.length : Int) + (l1.length : Int))) = ji3 := (i64_w _).trans hji3
 by_cases c4 : 0 ≤ (ji3)
 ·rw [if_pos c4] at H
  have c4b0 := eq_true c4; have c4b1 : decide (0 ≤ (ji3)) = true := dqt c4; clear c4
  by_cases c5 : (ji3 : Int).toNat ≤ 35184372088832
  ·rw [if_pos c5] at H
   have c5b0 := eq_true c5; have c5b1 : decide ((ji3 : Int).toNat ≤ 35184372088832) = true := dqt c5; clear c5
   obtain ⟨y206, hy206⟩ : ∃ y_ : List Int, y_ = (List.replicate (ji3 : Int).toNat 0) := ⟨_, rfl⟩
   replace H : (dptm.l0 k l1 y206 l0 (l0.length : Int) 0) = some r := by first | (rw [hy206]; with_reducible exact H) | (have H2_ := (Option.bind_some _ _).symm.trans H; rw [hy206]; with_reducible exact H2_) | (have H2_ := (Option.bind_some _ _).symm.trans H; with_reducible exact H2_) | with_reducible exact H | (rw [hy206]; exact H) | exact H
   have Ny206 := AS hy206; clear hy206; have H' := AS H; clear H; go_enter Tryz.func82, Tryz.ntmps82; go_wp2_with (first | ((with_reducible refine gtd (N := 16) rfl ?_); refine Kd.R_make (Kd.int .u64) _ 109 rfl (N := 16) rfl 113 _ _ rfl ji3 rfl rfl Tryz.underlying113 (.int .u64 0) 8 info109 rfl (by decide) (by omega) 0 (ok := fun _ => True) (okp := fun _ => True) rfl (fun _ hk => hk) trivial (odt Z2) (Nat.le_trans (Nat.mul_le_mul_right _ (odt Z2 : ji3.toNat ≤ 35184372088832)) (by omega)) (Below.refl _ _) (Nat.le_refl _) ?_; intro v207 w6 ho7 hb hg_ hnew_; clear hg_ hnew_; (first | rw [← Ny206.out] at ho7 | (simp only [Int.reduceToNat] at ho7; rw [← Ny206.out] at ho7)); have HO208 := AS (Kd.R_lower (Kd.R_newM (M := fun k_ => (w.heap.size ≤ k_)) ho7 (bsz Z0) (fun k_ h_ => h_)) (bsz Z0)); replace HB := AS (bst Z0 hb); clear hb ho7))
   go_loopg [19] k (fun kq v19 w' => ∃ (x5_1 : List Int) (x19_1 : Int), v19 = .int .i64 x19_1 ∧ Aside0 (dptm.l0 kq l1 x5_1 l0 (l0.length : Int) x19_1 = some r) ∧ Aside0 (kq ≤ k) ∧ Aside0 (Kd.R (Kd.int .u64) 109 w' w.heap.size (fun k_ => (w.heap.size ≤ k_)) v207 x5_1) ∧ Aside0 (Below w.heap.size w w'))
   case atStart => exact ⟨(y206), (0), Z4, H', ⟨Nat.le_refl _⟩, ⟨by (with_reducible repeat (first | apply Kd.R_alloc | apply Kd.R_drewN | apply Kd.R_drew)); exact Kd.R_mono HO208.out (fun _ hk => hk.1)⟩, ⟨Z0⟩⟩
   case round =>
    clear H'; (try clear c1); (try clear p2); (try clear c4); (try clear c4b0); (try clear c4b1); (try clear c5); (try clear c5b0); (try clear c5b1); (try clear p6); obtain ⟨x5_1, x19_1, rfl, HA, HK1, HO_5, HB⟩ := hrel
    cases gk with
    | zero => exact absurd HA.out (by simp [dptm.l0])
    | succ k1 =>
     have H := HA.out; clear HA
     simp only [dptm.l0] at H
     by_cases c8 : x19_1 < (l0.length : Int)
     ·rw [if_pos c8] at H
      have c8b0 : decide (x19_1 < (l0.length : Int)) = true := dqt c8; clear c8
      by_cases c9 : 0 ≤ x19_1
      ·rw [if_pos c9] at H
       have c9b0 : decide (0 ≤ x19_1) = true := dqt c9; clear c9
       by_cases c10 : x19_1 < (l0.length : Int)
       ·rw [if_pos c10] at H
        have c10b0 : decide (x19_1 < (l0.length : Int)) = true := dqt c10; clear c10; have H' := AS H; clear H; have p212 : 0 ≤ (x19_1 : Int) := odt Z2; have q212 : x19_1 < (l0.length : Int) := odt Z2; obtain ⟨ad212, e212, hx212_0⟩ := Kd.at_int HR0.out x19_1 p212 q212; cases e212; replace hx212_0 := (HB.out.cell (wbl w _ hx212_0)).trans hx212_0; replace p212 := eq_true p212; replace q212 := eq_true q212; go_wp2
        go_loopg [8, 26] k1 (fun kq v8 v26 w' => ∃ (x5_2 : List Int) (x8_2 : Int) (x26_2 : Int), v8 = .int .u64 x8_2 ∧ v26 = .int .i64 x26_2 ∧ Aside0 (dptm.l1 kq l1 x5_2 x19_1 (rd l0 x19_1) x8_2 l0 (l0.length : Int) x19_1 l1 (l1.length : Int) x26_2 = some r) ∧ Aside0 (kq ≤ k1) ∧ Aside0 (Kd.R (Kd.int .u64) 109 w' w.heap.size (fun k_ => (w.heap.size ≤ k_)) v207 x5_2) ∧ Aside0 (Below w.heap.size w w'))
        case atStart => exact ⟨(x5_1), (0), (0), Z4, Z4, H', ⟨Nat.le_refl _⟩, ⟨Z111⟩, ⟨Z0⟩⟩
        case round =>
         clear H'; (try clear c1); (try clear p2); (try clear q2); (try clear hx2); (try clear c4); (try clear c4b0); (try clear c4b1); (try clear c5); (try clear c5b0); (try clear c5b1); (try clear p6); (try clear c8); (try clear c8b0); (try clear c9); (try clear c9b0); (try clear c10); (try clear c10b0); (try clear hx212_0); (try clear p2); (try clear p212); (try clear p6); (try clear q212); obtain ⟨x5_2, x8_2, x26_2, rfl, rfl, HA, HK2, HO_5, HB⟩ := hrel
         cases gk with
         | zero => exact absurd HA.out (by simp [dptm.l1])
         | succ k2 =>
          have H := HA.out; clear HA
          simp only [dptm.l1] at H
          by_cases c11 : x26_2 < (l1.length : Int)
          ·rw [if_pos c11] at H
           have c11b0 : decide (x26_2 < (l1.length : Int)) = true := dqt c11; clear c11
           by_cases c12 : 0 ≤ x26_2
           ·rw [if_pos c12] at H
            have c12b0 : decide (0 ≤ x26_2) = true := dqt c12; clear c12
            by_cases c13 : x26_2 < (l1.length : Int)
            ·rw [if_pos c13] at H
             have c13b0 : decide (x26_2 < (l1.length : Int)) = true := dqt c13; clear c13
             obtain ⟨ji14, hji14⟩ : ∃ j_ : Int, (wrap64 (x19_1 + x26_2)) = j_ := ⟨_, rfl⟩
             replace H : (if 0 ≤ (ji14) then (if (ji14) < (x5_2.length : Int) then (dptm.l1 k2 l1 (x5_2.set ((ji14) : Int).toNat (Int.tmod (IntKind.u64.wrap (x8_2 + (IntKind.u64.wrap ((rd x5_2 (ji14)) + (IntKind.u64.wrap ((rd l0 x19_1) * (rd l1 x26_2))))))) 1000000000)) x19_1 (rd l0 x19_1) (IntKind.u64.wrap (Int.tdiv (IntKind.u64.wrap (x8_2 + (IntKind.u64.wrap ((rd x5_2 (ji14)) + (IntKind.u64.wrap ((rd l0 x19_1) * (rd l1 x26_2))))))) 1000000000)) l0 (l0.length : Int) x19_1 l1 (l1.length : Int) (wrap64 (x26_2 + 1))) else (none)) else (none)) = some r := by first | (rw [hji14] at H; exact H) | (simp only [hji14] at H ⊢; exact H)
             have hji14w : (IntKind.i64.wrap (x19_1 + x26_2)) = ji14 := (i64_w _).trans hji14
             by_cases c15 : 0 ≤ (ji14)
             ·rw [if_pos c15] at H
              have c15b0 : decide (0 ≤ (ji14)) = true := dqt c15; clear c15
              by_cases c16 : (ji14) < (x5_2.length : Int)
              ·rw [if_pos c16] at H
               have c16b0 : decide ((ji14) < (x5_2.length : Int)) = true := dqt c16; clear c16
               obtain ⟨y215, hy215⟩ : ∃ y_ : List Int, y_ = (x5_2.set ((ji14) : Int).toNat (Int.tmod (IntKind.u64.wrap (x8_2 + (IntKind.u64.wrap ((rd x5_2 (ji14)) + (IntKind.u64.wrap ((rd l0 x19_1) * (rd l1 x26_2))))))) 1000000000)) := ⟨_, rfl⟩
               replace H : (dptm.l1 k2 l1 y215 x19_1 (rd l0 x19_1) (IntKind.u64.wrap (Int.tdiv (IntKind.u64.wrap (x8_2 + (IntKind.u64.wrap ((rd x5_2 (ji14)) + (IntKind.u64.wrap ((rd l0 x19_1) * (rd l1 x26_2))))))) 1000000000)) l0 (l0.length : Int) x19_1 l1 (l1.length : Int) (wrap64 (x26_2 + 1))) = some r := by first | (rw [hy215]; with_reducible exact H) | (have H2_ := (Option.bind_some _ _).symm.trans H; rw [hy215]; with_reducible exact H2_) | (have H2_ := (Option.bind_some _ _).symm.trans H; with_reducible exact H2_) | with_reducible exact H | (rw [hy215]; exact H) | exact H
               have Ny215 := AS hy215; clear hy215; have H' := AS H; clear H; have p213 : 0 ≤ (x26_2 : Int) := odt Z2; have q213 : x26_2 < (l1.length : Int) := odt Z2; obtain ⟨ad213, e213, hx213_0⟩ := Kd.at_int HR1.out x26_2 p213 q213; cases e213; replace hx213_0 := (HB.out.cell (wbl w _ hx213_0)).trans hx213_0; replace p213 := eq_true p213; replace q213 := eq_true q213; obtain ⟨Ao18, co18, eo18⟩ := Kd.R_slice HO_5.out; subst eo18; have p214 : 0 ≤ ((ji14) : Int) := odt Z2; have q214 : (ji14) < (x5_2.length : Int) := odt Z2; obtain ⟨ad214, e214, hx214_0⟩ := Kd.at_int (Kd.R_reads' HO_5.out).2.2 (ji14) p214 q214; cases e214; replace p214 := eq_true p214; replace q214 := eq_true q214; have p17 : 0 ≤ ((ji14) : Int) := odt Z2; have q17 : ((ji14) : Int) < ((x5_2.length : Int) : Int) := odt Z2; obtain ⟨go17, co17, eo17, gb17, gl17, cl17, HG17⟩ := Kd.R_form HO_5.out (by omega)
               (first | cases eo17 | (injection eo17 with ea_ en_ ec_; (first | subst ea_ | (injection ea_ with ea_; subst ea_)); subst ec_; clear en_))
               have GB17 := AS gb17; have GG17 := AS HG17; clear gb17 gl17 HG17
               (first | simp only [add_plain] at hx214_0 | skip)
               obtain ⟨hx17_0, hf17_0⟩ := Kd.R_celln 0 HO_5.out ((ji14) : Int) p17 q17; replace p17 := eq_true p17; replace q17 := eq_true q17; have HP19 := Kd.R_putg HO_5.out ((ji14) : Int) (Int.tmod (IntKind.u64.wrap (x8_2 + (IntKind.u64.wrap ((rd x5_2 (ji14)) + (IntKind.u64.wrap ((rd l0 x19_1) * (rd l1 x26_2))))))) 1000000000); go_wp2_with (first | ((with_reducible refine gate_store (t := 109) (p := 49) rfl ?_); refine store_event (t := 109) (p := 49) (v := ?vo_w20) (w1 := (wr.setCell ⟨go17, ((ji14) : Int).toNat, none⟩ (.int .u64 (Int.tmod (IntKind.u64.wrap (x8_2 + (IntKind.u64.wrap ((rd x5_2 (ji14)) + (IntKind.u64.wrap ((rd l0 x19_1) * (rd l1 x26_2))))))) 1000000000)))) ?hg ?ho ?hn ?hr ?_; (case ho => rfl); (case hg => rfl); (case hn => rfl); (case hr => exact Z12); intro w20 hw; have hg : wr.grownBy w20 (some go17) := (by rw [hw]; exact HP19.2); have hp_ : Kd.R (Kd.int .u64) 109 w20 w.heap.size (fun k_ => (w.heap.size ≤ k_)) (.slice (some ⟨go17, 0, none⟩) x5_2.length co18) y215 := (by rw [hw, Ny215.out]; exact HP19.1); clear HP19; replace HO_5 := AS (hp_); replace HB := AS ((by rw [hw]; exact bls (HB.out) GB17.out : Below w.heap.size w w20)); clear hg hw hp_))
               go_roundg k2
               case measure => have := HK1.out; have := HK2.out; omega
               case rel => exact ⟨(y215), (IntKind.u64.wrap (Int.tdiv (IntKind.u64.wrap (x8_2 + (IntKind.u64.wrap ((rd x5_2 (ji14)) + (IntKind.u64.wrap ((rd l0 x19_1) * (rd l1 x26_2))))))) 1000000000)), (wrap64 (x26_2 + 1)), (by first | rfl | (simp; done) | (simp only [← hji14] <;> (first | rfl | simp)) | (simp [*]; done)), Z4, H', ⟨Z131⟩, ⟨Z111⟩, ⟨Z0⟩⟩
              ·rw [if_neg c16] at H
               exact absurd H (by simp)
             ·rw [if_neg c15] at H
              exact absurd H (by simp)
            ·rw [if_neg c13] at H
             exact absurd H (by simp)
           ·rw [if_neg c12] at H
            exact absurd H (by simp)
          ·rw [if_neg c11] at H
           have c11b0 : decide (x26_2 < (l1.length : Int)) = false := decide_eq_false c11; clear c11
           obtain ⟨ji21, hji21⟩ : ∃ j_ : Int, (wrap64 (x19_1 + (l1.length : Int))) = j_ := ⟨_, rfl⟩
           replace H : (if 0 ≤ (ji21) then (if (ji21) < (x5_2.length : Int) then (dptm.l0 k2 l1 (x5_2.set ((ji21) : Int).toNat x8_2) l0 (l0.length : Int) (wrap64 (x19_1 + 1))) else (none)) else (none)) = some r := by first | (rw [hji21] at H; exact H) | (simp only [hji21] at H ⊢; exact H)
           have hji21w : (IntKind.i64.wrap (x19_1 + (l1.length : Int))) = ji21 := (i64_w _).trans hji21
           by_cases c22 : 0 ≤ (ji21)
           ·rw [if_pos c22] at H
            have c22b0 : decide (0 ≤ (ji21)) = true := dqt c22; clear c22
            by_cases c23 : (ji21) < (x5_2.length : Int)
            ·rw [if_pos c23] at H
             have c23b0 : decide ((ji21) < (x5_2.length : Int)) = true := dqt c23; clear c23
             obtain ⟨y216, hy216⟩ : ∃ y_ : List Int, y_ = (x5_2.set ((ji21) : Int).toNat x8_2) := ⟨_, rfl⟩
             replace H : (dptm.l0 k2 l1 y216 l0 (l0.length : Int) (wrap64 (x19_1 + 1))) = some r := by first | (rw [hy216]; with_reducible exact H) | (have H2_ := (Option.bind_some _ _).symm.trans H; rw [hy216]; with_reducible exact H2_) | (have H2_ := (Option.bind_some _ _).symm.trans H; with_reducible exact H2_) | with_reducible exact H | (rw [hy216]; exact H) | exact H
             have Ny216 := AS hy216; clear hy216; have H' := AS H; clear H; have p24 : 0 ≤ ((ji21) : Int) := odt Z2; have q24 : ((ji21) : Int) < ((x5_2.length : Int) : Int) := odt Z2; obtain ⟨go24, co24, eo24, gb24, gl24, cl24, HG24⟩ := Kd.R_form HO_5.out (by omega)
             (first | cases eo24 | (injection eo24 with ea_ en_ ec_; (first | subst ea_ | (injection ea_ with ea_; subst ea_)); subst ec_; clear en_))
             have GB24 := AS gb24; have GG24 := AS HG24; clear gb24 gl24 HG24; obtain ⟨hx24_0, hf24_0⟩ := Kd.R_celln 0 HO_5.out ((ji21) : Int) p24 q24; replace p24 := eq_true p24; replace q24 := eq_true q24; have HP25 := Kd.R_putg HO_5.out ((ji21) : Int) x8_2; go_wp2_with (first | ((with_reducible refine gate_store (t := 109) (p := 59) rfl ?_); refine store_event (t := 109) (p := 59) (v := ?vo_w26) (w1 := (wr.setCell ⟨go24, ((ji21) : Int).toNat, none⟩ (.int .u64 x8_2))) ?hg ?ho ?hn ?hr ?_; (case ho => rfl); (case hg => rfl); (case hn => rfl); (case hr => exact Z12); intro w26 hw; have hg : wr.grownBy w26 (some go24) := Z165; have hp_ : Kd.R (Kd.int .u64) 109 w26 w.heap.size (fun k_ => (w.heap.size ≤ k_)) (.slice (some ⟨go24, 0, none⟩) x5_2.length co24) y216 := (by rw [hw, Ny216.out]; exact HP25.1); clear HP25; replace HO_5 := AS (hp_); replace HB := AS ((by rw [hw]; exact bls (HB.out) GB24.out : Below w.heap.size w w26)); clear hg hw hp_))
             go_roundg k2
             case measure => have := HK1.out; have := HK2.out; omega
             case rel => exact ⟨(y216), (wrap64 (x19_1 + 1)), Z4, H', ⟨Z131⟩, ⟨Z111⟩, ⟨Z0⟩⟩
            ·rw [if_neg c23] at H
             exact absurd H (by simp)
           ·rw [if_neg c22] at H
            exact absurd H (by simp)
       ·rw [if_neg c10] at H
        exact absurd H (by simp)
      ·rw [if_neg c9] at H
       exact absurd H (by simp)
     ·rw [if_neg c8] at H
      have c8b0 : decide (x19_1 < (l0.length : Int)) = false := decide_eq_false c8; clear c8; replace H := bsm H; obtain ⟨t209, A270, H⟩ := H; replace H : (some t209) = some r := H; have A27 := AS A270; clear A270; obtain rfl := Option.some.inj H; obtain ⟨Ao28, co28, eo28⟩ := Kd.R_slice HO_5.out; subst eo28; go_wp2_with (first | ((with_reducible refine gtc (f := 108) rfl ?_); refine gsL (some 62) rfl rfl Tryz.func108 Z6 rfl #[.slice Ao28 x5_1.length co28] rfl Z1 ?_; (with_reducible refine (dptr.calls k1 (fun k_ => some k_ = (.slice Ao28 x5_1.length co28 : Value).ownBlock) _ _ x5_1 t209 _ ?side1 ?side2 A27.out).mono ?_); (case side1 => exact Kd.R_V (Kd.R_tight rfl (HO_5.out))); (case side2 => exact Z168); rintro e w29 ⟨v210, rfl, ho0, hb⟩; refine ⟨_, rfl, ?_⟩; have HO211 := AS (Kd.V_lower (Kd.V_mono (ok' := fun k_ => (w.heap.size ≤ k_)) ho0 (fun k_ hk_ => Or.elim hk_ (fun hs_ => ((HO_5.out).1 k_ hs_.symm)) (fun hn_ => (Nat.le_trans (bsz Z0) hn_)))) (bsz Z0)); replace HO_5 := AS (Kd.R_below Z111 hb); replace HB := AS (bst Z0 hb); (try clear hb); (try clear ho0))); go_ret; exact ⟨_, Z118, by (with_reducible repeat (first | apply Kd.V_alloc | apply Kd.V_drewN | apply Kd.V_drew)); exact HO211.out, Z0⟩
  ·rw [if_neg c5] at H
   exact absurd H (by simp)
 ·rw [if_neg c4] at H
  exact absurd H (by simp)

def pieceVal (s : ByteArray) (lo : Nat) : Nat → Int
 | 0 => 0
 | j + 1 => 10 * pieceVal s lo j + (bt s ((lo + j : Nat) : Int) - 48)
def cutList (s : ByteArray) : Nat → Nat → List Int
 | 0, _ => []
 | f + 1, e => if e = 0 then [] else pieceVal s (e - 9) (e - (e - 9)) :: cutList s f (e - 9)
theorem cutList_fuel (s : ByteArray) : ∀ f e, e ≤ f → cutList s f e = cutList s e e := by
 intro f
 induction f using Nat.strongRecOn with
 | _ f ih =>
  intro e he
  cases f with
  | zero =>
   obtain rfl : e = 0 := by omega
   rfl
  | succ f =>
   cases e with
   | zero => simp [cutList]
   | succ e =>
    simp only [cutList]; rw [if_neg (by omega), if_neg (by omega), ih f (by omega) (e + 1 - 9) (by omega), ih e (by omega) (e + 1 - 9) (by omega)]
theorem pieceVal_bound (s : ByteArray) (h : allDig s = true) (lo : Nat) : ∀ j, lo + j ≤ s.size → 0 ≤ pieceVal s lo j ∧ pieceVal s lo j < 10 ^ j := by
 intro j
 induction j with
 | zero => intro _; simp [pieceVal]
 | succ j ih =>
  intro hj; have h1 := ih (by omega); have h2 := (allDig_iff s).mp h (lo + j) (by omega); have e : (10 : Int) ^ (j + 1) = 10 ^ j * 10 := Int.pow_succ ..; simp only [pieceVal]
  constructor
  ·omega
  ·rw [e]
   omega
theorem pieceVal_le9 (s : ByteArray) (h : allDig s = true) (lo j : Nat) (hj : j ≤ 9) (hl : lo + j ≤ s.size) : 0 ≤ pieceVal s lo j ∧ pieceVal s lo j ≤ 999999999 := by
 have h1 := pieceVal_bound s h lo j hl
 have h2 : (10 : Int) ^ j ≤ 10 ^ 9 := by
  rcases (show j = 0 ∨ j = 1 ∨ j = 2 ∨ j = 3 ∨ j = 4 ∨ j = 5 ∨ j = 6 ∨ j = 7 ∨ j = 8 ∨ j = 9 by omega) with rfl | rfl | rfl | rfl | rfl | rfl | rfl | rfl | rfl | rfl <;> decide
 omega
theorem cutList_step (s : ByteArray) (e : Nat) (he : 0 < e) : cutList s e e = pieceVal s (e - 9) (e - (e - 9)) :: cutList s (e - 9) (e - 9) := by
 obtain ⟨f, rfl⟩ : ∃ f, e = f + 1 := ⟨e - 1, by omega⟩
 simp only [cutList]; rw [if_neg (by omega), cutList_fuel s f (f + 1 - 9) (by omega)]
theorem cutList_len (s : ByteArray) : ∀ f e, (cutList s f e).length ≤ f := by
 intro f
 induction f with
 | zero => intro e; simp [cutList]
 | succ f ih =>
  intro e; simp only [cutList]
  split
  ·simp
  ·have := ih (e - 9); simp; omega
theorem bt_extract (s : ByteArray) (lo hi i : Nat) (h : hi ≤ s.size) (hi2 : lo + i < hi) : bt (s.extract lo hi) (i : Int) = bt s ((lo + i : Nat) : Int) := by
 have h1 : i < (s.extract lo hi).size := by simp; omega
 have h2 : lo + i < s.size := by omega
 have e1 : bt (s.extract lo hi) (i : Int) = (((s.extract lo hi)[i]'h1).toNat : Int) := by unfold bt; rw [dif_pos (show ((i : Nat) : Int).toNat < _ from h1)]; rfl
 have e2 : bt s ((lo + i : Nat) : Int) = ((s[lo + i]'h2).toNat : Int) := by unfold bt; rw [dif_pos (show ((lo + i : Nat) : Int).toNat < _ from h2)]; rfl
 rw [e1, e2, ByteArray.getElem_extract]
theorem info109_row : (Tryz.prog.info? 109).map (fun i => (i.zero, i.size, i.bytes)) = some (some (.int .u64 0), 1, 8) := by kernel_rfl
theorem cut_walk (a0 : ByteArray) (r : List Int) (w : World) (hs : a0.size ≤ 1000000) (hd : allDig a0 = true) (hG : GL w) (h : dptr.f 2000000 (cutList a0 a0.size a0.size) = some r) :
  Calls Tryz.prog 81 #[.string a0] w fun e w' => ∃ v0_ : Value, e = .returned v0_ ∧ Kd.V (Kd.int .u64) 109 w' w.heap.size (fun k_ => w.heap.size ≤ k_) v0_ r ∧ Below w.heap.size w w' := by
 have HD := AS hd; have HH := AS h; have HGL := AS hG; have hb := AS (blr w); clear hd h hG; obtain ⟨i0, hi, hzz⟩ := Option.map_eq_some_iff.1 info109_row; simp only [Prod.mk.injEq] at hzz; obtain ⟨hz0, hz1, hz2⟩ := hzz; obtain ⟨w1, hrun, hown, hgr⟩ := run_make_own (P := Tryz.prog) w w.heap.size 113 109 i0 (.int .u64 0) 1 Tryz.underlying113 hi hz0 hz1 .i64 .i64 (a0.size / 9 + 1) (by rw [hz2]; omega) Z166 (Nat.le_refl _); have hrun' : (Instr.makeSlice 113 (.int .i64 0) (.int .i64 ((a0.size : Int) / 9 + 1))).run Tryz.prog w = .ok (.slice (some ⟨w.heap.size, 0, none⟩) 0 (a0.size / 9 + 1)) w1 := hrun; have HO : Aside0 (Kd.R (Kd.int .u64) 109 w1 w.heap.size (fun _ => True) (.slice (some ⟨w.heap.size, 0, none⟩) 0 (a0.size / 9 + 1)) ([] : List Int)) := ⟨Kd.R_of_own hown (fun _ _ => trivial)⟩; have HB1 := AS ((blr w).grown hgr (Nat.le_refl _) (fun k e => by cases e)); clear hrun hown hgr hi hz0 hz1 hz2; go_enter Tryz.func81, Tryz.ntmps81; go_wp2
 go_loopw [3, 4] (fun v e wr => ∃ (e' : Int) (xs : List Int), e = .int .i64 e' ∧ e' ≤ a0.size ∧ -9 ≤ e' ∧ Aside0 (xs ++ cutList a0 e'.toNat e'.toNat = cutList a0 a0.size a0.size) ∧ Aside0 (Kd.R (Kd.int .u64) 109 wr w.heap.size (fun _ => True) v xs) ∧ Aside0 (Below w.heap.size w wr)) (fun _ e _ => (intOf e).toNat)
 case atStart => exact ⟨a0.size, [], rfl, by omega, by omega, ⟨rfl⟩, HO, HB1⟩
 case round =>
  obtain ⟨e', xs, rfl, he1, he2, HX, HO1, HB2⟩ := hrel
  by_cases hpos : 0 < e'
  ·obtain ⟨e, rfl⟩ := Int.eq_ofNat_of_zero_le (Int.le_of_lt hpos); have hmin : min e a0.size = e := Nat.min_eq_left (by omega)
   by_cases h9 : e ≤ 9
   ·obtain ⟨w3, hw3⟩ : ∃ w3, w3 = Lib.bytesWorld wr 5 (a0.extract 0 e) := ⟨_, rfl⟩
    have hcv := Lib.run_convert_string_bytes (P := Tryz.prog) wr 51 143 5 (a0.extract 0 e) Tryz.underlying51 Tryz.underlying143 Tryz.underlying5
    have h9' : (e : Int) - 9 ≤ 0 := by omega
    have hee : e ≤ a0.size := by omega
    rw [← hw3] at hcv
    have hsz : (a0.extract 0 (e)).size = e := by simp; omega
    have hcell : ∀ k : Nat, k < e → w3.cell? ⟨wr.heap.size, k, none⟩ = some (.int .u8 (bt a0 ((0 + k : Nat) : Int))) := fun k hk => by
     rw [hw3, Lib.bytesWorld_cell wr 5 (a0.extract 0 (e)) k Z167, ← bt_list _ k Z167, bt_extract a0 0 (e) k (by omega) (by omega)]
    have hbel := Lib.bytesWorld_below wr 5 (a0.extract 0 (e)); rw [← hw3] at hbel; have HCELL := AS hcell; have HB3 := AS (bst HB2.out hbel); have HO3 := AS (Kd.R_below HO1.out hbel)
    have HSTEP : Aside0 (xs ++ [pieceVal a0 0 e] ++ cutList a0 ((e : Int) - 9).toNat ((e : Int) - 9).toNat = cutList a0 a0.size a0.size) := ⟨by
     rw [← HX.out, show ((e : Nat) : Int).toNat = e from Int.toNat_natCast _, cutList_step a0 (e) (by omega), List.append_assoc]; rw [show ((e : Int) - 9).toNat = e - 9 from by omega, show e - 9 = 0 from by omega, show e - 0 = e from by omega]
     rfl⟩
    have HLEN : Aside0 (xs.length + 1 ≤ 1000000) := ⟨by
     have h1 := congrArg List.length HSTEP.out; have h2 := cutList_len a0 a0.size a0.size; simp only [List.length_append, List.length_cons, List.length_nil] at h1
     omega⟩
    clear hw3 hsz hcell hbel; go_wp2
    go_loop [5, 27] (fun n i => ∃ k : Nat, k ≤ e ∧ i = .int .i64 k ∧ n = .int .u64 (pieceVal a0 0 k)) (fun _ i => e - (intOf i).toNat)
    case atStart => exact ⟨0, Nat.zero_le _, rfl, rfl⟩
    case round =>
     obtain ⟨k, hk, rfl, rfl⟩ := hrel
     by_cases hlt : k < e
     ·have hck := HCELL.out k hlt; have hpb := pieceVal_le9 a0 HD.out 0 k (by omega) (by omega); have hdig := (allDig_iff a0).mp HD.out (0 + k) (by omega); have HNEXT : Aside0 (pieceVal a0 0 (k + 1) = 10 * pieceVal a0 0 k + (bt a0 ((0 + k : Nat) : Int) - 48)) := ⟨rfl⟩; generalize pieceVal a0 0 k = P at *; generalize bt a0 ((0 + k : Nat) : Int) = c at *; obtain ⟨hp0, hp1⟩ := hpb; obtain ⟨hd0, hd1⟩ := hdig; go_wp2
      go_round
      case rel => exact ⟨k + 1, by omega, by go_num, by rw [HNEXT.out]⟩
      case measure => simp [intOf]; omega
     ·obtain rfl : e = k := by omega
      clear hk; go_wp2_with (at_builtin; (refine Kd.R_append (Kd.int .u64) (w0 := w) w.heap.size rfl (.tmp 38) (.tmp 40) 113 109 (.int .u64 0) 8 rfl Tryz.underlying113 info109_row rfl (by decide) (by decide) u3 xs (pieceVal a0 0 e) [.int .u64 (pieceVal a0 0 e)] (fun _ => True) (fun _ => False) rfl rfl rfl (fun _ hk_ => hk_.elim) (fun _ _ => trivial) HO3.out HB3.out HB3.out.size (by have := HLEN.out; omega) ?_); intro v4 w4 hown4 hB4 _ _; have HO4 := AS hown4; have HB4 := AS hB4; clear hown4 hB4); go_roundw
      case rel => exact ⟨(e : Int) - 9, xs ++ [pieceVal a0 0 e], by go_num, by omega, by omega, ⟨HSTEP.out⟩, HO4, HB4⟩
      case measure => simp [intOf]; omega
   ·obtain ⟨lo, rfl⟩ : ∃ lo, e = lo + 9 := ⟨e - 9, by omega⟩
    have hlo : (0 : Int) < (lo : Int) := by omega
    have hlo2 : lo + 9 ≤ a0.size := by omega
    clear h9
    obtain ⟨w3, hw3⟩ : ∃ w3, w3 = Lib.bytesWorld wr 5 (a0.extract lo (lo + 9)) := ⟨_, rfl⟩
    have hcv := Lib.run_convert_string_bytes (P := Tryz.prog) wr 51 143 5 (a0.extract lo (lo + 9)) Tryz.underlying51 Tryz.underlying143 Tryz.underlying5; rw [← hw3] at hcv
    have hsz : (a0.extract lo (lo + 9)).size = 9 := by simp; omega
    have hcell : ∀ k : Nat, k < 9 → w3.cell? ⟨wr.heap.size, k, none⟩ = some (.int .u8 (bt a0 ((lo + k : Nat) : Int))) := fun k hk => by
     rw [hw3, Lib.bytesWorld_cell wr 5 (a0.extract lo (lo + 9)) k Z167, ← bt_list _ k Z167, bt_extract a0 lo (lo + 9) k (by omega) (by omega)]
    have hbel := Lib.bytesWorld_below wr 5 (a0.extract lo (lo + 9)); rw [← hw3] at hbel; have HCELL := AS hcell; have HB3 := AS (bst HB2.out hbel); have HO3 := AS (Kd.R_below HO1.out hbel)
    have HSTEP : Aside0 (xs ++ [pieceVal a0 lo 9] ++ cutList a0 ((lo + 9 : Int) - 9).toNat ((lo + 9 : Int) - 9).toNat = cutList a0 a0.size a0.size) := ⟨by
     rw [← HX.out, show ((lo + 9 : Nat) : Int).toNat = lo + 9 from Int.toNat_natCast _, cutList_step a0 (lo + 9) (by omega), List.append_assoc]; rw [show ((lo + 9 : Int) - 9).toNat = lo + 9 - 9 from by omega, show lo + 9 - 9 = lo from by omega, show lo + 9 - lo = 9 from by omega]
     rfl⟩
    have HLEN : Aside0 (xs.length + 1 ≤ 1000000) := ⟨by
     have h1 := congrArg List.length HSTEP.out; have h2 := cutList_len a0 a0.size a0.size; simp only [List.length_append, List.length_cons, List.length_nil] at h1
     omega⟩
    clear hw3 hsz hcell hbel; go_wp2
    go_loop [5, 27] (fun n i => ∃ k : Nat, k ≤ 9 ∧ i = .int .i64 k ∧ n = .int .u64 (pieceVal a0 lo k)) (fun _ i => 9 - (intOf i).toNat)
    case atStart => exact ⟨0, Nat.zero_le _, rfl, rfl⟩
    case round =>
     obtain ⟨k, hk, rfl, rfl⟩ := hrel
     by_cases hlt : k < 9
     ·have hck := HCELL.out k hlt; have hpb := pieceVal_le9 a0 HD.out lo k (by omega) (by omega); have hdig := (allDig_iff a0).mp HD.out (lo + k) (by omega); have HNEXT : Aside0 (pieceVal a0 lo (k + 1) = 10 * pieceVal a0 lo k + (bt a0 ((lo + k : Nat) : Int) - 48)) := ⟨rfl⟩; generalize pieceVal a0 lo k = P at *; generalize bt a0 ((lo + k : Nat) : Int) = c at *; obtain ⟨hp0, hp1⟩ := hpb; obtain ⟨hd0, hd1⟩ := hdig; go_wp2
      go_round
      case rel => exact ⟨k + 1, by omega, by go_num, by rw [HNEXT.out]⟩
      case measure => simp [intOf]; omega
     ·obtain rfl : k = 9 := by omega
      clear hk; go_wp2_with (at_builtin; (refine Kd.R_append (Kd.int .u64) (w0 := w) w.heap.size rfl (.tmp 38) (.tmp 40) 113 109 (.int .u64 0) 8 rfl Tryz.underlying113 info109_row rfl (by decide) (by decide) u3 xs (pieceVal a0 lo 9) [.int .u64 (pieceVal a0 lo 9)] (fun _ => True) (fun _ => False) rfl rfl rfl (fun _ hk_ => hk_.elim) (fun _ _ => trivial) HO3.out HB3.out HB3.out.size (by have := HLEN.out; omega) ?_); intro v4 w4 hown4 hB4 _ _; have HO4 := AS hown4; have HB4 := AS hB4; clear hown4 hB4); go_roundw
      case rel => exact ⟨(lo + 9 : Int) - 9, xs ++ [pieceVal a0 lo 9], by go_num, by omega, by omega, ⟨HSTEP.out⟩, HO4, HB4⟩
      case measure => simp [intOf]; omega
  ·have HE : Aside0 (cutList a0 a0.size a0.size = xs) := ⟨by
    rw [← HX.out, show e'.toNat = 0 from by omega]
    simp [cutList]⟩
   have HT := AS (HE.out ▸ HH.out); have HG4 := AS (HGL.out.below HB2.out); obtain ⟨A4, c4, rfl⟩ := Kd.R_slice HO1.out; have hcall := dptr.calls 2000000 (fun k_ => w.heap.size ≤ k_) A4 c4 xs r wr (Kd.V_mono (Kd.R_V (Kd.R_bound HO1.out)) (fun k_ hk_ => hk_.2.1)) HG4.out HT.out; have HC := AS hcall; clear hcall; go_wp2_with (go_at_call 108; refine HC.out.mono ?_; rintro e w5 ⟨v5, rfl, hv5, hb5⟩; have HV := AS hv5; have HB5 := AS (bst HB2.out hb5); clear hv5 hb5); go_ret; exact ⟨_, rfl, Kd.V_lower (Kd.V_mono HV.out (fun k_ hk_ => hk_.elim id (fun h => Nat.le_trans HB2.out.size h))) HB2.out.size, HB5.out⟩
def decu.f (a0 : ByteArray) : Option (List Int) := if a0.size ≤ 1000000 ∧ allDig a0 = true then dptr.f 2000000 (cutList a0 a0.size a0.size) else none
theorem decu.calls (a0 : ByteArray) (r : List Int) (w : World) (hG : GL w) (h : decu.f a0 = some r) :
  Calls Tryz.prog 81 #[.string a0] w fun e w' => ∃ v0_ : Value, e = .returned (v0_) ∧ Kd.V (Kd.int .u64) 109 w' w.heap.size (fun k_ => w.heap.size ≤ k_) v0_ r ∧ Below w.heap.size w w' := by
 unfold decu.f at h
 by_cases c : a0.size ≤ 1000000 ∧ allDig a0 = true
 ·rw [if_pos c] at h; exact cut_walk a0 r w c.1 c.2 hG h
 ·rw [if_neg c] at h; cases h

theorem info5_row : (Tryz.prog.info? 5).map (fun i => (i.zero, i.size, i.bytes)) = some (some (.int .u8 0), 1, 1) := by kernel_rfl
def emitDigs (last : Bool) : Nat → Int → List Int
 | 0, _ => []
 | f + 1, n => if last = true ∧ n ≤ 0 then [] else (48 + n % 10) :: emitDigs last f (n / 10)
def textFrom (len : Nat) : Nat → List Int → List Int
 | _, [] => []
 | i, n :: l => emitDigs (decide (i + 1 = len)) 9 n ++ textFrom len (i + 1) l
theorem C_u64_at {w : World} {A : Option Addr} {l : List Int} (h : Kd.C (Kd.int .u64) w A l.length l) (i : Nat) (hi : i < l.length) : ∃ ad, A = some ad ∧ w.cell? (ad.add i) = some (.int .u64 (l.getD i 0)) := by
 obtain ⟨ad, e, hc⟩ := h.2.2 (by omega); refine ⟨ad, e, ?_⟩; obtain ⟨c, _, hr, hcell⟩ := hc i _ (List.getElem?_eq_getElem hi); have hr' : c = [.int .u64 l[i]] := hr; have := hcell 0 (.int .u64 l[i]) (by rw [hr']; rfl); rw [show i * Kd.sz (Kd.int .u64) + 0 = i from Nat.mul_one i] at this; rw [this, List.getD_eq_getElem?_getD, List.getElem?_eq_getElem hi]; rfl
def u64s (l : List Int) : Bool := l.all fun n => decide (0 ≤ n) && decide (n ≤ 18446744073709551615)
theorem text_walk (A0 : Option Addr) (c0 : Nat) (l0 : List Int) (r : List Int) (w : World) (hl : l0.length ≤ 100000) (hne : l0 ≠ []) (hu : u64s l0 = true) (hr0 : Kd.C (Kd.int .u64) w A0 l0.length l0) (hc0 : l0.length ≤ c0) (hG : GL w) (h : slrv.f 2000000 (textFrom l0.length 0 l0) = some r) :
  Calls Tryz.prog 83 #[.slice A0 l0.length c0] w fun e w' => e = .returned (.string (strOfNums r)) ∧ Below w.heap.size w w' := by
 have HR := AS hr0; have HU := AS hu; have HH := AS h; have HGL := AS hG; have HL := AS hl; have hpos : 0 < l0.length := List.length_pos_iff.mpr hne
 have hz : ((l0.length : Int) == 0) = false := by rw [beq_eq_false_iff_ne]; omega
 have hz2 : (l0.length == 0) = false := by rw [beq_eq_false_iff_ne]; omega
 have hl2 : (l0.length : Int) ≤ 100000 := by omega
 clear hr0 hu h hG hne; obtain ⟨i0, hi, hzz⟩ := Option.map_eq_some_iff.1 info5_row; simp only [Prod.mk.injEq] at hzz; obtain ⟨hz0, hz1, hz3⟩ := hzz; obtain ⟨w1, hrun, hown, hgr⟩ := run_make_own (P := Tryz.prog) w w.heap.size 143 5 i0 (.int .u8 0) 1 Tryz.underlying143 hi hz0 hz1 .i64 .i64 (9 * l0.length) (by rw [hz3]; omega) Z166 (Nat.le_refl _); have hrun' : (Instr.makeSlice 143 (.int .i64 0) (.int .i64 (9 * (l0.length : Int)))).run Tryz.prog w = .ok (.slice (some ⟨w.heap.size, 0, none⟩) 0 (9 * l0.length)) w1 := hrun; have HO : Aside0 (Kd.R (Kd.int .u8) 5 w1 w.heap.size (fun _ => True) (.slice (some ⟨w.heap.size, 0, none⟩) 0 (9 * l0.length)) ([] : List Int)) := ⟨Kd.R_of_own hown (fun _ _ => trivial)⟩; have HB1 := AS ((blr w).grown hgr (Nat.le_refl _) (fun k e => by cases e)); clear hrun hown hgr hi hz0 hz1 hz3; go_enter Tryz.func83, Tryz.ntmps83; go_wp2
 go_loopw [3, 16] (fun v i wr => ∃ (k : Nat) (xs : List Int), i = .int .i64 k ∧ k ≤ l0.length ∧ xs.length ≤ 9 * k ∧ Aside0 (xs ++ textFrom l0.length k (l0.drop k) = textFrom l0.length 0 l0) ∧ Aside0 (Kd.R (Kd.int .u8) 5 wr w.heap.size (fun _ => True) v xs) ∧ Aside0 (Below w.heap.size w wr)) (fun _ i _ => l0.length - (intOf i).toNat)
 case atStart => exact ⟨0, [], rfl, Nat.zero_le _, by simp, ⟨rfl⟩, HO, HB1⟩
 case round =>
  obtain ⟨k, xs, rfl, hk, hxl, HX, HO1, HB2⟩ := hrel
  by_cases hlt : k < l0.length
  ·obtain ⟨ad, rfl, hcell0⟩ := C_u64_at HR.out k hlt; have hcell := pcb HB2.out hcell0
   have hn : 0 ≤ l0.getD k 0 ∧ l0.getD k 0 ≤ 18446744073709551615 := by
    have h1 := List.all_eq_true.mp HU.out (l0[k]) (List.getElem_mem ..); simp only [Bool.and_eq_true, decide_eq_true_eq] at h1; rw [List.getD_eq_getElem?_getD, List.getElem?_eq_getElem hlt]; exact h1
   have HD : Aside0 (textFrom l0.length k (l0.drop k) = emitDigs (decide (k + 1 = l0.length)) 9 (l0.getD k 0) ++ textFrom l0.length (k + 1) (l0.drop (k + 1))) := ⟨by
    rw [List.drop_eq_getElem_cons hlt, textFrom, List.getD_eq_getElem?_getD, List.getElem?_eq_getElem hlt]
    rfl⟩
   have HX2 := AS (HD.out ▸ HX.out)
   obtain ⟨T, hT⟩ : ∃ T, T = textFrom l0.length (k + 1) (l0.drop (k + 1)) := ⟨_, rfl⟩
   have HTT := AS hT; rw [← hT] at HX2; clear hcell0 HD hT; generalize l0.getD k 0 = N at *; obtain ⟨hn0, hn1⟩ := hn; go_wp2
   go_loopw [3, 5, 6] (fun v n j wr => ∃ (q : Nat) (m : Int) (ys : List Int), j = .int .i64 q ∧ n = .int .u64 m ∧ 0 ≤ m ∧ m ≤ 18446744073709551615 ∧ q ≤ 9 ∧ ys.length ≤ 9 * k + q ∧ Aside0 (ys ++ (emitDigs (decide (k + 1 = l0.length)) (9 - q) m ++ T) = textFrom l0.length 0 l0) ∧ Aside0 (Kd.R (Kd.int .u8) 5 wr w.heap.size (fun _ => True) v ys) ∧ Aside0 (Below w.heap.size w wr)) (fun _ _ j _ => 9 - (intOf j).toNat)
   case atStart => exact ⟨0, N, xs, rfl, rfl, hn0, hn1, by omega, by omega, HX2, HO1, HB2⟩
   case round =>
    obtain ⟨q, m, ys, rfl, rfl, hm0, hm1, hq, hyl, HY, HO2, HB3⟩ := hrel
    by_cases hq9 : q < 9
    ·by_cases hgo : k + 1 < l0.length ∨ 0 < m
     ·have HSTEP : Aside0 ((ys ++ [48 + m % 10]) ++ (emitDigs (decide (k + 1 = l0.length)) (9 - (q + 1)) (m / 10) ++ T) = textFrom l0.length 0 l0) := ⟨by
       rw [← HY.out, show 9 - q = (9 - (q + 1)) + 1 from by omega, emitDigs, if_neg (by simp only [decide_eq_true_eq]; omega)]
       simp⟩
      rcases Nat.lt_or_ge (k + 1) l0.length with c | c
      ·go_wp2_with (at_builtin; (refine Kd.R_append (Kd.int .u8) (w0 := w) w.heap.size rfl (.tmp 36) (.tmp 41) 143 5 (.int .u8 0) 1 rfl Tryz.underlying143 info5_row rfl (by decide) (by decide) u3 ys (48 + m % 10) [.int .u8 (48 + m % 10)] (fun _ => True) (fun _ => False) rfl rfl rfl (fun _ hk_ => hk_.elim) (fun _ _ => trivial) HO2.out HB3.out HB3.out.size (by omega) ?_); intro v4 w4 hown4 hB4 _ _; have HO4 := AS hown4; have HB4 := AS hB4; clear hown4 hB4); go_roundw
       case rel => exact ⟨q + 1, m / 10, ys ++ [48 + m % 10], by go_num, by go_num, by omega, by omega, by omega, Z154, HSTEP, HO4, HB4⟩
       case measure => simp [intOf]; omega
      ·have hm2 : 0 < m := by omega
       go_wp2_with (at_builtin; (refine Kd.R_append (Kd.int .u8) (w0 := w) w.heap.size rfl (.tmp 36) (.tmp 41) 143 5 (.int .u8 0) 1 rfl Tryz.underlying143 info5_row rfl (by decide) (by decide) u3 ys (48 + m % 10) [.int .u8 (48 + m % 10)] (fun _ => True) (fun _ => False) rfl rfl rfl (fun _ hk_ => hk_.elim) (fun _ _ => trivial) HO2.out HB3.out HB3.out.size (by omega) ?_); intro v4 w4 hown4 hB4 _ _; have HO4 := AS hown4; have HB4 := AS hB4; clear hown4 hB4); go_roundw
       case rel => exact ⟨q + 1, m / 10, ys ++ [48 + m % 10], by go_num, by go_num, by omega, by omega, by omega, Z154, HSTEP, HO4, HB4⟩
       case measure => simp [intOf]; omega
     ·have hc : ¬ (k + 1 < l0.length) := by omega
      have hm2 : m = 0 := by omega
      subst hm2
      have HZ : Aside0 (ys ++ textFrom l0.length (k + 1) (l0.drop (k + 1)) = textFrom l0.length 0 l0) := ⟨by
       rw [← HY.out, ← HTT.out, show 9 - q = (9 - (q + 1)) + 1 from by omega, emitDigs, if_pos ⟨by simp only [decide_eq_true_eq]; omega, by omega⟩]
       simp⟩
      go_wp2; go_roundw
      case rel => exact ⟨k + 1, ys, by go_num, by omega, by omega, HZ, HO2, HB3⟩
      case measure => simp [intOf]; omega
    ·obtain rfl : q = 9 := by omega
     have HZ : Aside0 (ys ++ textFrom l0.length (k + 1) (l0.drop (k + 1)) = textFrom l0.length 0 l0) := ⟨by
      rw [← HY.out, ← HTT.out]
      simp [emitDigs]⟩
     go_wp2; go_roundw
     case rel => exact ⟨k + 1, ys, by go_num, by omega, by omega, HZ, HO2, HB3⟩
     case measure => simp [intOf]; omega
  ·obtain rfl : k = l0.length := by omega
   have HE : Aside0 (textFrom l0.length 0 l0 = xs) := ⟨by
    rw [← HX.out, List.drop_length]
    simp [textFrom]⟩
   have HT := AS (HE.out ▸ HH.out); have hcall := slrv.calls 2000000 (fun _ => True) u3 xs r w wr HB2.out HO1.out HGL.out HT.out; have HC := AS hcall; clear hcall; go_wp2_with fail; refine HC.out.mono ?_; rintro e w5 ⟨rfl, hown5, hb5, _⟩; have hcv := own_string (P := Tryz.prog) Tryz.underlying143 Tryz.underlying5 Tryz.underlying51 (Kd.own_of_R hown5); have HB5 := AS hb5; clear hown5 hb5; go_wp2; go_ret; exact ⟨rfl, HB5.out⟩
def dptx.f (l0 : List Int) : Option (ByteArray) := if l0 = [] then some (strOfNums [48]) else if l0.length ≤ 100000 ∧ u64s l0 = true then (slrv.f 2000000 (textFrom l0.length 0 l0)).bind fun r => some (strOfNums r) else none
theorem dptx.calls (A0 : Option Addr) (c0 : Nat) (l0 : List Int) (r : ByteArray) (w : World) (hr0 : Kd.C (Kd.int .u64) w A0 l0.length l0) (hc0 : l0.length ≤ c0) (hG : GL w) (h : dptx.f l0 = some r) :
  Calls Tryz.prog 83 #[.slice A0 l0.length c0] w fun e w' => e = .returned (.string r) ∧ Below w.heap.size w w' := by
 unfold dptx.f at h
 by_cases ce : l0 = []
 ·subst ce; rw [if_pos rfl] at h; cases h; go_enter Tryz.func83, Tryz.ntmps83; go_wp2; go_ret; exact ⟨rfl, Below.refl _ _⟩
 ·rw [if_neg ce] at h
  by_cases c : l0.length ≤ 100000 ∧ u64s l0 = true
  ·rw [if_pos c] at h; obtain ⟨q, hq, he⟩ := Option.bind_eq_some_iff.1 h; cases he; exact text_walk A0 c0 l0 q w c.1 ce c.2 hr0 hc0 hG hq
  ·rw [if_neg c] at h; cases h

def deMu.f (k : Nat) (a0 : ByteArray) (a1 : ByteArray) : Option (ByteArray) := if (wrap64 ((a0.size : Int) + (a1.size : Int))) ≤ 18 then ((debo.f k a0 a1).bind fun bt217 => ((decimal_Of.f (IntKind.u64.wrap (bt217.1 * bt217.2.1))).bind fun t220 => (some t220))) else ((decu.f a0).bind fun t221 => ((decu.f a1).bind fun t224 => ((dptm.f k t221 t224).bind fun t227 => ((dptx.f t227).bind fun t230 => (some t230)))))
theorem deMu.mono : ∀ a0 a1 k, LeO (deMu.f k a0 a1) (deMu.f (k + 1) a0 a1) := by
 intro a0 a1 k; unfold deMu.f
 repeat' (with_reducible first | exact debo.mono _ _ _ | exact dptm.mono _ _ _ | exact LeO.refl _ | exact LeO.none _ | refine LeO.ite ?_ ?_ | refine LeO.bind ?_ (fun _ => ?_))
theorem deMu.calls (k : Nat) (a0 : ByteArray) (a1 : ByteArray) (r : ByteArray) (w : World) (hG : GL w) (h : deMu.f k a0 a1 = some r) :
  Calls Tryz.prog 44 #[.string a0, .string a1] w fun e w' => e = .returned (.string r) ∧ Below w.heap.size w w' := by
 have HB := AS (blr w); have H : (if (wrap64 ((a0.size : Int) + (a1.size : Int))) ≤ 18 then ((debo.f k a0 a1).bind fun bt217 => ((decimal_Of.f (IntKind.u64.wrap (bt217.1 * bt217.2.1))).bind fun t220 => (some t220))) else ((decu.f a0).bind fun t221 => ((decu.f a1).bind fun t224 => ((dptm.f k t221 t224).bind fun t227 => ((dptx.f t227).bind fun t230 => (some t230)))))) = some r := h; clear h
 by_cases c3 : (wrap64 ((a0.size : Int) + (a1.size : Int))) ≤ 18
 ·rw [if_pos c3] at H
  have c3b0 : decide ((wrap64 ((a0.size : Int) + (a1.size : Int))) ≤ 18) = true := dqt c3; clear c3; replace H := bsm H; obtain ⟨⟨t217, t218, t219⟩, A40, H⟩ := H; replace H : ((decimal_Of.f (IntKind.u64.wrap (t217 * t218))).bind fun t220 => (some t220)) = some r := H; have A4 := AS A40; clear A40; replace H := bsm H; obtain ⟨t220, A50, H⟩ := H; replace H : (some t220) = some r := H; have A5 := AS A50; clear A50; obtain rfl := Option.some.inj H; go_enter Tryz.func44, Tryz.ntmps44; go_wp2_with (first | ((with_reducible refine gtc (f := 80) rfl ?_); refine gsL (some 17) rfl rfl Tryz.func80 Z6 rfl #[.string a0, .string a1] rfl Z1 ?_; (with_reducible refine (debo.calls k a0 a1 t217 t218 t219 _ ?side1 A4.out).mono ?_); (case side1 => exact Z168); rintro e w6 ⟨rfl, hb⟩; refine ⟨_, rfl, ?_⟩; replace HB := AS (bst Z0 hb); (try clear hb)) | ((with_reducible refine gtc (f := 79) rfl ?_); refine gsL (some 24) rfl rfl Tryz.func79 Z6 rfl #[.int .u64 (IntKind.u64.wrap (t217 * t218))] rfl Z1 ?_; (with_reducible refine (decimal_Of.calls (IntKind.u64.wrap (t217 * t218)) t220 _ ?side1 A5.out).mono ?_); (case side1 => exact Z168); rintro e w7 ⟨rfl, hb⟩; refine ⟨_, rfl, ?_⟩; replace HB := AS (bst Z0 hb); (try clear hb))); go_ret; exact ⟨Z3, Z0⟩
 ·rw [if_neg c3] at H
  have c3b0 : decide ((wrap64 ((a0.size : Int) + (a1.size : Int))) ≤ 18) = false := decide_eq_false c3; clear c3; replace H := bsm H; obtain ⟨t221, A80, H⟩ := H; replace H : ((decu.f a1).bind fun t224 => ((dptm.f k t221 t224).bind fun t227 => ((dptx.f t227).bind fun t230 => (some t230)))) = some r := H; have A8 := AS A80; clear A80; replace H := bsm H; obtain ⟨t224, A90, H⟩ := H; replace H : ((dptm.f k t221 t224).bind fun t227 => ((dptx.f t227).bind fun t230 => (some t230))) = some r := H; have A9 := AS A90; clear A90; replace H := bsm H; obtain ⟨t227, A100, H⟩ := H; replace H : ((dptx.f t227).bind fun t230 => (some t230)) = some r := H; have A10 := AS A100; clear A100; replace H := bsm H; obtain ⟨t230, A110, H⟩ := H; replace H : (some t230) = some r := H; have A11 := AS A110; clear A110; obtain rfl := Option.some.inj H; go_enter Tryz.func44, Tryz.ntmps44; go_wp2_with (first | ((with_reducible refine gtc (f := 81) rfl ?_); refine gsL (some 26) rfl rfl Tryz.func81 Z6 rfl #[.string a0] rfl Z1 ?_; (with_reducible refine (decu.calls a0 t221 _ ?side1 A8.out).mono ?_); (case side1 => exact Z168); rintro e w12 ⟨v222, rfl, ho0, hb⟩; refine ⟨_, rfl, ?_⟩; have HO223 := AS (Kd.V_lower (Kd.V_mono (ok' := fun k_ => True) ho0 (fun k_ hk_ => trivial)) (bsz Z0)); replace HB := AS (bst Z0 hb); (try clear hb); (try clear ho0)) | ((with_reducible refine gtc (f := 81) rfl ?_); refine gsL (some 28) rfl rfl Tryz.func81 Z6 rfl #[.string a1] rfl Z1 ?_; (with_reducible refine (decu.calls a1 t224 _ ?side1 A9.out).mono ?_); (case side1 => exact Z168); rintro e w13 ⟨v225, rfl, ho0, hb⟩; refine ⟨_, rfl, ?_⟩; have HO226 := AS (Kd.V_lower (Kd.V_mono (ok' := fun k_ => True) ho0 (fun k_ hk_ => trivial)) (bsz Z0)); replace HO223 := AS (Kd.V_below Z121 hb); replace HB := AS (bst Z0 hb); (try clear hb); (try clear ho0); obtain ⟨Ao14, co14, eo14⟩ := Kd.V_slice HO223.out; subst eo14; obtain ⟨Ao15, co15, eo15⟩ := Kd.V_slice HO226.out; subst eo15) | ((with_reducible refine gtc (f := 82) rfl ?_); refine gsL (some 29) rfl rfl Tryz.func82 Z6 rfl #[.slice Ao14 t221.length co14, .slice Ao15 t224.length co15] rfl Z1 ?_; (with_reducible refine (dptm.calls k _ _ t221 _ _ t224 t227 _ ?side1 ?side2 ?side3 ?side4 ?side5 A10.out).mono ?_); (case side1 => repeat (first | exact (Kd.V_reads' HO223.out).2.2 | (with_reducible refine Kd.C_alloc ?_ _) | (with_reducible refine Kd.C_drewN ?_ _) | (with_reducible refine Kd.C_drew ?_))); (case side2 => exact (Kd.V_reads' HO223.out).2.1); (case side3 => repeat (first | exact (Kd.V_reads' HO226.out).2.2 | (with_reducible refine Kd.C_alloc ?_ _) | (with_reducible refine Kd.C_drewN ?_ _) | (with_reducible refine Kd.C_drew ?_))); (case side4 => exact (Kd.V_reads' HO226.out).2.1); (case side5 => exact Z168); rintro e w16 ⟨v228, rfl, ho0, hb⟩; refine ⟨_, rfl, ?_⟩; have HO229 := AS (Kd.V_lower (Kd.V_mono (ok' := fun k_ => True) ho0 (fun k_ hk_ => trivial)) (bsz Z0)); replace HO223 := AS (Kd.V_below Z121 hb); replace HO226 := AS (Kd.V_below Z136 hb); replace HB := AS (bst Z0 hb); (try clear hb); (try clear ho0); obtain ⟨Ao17, co17, eo17⟩ := Kd.V_slice HO229.out; subst eo17) | ((with_reducible refine gtc (f := 83) rfl ?_); refine gsL (some 30) rfl rfl Tryz.func83 Z6 rfl #[.slice Ao17 t227.length co17] rfl Z1 ?_; (with_reducible refine (dptx.calls _ _ t227 t230 _ ?side1 ?side2 ?side3 A11.out).mono ?_); (case side1 => repeat (first | exact (Kd.V_reads' HO229.out).2.2 | (with_reducible refine Kd.C_alloc ?_ _) | (with_reducible refine Kd.C_drewN ?_ _) | (with_reducible refine Kd.C_drew ?_))); (case side2 => exact (Kd.V_reads' HO229.out).2.1); (case side3 => exact Z168); rintro e w18 ⟨rfl, hb⟩; refine ⟨_, rfl, ?_⟩; replace HO223 := AS (Kd.V_below Z121 hb); replace HO226 := AS (Kd.V_below Z136 hb); replace HO229 := AS (Kd.V_below (by (with_reducible repeat (first | apply Kd.V_alloc | apply Kd.V_drewN | apply Kd.V_drew)); exact HO229.out) hb); replace HB := AS (bst Z0 hb); (try clear hb))); go_ret; exact ⟨Z3, Z0⟩
def deDM.f (k : Nat) (a0 : ByteArray) (a1 : ByteArray) : Option (ByteArray × ByteArray × Int) := if a1.toList = ([48] : List UInt8) then (none) else ((debo.f k a0 a1).bind fun bt231 => (if bt231.2.2 = true then (if bt231.2.1 = 0 then (none) else ((decimal_Of.f (IntKind.u64.wrap (Int.tdiv bt231.1 bt231.2.1))).bind fun t234 => ((decimal_Of.f (Int.tmod bt231.1 bt231.2.1)).bind fun t235 => (some (t234, t235, 0))))) else (none)))
theorem deDM.mono : ∀ a0 a1 k, LeO (deDM.f k a0 a1) (deDM.f (k + 1) a0 a1) := by
 intro a0 a1 k; unfold deDM.f
 repeat' (with_reducible first | exact debo.mono _ _ _ | exact LeO.refl _ | exact LeO.none _ | refine LeO.ite ?_ ?_ | refine LeO.bind ?_ (fun _ => ?_))
def deDM.T5 : Bool × List (List Nat × List Nat) := (true, [([], []), ([], []), ([0, 1], [0, 1]), ([2], [2]), ([], []), ([], []), ([4, 5], [4, 5]), ([6, 3], [6]), ([3, 7, 0, 1, 2, 3], [3]), ([7, 8, 0, 1, 2, 3, 4, 5, 6, 7, 8], [7]), ([9, 0, 1, 2, 3, 4, 5, 6, 7, 8, 9], [])])
def deDM.B5 : List Nat := [0, 0, 3, 7, 0, 0, 48, 127, 255, 511, 1023]
theorem deDM.tab5 : rtab .any (opsOf Tryz.f141 5) = deDM.T5 := by kernel_rfl
theorem deDM.bits5 : waitsOk deDM.T5.2 deDM.B5 = true := by kernel_rfl
theorem deDM.calls (k : Nat) (a0 : ByteArray) (a1 : ByteArray) (r1 : ByteArray) (r2 : ByteArray) (r3 : Int) (w : World) (hG : GL w) (h : deDM.f k a0 a1 = some (r1, r2, r3)) :
  Calls Tryz.prog 141 #[.string a0, .string a1] w fun e w' => e = .returned (.tuple #[.string r1, .string r2, .int .i64 r3]) ∧ Below w.heap.size w w' := by
 have HB := AS (blr w); have H : (if a1.toList = ([48] : List UInt8) then (none) else ((debo.f k a0 a1).bind fun bt231 => (if bt231.2.2 = true then (if bt231.2.1 = 0 then (none) else ((decimal_Of.f (IntKind.u64.wrap (Int.tdiv bt231.1 bt231.2.1))).bind fun t234 => ((decimal_Of.f (Int.tmod bt231.1 bt231.2.1)).bind fun t235 => (some (t234, t235, 0))))) else (none)))) = some (r1, r2, r3) := h; clear h
 by_cases c3 : a1.toList = ([48] : List UInt8)
 ·rw [if_pos c3] at H
  exact absurd H (by simp)
 ·rw [if_neg c3] at H
  have c3b0 : (a1.toList == ([48] : List UInt8)) = false := bqf c3; have c3b1 : (a1.toList != ([48] : List UInt8)) = true := bnt c3; replace H := bsm H; obtain ⟨⟨t231, t232, t233⟩, A40, H⟩ := H; replace H : (if t233 = true then (if t232 = 0 then (none) else ((decimal_Of.f (IntKind.u64.wrap (Int.tdiv t231 t232))).bind fun t234 => ((decimal_Of.f (Int.tmod t231 t232)).bind fun t235 => (some (t234, t235, 0))))) else (none)) = some (r1, r2, r3) := H; have A4 := AS A40; clear A40
  by_cases c5 : t233 = true
  ·subst c5
   rw [if_pos rfl] at H
   by_cases c6 : t232 = 0
   ·rw [if_pos c6] at H
    exact absurd H (by simp)
   ·rw [if_neg c6] at H
    have c6b0 : (t232 == 0) = false := bqf c6; have c6b1 : (t232 != 0) = true := bnt c6; replace H := bsm H; obtain ⟨t234, A70, H⟩ := H; replace H : ((decimal_Of.f (Int.tmod t231 t232)).bind fun t235 => (some (t234, t235, 0))) = some (r1, r2, r3) := H; have A7 := AS A70; clear A70; replace H := bsm H; obtain ⟨t235, A80, H⟩ := H; replace H : (some (t234, t235, 0)) = some (r1, r2, r3) := H; have A8 := AS A80; clear A80
    simp only [Option.some.injEq, Prod.mk.injEq] at H
    obtain ⟨rfl, rfl, rfl⟩ := H; go_enter Tryz.func141, Tryz.ntmps141; (try go_wp2_with (first | ((with_reducible refine gtc (f := 80) rfl ?_); refine gsL (some 21) rfl rfl Tryz.func80 Z6 rfl #[.string a0, .string a1] rfl Z1 ?_; (with_reducible refine (debo.calls k a0 a1 t231 t232 true _ ?side1 A4.out).mono ?_); (case side1 => exact Z168); rintro e w9 ⟨rfl, hb⟩; refine ⟨_, rfl, ?_⟩; replace HB := AS (bst Z0 hb); (try clear hb)))); have n0_ := AS (bl1 HB.out); clear HB; have HB := n0_; clear n0_
    refine start_ (n := 11) (S := fun w' => True) (ds := []) #[false, false, false, false, false, false, false, false, false, false, false] Z6 rfl rfl trivial (fun hHeld => ?_); refine with_tabW deDM.tab5 deDM.bits5 (fun HT_ HW_ => ?_)
    generalize w9.drew = w10 at HB hHeld ⊢; refine pure_ (i := 0) (N := some 26) (v := ?_) (a' := ?_) #[true, false, false, false, false, false, false, false, false, false, false] rfl rfl (any_of HT_.out Z6) (fun _ _ _ h => h) (Or.inl ⟨by rfl, ?_⟩) ?_ ?_; rotate_left
    ·intro w'; go_simp; with_reducible rfl
    rotate_left
    ·simp only [Act.put, sA1, sA2, sA3, i64_w, i32_w]; rfl
    refine pure_ (i := 1) (N := some 27) (v := ?_) (a' := ?_) #[true, true, false, false, false, false, false, false, false, false, false] rfl rfl (any_of HT_.out Z6) (fun _ _ _ h => h) (Or.inl ⟨by rfl, ?_⟩) ?_ ?_; rotate_left
    ·intro w'; go_simp; with_reducible rfl
    rotate_left
    ·simp only [Act.put, sA1, sA2, sA3, i64_w, i32_w]; rfl
    refine pure_ (i := 2) (N := some 28) (v := ?_) (a' := ?_) #[true, true, true, false, false, false, false, false, false, false, false] rfl rfl (any_of HT_.out Z6) (fun _ _ _ h => h) (Or.inl ⟨by rfl, ?_⟩) ?_ ?_; rotate_left
    ·intro w'; go_simp; with_reducible rfl
    rotate_left
    ·simp only [Act.put, sA1, sA2, sA3, i64_w, i32_w]; rfl
    refine pure_ (i := 4) (N := some 30) (v := ?_) (a' := ?_) #[true, true, true, false, true, false, false, false, false, false, false] rfl rfl (any_of HT_.out Z6) (fun _ _ _ h => h) (Or.inl ⟨by rfl, ?_⟩) ?_ ?_; rotate_left
    ·intro w'; go_simp; with_reducible rfl
    rotate_left
    ·simp only [Act.put, sA1, sA2, sA3, i64_w, i32_w]; rfl
    refine pure_ (i := 5) (N := some 31) (v := ?_) (a' := ?_) #[true, true, true, false, true, true, false, false, false, false, false] rfl rfl (any_of HT_.out Z6) (fun _ _ _ h => h) (Or.inl ⟨by rfl, ?_⟩) ?_ ?_; rotate_left
    ·intro w'; go_simp; with_reducible rfl
    rotate_left
    ·simp only [Act.put, sA1, sA2, sA3, i64_w, i32_w]; rfl
    refine pure_ (i := 6) (N := some 32) (v := ?_) (a' := ?_) #[true, true, true, false, true, true, true, false, false, false, false] rfl rfl (any_of HT_.out Z6) (fun _ _ _ h => h) (Or.inl ⟨by rfl, ?_⟩) ?_ ?_; rotate_left
    ·intro w'; go_simp; with_reducible rfl
    rotate_left
    ·simp only [Act.put, sA1, sA2, sA3, i64_w, i32_w]; rfl
    refine one_ (i := 3) (N := some 29) #[true, true, true, true, true, true, true, false, false, false, false] rfl rfl (one_of HT_.out Z6) (by decide) (fun K hK => ?_); refine goes_ Tryz.func79 Z6 rfl #[.int .u64 (IntKind.u64.wrap (Int.tdiv t231 t232))] (by rfl) rfl rfl Z1 ?_
    with_reducible refine (decimal_Of.calls (IntKind.u64.wrap (Int.tdiv t231 t232)) t234 _ ?side1 A7.out).mono ?_
    (case side1 => exact Z168)
    rintro e w11 ⟨rfl, hb⟩; refine ⟨_, rfl, ?_⟩; have n0_ := AS (bst Z0 hb); clear HB; have HB := n0_; clear n0_
    (try clear hb)
    (try clear hb2)
    (try clear hk)
    (try clear hi)
    refine hK.out _ _ trivial (fun hHeld => ?_); clear hK K; refine norm_ (a' := ?_) ?_ ?_; rotate_left
    ·show Act.put _ (some 29) _ = _
     simp only [Act.put, sA1, sA2, sA3, i64_w, i32_w]; rfl
    refine one_ (i := 7) (N := some 33) #[true, true, true, true, true, true, true, true, false, false, false] rfl rfl (one_of HT_.out Z6) (by decide) (fun K hK => ?_); refine goes_ Tryz.func79 Z6 rfl #[.int .u64 (Int.tmod t231 t232)] (by rfl) rfl rfl Z1 ?_
    with_reducible refine (decimal_Of.calls (Int.tmod t231 t232) t235 _ ?side1 A8.out).mono ?_
    (case side1 => exact Z168)
    rintro e w12 ⟨rfl, hb⟩; refine ⟨_, rfl, ?_⟩; have n0_ := AS (bst Z0 hb); clear HB; have HB := n0_; clear n0_
    (try clear hb)
    (try clear hb2)
    (try clear hk)
    (try clear hi)
    refine hK.out _ _ trivial (fun hHeld => ?_); clear hK K; refine norm_ (a' := ?_) ?_ ?_; rotate_left
    ·show Act.put _ (some 33) _ = _
     simp only [Act.put, sA1, sA2, sA3, i64_w, i32_w]; rfl
    refine pure_ (i := 8) (N := some 4) (v := ?_) (a' := ?_) #[true, true, true, true, true, true, true, true, true, false, false] rfl rfl (any_of HT_.out Z6) (fun _ _ _ h => h) (Or.inl ⟨by rfl, ?_⟩) ?_ ?_; rotate_left
    ·intro w'; go_simp; with_reducible rfl
    rotate_left
    ·simp only [Act.put, sA1, sA2, sA3, i64_w, i32_w]; rfl
    refine pure_ (i := 9) (N := some 5) (v := ?_) (a' := ?_) #[true, true, true, true, true, true, true, true, true, true, false] rfl rfl (any_of HT_.out Z6) (fun _ _ _ h => h) (Or.inl ⟨by rfl, ?_⟩) ?_ ?_; rotate_left
    ·intro w'; go_simp; with_reducible rfl
    rotate_left
    ·simp only [Act.put, sA1, sA2, sA3, i64_w, i32_w]; rfl
    refine pure_ (i := 10) (N := some 6) (v := ?_) (a' := ?_) #[true, true, true, true, true, true, true, true, true, true, true] rfl rfl (any_of HT_.out Z6) (fun _ _ _ h => h) (Or.inl ⟨by rfl, ?_⟩) ?_ ?_; rotate_left
    ·intro w'; go_simp; with_reducible rfl
    rotate_left
    ·simp only [Act.put, sA1, sA2, sA3, i64_w, i32_w]; rfl
    refine done_ (done_of HT_.out Z6) ?_; (try go_wp2)
    go_ret3
    exact ⟨Z3, Z0⟩
  ·replace c5 := Bool.eq_false_iff.mpr c5; subst c5
   rw [if_neg ffl] at H
   exact absurd H (by simp)
def deGc.l0 : Nat → ByteArray → ByteArray → Option (ByteArray)
 | 0, _, _ => none
 | k + 1, x0, x1 => if x1.toList = ([48] : List UInt8) then (some x0) else ((deDM.f k x0 x1).bind fun bt236 => (if bt236.2.2 = 0 then (deGc.l0 k x1 bt236.2.1) else (some (⟨#[]⟩ : ByteArray))))
def deGc.f (k : Nat) (a0 : ByteArray) (a1 : ByteArray) : Option (ByteArray) := deGc.l0 k a0 a1
theorem deGc.mono_l : ∀ k, (∀ y0 y1, LeO (deGc.l0 k y0 y1) (deGc.l0 (k + 1) y0 y1))
 | 0 => fun _ _ r h => by simp [deGc.l0] at h
 | k + 1 => by
  have ih0 := deGc.mono_l k
  ·intro y0 y1; unfold deGc.l0
   repeat' (with_reducible first | exact ih0 _ _ | exact deDM.mono _ _ _ | exact LeO.refl _ | exact LeO.none _ | refine LeO.ite ?_ ?_ | refine LeO.bind ?_ (fun _ => ?_))
theorem deGc.mono : ∀ a0 a1 k, LeO (deGc.f k a0 a1) (deGc.f (k + 1) a0 a1) := by
 intro a0 a1 k; have ih0 := deGc.mono_l k; unfold deGc.f
 repeat' (with_reducible first | exact ih0 _ _ | exact deDM.mono _ _ _ | exact LeO.refl _ | exact LeO.none _ | refine LeO.ite ?_ ?_ | refine LeO.bind ?_ (fun _ => ?_))
theorem deGc.calls (k : Nat) (a0 : ByteArray) (a1 : ByteArray) (r : ByteArray) (w : World) (hG : GL w) (h : deGc.f k a0 a1 = some r) :
  Calls Tryz.prog 125 #[.string a0, .string a1] w fun e w' => e = .returned (.string r) ∧ Below w.heap.size w w' := by
 have HB := AS (blr w); have H : (deGc.l0 k a0 a1) = some r := h; clear h; have H' := AS H; clear H; go_enter Tryz.func125, Tryz.ntmps125; go_wp2
 go_loopg [0, 1] k (fun kq v0 v1 w' => ∃ (x0_1 : ByteArray) (x1_1 : ByteArray), v0 = .string x0_1 ∧ v1 = .string x1_1 ∧ Aside0 (deGc.l0 kq x0_1 x1_1 = some r) ∧ Aside0 (kq ≤ k) ∧ Aside0 (Below w.heap.size w w'))
 case atStart => exact ⟨(a0), (a1), Z4, Z4, H', ⟨Nat.le_refl _⟩, ⟨Z0⟩⟩
 case round =>
  clear H'; (try clear c1); (try clear p2); obtain ⟨x0_1, x1_1, rfl, rfl, HA, HK1, HB⟩ := hrel
  cases gk with
  | zero => exact absurd HA.out (by simp [deGc.l0])
  | succ k1 =>
   have H := HA.out; clear HA
   simp only [deGc.l0] at H
   by_cases c3 : x1_1.toList = ([48] : List UInt8)
   ·rw [if_pos c3] at H
    have c3b0 : (x1_1.toList == ([48] : List UInt8)) = true := bqt c3; have c3b1 : (x1_1.toList != ([48] : List UInt8)) = false := bnf c3; clear c3; obtain rfl := Option.some.inj H; go_wp2; go_ret; exact ⟨Z3, Z0⟩
   ·rw [if_neg c3] at H
    have c3b0 : (x1_1.toList == ([48] : List UInt8)) = false := bqf c3; have c3b1 : (x1_1.toList != ([48] : List UInt8)) = true := bnt c3; replace H := bsm H; obtain ⟨⟨t236, t237, t238⟩, A40, H⟩ := H; replace H : (if t238 = 0 then (deGc.l0 k1 x1_1 t237) else (some (⟨#[]⟩ : ByteArray))) = some r := H; have A4 := AS A40; clear A40
    by_cases c5 : t238 = 0
    ·rw [if_pos c5] at H
     have c5b0 : (t238 == 0) = true := bqt c5; have c5b1 : (t238 != 0) = false := bnf c5; clear c5; have H' := AS H; clear H; go_wp2_with (first | ((with_reducible refine gtc (f := 141) rfl ?_); refine gsL (some 13) rfl rfl Tryz.func141 Z6 rfl #[.string x0_1, .string x1_1] rfl Z1 ?_; (with_reducible refine (deDM.calls k1 x0_1 x1_1 t236 t237 t238 _ ?side1 A4.out).mono ?_); (case side1 => exact Z168); rintro e w6 ⟨rfl, hb⟩; refine ⟨_, rfl, ?_⟩; replace HB := AS (bst Z0 hb); (try clear hb)))
     go_roundg k1
     case measure => have := HK1.out; omega
     case rel => exact ⟨(x1_1), (t237), Z4, Z4, H', ⟨Z85⟩, ⟨Z0⟩⟩
    ·rw [if_neg c5] at H
     have c5b0 : (t238 == 0) = false := bqf c5; have c5b1 : (t238 != 0) = true := bnt c5; obtain rfl := Option.some.inj H; go_wp2_with (first | ((with_reducible refine gtc (f := 141) rfl ?_); refine gsL (some 13) rfl rfl Tryz.func141 Z6 rfl #[.string x0_1, .string x1_1] rfl Z1 ?_; (with_reducible refine (deDM.calls k1 x0_1 x1_1 t236 t237 t238 _ ?side1 A4.out).mono ?_); (case side1 => exact Z168); rintro e w7 ⟨rfl, hb⟩; refine ⟨_, rfl, ?_⟩; replace HB := AS (bst Z0 hb); (try clear hb))); go_ret; exact ⟨Z3, Z0⟩
def decimal_Lcm.j0 : Nat → ByteArray → ByteArray → Bool → Option (ByteArray)
 | 0, _, _, _ => none
 | k + 1, x0, x1, x13 => if x13 = true then (some (⟨#[48]⟩ : ByteArray)) else ((deGc.f k x0 x1).bind fun t239 => ((deDM.f k x0 t239).bind fun bt240 => (if bt240.2.2 = 0 then ((deMu.f k bt240.1 x1).bind fun t243 => (some t243)) else (some (⟨#[]⟩ : ByteArray)))))
def decimal_Lcm.f (k : Nat) (a0 : ByteArray) (a1 : ByteArray) : Option (ByteArray) := if a0.toList = ([48] : List UInt8) then (decimal_Lcm.j0 k a0 a1 true) else (decimal_Lcm.j0 k a0 a1 (a1.toList == ([48] : List UInt8)))
theorem decimal_Lcm.mono_l : ∀ k, (∀ y0 y1 y2, LeO (decimal_Lcm.j0 k y0 y1 y2) (decimal_Lcm.j0 (k + 1) y0 y1 y2))
 | 0 => fun _ _ _ r h => by simp [decimal_Lcm.j0] at h
 | k + 1 => by
  have ih0 := decimal_Lcm.mono_l k
  ·intro y0 y1 y2; unfold decimal_Lcm.j0
   repeat' (with_reducible first | exact ih0 _ _ _ | exact deDM.mono _ _ _ | exact deGc.mono _ _ _ | exact deMu.mono _ _ _ | exact LeO.refl _ | exact LeO.none _ | refine LeO.ite ?_ ?_ | refine LeO.bind ?_ (fun _ => ?_))
theorem decimal_Lcm.mono : ∀ a0 a1 k, LeO (decimal_Lcm.f k a0 a1) (decimal_Lcm.f (k + 1) a0 a1) := by
 intro a0 a1 k; have ih0 := decimal_Lcm.mono_l k; unfold decimal_Lcm.f
 repeat' (with_reducible first | exact ih0 _ _ _ | exact deDM.mono _ _ _ | exact deGc.mono _ _ _ | exact deMu.mono _ _ _ | exact LeO.refl _ | exact LeO.none _ | refine LeO.ite ?_ ?_ | refine LeO.bind ?_ (fun _ => ?_))
theorem decimal_Lcm.calls (k : Nat) (a0 : ByteArray) (a1 : ByteArray) (r : ByteArray) (w : World) (hG : GL w) (h : decimal_Lcm.f k a0 a1 = some r) :
  Calls Tryz.prog 209 #[.string a0, .string a1] w fun e w' => e = .returned (.string r) ∧ Below w.heap.size w w' := by
 have HB := AS (blr w); have H : (if a0.toList = ([48] : List UInt8) then (decimal_Lcm.j0 k a0 a1 true) else (decimal_Lcm.j0 k a0 a1 (a1.toList == ([48] : List UInt8)))) = some r := h; clear h; have HC3 := AS H; clear H; go_enter Tryz.func209, Tryz.ntmps209
 go_upto_region 1 with (fail)
 go_cut [13] (fun v13 wc => ∃ (kq : Nat) (x13_2 : Bool), v13 = .bool x13_2 ∧ Aside0 (decimal_Lcm.j0 kq a0 a1 x13_2 = some r) ∧ Aside0 (kq ≤ k) ∧ Aside0 (Below w.heap.size w wc))
 case first =>
  have H := HC3.out; clear HC3
  by_cases c4 : a0.toList = ([48] : List UInt8)
  ·rw [if_pos c4] at H
   have c4b0 : (a0.toList == ([48] : List UInt8)) = true := bqt c4; have c4b1 : (a0.toList != ([48] : List UInt8)) = false := bnf c4; clear c4
   (first | rw [c4b0] | (simp only [i64_w, i32_w]; rw [c4b0]) | skip)
   have H' := AS H; clear H; go_wp2; go_meet
   case rel => exact ⟨_, (true), Z4, H', ⟨Z61⟩, ⟨Z0⟩⟩
  ·rw [if_neg c4] at H
   have c4b0 : (a0.toList == ([48] : List UInt8)) = false := bqf c4; have c4b1 : (a0.toList != ([48] : List UInt8)) = true := bnt c4
   (first | rw [c4b0] | (simp only [i64_w, i32_w]; rw [c4b0]) | skip)
   have H' := AS H; clear H; go_wp2; go_meet
   case rel => exact ⟨_, ((a1.toList == ([48] : List UInt8))), Z4, H', ⟨Z61⟩, ⟨Z0⟩⟩
 case rest =>
  clear HC3; (try clear c2); (try clear p2); (try clear c4); (try clear c4b0); (try clear c4b1); obtain ⟨kq, x13_2, rfl, HA, HJ2, HB⟩ := hcut
  cases kq with
  | zero => exact absurd HA.out (by simp [decimal_Lcm.j0])
  | succ kj2 =>
   have H := HA.out; clear HA
   simp only [decimal_Lcm.j0] at H
   by_cases c5 : x13_2 = true
   ·subst c5
    rw [if_pos rfl] at H
    obtain rfl := Option.some.inj H; go_wp2; go_ret; exact ⟨Z3, Z0⟩
   ·replace c5 := Bool.eq_false_iff.mpr c5; subst c5
    rw [if_neg ffl] at H
    replace H := bsm H; obtain ⟨t239, A60, H⟩ := H; replace H : ((deDM.f kj2 a0 t239).bind fun bt240 => (if bt240.2.2 = 0 then ((deMu.f kj2 bt240.1 a1).bind fun t243 => (some t243)) else (some (⟨#[]⟩ : ByteArray)))) = some r := H; have A6 := AS A60; clear A60; replace H := bsm H; obtain ⟨⟨t240, t241, t242⟩, A70, H⟩ := H; replace H : (if t242 = 0 then ((deMu.f kj2 t240 a1).bind fun t243 => (some t243)) else (some (⟨#[]⟩ : ByteArray))) = some r := H; have A7 := AS A70; clear A70
    by_cases c8 : t242 = 0
    ·rw [if_pos c8] at H
     have c8b0 : (t242 == 0) = true := bqt c8; have c8b1 : (t242 != 0) = false := bnf c8; clear c8; replace H := bsm H; obtain ⟨t243, A90, H⟩ := H; replace H : (some t243) = some r := H; have A9 := AS A90; clear A90; obtain rfl := Option.some.inj H; go_wp2_with (first | ((with_reducible refine gtc (f := 125) rfl ?_); refine gsL (some 18) rfl rfl Tryz.func125 Z6 rfl #[.string a0, .string a1] rfl Z1 ?_; (with_reducible refine (deGc.calls kj2 a0 a1 t239 _ ?side1 A6.out).mono ?_); (case side1 => exact Z168); rintro e w10 ⟨rfl, hb⟩; refine ⟨_, rfl, ?_⟩; replace HB := AS (bst Z0 hb); (try clear hb)) | ((with_reducible refine gtc (f := 141) rfl ?_); refine gsL (some 19) rfl rfl Tryz.func141 Z6 rfl #[.string a0, .string t239] rfl Z1 ?_; (with_reducible refine (deDM.calls kj2 a0 t239 t240 t241 t242 _ ?side1 A7.out).mono ?_); (case side1 => exact Z168); rintro e w11 ⟨rfl, hb⟩; refine ⟨_, rfl, ?_⟩; replace HB := AS (bst Z0 hb); (try clear hb)) | ((with_reducible refine gtc (f := 44) rfl ?_); refine gsL (some 27) rfl rfl Tryz.func44 Z6 rfl #[.string t240, .string a1] rfl Z1 ?_; (with_reducible refine (deMu.calls kj2 t240 a1 t243 _ ?side1 A9.out).mono ?_); (case side1 => exact Z168); rintro e w12 ⟨rfl, hb⟩; refine ⟨_, rfl, ?_⟩; replace HB := AS (bst Z0 hb); (try clear hb))); go_ret; exact ⟨Z3, Z0⟩
    ·rw [if_neg c8] at H
     have c8b0 : (t242 == 0) = false := bqf c8; have c8b1 : (t242 != 0) = true := bnt c8; obtain rfl := Option.some.inj H; go_wp2_with (first | ((with_reducible refine gtc (f := 125) rfl ?_); refine gsL (some 18) rfl rfl Tryz.func125 Z6 rfl #[.string a0, .string a1] rfl Z1 ?_; (with_reducible refine (deGc.calls kj2 a0 a1 t239 _ ?side1 A6.out).mono ?_); (case side1 => exact Z168); rintro e w13 ⟨rfl, hb⟩; refine ⟨_, rfl, ?_⟩; replace HB := AS (bst Z0 hb); (try clear hb)) | ((with_reducible refine gtc (f := 141) rfl ?_); refine gsL (some 19) rfl rfl Tryz.func141 Z6 rfl #[.string a0, .string t239] rfl Z1 ?_; (with_reducible refine (deDM.calls kj2 a0 t239 t240 t241 t242 _ ?side1 A7.out).mono ?_); (case side1 => exact Z168); rintro e w14 ⟨rfl, hb⟩; refine ⟨_, rfl, ?_⟩; replace HB := AS (bst Z0 hb); (try clear hb))); go_ret; exact ⟨Z3, Z0⟩
def whole_Lcm.f (k : Nat) (a0 : ByteArray) (a1 : ByteArray) : Option (ByteArray) := (whole_Abs.f a0).bind fun t244 => ((whole_Abs.f a1).bind fun t245 => ((decimal_Lcm.f k t244 t245).bind fun t246 => (some t246)))
theorem whole_Lcm.mono : ∀ a0 a1 k, LeO (whole_Lcm.f k a0 a1) (whole_Lcm.f (k + 1) a0 a1) := by
 intro a0 a1 k; unfold whole_Lcm.f
 repeat' (with_reducible first | exact decimal_Lcm.mono _ _ _ | exact LeO.refl _ | exact LeO.none _ | refine LeO.ite ?_ ?_ | refine LeO.bind ?_ (fun _ => ?_))
theorem whole_Lcm.calls (k : Nat) (a0 : ByteArray) (a1 : ByteArray) (r : ByteArray) (w : World) (hG : GL w) (h : whole_Lcm.f k a0 a1 = some r) :
  Calls Tryz.prog 182 #[.string a0, .string a1] w fun e w' => e = .returned (.string r) ∧ Below w.heap.size w w' := by
 have HB := AS (blr w); have H : ((whole_Abs.f a0).bind fun t244 => ((whole_Abs.f a1).bind fun t245 => ((decimal_Lcm.f k t244 t245).bind fun t246 => (some t246)))) = some r := h; clear h; replace H := bsm H; obtain ⟨t244, A30, H⟩ := H; replace H : ((whole_Abs.f a1).bind fun t245 => ((decimal_Lcm.f k t244 t245).bind fun t246 => (some t246))) = some r := H; have A3 := AS A30; clear A30; replace H := bsm H; obtain ⟨t245, A40, H⟩ := H; replace H : ((decimal_Lcm.f k t244 t245).bind fun t246 => (some t246)) = some r := H; have A4 := AS A40; clear A40; replace H := bsm H; obtain ⟨t246, A50, H⟩ := H; replace H : (some t246) = some r := H; have A5 := AS A50; clear A50; obtain rfl := Option.some.inj H; go_enter Tryz.func182, Tryz.ntmps182; go_wp2_with (first | ((with_reducible refine gtc (f := 69) rfl ?_); refine gsL (some 6) rfl rfl Tryz.func69 Z6 rfl #[.string a0] rfl Z1 ?_; (with_reducible refine (whole_Abs.calls a0 t244 _ ?side1 A3.out).mono ?_); (case side1 => exact Z168); rintro e w' ⟨rfl, ⟨nd, rfl⟩⟩; refine ⟨_, rfl, ?_⟩) | ((with_reducible refine gtc (f := 69) rfl ?_); refine gsL (some 8) rfl rfl Tryz.func69 Z6 rfl #[.string a1] rfl Z1 ?_; (with_reducible refine (whole_Abs.calls a1 t245 _ ?side1 A4.out).mono ?_); (case side1 => exact Z168); rintro e w' ⟨rfl, ⟨nd, rfl⟩⟩; refine ⟨_, rfl, ?_⟩) | ((with_reducible refine gtc (f := 209) rfl ?_); refine gsL (some 9) rfl rfl Tryz.func209 Z6 rfl #[.string t244, .string t245] rfl Z1 ?_; (with_reducible refine (decimal_Lcm.calls k t244 t245 t246 _ ?side1 A5.out).mono ?_); (case side1 => exact Z168); rintro e w6 ⟨rfl, hb⟩; refine ⟨_, rfl, ?_⟩; replace HB := AS (bst Z0 hb); (try clear hb))); go_ret; exact ⟨Z3, Z0⟩

end Go.Proofs.YtkgkihichdcpmaaGreatDoor.H
