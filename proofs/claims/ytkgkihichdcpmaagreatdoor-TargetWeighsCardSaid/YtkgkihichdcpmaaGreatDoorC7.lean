import Derived.Test.YtkgkihichdcpmaaGreatDoorC6
import Derived.WalkLawsBesides
import Derived.Shelf.Abstract
namespace Go.Proofs.YtkgkihichdcpmaaGreatDoor.H
open Go.RowKit Go.Proofs.YtkgkihichdcpmaaGreatDoorW.PrintWords Go.Proofs.YtkgkihichdcpmaaGreatDoorW.PrintLast Go.Proofs.YtkgkihichdcpmaaGreatDoorW.PrintMore
attribute [local go_sem] max2_int min2_int max_two min_two max_three min_three max_four min_four
set_option linter.unusedVariables false
set_option linter.unusedSimpArgs false
def decimal_Bits.f (a0 : ByteArray) : Option (Int) := (decimal_Small.f a0).bind fun bt471 => (if bt471.2 = true then ((bits_Len64.f bt471.1).bind fun t473 => (some t473)) else (none))
set_option maxHeartbeats 8000000 in
set_option maxRecDepth 100000 in
theorem decimal_Bits.calls (a0 : ByteArray) (r : Int) (w : World) (hG : GL w) (h : decimal_Bits.f a0 = some r) :
  Calls Tryz.prog 105 #[.string a0] w fun e w' => e = .returned (.int .i64 r) ∧ Below w.heap.size w w' := by
 have HB := AS (Below.refl w.heap.size w); have H : ((decimal_Small.f a0).bind fun bt471 => (if bt471.2 = true then ((bits_Len64.f bt471.1).bind fun t473 => (some t473)) else (none))) = some r := h; clear h; replace H := Option.bind_eq_some_iff.mp H; obtain ⟨⟨t471, t472⟩, A20, H⟩ := H; replace H : (if t472 = true then ((bits_Len64.f t471).bind fun t473 => (some t473)) else (none)) = some r := H; have A2 := AS A20; clear A20
 by_cases c3 : t472 = true
 ·subst c3
  rw [if_pos rfl] at H
  replace H := Option.bind_eq_some_iff.mp H; obtain ⟨t473, A40, H⟩ := H; replace H : (some t473) = some r := H; have A4 := AS A40; clear A40; obtain rfl := Option.some.inj H; go_enter Tryz.func105, Tryz.ntmps105; go_wp2_with (first | ((with_reducible refine gtc (f := 107) rfl ?_); refine gsL (some 12) rfl rfl Tryz.func107 Z5 rfl #[.string a0] rfl Z1 ?_; (with_reducible refine (decimal_Small.calls a0 t471 true _ ?side1 A2.out).mono ?_); (case side1 => exact Z182); rintro e w5 ⟨rfl, hb⟩; refine ⟨_, rfl, ?_⟩; replace HB := AS (bst Z0 hb); (try clear hb); (try clear hb2); (try clear hk); (try clear hi)) | ((with_reducible refine gtc (f := 131) rfl ?_); refine gsL (some 17) rfl rfl Tryz.func131 Z5 rfl #[.int .u64 t471] rfl Z1 ?_; (with_reducible refine (bits_Len64.calls t471 t473 _ ?side1 A4.out).mono ?_); (case side1 => exact Z182); rintro e w6 ⟨rfl, hb⟩; refine ⟨_, rfl, ?_⟩; replace HB := AS (bst Z0 hb); (try clear hb); (try clear hb2); (try clear hk); (try clear hi))); go_ret; exact ⟨Z3, Z0⟩
 ·replace c3 := Bool.eq_false_iff.mpr c3; subst c3
  rw [if_neg (show ¬ (false = true) by decide)] at H
  exact absurd H (by simp)
mutual
def dePo.j0 : Nat → ByteArray → Int → Bool → Option (ByteArray × Int)
 | 0, _, _, _ => none
 | k + 1, x0, x1, x13 => if x13 = true then (some ((⟨#[49]⟩ : ByteArray), 0)) else (if x0.toList = ([48] : List UInt8) then (some ((⟨#[48]⟩ : ByteArray), 0)) else ((decimal_Bits.f x0).bind fun t474 => (if (wrap64 (t474 - 1)) = 0 then (none) else (if x1 > (wrap64 ((66439 : Int) / (wrap64 (t474 - 1)))) then (none) else ((decu.f x0).bind fun t478 => (dePo.l0 k x1 (([1] : List Int)) t478))))))
def dePo.l0 : Nat → Int → List Int → List Int → Option (ByteArray × Int)
 | 0, _, _, _ => none
 | k + 1, x1, x7, x8 => if x1 > 0 then (if (Go.bits .and .i64 x1 1) = 1 then ((dptm.f k x7 x8).bind fun t482 => (if x1 > 1 then ((dptm.f k x8 x8).bind fun t485 => (dePo.l0 k (x1 / 2) t482 t485)) else (dePo.l0 k (x1 / 2) t482 x8))) else (if x1 > 1 then ((dptm.f k x8 x8).bind fun t488 => (dePo.l0 k (x1 / 2) x7 t488)) else (dePo.l0 k (x1 / 2) x7 x8))) else ((dptx.f x7).bind fun t481 => (if (t481.size : Int) > 20000 then (none) else (some (t481, 0))))
end
def dePo.f (k : Nat) (a0 : ByteArray) (a1 : Int) : Option (ByteArray × Int) := if a1 < 0 then (none) else (if a1 = 0 then (dePo.j0 k a0 a1 true) else (dePo.j0 k a0 a1 (a0.toList == ([49] : List UInt8))))
set_option maxHeartbeats 8000000 in
set_option maxRecDepth 100000 in
theorem dePo.calls (k : Nat) (a0 : ByteArray) (a1 : Int) (r1 : ByteArray) (r2 : Int) (w : World) (hG : GL w) (h : dePo.f k a0 a1 = some (r1, r2)) :
  Calls Tryz.prog 78 #[.string a0, .int .i64 a1] w fun e w' => e = .returned (.tuple #[.string r1, .int .i64 r2]) ∧ Below w.heap.size w w' := by
 have htd_ : ∀ x : Int, Int.tdiv 66439 x = 66439 / x := fun x => Int.tdiv_eq_ediv_of_nonneg (by decide)
 have HB := AS (Below.refl w.heap.size w); have H : (if a1 < 0 then (none) else (if a1 = 0 then (dePo.j0 k a0 a1 true) else (dePo.j0 k a0 a1 (a0.toList == ([49] : List UInt8))))) = some (r1, r2) := h; clear h
 by_cases c3 : a1 < 0
 ·rw [if_pos c3] at H
  exact absurd H (by simp)
 ·rw [if_neg c3] at H
  have c3b0 : decide (a1 < 0) = false := decide_eq_false c3; clear c3; have HC4 := AS H; clear H; go_enter Tryz.func78, Tryz.ntmps78
  go_upto_region 3 with (fail)
  go_cut [13] (fun v13 wc => ∃ (kq : Nat) (x13_3 : Bool), v13 = .bool x13_3 ∧ Aside0 (dePo.j0 kq a0 a1 x13_3 = some (r1, r2)) ∧ Aside0 (kq ≤ k) ∧ Aside0 (Below w.heap.size w wc))
  case first =>
   have H := HC4.out; clear HC4
   by_cases c5 : a1 = 0
   ·rw [if_pos c5] at H
    have c5b0 : (a1 == 0) = true := beq_iff_eq.mpr c5; have c5b1 : (a1 != 0) = false := bne_eq_false_iff_eq.mpr c5; clear c5
    (first | rw [c5b0] | (simp only [i64_w, i32_w]; rw [c5b0]) | skip)
    have H' := AS H; clear H; go_wp2; go_meet
    case rel => exact ⟨_, (true), Z4, H', ⟨Z61⟩, ⟨Z0⟩⟩
   ·rw [if_neg c5] at H
    have c5b0 : (a1 == 0) = false := beq_eq_false_iff_ne.mpr c5; have c5b1 : (a1 != 0) = true := bne_iff_ne.mpr c5
    (first | rw [c5b0] | (simp only [i64_w, i32_w]; rw [c5b0]) | skip)
    have H' := AS H; clear H; go_wp2; go_meet
    case rel => exact ⟨_, ((a0.toList == ([49] : List UInt8))), Z4, H', ⟨Z61⟩, ⟨Z0⟩⟩
  case rest =>
   clear HC4; (try clear p2); (try clear c3); (try clear c3b0); (try clear c5); (try clear c5b0); (try clear c5b1); obtain ⟨kq, x13_3, rfl, HA, HJ3, HB⟩ := hcut
   cases kq with
   | zero => exact absurd HA.out (by simp [dePo.j0])
   | succ kj3 =>
    have H := HA.out; clear HA
    simp only [dePo.j0] at H
    by_cases c6 : x13_3 = true
    ·subst c6
     rw [if_pos rfl] at H
     simp only [Option.some.injEq, Prod.mk.injEq] at H
     obtain ⟨rfl, rfl⟩ := H; go_wp2; go_ret2; exact ⟨Z3, Z0⟩
    ·replace c6 := Bool.eq_false_iff.mpr c6; subst c6
     rw [if_neg (show ¬ (false = true) by decide)] at H
     by_cases c7 : a0.toList = ([48] : List UInt8)
     ·rw [if_pos c7] at H
      have c7b0 : (a0.toList == ([48] : List UInt8)) = true := beq_iff_eq.mpr c7; have c7b1 : (a0.toList != ([48] : List UInt8)) = false := bne_eq_false_iff_eq.mpr c7; clear c7
      simp only [Option.some.injEq, Prod.mk.injEq] at H
      obtain ⟨rfl, rfl⟩ := H; go_wp2; go_ret2; exact ⟨Z3, Z0⟩
     ·rw [if_neg c7] at H
      have c7b0 : (a0.toList == ([48] : List UInt8)) = false := beq_eq_false_iff_ne.mpr c7; have c7b1 : (a0.toList != ([48] : List UInt8)) = true := bne_iff_ne.mpr c7; replace H := Option.bind_eq_some_iff.mp H; obtain ⟨t474, A80, H⟩ := H; replace H : (if (wrap64 (t474 - 1)) = 0 then (none) else (if a1 > (wrap64 ((66439 : Int) / (wrap64 (t474 - 1)))) then (none) else ((decu.f a0).bind fun t478 => (dePo.l0 kj3 a1 (([1] : List Int)) t478)))) = some (r1, r2) := H; have A8 := AS A80; clear A80
      by_cases c9 : (wrap64 (t474 - 1)) = 0
      ·rw [if_pos c9] at H
       exact absurd H (by simp)
      ·rw [if_neg c9] at H
       have c9b0 : ((wrap64 (t474 - 1)) == 0) = false := beq_eq_false_iff_ne.mpr c9; have c9b1 : ((wrap64 (t474 - 1)) != 0) = true := bne_iff_ne.mpr c9
       by_cases c10 : a1 > (wrap64 ((66439 : Int) / (wrap64 (t474 - 1))))
       ·rw [if_pos c10] at H
        exact absurd H (by simp)
       ·rw [if_neg c10] at H
        have c10b0 : decide ((wrap64 ((66439 : Int) / (wrap64 (t474 - 1)))) < a1) = false := decide_eq_false c10; clear c10
        obtain ⟨y475, hy475⟩ : ∃ y_ : List Int, y_ = (([1] : List Int)) := ⟨_, rfl⟩
        replace H : ((decu.f a0).bind fun t478 => (dePo.l0 kj3 a1 y475 t478)) = some (r1, r2) := by first | (rw [hy475]; with_reducible exact H) | (have H2_ := (Option.bind_some _ _).symm.trans H; rw [hy475]; with_reducible exact H2_) | (have H2_ := (Option.bind_some _ _).symm.trans H; with_reducible exact H2_) | with_reducible exact H | (rw [hy475]; exact H) | exact H
        have Ny475 := AS hy475; clear hy475; replace H := Option.bind_eq_some_iff.mp H; obtain ⟨t478, A110, H⟩ := H; replace H : (dePo.l0 kj3 a1 y475 t478) = some (r1, r2) := H; have A11 := AS A110; clear A110; have H' := AS H; clear H; go_wp2_with (first | ((with_reducible refine gtc (f := 105) rfl ?_); refine gsL (some 24) rfl rfl Tryz.func105 Z5 rfl #[.string a0] rfl Z1 ?_; (with_reducible refine (decimal_Bits.calls a0 t474 _ ?side1 A8.out).mono ?_); (case side1 => exact Z182); rintro e w12 ⟨rfl, hb⟩; refine ⟨_, rfl, ?_⟩; replace HB := AS (bst Z0 hb); (try clear hb); (try clear hb2); (try clear hk); (try clear hi)) | ((with_reducible refine gtd (N := 30) rfl ?_); refine Kd.R_lit (Kd.int .u64) _ 109 ?hg (N := 30) ?hd (xs := ([1] : List Int)) (inner := [.int .u64 1]) (ok := fun _ => True) (okp := fun _ => True) ?hr ?hp (fun _ hk => hk) trivial (Below.refl _ _) (Nat.le_refl _) (by simp) ?_; (case hd => rfl); (case hg => rfl); (case hr => exact Z11); (case hp => exact (Reps.one (show Kd.M (Kd.int .u64) _ _ _ 1 [.int .u64 1] from rfl) (Reps.none _ _))); intro v476 w13 ho14 hb hg_ hnew_; clear hg_ hnew_; (first | rw [← Ny475.out] at ho14 | (simp only [Int.reduceToNat] at ho14; rw [← Ny475.out] at ho14)); have HO477 := AS (Kd.R_lower ho14 (bsz Z0)); replace HB := AS (bst Z0 hb); clear hb ho14) | ((with_reducible refine gtc (f := 81) rfl ?_); refine gsL (some 32) rfl rfl Tryz.func81 Z5 rfl #[.string a0] rfl Z1 ?_; (with_reducible refine (decu.calls a0 t478 _ ?side1 A11.out).mono ?_); (case side1 => exact Z182); rintro e w15 ⟨v479, rfl, ho0, hb⟩; refine ⟨_, rfl, ?_⟩; have HO480 := AS (Kd.V_lower (Kd.V_mono (ok' := fun k_ => some k_ ≠ (v476 : Value).ownBlock) ho0 (fun k_ hk_ => (Kd.fresh' (Kd.R_lt Z135) k_ hk_))) (bsz Z0)); replace HO477 := AS (Kd.R_below Z135 hb); replace HB := AS (bst Z0 hb); (try clear hb); (try clear hb2); (try clear hk); (try clear hi); (try clear ho0)))
        go_loopg [1, 7, 8] kj3 (fun kq v1 v7 v8 w' => ∃ (x1_2 : Int) (x7_2 : List Int) (x8_2 : List Int), v1 = .int .i64 x1_2 ∧ Aside0 (dePo.l0 kq x1_2 x7_2 x8_2 = some (r1, r2)) ∧ Aside0 (kq ≤ kj3) ∧ Aside0 (Kd.V (Kd.int .u64) 109 w' w.heap.size (fun _ => True) v7 x7_2) ∧ Aside0 (Kd.V (Kd.int .u64) 109 w' w.heap.size (fun _ => True) v8 x8_2) ∧ Aside0 (Below w.heap.size w w'))
        case atStart => exact ⟨(a1), (y475), (t478), Z4, H', ⟨Nat.le_refl _⟩, ⟨Kd.R_V Z135⟩, ⟨by (with_reducible repeat (first | apply Kd.V_alloc | apply Kd.V_drewN | apply Kd.V_drew)); exact Kd.V_mono HO480.out (fun _ hk => trivial)⟩, ⟨Z0⟩⟩
        case round =>
         clear H'; (try clear c1); (try clear p2); (try clear c3); (try clear c3b0); (try clear c5); (try clear c5b0); (try clear c5b1); (try clear c6); (try clear p6); (try clear c7); (try clear c7b0); (try clear c7b1); (try clear c8); (try clear c9); (try clear c9b0); (try clear c9b1); (try clear c10); (try clear c10b0); (try clear p2); obtain ⟨x1_2, x7_2, x8_2, rfl, HA, HK2, HO_7, HO_8, HB⟩ := hrel
         cases gk with
         | zero => exact absurd HA.out (by simp [dePo.l0])
         | succ k2 =>
          have H := HA.out; clear HA
          simp only [dePo.l0] at H
          by_cases c16 : x1_2 > 0
          ·rw [if_pos c16] at H
           have c16b0 : decide (0 < x1_2) = true := decide_eq_true c16; clear c16
           by_cases c17 : (Go.bits .and .i64 x1_2 1) = 1
           ·rw [if_pos c17] at H
            have c17b0 : ((Go.bits .and .i64 x1_2 1) == 1) = true := beq_iff_eq.mpr c17; have c17b1 : ((Go.bits .and .i64 x1_2 1) != 1) = false := bne_eq_false_iff_eq.mpr c17; clear c17; replace H := Option.bind_eq_some_iff.mp H; obtain ⟨t482, A180, H⟩ := H; replace H : (if x1_2 > 1 then ((dptm.f k2 x8_2 x8_2).bind fun t485 => (dePo.l0 k2 (x1_2 / 2) t482 t485)) else (dePo.l0 k2 (x1_2 / 2) t482 x8_2)) = some (r1, r2) := H; have A18 := AS A180; clear A180
            by_cases c19 : x1_2 > 1
            ·rw [if_pos c19] at H
             have c19b0 : decide (1 < x1_2) = true := decide_eq_true c19; clear c19; replace H := Option.bind_eq_some_iff.mp H; obtain ⟨t485, A200, H⟩ := H; replace H : (dePo.l0 k2 (x1_2 / 2) t482 t485) = some (r1, r2) := H; have A20 := AS A200; clear A200; have H' := AS H; clear H; obtain ⟨Ao21, co21, eo21⟩ := Kd.V_slice HO_7.out; subst eo21; obtain ⟨Ao22, co22, eo22⟩ := Kd.V_slice HO_8.out; subst eo22; go_wp2_with (first | ((with_reducible refine gtc (f := 82) rfl ?_); refine gsL (some 42) rfl rfl Tryz.func82 Z5 rfl #[.slice Ao21 x7_2.length co21, .slice Ao22 x8_2.length co22] rfl Z1 ?_; (with_reducible refine (dptm.calls k2 _ _ x7_2 _ _ x8_2 t482 _ ?side1 ?side2 ?side3 ?side4 ?side5 A18.out).mono ?_); (case side1 => exact Z108); (case side2 => exact Z177); (case side3 => exact Z55); (case side4 => exact Z159); (case side5 => exact Z182); rintro e w23 ⟨v483, rfl, ho0, hb⟩; refine ⟨_, rfl, ?_⟩; have HO484 := AS (Kd.V_lower (Kd.V_mono (ok' := fun k_ => True) ho0 (fun k_ hk_ => trivial)) (bsz Z0)); replace HO_7 := AS (Kd.V_below Z74 hb); replace HO_8 := AS (Kd.V_below Z75 hb); replace HB := AS (bst Z0 hb); (try clear hb); (try clear hb2); (try clear hk); (try clear hi); (try clear ho0)) | ((with_reducible refine gtc (f := 82) rfl ?_); refine gsL (some 47) rfl rfl Tryz.func82 Z5 rfl #[.slice Ao22 x8_2.length co22, .slice Ao22 x8_2.length co22] rfl Z1 ?_; (with_reducible refine (dptm.calls k2 _ _ x8_2 _ _ x8_2 t485 _ ?side1 ?side2 ?side3 ?side4 ?side5 A20.out).mono ?_); (case side1 => exact Z55); (case side2 => exact Z159); (case side3 => exact Z55); (case side4 => exact Z159); (case side5 => exact Z182); rintro e w24 ⟨v486, rfl, ho0, hb⟩; refine ⟨_, rfl, ?_⟩; have HO487 := AS (Kd.V_lower (Kd.V_mono (ok' := fun k_ => True) ho0 (fun k_ hk_ => trivial)) (bsz Z0)); replace HO_7 := AS (Kd.V_below Z74 hb); replace HO_8 := AS (Kd.V_below Z75 hb); replace HO484 := AS (Kd.V_below Z136 hb); replace HB := AS (bst Z0 hb); (try clear hb); (try clear hb2); (try clear hk); (try clear hi); (try clear ho0)))
             go_roundg k2
             case measure => have := HJ3.out; have := HK2.out; omega
             case rel => exact ⟨(x1_2 / 2), (t482), (t485), Z4, H', ⟨Z165⟩, ⟨Z136⟩, ⟨by (with_reducible repeat (first | apply Kd.V_alloc | apply Kd.V_drewN | apply Kd.V_drew)); exact HO487.out⟩, ⟨Z0⟩⟩
            ·rw [if_neg c19] at H
             have c19b0 : decide (1 < x1_2) = false := decide_eq_false c19; clear c19; have H' := AS H; clear H; obtain ⟨Ao25, co25, eo25⟩ := Kd.V_slice HO_7.out; subst eo25; obtain ⟨Ao26, co26, eo26⟩ := Kd.V_slice HO_8.out; subst eo26; go_wp2_with (first | ((with_reducible refine gtc (f := 82) rfl ?_); refine gsL (some 42) rfl rfl Tryz.func82 Z5 rfl #[.slice Ao25 x7_2.length co25, .slice Ao26 x8_2.length co26] rfl Z1 ?_; (with_reducible refine (dptm.calls k2 _ _ x7_2 _ _ x8_2 t482 _ ?side1 ?side2 ?side3 ?side4 ?side5 A18.out).mono ?_); (case side1 => exact Z108); (case side2 => exact Z177); (case side3 => exact Z55); (case side4 => exact Z159); (case side5 => exact Z182); rintro e w27 ⟨v483, rfl, ho0, hb⟩; refine ⟨_, rfl, ?_⟩; have HO484 := AS (Kd.V_lower (Kd.V_mono (ok' := fun k_ => True) ho0 (fun k_ hk_ => trivial)) (bsz Z0)); replace HO_7 := AS (Kd.V_below Z74 hb); replace HO_8 := AS (Kd.V_below Z75 hb); replace HB := AS (bst Z0 hb); (try clear hb); (try clear hb2); (try clear hk); (try clear hi); (try clear ho0)))
             go_roundg k2
             case measure => have := HJ3.out; have := HK2.out; omega
             case rel => exact ⟨(x1_2 / 2), (t482), (x8_2), Z4, H', ⟨Z165⟩, ⟨Z136⟩, ⟨Z75⟩, ⟨Z0⟩⟩
           ·rw [if_neg c17] at H
            have c17b0 : ((Go.bits .and .i64 x1_2 1) == 1) = false := beq_eq_false_iff_ne.mpr c17; have c17b1 : ((Go.bits .and .i64 x1_2 1) != 1) = true := bne_iff_ne.mpr c17
            by_cases c28 : x1_2 > 1
            ·rw [if_pos c28] at H
             have c28b0 : decide (1 < x1_2) = true := decide_eq_true c28; clear c28; replace H := Option.bind_eq_some_iff.mp H; obtain ⟨t488, A290, H⟩ := H; replace H : (dePo.l0 k2 (x1_2 / 2) x7_2 t488) = some (r1, r2) := H; have A29 := AS A290; clear A290; have H' := AS H; clear H; obtain ⟨Ao30, co30, eo30⟩ := Kd.V_slice HO_8.out; subst eo30; go_wp2_with (first | ((with_reducible refine gtc (f := 82) rfl ?_); refine gsL (some 47) rfl rfl Tryz.func82 Z5 rfl #[.slice Ao30 x8_2.length co30, .slice Ao30 x8_2.length co30] rfl Z1 ?_; (with_reducible refine (dptm.calls k2 _ _ x8_2 _ _ x8_2 t488 _ ?side1 ?side2 ?side3 ?side4 ?side5 A29.out).mono ?_); (case side1 => exact Z55); (case side2 => exact Z159); (case side3 => exact Z55); (case side4 => exact Z159); (case side5 => exact Z182); rintro e w31 ⟨v489, rfl, ho0, hb⟩; refine ⟨_, rfl, ?_⟩; have HO490 := AS (Kd.V_lower (Kd.V_mono (ok' := fun k_ => True) ho0 (fun k_ hk_ => trivial)) (bsz Z0)); replace HO_7 := AS (Kd.V_below Z74 hb); replace HO_8 := AS (Kd.V_below Z75 hb); replace HB := AS (bst Z0 hb); (try clear hb); (try clear hb2); (try clear hk); (try clear hi); (try clear ho0)))
             go_roundg k2
             case measure => have := HJ3.out; have := HK2.out; omega
             case rel => exact ⟨(x1_2 / 2), (x7_2), (t488), Z4, H', ⟨Z165⟩, ⟨Z74⟩, ⟨by (with_reducible repeat (first | apply Kd.V_alloc | apply Kd.V_drewN | apply Kd.V_drew)); exact HO490.out⟩, ⟨Z0⟩⟩
            ·rw [if_neg c28] at H
             have c28b0 : decide (1 < x1_2) = false := decide_eq_false c28; clear c28; have H' := AS H; clear H; go_wp2
             go_roundg k2
             case measure => have := HJ3.out; have := HK2.out; omega
             case rel => exact ⟨(x1_2 / 2), (x7_2), (x8_2), Z4, H', ⟨Z165⟩, ⟨Z74⟩, ⟨Z75⟩, ⟨Z0⟩⟩
          ·rw [if_neg c16] at H
           have c16b0 : decide (0 < x1_2) = false := decide_eq_false c16; clear c16; replace H := Option.bind_eq_some_iff.mp H; obtain ⟨t481, A320, H⟩ := H; replace H : (if (t481.size : Int) > 20000 then (none) else (some (t481, 0))) = some (r1, r2) := H; have A32 := AS A320; clear A320
           by_cases c33 : (t481.size : Int) > 20000
           ·rw [if_pos c33] at H
            exact absurd H (by simp)
           ·rw [if_neg c33] at H
            have c33b0 : decide (20000 < (t481.size : Int)) = false := decide_eq_false c33; have c33b1 : decide (20000 < t481.size) = false := decide_eq_false (by omega); clear c33
            simp only [Option.some.injEq, Prod.mk.injEq] at H
            obtain ⟨rfl, rfl⟩ := H; obtain ⟨Ao34, co34, eo34⟩ := Kd.V_slice HO_7.out; subst eo34; go_wp2_with (first | ((with_reducible refine gtc (f := 83) rfl ?_); refine gsL (some 49) rfl rfl Tryz.func83 Z5 rfl #[.slice Ao34 x7_2.length co34] rfl Z1 ?_; (with_reducible refine (dptx.calls _ _ x7_2 t481 _ ?side1 ?side2 ?side3 A32.out).mono ?_); (case side1 => exact Z108); (case side2 => exact Z177); (case side3 => exact Z182); rintro e w35 ⟨rfl, hb⟩; refine ⟨_, rfl, ?_⟩; replace HO_7 := AS (Kd.V_below Z74 hb); replace HO_8 := AS (Kd.V_below Z75 hb); replace HB := AS (bst Z0 hb); (try clear hb); (try clear hb2); (try clear hk); (try clear hi))); go_ret2; exact ⟨Z3, Z0⟩
def mzsi.l0 : Nat → List Int → ByteArray → ByteArray → List Int → Int → Int → Option (ByteArray × ByteArray)
 | 0, _, _, _, _, _, _ => none
 | k + 1, x0, x4, x5, x10, x11, x12 => if x12 < x11 then (if 0 ≤ x12 then (if x12 < (x10.length : Int) then (if x12 < (x0.length : Int) then ((decimal_Of.f (IntKind.u64.wrap (rd x0 x12))).bind fun t493 => ((dePo.f k t493 (mx (rd x10 x12) (wrap64 (-(rd x10 x12))))).bind fun bt494 => (if (rd x10 x12) > 0 then ((deMu.f k x4 bt494.1).bind fun t496 => (mzsi.l0 k x0 t496 x5 x10 x11 (wrap64 (x12 + 1)))) else ((deMu.f k x5 bt494.1).bind fun t497 => (mzsi.l0 k x0 x4 t497 x10 x11 (wrap64 (x12 + 1))))))) else (none)) else (none)) else (none)) else (some (x4, x5))
def mzsi.f (k : Nat) (l0 : List Int) (l1 : List Int) : Option (ByteArray × ByteArray) := mzsi.l0 k l0 (⟨#[49]⟩ : ByteArray) (⟨#[49]⟩ : ByteArray) l1 (l1.length : Int) 0
set_option maxHeartbeats 8000000 in
set_option maxRecDepth 100000 in
theorem mzsi.calls (k : Nat) (A0 : Option Addr) (c0 : Nat) (l0 : List Int) (A1 : Option Addr) (c1 : Nat) (l1 : List Int) (r1 : ByteArray) (r2 : ByteArray) (w : World) (hr0 : Kd.C (Kd.int .i64) w A0 l0.length l0) (hc0 : l0.length ≤ c0) (hr1 : Kd.C (Kd.int .i64) w A1 l1.length l1) (hc1 : l1.length ≤ c1) (hG : GL w) (h : mzsi.f k l0 l1 = some (r1, r2)) :
  Calls Tryz.prog 42 #[.slice A0 l0.length c0, .slice A1 l1.length c1] w fun e w' => e = .returned (.tuple #[.string r1, .string r2]) ∧ Below w.heap.size w w' := by
 have HR0 := AS hr0; have HC0 := AS hc0; clear hr0 hc0; have HR1 := AS hr1; have HC1 := AS hc1; clear hr1 hc1; have HB := AS (Below.refl w.heap.size w); have H : (mzsi.l0 k l0 (⟨#[49]⟩ : ByteArray) (⟨#[49]⟩ : ByteArray) l1 (l1.length : Int) 0) = some (r1, r2) := h; clear h; have H' := AS H; clear H; go_enter Tryz.func42, Tryz.ntmps42; go_wp2
 go_loopg [4, 5, 12] k (fun kq v4 v5 v12 w' => ∃ (x4_1 : ByteArray) (x5_1 : ByteArray) (x12_1 : Int), v4 = .string x4_1 ∧ v5 = .string x5_1 ∧ v12 = .int .i64 x12_1 ∧ Aside0 (mzsi.l0 kq l0 x4_1 x5_1 l1 (l1.length : Int) x12_1 = some (r1, r2)) ∧ Aside0 (kq ≤ k) ∧ Aside0 (Below w.heap.size w w'))
 case atStart => exact ⟨((⟨#[49]⟩ : ByteArray)), ((⟨#[49]⟩ : ByteArray)), (0), Z4, Z4, Z4, H', ⟨Nat.le_refl _⟩, ⟨Z0⟩⟩
 case round =>
  clear H'; (try clear c1); (try clear p2); obtain ⟨x4_1, x5_1, x12_1, rfl, rfl, rfl, HA, HK1, HB⟩ := hrel
  cases gk with
  | zero => exact absurd HA.out (by simp [mzsi.l0])
  | succ k1 =>
   have H := HA.out; clear HA
   simp only [mzsi.l0] at H
   by_cases c3 : x12_1 < (l1.length : Int)
   ·rw [if_pos c3] at H
    have c3b0 : decide (x12_1 < (l1.length : Int)) = true := decide_eq_true c3; clear c3
    by_cases c4 : 0 ≤ x12_1
    ·rw [if_pos c4] at H
     have c4b0 : decide (0 ≤ x12_1) = true := decide_eq_true c4; clear c4
     by_cases c5 : x12_1 < (l1.length : Int)
     ·rw [if_pos c5] at H
      have c5b0 : decide (x12_1 < (l1.length : Int)) = true := decide_eq_true c5; clear c5
      by_cases c6 : x12_1 < (l0.length : Int)
      ·rw [if_pos c6] at H
       have c6b0 : decide (x12_1 < (l0.length : Int)) = true := decide_eq_true c6; clear c6; replace H := Option.bind_eq_some_iff.mp H; obtain ⟨t493, A70, H⟩ := H; replace H : ((dePo.f k1 t493 (mx (rd l1 x12_1) (wrap64 (-(rd l1 x12_1))))).bind fun bt494 => (if (rd l1 x12_1) > 0 then ((deMu.f k1 x4_1 bt494.1).bind fun t496 => (mzsi.l0 k1 l0 t496 x5_1 l1 (l1.length : Int) (wrap64 (x12_1 + 1)))) else ((deMu.f k1 x5_1 bt494.1).bind fun t497 => (mzsi.l0 k1 l0 x4_1 t497 l1 (l1.length : Int) (wrap64 (x12_1 + 1)))))) = some (r1, r2) := H; have A7 := AS A70; clear A70
       obtain ⟨ji8, hji8⟩ : ∃ j_ : Int, (mx (rd l1 x12_1) (wrap64 (-(rd l1 x12_1)))) = j_ := ⟨_, rfl⟩
       replace H : ((dePo.f k1 t493 (ji8)).bind fun bt494 => (if (rd l1 x12_1) > 0 then ((deMu.f k1 x4_1 bt494.1).bind fun t496 => (mzsi.l0 k1 l0 t496 x5_1 l1 (l1.length : Int) (wrap64 (x12_1 + 1)))) else ((deMu.f k1 x5_1 bt494.1).bind fun t497 => (mzsi.l0 k1 l0 x4_1 t497 l1 (l1.length : Int) (wrap64 (x12_1 + 1)))))) = some (r1, r2) := by first | (rw [hji8] at H; exact H) | (simp only [hji8] at H ⊢; exact H)
       (try rw [hji8] at A7)
       have hji8_ : (if (rd l1 x12_1) < (wrap64 (-(rd l1 x12_1))) then (wrap64 (-(rd l1 x12_1))) else (rd l1 x12_1)) = ji8 := hji8; replace H := Option.bind_eq_some_iff.mp H; obtain ⟨⟨t494, t495⟩, A90, H⟩ := H; replace H : (if (rd l1 x12_1) > 0 then ((deMu.f k1 x4_1 t494).bind fun t496 => (mzsi.l0 k1 l0 t496 x5_1 l1 (l1.length : Int) (wrap64 (x12_1 + 1)))) else ((deMu.f k1 x5_1 t494).bind fun t497 => (mzsi.l0 k1 l0 x4_1 t497 l1 (l1.length : Int) (wrap64 (x12_1 + 1))))) = some (r1, r2) := H; have A9 := AS A90; clear A90
       by_cases c10 : (rd l1 x12_1) > 0
       ·rw [if_pos c10] at H
        have c10b0 : decide (0 < (rd l1 x12_1)) = true := decide_eq_true c10; clear c10; replace H := Option.bind_eq_some_iff.mp H; obtain ⟨t496, A110, H⟩ := H; replace H : (mzsi.l0 k1 l0 t496 x5_1 l1 (l1.length : Int) (wrap64 (x12_1 + 1))) = some (r1, r2) := H; have A11 := AS A110; clear A110; have H' := AS H; clear H; have p491 : 0 ≤ (x12_1 : Int) := of_decide_eq_true Z2; have q491 : x12_1 < (l1.length : Int) := of_decide_eq_true Z2; obtain ⟨ad491, e491, hx491_0⟩ := Kd.at_int HR1.out x12_1 p491 q491; cases e491; replace hx491_0 := (HB.out.cell (World.block_lt_of_cell? w _ hx491_0)).trans hx491_0; replace p491 := eq_true p491; replace q491 := eq_true q491; have p492 : 0 ≤ (x12_1 : Int) := of_decide_eq_true Z2; have q492 : x12_1 < (l0.length : Int) := of_decide_eq_true Z2; obtain ⟨ad492, e492, hx492_0⟩ := Kd.at_int HR0.out x12_1 p492 q492; cases e492; replace hx492_0 := (HB.out.cell (World.block_lt_of_cell? w _ hx492_0)).trans hx492_0; replace p492 := eq_true p492; replace q492 := eq_true q492; go_wp2_with (first | ((with_reducible refine gtc (f := 79) rfl ?_); refine gsL (some 23) rfl rfl Tryz.func79 Z5 rfl #[.int .u64 (IntKind.u64.wrap (rd l0 x12_1))] rfl Z1 ?_; (with_reducible refine (decimal_Of.calls (IntKind.u64.wrap (rd l0 x12_1)) t493 _ ?side1 A7.out).mono ?_); (case side1 => exact Z182); rintro e w12 ⟨rfl, hb⟩; refine ⟨_, rfl, ?_⟩; replace HB := AS (bst Z0 hb); (try clear hb); (try clear hb2); (try clear hk); (try clear hi)) | ((with_reducible refine gtc (f := 78) rfl ?_); refine gsL (some 28) rfl rfl Tryz.func78 Z5 rfl #[.string t493, .int .i64 ji8] rfl Z131 ?_; (with_reducible refine (dePo.calls k1 t493 ji8 t494 t495 _ ?side1 A9.out).mono ?_); (case side1 => exact Z182); rintro e w13 ⟨rfl, hb⟩; refine ⟨_, rfl, ?_⟩; replace HB := AS (bst Z0 hb); (try clear hb); (try clear hb2); (try clear hk); (try clear hi)) | ((with_reducible refine gtc (f := 44) rfl ?_); refine gsL (some 35) rfl rfl Tryz.func44 Z5 rfl #[.string x4_1, .string t494] rfl Z1 ?_; (with_reducible refine (deMu.calls k1 x4_1 t494 t496 _ ?side1 A11.out).mono ?_); (case side1 => exact Z182); rintro e w14 ⟨rfl, hb⟩; refine ⟨_, rfl, ?_⟩; replace HB := AS (bst Z0 hb); (try clear hb); (try clear hb2); (try clear hk); (try clear hi)))
        go_roundg k1
        case measure => have := HK1.out; omega
        case rel => exact ⟨(t496), (x5_1), (wrap64 (x12_1 + 1)), Z4, Z4, Z4, H', ⟨Z88⟩, ⟨Z0⟩⟩
       ·rw [if_neg c10] at H
        have c10b0 : decide (0 < (rd l1 x12_1)) = false := decide_eq_false c10; clear c10; replace H := Option.bind_eq_some_iff.mp H; obtain ⟨t497, A150, H⟩ := H; replace H : (mzsi.l0 k1 l0 x4_1 t497 l1 (l1.length : Int) (wrap64 (x12_1 + 1))) = some (r1, r2) := H; have A15 := AS A150; clear A150; have H' := AS H; clear H; have p491 : 0 ≤ (x12_1 : Int) := of_decide_eq_true Z2; have q491 : x12_1 < (l1.length : Int) := of_decide_eq_true Z2; obtain ⟨ad491, e491, hx491_0⟩ := Kd.at_int HR1.out x12_1 p491 q491; cases e491; replace hx491_0 := (HB.out.cell (World.block_lt_of_cell? w _ hx491_0)).trans hx491_0; replace p491 := eq_true p491; replace q491 := eq_true q491; have p492 : 0 ≤ (x12_1 : Int) := of_decide_eq_true Z2; have q492 : x12_1 < (l0.length : Int) := of_decide_eq_true Z2; obtain ⟨ad492, e492, hx492_0⟩ := Kd.at_int HR0.out x12_1 p492 q492; cases e492; replace hx492_0 := (HB.out.cell (World.block_lt_of_cell? w _ hx492_0)).trans hx492_0; replace p492 := eq_true p492; replace q492 := eq_true q492; go_wp2_with (first | ((with_reducible refine gtc (f := 79) rfl ?_); refine gsL (some 23) rfl rfl Tryz.func79 Z5 rfl #[.int .u64 (IntKind.u64.wrap (rd l0 x12_1))] rfl Z1 ?_; (with_reducible refine (decimal_Of.calls (IntKind.u64.wrap (rd l0 x12_1)) t493 _ ?side1 A7.out).mono ?_); (case side1 => exact Z182); rintro e w16 ⟨rfl, hb⟩; refine ⟨_, rfl, ?_⟩; replace HB := AS (bst Z0 hb); (try clear hb); (try clear hb2); (try clear hk); (try clear hi)) | ((with_reducible refine gtc (f := 78) rfl ?_); refine gsL (some 28) rfl rfl Tryz.func78 Z5 rfl #[.string t493, .int .i64 ji8] rfl Z131 ?_; (with_reducible refine (dePo.calls k1 t493 ji8 t494 t495 _ ?side1 A9.out).mono ?_); (case side1 => exact Z182); rintro e w17 ⟨rfl, hb⟩; refine ⟨_, rfl, ?_⟩; replace HB := AS (bst Z0 hb); (try clear hb); (try clear hb2); (try clear hk); (try clear hi)) | ((with_reducible refine gtc (f := 44) rfl ?_); refine gsL (some 38) rfl rfl Tryz.func44 Z5 rfl #[.string x5_1, .string t494] rfl Z1 ?_; (with_reducible refine (deMu.calls k1 x5_1 t494 t497 _ ?side1 A15.out).mono ?_); (case side1 => exact Z182); rintro e w18 ⟨rfl, hb⟩; refine ⟨_, rfl, ?_⟩; replace HB := AS (bst Z0 hb); (try clear hb); (try clear hb2); (try clear hk); (try clear hi)))
        go_roundg k1
        case measure => have := HK1.out; omega
        case rel => exact ⟨(x4_1), (t497), (wrap64 (x12_1 + 1)), Z4, Z4, Z4, H', ⟨Z88⟩, ⟨Z0⟩⟩
      ·rw [if_neg c6] at H
       exact absurd H (by simp)
     ·rw [if_neg c5] at H
      exact absurd H (by simp)
    ·rw [if_neg c4] at H
     exact absurd H (by simp)
   ·rw [if_neg c3] at H
    have c3b0 : decide (x12_1 < (l1.length : Int)) = false := decide_eq_false c3; clear c3
    simp only [Option.some.injEq, Prod.mk.injEq] at H
    obtain ⟨rfl, rfl⟩ := H; go_wp2; go_ret2; exact ⟨Z3, Z0⟩

theorem bytesLess_irrefl : ∀ l : List UInt8, Op.bytesLess l l = false
 | [] => rfl
 | a :: l => by simp [Op.bytesLess, bytesLess_irrefl l]
theorem bytesLess_total : ∀ x y : List UInt8, Op.bytesLess x y = false → Op.bytesLess y x = false → x = y
 | [], [], _, _ => rfl
 | [], _ :: _, h, _ => by simp [Op.bytesLess] at h
 | _ :: _, [], _, h => by simp [Op.bytesLess] at h
 | a :: x, b :: y, h, k => by
  simp only [Op.bytesLess, Bool.or_eq_false_iff, decide_eq_false_iff_not, Bool.and_eq_false_iff, beq_eq_false_iff_ne] at h k
  have e : a = b := by
   have h1 := h.1; have k1 := k.1
   simp only [UInt8.lt_iff_toNat_lt] at h1 k1; exact UInt8.toNat_inj.mp (by omega)
  subst e
  rcases h.2 with h2 | h2
  ·exact absurd rfl h2
  rcases k.2 with k2 | k2
  ·exact absurd rfl k2
  rw [bytesLess_total x y h2 k2]
theorem bytesLess_ne {x y : List UInt8} (h : Op.bytesLess y x = true) : (x == y) = false := by
 rw [beq_eq_false_iff_ne]; rintro rfl; rw [bytesLess_irrefl] at h; cases h
theorem ret_int {k : IntKind} {a b : Int} (h : a = b) : Ending.returned (.int k a) = .returned (.int k b) := by rw [h]
def decimal_Compare.f (a0 : ByteArray) (a1 : ByteArray) : Option (Int) := if (a0.size : Int) = (a1.size : Int) then (if (Op.bytesLess a0.toList a1.toList) = true then (some (-1)) else (if (Op.bytesLess a1.toList a0.toList) = true then (some 1) else (some 0))) else (some (mn 1 (mx (-1) (wrap64 ((a0.size : Int) - (a1.size : Int))))))
set_option maxHeartbeats 4000000 in
theorem decimal_Compare.calls (a0 : ByteArray) (a1 : ByteArray) (r : Int) (w : World) (hG : GL w) (h : decimal_Compare.f a0 a1 = some r) :
  Calls Tryz.prog 43 #[.string a0, .string a1] w fun e w' => e = .returned (.int .i64 r) ∧ Below w.heap.size w w' := by
 have hb := Below.refl w.heap.size w; unfold decimal_Compare.f at h
 by_cases c3 : (a0.size : Int) = (a1.size : Int)
 ·rw [if_pos c3] at h; have c3b0 : ((a0.size : Int) == (a1.size : Int)) = true := beq_iff_eq.mpr c3; have c3b1 : ((a0.size : Int) != (a1.size : Int)) = false := bne_eq_false_iff_eq.mpr c3
  have c3b2 : (a0.size == a1.size) = true := by first | simpa using c3 | (simp at c3 ⊢; omega)
  clear c3
  by_cases c4 : (Op.bytesLess a0.toList a1.toList) = true
  ·rw [if_pos c4] at h; obtain rfl := Option.some.inj h; clear h; go_enter Tryz.func43, Tryz.ntmps43; go_wp2; go_ret; exact ⟨rfl, hb⟩
  ·rw [if_neg c4] at h
   have c4b0 : (Op.bytesLess a0.toList a1.toList) = false := by simpa using c4
   by_cases c5 : (Op.bytesLess a1.toList a0.toList) = true
   ·rw [if_pos c5] at h; have c6 := bytesLess_ne c5; obtain rfl := Option.some.inj h; clear h c4; go_enter Tryz.func43, Tryz.ntmps43; go_wp2; go_ret; exact ⟨rfl, hb⟩
   ·rw [if_neg c5] at h
    have c5b0 : (Op.bytesLess a1.toList a0.toList) = false := by simpa using c5
    have c6 : (a0.toList == a1.toList) = true := beq_iff_eq.mpr (bytesLess_total _ _ c4b0 c5b0); obtain rfl := Option.some.inj h; clear h c4 c5; go_enter Tryz.func43, Tryz.ntmps43; go_wp2; go_ret; exact ⟨rfl, hb⟩
 ·rw [if_neg c3] at h; have c3b0 : ((a0.size : Int) == (a1.size : Int)) = false := beq_eq_false_iff_ne.mpr c3; have c3b1 : ((a0.size : Int) != (a1.size : Int)) = true := bne_iff_ne.mpr c3
  have c3b2 : (a0.size == a1.size) = false := by rw [beq_eq_false_iff_ne]; omega
  obtain rfl := Option.some.inj h; clear h c3; go_enter Tryz.func43, Tryz.ntmps43; go_wp2
  all_goals
   go_ret; refine ⟨ret_int (k := .i64) ?_, hb⟩; generalize wrap64 ((a0.size : Int) - (a1.size : Int)) = t at *; unfold mn mx
   repeat' split
   all_goals omega

def monzo_Compare.f (k : Nat) (l0 : List Int) (l1 : List Int) (l2 : List Int) : Option (Int × Int) := (mzCA.f k l0 (([l1, l2] : List (List Int)))).bind fun t501 => (if t501 = 0 then ((mzsi.f k l0 l1).bind fun bt502 => ((mzsi.f k l0 l2).bind fun bt504 => ((deMu.f k bt502.1 bt504.2).bind fun t506 => ((deMu.f k bt504.1 bt502.2).bind fun t507 => ((decimal_Compare.f t506 t507).bind fun t508 => (some (t508, 0))))))) else (none))
set_option maxHeartbeats 8000000 in
set_option maxRecDepth 100000 in
theorem monzo_Compare.calls (k : Nat) (A0 : Option Addr) (c0 : Nat) (l0 : List Int) (P1_ : Nat → Prop) (A1 : Option Addr) (c1 : Nat) (l1 : List Int) (P2_ : Nat → Prop) (A2 : Option Addr) (c2 : Nat) (l2 : List Int) (r1 : Int) (r2 : Int) (w : World) (hr0 : Kd.C (Kd.int .i64) w A0 l0.length l0) (hc0 : l0.length ≤ c0) (hs1 : Kd.V (Kd.int .i64) 3 w w.heap.size (fun k_ => P1_ k_) (.slice A1 l1.length c1) l1) (hs2 : Kd.V (Kd.int .i64) 3 w w.heap.size (fun k_ => P2_ k_) (.slice A2 l2.length c2) l2) (hG : GL w) (h : monzo_Compare.f k l0 l1 l2 = some (r1, r2)) :
  Calls Tryz.prog 17 #[.slice A0 l0.length c0, .slice A1 l1.length c1, .slice A2 l2.length c2] w fun e w' => e = .returned (.tuple #[.int .i64 r1, .int .i64 r2]) ∧ Below w.heap.size w w' := by
 have HR0 := AS hr0; have HC0 := AS hc0; clear hr0 hc0; have HO1 := AS (show Kd.V (Kd.int .i64) 3 w w.heap.size (fun k_ => ((P1_ k_ ∨ P2_ k_) ∨ w.heap.size ≤ k_)) (.slice A1 l1.length c1) l1 from Kd.V_mono hs1 (fun k_ hk => .inl (.inl hk))); have HO2 := AS (show Kd.V (Kd.int .i64) 3 w w.heap.size (fun k_ => ((P1_ k_ ∨ P2_ k_) ∨ w.heap.size ≤ k_)) (.slice A2 l2.length c2) l2 from Kd.V_mono hs2 (fun k_ hk => .inl (.inr hk))); have HB := AS (Below.refl w.heap.size w); have H : ((mzCA.f k l0 (([l1, l2] : List (List Int)))).bind fun t501 => (if t501 = 0 then ((mzsi.f k l0 l1).bind fun bt502 => ((mzsi.f k l0 l2).bind fun bt504 => ((deMu.f k bt502.1 bt504.2).bind fun t506 => ((deMu.f k bt504.1 bt502.2).bind fun t507 => ((decimal_Compare.f t506 t507).bind fun t508 => (some (t508, 0))))))) else (none))) = some (r1, r2) := h; clear h
 obtain ⟨y498, hy498⟩ : ∃ y_ : List (List Int), y_ = (([l1, l2] : List (List Int))) := ⟨_, rfl⟩
 replace H : ((mzCA.f k l0 y498).bind fun t501 => (if t501 = 0 then ((mzsi.f k l0 l1).bind fun bt502 => ((mzsi.f k l0 l2).bind fun bt504 => ((deMu.f k bt502.1 bt504.2).bind fun t506 => ((deMu.f k bt504.1 bt502.2).bind fun t507 => ((decimal_Compare.f t506 t507).bind fun t508 => (some (t508, 0))))))) else (none))) = some (r1, r2) := by first | (rw [hy498]; with_reducible exact H) | (have H2_ := (Option.bind_some _ _).symm.trans H; rw [hy498]; with_reducible exact H2_) | (have H2_ := (Option.bind_some _ _).symm.trans H; with_reducible exact H2_) | with_reducible exact H | (rw [hy498]; exact H) | exact H
 have Ny498 := AS hy498; clear hy498; replace H := Option.bind_eq_some_iff.mp H; obtain ⟨t501, A40, H⟩ := H; replace H : (if t501 = 0 then ((mzsi.f k l0 l1).bind fun bt502 => ((mzsi.f k l0 l2).bind fun bt504 => ((deMu.f k bt502.1 bt504.2).bind fun t506 => ((deMu.f k bt504.1 bt502.2).bind fun t507 => ((decimal_Compare.f t506 t507).bind fun t508 => (some (t508, 0))))))) else (none)) = some (r1, r2) := H; have A4 := AS A40; clear A40
 by_cases c5 : t501 = 0
 ·rw [if_pos c5] at H
  have c5b0 : (t501 == 0) = true := beq_iff_eq.mpr c5; have c5b1 : (t501 != 0) = false := bne_eq_false_iff_eq.mpr c5; clear c5; replace H := Option.bind_eq_some_iff.mp H; obtain ⟨⟨t502, t503⟩, A60, H⟩ := H; replace H : ((mzsi.f k l0 l2).bind fun bt504 => ((deMu.f k t502 bt504.2).bind fun t506 => ((deMu.f k bt504.1 t503).bind fun t507 => ((decimal_Compare.f t506 t507).bind fun t508 => (some (t508, 0)))))) = some (r1, r2) := H; have A6 := AS A60; clear A60; replace H := Option.bind_eq_some_iff.mp H; obtain ⟨⟨t504, t505⟩, A70, H⟩ := H; replace H : ((deMu.f k t502 t505).bind fun t506 => ((deMu.f k t504 t503).bind fun t507 => ((decimal_Compare.f t506 t507).bind fun t508 => (some (t508, 0))))) = some (r1, r2) := H; have A7 := AS A70; clear A70; replace H := Option.bind_eq_some_iff.mp H; obtain ⟨t506, A80, H⟩ := H; replace H : ((deMu.f k t504 t503).bind fun t507 => ((decimal_Compare.f t506 t507).bind fun t508 => (some (t508, 0)))) = some (r1, r2) := H; have A8 := AS A80; clear A80; replace H := Option.bind_eq_some_iff.mp H; obtain ⟨t507, A90, H⟩ := H; replace H : ((decimal_Compare.f t506 t507).bind fun t508 => (some (t508, 0))) = some (r1, r2) := H; have A9 := AS A90; clear A90; replace H := Option.bind_eq_some_iff.mp H; obtain ⟨t508, A100, H⟩ := H; replace H : (some (t508, 0)) = some (r1, r2) := H; have A10 := AS A100; clear A100
  simp only [Option.some.injEq, Prod.mk.injEq] at H
  obtain ⟨rfl, rfl⟩ := H; go_enter Tryz.func17, Tryz.ntmps17; go_wp2_with (first | ((with_reducible refine gtd (N := 16) rfl ?_); refine Kd.N_lit (Kd.slice 3 (Kd.int .i64)) _ 28 ?hg (N' := 16) ?hd (xs := ([l1, l2] : List (List Int))) (inner := [.slice A1 l1.length c1, .slice A2 l2.length c2]) (ok := (fun k_ => ((P1_ k_ ∨ P2_ k_) ∨ w.heap.size ≤ k_))) (okp := (fun k_ => ((P1_ k_ ∨ P2_ k_) ∨ w.heap.size ≤ k_))) ?hr ?hp (fun _ hk => hk) ((show ∀ k_, w.heap.size ≤ k_ → (fun k_ => ((P1_ k_ ∨ P2_ k_) ∨ w.heap.size ≤ k_)) k_ from fun k_ hk => (.inr (Nat.le_trans (bsz Z0) hk))) _ (Nat.le_refl _)) (Below.refl _ _) (Nat.le_refl _) (by simp) ?_; (case hd => rfl); (case hg => rfl); (case hr => exact Z11); (case hp => exact Z45); intro v499 w11 ho12 hb hg_ hnew_; clear hg_ hnew_; (first | rw [← Ny498.out] at ho12 | (simp only [Int.reduceToNat] at ho12; rw [← Ny498.out] at ho12)); have HO500 := AS (Kd.N_lower ho12 (bsz Z0)); replace HO1 := AS (Kd.V_elder' Z19 (Kd.N_base ho12) hb); replace HO2 := AS (Kd.V_elder' Z46 (Kd.N_base ho12) hb); replace HB := AS (bst Z0 hb); clear hb ho12; obtain ⟨Ao13, co13, eo13⟩ := Kd.N_slice HO500.out; subst eo13) | ((with_reducible refine gtc (f := 32) rfl ?_); refine gsL (some 17) rfl rfl Tryz.func32 Z5 rfl #[.slice A0 l0.length c0, .slice Ao13 y498.length co13] rfl Z1 ?_; (with_reducible refine (mzCA.calls k _ _ l0 _ _ y498 t501 _ ?side1 ?side2 ?side3 ?side4 ?side5 A4.out).mono ?_); (case side1 => exact Z10); (case side2 => exact Z72); (case side3 => repeat (first | exact (Kd.N_reads' HO500.out).2.2 | (with_reducible refine Kd.C_alloc ?_ _) | (with_reducible refine Kd.C_drewN ?_ _) | (with_reducible refine Kd.C_drew ?_))); (case side4 => exact (Kd.N_reads' HO500.out).2.1); (case side5 => exact Z182); rintro e w' ⟨rfl, ⟨nd, rfl⟩⟩; refine ⟨_, rfl, ?_⟩) | ((with_reducible refine gtc (f := 42) rfl ?_); refine gsL (some 24) rfl rfl Tryz.func42 Z5 rfl #[.slice A0 l0.length c0, .slice A1 l1.length c1] rfl Z1 ?_; (with_reducible refine (mzsi.calls k _ _ l0 _ _ l1 t502 t503 _ ?side1 ?side2 ?side3 ?side4 ?side5 A6.out).mono ?_); (case side1 => repeat (first | exact (Kd.C_below HR0.out Z0) | (with_reducible refine Kd.C_alloc ?_ _) | (with_reducible refine Kd.C_drewN ?_ _) | (with_reducible refine Kd.C_drew ?_))); (case side2 => exact Z72); (case side3 => exact Z129); (case side4 => exact (Kd.V_reads' HO1.out).2.1); (case side5 => exact Z182); rintro e w14 ⟨rfl, hb⟩; refine ⟨_, rfl, ?_⟩; replace HO1 := AS (Kd.V_below Z19 hb); replace HO2 := AS (Kd.V_below Z46 hb); replace HO500 := AS (Kd.N_below Z104 hb); replace HB := AS (bst Z0 hb); (try clear hb); (try clear hb2); (try clear hk); (try clear hi)) | ((with_reducible refine gtc (f := 42) rfl ?_); refine gsL (some 30) rfl rfl Tryz.func42 Z5 rfl #[.slice A0 l0.length c0, .slice A2 l2.length c2] rfl Z1 ?_; (with_reducible refine (mzsi.calls k _ _ l0 _ _ l2 t504 t505 _ ?side1 ?side2 ?side3 ?side4 ?side5 A7.out).mono ?_); (case side1 => exact Z10); (case side2 => exact Z72); (case side3 => exact Z128); (case side4 => exact (Kd.V_reads' HO2.out).2.1); (case side5 => exact Z182); rintro e w15 ⟨rfl, hb⟩; refine ⟨_, rfl, ?_⟩; replace HO1 := AS (Kd.V_below Z19 hb); replace HO2 := AS (Kd.V_below Z46 hb); replace HO500 := AS (Kd.N_below Z104 hb); replace HB := AS (bst Z0 hb); (try clear hb); (try clear hb2); (try clear hk); (try clear hi)) | ((with_reducible refine gtc (f := 44) rfl ?_); refine gsL (some 35) rfl rfl Tryz.func44 Z5 rfl #[.string t502, .string t505] rfl Z1 ?_; (with_reducible refine (deMu.calls k t502 t505 t506 _ ?side1 A8.out).mono ?_); (case side1 => exact Z182); rintro e w16 ⟨rfl, hb⟩; refine ⟨_, rfl, ?_⟩; replace HO1 := AS (Kd.V_below Z19 hb); replace HO2 := AS (Kd.V_below Z46 hb); replace HO500 := AS (Kd.N_below Z104 hb); replace HB := AS (bst Z0 hb); (try clear hb); (try clear hb2); (try clear hk); (try clear hi)) | ((with_reducible refine gtc (f := 44) rfl ?_); refine gsL (some 38) rfl rfl Tryz.func44 Z5 rfl #[.string t504, .string t503] rfl Z1 ?_; (with_reducible refine (deMu.calls k t504 t503 t507 _ ?side1 A9.out).mono ?_); (case side1 => exact Z182); rintro e w17 ⟨rfl, hb⟩; refine ⟨_, rfl, ?_⟩; replace HO1 := AS (Kd.V_below Z19 hb); replace HO2 := AS (Kd.V_below Z46 hb); replace HO500 := AS (Kd.N_below Z104 hb); replace HB := AS (bst Z0 hb); (try clear hb); (try clear hb2); (try clear hk); (try clear hi)) | ((with_reducible refine gtc (f := 43) rfl ?_); refine gsL (some 39) rfl rfl Tryz.func43 Z5 rfl #[.string t506, .string t507] rfl Z1 ?_; (with_reducible refine (decimal_Compare.calls t506 t507 t508 _ ?side1 A10.out).mono ?_); (case side1 => exact Z182); rintro e w18 ⟨rfl, hb⟩; refine ⟨_, rfl, ?_⟩; replace HO1 := AS (Kd.V_below Z19 hb); replace HO2 := AS (Kd.V_below Z46 hb); replace HO500 := AS (Kd.N_below Z104 hb); replace HB := AS (bst Z0 hb); (try clear hb); (try clear hb2); (try clear hk); (try clear hi))); go_ret2; exact ⟨Z3, Z0⟩
 ·rw [if_neg c5] at H
  exact absurd H (by simp)
def monzo_Sign.f (k : Nat) (l0 : List Int) (l1 : List Int) : Option (Int × Int) := (monzo_Check.f k l0 l1).bind fun t509 => (if t509 = 0 then ((mzsi.f k l0 l1).bind fun bt510 => ((decimal_Compare.f bt510.1 bt510.2).bind fun t512 => (some (t512, 0)))) else (none))
set_option maxHeartbeats 8000000 in
set_option maxRecDepth 100000 in
theorem monzo_Sign.calls (k : Nat) (A0 : Option Addr) (c0 : Nat) (l0 : List Int) (A1 : Option Addr) (c1 : Nat) (l1 : List Int) (r1 : Int) (r2 : Int) (w : World) (hr0 : Kd.C (Kd.int .i64) w A0 l0.length l0) (hc0 : l0.length ≤ c0) (hr1 : Kd.C (Kd.int .i64) w A1 l1.length l1) (hc1 : l1.length ≤ c1) (hG : GL w) (h : monzo_Sign.f k l0 l1 = some (r1, r2)) :
  Calls Tryz.prog 55 #[.slice A0 l0.length c0, .slice A1 l1.length c1] w fun e w' => e = .returned (.tuple #[.int .i64 r1, .int .i64 r2]) ∧ Below w.heap.size w w' := by
 have HR0 := AS hr0; have HC0 := AS hc0; clear hr0 hc0; have HR1 := AS hr1; have HC1 := AS hc1; clear hr1 hc1; have HB := AS (Below.refl w.heap.size w); have H : ((monzo_Check.f k l0 l1).bind fun t509 => (if t509 = 0 then ((mzsi.f k l0 l1).bind fun bt510 => ((decimal_Compare.f bt510.1 bt510.2).bind fun t512 => (some (t512, 0)))) else (none))) = some (r1, r2) := h; clear h; replace H := Option.bind_eq_some_iff.mp H; obtain ⟨t509, A30, H⟩ := H; replace H : (if t509 = 0 then ((mzsi.f k l0 l1).bind fun bt510 => ((decimal_Compare.f bt510.1 bt510.2).bind fun t512 => (some (t512, 0)))) else (none)) = some (r1, r2) := H; have A3 := AS A30; clear A30
 by_cases c4 : t509 = 0
 ·rw [if_pos c4] at H
  have c4b0 : (t509 == 0) = true := beq_iff_eq.mpr c4; have c4b1 : (t509 != 0) = false := bne_eq_false_iff_eq.mpr c4; clear c4; replace H := Option.bind_eq_some_iff.mp H; obtain ⟨⟨t510, t511⟩, A50, H⟩ := H; replace H : ((decimal_Compare.f t510 t511).bind fun t512 => (some (t512, 0))) = some (r1, r2) := H; have A5 := AS A50; clear A50; replace H := Option.bind_eq_some_iff.mp H; obtain ⟨t512, A60, H⟩ := H; replace H : (some (t512, 0)) = some (r1, r2) := H; have A6 := AS A60; clear A60
  simp only [Option.some.injEq, Prod.mk.injEq] at H
  obtain ⟨rfl, rfl⟩ := H; go_enter Tryz.func55, Tryz.ntmps55; go_wp2_with (first | ((with_reducible refine gtc (f := 66) rfl ?_); refine gsL (some 9) rfl rfl Tryz.func66 Z5 rfl #[.slice A0 l0.length c0, .slice A1 l1.length c1] rfl Z1 ?_; (with_reducible refine (monzo_Check.calls k _ _ l0 (fun k_ => k_ < w.heap.size) _ _ l1 t509 _ ?side1 ?side2 ?side3 ?side4 A3.out).mono ?_); (case side1 => exact Z15); (case side2 => exact Z72); (case side3 => exact Z202); (case side4 => exact Z182); rintro e w7 ⟨rfl, hb⟩; refine ⟨_, rfl, ?_⟩; replace HB := AS (bst Z0 hb); (try clear hb); (try clear hb2); (try clear hk); (try clear hi)) | ((with_reducible refine gtc (f := 42) rfl ?_); refine gsL (some 15) rfl rfl Tryz.func42 Z5 rfl #[.slice A0 l0.length c0, .slice A1 l1.length c1] rfl Z1 ?_; (with_reducible refine (mzsi.calls k _ _ l0 _ _ l1 t510 t511 _ ?side1 ?side2 ?side3 ?side4 ?side5 A5.out).mono ?_); (case side1 => exact Z10); (case side2 => exact Z72); (case side3 => exact Z107); (case side4 => exact Z145); (case side5 => exact Z182); rintro e w8 ⟨rfl, hb⟩; refine ⟨_, rfl, ?_⟩; replace HB := AS (bst Z0 hb); (try clear hb); (try clear hb2); (try clear hk); (try clear hi)) | ((with_reducible refine gtc (f := 43) rfl ?_); refine gsL (some 18) rfl rfl Tryz.func43 Z5 rfl #[.string t510, .string t511] rfl Z1 ?_; (with_reducible refine (decimal_Compare.calls t510 t511 t512 _ ?side1 A6.out).mono ?_); (case side1 => exact Z182); rintro e w9 ⟨rfl, hb⟩; refine ⟨_, rfl, ?_⟩; replace HB := AS (bst Z0 hb); (try clear hb); (try clear hb2); (try clear hk); (try clear hi))); go_ret2; exact ⟨Z3, Z0⟩
 ·rw [if_neg c4] at H
  exact absurd H (by simp)
def fraction_New.f (k : Nat) (a0 : ByteArray) (a1 : ByteArray) : Option (ByteArray × ByteArray × Int) := (whole_Sign.f a1).bind fun t514 => (if t514 = 0 then (none) else ((frlo.f k a0 a1).bind fun bt515 => (some (bt515.1, bt515.2, 0))))
set_option maxHeartbeats 8000000 in
set_option maxRecDepth 100000 in
theorem fraction_New.calls (k : Nat) (a0 : ByteArray) (a1 : ByteArray) (r1 : ByteArray) (r2 : ByteArray) (r3 : Int) (w : World) (hG : GL w) (h : fraction_New.f k a0 a1 = some (r1, r2, r3)) :
  Calls Tryz.prog 58 #[.string a0, .string a1] w fun e w' => e = .returned (.tuple #[.agg #[.string r1, .string r2], .int .i64 r3]) ∧ Below w.heap.size w w' := by
 have hu53 := Tryz.underlying53; have HB := AS (Below.refl w.heap.size w); have H : ((whole_Sign.f a1).bind fun t514 => (if t514 = 0 then (none) else ((frlo.f k a0 a1).bind fun bt515 => (some (bt515.1, bt515.2, 0))))) = some (r1, r2, r3) := h; clear h; replace H := Option.bind_eq_some_iff.mp H; obtain ⟨t514, A30, H⟩ := H; replace H : (if t514 = 0 then (none) else ((frlo.f k a0 a1).bind fun bt515 => (some (bt515.1, bt515.2, 0)))) = some (r1, r2, r3) := H; have A3 := AS A30; clear A30
 by_cases c4 : t514 = 0
 ·rw [if_pos c4] at H
  have c4b0 : (t514 == 0) = true := beq_iff_eq.mpr c4; have c4b1 : (t514 != 0) = false := bne_eq_false_iff_eq.mpr c4; clear c4; exact absurd H (by simp)
 ·rw [if_neg c4] at H
  have c4b0 : (t514 == 0) = false := beq_eq_false_iff_ne.mpr c4; have c4b1 : (t514 != 0) = true := bne_iff_ne.mpr c4; replace H := Option.bind_eq_some_iff.mp H; obtain ⟨⟨t515, t516⟩, A50, H⟩ := H; replace H : (some (t515, t516, 0)) = some (r1, r2, r3) := H; have A5 := AS A50; clear A50
  simp only [Option.some.injEq, Prod.mk.injEq] at H
  obtain ⟨rfl, rfl, rfl⟩ := H; go_enter Tryz.func58, Tryz.ntmps58; go_wp2_with (first | ((with_reducible refine gtd (N := 4) rfl ?_); refine bxe ?hg (N := 4) ?hd (cs := #[.string (⟨#[]⟩ : ByteArray), .string (⟨#[]⟩ : ByteArray)]) (t := 53) ?hr ?_; (case hd => rfl); (case hg => rfl); (case hr => exact Z11); intro gb513 hg w6 hbox hb; have BK513 := AS (hbox); have GW513 := AS ((Z183 : w.heap.size ≤ gb513)); have GE513 := AS ((Z183 : w.heap.size ≤ gb513)); replace HB := AS (bst Z0 hb); clear hb hbox hg) | ((with_reducible refine gtc (f := 88) rfl ?_); refine gsL (some 7) rfl rfl Tryz.func88 Z5 rfl #[.string a1] rfl Z1 ?_; (with_reducible refine (whole_Sign.calls a1 t514 _ ?side1 A3.out).mono ?_); (case side1 => exact GL.below hG Z70); rintro e w' ⟨rfl, ⟨nd, rfl⟩⟩; refine ⟨_, rfl, ?_⟩; (try (rw [drewN_self w6]; generalize hq_ : World.drewN w6 _ = w6; have n0_ : Aside0 (w6.heap[gb513]? = some (.cells #[.string (⟨#[]⟩ : ByteArray), .string (⟨#[]⟩ : ByteArray)] 53 (0, 0))) := ⟨by rw [← hq_]; exact Z162⟩; have n1_ : Aside0 (Below w.heap.size w w6) := ⟨by rw [← hq_]; exact Z70⟩; clear BK513 HB hq_; have BK513 := n0_; have HB := n1_; clear n0_ n1_))) | ((with_reducible refine gtc (f := 89) rfl ?_); refine gsL (some 12) rfl rfl Tryz.func89 Z5 rfl #[.string a0, .string a1] rfl Z1 ?_; (with_reducible refine (frlo.calls k a0 a1 t515 t516 _ ?side1 A5.out).mono ?_); (case side1 => exact GL.below hG Z70); rintro e w7 ⟨rfl, hb⟩; refine ⟨_, rfl, ?_⟩; replace BK513 := AS (bbl (g := gb513) (o := .cells #[.string (⟨#[]⟩ : ByteArray), .string (⟨#[]⟩ : ByteArray)] 53 (0, 0)) Z162 hb); replace HB := AS (bst Z70 hb); (try clear hb); (try clear hb2); (try clear hk); (try clear hi); have hcz8_0 := bc0 BK513.out; have hcz8_1 := bc1 BK513.out; have hfz8_0 := bfz BK513.out 0; have hfz8_1 := bfz BK513.out 1)); refine bodyPost_ret (results_ct rfl _ _ gb513 53 #[.string t515, .string t516] (0, 0) _ rfl (by (with_reducible repeat (first | apply bdn | apply bdr | apply bal)); refine bpt (cs := #[.string t515, .string (⟨#[]⟩ : ByteArray)]) ?_ 1 _ rfl; (with_reducible repeat (first | apply bdn | apply bdr | apply bal)); refine bpt (cs := #[.string (⟨#[]⟩ : ByteArray), .string (⟨#[]⟩ : ByteArray)]) ?_ 0 _ rfl; (with_reducible repeat (first | apply bdn | apply bdr | apply bal)); exact BK513.out) Tryz.underlying53 rfl Z5) rfl ?_; exact ⟨Z3, Z70⟩
def fraction_Of.f (k : Nat) (a0 : Int) (a1 : Int) : Option (ByteArray × ByteArray × Int) := (whOf.f a0).bind fun t518 => ((whOf.f a1).bind fun t519 => ((fraction_New.f k t518 t519).bind fun bt520 => (some (bt520.1, bt520.2.1, bt520.2.2))))
set_option maxHeartbeats 8000000 in
set_option maxRecDepth 100000 in
theorem fraction_Of.calls (k : Nat) (a0 : Int) (a1 : Int) (r1 : ByteArray) (r2 : ByteArray) (r3 : Int) (w : World) (hG : GL w) (h : fraction_Of.f k a0 a1 = some (r1, r2, r3)) :
  Calls Tryz.prog 29 #[.int .i64 a0, .int .i64 a1] w fun e w' => e = .returned (.tuple #[.agg #[.string r1, .string r2], .int .i64 r3]) ∧ Below w.heap.size w w' := by
 have hu53 := Tryz.underlying53; have HB := AS (Below.refl w.heap.size w); have H : ((whOf.f a0).bind fun t518 => ((whOf.f a1).bind fun t519 => ((fraction_New.f k t518 t519).bind fun bt520 => (some (bt520.1, bt520.2.1, bt520.2.2))))) = some (r1, r2, r3) := h; clear h; replace H := Option.bind_eq_some_iff.mp H; obtain ⟨t518, A30, H⟩ := H; replace H : ((whOf.f a1).bind fun t519 => ((fraction_New.f k t518 t519).bind fun bt520 => (some (bt520.1, bt520.2.1, bt520.2.2)))) = some (r1, r2, r3) := H; have A3 := AS A30; clear A30; replace H := Option.bind_eq_some_iff.mp H; obtain ⟨t519, A40, H⟩ := H; replace H : ((fraction_New.f k t518 t519).bind fun bt520 => (some (bt520.1, bt520.2.1, bt520.2.2))) = some (r1, r2, r3) := H; have A4 := AS A40; clear A40; replace H := Option.bind_eq_some_iff.mp H; obtain ⟨⟨t520, t521, t522⟩, A50, H⟩ := H; replace H : (some (t520, t521, t522)) = some (r1, r2, r3) := H; have A5 := AS A50; clear A50
 simp only [Option.some.injEq, Prod.mk.injEq] at H
 obtain ⟨rfl, rfl, rfl⟩ := H; go_enter Tryz.func29, Tryz.ntmps29; go_wp2_with (first | ((with_reducible refine gtd (N := 4) rfl ?_); refine bxe ?hg (N := 4) ?hd (cs := #[.string (⟨#[]⟩ : ByteArray), .string (⟨#[]⟩ : ByteArray)]) (t := 53) ?hr ?_; (case hd => rfl); (case hg => rfl); (case hr => exact Z11); intro gb517 hg w6 hbox hb; have BK517 := AS (hbox); have GW517 := AS ((Z183 : w.heap.size ≤ gb517)); have GE517 := AS ((Z183 : w.heap.size ≤ gb517)); replace HB := AS (bst Z0 hb); clear hb hbox hg) | ((with_reducible refine gtc (f := 59) rfl ?_); refine gsL (some 7) rfl rfl Tryz.func59 Z5 rfl #[.int .i64 a0] rfl Z1 ?_; (with_reducible refine (whOf.calls a0 t518 _ ?side1 A3.out).mono ?_); (case side1 => exact GL.below hG Z51); rintro e w7 ⟨rfl, hb⟩; refine ⟨_, rfl, ?_⟩; replace BK517 := AS (bbl (g := gb517) (o := .cells #[.string (⟨#[]⟩ : ByteArray), .string (⟨#[]⟩ : ByteArray)] 53 (0, 0)) Z142 hb); replace HB := AS (bst Z51 hb); (try clear hb); (try clear hb2); (try clear hk); (try clear hi)) | ((with_reducible refine gtc (f := 59) rfl ?_); refine gsL (some 9) rfl rfl Tryz.func59 Z5 rfl #[.int .i64 a1] rfl Z1 ?_; (with_reducible refine (whOf.calls a1 t519 _ ?side1 A4.out).mono ?_); (case side1 => exact GL.below hG Z51); rintro e w8 ⟨rfl, hb⟩; refine ⟨_, rfl, ?_⟩; replace BK517 := AS (bbl (g := gb517) (o := .cells #[.string (⟨#[]⟩ : ByteArray), .string (⟨#[]⟩ : ByteArray)] 53 (0, 0)) Z142 hb); replace HB := AS (bst Z51 hb); (try clear hb); (try clear hb2); (try clear hk); (try clear hi)) | ((with_reducible refine gtc (f := 58) rfl ?_); refine gsL (some 10) rfl rfl Tryz.func58 Z5 rfl #[.string t518, .string t519] rfl Z1 ?_; (with_reducible refine (fraction_New.calls k t518 t519 t520 t521 t522 _ ?side1 A5.out).mono ?_); (case side1 => exact GL.below hG Z51); rintro e w9 ⟨rfl, hb⟩; refine ⟨_, rfl, ?_⟩; replace BK517 := AS (bbl (g := gb517) (o := .cells #[.string (⟨#[]⟩ : ByteArray), .string (⟨#[]⟩ : ByteArray)] 53 (0, 0)) Z142 hb); replace HB := AS (bst Z51 hb); (try clear hb); (try clear hb2); (try clear hk); (try clear hi); have hcz10_0 := bc0 BK517.out; have hcz10_1 := bc1 BK517.out; have hfz10_0 := bfz BK517.out 0; have hfz10_1 := bfz BK517.out 1)); refine bodyPost_ret (results_ct rfl _ _ gb517 53 #[.string t520, .string t521] (0, 0) _ rfl (by (with_reducible repeat (first | apply bdn | apply bdr | apply bal)); refine bpt (cs := #[.string t520, .string (⟨#[]⟩ : ByteArray)]) ?_ 1 _ rfl; (with_reducible repeat (first | apply bdn | apply bdr | apply bal)); refine bpt (cs := #[.string (⟨#[]⟩ : ByteArray), .string (⟨#[]⟩ : ByteArray)]) ?_ 0 _ rfl; (with_reducible repeat (first | apply bdn | apply bdr | apply bal)); exact BK517.out) Tryz.underlying53 rfl Z5) rfl ?_; exact ⟨Z3, Z51⟩
def prime_open.f (k : Nat) (l0 : List Int) (a1_0 : ByteArray) (a1_1 : ByteArray) : Option (Int) := (prCk.f k l0).bind fun t524 => (if t524 = 0 then ((frCk.f k a1_0 a1_1).bind fun t525 => (some t525)) else (none))
set_option maxHeartbeats 8000000 in
set_option maxRecDepth 100000 in
theorem prime_open.calls (k : Nat) (A0 : Option Addr) (c0 : Nat) (l0 : List Int) (a1_0 : ByteArray) (a1_1 : ByteArray) (r : Int) (w : World) (hr0 : Kd.C (Kd.int .i64) w A0 l0.length l0) (hc0 : l0.length ≤ c0) (hG : GL w) (h : prime_open.f k l0 a1_0 a1_1 = some r) :
  Calls Tryz.prog 60 #[.slice A0 l0.length c0, .agg #[.string a1_0, .string a1_1]] w fun e w' => e = .returned (.int .i64 r) ∧ Below w.heap.size w w' := by
 have hu53 := Tryz.underlying53; have HR0 := AS hr0; have HC0 := AS hc0; clear hr0 hc0; have HB := AS (Below.refl w.heap.size w); have H : ((prCk.f k l0).bind fun t524 => (if t524 = 0 then ((frCk.f k a1_0 a1_1).bind fun t525 => (some t525)) else (none))) = some r := h; clear h; replace H := Option.bind_eq_some_iff.mp H; obtain ⟨t524, A30, H⟩ := H; replace H : (if t524 = 0 then ((frCk.f k a1_0 a1_1).bind fun t525 => (some t525)) else (none)) = some r := H; have A3 := AS A30; clear A30
 by_cases c4 : t524 = 0
 ·rw [if_pos c4] at H
  have c4b0 : (t524 == 0) = true := beq_iff_eq.mpr c4; have c4b1 : (t524 != 0) = false := bne_eq_false_iff_eq.mpr c4; clear c4; replace H := Option.bind_eq_some_iff.mp H; obtain ⟨t525, A50, H⟩ := H; replace H : (some t525) = some r := H; have A5 := AS A50; clear A50; obtain rfl := Option.some.inj H; go_enter Tryz.func60, Tryz.ntmps60; go_wp2_with (first | ((with_reducible refine gtd (N := 3) rfl ?_); refine bxe ?hg (N := 3) ?hd (cs := #[.string a1_0, .string a1_1]) (t := 53) ?hr ?_; (case hd => rfl); (case hg => rfl); (case hr => exact Z11); intro gb523 hg w6 hbox hb; have BK523 := AS (hbox); have GW523 := AS ((Z183 : w.heap.size ≤ gb523)); have GE523 := AS ((Z183 : w.heap.size ≤ gb523)); replace HB := AS (bst Z0 hb); clear hb hbox hg) | ((with_reducible refine gtc (f := 25) rfl ?_); refine gsL (some 7) rfl rfl Tryz.func25 Z5 rfl #[.slice A0 l0.length c0] rfl Z1 ?_; (with_reducible refine (prCk.calls k _ _ l0 t524 _ ?side1 ?side2 ?side3 A3.out).mono ?_); (case side1 => exact Z10); (case side2 => exact Z72); (case side3 => exact GL.below hG Z90); rintro e w' ⟨rfl, ⟨nd, rfl⟩⟩; refine ⟨_, rfl, ?_⟩; have hcz7_0 := bc0 BK523.out; have hcz7_1 := bc1 BK523.out; have hfz7_0 := bfz BK523.out 0; have hfz7_1 := bfz BK523.out 1) | ((with_reducible refine gtc (f := 67) rfl ?_); refine gsL (some 12) rfl rfl Tryz.func67 Z5 rfl #[.agg #[.string a1_0, .string a1_1]] rfl Z1 ?_; (with_reducible refine (frCk.calls k a1_0 a1_1 t525 _ ?side1 A5.out).mono ?_); (case side1 => exact GL.below hG Z90); rintro e w8 ⟨rfl, hb⟩; refine ⟨_, rfl, ?_⟩; replace BK523 := AS (bbl (g := gb523) (o := .cells #[.string a1_0, .string a1_1] 53 (0, 0)) (by (with_reducible repeat (first | apply bdn | apply bdr | apply bal)); exact BK523.out) hb); replace HB := AS (bst Z90 hb); (try clear hb); (try clear hb2); (try clear hk); (try clear hi))); go_ret; exact ⟨Z3, Z90⟩
 ·rw [if_neg c4] at H
  exact absurd H (by simp)
def prime_divide.l0 : Nat → ByteArray → ByteArray → Int → Option (ByteArray × Int)
 | 0, _, _, _ => none
 | k + 1, x0, x6, x7 => (whDM.f k x0 x6).bind fun bt527 => (if bt527.2.1.toList = ([48] : List UInt8) then (if bt527.2.2 = 0 then (prime_divide.l0 k bt527.1 x6 (wrap64 (x7 + 1))) else (some (x0, x7))) else (some (x0, x7)))
def prime_divide.f (k : Nat) (a0 : ByteArray) (a1 : Int) : Option (ByteArray × Int) := (whOf.f a1).bind fun t526 => (prime_divide.l0 k a0 t526 0)
set_option maxHeartbeats 8000000 in
set_option maxRecDepth 100000 in
theorem prime_divide.calls (k : Nat) (a0 : ByteArray) (a1 : Int) (r1 : ByteArray) (r2 : Int) (w : World) (hG : GL w) (h : prime_divide.f k a0 a1 = some (r1, r2)) :
  Calls Tryz.prog 91 #[.string a0, .int .i64 a1] w fun e w' => e = .returned (.tuple #[.string r1, .int .i64 r2]) ∧ Below w.heap.size w w' := by
 have HB := AS (Below.refl w.heap.size w); have H : ((whOf.f a1).bind fun t526 => (prime_divide.l0 k a0 t526 0)) = some (r1, r2) := h; clear h; replace H := Option.bind_eq_some_iff.mp H; obtain ⟨t526, A30, H⟩ := H; replace H : (prime_divide.l0 k a0 t526 0) = some (r1, r2) := H; have A3 := AS A30; clear A30; have H' := AS H; clear H; go_enter Tryz.func91, Tryz.ntmps91; go_wp2_with (first | ((with_reducible refine gtc (f := 59) rfl ?_); refine gsL (some 12) rfl rfl Tryz.func59 Z5 rfl #[.int .i64 a1] rfl Z1 ?_; (with_reducible refine (whOf.calls a1 t526 _ ?side1 A3.out).mono ?_); (case side1 => exact Z182); rintro e w4 ⟨rfl, hb⟩; refine ⟨_, rfl, ?_⟩; replace HB := AS (bst Z0 hb); (try clear hb); (try clear hb2); (try clear hk); (try clear hi)))
 go_loopg [0, 7] k (fun kq v0 v7 w' => ∃ (x0_1 : ByteArray) (x7_1 : Int), v0 = .string x0_1 ∧ v7 = .int .i64 x7_1 ∧ Aside0 (prime_divide.l0 kq x0_1 t526 x7_1 = some (r1, r2)) ∧ Aside0 (kq ≤ k) ∧ Aside0 (Below w.heap.size w w'))
 case atStart => exact ⟨(a0), (0), Z4, Z4, H', ⟨Nat.le_refl _⟩, ⟨Z0⟩⟩
 case round =>
  clear H'; (try clear p2); obtain ⟨x0_1, x7_1, rfl, rfl, HA, HK1, HB⟩ := hrel
  cases gk with
  | zero => exact absurd HA.out (by simp [prime_divide.l0])
  | succ k1 =>
   have H := HA.out; clear HA
   simp only [prime_divide.l0] at H
   replace H := Option.bind_eq_some_iff.mp H; obtain ⟨⟨t527, t528, t529⟩, A50, H⟩ := H; replace H : (if t528.toList = ([48] : List UInt8) then (if t529 = 0 then (prime_divide.l0 k1 t527 t526 (wrap64 (x7_1 + 1))) else (some (x0_1, x7_1))) else (some (x0_1, x7_1))) = some (r1, r2) := H; have A5 := AS A50; clear A50
   by_cases c6 : t528.toList = ([48] : List UInt8)
   ·rw [if_pos c6] at H
    have c6b0 : (t528.toList == ([48] : List UInt8)) = true := beq_iff_eq.mpr c6; have c6b1 : (t528.toList != ([48] : List UInt8)) = false := bne_eq_false_iff_eq.mpr c6; clear c6
    by_cases c7 : t529 = 0
    ·rw [if_pos c7] at H
     have c7b0 : (t529 == 0) = true := beq_iff_eq.mpr c7; have c7b1 : (t529 != 0) = false := bne_eq_false_iff_eq.mpr c7; clear c7; have H' := AS H; clear H; go_wp2_with (first | ((with_reducible refine gtc (f := 118) rfl ?_); refine gsL (some 18) rfl rfl Tryz.func118 Z5 rfl #[.string x0_1, .string t526] rfl Z1 ?_; (with_reducible refine (whDM.calls k1 x0_1 t526 t527 t528 t529 _ ?side1 A5.out).mono ?_); (case side1 => exact Z182); rintro e w8 ⟨rfl, hb⟩; refine ⟨_, rfl, ?_⟩; replace HB := AS (bst Z0 hb); (try clear hb); (try clear hb2); (try clear hk); (try clear hi)))
     go_roundg k1
     case measure => have := HK1.out; omega
     case rel => exact ⟨(t527), (wrap64 (x7_1 + 1)), Z4, Z4, H', ⟨Z88⟩, ⟨Z0⟩⟩
    ·rw [if_neg c7] at H
     have c7b0 : (t529 == 0) = false := beq_eq_false_iff_ne.mpr c7; have c7b1 : (t529 != 0) = true := bne_iff_ne.mpr c7
     simp only [Option.some.injEq, Prod.mk.injEq] at H
     obtain ⟨rfl, rfl⟩ := H; go_wp2_with (first | ((with_reducible refine gtc (f := 118) rfl ?_); refine gsL (some 18) rfl rfl Tryz.func118 Z5 rfl #[.string x0_1, .string t526] rfl Z1 ?_; (with_reducible refine (whDM.calls k1 x0_1 t526 t527 t528 t529 _ ?side1 A5.out).mono ?_); (case side1 => exact Z182); rintro e w9 ⟨rfl, hb⟩; refine ⟨_, rfl, ?_⟩; replace HB := AS (bst Z0 hb); (try clear hb); (try clear hb2); (try clear hk); (try clear hi))); go_ret2; exact ⟨Z3, Z0⟩
   ·rw [if_neg c6] at H
    have c6b0 : (t528.toList == ([48] : List UInt8)) = false := beq_eq_false_iff_ne.mpr c6; have c6b1 : (t528.toList != ([48] : List UInt8)) = true := bne_iff_ne.mpr c6
    simp only [Option.some.injEq, Prod.mk.injEq] at H
    obtain ⟨rfl, rfl⟩ := H; go_wp2_with (first | ((with_reducible refine gtc (f := 118) rfl ?_); refine gsL (some 18) rfl rfl Tryz.func118 Z5 rfl #[.string x0_1, .string t526] rfl Z1 ?_; (with_reducible refine (whDM.calls k1 x0_1 t526 t527 t528 t529 _ ?side1 A5.out).mono ?_); (case side1 => exact Z182); rintro e w10 ⟨rfl, hb⟩; refine ⟨_, rfl, ?_⟩; replace HB := AS (bst Z0 hb); (try clear hb); (try clear hb2); (try clear hk); (try clear hi))); go_ret2; exact ⟨Z3, Z0⟩
def prime_factor.l0 : Nat → List Int → ByteArray → ByteArray → List Int → Int → Int → Option (List Int × Bool)
 | 0, _, _, _, _, _, _ => none
 | k + 1, x6, x7, x8, x23, x24, x25 => if x25 < x24 then (if 0 ≤ x25 then (if x25 < (x23.length : Int) then ((prime_divide.f k x7 (rd x23 x25)).bind fun bt536 => ((prime_divide.f k x8 (rd x23 x25)).bind fun bt538 => (if x25 < (x6.length : Int) then (prime_factor.l0 k (x6.set (x25 : Int).toNat (wrap64 (bt536.2 - bt538.2))) bt536.1 bt538.1 x23 x24 (wrap64 (x25 + 1))) else (none)))) else (none)) else (none)) else (if x7.toList = ([49] : List UInt8) then (some (x6, (x8.toList == ([49] : List UInt8)))) else (some (x6, false)))
def prime_factor.f (k : Nat) (l0 : List Int) (a1_0 : ByteArray) (a1_1 : ByteArray) : Option (List Int × Bool) := (frSi.f a1_0 a1_1).bind fun t531 => (if t531 ≤ 0 then (some (([] : List Int), false)) else (if 0 ≤ (l0.length : Int) then (if ((l0.length : Int) : Int).toNat ≤ 35184372088832 then (prime_factor.l0 k (List.replicate ((l0.length : Int) : Int).toNat 0) a1_0 a1_1 l0 (l0.length : Int) 0) else (none)) else (none)))
set_option maxHeartbeats 8000000 in
set_option maxRecDepth 100000 in
theorem prime_factor.calls (k : Nat) (A0 : Option Addr) (c0 : Nat) (l0 : List Int) (a1_0 : ByteArray) (a1_1 : ByteArray) (r1 : List Int) (r2 : Bool) (w : World) (hr0 : Kd.C (Kd.int .i64) w A0 l0.length l0) (hc0 : l0.length ≤ c0) (hG : GL w) (h : prime_factor.f k l0 a1_0 a1_1 = some (r1, r2)) :
  Calls Tryz.prog 61 #[.slice A0 l0.length c0, .agg #[.string a1_0, .string a1_1]] w fun e w' => ∃ v0_ : Value, e = .returned (.tuple #[v0_, .bool r2]) ∧ Kd.R (Kd.int .i64) 3 w' w.heap.size (fun _ => True) v0_ r1 ∧ Below w.heap.size w w' := by
 have hu53 := Tryz.underlying53; have HR0 := AS hr0; have HC0 := AS hc0; clear hr0 hc0; have HB := AS (Below.refl w.heap.size w); have H : ((frSi.f a1_0 a1_1).bind fun t531 => (if t531 ≤ 0 then (some (([] : List Int), false)) else (if 0 ≤ (l0.length : Int) then (if ((l0.length : Int) : Int).toNat ≤ 35184372088832 then (prime_factor.l0 k (List.replicate ((l0.length : Int) : Int).toNat 0) a1_0 a1_1 l0 (l0.length : Int) 0) else (none)) else (none)))) = some (r1, r2) := h; clear h; replace H := Option.bind_eq_some_iff.mp H; obtain ⟨t531, A30, H⟩ := H; replace H : (if t531 ≤ 0 then (some (([] : List Int), false)) else (if 0 ≤ (l0.length : Int) then (if ((l0.length : Int) : Int).toNat ≤ 35184372088832 then (prime_factor.l0 k (List.replicate ((l0.length : Int) : Int).toNat 0) a1_0 a1_1 l0 (l0.length : Int) 0) else (none)) else (none))) = some (r1, r2) := H; have A3 := AS A30; clear A30
 by_cases c4 : t531 ≤ 0
 ·rw [if_pos c4] at H
  have c4b0 : decide (t531 ≤ 0) = true := decide_eq_true c4; clear c4
  simp only [Option.some.injEq, Prod.mk.injEq] at H
  obtain ⟨rfl, rfl⟩ := H; go_enter Tryz.func61, Tryz.ntmps61; go_wp2_with (first | ((with_reducible refine gtd (N := 3) rfl ?_); refine bxe ?hg (N := 3) ?hd (cs := #[.string a1_0, .string a1_1]) (t := 53) ?hr ?_; (case hd => rfl); (case hg => rfl); (case hr => exact Z11); intro gb530 hg w5 hbox hb; have n0_ := AS (bst Z0 hb); have n1_ := AS (hbox); have n2_ := AS ((Z183 : w.heap.size ≤ gb530)); have n3_ := AS ((Z183 : w.heap.size ≤ gb530)); clear HB; have HB := n0_; have BK530 := n1_; have GW530 := n2_; have GE530 := n3_; clear n0_ n1_ n2_ n3_; clear hb hbox hg; have hcz6_0 := bc0 BK530.out; have hcz6_1 := bc1 BK530.out; have hfz6_0 := bfz BK530.out 0; have hfz6_1 := bfz BK530.out 1) | (go_at_call 68; (with_reducible refine (frSi.calls a1_0 a1_1 t531 _ ?side1 A3.out).mono ?_); (case side1 => exact Z196); rintro e w7 ⟨rfl, hb⟩; have n0_ := AS (bbl (g := gb530) (o := .cells #[.string a1_0, .string a1_1] 53 (0, 0)) Z20 hb); have n1_ := AS (bst Z6 hb); clear BK530 HB; have BK530 := n0_; have HB := n1_; clear n0_ n1_; (try clear hb); (try clear hb2); (try clear hk); (try clear hi)))
  repeat (go_quiet (first | ((with_reducible refine gtd (N := 3) rfl ?_); refine bxe ?hg (N := 3) ?hd (cs := #[.string a1_0, .string a1_1]) (t := 53) ?hr ?_; (case hd => rfl); (case hg => rfl); (case hr => exact Z11); intro gb530 hg w5 hbox hb; have n0_ := AS (bst Z0 hb); have n1_ := AS (hbox); have n2_ := AS ((Z183 : w.heap.size ≤ gb530)); have n3_ := AS ((Z183 : w.heap.size ≤ gb530)); clear HB; have HB := n0_; have BK530 := n1_; have GW530 := n2_; have GE530 := n3_; clear n0_ n1_ n2_ n3_; clear hb hbox hg; have hcz6_0 := bc0 BK530.out; have hcz6_1 := bc1 BK530.out; have hfz6_0 := bfz BK530.out 0; have hfz6_1 := bfz BK530.out 1) | (go_at_call 68; (with_reducible refine (frSi.calls a1_0 a1_1 t531 _ ?side1 A3.out).mono ?_); (case side1 => exact Z196); rintro e w7 ⟨rfl, hb⟩; have n0_ := AS (bbl (g := gb530) (o := .cells #[.string a1_0, .string a1_1] 53 (0, 0)) Z20 hb); have n1_ := AS (bst Z6 hb); clear BK530 HB; have BK530 := n0_; have HB := n1_; clear n0_ n1_; (try clear hb); (try clear hb2); (try clear hk); (try clear hi))); try go_wp2_with (first | ((with_reducible refine gtd (N := 3) rfl ?_); refine bxe ?hg (N := 3) ?hd (cs := #[.string a1_0, .string a1_1]) (t := 53) ?hr ?_; (case hd => rfl); (case hg => rfl); (case hr => exact Z11); intro gb530 hg w5 hbox hb; have n0_ := AS (bst Z0 hb); have n1_ := AS (hbox); have n2_ := AS ((Z183 : w.heap.size ≤ gb530)); have n3_ := AS ((Z183 : w.heap.size ≤ gb530)); clear HB; have HB := n0_; have BK530 := n1_; have GW530 := n2_; have GE530 := n3_; clear n0_ n1_ n2_ n3_; clear hb hbox hg; have hcz6_0 := bc0 BK530.out; have hcz6_1 := bc1 BK530.out; have hfz6_0 := bfz BK530.out 0; have hfz6_1 := bfz BK530.out 1) | (go_at_call 68; (with_reducible refine (frSi.calls a1_0 a1_1 t531 _ ?side1 A3.out).mono ?_); (case side1 => exact Z196); rintro e w7 ⟨rfl, hb⟩; have n0_ := AS (bbl (g := gb530) (o := .cells #[.string a1_0, .string a1_1] 53 (0, 0)) Z20 hb); have n1_ := AS (bst Z6 hb); clear BK530 HB; have BK530 := n0_; have HB := n1_; clear n0_ n1_; (try clear hb); (try clear hb2); (try clear hk); (try clear hi))))
  go_ret2; exact ⟨_, Z3, Z79, Z6⟩
 ·rw [if_neg c4] at H
  have c4b0 : decide (t531 ≤ 0) = false := decide_eq_false c4; clear c4
  by_cases c8 : 0 ≤ (l0.length : Int)
  ·rw [if_pos c8] at H
   have c8b0 := eq_true c8; have c8b1 : decide (0 ≤ (l0.length : Int)) = true := decide_eq_true c8; clear c8
   by_cases c9 : ((l0.length : Int) : Int).toNat ≤ 35184372088832
   ·rw [if_pos c9] at H
    have c9b0 := eq_true c9; have c9b1 : decide (((l0.length : Int) : Int).toNat ≤ 35184372088832) = true := decide_eq_true c9; clear c9
    obtain ⟨y532, hy532⟩ : ∃ y_ : List Int, y_ = (List.replicate ((l0.length : Int) : Int).toNat 0) := ⟨_, rfl⟩
    replace H : (prime_factor.l0 k y532 a1_0 a1_1 l0 (l0.length : Int) 0) = some (r1, r2) := by first | (rw [hy532]; with_reducible exact H) | (have H2_ := (Option.bind_some _ _).symm.trans H; rw [hy532]; with_reducible exact H2_) | (have H2_ := (Option.bind_some _ _).symm.trans H; with_reducible exact H2_) | with_reducible exact H | (rw [hy532]; exact H) | exact H
    have Ny532 := AS hy532; clear hy532; have H' := AS H; clear H; go_enter Tryz.func61, Tryz.ntmps61; go_wp2_with (first | ((with_reducible refine gtd (N := 3) rfl ?_); refine bxe ?hg (N := 3) ?hd (cs := #[.string a1_0, .string a1_1]) (t := 53) ?hr ?_; (case hd => rfl); (case hg => rfl); (case hr => exact Z11); intro gb530 hg w10 hbox hb; have n0_ := AS (bst Z0 hb); have n1_ := AS (hbox); have n2_ := AS ((Z183 : w.heap.size ≤ gb530)); have n3_ := AS ((Z183 : w.heap.size ≤ gb530)); clear HB; have HB := n0_; have BK530 := n1_; have GW530 := n2_; have GE530 := n3_; clear n0_ n1_ n2_ n3_; clear hb hbox hg; have hcz11_0 := bc0 BK530.out; have hcz11_1 := bc1 BK530.out; have hfz11_0 := bfz BK530.out 0; have hfz11_1 := bfz BK530.out 1) | (go_at_call 68; (with_reducible refine (frSi.calls a1_0 a1_1 t531 _ ?side1 A3.out).mono ?_); (case side1 => exact Z196); rintro e w12 ⟨rfl, hb⟩; have n0_ := AS (bbl (g := gb530) (o := .cells #[.string a1_0, .string a1_1] 53 (0, 0)) Z20 hb); have n1_ := AS (bst Z6 hb); clear BK530 HB; have BK530 := n0_; have HB := n1_; clear n0_ n1_; (try clear hb); (try clear hb2); (try clear hk); (try clear hi)) | ((with_reducible refine gtd (N := 18) rfl ?_); refine Kd.R_make (Kd.int .i64) _ 3 rfl (N := 18) rfl 28 _ _ rfl (l0.length : Int) rfl rfl Tryz.underlying28 (.int .i64 0) 8 info3 rfl (by decide) (by omega) 0 (ok := fun _ => True) (okp := fun _ => True) rfl (fun _ hk => hk) trivial (of_decide_eq_true Z2) (Nat.le_trans (Nat.mul_le_mul_right _ (of_decide_eq_true Z2 : (l0.length : Int).toNat ≤ 35184372088832)) (by omega)) (Below.refl _ _) (Nat.le_refl _) ?_; intro v533 w13 ho14 hb hg_ hnew_; clear hg_ hnew_; (first | rw [← Ny532.out] at ho14 | (simp only [Int.reduceToNat] at ho14; rw [← Ny532.out] at ho14)); have n0_ := AS (Kd.R_lower ho14 (bsz Z6)); have n1_ := AS (bbl (g := gb530) (o := .cells #[.string a1_0, .string a1_1] 53 (0, 0)) Z20 hb); have n2_ := AS (bst Z6 hb); clear BK530 HB; have HO534 := n0_; have BK530 := n1_; have HB := n2_; clear n0_ n1_ n2_; clear hb ho14; have hcz15_0 := bc0 BK530.out; have hcz15_1 := bc1 BK530.out; have hfz15_0 := bfz BK530.out 0; have hfz15_1 := bfz BK530.out 1))
    repeat (go_quiet (first | ((with_reducible refine gtd (N := 3) rfl ?_); refine bxe ?hg (N := 3) ?hd (cs := #[.string a1_0, .string a1_1]) (t := 53) ?hr ?_; (case hd => rfl); (case hg => rfl); (case hr => exact Z11); intro gb530 hg w10 hbox hb; have n0_ := AS (bst Z0 hb); have n1_ := AS (hbox); have n2_ := AS ((Z183 : w.heap.size ≤ gb530)); have n3_ := AS ((Z183 : w.heap.size ≤ gb530)); clear HB; have HB := n0_; have BK530 := n1_; have GW530 := n2_; have GE530 := n3_; clear n0_ n1_ n2_ n3_; clear hb hbox hg; have hcz11_0 := bc0 BK530.out; have hcz11_1 := bc1 BK530.out; have hfz11_0 := bfz BK530.out 0; have hfz11_1 := bfz BK530.out 1) | (go_at_call 68; (with_reducible refine (frSi.calls a1_0 a1_1 t531 _ ?side1 A3.out).mono ?_); (case side1 => exact Z196); rintro e w12 ⟨rfl, hb⟩; have n0_ := AS (bbl (g := gb530) (o := .cells #[.string a1_0, .string a1_1] 53 (0, 0)) Z20 hb); have n1_ := AS (bst Z6 hb); clear BK530 HB; have BK530 := n0_; have HB := n1_; clear n0_ n1_; (try clear hb); (try clear hb2); (try clear hk); (try clear hi)) | ((with_reducible refine gtd (N := 18) rfl ?_); refine Kd.R_make (Kd.int .i64) _ 3 rfl (N := 18) rfl 28 _ _ rfl (l0.length : Int) rfl rfl Tryz.underlying28 (.int .i64 0) 8 info3 rfl (by decide) (by omega) 0 (ok := fun _ => True) (okp := fun _ => True) rfl (fun _ hk => hk) trivial (of_decide_eq_true Z2) (Nat.le_trans (Nat.mul_le_mul_right _ (of_decide_eq_true Z2 : (l0.length : Int).toNat ≤ 35184372088832)) (by omega)) (Below.refl _ _) (Nat.le_refl _) ?_; intro v533 w13 ho14 hb hg_ hnew_; clear hg_ hnew_; (first | rw [← Ny532.out] at ho14 | (simp only [Int.reduceToNat] at ho14; rw [← Ny532.out] at ho14)); have n0_ := AS (Kd.R_lower ho14 (bsz Z6)); have n1_ := AS (bbl (g := gb530) (o := .cells #[.string a1_0, .string a1_1] 53 (0, 0)) Z20 hb); have n2_ := AS (bst Z6 hb); clear BK530 HB; have HO534 := n0_; have BK530 := n1_; have HB := n2_; clear n0_ n1_ n2_; clear hb ho14; have hcz15_0 := bc0 BK530.out; have hcz15_1 := bc1 BK530.out; have hfz15_0 := bfz BK530.out 0; have hfz15_1 := bfz BK530.out 1)); try go_wp2_with (first | ((with_reducible refine gtd (N := 3) rfl ?_); refine bxe ?hg (N := 3) ?hd (cs := #[.string a1_0, .string a1_1]) (t := 53) ?hr ?_; (case hd => rfl); (case hg => rfl); (case hr => exact Z11); intro gb530 hg w10 hbox hb; have n0_ := AS (bst Z0 hb); have n1_ := AS (hbox); have n2_ := AS ((Z183 : w.heap.size ≤ gb530)); have n3_ := AS ((Z183 : w.heap.size ≤ gb530)); clear HB; have HB := n0_; have BK530 := n1_; have GW530 := n2_; have GE530 := n3_; clear n0_ n1_ n2_ n3_; clear hb hbox hg; have hcz11_0 := bc0 BK530.out; have hcz11_1 := bc1 BK530.out; have hfz11_0 := bfz BK530.out 0; have hfz11_1 := bfz BK530.out 1) | (go_at_call 68; (with_reducible refine (frSi.calls a1_0 a1_1 t531 _ ?side1 A3.out).mono ?_); (case side1 => exact Z196); rintro e w12 ⟨rfl, hb⟩; have n0_ := AS (bbl (g := gb530) (o := .cells #[.string a1_0, .string a1_1] 53 (0, 0)) Z20 hb); have n1_ := AS (bst Z6 hb); clear BK530 HB; have BK530 := n0_; have HB := n1_; clear n0_ n1_; (try clear hb); (try clear hb2); (try clear hk); (try clear hi)) | ((with_reducible refine gtd (N := 18) rfl ?_); refine Kd.R_make (Kd.int .i64) _ 3 rfl (N := 18) rfl 28 _ _ rfl (l0.length : Int) rfl rfl Tryz.underlying28 (.int .i64 0) 8 info3 rfl (by decide) (by omega) 0 (ok := fun _ => True) (okp := fun _ => True) rfl (fun _ hk => hk) trivial (of_decide_eq_true Z2) (Nat.le_trans (Nat.mul_le_mul_right _ (of_decide_eq_true Z2 : (l0.length : Int).toNat ≤ 35184372088832)) (by omega)) (Below.refl _ _) (Nat.le_refl _) ?_; intro v533 w13 ho14 hb hg_ hnew_; clear hg_ hnew_; (first | rw [← Ny532.out] at ho14 | (simp only [Int.reduceToNat] at ho14; rw [← Ny532.out] at ho14)); have n0_ := AS (Kd.R_lower ho14 (bsz Z6)); have n1_ := AS (bbl (g := gb530) (o := .cells #[.string a1_0, .string a1_1] 53 (0, 0)) Z20 hb); have n2_ := AS (bst Z6 hb); clear BK530 HB; have HO534 := n0_; have BK530 := n1_; have HB := n2_; clear n0_ n1_ n2_; clear hb ho14; have hcz15_0 := bc0 BK530.out; have hcz15_1 := bc1 BK530.out; have hfz15_0 := bfz BK530.out 0; have hfz15_1 := bfz BK530.out 1)))
    go_loopg [7, 8, 25] k (fun kq v7 v8 v25 w' => ∃ (x6_1 : List Int) (x7_1 : ByteArray) (x8_1 : ByteArray) (x25_1 : Int), v7 = .string x7_1 ∧ v8 = .string x8_1 ∧ v25 = .int .i64 x25_1 ∧ Aside0 (prime_factor.l0 kq x6_1 x7_1 x8_1 l0 (l0.length : Int) x25_1 = some (r1, r2)) ∧ Aside0 (kq ≤ k) ∧ Aside0 (Kd.R (Kd.int .i64) 3 w' w.heap.size (fun _ => True) v533 x6_1) ∧ Aside0 (w'.heap[gb530]? = some (.cells #[.string a1_0, .string a1_1] 53 (0, 0))) ∧ Aside0 (Below w.heap.size w w'))
    case atStart => exact ⟨(y532), (a1_0), (a1_1), (0), Z4, Z4, Z4, H', ⟨Nat.le_refl _⟩, ⟨by (with_reducible repeat (first | apply Kd.R_alloc | apply Kd.R_drewN | apply Kd.R_drew)); exact HO534.out⟩, ⟨Z20⟩, ⟨Z6⟩⟩
    case round =>
     clear H'; (try clear p2); (try clear c4); (try clear c4b0); (try clear c6); (try clear c8); (try clear c8b0); (try clear c8b1); (try clear c9); (try clear c9b0); (try clear c9b1); (try clear hcz11_0); (try clear hcz11_1); (try clear hcz15_0); (try clear hcz15_1); (try clear hcz6_0); (try clear hcz6_1); (try clear hfz11_0); (try clear hfz11_1); (try clear hfz15_0); (try clear hfz15_1); (try clear hfz6_0); (try clear hfz6_1); obtain ⟨x6_1, x7_1, x8_1, x25_1, rfl, rfl, rfl, HA, HK1, HO_6, BK530, HB⟩ := hrel
     cases gk with
     | zero => exact absurd HA.out (by simp [prime_factor.l0])
     | succ k1 =>
      have H := HA.out; clear HA
      simp only [prime_factor.l0] at H
      by_cases c16 : x25_1 < (l0.length : Int)
      ·rw [if_pos c16] at H
       have c16b0 : decide (x25_1 < (l0.length : Int)) = true := decide_eq_true c16; clear c16
       by_cases c17 : 0 ≤ x25_1
       ·rw [if_pos c17] at H
        have c17b0 : decide (0 ≤ x25_1) = true := decide_eq_true c17; clear c17
        by_cases c18 : x25_1 < (l0.length : Int)
        ·rw [if_pos c18] at H
         have c18b0 : decide (x25_1 < (l0.length : Int)) = true := decide_eq_true c18; clear c18; replace H := Option.bind_eq_some_iff.mp H; obtain ⟨⟨t536, t537⟩, A190, H⟩ := H; replace H : ((prime_divide.f k1 x8_1 (rd l0 x25_1)).bind fun bt538 => (if x25_1 < (x6_1.length : Int) then (prime_factor.l0 k1 (x6_1.set (x25_1 : Int).toNat (wrap64 (t537 - bt538.2))) t536 bt538.1 l0 (l0.length : Int) (wrap64 (x25_1 + 1))) else (none))) = some (r1, r2) := H; have A19 := AS A190; clear A190; replace H := Option.bind_eq_some_iff.mp H; obtain ⟨⟨t538, t539⟩, A200, H⟩ := H; replace H : (if x25_1 < (x6_1.length : Int) then (prime_factor.l0 k1 (x6_1.set (x25_1 : Int).toNat (wrap64 (t537 - t539))) t536 t538 l0 (l0.length : Int) (wrap64 (x25_1 + 1))) else (none)) = some (r1, r2) := H; have A20 := AS A200; clear A200
         by_cases c21 : x25_1 < (x6_1.length : Int)
         ·rw [if_pos c21] at H
          have c21b0 : decide (x25_1 < (x6_1.length : Int)) = true := decide_eq_true c21; clear c21
          obtain ⟨y540, hy540⟩ : ∃ y_ : List Int, y_ = (x6_1.set (x25_1 : Int).toNat (wrap64 (t537 - t539))) := ⟨_, rfl⟩
          replace H : (prime_factor.l0 k1 y540 t536 t538 l0 (l0.length : Int) (wrap64 (x25_1 + 1))) = some (r1, r2) := by first | (rw [hy540]; with_reducible exact H) | (have H2_ := (Option.bind_some _ _).symm.trans H; rw [hy540]; with_reducible exact H2_) | (have H2_ := (Option.bind_some _ _).symm.trans H; with_reducible exact H2_) | with_reducible exact H | (rw [hy540]; exact H) | exact H
          have Ny540 := AS hy540; clear hy540; have H' := AS H; clear H; have p535 : 0 ≤ (x25_1 : Int) := of_decide_eq_true Z2; have q535 : x25_1 < (l0.length : Int) := of_decide_eq_true Z2; obtain ⟨ad535, e535, hx535_0⟩ := Kd.at_int HR0.out x25_1 p535 q535; cases e535; replace hx535_0 := (HB.out.cell (World.block_lt_of_cell? w _ hx535_0)).trans hx535_0; replace p535 := eq_true p535; replace q535 := eq_true q535; go_wp2_with (first | (go_at_call 91; (with_reducible refine (prime_divide.calls k1 x7_1 (rd l0 x25_1) t536 t537 _ ?side1 A19.out).mono ?_); (case side1 => exact Z196); rintro e w23 ⟨rfl, hb⟩; have n0_ := AS (Kd.R_below Z53 hb); have n1_ := AS (bbl (g := gb530) (o := .cells #[.string a1_0, .string a1_1] 53 (0, 0)) Z20 hb); have n2_ := AS (bst Z6 hb); clear HO_6 BK530 HB; have HO_6 := n0_; have BK530 := n1_; have HB := n2_; clear n0_ n1_ n2_; (try clear hb); (try clear hb2); (try clear hk); (try clear hi)) | (go_at_call 91; (with_reducible refine (prime_divide.calls k1 x8_1 (rd l0 x25_1) t538 t539 _ ?side1 A20.out).mono ?_); (case side1 => exact Z196); rintro e w24 ⟨rfl, hb⟩; have n0_ := AS (Kd.R_below Z53 hb); have n1_ := AS (bbl (g := gb530) (o := .cells #[.string a1_0, .string a1_1] 53 (0, 0)) Z20 hb); have n2_ := AS (bst Z6 hb); clear HO_6 BK530 HB; have HO_6 := n0_; have BK530 := n1_; have HB := n2_; clear n0_ n1_ n2_; (try clear hb); (try clear hb2); (try clear hk); (try clear hi); have p22 : 0 ≤ (x25_1 : Int) := of_decide_eq_true Z2; have q22 : (x25_1 : Int) < ((x6_1.length : Int) : Int) := of_decide_eq_true Z2; obtain ⟨go22, co22, eo22, gb22, gl22, cl22, HG22⟩ := Kd.R_form HO_6.out (by omega); (first | cases eo22 | (injection eo22 with ea_ en_ ec_; (first | subst ea_ | (injection ea_ with ea_; subst ea_)); subst ec_; clear en_)); have GB22 := AS gb22; have GG22 := AS HG22; clear gb22 gl22 HG22; obtain ⟨hx22_0, hf22_0⟩ := Kd.R_celln 0 HO_6.out (x25_1 : Int) p22 q22; replace p22 := eq_true p22; replace q22 := eq_true q22; obtain ⟨hy25_, hz25_⟩ := Kd.R_celln 0 HO_6.out (x25_1 : Int) (of_decide_eq_true Z2) (of_decide_eq_true Z2); have HP25 := Kd.R_putg HO_6.out (x25_1 : Int) (wrap64 (t537 - t539))) | ((with_reducible refine gate_store (t := 3) (p := 47) rfl ?_); (try (rw [drewN_self w24]; generalize hq_ : World.drewN w24 _ = w24; have n0_ := AS (Kd.R_at hq_ HO_6.out); have n1_ := AS (blk_at hq_ BK530.out); have n2_ := AS (below_at hq_ HB.out); clear hq_ HO_6 BK530 HB; have HO_6 := n0_; have BK530 := n1_; have HB := n2_; clear n0_ n1_ n2_; (try (obtain ⟨hy25_, hz25_⟩ := Kd.R_celln 0 HO_6.out (x25_1 : Int) (of_decide_eq_true Z2) (of_decide_eq_true Z2))); (try (have HP25 := Kd.R_putg HO_6.out (x25_1 : Int) (wrap64 (t537 - t539)))))); refine store_event (t := 3) (p := 47) (v := ?vo_w26) (w1 := (w24.setCell ⟨go22, (x25_1 : Int).toNat, none⟩ (.int .i64 (wrap64 (t537 - t539))))) ?hg ?ho ?hn ?hr ?_; (case ho => rfl); (case hg => rfl); (case hn => rfl); (case hr => exact Z11); intro w26 hw; have hg : w24.grownBy w26 (some go22) := Z179; have hp_ : Kd.R (Kd.int .i64) 3 w26 w.heap.size (fun _ => True) (.slice (some ⟨go22, 0, none⟩) x6_1.length co22) y540 := Z178; clear HP25; have n0_ := AS (hp_); have n1_ := AS (bgr (g := gb530) (o := .cells #[.string a1_0, .string a1_1] 53 (0, 0)) Z20 hg (Kd.R_ne HO_6.out BK530.out (by decide))); have n2_ := AS ((Z170 : Below w.heap.size w w26)); clear HO_6 BK530 HB; have HO_6 := n0_; have BK530 := n1_; have HB := n2_; clear n0_ n1_ n2_; clear hg hw hp_))
          repeat (go_quiet (first | (go_at_call 91; (with_reducible refine (prime_divide.calls k1 x7_1 (rd l0 x25_1) t536 t537 _ ?side1 A19.out).mono ?_); (case side1 => exact Z196); rintro e w23 ⟨rfl, hb⟩; have n0_ := AS (Kd.R_below Z53 hb); have n1_ := AS (bbl (g := gb530) (o := .cells #[.string a1_0, .string a1_1] 53 (0, 0)) Z20 hb); have n2_ := AS (bst Z6 hb); clear HO_6 BK530 HB; have HO_6 := n0_; have BK530 := n1_; have HB := n2_; clear n0_ n1_ n2_; (try clear hb); (try clear hb2); (try clear hk); (try clear hi)) | (go_at_call 91; (with_reducible refine (prime_divide.calls k1 x8_1 (rd l0 x25_1) t538 t539 _ ?side1 A20.out).mono ?_); (case side1 => exact Z196); rintro e w24 ⟨rfl, hb⟩; have n0_ := AS (Kd.R_below Z53 hb); have n1_ := AS (bbl (g := gb530) (o := .cells #[.string a1_0, .string a1_1] 53 (0, 0)) Z20 hb); have n2_ := AS (bst Z6 hb); clear HO_6 BK530 HB; have HO_6 := n0_; have BK530 := n1_; have HB := n2_; clear n0_ n1_ n2_; (try clear hb); (try clear hb2); (try clear hk); (try clear hi); have p22 : 0 ≤ (x25_1 : Int) := of_decide_eq_true Z2; have q22 : (x25_1 : Int) < ((x6_1.length : Int) : Int) := of_decide_eq_true Z2; obtain ⟨go22, co22, eo22, gb22, gl22, cl22, HG22⟩ := Kd.R_form HO_6.out (by omega); (first | cases eo22 | (injection eo22 with ea_ en_ ec_; (first | subst ea_ | (injection ea_ with ea_; subst ea_)); subst ec_; clear en_)); have GB22 := AS gb22; have GG22 := AS HG22; clear gb22 gl22 HG22; obtain ⟨hx22_0, hf22_0⟩ := Kd.R_celln 0 HO_6.out (x25_1 : Int) p22 q22; replace p22 := eq_true p22; replace q22 := eq_true q22; obtain ⟨hy25_, hz25_⟩ := Kd.R_celln 0 HO_6.out (x25_1 : Int) (of_decide_eq_true Z2) (of_decide_eq_true Z2); have HP25 := Kd.R_putg HO_6.out (x25_1 : Int) (wrap64 (t537 - t539))) | ((with_reducible refine gate_store (t := 3) (p := 47) rfl ?_); (try (rw [drewN_self w24]; generalize hq_ : World.drewN w24 _ = w24; have n0_ := AS (Kd.R_at hq_ HO_6.out); have n1_ := AS (blk_at hq_ BK530.out); have n2_ := AS (below_at hq_ HB.out); clear hq_ HO_6 BK530 HB; have HO_6 := n0_; have BK530 := n1_; have HB := n2_; clear n0_ n1_ n2_; (try (obtain ⟨hy25_, hz25_⟩ := Kd.R_celln 0 HO_6.out (x25_1 : Int) (of_decide_eq_true Z2) (of_decide_eq_true Z2))); (try (have HP25 := Kd.R_putg HO_6.out (x25_1 : Int) (wrap64 (t537 - t539)))))); refine store_event (t := 3) (p := 47) (v := ?vo_w26) (w1 := (w24.setCell ⟨go22, (x25_1 : Int).toNat, none⟩ (.int .i64 (wrap64 (t537 - t539))))) ?hg ?ho ?hn ?hr ?_; (case ho => rfl); (case hg => rfl); (case hn => rfl); (case hr => exact Z11); intro w26 hw; have hg : w24.grownBy w26 (some go22) := Z179; have hp_ : Kd.R (Kd.int .i64) 3 w26 w.heap.size (fun _ => True) (.slice (some ⟨go22, 0, none⟩) x6_1.length co22) y540 := Z178; clear HP25; have n0_ := AS (hp_); have n1_ := AS (bgr (g := gb530) (o := .cells #[.string a1_0, .string a1_1] 53 (0, 0)) Z20 hg (Kd.R_ne HO_6.out BK530.out (by decide))); have n2_ := AS ((Z170 : Below w.heap.size w w26)); clear HO_6 BK530 HB; have HO_6 := n0_; have BK530 := n1_; have HB := n2_; clear n0_ n1_ n2_; clear hg hw hp_)); try go_wp2_with (first | (go_at_call 91; (with_reducible refine (prime_divide.calls k1 x7_1 (rd l0 x25_1) t536 t537 _ ?side1 A19.out).mono ?_); (case side1 => exact Z196); rintro e w23 ⟨rfl, hb⟩; have n0_ := AS (Kd.R_below Z53 hb); have n1_ := AS (bbl (g := gb530) (o := .cells #[.string a1_0, .string a1_1] 53 (0, 0)) Z20 hb); have n2_ := AS (bst Z6 hb); clear HO_6 BK530 HB; have HO_6 := n0_; have BK530 := n1_; have HB := n2_; clear n0_ n1_ n2_; (try clear hb); (try clear hb2); (try clear hk); (try clear hi)) | (go_at_call 91; (with_reducible refine (prime_divide.calls k1 x8_1 (rd l0 x25_1) t538 t539 _ ?side1 A20.out).mono ?_); (case side1 => exact Z196); rintro e w24 ⟨rfl, hb⟩; have n0_ := AS (Kd.R_below Z53 hb); have n1_ := AS (bbl (g := gb530) (o := .cells #[.string a1_0, .string a1_1] 53 (0, 0)) Z20 hb); have n2_ := AS (bst Z6 hb); clear HO_6 BK530 HB; have HO_6 := n0_; have BK530 := n1_; have HB := n2_; clear n0_ n1_ n2_; (try clear hb); (try clear hb2); (try clear hk); (try clear hi); have p22 : 0 ≤ (x25_1 : Int) := of_decide_eq_true Z2; have q22 : (x25_1 : Int) < ((x6_1.length : Int) : Int) := of_decide_eq_true Z2; obtain ⟨go22, co22, eo22, gb22, gl22, cl22, HG22⟩ := Kd.R_form HO_6.out (by omega); (first | cases eo22 | (injection eo22 with ea_ en_ ec_; (first | subst ea_ | (injection ea_ with ea_; subst ea_)); subst ec_; clear en_)); have GB22 := AS gb22; have GG22 := AS HG22; clear gb22 gl22 HG22; obtain ⟨hx22_0, hf22_0⟩ := Kd.R_celln 0 HO_6.out (x25_1 : Int) p22 q22; replace p22 := eq_true p22; replace q22 := eq_true q22; obtain ⟨hy25_, hz25_⟩ := Kd.R_celln 0 HO_6.out (x25_1 : Int) (of_decide_eq_true Z2) (of_decide_eq_true Z2); have HP25 := Kd.R_putg HO_6.out (x25_1 : Int) (wrap64 (t537 - t539))) | ((with_reducible refine gate_store (t := 3) (p := 47) rfl ?_); (try (rw [drewN_self w24]; generalize hq_ : World.drewN w24 _ = w24; have n0_ := AS (Kd.R_at hq_ HO_6.out); have n1_ := AS (blk_at hq_ BK530.out); have n2_ := AS (below_at hq_ HB.out); clear hq_ HO_6 BK530 HB; have HO_6 := n0_; have BK530 := n1_; have HB := n2_; clear n0_ n1_ n2_; (try (obtain ⟨hy25_, hz25_⟩ := Kd.R_celln 0 HO_6.out (x25_1 : Int) (of_decide_eq_true Z2) (of_decide_eq_true Z2))); (try (have HP25 := Kd.R_putg HO_6.out (x25_1 : Int) (wrap64 (t537 - t539)))))); refine store_event (t := 3) (p := 47) (v := ?vo_w26) (w1 := (w24.setCell ⟨go22, (x25_1 : Int).toNat, none⟩ (.int .i64 (wrap64 (t537 - t539))))) ?hg ?ho ?hn ?hr ?_; (case ho => rfl); (case hg => rfl); (case hn => rfl); (case hr => exact Z11); intro w26 hw; have hg : w24.grownBy w26 (some go22) := Z179; have hp_ : Kd.R (Kd.int .i64) 3 w26 w.heap.size (fun _ => True) (.slice (some ⟨go22, 0, none⟩) x6_1.length co22) y540 := Z178; clear HP25; have n0_ := AS (hp_); have n1_ := AS (bgr (g := gb530) (o := .cells #[.string a1_0, .string a1_1] 53 (0, 0)) Z20 hg (Kd.R_ne HO_6.out BK530.out (by decide))); have n2_ := AS ((Z170 : Below w.heap.size w w26)); clear HO_6 BK530 HB; have HO_6 := n0_; have BK530 := n1_; have HB := n2_; clear n0_ n1_ n2_; clear hg hw hp_)))
          go_roundg k1
          case measure => have := HK1.out; omega
          case rel => exact ⟨(y540), (t536), (t538), (wrap64 (x25_1 + 1)), Z4, Z4, Z4, H', ⟨Z88⟩, ⟨Z53⟩, ⟨Z20⟩, ⟨Z6⟩⟩
         ·rw [if_neg c21] at H
          exact absurd H (by simp)
        ·rw [if_neg c18] at H
         exact absurd H (by simp)
       ·rw [if_neg c17] at H
        exact absurd H (by simp)
      ·rw [if_neg c16] at H
       have c16b0 : decide (x25_1 < (l0.length : Int)) = false := decide_eq_false c16; clear c16
       by_cases c27 : x7_1.toList = ([49] : List UInt8)
       ·rw [if_pos c27] at H
        have c27b0 : (x7_1.toList == ([49] : List UInt8)) = true := beq_iff_eq.mpr c27; have c27b1 : (x7_1.toList != ([49] : List UInt8)) = false := bne_eq_false_iff_eq.mpr c27; clear c27
        simp only [Option.some.injEq, Prod.mk.injEq] at H
        obtain ⟨rfl, rfl⟩ := H; go_wp2
        repeat (go_quiet (fail); try go_wp2)
        go_ret2; exact ⟨_, Z3, Z53, Z6⟩
       ·rw [if_neg c27] at H
        have c27b0 : (x7_1.toList == ([49] : List UInt8)) = false := beq_eq_false_iff_ne.mpr c27; have c27b1 : (x7_1.toList != ([49] : List UInt8)) = true := bne_iff_ne.mpr c27
        simp only [Option.some.injEq, Prod.mk.injEq] at H
        obtain ⟨rfl, rfl⟩ := H; go_wp2
        repeat (go_quiet (fail); try go_wp2)
        go_ret2; exact ⟨_, Z3, Z53, Z6⟩
   ·rw [if_neg c9] at H
    exact absurd H (by simp)
  ·rw [if_neg c8] at H
   exact absurd H (by simp)

section
open Go.Shelf
def prime_far.f (l0 : List Int) : Option (Bool) := some (l0.any fun n => decide (1000 < n) || decide (n < -1000))
set_option maxHeartbeats 4000000 in
theorem prime_far.calls (A0 : Option Addr) (c0 : Nat) (l0 : List Int) (r : Bool) (w : World) (hr0 : Kd.C (Kd.int .i64) w A0 l0.length l0) (hc0 : l0.length ≤ c0) (hG : GL w) (h : prime_far.f l0 = some r) :
  Calls Tryz.prog 116 #[.slice A0 l0.length c0] w fun e w' => e = .returned (.bool r) ∧ Below w.heap.size w w' := by
 unfold prime_far.f at h; obtain rfl := Option.some.inj h
 have hp : PredI 139 #[] (fun n => decide (1000 < n) || decide (n < -1000)) w := fun W x _ => by
  by_cases h1 : 1000 < x
  ·go_enter Tryz.func139, Tryz.ntmps139; go_wp2; go_ret; exact ⟨ret_bool (by simp [h1]), 0, rfl⟩
  ·by_cases h2 : x < -1000
   ·go_enter Tryz.func139, Tryz.ntmps139; go_wp2; go_ret; exact ⟨ret_bool (by simp [h2]), 0, rfl⟩
   ·go_enter Tryz.func139, Tryz.ntmps139; go_wp2; go_ret; exact ⟨ret_bool (by simp [h1, h2]), 0, rfl⟩
 have hc := AS (containsFunc_row 139 #[] _ A0 c0 l0 w (enters_of Tryz.func139 Z5 rfl) hp hr0); clear hp hr0 h hG; go_enter Tryz.func116, Tryz.ntmps116; go_wp2_with (go_at_call 75; refine (hc.out).mono ?_; rintro e w' ⟨rfl, q, rfl⟩); go_ret; exact ⟨rfl, below_drewN' _ _⟩
end

def prime_Factor.f (k : Nat) (l0 : List Int) (a1_0 : ByteArray) (a1_1 : ByteArray) : Option (List Int × Int) := (prime_open.f k l0 a1_0 a1_1).bind fun t542 => (if t542 = 0 then ((frSi.f a1_0 a1_1).bind fun t543 => (if t543 ≤ 0 then (none) else ((prime_factor.f k l0 a1_0 a1_1).bind fun bt544 => (if bt544.2 = true then ((prime_far.f bt544.1).bind fun t548 => (if t548 = true then (none) else (some (bt544.1, 0)))) else (none))))) else (none))
set_option maxHeartbeats 8000000 in
set_option maxRecDepth 100000 in
theorem prime_Factor.calls (k : Nat) (A0 : Option Addr) (c0 : Nat) (l0 : List Int) (a1_0 : ByteArray) (a1_1 : ByteArray) (r1 : List Int) (r2 : Int) (w : World) (hr0 : Kd.C (Kd.int .i64) w A0 l0.length l0) (hc0 : l0.length ≤ c0) (hG : GL w) (h : prime_Factor.f k l0 a1_0 a1_1 = some (r1, r2)) :
  Calls Tryz.prog 87 #[.slice A0 l0.length c0, .agg #[.string a1_0, .string a1_1]] w fun e w' => ∃ v0_ : Value, e = .returned (.tuple #[v0_, .int .i64 r2]) ∧ Kd.R (Kd.int .i64) 3 w' w.heap.size (fun _ => True) v0_ r1 ∧ Below w.heap.size w w' := by
 have hu53 := Tryz.underlying53; have HR0 := AS hr0; have HC0 := AS hc0; clear hr0 hc0; have HB := AS (Below.refl w.heap.size w); have H : ((prime_open.f k l0 a1_0 a1_1).bind fun t542 => (if t542 = 0 then ((frSi.f a1_0 a1_1).bind fun t543 => (if t543 ≤ 0 then (none) else ((prime_factor.f k l0 a1_0 a1_1).bind fun bt544 => (if bt544.2 = true then ((prime_far.f bt544.1).bind fun t548 => (if t548 = true then (none) else (some (bt544.1, 0)))) else (none))))) else (none))) = some (r1, r2) := h; clear h; replace H := Option.bind_eq_some_iff.mp H; obtain ⟨t542, A30, H⟩ := H; replace H : (if t542 = 0 then ((frSi.f a1_0 a1_1).bind fun t543 => (if t543 ≤ 0 then (none) else ((prime_factor.f k l0 a1_0 a1_1).bind fun bt544 => (if bt544.2 = true then ((prime_far.f bt544.1).bind fun t548 => (if t548 = true then (none) else (some (bt544.1, 0)))) else (none))))) else (none)) = some (r1, r2) := H; have A3 := AS A30; clear A30
 by_cases c4 : t542 = 0
 ·rw [if_pos c4] at H
  have c4b0 : (t542 == 0) = true := beq_iff_eq.mpr c4; have c4b1 : (t542 != 0) = false := bne_eq_false_iff_eq.mpr c4; clear c4; replace H := Option.bind_eq_some_iff.mp H; obtain ⟨t543, A50, H⟩ := H; replace H : (if t543 ≤ 0 then (none) else ((prime_factor.f k l0 a1_0 a1_1).bind fun bt544 => (if bt544.2 = true then ((prime_far.f bt544.1).bind fun t548 => (if t548 = true then (none) else (some (bt544.1, 0)))) else (none)))) = some (r1, r2) := H; have A5 := AS A50; clear A50
  by_cases c6 : t543 ≤ 0
  ·rw [if_pos c6] at H
   exact absurd H (by simp)
  ·rw [if_neg c6] at H
   have c6b0 : decide (t543 ≤ 0) = false := decide_eq_false c6; clear c6; replace H := Option.bind_eq_some_iff.mp H; obtain ⟨⟨t544, t547⟩, A70, H⟩ := H; replace H : (if t547 = true then ((prime_far.f t544).bind fun t548 => (if t548 = true then (none) else (some (t544, 0)))) else (none)) = some (r1, r2) := H; have A7 := AS A70; clear A70
   by_cases c8 : t547 = true
   ·subst c8
    rw [if_pos rfl] at H
    replace H := Option.bind_eq_some_iff.mp H; obtain ⟨t548, A90, H⟩ := H; replace H : (if t548 = true then (none) else (some (t544, 0))) = some (r1, r2) := H; have A9 := AS A90; clear A90
    by_cases c10 : t548 = true
    ·subst c10
     rw [if_pos rfl] at H
     exact absurd H (by simp)
    ·replace c10 := Bool.eq_false_iff.mpr c10; subst c10
     rw [if_neg (show ¬ (false = true) by decide)] at H
     simp only [Option.some.injEq, Prod.mk.injEq] at H
     obtain ⟨rfl, rfl⟩ := H; go_enter Tryz.func87, Tryz.ntmps87; go_wp2_with (first | ((with_reducible refine gtd (N := 3) rfl ?_); refine bxe ?hg (N := 3) ?hd (cs := #[.string a1_0, .string a1_1]) (t := 53) ?hr ?_; (case hd => rfl); (case hg => rfl); (case hr => exact Z11); intro gb541 hg w11 hbox hb; have BK541 := AS (hbox); have GW541 := AS ((Z183 : w.heap.size ≤ gb541)); have GE541 := AS ((Z183 : w.heap.size ≤ gb541)); replace HB := AS (bst Z0 hb); clear hb hbox hg; have hcz12_0 := bc0 BK541.out; have hcz12_1 := bc1 BK541.out; have hfz12_0 := bfz BK541.out 0; have hfz12_1 := bfz BK541.out 1) | ((with_reducible refine gtc (f := 60) rfl ?_); refine gsL (some 11) rfl rfl Tryz.func60 Z5 rfl #[.slice A0 l0.length c0, .agg #[.string a1_0, .string a1_1]] rfl Z1 ?_; (with_reducible refine (prime_open.calls k _ _ l0 a1_0 a1_1 t542 _ ?side1 ?side2 ?side3 A3.out).mono ?_); (case side1 => exact Z10); (case side2 => exact Z72); (case side3 => exact Z218); rintro e w13 ⟨rfl, hb⟩; refine ⟨_, rfl, ?_⟩; replace BK541 := AS (bbl (g := gb541) (o := .cells #[.string a1_0, .string a1_1] 53 (0, 0)) Z124 hb); replace HB := AS (bst Z31 hb); (try clear hb); (try clear hb2); (try clear hk); (try clear hi); have hcz14_0 := bc0 BK541.out; have hcz14_1 := bc1 BK541.out; have hfz14_0 := bfz BK541.out 0; have hfz14_1 := bfz BK541.out 1) | ((with_reducible refine gtc (f := 68) rfl ?_); refine gsL (some 16) rfl rfl Tryz.func68 Z5 rfl #[.agg #[.string a1_0, .string a1_1]] rfl Z1 ?_; (with_reducible refine (frSi.calls a1_0 a1_1 t543 _ ?side1 A5.out).mono ?_); (case side1 => exact Z218); rintro e w15 ⟨rfl, hb⟩; refine ⟨_, rfl, ?_⟩; replace BK541 := AS (bbl (g := gb541) (o := .cells #[.string a1_0, .string a1_1] 53 (0, 0)) Z124 hb); replace HB := AS (bst Z31 hb); (try clear hb); (try clear hb2); (try clear hk); (try clear hi); have hcz16_0 := bc0 BK541.out; have hcz16_1 := bc1 BK541.out; have hfz16_0 := bfz BK541.out 0; have hfz16_1 := bfz BK541.out 1) | ((with_reducible refine gtc (f := 61) rfl ?_); refine gsL (some 21) rfl rfl Tryz.func61 Z5 rfl #[.slice A0 l0.length c0, .agg #[.string a1_0, .string a1_1]] rfl Z1 ?_; (with_reducible refine (prime_factor.calls k _ _ l0 a1_0 a1_1 t544 true _ ?side1 ?side2 ?side3 A7.out).mono ?_); (case side1 => exact Z10); (case side2 => exact Z72); (case side3 => exact Z218); rintro e w17 ⟨v545, rfl, ho0, hb⟩; refine ⟨_, rfl, ?_⟩; have HO546 := AS (Kd.R_lower ho0 (bsz Z31)); replace BK541 := AS (bbl (g := gb541) (o := .cells #[.string a1_0, .string a1_1] 53 (0, 0)) Z124 hb); replace HB := AS (bst Z31 hb); (try clear hb); (try clear hb2); (try clear hk); (try clear hi); (try clear ho0); obtain ⟨Ao18, co18, eo18⟩ := Kd.R_slice HO546.out; subst eo18) | ((with_reducible refine gtc (f := 116) rfl ?_); refine gsL (some 27) rfl rfl Tryz.func116 Z5 rfl #[.slice Ao18 t544.length co18] rfl Z1 ?_; (with_reducible refine (prime_far.calls _ _ t544 false _ ?side1 ?side2 ?side3 A9.out).mono ?_); (case side1 => repeat (first | exact (Kd.R_reads' HO546.out).2.2 | (with_reducible refine Kd.C_alloc ?_ _) | (with_reducible refine Kd.C_drewN ?_ _) | (with_reducible refine Kd.C_drew ?_))); (case side2 => exact (Kd.R_reads' HO546.out).2.1); (case side3 => exact Z218); rintro e w19 ⟨rfl, hb⟩; refine ⟨_, rfl, ?_⟩; replace HO546 := AS (Kd.R_below Z154 hb); replace BK541 := AS (bbl (g := gb541) (o := .cells #[.string a1_0, .string a1_1] 53 (0, 0)) Z124 hb); replace HB := AS (bst Z31 hb); (try clear hb); (try clear hb2); (try clear hk); (try clear hi))); go_ret2; exact ⟨_, Z3, Z154, Z31⟩
   ·replace c8 := Bool.eq_false_iff.mpr c8; subst c8
    rw [if_neg (show ¬ (false = true) by decide)] at H
    exact absurd H (by simp)
 ·rw [if_neg c4] at H
  exact absurd H (by simp)
def target_number.f (k : Nat) (l0 : List Int) (a1 : Int) : Option (List Int × Bool) := (fraction_Of.f k a1 1).bind fun bt549 => (if bt549.2.2 = 0 then ((prime_Factor.f k l0 bt549.1 bt549.2.1).bind fun bt553 => (some (bt553.1, (bt553.2 == 0)))) else (some (([] : List Int), false)))
set_option maxHeartbeats 8000000 in
set_option maxRecDepth 100000 in
theorem target_number.calls (k : Nat) (A0 : Option Addr) (c0 : Nat) (l0 : List Int) (a1 : Int) (r1 : List Int) (r2 : Bool) (w : World) (hr0 : Kd.C (Kd.int .i64) w A0 l0.length l0) (hc0 : l0.length ≤ c0) (hG : GL w) (h : target_number.f k l0 a1 = some (r1, r2)) :
  Calls Tryz.prog 57 #[.slice A0 l0.length c0, .int .i64 a1] w fun e w' => ∃ v0_ : Value, e = .returned (.tuple #[v0_, .bool r2]) ∧ Kd.R (Kd.int .i64) 3 w' w.heap.size (fun _ => True) v0_ r1 ∧ Below w.heap.size w w' := by
 have hu53 := Tryz.underlying53; have HR0 := AS hr0; have HC0 := AS hc0; clear hr0 hc0; have HB := AS (Below.refl w.heap.size w); have H : ((fraction_Of.f k a1 1).bind fun bt549 => (if bt549.2.2 = 0 then ((prime_Factor.f k l0 bt549.1 bt549.2.1).bind fun bt553 => (some (bt553.1, (bt553.2 == 0)))) else (some (([] : List Int), false)))) = some (r1, r2) := h; clear h; replace H := Option.bind_eq_some_iff.mp H; obtain ⟨⟨t549, t550, t551⟩, A30, H⟩ := H; replace H : (if t551 = 0 then ((prime_Factor.f k l0 t549 t550).bind fun bt553 => (some (bt553.1, (bt553.2 == 0)))) else (some (([] : List Int), false))) = some (r1, r2) := H; have A3 := AS A30; clear A30
 by_cases c4 : t551 = 0
 ·rw [if_pos c4] at H
  have c4b0 : (t551 == 0) = true := beq_iff_eq.mpr c4; have c4b1 : (t551 != 0) = false := bne_eq_false_iff_eq.mpr c4; clear c4; replace H := Option.bind_eq_some_iff.mp H; obtain ⟨⟨t553, t556⟩, A50, H⟩ := H; replace H : (some (t553, (t556 == 0))) = some (r1, r2) := H; have A5 := AS A50; clear A50
  simp only [Option.some.injEq, Prod.mk.injEq] at H
  obtain ⟨rfl, rfl⟩ := H; go_enter Tryz.func57, Tryz.ntmps57; go_wp2_with (first | ((with_reducible refine gtc (f := 29) rfl ?_); refine gsL (some 11) rfl rfl Tryz.func29 Z5 rfl #[.int .i64 a1, .int .i64 1] rfl Z1 ?_; (with_reducible refine (fraction_Of.calls k a1 1 t549 t550 t551 _ ?side1 A3.out).mono ?_); (case side1 => exact Z182); rintro e w6 ⟨rfl, hb⟩; refine ⟨_, rfl, ?_⟩; replace HB := AS (bst Z0 hb); (try clear hb); (try clear hb2); (try clear hk); (try clear hi)) | ((with_reducible refine gtd (N := 6) rfl ?_); refine bxe ?hg (N := 6) ?hd (cs := #[.string (⟨#[]⟩ : ByteArray), .string (⟨#[]⟩ : ByteArray)]) (t := 53) ?hr ?_; (case hd => rfl); (case hg => rfl); (case hr => exact Z11); intro gb552 hg w7 hbox hb; have BK552 := AS (hbox); have GW552 := AS ((Z183 : w.heap.size ≤ gb552)); have GE552 := AS ((Z183 : w.heap.size ≤ gb552)); replace HB := AS (bst Z0 hb); clear hb hbox hg; have hcz8_0 := bc0 BK552.out; have hcz8_1 := bc1 BK552.out; have hfz8_0 := bfz BK552.out 0; have hfz8_1 := bfz BK552.out 1) | ((with_reducible refine gtc (f := 87) rfl ?_); refine gsL (some 19) rfl rfl Tryz.func87 Z5 rfl #[.slice A0 l0.length c0, .agg #[.string t549, .string t550]] rfl Z1 ?_; (with_reducible refine (prime_Factor.calls k _ _ l0 t549 t550 t553 t556 _ ?side1 ?side2 ?side3 A5.out).mono ?_); (case side1 => exact Kd.C_below HR0.out Z59); (case side2 => exact Z72); (case side3 => exact GL.below hG Z59); rintro e w9 ⟨v554, rfl, ho0, hb⟩; refine ⟨_, rfl, ?_⟩; have HO555 := AS (Kd.R_lower ho0 (bsz Z59)); replace BK552 := AS (bbl (g := gb552) (o := .cells #[.string t549, .string t550] 53 (0, 0)) (by (with_reducible repeat (first | apply bdn | apply bdr | apply bal)); refine bpt (cs := #[.string t549, .string (⟨#[]⟩ : ByteArray)]) ?_ 1 _ rfl; (with_reducible repeat (first | apply bdn | apply bdr | apply bal)); refine bpt (cs := #[.string (⟨#[]⟩ : ByteArray), .string (⟨#[]⟩ : ByteArray)]) ?_ 0 _ rfl; (with_reducible repeat (first | apply bdn | apply bdr | apply bal)); exact BK552.out) hb); replace HB := AS (bst Z59 hb); (try clear hb); (try clear hb2); (try clear hk); (try clear hi); (try clear ho0))); go_ret2; exact ⟨_, Z3, by (with_reducible repeat (first | apply Kd.R_alloc | apply Kd.R_drewN | apply Kd.R_drew)); exact HO555.out, Z59⟩
 ·rw [if_neg c4] at H
  have c4b0 : (t551 == 0) = false := beq_eq_false_iff_ne.mpr c4; have c4b1 : (t551 != 0) = true := bne_iff_ne.mpr c4
  simp only [Option.some.injEq, Prod.mk.injEq] at H
  obtain ⟨rfl, rfl⟩ := H; go_enter Tryz.func57, Tryz.ntmps57; go_wp2_with (first | ((with_reducible refine gtc (f := 29) rfl ?_); refine gsL (some 11) rfl rfl Tryz.func29 Z5 rfl #[.int .i64 a1, .int .i64 1] rfl Z1 ?_; (with_reducible refine (fraction_Of.calls k a1 1 t549 t550 t551 _ ?side1 A3.out).mono ?_); (case side1 => exact Z182); rintro e w10 ⟨rfl, hb⟩; refine ⟨_, rfl, ?_⟩; replace HB := AS (bst Z0 hb); (try clear hb); (try clear hb2); (try clear hk); (try clear hi)) | ((with_reducible refine gtd (N := 6) rfl ?_); refine bxe ?hg (N := 6) ?hd (cs := #[.string (⟨#[]⟩ : ByteArray), .string (⟨#[]⟩ : ByteArray)]) (t := 53) ?hr ?_; (case hd => rfl); (case hg => rfl); (case hr => exact Z11); intro gb552 hg w11 hbox hb; have BK552 := AS (hbox); have GW552 := AS ((Z183 : w.heap.size ≤ gb552)); have GE552 := AS ((Z183 : w.heap.size ≤ gb552)); replace HB := AS (bst Z0 hb); clear hb hbox hg; have hcz12_0 := bc0 BK552.out; have hcz12_1 := bc1 BK552.out; have hfz12_0 := bfz BK552.out 0; have hfz12_1 := bfz BK552.out 1)); go_ret2; exact ⟨_, Z3, Z79, Z59⟩
def target_checkList.f (k : Nat) (l0 : List Int) (l1 : List (List Int)) : Option (Int) := (prCk.f k l0).bind fun t557 => (if t557 = 0 then (if (l1.length : Int) > 600 then (none) else ((mzCA.f k l0 l1).bind fun t558 => (some t558))) else (none))
theorem target_checkList.mono : ∀ a0 a1 k, LeO (target_checkList.f k a0 a1) (target_checkList.f (k + 1) a0 a1) := by
 intro a0 a1 k; unfold target_checkList.f
 repeat' (with_reducible first | exact mzCA.mono _ _ _ | exact prCk.mono _ _ | exact LeO.refl _ | exact LeO.none _ | refine LeO.ite ?_ ?_ | refine LeO.bind ?_ (fun _ => ?_))
set_option maxHeartbeats 8000000 in
set_option maxRecDepth 100000 in
theorem target_checkList.calls (k : Nat) (A0 : Option Addr) (c0 : Nat) (l0 : List Int) (A1 : Option Addr) (c1 : Nat) (l1 : List (List Int)) (r : Int) (w : World) (hr0 : Kd.C (Kd.int .i64) w A0 l0.length l0) (hc0 : l0.length ≤ c0) (hr1 : Kd.C (Kd.slice 3 (Kd.int .i64)) w A1 l1.length l1) (hc1 : l1.length ≤ c1) (hG : GL w) (h : target_checkList.f k l0 l1 = some r) :
  Calls Tryz.prog 45 #[.slice A0 l0.length c0, .slice A1 l1.length c1] w fun e w' => e = .returned (.int .i64 r) ∧ Drawn0 w w' := by
 have HR0 := AS hr0; have HC0 := AS hc0; clear hr0 hc0; have HR1 := AS hr1; have HC1 := AS hc1; clear hr1 hc1; have HB := AS (Below.refl w.heap.size w); have H : ((prCk.f k l0).bind fun t557 => (if t557 = 0 then (if (l1.length : Int) > 600 then (none) else ((mzCA.f k l0 l1).bind fun t558 => (some t558))) else (none))) = some r := h; clear h; replace H := Option.bind_eq_some_iff.mp H; obtain ⟨t557, A30, H⟩ := H; replace H : (if t557 = 0 then (if (l1.length : Int) > 600 then (none) else ((mzCA.f k l0 l1).bind fun t558 => (some t558))) else (none)) = some r := H; have A3 := AS A30; clear A30
 by_cases c4 : t557 = 0
 ·rw [if_pos c4] at H
  have c4b0 : (t557 == 0) = true := beq_iff_eq.mpr c4; have c4b1 : (t557 != 0) = false := bne_eq_false_iff_eq.mpr c4; clear c4
  by_cases c5 : (l1.length : Int) > 600
  ·rw [if_pos c5] at H
   exact absurd H (by simp)
  ·rw [if_neg c5] at H
   have c5b0 : decide (600 < (l1.length : Int)) = false := decide_eq_false c5; have c5b1 : decide (600 < l1.length) = false := decide_eq_false (by omega); clear c5; replace H := Option.bind_eq_some_iff.mp H; obtain ⟨t558, A60, H⟩ := H; replace H : (some t558) = some r := H; have A6 := AS A60; clear A60; obtain rfl := Option.some.inj H; go_enter Tryz.func45, Tryz.ntmps45; go_wp2_with (first | ((with_reducible refine gtc (f := 25) rfl ?_); refine gsL (some 7) rfl rfl Tryz.func25 Z5 rfl #[.slice A0 l0.length c0] rfl Z1 ?_; (with_reducible refine (prCk.calls k _ _ l0 t557 _ ?side1 ?side2 ?side3 A3.out).mono ?_); (case side1 => exact Z15); (case side2 => exact Z72); (case side3 => exact Z182); rintro e w' ⟨rfl, ⟨nd, rfl⟩⟩; refine ⟨_, rfl, ?_⟩) | ((with_reducible refine gtc (f := 32) rfl ?_); refine gsL (some 16) rfl rfl Tryz.func32 Z5 rfl #[.slice A0 l0.length c0, .slice A1 l1.length c1] rfl Z1 ?_; (with_reducible refine (mzCA.calls k _ _ l0 _ _ l1 t558 _ ?side1 ?side2 ?side3 ?side4 ?side5 A6.out).mono ?_); (case side1 => exact Z15); (case side2 => exact Z72); (case side3 => exact Z28); (case side4 => exact Z145); (case side5 => exact Z182); rintro e w' ⟨rfl, ⟨nd, rfl⟩⟩; refine ⟨_, rfl, ?_⟩)); go_ret; exact ⟨Z4, Z13⟩
 ·rw [if_neg c4] at H
  exact absurd H (by simp)
def target_checkLimit.f (k : Nat) (l0 : List Int) (a1 : Int) : Option (Int) := (prCk.f k l0).bind fun t559 => (if t559 = 0 then (if a1 < 1 then (none) else (if a1 > 99 then (none) else (some 0))) else (none))
set_option maxHeartbeats 8000000 in
set_option maxRecDepth 100000 in
theorem target_checkLimit.calls (k : Nat) (A0 : Option Addr) (c0 : Nat) (l0 : List Int) (a1 : Int) (r : Int) (w : World) (hr0 : Kd.C (Kd.int .i64) w A0 l0.length l0) (hc0 : l0.length ≤ c0) (hG : GL w) (h : target_checkLimit.f k l0 a1 = some r) :
  Calls Tryz.prog 50 #[.slice A0 l0.length c0, .int .i64 a1] w fun e w' => e = .returned (.int .i64 r) ∧ Drawn0 w w' := by
 have HR0 := AS hr0; have HC0 := AS hc0; clear hr0 hc0; have HB := AS (Below.refl w.heap.size w); have H : ((prCk.f k l0).bind fun t559 => (if t559 = 0 then (if a1 < 1 then (none) else (if a1 > 99 then (none) else (some 0))) else (none))) = some r := h; clear h; replace H := Option.bind_eq_some_iff.mp H; obtain ⟨t559, A30, H⟩ := H; replace H : (if t559 = 0 then (if a1 < 1 then (none) else (if a1 > 99 then (none) else (some 0))) else (none)) = some r := H; have A3 := AS A30; clear A30
 by_cases c4 : t559 = 0
 ·rw [if_pos c4] at H
  have c4b0 : (t559 == 0) = true := beq_iff_eq.mpr c4; have c4b1 : (t559 != 0) = false := bne_eq_false_iff_eq.mpr c4; clear c4
  by_cases c5 : a1 < 1
  ·rw [if_pos c5] at H
   exact absurd H (by simp)
  ·rw [if_neg c5] at H
   have c5b0 : decide (a1 < 1) = false := decide_eq_false c5; clear c5
   by_cases c6 : a1 > 99
   ·rw [if_pos c6] at H
    exact absurd H (by simp)
   ·rw [if_neg c6] at H
    have c6b0 : decide (99 < a1) = false := decide_eq_false c6; clear c6; obtain rfl := Option.some.inj H; go_enter Tryz.func50, Tryz.ntmps50; go_wp2_with (first | ((with_reducible refine gtc (f := 25) rfl ?_); refine gsL (some 7) rfl rfl Tryz.func25 Z5 rfl #[.slice A0 l0.length c0] rfl Z1 ?_; (with_reducible refine (prCk.calls k _ _ l0 t559 _ ?side1 ?side2 ?side3 A3.out).mono ?_); (case side1 => exact Z15); (case side2 => exact Z72); (case side3 => exact Z182); rintro e w' ⟨rfl, ⟨nd, rfl⟩⟩; refine ⟨_, rfl, ?_⟩)); go_ret; exact ⟨Z4, Z13⟩
 ·rw [if_neg c4] at H
  exact absurd H (by simp)
def api_Row_int_70.l0 : Nat → List Int → List Int → Int → Int → Option (Bool)
 | 0, _, _, _, _ => none
 | k + 1, x0, x1, x12, x13 => if x13 < x12 then (if 0 ≤ x13 then (if x13 < (x0.length : Int) then (if x13 < (x1.length : Int) then (if (rd x0 x13) = (rd x1 x13) then (api_Row_int_70.l0 k x0 x1 x12 (wrap64 (x13 + 1))) else (some false)) else (none)) else (none)) else (none)) else (some true)
def api_Row_int_70.f (k : Nat) (l0 : List Int) (l1 : List Int) : Option (Bool) := if (l0.length : Int) = (l1.length : Int) then (api_Row_int_70.l0 k l0 l1 (l0.length : Int) 0) else (some false)
set_option maxHeartbeats 8000000 in
set_option maxRecDepth 100000 in
theorem api_Row_int_70.calls (k : Nat) (A0 : Option Addr) (c0 : Nat) (l0 : List Int) (A1 : Option Addr) (c1 : Nat) (l1 : List Int) (r : Bool) (w : World) (hr0 : Kd.C (Kd.int .i64) w A0 l0.length l0) (hc0 : l0.length ≤ c0) (hr1 : Kd.C (Kd.int .i64) w A1 l1.length l1) (hc1 : l1.length ≤ c1) (hG : GL w) (h : api_Row_int_70.f k l0 l1 = some r) :
  Calls Tryz.prog 70 #[.slice A0 l0.length c0, .slice A1 l1.length c1] w fun e w' => e = .returned (.bool r) ∧ Drawn0 w w' := by
 have HR0 := AS hr0; have HC0 := AS hc0; clear hr0 hc0; have HR1 := AS hr1; have HC1 := AS hc1; clear hr1 hc1; have HB := AS (Below.refl w.heap.size w); have H : (if (l0.length : Int) = (l1.length : Int) then (api_Row_int_70.l0 k l0 l1 (l0.length : Int) 0) else (some false)) = some r := h; clear h
 by_cases c3 : (l0.length : Int) = (l1.length : Int)
 ·rw [if_pos c3] at H
  have c3b0 : ((l0.length : Int) == (l1.length : Int)) = true := beq_iff_eq.mpr c3; have c3b1 : ((l0.length : Int) != (l1.length : Int)) = false := bne_eq_false_iff_eq.mpr c3
  have c3b2 : (l0.length == l1.length) = true := by first | simpa using c3 | (simp at c3 ⊢; omega)
  clear c3; have H' := AS H; clear H; go_enter Tryz.func70, Tryz.ntmps70; go_wp2
  repeat (go_quiet (fail); try go_wp2)
  go_loopg [13] k (fun kq v13 w' => ∃ (x13_1 : Int), v13 = .int .i64 x13_1 ∧ Aside0 (api_Row_int_70.l0 kq l0 l1 (l0.length : Int) x13_1 = some r) ∧ Aside0 (kq ≤ k) ∧ Drawn0 w w')
  case atStart => exact ⟨(0), Z4, H', ⟨Nat.le_refl _⟩, Z13⟩
  case round =>
   clear H'; (try clear c1); (try clear p2); (try clear c3); (try clear c3b0); (try clear c3b1); (try clear c3b2); obtain ⟨x13_1, rfl, HA, HK1, ⟨m1, rfl⟩⟩ := hrel
   cases gk with
   | zero => exact absurd HA.out (by simp [api_Row_int_70.l0])
   | succ k1 =>
    have H := HA.out; clear HA
    simp only [api_Row_int_70.l0] at H
    by_cases c4 : x13_1 < (l0.length : Int)
    ·rw [if_pos c4] at H
     have c4b0 : decide (x13_1 < (l0.length : Int)) = true := decide_eq_true c4; clear c4
     by_cases c5 : 0 ≤ x13_1
     ·rw [if_pos c5] at H
      have c5b0 : decide (0 ≤ x13_1) = true := decide_eq_true c5; clear c5
      by_cases c6 : x13_1 < (l0.length : Int)
      ·rw [if_pos c6] at H
       have c6b0 : decide (x13_1 < (l0.length : Int)) = true := decide_eq_true c6; clear c6
       by_cases c7 : x13_1 < (l1.length : Int)
       ·rw [if_pos c7] at H
        have c7b0 : decide (x13_1 < (l1.length : Int)) = true := decide_eq_true c7; clear c7
        by_cases c8 : (rd l0 x13_1) = (rd l1 x13_1)
        ·rw [if_pos c8] at H
         have c8b0 : ((rd l0 x13_1) == (rd l1 x13_1)) = true := beq_iff_eq.mpr c8; have c8b1 : ((rd l0 x13_1) != (rd l1 x13_1)) = false := bne_eq_false_iff_eq.mpr c8; clear c8; have H' := AS H; clear H; have p560 : 0 ≤ (x13_1 : Int) := of_decide_eq_true Z2; have q560 : x13_1 < (l0.length : Int) := of_decide_eq_true Z2; obtain ⟨ad560, e560, hx560_0⟩ := Kd.at_int HR0.out x13_1 p560 q560; cases e560; replace p560 := eq_true p560; replace q560 := eq_true q560; have p561 : 0 ≤ (x13_1 : Int) := of_decide_eq_true Z2; have q561 : x13_1 < (l1.length : Int) := of_decide_eq_true Z2; obtain ⟨ad561, e561, hx561_0⟩ := Kd.at_int HR1.out x13_1 p561 q561; cases e561; replace p561 := eq_true p561; replace q561 := eq_true q561; go_wp2
         repeat (go_quiet (fail); try go_wp2)
         go_roundg k1
         case measure => have := HK1.out; omega
         case rel => exact ⟨(wrap64 (x13_1 + 1)), Z4, H', ⟨Z88⟩, Z13⟩
        ·rw [if_neg c8] at H
         have c8b0 : ((rd l0 x13_1) == (rd l1 x13_1)) = false := beq_eq_false_iff_ne.mpr c8; have c8b1 : ((rd l0 x13_1) != (rd l1 x13_1)) = true := bne_iff_ne.mpr c8; obtain rfl := Option.some.inj H; have p560 : 0 ≤ (x13_1 : Int) := of_decide_eq_true Z2; have q560 : x13_1 < (l0.length : Int) := of_decide_eq_true Z2; obtain ⟨ad560, e560, hx560_0⟩ := Kd.at_int HR0.out x13_1 p560 q560; cases e560; replace p560 := eq_true p560; replace q560 := eq_true q560; have p561 : 0 ≤ (x13_1 : Int) := of_decide_eq_true Z2; have q561 : x13_1 < (l1.length : Int) := of_decide_eq_true Z2; obtain ⟨ad561, e561, hx561_0⟩ := Kd.at_int HR1.out x13_1 p561 q561; cases e561; replace p561 := eq_true p561; replace q561 := eq_true q561; go_wp2
         repeat (go_quiet (fail); try go_wp2)
         go_ret; exact ⟨Z4, Z13⟩
       ·rw [if_neg c7] at H
        exact absurd H (by simp)
      ·rw [if_neg c6] at H
       exact absurd H (by simp)
     ·rw [if_neg c5] at H
      exact absurd H (by simp)
    ·rw [if_neg c4] at H
     have c4b0 : decide (x13_1 < (l0.length : Int)) = false := decide_eq_false c4; clear c4; obtain rfl := Option.some.inj H; go_wp2
     repeat (go_quiet (fail); try go_wp2)
     go_ret; exact ⟨Z4, Z13⟩
 ·rw [if_neg c3] at H
  have c3b0 : ((l0.length : Int) == (l1.length : Int)) = false := beq_eq_false_iff_ne.mpr c3; have c3b1 : ((l0.length : Int) != (l1.length : Int)) = true := bne_iff_ne.mpr c3
  have c3b2 : (l0.length == l1.length) = false := by first | simpa using c3 | (simp at c3 ⊢; omega)
  obtain rfl := Option.some.inj H; go_enter Tryz.func70, Tryz.ntmps70; go_wp2
  repeat (go_quiet (fail); try go_wp2)
  go_ret; exact ⟨Z4, Z13⟩
def row_Equal.f (k : Nat) (l0 : List Int) (l1 : List Int) : Option (Bool) := (api_Row_int_70.f k l0 l1).bind fun t562 => (some t562)
set_option maxHeartbeats 8000000 in
set_option maxRecDepth 100000 in
theorem row_Equal.calls (k : Nat) (A0 : Option Addr) (c0 : Nat) (l0 : List Int) (A1 : Option Addr) (c1 : Nat) (l1 : List Int) (r : Bool) (w : World) (hr0 : Kd.C (Kd.int .i64) w A0 l0.length l0) (hc0 : l0.length ≤ c0) (hr1 : Kd.C (Kd.int .i64) w A1 l1.length l1) (hc1 : l1.length ≤ c1) (hG : GL w) (h : row_Equal.f k l0 l1 = some r) :
  Calls Tryz.prog 38 #[.slice A0 l0.length c0, .slice A1 l1.length c1] w fun e w' => e = .returned (.bool r) ∧ Drawn0 w w' := by
 have HR0 := AS hr0; have HC0 := AS hc0; clear hr0 hc0; have HR1 := AS hr1; have HC1 := AS hc1; clear hr1 hc1; have HB := AS (Below.refl w.heap.size w); have H : ((api_Row_int_70.f k l0 l1).bind fun t562 => (some t562)) = some r := h; clear h; replace H := Option.bind_eq_some_iff.mp H; obtain ⟨t562, A30, H⟩ := H; replace H : (some t562) = some r := H; have A3 := AS A30; clear A30; obtain rfl := Option.some.inj H; go_enter Tryz.func38, Tryz.ntmps38; go_wp2_with (first | ((with_reducible refine gtc (f := 70) rfl ?_); refine gsL (some 7) rfl rfl Tryz.func70 Z5 rfl #[.slice A0 l0.length c0, .slice A1 l1.length c1] rfl Z1 ?_; (with_reducible refine (api_Row_int_70.calls k _ _ l0 _ _ l1 t562 _ ?side1 ?side2 ?side3 ?side4 ?side5 A3.out).mono ?_); (case side1 => exact Z15); (case side2 => exact Z72); (case side3 => exact Z28); (case side4 => exact Z145); (case side5 => exact Z182); rintro e w' ⟨rfl, ⟨nd, rfl⟩⟩; refine ⟨_, rfl, ?_⟩)); go_ret; exact ⟨Z4, Z13⟩
section
open Go.Shelf
def fitsB (n : Int) : Bool := decide (-1000000000 ≤ n) && decide (n ≤ 1000000000)
def row_Check.f (l0 : List Int) : Option (Int) := some (if l0.length ≤ 64 ∧ l0.all fitsB = true then 0 else 4)
theorem fits_pred (w : World) : PredI 162 #[] (fun n => !fitsB n) w := fun W x _ => by
 by_cases h1 : -1000000000 ≤ x
 ·by_cases h2 : x ≤ 1000000000
  ·go_enter Tryz.func162, Tryz.ntmps162; go_wp2; go_ret; exact ⟨ret_bool (by simp [fitsB, h1, h2]), 0, rfl⟩
  ·go_enter Tryz.func162, Tryz.ntmps162; go_wp2; go_ret; exact ⟨ret_bool (by simp [fitsB, h1, h2]), 0, rfl⟩
 ·go_enter Tryz.func162, Tryz.ntmps162; go_wp2; go_ret; exact ⟨ret_bool (by simp [fitsB, h1]), 0, rfl⟩
set_option maxHeartbeats 4000000 in
theorem row_Check.calls (A0 : Option Addr) (c0 : Nat) (l0 : List Int) (r : Int) (w : World) (hr0 : Kd.C (Kd.int .i64) w A0 l0.length l0) (hc0 : l0.length ≤ c0) (hG : GL w) (h : row_Check.f l0 = some r) :
  Calls Tryz.prog 134 #[.slice A0 l0.length c0] w fun e w' => e = .returned (.int .i64 r) ∧ Below w.heap.size w w' := by
 unfold row_Check.f at h; obtain rfl := Option.some.inj h; have hc := AS (containsFunc_row 162 #[] _ A0 c0 l0 w (enters_of Tryz.func162 Z5 rfl) (fits_pred w) hr0)
 have he : (l0.any fun n => !fitsB n) = !(l0.all fitsB) := by rw [List.all_eq_not_any_not]; simp
 have hm := Kd.C_max hr0; clear hr0 h hG
 by_cases hl : l0.length ≤ 64
 ·rw [he] at hc
  cases hq : l0.all fitsB with
  | true =>
   rw [hq] at hc; clear he hq; rw [if_pos ⟨hl, rfl⟩]; go_enter Tryz.func134, Tryz.ntmps134; go_wp2_with (go_at_call 75; refine (hc.out).mono ?_; rintro e w' ⟨rfl, q, rfl⟩); go_ret; exact ⟨rfl, below_drewN' _ _⟩
  | false =>
   rw [hq] at hc; clear he hq; rw [if_neg (by simp)]; go_enter Tryz.func134, Tryz.ntmps134; go_wp2_with (go_at_call 75; refine (hc.out).mono ?_; rintro e w' ⟨rfl, q, rfl⟩); go_ret; exact ⟨rfl, below_drewN' _ _⟩
 ·rw [if_neg (by omega)]; clear hc he; go_enter Tryz.func134, Tryz.ntmps134; go_wp2; go_ret; exact ⟨rfl, Below.refl _ _⟩
end

def row_both.f (l0 : List Int) (l1 : List Int) : Option (Int) := (row_Check.f l0).bind fun t564 => (if t564 = 0 then ((row_Check.f l1).bind fun t565 => (if t565 = 0 then (if (l0.length : Int) = (l1.length : Int) then (some 0) else (none)) else (none))) else (none))
set_option maxHeartbeats 8000000 in
set_option maxRecDepth 100000 in
theorem row_both.calls (A0 : Option Addr) (c0 : Nat) (l0 : List Int) (A1 : Option Addr) (c1 : Nat) (l1 : List Int) (r : Int) (w : World) (hr0 : Kd.C (Kd.int .i64) w A0 l0.length l0) (hc0 : l0.length ≤ c0) (hr1 : Kd.C (Kd.int .i64) w A1 l1.length l1) (hc1 : l1.length ≤ c1) (hG : GL w) (h : row_both.f l0 l1 = some r) :
  Calls Tryz.prog 113 #[.slice A0 l0.length c0, .slice A1 l1.length c1] w fun e w' => e = .returned (.int .i64 r) ∧ Below w.heap.size w w' := by
 have HR0 := AS hr0; have HC0 := AS hc0; clear hr0 hc0; have HR1 := AS hr1; have HC1 := AS hc1; clear hr1 hc1; have HB := AS (Below.refl w.heap.size w); have H : ((row_Check.f l0).bind fun t564 => (if t564 = 0 then ((row_Check.f l1).bind fun t565 => (if t565 = 0 then (if (l0.length : Int) = (l1.length : Int) then (some 0) else (none)) else (none))) else (none))) = some r := h; clear h; replace H := Option.bind_eq_some_iff.mp H; obtain ⟨t564, A30, H⟩ := H; replace H : (if t564 = 0 then ((row_Check.f l1).bind fun t565 => (if t565 = 0 then (if (l0.length : Int) = (l1.length : Int) then (some 0) else (none)) else (none))) else (none)) = some r := H; have A3 := AS A30; clear A30
 by_cases c4 : t564 = 0
 ·rw [if_pos c4] at H
  have c4b0 : (t564 == 0) = true := beq_iff_eq.mpr c4; have c4b1 : (t564 != 0) = false := bne_eq_false_iff_eq.mpr c4; clear c4; replace H := Option.bind_eq_some_iff.mp H; obtain ⟨t565, A50, H⟩ := H; replace H : (if t565 = 0 then (if (l0.length : Int) = (l1.length : Int) then (some 0) else (none)) else (none)) = some r := H; have A5 := AS A50; clear A50
  by_cases c6 : t565 = 0
  ·rw [if_pos c6] at H
   have c6b0 : (t565 == 0) = true := beq_iff_eq.mpr c6; have c6b1 : (t565 != 0) = false := bne_eq_false_iff_eq.mpr c6; clear c6
   by_cases c7 : (l0.length : Int) = (l1.length : Int)
   ·rw [if_pos c7] at H
    have c7b0 : ((l0.length : Int) == (l1.length : Int)) = true := beq_iff_eq.mpr c7; have c7b1 : ((l0.length : Int) != (l1.length : Int)) = false := bne_eq_false_iff_eq.mpr c7
    have c7b2 : (l0.length == l1.length) = true := by first | simpa using c7 | (simp at c7 ⊢; omega)
    clear c7; obtain rfl := Option.some.inj H; go_enter Tryz.func113, Tryz.ntmps113; go_wp2_with (first | ((with_reducible refine gtc (f := 134) rfl ?_); refine gsL (some 8) rfl rfl Tryz.func134 Z5 rfl #[.slice A0 l0.length c0] rfl Z1 ?_; (with_reducible refine (row_Check.calls _ _ l0 t564 _ ?side1 ?side2 ?side3 A3.out).mono ?_); (case side1 => exact Z15); (case side2 => exact Z72); (case side3 => exact Z182); rintro e w8 ⟨rfl, hb⟩; refine ⟨_, rfl, ?_⟩; replace HB := AS (bst Z0 hb); (try clear hb); (try clear hb2); (try clear hk); (try clear hi)) | ((with_reducible refine gtc (f := 134) rfl ?_); refine gsL (some 13) rfl rfl Tryz.func134 Z5 rfl #[.slice A1 l1.length c1] rfl Z1 ?_; (with_reducible refine (row_Check.calls _ _ l1 t565 _ ?side1 ?side2 ?side3 A5.out).mono ?_); (case side1 => exact Z107); (case side2 => exact Z145); (case side3 => exact Z182); rintro e w9 ⟨rfl, hb⟩; refine ⟨_, rfl, ?_⟩; replace HB := AS (bst Z0 hb); (try clear hb); (try clear hb2); (try clear hk); (try clear hi))); go_ret; exact ⟨Z3, Z0⟩
   ·rw [if_neg c7] at H
    exact absurd H (by simp)
  ·rw [if_neg c6] at H
   exact absurd H (by simp)
 ·rw [if_neg c4] at H
  exact absurd H (by simp)

section
open Go.Shelf
def rowOk (l : List Int) : Bool := decide (l.length ≤ 64) && l.all fitsB
theorem row_Check_f (l : List Int) : row_Check.f l = some (if rowOk l = true then 0 else 4) := by
 unfold row_Check.f rowOk
 congr 1
 by_cases h : l.length ≤ 64 <;> by_cases h2 : l.all fitsB = true <;> simp [h, h2]
set_option maxHeartbeats 4000000 in
theorem row_result_same (A : Option Addr) (c : Nat) (l : List Int) (w : World) (hr : Kd.C (Kd.int .i64) w A l.length l) (hc : l.length ≤ c) (hG : GL w) :
  Calls Tryz.prog 115 #[.slice A l.length c] w fun e w' => e = .returned (.tuple #[if rowOk l = true then .slice A l.length c else .slice none 0 0, .int .i64 (if rowOk l = true then 0 else 4)]) ∧ Below w.heap.size w w' := by
 have HC := AS (row_Check.calls A c l _ w hr hc hG (row_Check_f l)); clear hr hG
 cases hq : rowOk l with
 | true =>
  rw [hq] at HC; clear hq; go_enter Tryz.func115, Tryz.ntmps115; go_wp2_with (go_at_call 134; refine (HC.out).mono ?_; rintro e w' ⟨rfl, hb⟩; have HB := AS hb; clear hb); go_ret2; exact ⟨rfl, HB.out⟩
 | false =>
  rw [hq] at HC; clear hq; go_enter Tryz.func115, Tryz.ntmps115; go_wp2_with (go_at_call 134; refine (HC.out).mono ?_; rintro e w' ⟨rfl, hb⟩; have HB := AS hb; clear hb); go_ret2; exact ⟨rfl, HB.out⟩
structure SubX where
 x : Int
 y : Int
 x0 : -1000000000 ≤ x
 x1 : x ≤ 1000000000
 y0 : -1000000000 ≤ y
 y1 : y ≤ 1000000000
def SubX.d (z : SubX) : Int := z.x - z.y
theorem subX_zs : ∀ (l m : List Int), l.length = m.length → l.all fitsB = true → m.all fitsB = true → ∃ zs : List SubX, zs.map SubX.x = l ∧ zs.map SubX.y = m
 | [], [], _, _, _ => ⟨[], rfl, rfl⟩
 | [], _ :: _, h, _, _ => by cases h
 | _ :: _, [], h, _, _ => by cases h
 | x :: l, y :: m, h, h1, h2 => by
  simp only [List.all_cons, Bool.and_eq_true] at h1 h2; obtain ⟨zs, e1, e2⟩ := subX_zs l m (by simpa using h) h1.2 h2.2; have f1 := h1.1; have f2 := h2.1; simp only [fitsB, Bool.and_eq_true, decide_eq_true_eq] at f1 f2; exact ⟨⟨x, y, f1.1, f1.2, f2.1, f2.2⟩ :: zs, by simp [e1], by simp [e2]⟩
theorem subX_zip : ∀ zs : List SubX, zs.map SubX.d = List.zipWith (· - ·) (zs.map SubX.x) (zs.map SubX.y)
 | [] => rfl
 | z :: zs => by simp [SubX.d, subX_zip zs]
attribute [local go_sem] Oper.semAt_some in
set_option maxHeartbeats 8000000 in
set_option maxRecDepth 100000 in
theorem sub_walk (A0 : Option Addr) (c0 : Nat) (l0 : List Int) (A1 : Option Addr) (c1 : Nat) (l1 : List Int) (w : World) (hr0 : Kd.C (Kd.int .i64) w A0 l0.length l0) (hc0 : l0.length ≤ c0) (hr1 : Kd.C (Kd.int .i64) w A1 l1.length l1) (hc1 : l1.length ≤ c1) (hG : GL w) (h0 : rowOk l0 = true) (h1 : rowOk l1 = true) (hlen : l0.length = l1.length) (r1 : List Int) (r2 : Int) (hr1_ : r1 = if rowOk (List.zipWith (· - ·) l0 l1) = true then List.zipWith (· - ·) l0 l1 else []) (hr2_ : r2 = if rowOk (List.zipWith (· - ·) l0 l1) = true then 0 else 4) :
  CallsIn Fence.wide 5 Tryz.prog 86 #[.slice A0 l0.length c0, .slice A1 l1.length c1] w fun e w' => ∃ v0_ : Value, e = .returned (.tuple #[v0_, .int .i64 r2]) ∧ Kd.R (Kd.int .i64) 3 w' w.heap.size (fun _ => True) v0_ r1 ∧ Below w.heap.size w w' := by
 have hb : row_both.f l0 l1 = some 0 := by
  simp [row_both.f, row_Check_f, h0, h1, hlen]
 have HC := AS (row_both.calls A0 c0 l0 A1 c1 l1 0 w hr0 hc0 hr1 hc1 hG hb); simp only [rowOk, Bool.and_eq_true, decide_eq_true_eq] at h0 h1; obtain ⟨zs, e0, e1⟩ := subX_zs l0 l1 hlen h0.2 h1.2
 have HL1 : Aside0 (HoldsI w.heap.size w A0 zs fun x => .int .i64 x.x) := ⟨fun j hj => by
  obtain ⟨ad, e, hb, hc⟩ := C_int_holds hr0 j (by rw [← e0]; simpa using hj)
  exact ⟨ad, e, hb, by rw [hc]; simp [← e0]⟩⟩
 have HL2 : Aside0 (HoldsI w.heap.size w A1 zs fun x => .int .i64 x.y) := ⟨fun j hj => by
  obtain ⟨ad, e, hb, hc⟩ := C_int_holds hr1 j (by rw [← e1]; simpa using hj)
  exact ⟨ad, e, hb, by rw [hc]; simp [← e1]⟩⟩
 have hl0 : l0.length = zs.length := by rw [← e0]; simp
 have hl1 : l1.length = zs.length := by rw [← e1]; simp
 have hz : zs.length ≤ 64 := by omega
 have HZ : Aside0 (List.zipWith (· - ·) l0 l1 = zs.map SubX.d) := ⟨by rw [subX_zip, e0, e1]⟩; have HGL := AS hG; rw [hl0, hl1] at HC; rw [hl0, hl1]; rw [HZ.out] at hr1_ hr2_; have HR1 := AS hr1_; have HR2 := AS hr2_; clear hr1_ hr2_; clear hr0 hr1 hG hb h0 h1 hlen e0 e1 HZ hl0 hl1 hc0 hc1; obtain ⟨i0, hi, hzz⟩ := Option.map_eq_some_iff.1 info3_row; simp only [Prod.mk.injEq] at hzz; obtain ⟨hz0, hz1, hz2⟩ := hzz
 have hmk : ∀ w1, w.heap.size ≤ w1.heap.size → ∃ w2, (Instr.makeSlice 28 (.int .i64 0) (.int .i64 (zs.length : Int))).run Tryz.prog w1 = .ok (.slice (some ⟨w1.heap.size, 0, none⟩) 0 zs.length) w2 ∧ w2.ownsRow w.heap.size 3 1 (.slice (some ⟨w1.heap.size, 0, none⟩) 0 zs.length) 0 [] ∧ w1.grownBy w2 none := fun w1 hw => by
  obtain ⟨w2, hrun, hown, hgr⟩ := run_make_own (P := Tryz.prog) w1 w.heap.size 28 3 i0 (.int .i64 0) 1 Tryz.underlying28 hi hz0 hz1 .i64 .i64 zs.length (by rw [hz2]; omega) Z180 hw; exact ⟨w2, hrun, hown, hgr⟩
 have HMK := AS hmk; clear hmk; refine callsIn_of_wp_marks Tryz.func86 rfl trivial ?_ rfl; simp only [Tryz.ntmps86, List.size_toArray, List.length_cons, List.length_nil, Nat.reduceAdd, Nat.reduceSub, Array.replicate_succ, Array.replicate_zero, List.push_toArray, List.append_toArray, List.nil_append, List.cons_append]
 gi_wp2_with (first | (refine ⟨trivial, ?_⟩; gi_at_call 113; refine (callsIn_wide.2 HC.out).mono ?_; rintro e w1 ⟨rfl, hB1⟩; have HB1 := AS hB1; have hs1 := hB1.size; clear hB1; obtain ⟨w2, hrun2, hown2, hgr2⟩ := HMK.out w1 hs1; have HOW := AS hown2; have HB2 := AS (HB1.out.grown hgr2 hs1 (fun k e => by cases e)); have hs2 := HB2.out.size; clear hown2 hgr2 HC) | (refine ⟨trivial, ?_⟩; gi_at_call 114; refine (pairs_in Fence.wide 4 trivial rfl _ _ _ _ _ _ _).mono ?_; rintro e w3 ⟨rfl, rfl⟩))
 simp only [Nat.add_assoc, Nat.reduceAdd]
 obtain ⟨W0, hW0⟩ : ∃ W0, ((w2.alloc (.cells #[.slice (some ⟨w1.heap.size, 0, none⟩) 0 zs.length] 28)).alloc (.cells #[.slice A0 zs.length c0] 28)).alloc (.cells #[.slice A1 zs.length c1] 28) = W0 := ⟨_, rfl⟩
 have hsz : W0.heap.size = w2.heap.size + 3 := by rw [← hW0]; simp
 have hB0 : Below w.heap.size w W0 := by
  rw [← hW0]; exact ((HB2.out.alloc hs2 _).alloc Z169 _).alloc Z169 _
 have hb0 : Boxed W0 w2.heap.size 28 (.slice (some ⟨w1.heap.size, 0, none⟩) 0 zs.length) := by
  rw [← hW0]; exact ((Boxed.new w2 28 _).alloc _).alloc _
 have hb1 : Boxed W0 (w2.heap.size + 1) 28 (.slice A0 zs.length c0) := by
  rw [← hW0]; have := Boxed.new (w2.alloc (.cells #[.slice (some ⟨w1.heap.size, 0, none⟩) 0 zs.length] 28)) 28 (.slice A0 zs.length c0); rw [World.size_alloc] at this; exact this.alloc _
 have hb2 : Boxed W0 (w2.heap.size + 2) 28 (.slice A1 zs.length c1) := by
  rw [← hW0]; have := Boxed.new ((w2.alloc (.cells #[.slice (some ⟨w1.heap.size, 0, none⟩) 0 zs.length] 28)).alloc (.cells #[.slice A0 zs.length c0] 28)) 28 (.slice A1 zs.length c1); rw [World.size_alloc, World.size_alloc] at this; exact this
 have ho0 : W0.ownsRow w.heap.size 3 1 (.slice (some ⟨w1.heap.size, 0, none⟩) 0 zs.length) 0 [] := by
  rw [← hW0]; exact ((HOW.out.alloc _).alloc _).alloc _
 rw [hW0]; clear hW0
 refine wpIn_rangeFunc_ownG (n := 5) rfl (by decide) (gf := 138) (lb := #[.pointer (some ⟨w2.heap.size + 1, 0, none⟩), .pointer (some ⟨w2.heap.size + 2, 0, none⟩)]) rfl trivial (enters_of Tryz.func138 Z5 rfl)
  (pairs_stops (α := SubX) (fun x => x.x) (fun x => x.y) zs Fence.wide 4 trivial rfl (by decide) (w2.heap.size + 1) (w2.heap.size + 2) w.heap.size (w2.heap.size + 2) (w2.heap.size + 3) A0 A1 c0 c1 (by omega) W0 (by omega) (by omega) (by omega) (by omega) (by omega) hb1.cell hb2.cell (HL1.out.below hB0) (HL2.out.below hB0)) KeepsB.trans (keepsB_b (by omega) (by omega)) (Below.refl _ _) (fun _ => rfl)
  (fun pre W => (∃ v, Boxed W w2.heap.size 28 v ∧ W.ownsRow w.heap.size 3 1 v pre.length (pre.map fun z => .int .i64 z.d) ∧ True) ∧ Boxed W (w2.heap.size + 2) 28 (.slice A1 zs.length c1) ∧ Below w.heap.size w W ∧ w2.heap.size + 3 ≤ W.heap.size)
  (fun _ _ _ => False)
  (OwnFrom.and (Own.from (holdsRow_own w.heap.size w2.heap.size 28 3 1 (fun pre : List SubX => pre.length) (fun pre : List SubX => pre.map fun z => .int .i64 z.d) (fun _ _ => True)) _) (OwnFrom.and (Own.from (boxed_own _ 28 (fun _ : List SubX => _)) _) (OwnFrom.and (ownFrom_below (Nat.le_refl _) (by omega)) (fun _ _ _ _ hs hg _ => Nat.le_trans hs hg.size))))
  (fun _ _ _ _ _ hs _ _ => hs)
  ⟨⟨_, hb0, ho0, trivial⟩, hb2, hB0, by omega⟩
  (fun z => { tmps := #[.slice A0 zs.length c0, .slice A1 zs.length c1, undef, undef, .slice none 0 0, .int .i64 0, .int .i64 0, .pointer (some ⟨w2.heap.size, 0, none⟩), .int .i64 z.x, .int .i64 z.y, .slice A0 zs.length c0, .slice A1 zs.length c1, .int .i64 0, .int .i64 0, .bool false, undef, .slice A0 zs.length c0, .int .i64 (zs.length : Int), .slice (some ⟨w1.heap.size, 0, none⟩) 0 zs.length, .slice A0 zs.length c0, .slice A1 zs.length c1, .func (.func 138) #[] #[.pointer (some ⟨w2.heap.size + 1, 0, none⟩), .pointer (some ⟨w2.heap.size + 2, 0, none⟩)], .int .i64 z.x, .int .i64 z.y, undef, undef, undef, undef, undef, undef, undef, undef, undef, undef], defers := [] }) ?assign ?body ?done ?stop
 case assign =>
  intro l x W K hK
  gi_wp2
  exact hK
 case stop =>
  rintro D c pre W _ _ h _; exact h.elim
 case body =>
  rintro l pre z W ⟨⟨v, hv, hrow, _⟩, hb2, hB, hS⟩ hlt; have hcv := hv.cell; have z0 := z.x0; have z1 := z.x1; have z2 := z.y0; have z3 := z.y1
  gi_wp2_with (gi_at_builtin; refine wpListIn_append_own _ rfl _ _ 28 rfl w.heap.size 3 i0 (.int .i64 0) 1 8 Tryz.underlying28 hi hz0 hz1 hz2 rfl (by decide) _ _ _ rfl (hrow.alloc _) ⟨W.heap.size, 0, none⟩ 1 1 [.int .i64 (z.x - z.y)] rfl rfl (cell_one_new _ _ _) (by simp [Value.oneCell']) Z180 (by omega) (by have := hB.size; simp; omega) ?_; intro v' w9 hown' hgrow _; obtain ⟨g', cap', rfl⟩ := ownsRow_succ hown'; obtain ⟨hv1, hv2, hr2, hk2, hb5⟩ := hv.appended (by decide) hrow hB.size (by omega) hown' hgrow; have hc9 := hv1.cell; have hf9 := hv1.frozen)
  have hb6 := ((hb2.alloc (.cells #[.int .i64 (z.x - z.y)] 3)).kept hgrow (hb2.not_row (by decide) hrow)).other (show w2.heap.size + 2 ≠ w2.heap.size by omega) (.slice (some ⟨g', 0, none⟩) (pre.length + 1) cap'); have hsx := hb5.size
  exact ⟨hk2.from _, ⟨hb5, fun k h1 h2 => by
   obtain rfl : k = w2.heap.size + 2 := by omega
   exact hb6.trans hb2.symm⟩, ⟨⟨_, hv2, by simpa [SubX.d] using hr2, trivial⟩, hb6, hB.trans hb5, by omega⟩⟩
 case done =>
  rintro D ys W hD rfl ⟨⟨v, hv, hrow, _⟩, hb2, hB, hS⟩ hK; have hcv := hv.cell; have hR0 : Kd.R (Kd.int .i64) 3 W w.heap.size (fun _ => True) v (ys.map SubX.d) := Kd.R_of_own (by rw [List.length_map]; unfold encs; rw [List.map_map]; exact hrow) (fun _ _ => trivial); obtain ⟨A, c, rfl, hcc, hC⟩ := Kd.R_reads hR0
  cases hq : rowOk (ys.map SubX.d) with
  | true =>
   have hrow' := hrow; rw [List.length_map] at hrow'; have HR := AS (show CallsIn Fence.wide 4 Tryz.prog 115 #[.slice A (ys.map SubX.d).length c] W _ from callsIn_wide.2 (row_result_same A c (ys.map SubX.d) W hC hcc (HGL.out.below hB))); rw [hq] at HR HR1 HR2; simp only [if_true, if_false, Bool.false_eq_true, reduceIte] at HR1 HR2; simp only [if_true, if_false, Bool.false_eq_true, reduceIte] at HR; have HQ := AS hq; clear hq; rw [List.length_map] at HR
   gi_wp2_with (refine ⟨trivial, ?_⟩; gi_at_call 115; refine (HR.out).mono ?_; rintro e X ⟨rfl, hbX⟩; have HBX := AS hbX; clear hbX)
   have hKX := (HBX.out.block D (Array.getElem?_eq_some_iff.1 hK).1).trans hK; refine ⟨by simp, .inl ⟨_, _, rfl, run_takeDeferred hKX, ?_⟩⟩; refine ⟨_, results_tmp2 rfl _ _ _, .slice A ys.length c, by rw [HR2.out]; rfl, ?_, (bst hB HBX.out).trans (belowK_b (w := w) (Nat.le_refl _) X D _ (.deferred none) (by omega) hKX rfl rfl)⟩; rw [HR1.out]; exact Kd.R_of_own (ownsRow_putObj (pw_own_below (by rw [List.length_map]; unfold encs; rw [List.map_map]; exact hrow') HBX.out) _ hKX rfl) (fun _ _ => trivial)
  | false =>
   have HR := AS (show CallsIn Fence.wide 4 Tryz.prog 115 #[.slice A (ys.map SubX.d).length c] W _ from callsIn_wide.2 (row_result_same A c (ys.map SubX.d) W hC hcc (HGL.out.below hB))); rw [hq] at HR HR1 HR2; simp only [if_true, if_false, Bool.false_eq_true, reduceIte] at HR1 HR2; simp only [if_true, if_false, Bool.false_eq_true, reduceIte] at HR; have HQ := AS hq; clear hq; rw [List.length_map] at HR
   gi_wp2_with (refine ⟨trivial, ?_⟩; gi_at_call 115; refine (HR.out).mono ?_; rintro e X ⟨rfl, hbX⟩; have HBX := AS hbX; clear hbX)
   have hKX := (HBX.out.block D (Array.getElem?_eq_some_iff.1 hK).1).trans hK; refine ⟨by simp, .inl ⟨_, _, rfl, run_takeDeferred hKX, ?_⟩⟩; refine ⟨_, results_tmp2 rfl _ _ _, .slice none 0 0, by rw [HR2.out]; rfl, ?_, (bst hB HBX.out).trans (belowK_b (w := w) (Nat.le_refl _) X D _ (.deferred none) (by omega) hKX rfl rfl)⟩; rw [HR1.out]; exact Kd.R_nil _ _ _ _ _
def row_Sub.f (l0 : List Int) (l1 : List Int) : Option (List Int × Int) := if rowOk l0 = true ∧ rowOk l1 = true ∧ l0.length = l1.length then some (if rowOk (List.zipWith (· - ·) l0 l1) = true then List.zipWith (· - ·) l0 l1 else [], if rowOk (List.zipWith (· - ·) l0 l1) = true then 0 else 4) else none
theorem row_Sub.calls (A0 : Option Addr) (c0 : Nat) (l0 : List Int) (A1 : Option Addr) (c1 : Nat) (l1 : List Int) (r1 : List Int) (r2 : Int) (w : World) (hr0 : Kd.C (Kd.int .i64) w A0 l0.length l0) (hc0 : l0.length ≤ c0) (hr1 : Kd.C (Kd.int .i64) w A1 l1.length l1) (hc1 : l1.length ≤ c1) (hG : GL w) (h : row_Sub.f l0 l1 = some (r1, r2)) :
  Calls Tryz.prog 86 #[.slice A0 l0.length c0, .slice A1 l1.length c1] w fun e w' => ∃ v0_ : Value, e = .returned (.tuple #[v0_, .int .i64 r2]) ∧ Kd.R (Kd.int .i64) 3 w' w.heap.size (fun _ => True) v0_ r1 ∧ Below w.heap.size w w' := by
 unfold row_Sub.f at h
 by_cases c : rowOk l0 = true ∧ rowOk l1 = true ∧ l0.length = l1.length
 ·rw [if_pos c] at h; simp only [Option.some.injEq, Prod.mk.injEq] at h; obtain ⟨rfl, rfl⟩ := h; exact callsIn_wide.1 (sub_walk A0 c0 l0 A1 c1 l1 w hr0 hc0 hr1 hc1 hG c.1 c.2.1 c.2.2 _ _ rfl rfl)
 ·rw [if_neg c] at h; cases h
end

theorem info9_row : (Tryz.prog.info? 9).map (fun i => (i.zero, i.size, i.bytes)) = some (some (.string ⟨#[]⟩), 1, 16) := by kernel_rfl
def itoaB (n : Int) : ByteArray := ⟨(Lib.itoa n).toArray⟩
def textL (l : List Int) : ByteArray := ⟨(Lib.join (l.map Lib.itoa) [32]).toArray⟩
theorem textL_eq (l : List Int) : textL l = ⟨(Lib.join ((l.map itoaB).map (·.data.toList)) (⟨#[32]⟩ : ByteArray).data.toList).toArray⟩ := by
 simp [textL, itoaB, Function.comp_def]
theorem join_call (xs : List ByteArray) (v : Value) (w : World) (base : Nat) (h : Kd.R Kd.string 9 w base (fun _ => True) v xs) (hb : base ≤ w.heap.size) (hl : (Lib.join (xs.map (·.data.toList)) (⟨#[32]⟩ : ByteArray).data.toList).length ≤ 100000) (hn : xs.length ≤ 64) :
  Calls Tryz.prog 135 #[v, .string ⟨#[32]⟩] w fun e w' => e = .returned (.string ⟨(Lib.join (xs.map (·.data.toList)) (⟨#[32]⟩ : ByteArray).data.toList).toArray⟩) ∧ Below w.heap.size w w' := by
 have ho := Kd.own_of_R h
 rcases ho.2 with ⟨rfl, h0⟩ | ⟨g, cap, cur, rfl, hg, hgb, hc⟩
 ·obtain rfl : xs = [] := List.eq_nil_of_length_eq_zero h0; refine (Tryz.strings_Join_none _ _ _ _).mono ?_; rintro e w' ⟨rfl, rfl⟩; exact ⟨rfl, Below.refl _ _⟩
 ·obtain ⟨hc1, hc2, _⟩ := hc; have hlt := (Array.getElem?_eq_some_iff.1 hgb).1; refine Tryz.strings_Join g 0 cap xs ⟨#[32]⟩ w (fun j x hx => ?_) hlt (by omega) hc1 (by omega); have := ho.cells (g := g) rfl j (.string x) (by simp [encs, hx])
  have ha : (⟨g, 0, none⟩ : Addr).add j = ⟨g, 0 + j, none⟩ := by unfold Addr.add; split <;> simp_all
  rwa [ha] at this
set_option maxHeartbeats 8000000 in
set_option maxRecDepth 100000 in
theorem rowText_walk (A0 : Option Addr) (c0 : Nat) (l0 : List Int) (r : ByteArray) (w : World) (hr0 : Kd.C (Kd.int .i64) w A0 l0.length l0) (hc0 : l0.length ≤ c0) (hG : GL w) (h0 : row_Check.f l0 = some 0) (h1 : l0.length ≤ 64 ∧ l0.all fitsB = true) (h2 : (Lib.join ((l0.map itoaB).map (·.data.toList)) (⟨#[32]⟩ : ByteArray).data.toList).length ≤ 100000) (hr : r = textL l0) :
  Calls Tryz.prog 110 #[.slice A0 l0.length c0, .bool true] w fun e w' => e = .returned (.tuple #[.string (⟨#[91]⟩ ++ r ++ ⟨#[62]⟩), .int .i64 0]) ∧ Below w.heap.size w w' := by
 have HC := AS (row_Check.calls A0 c0 l0 0 w hr0 hc0 hG h0); have HR := AS hr0; have HGL := AS hG; have HF := AS h1.2; have HL := AS h2; have hn := h1.1; have HX := AS (hr.trans (textL_eq l0)); clear hr0 hG h0 h1 h2 hr; go_enter Tryz.func110, Tryz.ntmps110; go_wp2_with (go_at_call 134; refine (HC.out).mono ?_; rintro e w1 ⟨rfl, hb⟩; have HB := AS hb; clear hb)
 go_loopw [7, 18] (fun v i wr => ∃ k : Nat, i = .int .i64 k ∧ k ≤ l0.length ∧ Aside0 (Kd.R Kd.string 9 wr w.heap.size (fun _ => True) v ((l0.take k).map itoaB)) ∧ Aside0 (Below w.heap.size w wr)) (fun _ i _ => l0.length - (intOf i).toNat)
 case atStart => exact ⟨0, rfl, Nat.zero_le _, ⟨Kd.R_nil _ _ _ _ _⟩, HB⟩
 case round =>
  obtain ⟨k, rfl, hk, HO, HB2⟩ := hrel
  by_cases hlt : k < l0.length
  ·obtain ⟨ad, rfl, hcell0⟩ := C_int_at HR.out k hlt; have hcell := pcb HB2.out hcell0
   have HT : Aside0 ((l0.take k).map itoaB ++ [itoaB (l0.getD k 0)] = (l0.take (k + 1)).map itoaB) := ⟨by
    rw [List.take_succ_eq_append_getElem hlt, List.map_append, List.getD_eq_getElem?_getD, List.getElem?_eq_getElem hlt]
    rfl⟩
   have hf : -1000000000 ≤ l0.getD k 0 ∧ l0.getD k 0 ≤ 1000000000 := by
    have := List.all_eq_true.mp HF.out (l0[k]) (List.getElem_mem ..); simp only [fitsB, Bool.and_eq_true, decide_eq_true_eq] at this; rw [List.getD_eq_getElem?_getD, List.getElem?_eq_getElem hlt]; exact this
   have hlen : ((l0.take k).map itoaB).length ≤ 64 := by simp; omega
   generalize l0.getD k 0 = x at *; obtain ⟨hf0, hf1⟩ := hf; have HI := AS (strconv_Itoa.calls x (itoaB x) wr (HGL.out.below HB2.out) (by unfold strconv_Itoa.f; rw [if_pos ⟨by omega, by omega⟩]; rfl)); clear hcell0; go_wp2_with (first | (go_at_call 90; refine (HI.out).mono ?_; rintro e w3 ⟨rfl, hbg⟩; have HB3 := AS (bst HB2.out hbg); have HO3 := AS (Kd.R_below HO.out hbg); clear hbg) | (at_builtin; (refine Kd.R_append Kd.string (w0 := w) w.heap.size rfl (.tmp 22) (.tmp 25) 175 9 (.string ⟨#[]⟩) 16 rfl Tryz.underlying175 info9_row rfl (by decide) (by decide) u7 ((l0.take k).map itoaB) (itoaB x) [.string (itoaB x)] (fun _ => True) (fun _ => False) rfl rfl rfl (fun _ hk_ => hk_.elim) (fun _ _ => trivial) HO3.out HB3.out HB3.out.size (by omega) ?_); intro v4 w4 hown4 hB4 _ _; have HO4 := AS hown4; have HB4 := AS hB4; clear hown4 hB4)); go_roundw
   case rel => exact ⟨k + 1, by go_num, by omega, ⟨by rw [← HT.out]; exact HO4.out⟩, HB4⟩
   case measure => simp [intOf]; omega
  ·obtain rfl : k = l0.length := by omega
   rw [List.take_length] at HO; have hj := join_call (l0.map itoaB) u7 wr w.heap.size HO.out HB2.out.size HL.out Z169
   obtain ⟨J, hJ⟩ : ∃ J : ByteArray, J = ⟨(Lib.join ((l0.map itoaB).map (·.data.toList)) (⟨#[32]⟩ : ByteArray).data.toList).toArray⟩ := ⟨_, rfl⟩
   have hJs : J.size ≤ 100000 := by rw [hJ]; exact HL.out
   have HJE := AS hJ; rw [← hJ] at hj
   have hJ2 : ((⟨#[91]⟩ : ByteArray) ++ J).size ≤ 100001 := by rw [ByteArray.size_append]; show 1 + J.size ≤ 100001; omega
   have HJ := AS hj; clear hj hJ; go_wp2_with (go_at_call 135; refine (HJ.out).mono ?_; rintro e w5 ⟨rfl, hb5⟩; have HB5 := AS (bst HB2.out hb5); clear hb5); go_ret2; exact ⟨by rw [HX.out, ← HJE.out]; rfl, HB5.out⟩
def row_Text.f (l0 : List Int) (a1 : Bool) : Option (ByteArray × Int) := if a1 = true ∧ l0.length ≤ 64 ∧ l0.all fitsB = true ∧ (Lib.join ((l0.map itoaB).map (·.data.toList)) (⟨#[32]⟩ : ByteArray).data.toList).length ≤ 100000 then some (⟨#[91]⟩ ++ textL l0 ++ ⟨#[62]⟩, 0) else none
theorem row_Text.calls (A0 : Option Addr) (c0 : Nat) (l0 : List Int) (a1 : Bool) (r1 : ByteArray) (r2 : Int) (w : World) (hr0 : Kd.C (Kd.int .i64) w A0 l0.length l0) (hc0 : l0.length ≤ c0) (hG : GL w) (h : row_Text.f l0 a1 = some (r1, r2)) :
  Calls Tryz.prog 110 #[.slice A0 l0.length c0, .bool a1] w fun e w' => e = .returned (.tuple #[.string r1, .int .i64 r2]) ∧ Below w.heap.size w w' := by
 unfold row_Text.f at h
 by_cases c : a1 = true ∧ l0.length ≤ 64 ∧ l0.all fitsB = true ∧ (Lib.join ((l0.map itoaB).map (·.data.toList)) (⟨#[32]⟩ : ByteArray).data.toList).length ≤ 100000
 ·rw [if_pos c] at h; simp only [Option.some.injEq, Prod.mk.injEq] at h; obtain ⟨rfl, rfl⟩ := h; obtain ⟨rfl, c1, c2, c3⟩ := c; exact rowText_walk A0 c0 l0 _ w hr0 hc0 hG (by unfold row_Check.f; rw [if_pos ⟨c1, c2⟩]) ⟨c1, c2⟩ c3 rfl
 ·rw [if_neg c] at h; cases h

end Go.Proofs.YtkgkihichdcpmaaGreatDoor.H
