import Derived.Test.YtkgkihichdcpmaaGreatDoorC7
namespace Go.Proofs.YtkgkihichdcpmaaGreatDoor.H
open Go.RowKit Go.Proofs.YtkgkihichdcpmaaGreatDoorW.PrintWords Go.Proofs.YtkgkihichdcpmaaGreatDoorW.PrintLast Go.Proofs.YtkgkihichdcpmaaGreatDoorW.PrintMore
attribute [local go_sem] max2_int min2_int max_two min_two max_three min_three max_four min_four
set_option linter.unusedVariables false
set_option linter.unusedSimpArgs false
def damage_Check.l0 : Nat → List Int → List (S71) → Int → Int → Option (Int)
 | 0, _, _, _, _ => none
 | k + 1, x0, x18, x19, x20 => if x20 < x19 then (if 0 ≤ x20 then (if x20 < (x18.length : Int) then ((monzo_Check.f k x0 ((rd_T71 x18 x20).f0)).bind fun t592 => (if t592 = 0 then ((frCk.f k ((rd_T71 x18 x20).f1.f0) ((rd_T71 x18 x20).f1.f1)).bind fun t594 => (if t594 = 0 then ((frSi.f ((rd_T71 x18 x20).f1.f0) ((rd_T71 x18 x20).f1.f1)).bind fun t595 => (if t595 ≤ 0 then (none) else ((whole_Abs.f ((rd_T71 x18 x20).f1.f0)).bind fun t596 => (if (t596.size : Int) > 30 then (none) else (if (((rd_T71 x18 x20).f1.f1).size : Int) > 30 then (none) else (damage_Check.l0 k x0 x18 x19 (wrap64 (x20 + 1)))))))) else (none))) else (none))) else (none)) else (none)) else (some 0)
def damage_Check.f (k : Nat) (l0 : List Int) (l1 : List (S71)) : Option (Int) := (prCk.f k l0).bind fun t589 => (if t589 = 0 then (if (l1.length : Int) > 60 then (none) else (damage_Check.l0 k l0 l1 (l1.length : Int) 0)) else (none))
set_option maxHeartbeats 8000000 in
set_option maxRecDepth 100000 in
theorem damage_Check.calls (k : Nat) (A0 : Option Addr) (c0 : Nat) (l0 : List Int) (A1 : Option Addr) (c1 : Nat) (l1 : List (S71)) (r : Int) (w : World) (hr0 : Kd.C (Kd.int .i64) w A0 l0.length l0) (hc0 : l0.length ≤ c0) (hr1 : Kd.C k71 w A1 l1.length l1) (hc1 : l1.length ≤ c1) (hG : GL w) (h : damage_Check.f k l0 l1 = some r) :
  Calls Tryz.prog 37 #[.slice A0 l0.length c0, .slice A1 l1.length c1] w fun e w' => e = .returned (.int .i64 r) ∧ Below w.heap.size w w' := by
 have hu71 := Tryz.underlying71; have hu53 := Tryz.underlying53; have HR0 := AS hr0; have HC0 := AS hc0; clear hr0 hc0; have HR1 := AS hr1; have HC1 := AS hc1; clear hr1 hc1; have HB := AS (Below.refl w.heap.size w); have H : ((prCk.f k l0).bind fun t589 => (if t589 = 0 then (if (l1.length : Int) > 60 then (none) else (damage_Check.l0 k l0 l1 (l1.length : Int) 0)) else (none))) = some r := h; clear h; replace H := Option.bind_eq_some_iff.mp H; obtain ⟨t589, A30, H⟩ := H; replace H : (if t589 = 0 then (if (l1.length : Int) > 60 then (none) else (damage_Check.l0 k l0 l1 (l1.length : Int) 0)) else (none)) = some r := H; have A3 := AS A30; clear A30
 by_cases c4 : t589 = 0
 ·rw [if_pos c4] at H
  have c4b0 : (t589 == 0) = true := beq_iff_eq.mpr c4; have c4b1 : (t589 != 0) = false := bne_eq_false_iff_eq.mpr c4; clear c4
  by_cases c5 : (l1.length : Int) > 60
  ·rw [if_pos c5] at H
   exact absurd H (by simp)
  ·rw [if_neg c5] at H
   have c5b0 : decide (60 < (l1.length : Int)) = false := decide_eq_false c5; have c5b1 : decide (60 < l1.length) = false := decide_eq_false (by omega); clear c5; have H' := AS H; clear H; go_enter Tryz.func37, Tryz.ntmps37; go_wp2_with (first | ((with_reducible refine gtc (f := 25) rfl ?_); refine gsL (some 11) rfl rfl Tryz.func25 Z5 rfl #[.slice A0 l0.length c0] rfl Z1 ?_; (with_reducible refine (prCk.calls k _ _ l0 t589 _ ?side1 ?side2 ?side3 A3.out).mono ?_); (case side1 => exact Z15); (case side2 => exact Z72); (case side3 => exact Z182); rintro e w' ⟨rfl, ⟨nd, rfl⟩⟩; refine ⟨_, rfl, ?_⟩))
   go_loopg [20] k (fun kq v20 w' => ∃ (x20_1 : Int), v20 = .int .i64 x20_1 ∧ Aside0 (damage_Check.l0 kq l0 l1 (l1.length : Int) x20_1 = some r) ∧ Aside0 (kq ≤ k) ∧ Aside0 (Below w.heap.size w w'))
   case atStart => exact ⟨(0), Z4, H', ⟨Nat.le_refl _⟩, ⟨Z0⟩⟩
   case round =>
    clear H'; (try clear c1); (try clear c2); (try clear p2); (try clear c3); (try clear c4); (try clear c4b0); (try clear c4b1); (try clear c5); (try clear c5b0); (try clear c5b1); obtain ⟨x20_1, rfl, HA, HK1, HB⟩ := hrel
    cases gk with
    | zero => exact absurd HA.out (by simp [damage_Check.l0])
    | succ k1 =>
     have H := HA.out; clear HA
     simp only [damage_Check.l0] at H
     by_cases c6 : x20_1 < (l1.length : Int)
     ·rw [if_pos c6] at H
      have c6b0 : decide (x20_1 < (l1.length : Int)) = true := decide_eq_true c6; clear c6
      by_cases c7 : 0 ≤ x20_1
      ·rw [if_pos c7] at H
       have c7b0 : decide (0 ≤ x20_1) = true := decide_eq_true c7; clear c7
       by_cases c8 : x20_1 < (l1.length : Int)
       ·rw [if_pos c8] at H
        have c8b0 : decide (x20_1 < (l1.length : Int)) = true := decide_eq_true c8; clear c8; replace H := Option.bind_eq_some_iff.mp H; obtain ⟨t592, A90, H⟩ := H; replace H : (if t592 = 0 then ((frCk.f k1 ((rd_T71 l1 x20_1).f1.f0) ((rd_T71 l1 x20_1).f1.f1)).bind fun t594 => (if t594 = 0 then ((frSi.f ((rd_T71 l1 x20_1).f1.f0) ((rd_T71 l1 x20_1).f1.f1)).bind fun t595 => (if t595 ≤ 0 then (none) else ((whole_Abs.f ((rd_T71 l1 x20_1).f1.f0)).bind fun t596 => (if (t596.size : Int) > 30 then (none) else (if (((rd_T71 l1 x20_1).f1.f1).size : Int) > 30 then (none) else (damage_Check.l0 k1 l0 l1 (l1.length : Int) (wrap64 (x20_1 + 1)))))))) else (none))) else (none)) = some r := H; have A9 := AS A90; clear A90
        by_cases c10 : t592 = 0
        ·rw [if_pos c10] at H
         have c10b0 : (t592 == 0) = true := beq_iff_eq.mpr c10; have c10b1 : (t592 != 0) = false := bne_eq_false_iff_eq.mpr c10; clear c10; replace H := Option.bind_eq_some_iff.mp H; obtain ⟨t594, A110, H⟩ := H; replace H : (if t594 = 0 then ((frSi.f ((rd_T71 l1 x20_1).f1.f0) ((rd_T71 l1 x20_1).f1.f1)).bind fun t595 => (if t595 ≤ 0 then (none) else ((whole_Abs.f ((rd_T71 l1 x20_1).f1.f0)).bind fun t596 => (if (t596.size : Int) > 30 then (none) else (if (((rd_T71 l1 x20_1).f1.f1).size : Int) > 30 then (none) else (damage_Check.l0 k1 l0 l1 (l1.length : Int) (wrap64 (x20_1 + 1)))))))) else (none)) = some r := H; have A11 := AS A110; clear A110
         by_cases c12 : t594 = 0
         ·rw [if_pos c12] at H
          have c12b0 : (t594 == 0) = true := beq_iff_eq.mpr c12; have c12b1 : (t594 != 0) = false := bne_eq_false_iff_eq.mpr c12; clear c12; replace H := Option.bind_eq_some_iff.mp H; obtain ⟨t595, A130, H⟩ := H; replace H : (if t595 ≤ 0 then (none) else ((whole_Abs.f ((rd_T71 l1 x20_1).f1.f0)).bind fun t596 => (if (t596.size : Int) > 30 then (none) else (if (((rd_T71 l1 x20_1).f1.f1).size : Int) > 30 then (none) else (damage_Check.l0 k1 l0 l1 (l1.length : Int) (wrap64 (x20_1 + 1))))))) = some r := H; have A13 := AS A130; clear A130
          by_cases c14 : t595 ≤ 0
          ·rw [if_pos c14] at H
           exact absurd H (by simp)
          ·rw [if_neg c14] at H
           have c14b0 : decide (t595 ≤ 0) = false := decide_eq_false c14; clear c14; replace H := Option.bind_eq_some_iff.mp H; obtain ⟨t596, A150, H⟩ := H; replace H : (if (t596.size : Int) > 30 then (none) else (if (((rd_T71 l1 x20_1).f1.f1).size : Int) > 30 then (none) else (damage_Check.l0 k1 l0 l1 (l1.length : Int) (wrap64 (x20_1 + 1))))) = some r := H; have A15 := AS A150; clear A150
           by_cases c16 : (t596.size : Int) > 30
           ·rw [if_pos c16] at H
            exact absurd H (by simp)
           ·rw [if_neg c16] at H
            have c16b0 : decide (30 < (t596.size : Int)) = false := decide_eq_false c16; have c16b1 : decide (30 < t596.size) = false := decide_eq_false (by omega); clear c16
            by_cases c17 : (((rd_T71 l1 x20_1).f1.f1).size : Int) > 30
            ·rw [if_pos c17] at H
             exact absurd H (by simp)
            ·rw [if_neg c17] at H
             have c17b0 : decide (30 < (((rd_T71 l1 x20_1).f1.f1).size : Int)) = false := decide_eq_false c17; have c17b1 : decide (30 < ((rd_T71 l1 x20_1).f1.f1).size) = false := decide_eq_false (by omega); clear c17; have H' := AS H; clear H; have p590 : 0 ≤ (x20_1 : Int) := of_decide_eq_true Z2; have q590 : x20_1 < (l1.length : Int) := of_decide_eq_true Z2; obtain ⟨ad590, A590_0, c590_0, e590, hx590_0, hx590_1, hx590_2, hl590_0, hi590_0⟩ := at_T71 HR1.out x20_1 p590 q590; cases e590; replace hx590_0 := (HB.out.cell (World.block_lt_of_cell? w _ hx590_0)).trans hx590_0; replace hx590_1 := (HB.out.cell (World.block_lt_of_cell? w _ hx590_1)).trans hx590_1; replace hx590_2 := (HB.out.cell (World.block_lt_of_cell? w _ hx590_2)).trans hx590_2; have HR590_0 := AS hi590_0; have HC590_0 := AS hl590_0; clear hi590_0 hl590_0; replace p590 := eq_true p590; replace q590 := eq_true q590; go_wp2_with (first | ((with_reducible refine gtd (N := 7) rfl ?_); (try (refine gtg (by rfl) ?_; dsimp only)); refine bxe ?hg (N := 7) ?hd (cs := #[.slice none 0 0, .string (⟨#[]⟩ : ByteArray), .string (⟨#[]⟩ : ByteArray)]) (t := 71) ?hr ?_; (case hd => rfl); (case hg => rfl); (case hr => exact Z11); intro gb591 hg w18 hbox hb; have BK591 := AS (hbox); have GW591 := AS ((Z183 : w.heap.size ≤ gb591)); have GE591 := AS ((Z183 : w.heap.size ≤ gb591)); replace HB := AS (bst Z0 hb); clear hb hbox hg; have hcz19_0 := bc0 BK591.out; have hcz19_1 := bc1 BK591.out; have hcz19_2 := bc2 BK591.out; have hfz19_0 := bfz BK591.out 0; have hfz19_1 := bfz BK591.out 1; have hfz19_2 := bfz BK591.out 2) | ((with_reducible refine gate_store (t := 71) (p := 7) rfl ?_); refine store_event (t := 71) (p := 7) (v := ?vo_w20) (w1 := (((w18.setCell ⟨gb591, 0, none⟩ (.slice A590_0 ((rd_T71 l1 x20_1).f0).length c590_0)).setCell ⟨gb591, 1, none⟩ (.string ((rd_T71 l1 x20_1).f1.f0))).setCell ⟨gb591, 2, none⟩ (.string ((rd_T71 l1 x20_1).f1.f1)))) ?hg ?ho ?hn ?hr ?_; (case ho => rfl); (case hg => rfl); (case hn => rfl); (case hr => exact Z11); intro w20 hw; have n0_ : Aside0 (w20.heap[gb591]? = some (.cells #[.slice A590_0 ((rd_T71 l1 x20_1).f0).length c590_0, .string ((rd_T71 l1 x20_1).f1.f0), .string ((rd_T71 l1 x20_1).f1.f1)] 71 (0, 0))) := ⟨(by rw [hw]; exact (by (with_reducible repeat (first | apply bdn | apply bdr | apply bal)); refine bpt (cs := #[.slice A590_0 ((rd_T71 l1 x20_1).f0).length c590_0, .string ((rd_T71 l1 x20_1).f1.f0), .string (⟨#[]⟩ : ByteArray)]) ?_ 2 _ rfl; (with_reducible repeat (first | apply bdn | apply bdr | apply bal)); refine bpt (cs := #[.slice A590_0 ((rd_T71 l1 x20_1).f0).length c590_0, .string (⟨#[]⟩ : ByteArray), .string (⟨#[]⟩ : ByteArray)]) ?_ 1 _ rfl; (with_reducible repeat (first | apply bdn | apply bdr | apply bal)); refine bpt (cs := #[.slice none 0 0, .string (⟨#[]⟩ : ByteArray), .string (⟨#[]⟩ : ByteArray)]) ?_ 0 _ rfl; (with_reducible repeat (first | apply bdn | apply bdr | apply bal)); exact BK591.out))⟩; have n1_ : Aside0 (Below w.heap.size w w20) := ⟨(by rw [hw]; exact Z52)⟩; clear hw BK591 HB; have BK591 := n0_; have HB := n1_; clear n0_ n1_; have hcz21_0 := bc0 BK591.out; have hcz21_1 := bc1 BK591.out; have hcz21_2 := bc2 BK591.out; have hfz21_0 := bfz BK591.out 0; have hfz21_1 := bfz BK591.out 1; have hfz21_2 := bfz BK591.out 2) | ((with_reducible refine gtc (f := 66) rfl ?_); refine gsL (some 27) rfl rfl Tryz.func66 Z5 rfl #[.slice A0 l0.length c0, .slice A590_0 ((rd_T71 l1 x20_1).f0).length c590_0] rfl Z1 ?_; (with_reducible refine (monzo_Check.calls k1 _ _ l0 (fun k_ => k_ < w.heap.size) _ _ ((rd_T71 l1 x20_1).f0) t592 _ ?side1 ?side2 ?side3 ?side4 A9.out).mono ?_); (case side1 => exact Z10); (case side2 => exact Z72); (case side3 => exact Kd.V_mk HC590_0.out (Kd.F_below (Kd.C_F (Kd.heap_int .i64) HR590_0.out) Z52)); (case side4 => exact GL.below hG Z52); rintro e w22 ⟨rfl, hb⟩; refine ⟨_, rfl, ?_⟩; replace BK591 := AS (bbl (g := gb591) (o := .cells #[.slice A590_0 ((rd_T71 l1 x20_1).f0).length c590_0, .string ((rd_T71 l1 x20_1).f1.f0), .string ((rd_T71 l1 x20_1).f1.f1)] 71 (0, 0)) Z110 hb); replace HB := AS (bst Z52 hb); (try clear hb); (try clear hb2); (try clear hk); (try clear hi); have hcz23_0 := bc0 BK591.out; have hcz23_1 := bc1 BK591.out; have hcz23_2 := bc2 BK591.out; have hfz23_0 := bfz BK591.out 0; have hfz23_1 := bfz BK591.out 1; have hfz23_2 := bfz BK591.out 2) | ((with_reducible refine gtd (N := 9) rfl ?_); (try (refine gtg (by rfl) ?_; dsimp only)); refine bxe ?hg (N := 9) ?hd (cs := #[.string (⟨#[]⟩ : ByteArray), .string (⟨#[]⟩ : ByteArray)]) (t := 53) ?hr ?_; (case hd => rfl); (case hg => rfl); (case hr => exact Z11); intro gb593 hg w24 hbox hb; have BK593 := AS (hbox); have GW593 := AS ((by rw [hg]; exact (bsz Z52) : w.heap.size ≤ gb593)); have GE593 := AS ((by rw [hg]; exact (bsz Z52) : w.heap.size ≤ gb593)); have NB591_593 := AS ((by rw [hg]; exact Nat.ne_of_lt (blk_lt (g := gb591) (o := .cells #[.slice A590_0 ((rd_T71 l1 x20_1).f0).length c590_0, .string ((rd_T71 l1 x20_1).f1.f0), .string ((rd_T71 l1 x20_1).f1.f1)] 71 (0, 0)) Z110) : gb591 ≠ gb593)); have NB593_591 := AS ((by rw [hg]; exact Nat.ne_of_gt (blk_lt (g := gb591) (o := .cells #[.slice A590_0 ((rd_T71 l1 x20_1).f0).length c590_0, .string ((rd_T71 l1 x20_1).f1.f0), .string ((rd_T71 l1 x20_1).f1.f1)] 71 (0, 0)) Z110) : gb593 ≠ gb591)); replace BK591 := AS (bbl (g := gb591) (o := .cells #[.slice A590_0 ((rd_T71 l1 x20_1).f0).length c590_0, .string ((rd_T71 l1 x20_1).f1.f0), .string ((rd_T71 l1 x20_1).f1.f1)] 71 (0, 0)) Z110 hb); replace HB := AS (bst Z52 hb); clear hb hbox hg; have hnb25 := NB593_591.out; have hnc25 := NB591_593.out; have hcz26_0 := bc0 BK593.out; have hcz26_1 := bc1 BK593.out; have hfz26_0 := bfz BK593.out 0; have hfz26_1 := bfz BK593.out 1) | ((with_reducible refine gtc (f := 67) rfl ?_); refine gsL (some 35) rfl rfl Tryz.func67 Z5 rfl #[.agg #[.string ((rd_T71 l1 x20_1).f1.f0), .string ((rd_T71 l1 x20_1).f1.f1)]] rfl Z1 ?_; (with_reducible refine (frCk.calls k1 ((rd_T71 l1 x20_1).f1.f0) ((rd_T71 l1 x20_1).f1.f1) t594 _ ?side1 A11.out).mono ?_); (case side1 => exact GL.below hG Z50); rintro e w27 ⟨rfl, hb⟩; refine ⟨_, rfl, ?_⟩; replace BK591 := AS (bbl (g := gb591) (o := .cells #[.slice A590_0 ((rd_T71 l1 x20_1).f0).length c590_0, .string ((rd_T71 l1 x20_1).f1.f0), .string ((rd_T71 l1 x20_1).f1.f1)] 71 (0, 0)) (by (with_reducible repeat (first | apply bdn | apply bdr | apply bal)); refine blk_far ?_ NB591_593.out _; (with_reducible repeat (first | apply bdn | apply bdr | apply bal)); refine blk_far ?_ NB591_593.out _; (with_reducible repeat (first | apply bdn | apply bdr | apply bal)); exact BK591.out) hb); replace BK593 := AS (bbl (g := gb593) (o := .cells #[.string ((rd_T71 l1 x20_1).f1.f0), .string ((rd_T71 l1 x20_1).f1.f1)] 53 (0, 0)) (by (with_reducible repeat (first | apply bdn | apply bdr | apply bal)); refine bpt (cs := #[.string ((rd_T71 l1 x20_1).f1.f0), .string (⟨#[]⟩ : ByteArray)]) ?_ 1 _ rfl; (with_reducible repeat (first | apply bdn | apply bdr | apply bal)); refine bpt (cs := #[.string (⟨#[]⟩ : ByteArray), .string (⟨#[]⟩ : ByteArray)]) ?_ 0 _ rfl; (with_reducible repeat (first | apply bdn | apply bdr | apply bal)); exact BK593.out) hb); replace HB := AS (bst Z50 hb); (try clear hb); (try clear hb2); (try clear hk); (try clear hi); have hcz28_0 := bc0 BK593.out; have hcz28_1 := bc1 BK593.out; have hfz28_0 := bfz BK593.out 0; have hfz28_1 := bfz BK593.out 1) | ((with_reducible refine gtc (f := 68) rfl ?_); refine gsL (some 39) rfl rfl Tryz.func68 Z5 rfl #[.agg #[.string ((rd_T71 l1 x20_1).f1.f0), .string ((rd_T71 l1 x20_1).f1.f1)]] rfl Z1 ?_; (with_reducible refine (frSi.calls ((rd_T71 l1 x20_1).f1.f0) ((rd_T71 l1 x20_1).f1.f1) t595 _ ?side1 A13.out).mono ?_); (case side1 => exact GL.below hG Z50); rintro e w29 ⟨rfl, hb⟩; refine ⟨_, rfl, ?_⟩; replace BK591 := AS (bbl (g := gb591) (o := .cells #[.slice A590_0 ((rd_T71 l1 x20_1).f0).length c590_0, .string ((rd_T71 l1 x20_1).f1.f0), .string ((rd_T71 l1 x20_1).f1.f1)] 71 (0, 0)) Z110 hb); replace BK593 := AS (bbl (g := gb593) (o := .cells #[.string ((rd_T71 l1 x20_1).f1.f0), .string ((rd_T71 l1 x20_1).f1.f1)] 53 (0, 0)) (by (with_reducible repeat (first | apply bdn | apply bdr | apply bal)); exact BK593.out) hb); replace HB := AS (bst Z50 hb); (try clear hb); (try clear hb2); (try clear hk); (try clear hi); have hcz30_0 := bc0 BK593.out; have hcz30_1 := bc1 BK593.out; have hfz30_0 := bfz BK593.out 0; have hfz30_1 := bfz BK593.out 1) | ((with_reducible refine gtc (f := 69) rfl ?_); refine gsL (some 44) rfl rfl Tryz.func69 Z5 rfl #[.string ((rd_T71 l1 x20_1).f1.f0)] rfl Z1 ?_; (with_reducible refine (whole_Abs.calls ((rd_T71 l1 x20_1).f1.f0) t596 _ ?side1 A15.out).mono ?_); (case side1 => exact GL.below hG Z50); rintro e w' ⟨rfl, ⟨nd, rfl⟩⟩; refine ⟨_, rfl, ?_⟩))
             go_roundg k1
             case measure => have := HK1.out; omega
             case rel => exact ⟨(wrap64 (x20_1 + 1)), Z4, H', ⟨Z88⟩, ⟨Z50⟩⟩
         ·rw [if_neg c12] at H
          exact absurd H (by simp)
        ·rw [if_neg c10] at H
         exact absurd H (by simp)
       ·rw [if_neg c8] at H
        exact absurd H (by simp)
      ·rw [if_neg c7] at H
       exact absurd H (by simp)
     ·rw [if_neg c6] at H
      have c6b0 : decide (x20_1 < (l1.length : Int)) = false := decide_eq_false c6; clear c6; obtain rfl := Option.some.inj H; go_wp2; go_ret; exact ⟨Z3, Z0⟩
 ·rw [if_neg c4] at H
  exact absurd H (by simp)
def decimal_Digits.f (a0 : ByteArray) : Option (Int) := some (a0.size : Int)
set_option maxHeartbeats 8000000 in
set_option maxRecDepth 100000 in
theorem decimal_Digits.calls (a0 : ByteArray) (r : Int) (w : World) (hG : GL w) (h : decimal_Digits.f a0 = some r) :
  Calls Tryz.prog 121 #[.string a0] w fun e w' => e = .returned (.int .i64 r) ∧ Drawn0 w w' := by
 have HB := AS (Below.refl w.heap.size w); have H : (some (a0.size : Int)) = some r := h; clear h; obtain rfl := Option.some.inj H; go_enter Tryz.func121, Tryz.ntmps121; go_wp2; go_ret; exact ⟨Z4, Z13⟩
def monzo_short.f (a0 : ByteArray) : Option (ByteArray × Int) := (decimal_Digits.f a0).bind fun t597 => (if t597 > 400 then (none) else (some (a0, 0)))
set_option maxHeartbeats 8000000 in
set_option maxRecDepth 100000 in
theorem monzo_short.calls (a0 : ByteArray) (r1 : ByteArray) (r2 : Int) (w : World) (hG : GL w) (h : monzo_short.f a0 = some (r1, r2)) :
  Calls Tryz.prog 95 #[.string a0] w fun e w' => e = .returned (.tuple #[.string r1, .int .i64 r2]) ∧ Drawn0 w w' := by
 have HB := AS (Below.refl w.heap.size w); have H : ((decimal_Digits.f a0).bind fun t597 => (if t597 > 400 then (none) else (some (a0, 0)))) = some (r1, r2) := h; clear h; replace H := Option.bind_eq_some_iff.mp H; obtain ⟨t597, A20, H⟩ := H; replace H : (if t597 > 400 then (none) else (some (a0, 0))) = some (r1, r2) := H; have A2 := AS A20; clear A20
 by_cases c3 : t597 > 400
 ·rw [if_pos c3] at H
  exact absurd H (by simp)
 ·rw [if_neg c3] at H
  have c3b0 : decide (400 < t597) = false := decide_eq_false c3; clear c3
  simp only [Option.some.injEq, Prod.mk.injEq] at H
  obtain ⟨rfl, rfl⟩ := H; go_enter Tryz.func95, Tryz.ntmps95; go_wp2_with (first | ((with_reducible refine gtc (f := 121) rfl ?_); refine gsL (some 5) rfl rfl Tryz.func121 Z5 rfl #[.string a0] rfl Z1 ?_; (with_reducible refine (decimal_Digits.calls a0 t597 _ ?side1 A2.out).mono ?_); (case side1 => exact Z182); rintro e w' ⟨rfl, ⟨nd, rfl⟩⟩; refine ⟨_, rfl, ?_⟩)); go_ret2; exact ⟨Z4, Z13⟩

theorem C_V {w : World} {A : Option Addr} {c : Nat} {x : List Int} (h : Kd.C (Kd.int .i64) w A x.length x) (hc : x.length ≤ c) : Kd.V (Kd.int .i64) 3 w w.heap.size (fun k => k < w.heap.size) (.slice A x.length c) x :=
 Kd.V_mk hc (Kd.F_below (Kd.C_F (Kd.heap_int .i64) h) (Below.refl w.heap.size w))
def monzo_Product.f (k : Nat) (l0 : List Int) (l1 : List Int) : Option (ByteArray × Int) := (monzo_Check.f k l0 l1).bind fun t => if t = 0 then ((mzsi.f k l0 l1).bind fun s => (deMu.f k s.1 s.2).bind fun m => monzo_short.f m) else none
set_option maxHeartbeats 4000000 in
set_option maxRecDepth 100000 in
theorem height_walk (k : Nat) (A0 : Option Addr) (c0 : Nat) (l0 : List Int) (A1 : Option Addr) (c1 : Nat) (l1 : List Int) (a b m r1 : ByteArray) (r2 : Int) (w : World) (hp : Kd.C (Kd.int .i64) w A0 l0.length l0) (hcp : l0.length ≤ c0) (hx : Kd.C (Kd.int .i64) w A1 l1.length l1) (hcx : l1.length ≤ c1) (hG : GL w)
  (hk0 : monzo_Check.f k l0 l1 = some 0) (hk1 : mzsi.f k l0 l1 = some (a, b)) (hk2 : deMu.f k a b = some m) (hk3 : monzo_short.f m = some (r1, r2)) :
  Calls Tryz.prog 65 #[.slice A0 l0.length c0, .slice A1 l1.length c1, .func (.func 44) #[] #[]] w fun e w' => e = .returned (.tuple #[.string r1, .int .i64 r2]) ∧ Below w.heap.size w w' := by
 have HC := AS (monzo_Check.calls k A0 c0 l0 (fun k => k < w.heap.size) A1 c1 l1 0 w hp hcp (C_V hx hcx) hG hk0); have HP := AS hp; have HX := AS hx; have HGL := AS hG; have HK1 := AS hk1; have HK2 := AS hk2; have HSH := AS hk3
 have eg : ∀ args w, (callFunc 44 args).run Tryz.prog w = .ok (.enter 44 args) w := enters_of Tryz.func44 Z5 rfl
 clear hp hx hG hk0 hk1 hk2 hk3; go_enter Tryz.func65, Tryz.ntmps65; go_wp2_with fail; refine HC.out.mono ?_; rintro e w1 ⟨rfl, hb1⟩; have HB1 := AS hb1; clear hb1; go_wp2_with fail; refine (mzsi.calls k A0 c0 l0 A1 c1 l1 a b w1 (Kd.C_below HP.out HB1.out) hcp (Kd.C_below HX.out HB1.out) hcx (HGL.out.below HB1.out) HK1.out).mono ?_; rintro e w2 ⟨rfl, hb2⟩; have HB2 := AS (bst HB1.out hb2); clear hb2; go_wp2_with fail; refine (deMu.calls k a b m w2 (HGL.out.below HB2.out) HK2.out).mono ?_; rintro e w3 ⟨rfl, hb3⟩; have HB3 := AS (bst HB2.out hb3); clear hb3; go_wp2_with fail; refine (monzo_short.calls m r1 r2 w3 (HGL.out.below HB3.out) HSH.out).mono ?_; rintro e w4 ⟨rfl, hd⟩; have HB4 := AS (bst HB3.out hd.below); clear hd; go_wp2; go_ret2; exact ⟨rfl, HB4.out⟩
set_option maxHeartbeats 4000000 in
set_option maxRecDepth 100000 in
theorem monzo_Product.calls (k : Nat) (A0 : Option Addr) (c0 : Nat) (l0 : List Int) (A1 : Option Addr) (c1 : Nat) (l1 : List Int) (r1 : ByteArray) (r2 : Int) (w : World) (hr0 : Kd.C (Kd.int .i64) w A0 l0.length l0) (hc0 : l0.length ≤ c0) (hr1 : Kd.C (Kd.int .i64) w A1 l1.length l1) (hc1 : l1.length ≤ c1) (hG : GL w) (h : monzo_Product.f k l0 l1 = some (r1, r2)) :
  Calls Tryz.prog 36 #[.slice A0 l0.length c0, .slice A1 l1.length c1] w fun e w' => e = .returned (.tuple #[.string r1, .int .i64 r2]) ∧ Below w.heap.size w w' := by
 unfold monzo_Product.f at h; obtain ⟨t, ht, h⟩ := Option.bind_eq_some_iff.mp h
 split at h
 ·rename_i h0
  subst h0; obtain ⟨⟨a, b⟩, hab, h⟩ := Option.bind_eq_some_iff.mp h; obtain ⟨m, hm, h⟩ := Option.bind_eq_some_iff.mp h; have HC := AS (height_walk k A0 c0 l0 A1 c1 l1 a b m r1 r2 w hr0 hc0 hr1 hc1 hG ht hab hm h); clear hr0 hr1 hG h ht hab hm; go_enter Tryz.func36, Tryz.ntmps36; go_wp2_with fail; refine HC.out.mono ?_; rintro e w1 ⟨rfl, hb1⟩; have HB1 := AS hb1; clear hb1; go_wp2; go_ret2; exact ⟨rfl, HB1.out⟩
 ·cases h

mutual
def target_Weigh.j0 : Nat → List Int → List (List Int) → Int → Bool → Option ((List (S71)) × Int)
 | 0, _, _, _, _ => none
 | k + 1, x0, x1, x2, x26 => if x26 = true then (some (([] : List (S71)), 12)) else (if (x1.length : Int) > 60 then (some (([] : List (S71)), 4)) else (target_Weigh.l0 k x0 x2 ([] : List (S71)) x1 (x1.length : Int) 0))
def target_Weigh.l0 : Nat → List Int → Int → List (S71) → List (List Int) → Int → Int → Option ((List (S71)) × Int)
 | 0, _, _, _, _, _, _ => none
 | k + 1, x0, x2, x9, x30, x31, x32 => if x32 < x31 then (if 0 ≤ x32 then (if x32 < (x30.length : Int) then (if x2 = 2 then ((monzo_Product.f k x0 (rd_L3 x30 x32)).bind fun bt569 => (if bt569.2 = 0 then (if (bt569.1.size : Int) > 30 then (some (([] : List (S71)), 4)) else ((some (([] : List Int) : List Int)).bind fun y571 => (if y571.length + (rd_L3 x30 x32).length < 17592186044416 then (if x9.length < 2513169434916 then (target_Weigh.l0 k x0 x2 (x9 ++ [(⟨(y571 ++ (rd_L3 x30 x32)), (⟨(⟨#[49]⟩ : ByteArray), bt569.1⟩ : S53)⟩ : S71)]) x30 x31 (wrap64 (x32 + 1))) else (none)) else (none)))) else (some (([] : List (S71)), 4)))) else ((some (([] : List Int) : List Int)).bind fun y580 => (if y580.length + (rd_L3 x30 x32).length < 17592186044416 then (if x9.length < 2513169434916 then (target_Weigh.l0 k x0 x2 (x9 ++ [(⟨(y580 ++ (rd_L3 x30 x32)), (⟨(⟨#[49]⟩ : ByteArray), (⟨#[49]⟩ : ByteArray)⟩ : S53)⟩ : S71)]) x30 x31 (wrap64 (x32 + 1))) else (none)) else (none)))) else (none)) else (none)) else (some (x9, 0))
end
def target_Weigh.f (k : Nat) (l0 : List Int) (l1 : List (List Int)) (a2 : Int) : Option ((List (S71)) × Int) := (target_checkList.f k l0 l1).bind fun t566 => (if t566 = 0 then (if a2 = 1 then (target_Weigh.j0 k l0 l1 a2 false) else (target_Weigh.j0 k l0 l1 a2 (a2 != 2))) else (some (([] : List (S71)), t566)))
def target_Weigh.T18 : Bool × List (List Nat × List Nat) := (true, [([], []), ([], []), ([], []), ([1, 2], [1, 2]), ([], []), ([3, 4], [3, 4]), ([5], [5]), ([0, 6, 3], [0, 6]), ([7, 7, 0, 1, 2, 3, 4, 5, 6, 7], [0, 7])])
def target_Weigh.B18 : List Nat := [0, 0, 0, 6, 0, 30, 62, 127, 255]
theorem target_Weigh.tab18 : rtab .any (opsOf Tryz.f33 18) = target_Weigh.T18 := by kernel_rfl
theorem target_Weigh.bits18 : waitsOk target_Weigh.T18.2 target_Weigh.B18 = true := by kernel_rfl
set_option maxHeartbeats 8000000 in
set_option maxRecDepth 100000 in
theorem target_Weigh.calls (k : Nat) (A0 : Option Addr) (c0 : Nat) (l0 : List Int) (A1 : Option Addr) (c1 : Nat) (l1 : List (List Int)) (a2 : Int) (r1 : List (S71)) (r2 : Int) (w : World) (hr0 : Kd.C (Kd.int .i64) w A0 l0.length l0) (hc0 : l0.length ≤ c0) (hr1 : Kd.C (Kd.slice 3 (Kd.int .i64)) w A1 l1.length l1) (hc1 : l1.length ≤ c1) (hG : GL w) (h : target_Weigh.f k l0 l1 a2 = some (r1, r2)) :
  Calls Tryz.prog 33 #[.slice A0 l0.length c0, .slice A1 l1.length c1, .int .i64 a2] w fun e w' => ∃ v0_ : Value, e = .returned (.tuple #[v0_, .int .i64 r2]) ∧ Kd.S k71 71 w' w.heap.size (fun _ => True) v0_ r1 ∧ Below w.heap.size w w' := by
 have hu53 := Tryz.underlying53; have hu71 := Tryz.underlying71; have HR0 := AS hr0; have HC0 := AS hc0; clear hr0 hc0; have HR1 := AS hr1; have HC1 := AS hc1; clear hr1 hc1; have HB := AS (Below.refl w.heap.size w); have H : ((target_checkList.f k l0 l1).bind fun t566 => (if t566 = 0 then (if a2 = 1 then (target_Weigh.j0 k l0 l1 a2 false) else (target_Weigh.j0 k l0 l1 a2 (a2 != 2))) else (some (([] : List (S71)), t566)))) = some (r1, r2) := h; clear h; replace H := Option.bind_eq_some_iff.mp H; obtain ⟨t566, A40, H⟩ := H; replace H : (if t566 = 0 then (if a2 = 1 then (target_Weigh.j0 k l0 l1 a2 false) else (target_Weigh.j0 k l0 l1 a2 (a2 != 2))) else (some (([] : List (S71)), t566))) = some (r1, r2) := H; have A4 := AS A40; clear A40
 by_cases c5 : t566 = 0
 ·rw [if_pos c5] at H
  have c5b0 : (t566 == 0) = true := beq_iff_eq.mpr c5; have c5b1 : (t566 != 0) = false := bne_eq_false_iff_eq.mpr c5; clear c5; have HC6 := AS H; clear H; go_enter Tryz.func33, Tryz.ntmps33
  go_upto_region 4 with (first | ((with_reducible refine gtc (f := 45) rfl ?_); refine gsL (some 17) rfl rfl Tryz.func45 Z5 rfl #[.slice A0 l0.length c0, .slice A1 l1.length c1] rfl Z1 ?_; (with_reducible refine (target_checkList.calls k _ _ l0 _ _ l1 t566 _ ?side1 ?side2 ?side3 ?side4 ?side5 A4.out).mono ?_); (case side1 => exact Z15); (case side2 => exact Z72); (case side3 => exact Z28); (case side4 => exact Z145); (case side5 => exact Z182); rintro e w' ⟨rfl, ⟨nd, rfl⟩⟩; refine ⟨_, rfl, ?_⟩))
  (try simp only [Act.put, List.setIfInBounds_toArray, List.set_cons_zero, List.set_cons_succ])
  go_cut [26] (fun v26 wc => ∃ (kq : Nat) (x26_5 : Bool), v26 = .bool x26_5 ∧ Aside0 (target_Weigh.j0 kq l0 l1 a2 x26_5 = some (r1, r2)) ∧ Aside0 (kq ≤ k) ∧ Aside0 (Below w.heap.size w wc))
  case first =>
   have H := HC6.out; clear HC6
   by_cases c7 : a2 = 1
   ·rw [if_pos c7] at H
    have c7b0 : (a2 == 1) = true := beq_iff_eq.mpr c7; have c7b1 : (a2 != 1) = false := bne_eq_false_iff_eq.mpr c7; clear c7
    (first | rw [c7b0] | (simp only [i64_w, i32_w]; rw [c7b0]) | skip)
    have H' := AS H; clear H; go_wp2; go_meet
    case rel => exact ⟨_, (false), Z4, H', ⟨Z61⟩, ⟨Z0⟩⟩
   ·rw [if_neg c7] at H
    have c7b0 : (a2 == 1) = false := beq_eq_false_iff_ne.mpr c7; have c7b1 : (a2 != 1) = true := bne_iff_ne.mpr c7
    (first | rw [c7b0] | (simp only [i64_w, i32_w]; rw [c7b0]) | skip)
    have H' := AS H; clear H; go_wp2; go_meet
    case rel => exact ⟨_, ((a2 != 2)), Z4, H', ⟨Z61⟩, ⟨Z0⟩⟩
  case rest =>
   clear HC6; (try clear c1); (try clear p2); (try clear c3); (try clear c4); (try clear c5); (try clear c5b0); (try clear c5b1); (try clear c7); (try clear c7b0); (try clear c7b1); obtain ⟨kq, x26_5, rfl, HA, HJ5, HB⟩ := hcut
   cases kq with
   | zero => exact absurd HA.out (by simp [target_Weigh.j0])
   | succ kj5 =>
    have H := HA.out; clear HA
    simp only [target_Weigh.j0] at H
    by_cases c8 : x26_5 = true
    ·subst c8
     rw [if_pos rfl] at H
     simp only [Option.some.injEq, Prod.mk.injEq] at H
     obtain ⟨rfl, rfl⟩ := H; go_wp2; go_ret2; exact ⟨_, Z3, Z60, Z0⟩
    ·replace c8 := Bool.eq_false_iff.mpr c8; subst c8
     rw [if_neg (show ¬ (false = true) by decide)] at H
     by_cases c9 : (l1.length : Int) > 60
     ·rw [if_pos c9] at H
      have c9b0 : decide (60 < (l1.length : Int)) = true := decide_eq_true c9; have c9b1 : decide (60 < l1.length) = true := decide_eq_true (by omega); clear c9
      simp only [Option.some.injEq, Prod.mk.injEq] at H
      obtain ⟨rfl, rfl⟩ := H; go_wp2; go_ret2; exact ⟨_, Z3, Z60, Z0⟩
     ·rw [if_neg c9] at H
      have c9b0 : decide (60 < (l1.length : Int)) = false := decide_eq_false c9; have c9b1 : decide (60 < l1.length) = false := decide_eq_false (by omega); clear c9; have H' := AS H; clear H; go_wp2
      go_loopg [9, 32] kj5 (fun kq v9 v32 w' => ∃ (x9_2 : List (S71)) (x32_2 : Int), v32 = .int .i64 x32_2 ∧ Aside0 (target_Weigh.l0 kq l0 a2 x9_2 l1 (l1.length : Int) x32_2 = some (r1, r2)) ∧ Aside0 (kq ≤ kj5) ∧ Aside0 (Kd.S k71 71 w' w.heap.size (fun _ => True) v9 x9_2) ∧ Aside0 (Below w.heap.size w w'))
      case atStart => exact ⟨(([] : List (S71))), (0), Z4, H', ⟨Nat.le_refl _⟩, ⟨Z60⟩, ⟨Z0⟩⟩
      case round =>
       clear H'; (try clear c1); (try clear p2); (try clear c3); (try clear c4); (try clear c5); (try clear c5b0); (try clear c5b1); (try clear c7); (try clear c7b0); (try clear c7b1); (try clear c8); (try clear c9); (try clear c9b0); (try clear c9b1); (try clear p2); obtain ⟨x9_2, x32_2, rfl, HA, HK2, HO_9, HB⟩ := hrel
       cases gk with
       | zero => exact absurd HA.out (by simp [target_Weigh.l0])
       | succ k2 =>
        have H := HA.out; clear HA
        simp only [target_Weigh.l0] at H
        by_cases c10 : x32_2 < (l1.length : Int)
        ·rw [if_pos c10] at H
         have c10b0 : decide (x32_2 < (l1.length : Int)) = true := decide_eq_true c10; clear c10
         by_cases c11 : 0 ≤ x32_2
         ·rw [if_pos c11] at H
          have c11b0 : decide (0 ≤ x32_2) = true := decide_eq_true c11; clear c11
          by_cases c12 : x32_2 < (l1.length : Int)
          ·rw [if_pos c12] at H
           have c12b0 : decide (x32_2 < (l1.length : Int)) = true := decide_eq_true c12; clear c12
           by_cases c13 : a2 = 2
           ·rw [if_pos c13] at H
            have c13b0 : (a2 == 2) = true := beq_iff_eq.mpr c13; have c13b1 : (a2 != 2) = false := bne_eq_false_iff_eq.mpr c13; clear c13; replace H := Option.bind_eq_some_iff.mp H; obtain ⟨⟨t569, t570⟩, A140, H⟩ := H; replace H : (if t570 = 0 then (if (t569.size : Int) > 30 then (some (([] : List (S71)), 4)) else ((some (([] : List Int) : List Int)).bind fun y571 => (if y571.length + (rd_L3 l1 x32_2).length < 17592186044416 then (if x9_2.length < 2513169434916 then (target_Weigh.l0 k2 l0 a2 (x9_2 ++ [(⟨(y571 ++ (rd_L3 l1 x32_2)), (⟨(⟨#[49]⟩ : ByteArray), t569⟩ : S53)⟩ : S71)]) l1 (l1.length : Int) (wrap64 (x32_2 + 1))) else (none)) else (none)))) else (some (([] : List (S71)), 4))) = some (r1, r2) := H; have A14 := AS A140; clear A140
            by_cases c15 : t570 = 0
            ·rw [if_pos c15] at H
             have c15b0 : (t570 == 0) = true := beq_iff_eq.mpr c15; have c15b1 : (t570 != 0) = false := bne_eq_false_iff_eq.mpr c15; clear c15
             by_cases c16 : (t569.size : Int) > 30
             ·rw [if_pos c16] at H
              have c16b0 : decide (30 < (t569.size : Int)) = true := decide_eq_true c16; have c16b1 : decide (30 < t569.size) = true := decide_eq_true (by omega); clear c16
              simp only [Option.some.injEq, Prod.mk.injEq] at H
              obtain ⟨rfl, rfl⟩ := H; have p567 : 0 ≤ (x32_2 : Int) := of_decide_eq_true Z2; have q567 : x32_2 < (l1.length : Int) := of_decide_eq_true Z2; obtain ⟨ad567, A567_0, c567_0, e567, hx567_0, hl567_0, hi567_0⟩ := at_L3 HR1.out x32_2 p567 q567; cases e567; replace hx567_0 := (HB.out.cell (World.block_lt_of_cell? w _ hx567_0)).trans hx567_0; have HR567_0 := AS hi567_0; have HC567_0 := AS hl567_0; clear hi567_0 hl567_0; replace p567 := eq_true p567; replace q567 := eq_true q567; go_wp2_with (first | ((with_reducible refine gtd (N := 12) rfl ?_); (try (refine gtg (by rfl) ?_; dsimp only)); refine bxe ?hg (N := 12) ?hd (cs := #[.string (⟨#[]⟩ : ByteArray), .string (⟨#[]⟩ : ByteArray)]) (t := 53) ?hr ?_; (case hd => rfl); (case hg => rfl); (case hr => exact Z11); intro gb568 hg w17 hbox hb; have BK568 := AS (hbox); have GW568 := AS ((Z183 : w.heap.size ≤ gb568)); have GE568 := AS ((Z183 : w.heap.size ≤ gb568)); replace HO_9 := AS (Kd.S_below Z64 hb); replace HB := AS (bst Z0 hb); clear hb hbox hg; have hcz18_0 := bc0 BK568.out; have hcz18_1 := bc1 BK568.out; have hfz18_0 := bfz BK568.out 0; have hfz18_1 := bfz BK568.out 1) | ((with_reducible refine gtc (f := 36) rfl ?_); refine gsL (some 42) rfl rfl Tryz.func36 Z5 rfl #[.slice A0 l0.length c0, .slice A567_0 (rd_L3 l1 x32_2).length c567_0] rfl Z1 ?_; (with_reducible refine (monzo_Product.calls k2 _ _ l0 _ _ (rd_L3 l1 x32_2) t569 t570 _ ?side1 ?side2 ?side3 ?side4 ?side5 A14.out).mono ?_); (case side1 => exact Z220); (case side2 => exact Z72); (case side3 => exact Z213); (case side4 => exact HC567_0.out); (case side5 => exact GL.below hG Z8); rintro e w19 ⟨rfl, hb⟩; refine ⟨_, rfl, ?_⟩; replace HO_9 := AS (Kd.S_below Z57 hb); replace BK568 := AS (bbl (g := gb568) (o := .cells #[.string (⟨#[49]⟩ : ByteArray), .string (⟨#[49]⟩ : ByteArray)] 53 (0, 0)) Z23 hb); replace HB := AS (bst Z8 hb); (try clear hb); (try clear hb2); (try clear hk); (try clear hi))); go_ret2; exact ⟨_, Z3, Z60, Z8⟩
             ·rw [if_neg c16] at H
              have c16b0 : decide (30 < (t569.size : Int)) = false := decide_eq_false c16; have c16b1 : decide (30 < t569.size) = false := decide_eq_false (by omega); clear c16
              obtain ⟨y571, hy571⟩ : ∃ y_ : List Int, y_ = (([] : List Int)) := ⟨_, rfl⟩
              replace H : (if y571.length + (rd_L3 l1 x32_2).length < 17592186044416 then (if x9_2.length < 2513169434916 then (target_Weigh.l0 k2 l0 a2 (x9_2 ++ [(⟨(y571 ++ (rd_L3 l1 x32_2)), (⟨(⟨#[49]⟩ : ByteArray), t569⟩ : S53)⟩ : S71)]) l1 (l1.length : Int) (wrap64 (x32_2 + 1))) else (none)) else (none)) = some (r1, r2) := by first | (rw [hy571]; with_reducible exact H) | (have H2_ := (Option.bind_some _ _).symm.trans H; rw [hy571]; with_reducible exact H2_) | (have H2_ := (Option.bind_some _ _).symm.trans H; with_reducible exact H2_) | with_reducible exact H | (rw [hy571]; exact H) | exact H
              have Ny571 := AS hy571; clear hy571
              by_cases c20 : y571.length + (rd_L3 l1 x32_2).length < 17592186044416
              ·rw [if_pos c20] at H
               have LMc20 := AS c20; clear c20
               obtain ⟨y574, hy574⟩ : ∃ y_ : List Int, y_ = (y571 ++ (rd_L3 l1 x32_2)) := ⟨_, rfl⟩
               replace H : (if x9_2.length < 2513169434916 then (target_Weigh.l0 k2 l0 a2 (x9_2 ++ [(⟨y574, (⟨(⟨#[49]⟩ : ByteArray), t569⟩ : S53)⟩ : S71)]) l1 (l1.length : Int) (wrap64 (x32_2 + 1))) else (none)) = some (r1, r2) := by first | (rw [hy574]; with_reducible exact H) | (have H2_ := (Option.bind_some _ _).symm.trans H; rw [hy574]; with_reducible exact H2_) | (have H2_ := (Option.bind_some _ _).symm.trans H; with_reducible exact H2_) | with_reducible exact H | (rw [hy574]; exact H) | exact H
               have Ny574 := AS hy574; clear hy574
               by_cases c21 : x9_2.length < 2513169434916
               ·rw [if_pos c21] at H
                have LMc21 := AS c21; clear c21
                obtain ⟨y577, hy577⟩ : ∃ y_ : List (S71), y_ = (x9_2 ++ [(⟨y574, (⟨(⟨#[49]⟩ : ByteArray), t569⟩ : S53)⟩ : S71)]) := ⟨_, rfl⟩
                replace H : (target_Weigh.l0 k2 l0 a2 y577 l1 (l1.length : Int) (wrap64 (x32_2 + 1))) = some (r1, r2) := by first | (rw [hy577]; with_reducible exact H) | (have H2_ := (Option.bind_some _ _).symm.trans H; rw [hy577]; with_reducible exact H2_) | (have H2_ := (Option.bind_some _ _).symm.trans H; with_reducible exact H2_) | with_reducible exact H | (rw [hy577]; exact H) | exact H
                have Ny577 := AS hy577; clear hy577; have H' := AS H; clear H; have p567 : 0 ≤ (x32_2 : Int) := of_decide_eq_true Z2; have q567 : x32_2 < (l1.length : Int) := of_decide_eq_true Z2; obtain ⟨ad567, A567_0, c567_0, e567, hx567_0, hl567_0, hi567_0⟩ := at_L3 HR1.out x32_2 p567 q567; cases e567; replace hx567_0 := (HB.out.cell (World.block_lt_of_cell? w _ hx567_0)).trans hx567_0; have HR567_0 := AS hi567_0; have HC567_0 := AS hl567_0; clear hi567_0 hl567_0; replace p567 := eq_true p567; replace q567 := eq_true q567; (try go_wp2_with (first | ((with_reducible refine gtd (N := 12) rfl ?_); (try (refine gtg (by rfl) ?_; dsimp only)); refine bxe ?hg (N := 12) ?hd (cs := #[.string (⟨#[]⟩ : ByteArray), .string (⟨#[]⟩ : ByteArray)]) (t := 53) ?hr ?_; (case hd => rfl); (case hg => rfl); (case hr => exact Z11); intro gb568 hg w22 hbox hb; have BK568 := AS (hbox); have GW568 := AS ((Z183 : w.heap.size ≤ gb568)); have GE568 := AS ((Z183 : w.heap.size ≤ gb568)); replace HO_9 := AS (Kd.S_below Z64 hb); replace HB := AS (bst Z0 hb); clear hb hbox hg; have hcz23_0 := bc0 BK568.out; have hcz23_1 := bc1 BK568.out; have hfz23_0 := bfz BK568.out 0; have hfz23_1 := bfz BK568.out 1) | ((with_reducible refine gtc (f := 36) rfl ?_); refine gsL (some 42) rfl rfl Tryz.func36 Z5 rfl #[.slice A0 l0.length c0, .slice A567_0 (rd_L3 l1 x32_2).length c567_0] rfl Z1 ?_; (with_reducible refine (monzo_Product.calls k2 _ _ l0 _ _ (rd_L3 l1 x32_2) t569 t570 _ ?side1 ?side2 ?side3 ?side4 ?side5 A14.out).mono ?_); (case side1 => exact Z220); (case side2 => exact Z72); (case side3 => exact Z213); (case side4 => exact HC567_0.out); (case side5 => exact GL.below hG Z8); rintro e w24 ⟨rfl, hb⟩; refine ⟨_, rfl, ?_⟩; replace HO_9 := AS (Kd.S_below Z57 hb); replace BK568 := AS (bbl (g := gb568) (o := .cells #[.string (⟨#[49]⟩ : ByteArray), .string (⟨#[49]⟩ : ByteArray)] 53 (0, 0)) Z23 hb); replace HB := AS (bst Z8 hb); (try clear hb); (try clear hb2); (try clear hk); (try clear hi); have hcz25_0 := bc0 BK568.out; have hcz25_1 := bc1 BK568.out; have hfz25_0 := bfz BK568.out 0; have hfz25_1 := bfz BK568.out 1))); have n0_ : Aside0 (Kd.S k71 71 (w24.setCell ⟨gb568, 1, none⟩ (.string t569)) w.heap.size (fun _ => True) u9 x9_2) := ⟨by (with_reducible repeat (first | apply Kd.S_alloc | apply Kd.S_drewN | apply Kd.S_drew)); exact Kd.S_mono (Kd.S_far (p := ⟨gb568, 1, none⟩) (Kd.S_types HO_9.out BK568.out (by decide)) (fun _ hk => hk.2) (.string t569)) (fun _ hk => trivial)⟩; have n1_ : Aside0 ((w24.setCell ⟨gb568, 1, none⟩ (.string t569)).heap[gb568]? = some (.cells #[.string (⟨#[49]⟩ : ByteArray), .string t569] 53 (0, 0))) := ⟨by (with_reducible repeat (first | apply bdn | apply bdr | apply bal)); refine bpt (cs := #[.string (⟨#[49]⟩ : ByteArray), .string (⟨#[49]⟩ : ByteArray)]) ?_ 1 _ rfl; (with_reducible repeat (first | apply bdn | apply bdr | apply bal)); exact BK568.out⟩; have n2_ : Aside0 (Below w.heap.size w (w24.setCell ⟨gb568, 1, none⟩ (.string t569))) := ⟨Z8⟩
                (try clear HO_9)
                (try clear BK568)
                (try clear HB)
                generalize (w24.setCell ⟨gb568, 1, none⟩ (.string t569)) = w26 at n0_ n1_ n2_ ⊢; have HO_9 := n0_; have BK568 := n1_; have HB := n2_; clear n0_ n1_ n2_; have n0_ := AS (Kd.S_drew HO_9.out); have n1_ := AS (bdr BK568.out); have n2_ := AS (bl1 HB.out); clear HO_9 BK568 HB; have HO_9 := n0_; have BK568 := n1_; have HB := n2_; clear n0_ n1_ n2_
                refine start_ (n := 9) (S := fun w' => w'.cell? ⟨gb568, 0, none⟩ = some (.string (⟨#[49]⟩ : ByteArray)) ∧ w'.cell? ⟨gb568, 1, none⟩ = some (.string t569)) (ds := []) #[false, false, false, false, false, false, false, false, false] Z5 rfl rfl ⟨bc0 BK568.out, bc1 BK568.out⟩ (fun hHeld => ?_); refine with_tabW target_Weigh.tab18 target_Weigh.bits18 (fun HT_ HW_ => ?_)
                generalize w26.drew = w27 at HO_9 BK568 HB hHeld ⊢; refine pure_ (i := 0) (N := some 54) (v := ?_) (a' := ?_) #[true, false, false, false, false, false, false, false, false] rfl rfl (any_of HT_.out Z5) (fun _ _ _ h => h) (Or.inl ⟨by rfl, ?_⟩) ?_ ?_; rotate_left
                ·intro w'; go_simp; with_reducible rfl
                rotate_left
                ·simp only [Act.put, List.setIfInBounds_toArray, List.set_cons_zero, List.set_cons_succ, i64_w, i32_w]; rfl
                refine pure_ (i := 2) (N := some 56) (v := ?_) (a' := ?_) #[true, false, true, false, false, false, false, false, false] rfl rfl (any_of HT_.out Z5) (fun _ _ _ h => h) (Or.inl ⟨by rfl, ?_⟩) ?_ ?_; rotate_left
                ·intro w'; go_simp; with_reducible rfl
                rotate_left
                ·simp only [Act.put, List.setIfInBounds_toArray, List.set_cons_zero, List.set_cons_succ, i64_w, i32_w]; rfl
                refine take_ (i := 4) (N := some 58) (v := ?_) (a' := ?_) #[true, false, true, false, true, false, false, false, false] rfl rfl (take_ofW HT_.out HW_.out Z5) (fun _ _ _ h => h) (Or.inl ⟨by rfl, ?_⟩) hHeld ?_ ?_; rotate_left
                ·rintro w' ⟨s0, s1⟩; go_simp; with_reducible rfl
                rotate_left
                ·simp only [Act.put, List.setIfInBounds_toArray, List.set_cons_zero, List.set_cons_succ, i64_w, i32_w]; rfl
                refine one_ (i := 1) (N := some 55) #[true, true, true, false, true, false, false, false, false] rfl rfl (one_of HT_.out Z5) (by decide) (fun K hK => ?_)
                refine Kd.R_lit_step (Kd.int .i64) _ 3 ?hg (N := 55) ?hd (xs := ([] : List Int)) (inner := []) (ok := fun _ => True) (okp := fun _ => True) ?hr ?hp (fun _ hk => hk) trivial (Below.refl _ _) (Nat.le_refl _) (by simp) ?_; (case hd => rfl); (case hg => rfl); (case hr => exact Z11); (case hp => exact (Reps.none _ _))
                intro v572 w28 ho29 hb hg_ hnew_; clear hg_ hnew_
                (first | rw [← Ny571.out] at ho29 | (simp only [Int.reduceToNat] at ho29; rw [← Ny571.out] at ho29))
                have n0_ := AS (Kd.S_elder' Z64 (Kd.R_base ho29) hb); have n1_ := AS (Kd.R_lower ho29 (bsz Z8)); have n2_ := AS (bbl (g := gb568) (o := .cells #[.string (⟨#[49]⟩ : ByteArray), .string t569] 53 (0, 0)) Z96 hb); have n3_ := AS (bst Z8 hb); clear HO_9 BK568 HB; have HO_9 := n0_; have HO573 := n1_; have BK568 := n2_; have HB := n3_; clear n0_ n1_ n2_ n3_; clear hb ho29; refine hK.out _ _ ⟨bc0 BK568.out, bc1 BK568.out⟩ (fun hHeld => ?_); clear hK K; refine norm_ (a' := ?_) ?_ ?_; rotate_left
                ·show Act.put _ (some 55) _ = _
                 simp only [Act.put, List.setIfInBounds_toArray, List.set_cons_zero, List.set_cons_succ, i64_w, i32_w]; rfl
                refine one_ (i := 3) (N := some 57) #[true, true, true, true, true, false, false, false, false] rfl rfl (one_of HT_.out Z5) (by decide) (fun K hK => ?_); refine Kd.R_append_rows_step (Kd.int .i64) (w0 := w) w.heap.size (by rfl) (.tmp 55) (.tmp 56) 28 3 (.int .i64 0) 8 rfl Tryz.underlying28 info3 rfl (by decide) (by omega) v572 y571 (rd_L3 l1 x32_2) _ _ _ (fun _ => True) (fun _ => False) rfl rfl ?aO ?aR (fun _ _ h => h) (fun _ h => h.elim) ?aF ?aB ?aS ?aL ?_
                (case aR => exact Z126)
                (case aB => exact Z8)
                (case aF => exact Z163)
                (case aO => exact (by (with_reducible repeat (first | apply Kd.R_alloc | apply Kd.R_drewN | apply Kd.R_drew)); exact HO573.out))
                (case aS => exact Z219)
                (case aL => have := LMc20.out; omega)
                intro v575 w30 ho hb hg hat; rw [← Ny574.out] at ho; have n0_ := AS (Kd.S_after (ok := (fun _ => True)) Z64 hg hat); have n1_ := AS (bgr (g := gb568) (o := .cells #[.string (⟨#[49]⟩ : ByteArray), .string t569] 53 (0, 0)) Z96 hg (Kd.R_ne HO573.out BK568.out (by decide))); have n2_ := AS (hb); have n3_ := AS (ho); clear HO_9 BK568; clear HB HO573; have HO_9 := n0_; have BK568 := n1_; have HB := n2_; have HO576 := n3_; clear n0_ n1_ n2_ n3_; clear ho hb hg hat; obtain ⟨Ao31, co31, eo31⟩ := Kd.R_slice HO576.out
                (first | subst eo31 | (injection eo31 with f1_ f2_ f3_; have f4_ := f1_.symm; have f5_ := f3_.symm; clear f1_ f2_ f3_; subst f4_; subst f5_))
                refine hK.out _ _ ⟨bc0 BK568.out, bc1 BK568.out⟩ (fun hHeld => ?_); clear hK K; refine norm_ (a' := ?_) ?_ ?_; rotate_left
                ·show Act.put _ (some 57) _ = _
                 simp only [Act.put, List.setIfInBounds_toArray, List.set_cons_zero, List.set_cons_succ, i64_w, i32_w]; rfl
                refine pure_ (i := 5) (N := some 59) (v := ?_) (a' := ?_) #[true, true, true, true, true, true, false, false, false] rfl rfl (any_of HT_.out Z5) (fun _ _ _ h => h) (Or.inl ⟨by rfl, ?_⟩) ?_ ?_; rotate_left
                ·intro w'; go_simp; with_reducible rfl
                rotate_left
                ·simp only [Act.put, List.setIfInBounds_toArray, List.set_cons_zero, List.set_cons_succ, i64_w, i32_w]; rfl
                refine one_ (i := 6) (N := some 60) #[true, true, true, true, true, true, true, false, false] rfl rfl (one_of HT_.out Z5) (by decide) (fun K hK => ?_); refine value_ (w1 := ?_) (v := ?_) (by rfl) rfl ?_ ?_; rotate_left 2
                ·go_simp
                 constructor
                 ·rfl
                 ·rfl
                refine hK.out _ _ ⟨(bce (bal BK568.out _) 0).trans rfl, (bce (bal BK568.out _) 1).trans rfl⟩ (fun hHeld => ?_); clear hK K; refine norm_ (a' := ?_) ?_ ?_; rotate_left
                ·show Act.put _ (some 60) _ = _
                 simp only [Act.put, List.setIfInBounds_toArray, List.set_cons_zero, List.set_cons_succ, i64_w, i32_w]; rfl
                refine one_ (i := 7) (N := some 61) #[true, true, true, true, true, true, true, true, false] rfl rfl (one_of HT_.out Z5) (by decide) (fun K hK => ?_); refine Kd.S_append_step k71 (w0 := w) w.heap.size (by rfl) (.tmp 54) (.tmp 60) 61 71 (.agg #[(.slice none 0 0), (.string ⟨#[]⟩), (.string ⟨#[]⟩)]) 56 rfl Tryz.underlying61 info71 rfl (by decide) (by omega) u9 x9_2 (⟨y574, (⟨(⟨#[49]⟩ : ByteArray), t569⟩ : S53)⟩ : S71) [.slice Ao31 y574.length co31, .string (⟨#[49]⟩ : ByteArray), .string t569] (fun _ => True) (fun k_ => some k_ = (.slice Ao31 y574.length co31 : Value).ownBlock) rfl rfl ?aP (fun k_ hk_ => ((Kd.R_mono (ok' := fun k_ => ((fun _ => True)) k_ ∧ some k_ ≠ (u9 : Value).ownBlock) (Kd.R_apart' (HO576.out) (Kd.S_typed HO_9.out) (by decide)) (fun k_ hk => ⟨trivial, hk.2⟩))).1 k_ hk_.symm) ?aF ?aO ?aB ?aS ?aL ?_
                (case aP => exact k71_mkM _ _ _ (⟨y574, (⟨(⟨#[49]⟩ : ByteArray), t569⟩ : S53)⟩ : S71) (Kd.R_mono (Kd.R_tight rfl (Kd.R_mono (ok' := fun k_ => ((fun _ => True)) k_ ∧ some k_ ≠ (u9 : Value).ownBlock) (Kd.R_apart' (HO576.out) (Kd.S_typed HO_9.out) (by decide)) (fun k_ hk => ⟨trivial, hk.2⟩))) (fun _ h_ => h_)))
                (case aB => exact Z8)
                (case aF => exact Z163)
                (case aO => exact Z137)
                (case aS => exact Z219)
                (case aL => have := LMc21.out; omega)
                intro v578 w32 ho hb hg hat; rw [← Ny577.out] at ho; have n0_ := AS (bgr (g := gb568) (o := .cells #[.string (⟨#[49]⟩ : ByteArray), .string t569] 53 (0, 0)) Z96 hg (Kd.S_ne HO_9.out BK568.out (by decide))); have n1_ := AS (hb); have n2_ := AS (ho); clear BK568 HB; clear HO_9 HO576; have BK568 := n0_; have HB := n1_; have HO579 := n2_; clear n0_ n1_ n2_; clear ho hb hg hat; refine hK.out _ _ ⟨bc0 BK568.out, bc1 BK568.out⟩ (fun hHeld => ?_); clear hK K; refine norm_ (a' := ?_) ?_ ?_; rotate_left
                ·show Act.put _ (some 61) _ = _
                 simp only [Act.put, List.setIfInBounds_toArray, List.set_cons_zero, List.set_cons_succ, i64_w, i32_w]; rfl
                refine pure_ (i := 8) (N := some 9) (v := ?_) (a' := ?_) #[true, true, true, true, true, true, true, true, true] rfl rfl (any_of HT_.out Z5) (fun _ _ _ h => h) (Or.inl ⟨by rfl, ?_⟩) ?_ ?_; rotate_left
                ·intro w'; go_simp; with_reducible rfl
                rotate_left
                ·simp only [Act.put, List.setIfInBounds_toArray, List.set_cons_zero, List.set_cons_succ, i64_w, i32_w]; rfl
                refine done_ (done_of HT_.out Z5) ?_; (try go_wp2)
                go_roundg k2
                case measure => have := HJ5.out; have := HK2.out; omega
                case rel => exact ⟨(y577), (wrap64 (x32_2 + 1)), Z4, H', ⟨by have := HJ5.out; have := HK2.out; omega⟩, ⟨by (with_reducible repeat (first | apply Kd.S_alloc | apply Kd.S_drewN | apply Kd.S_drew)); exact HO579.out⟩, ⟨Z8⟩⟩
               ·rw [if_neg c21] at H
                exact absurd H (by simp)
              ·rw [if_neg c20] at H
               exact absurd H (by simp)
            ·rw [if_neg c15] at H
             have c15b0 : (t570 == 0) = false := beq_eq_false_iff_ne.mpr c15; have c15b1 : (t570 != 0) = true := bne_iff_ne.mpr c15
             simp only [Option.some.injEq, Prod.mk.injEq] at H
             obtain ⟨rfl, rfl⟩ := H; have p567 : 0 ≤ (x32_2 : Int) := of_decide_eq_true Z2; have q567 : x32_2 < (l1.length : Int) := of_decide_eq_true Z2; obtain ⟨ad567, A567_0, c567_0, e567, hx567_0, hl567_0, hi567_0⟩ := at_L3 HR1.out x32_2 p567 q567; cases e567; replace hx567_0 := (HB.out.cell (World.block_lt_of_cell? w _ hx567_0)).trans hx567_0; have HR567_0 := AS hi567_0; have HC567_0 := AS hl567_0; clear hi567_0 hl567_0; replace p567 := eq_true p567; replace q567 := eq_true q567; go_wp2_with (first | ((with_reducible refine gtd (N := 12) rfl ?_); (try (refine gtg (by rfl) ?_; dsimp only)); refine bxe ?hg (N := 12) ?hd (cs := #[.string (⟨#[]⟩ : ByteArray), .string (⟨#[]⟩ : ByteArray)]) (t := 53) ?hr ?_; (case hd => rfl); (case hg => rfl); (case hr => exact Z11); intro gb568 hg w33 hbox hb; have BK568 := AS (hbox); have GW568 := AS ((Z183 : w.heap.size ≤ gb568)); have GE568 := AS ((Z183 : w.heap.size ≤ gb568)); replace HO_9 := AS (Kd.S_below Z64 hb); replace HB := AS (bst Z0 hb); clear hb hbox hg; have hcz34_0 := bc0 BK568.out; have hcz34_1 := bc1 BK568.out; have hfz34_0 := bfz BK568.out 0; have hfz34_1 := bfz BK568.out 1) | ((with_reducible refine gtc (f := 36) rfl ?_); refine gsL (some 42) rfl rfl Tryz.func36 Z5 rfl #[.slice A0 l0.length c0, .slice A567_0 (rd_L3 l1 x32_2).length c567_0] rfl Z1 ?_; (with_reducible refine (monzo_Product.calls k2 _ _ l0 _ _ (rd_L3 l1 x32_2) t569 t570 _ ?side1 ?side2 ?side3 ?side4 ?side5 A14.out).mono ?_); (case side1 => exact Z220); (case side2 => exact Z72); (case side3 => exact Z213); (case side4 => exact HC567_0.out); (case side5 => exact GL.below hG Z8); rintro e w35 ⟨rfl, hb⟩; refine ⟨_, rfl, ?_⟩; replace HO_9 := AS (Kd.S_below Z57 hb); replace BK568 := AS (bbl (g := gb568) (o := .cells #[.string (⟨#[49]⟩ : ByteArray), .string (⟨#[49]⟩ : ByteArray)] 53 (0, 0)) Z23 hb); replace HB := AS (bst Z8 hb); (try clear hb); (try clear hb2); (try clear hk); (try clear hi))); go_ret2; exact ⟨_, Z3, Z60, Z8⟩
           ·rw [if_neg c13] at H
            have c13b0 : (a2 == 2) = false := beq_eq_false_iff_ne.mpr c13; have c13b1 : (a2 != 2) = true := bne_iff_ne.mpr c13
            obtain ⟨y580, hy580⟩ : ∃ y_ : List Int, y_ = (([] : List Int)) := ⟨_, rfl⟩
            replace H : (if y580.length + (rd_L3 l1 x32_2).length < 17592186044416 then (if x9_2.length < 2513169434916 then (target_Weigh.l0 k2 l0 a2 (x9_2 ++ [(⟨(y580 ++ (rd_L3 l1 x32_2)), (⟨(⟨#[49]⟩ : ByteArray), (⟨#[49]⟩ : ByteArray)⟩ : S53)⟩ : S71)]) l1 (l1.length : Int) (wrap64 (x32_2 + 1))) else (none)) else (none)) = some (r1, r2) := by first | (rw [hy580]; with_reducible exact H) | (have H2_ := (Option.bind_some _ _).symm.trans H; rw [hy580]; with_reducible exact H2_) | (have H2_ := (Option.bind_some _ _).symm.trans H; with_reducible exact H2_) | with_reducible exact H | (rw [hy580]; exact H) | exact H
            have Ny580 := AS hy580; clear hy580
            by_cases c36 : y580.length + (rd_L3 l1 x32_2).length < 17592186044416
            ·rw [if_pos c36] at H
             have LMc36 := AS c36; clear c36
             obtain ⟨y583, hy583⟩ : ∃ y_ : List Int, y_ = (y580 ++ (rd_L3 l1 x32_2)) := ⟨_, rfl⟩
             replace H : (if x9_2.length < 2513169434916 then (target_Weigh.l0 k2 l0 a2 (x9_2 ++ [(⟨y583, (⟨(⟨#[49]⟩ : ByteArray), (⟨#[49]⟩ : ByteArray)⟩ : S53)⟩ : S71)]) l1 (l1.length : Int) (wrap64 (x32_2 + 1))) else (none)) = some (r1, r2) := by first | (rw [hy583]; with_reducible exact H) | (have H2_ := (Option.bind_some _ _).symm.trans H; rw [hy583]; with_reducible exact H2_) | (have H2_ := (Option.bind_some _ _).symm.trans H; with_reducible exact H2_) | with_reducible exact H | (rw [hy583]; exact H) | exact H
             have Ny583 := AS hy583; clear hy583
             by_cases c37 : x9_2.length < 2513169434916
             ·rw [if_pos c37] at H
              have LMc37 := AS c37; clear c37
              obtain ⟨y586, hy586⟩ : ∃ y_ : List (S71), y_ = (x9_2 ++ [(⟨y583, (⟨(⟨#[49]⟩ : ByteArray), (⟨#[49]⟩ : ByteArray)⟩ : S53)⟩ : S71)]) := ⟨_, rfl⟩
              replace H : (target_Weigh.l0 k2 l0 a2 y586 l1 (l1.length : Int) (wrap64 (x32_2 + 1))) = some (r1, r2) := by first | (rw [hy586]; with_reducible exact H) | (have H2_ := (Option.bind_some _ _).symm.trans H; rw [hy586]; with_reducible exact H2_) | (have H2_ := (Option.bind_some _ _).symm.trans H; with_reducible exact H2_) | with_reducible exact H | (rw [hy586]; exact H) | exact H
              have Ny586 := AS hy586; clear hy586; have H' := AS H; clear H; have p567 : 0 ≤ (x32_2 : Int) := of_decide_eq_true Z2; have q567 : x32_2 < (l1.length : Int) := of_decide_eq_true Z2; obtain ⟨ad567, A567_0, c567_0, e567, hx567_0, hl567_0, hi567_0⟩ := at_L3 HR1.out x32_2 p567 q567; cases e567; replace hx567_0 := (HB.out.cell (World.block_lt_of_cell? w _ hx567_0)).trans hx567_0; have HR567_0 := AS hi567_0; have HC567_0 := AS hl567_0; clear hi567_0 hl567_0; replace p567 := eq_true p567; replace q567 := eq_true q567; (try go_wp2_with (first | ((with_reducible refine gtd (N := 12) rfl ?_); (try (refine gtg (by rfl) ?_; dsimp only)); refine bxe ?hg (N := 12) ?hd (cs := #[.string (⟨#[]⟩ : ByteArray), .string (⟨#[]⟩ : ByteArray)]) (t := 53) ?hr ?_; (case hd => rfl); (case hg => rfl); (case hr => exact Z11); intro gb568 hg w38 hbox hb; have BK568 := AS (hbox); have GW568 := AS ((Z183 : w.heap.size ≤ gb568)); have GE568 := AS ((Z183 : w.heap.size ≤ gb568)); replace HO_9 := AS (Kd.S_below Z64 hb); replace HB := AS (bst Z0 hb); clear hb hbox hg; have hcz39_0 := bc0 BK568.out; have hcz39_1 := bc1 BK568.out; have hfz39_0 := bfz BK568.out 0; have hfz39_1 := bfz BK568.out 1))); have n0_ : Aside0 (Kd.S k71 71 ((w38.setCell ⟨gb568, 0, none⟩ (.string (⟨#[49]⟩ : ByteArray))).setCell ⟨gb568, 1, none⟩ (.string (⟨#[49]⟩ : ByteArray))) w.heap.size (fun _ => True) u9 x9_2) := ⟨by (with_reducible repeat (first | apply Kd.S_alloc | apply Kd.S_drewN | apply Kd.S_drew)); exact Kd.S_mono (Kd.S_far (p := ⟨gb568, 1, none⟩) (Kd.S_far (p := ⟨gb568, 0, none⟩) (Kd.S_types HO_9.out BK568.out (by decide)) (fun _ hk => hk.2) (.string (⟨#[49]⟩ : ByteArray))) (fun _ hk => hk.2) (.string (⟨#[49]⟩ : ByteArray))) (fun _ hk => trivial)⟩; have n1_ : Aside0 (((w38.setCell ⟨gb568, 0, none⟩ (.string (⟨#[49]⟩ : ByteArray))).setCell ⟨gb568, 1, none⟩ (.string (⟨#[49]⟩ : ByteArray))).heap[gb568]? = some (.cells #[.string (⟨#[49]⟩ : ByteArray), .string (⟨#[49]⟩ : ByteArray)] 53 (0, 0))) := ⟨Z23⟩; have n2_ : Aside0 (Below w.heap.size w ((w38.setCell ⟨gb568, 0, none⟩ (.string (⟨#[49]⟩ : ByteArray))).setCell ⟨gb568, 1, none⟩ (.string (⟨#[49]⟩ : ByteArray)))) := ⟨Z8⟩
              (try clear HO_9)
              (try clear BK568)
              (try clear HB)
              generalize ((w38.setCell ⟨gb568, 0, none⟩ (.string (⟨#[49]⟩ : ByteArray))).setCell ⟨gb568, 1, none⟩ (.string (⟨#[49]⟩ : ByteArray))) = w40 at n0_ n1_ n2_ ⊢; have HO_9 := n0_; have BK568 := n1_; have HB := n2_; clear n0_ n1_ n2_; have n0_ := AS (Kd.S_drew HO_9.out); have n1_ := AS (bdr BK568.out); have n2_ := AS (bl1 HB.out); clear HO_9 BK568 HB; have HO_9 := n0_; have BK568 := n1_; have HB := n2_; clear n0_ n1_ n2_
              refine start_ (n := 9) (S := fun w' => w'.cell? ⟨gb568, 0, none⟩ = some (.string (⟨#[49]⟩ : ByteArray)) ∧ w'.cell? ⟨gb568, 1, none⟩ = some (.string (⟨#[49]⟩ : ByteArray))) (ds := []) #[false, false, false, false, false, false, false, false, false] Z5 rfl rfl ⟨bc0 BK568.out, bc1 BK568.out⟩ (fun hHeld => ?_); refine with_tabW target_Weigh.tab18 target_Weigh.bits18 (fun HT_ HW_ => ?_)
              generalize w40.drew = w41 at HO_9 BK568 HB hHeld ⊢; refine pure_ (i := 0) (N := some 54) (v := ?_) (a' := ?_) #[true, false, false, false, false, false, false, false, false] rfl rfl (any_of HT_.out Z5) (fun _ _ _ h => h) (Or.inl ⟨by rfl, ?_⟩) ?_ ?_; rotate_left
              ·intro w'; go_simp; with_reducible rfl
              rotate_left
              ·simp only [Act.put, List.setIfInBounds_toArray, List.set_cons_zero, List.set_cons_succ, i64_w, i32_w]; rfl
              refine pure_ (i := 2) (N := some 56) (v := ?_) (a' := ?_) #[true, false, true, false, false, false, false, false, false] rfl rfl (any_of HT_.out Z5) (fun _ _ _ h => h) (Or.inl ⟨by rfl, ?_⟩) ?_ ?_; rotate_left
              ·intro w'; go_simp; with_reducible rfl
              rotate_left
              ·simp only [Act.put, List.setIfInBounds_toArray, List.set_cons_zero, List.set_cons_succ, i64_w, i32_w]; rfl
              refine take_ (i := 4) (N := some 58) (v := ?_) (a' := ?_) #[true, false, true, false, true, false, false, false, false] rfl rfl (take_ofW HT_.out HW_.out Z5) (fun _ _ _ h => h) (Or.inl ⟨by rfl, ?_⟩) hHeld ?_ ?_; rotate_left
              ·rintro w' ⟨s0, s1⟩; go_simp; with_reducible rfl
              rotate_left
              ·simp only [Act.put, List.setIfInBounds_toArray, List.set_cons_zero, List.set_cons_succ, i64_w, i32_w]; rfl
              refine one_ (i := 1) (N := some 55) #[true, true, true, false, true, false, false, false, false] rfl rfl (one_of HT_.out Z5) (by decide) (fun K hK => ?_)
              refine Kd.R_lit_step (Kd.int .i64) _ 3 ?hg (N := 55) ?hd (xs := ([] : List Int)) (inner := []) (ok := fun _ => True) (okp := fun _ => True) ?hr ?hp (fun _ hk => hk) trivial (Below.refl _ _) (Nat.le_refl _) (by simp) ?_; (case hd => rfl); (case hg => rfl); (case hr => exact Z11); (case hp => exact (Reps.none _ _))
              intro v581 w42 ho43 hb hg_ hnew_; clear hg_ hnew_
              (first | rw [← Ny580.out] at ho43 | (simp only [Int.reduceToNat] at ho43; rw [← Ny580.out] at ho43))
              have n0_ := AS (Kd.S_elder' Z64 (Kd.R_base ho43) hb); have n1_ := AS (Kd.R_lower ho43 (bsz Z8)); have n2_ := AS (bbl (g := gb568) (o := .cells #[.string (⟨#[49]⟩ : ByteArray), .string (⟨#[49]⟩ : ByteArray)] 53 (0, 0)) Z96 hb); have n3_ := AS (bst Z8 hb); clear HO_9 BK568 HB; have HO_9 := n0_; have HO582 := n1_; have BK568 := n2_; have HB := n3_; clear n0_ n1_ n2_ n3_; clear hb ho43; refine hK.out _ _ ⟨bc0 BK568.out, bc1 BK568.out⟩ (fun hHeld => ?_); clear hK K; refine norm_ (a' := ?_) ?_ ?_; rotate_left
              ·show Act.put _ (some 55) _ = _
               simp only [Act.put, List.setIfInBounds_toArray, List.set_cons_zero, List.set_cons_succ, i64_w, i32_w]; rfl
              refine one_ (i := 3) (N := some 57) #[true, true, true, true, true, false, false, false, false] rfl rfl (one_of HT_.out Z5) (by decide) (fun K hK => ?_); refine Kd.R_append_rows_step (Kd.int .i64) (w0 := w) w.heap.size (by rfl) (.tmp 55) (.tmp 56) 28 3 (.int .i64 0) 8 rfl Tryz.underlying28 info3 rfl (by decide) (by omega) v581 y580 (rd_L3 l1 x32_2) _ _ _ (fun _ => True) (fun _ => False) rfl rfl ?aO ?aR (fun _ _ h => h) (fun _ h => h.elim) ?aF ?aB ?aS ?aL ?_
              (case aR => exact Z126)
              (case aB => exact Z8)
              (case aF => exact Z163)
              (case aO => exact (by (with_reducible repeat (first | apply Kd.R_alloc | apply Kd.R_drewN | apply Kd.R_drew)); exact HO582.out))
              (case aS => exact Z219)
              (case aL => have := LMc36.out; omega)
              intro v584 w44 ho hb hg hat; rw [← Ny583.out] at ho; have n0_ := AS (Kd.S_after (ok := (fun _ => True)) Z64 hg hat); have n1_ := AS (bgr (g := gb568) (o := .cells #[.string (⟨#[49]⟩ : ByteArray), .string (⟨#[49]⟩ : ByteArray)] 53 (0, 0)) Z96 hg (Kd.R_ne HO582.out BK568.out (by decide))); have n2_ := AS (hb); have n3_ := AS (ho); clear HO_9 BK568; clear HB HO582; have HO_9 := n0_; have BK568 := n1_; have HB := n2_; have HO585 := n3_; clear n0_ n1_ n2_ n3_; clear ho hb hg hat; obtain ⟨Ao45, co45, eo45⟩ := Kd.R_slice HO585.out
              (first | subst eo45 | (injection eo45 with f1_ f2_ f3_; have f4_ := f1_.symm; have f5_ := f3_.symm; clear f1_ f2_ f3_; subst f4_; subst f5_))
              refine hK.out _ _ ⟨bc0 BK568.out, bc1 BK568.out⟩ (fun hHeld => ?_); clear hK K; refine norm_ (a' := ?_) ?_ ?_; rotate_left
              ·show Act.put _ (some 57) _ = _
               simp only [Act.put, List.setIfInBounds_toArray, List.set_cons_zero, List.set_cons_succ, i64_w, i32_w]; rfl
              refine pure_ (i := 5) (N := some 59) (v := ?_) (a' := ?_) #[true, true, true, true, true, true, false, false, false] rfl rfl (any_of HT_.out Z5) (fun _ _ _ h => h) (Or.inl ⟨by rfl, ?_⟩) ?_ ?_; rotate_left
              ·intro w'; go_simp; with_reducible rfl
              rotate_left
              ·simp only [Act.put, List.setIfInBounds_toArray, List.set_cons_zero, List.set_cons_succ, i64_w, i32_w]; rfl
              refine one_ (i := 6) (N := some 60) #[true, true, true, true, true, true, true, false, false] rfl rfl (one_of HT_.out Z5) (by decide) (fun K hK => ?_); refine value_ (w1 := ?_) (v := ?_) (by rfl) rfl ?_ ?_; rotate_left 2
              ·go_simp
               constructor
               ·rfl
               ·rfl
              refine hK.out _ _ ⟨(bce (bal BK568.out _) 0).trans rfl, (bce (bal BK568.out _) 1).trans rfl⟩ (fun hHeld => ?_); clear hK K; refine norm_ (a' := ?_) ?_ ?_; rotate_left
              ·show Act.put _ (some 60) _ = _
               simp only [Act.put, List.setIfInBounds_toArray, List.set_cons_zero, List.set_cons_succ, i64_w, i32_w]; rfl
              refine one_ (i := 7) (N := some 61) #[true, true, true, true, true, true, true, true, false] rfl rfl (one_of HT_.out Z5) (by decide) (fun K hK => ?_); refine Kd.S_append_step k71 (w0 := w) w.heap.size (by rfl) (.tmp 54) (.tmp 60) 61 71 (.agg #[(.slice none 0 0), (.string ⟨#[]⟩), (.string ⟨#[]⟩)]) 56 rfl Tryz.underlying61 info71 rfl (by decide) (by omega) u9 x9_2 (⟨y583, (⟨(⟨#[49]⟩ : ByteArray), (⟨#[49]⟩ : ByteArray)⟩ : S53)⟩ : S71) [.slice Ao45 y583.length co45, .string (⟨#[49]⟩ : ByteArray), .string (⟨#[49]⟩ : ByteArray)] (fun _ => True) (fun k_ => some k_ = (.slice Ao45 y583.length co45 : Value).ownBlock) rfl rfl ?aP (fun k_ hk_ => ((Kd.R_mono (ok' := fun k_ => ((fun _ => True)) k_ ∧ some k_ ≠ (u9 : Value).ownBlock) (Kd.R_apart' (HO585.out) (Kd.S_typed HO_9.out) (by decide)) (fun k_ hk => ⟨trivial, hk.2⟩))).1 k_ hk_.symm) ?aF ?aO ?aB ?aS ?aL ?_
              (case aP => exact k71_mkM _ _ _ (⟨y583, (⟨(⟨#[49]⟩ : ByteArray), (⟨#[49]⟩ : ByteArray)⟩ : S53)⟩ : S71) (Kd.R_mono (Kd.R_tight rfl (Kd.R_mono (ok' := fun k_ => ((fun _ => True)) k_ ∧ some k_ ≠ (u9 : Value).ownBlock) (Kd.R_apart' (HO585.out) (Kd.S_typed HO_9.out) (by decide)) (fun k_ hk => ⟨trivial, hk.2⟩))) (fun _ h_ => h_)))
              (case aB => exact Z8)
              (case aF => exact Z163)
              (case aO => exact Z137)
              (case aS => exact Z219)
              (case aL => have := LMc37.out; omega)
              intro v587 w46 ho hb hg hat; rw [← Ny586.out] at ho; have n0_ := AS (bgr (g := gb568) (o := .cells #[.string (⟨#[49]⟩ : ByteArray), .string (⟨#[49]⟩ : ByteArray)] 53 (0, 0)) Z96 hg (Kd.S_ne HO_9.out BK568.out (by decide))); have n1_ := AS (hb); have n2_ := AS (ho); clear BK568 HB; clear HO_9 HO585; have BK568 := n0_; have HB := n1_; have HO588 := n2_; clear n0_ n1_ n2_; clear ho hb hg hat; refine hK.out _ _ ⟨bc0 BK568.out, bc1 BK568.out⟩ (fun hHeld => ?_); clear hK K; refine norm_ (a' := ?_) ?_ ?_; rotate_left
              ·show Act.put _ (some 61) _ = _
               simp only [Act.put, List.setIfInBounds_toArray, List.set_cons_zero, List.set_cons_succ, i64_w, i32_w]; rfl
              refine pure_ (i := 8) (N := some 9) (v := ?_) (a' := ?_) #[true, true, true, true, true, true, true, true, true] rfl rfl (any_of HT_.out Z5) (fun _ _ _ h => h) (Or.inl ⟨by rfl, ?_⟩) ?_ ?_; rotate_left
              ·intro w'; go_simp; with_reducible rfl
              rotate_left
              ·simp only [Act.put, List.setIfInBounds_toArray, List.set_cons_zero, List.set_cons_succ, i64_w, i32_w]; rfl
              refine done_ (done_of HT_.out Z5) ?_; (try go_wp2)
              go_roundg k2
              case measure => have := HJ5.out; have := HK2.out; omega
              case rel => exact ⟨(y586), (wrap64 (x32_2 + 1)), Z4, H', ⟨by have := HJ5.out; have := HK2.out; omega⟩, ⟨by (with_reducible repeat (first | apply Kd.S_alloc | apply Kd.S_drewN | apply Kd.S_drew)); exact HO588.out⟩, ⟨Z8⟩⟩
             ·rw [if_neg c37] at H
              exact absurd H (by simp)
            ·rw [if_neg c36] at H
             exact absurd H (by simp)
          ·rw [if_neg c12] at H
           exact absurd H (by simp)
         ·rw [if_neg c11] at H
          exact absurd H (by simp)
        ·rw [if_neg c10] at H
         have c10b0 : decide (x32_2 < (l1.length : Int)) = false := decide_eq_false c10; clear c10
         simp only [Option.some.injEq, Prod.mk.injEq] at H
         obtain ⟨rfl, rfl⟩ := H; go_wp2; go_ret2; exact ⟨_, Z3, Z64, Z0⟩
 ·rw [if_neg c5] at H
  have c5b0 : (t566 == 0) = false := beq_eq_false_iff_ne.mpr c5; have c5b1 : (t566 != 0) = true := bne_iff_ne.mpr c5
  simp only [Option.some.injEq, Prod.mk.injEq] at H
  obtain ⟨rfl, rfl⟩ := H; go_enter Tryz.func33, Tryz.ntmps33; go_wp2_with (first | ((with_reducible refine gtc (f := 45) rfl ?_); refine gsL (some 17) rfl rfl Tryz.func45 Z5 rfl #[.slice A0 l0.length c0, .slice A1 l1.length c1] rfl Z1 ?_; (with_reducible refine (target_checkList.calls k _ _ l0 _ _ l1 t566 _ ?side1 ?side2 ?side3 ?side4 ?side5 A4.out).mono ?_); (case side1 => exact Z15); (case side2 => exact Z72); (case side3 => exact Z28); (case side4 => exact Z145); (case side5 => exact Z182); rintro e w' ⟨rfl, ⟨nd, rfl⟩⟩; refine ⟨_, rfl, ?_⟩)); go_ret2; exact ⟨_, Z3, Z60, Z0⟩

end Go.Proofs.YtkgkihichdcpmaaGreatDoor.H
