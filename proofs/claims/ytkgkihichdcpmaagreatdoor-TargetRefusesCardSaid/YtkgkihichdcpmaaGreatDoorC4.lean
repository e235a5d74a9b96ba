import Derived.Test.YtkgkihichdcpmaaGreatDoorC3
namespace Go.Proofs.YtkgkihichdcpmaaGreatDoor.H
open Go.RowKit Go.Proofs.YtkgkihichdcpmaaGreatDoorW.PrintWords Go.Proofs.YtkgkihichdcpmaaGreatDoorW.PrintLast Go.Proofs.YtkgkihichdcpmaaGreatDoorW.PrintMore
attribute [local go_sem] max2_int min2_int max_two min_two max_three min_three max_four min_four
set_option linter.unusedVariables false
set_option linter.unusedSimpArgs false
def decimal_Mul.f (k : Nat) (a0 : ByteArray) (a1 : ByteArray) : Option (ByteArray) := if (wrap64 ((a0.size : Int) + (a1.size : Int))) ≤ 18 then ((decimal_both.f k a0 a1).bind fun bt217 => ((decimal_Of.f (IntKind.u64.wrap (bt217.1 * bt217.2.1))).bind fun t220 => (some t220))) else ((decimal_cut.f a0).bind fun t221 => ((decimal_cut.f a1).bind fun t224 => ((decimal_pieces_times.f k t221 t224).bind fun t227 => ((decimal_pieces_text.f t227).bind fun t230 => (some t230)))))
set_option maxHeartbeats 8000000 in
set_option maxRecDepth 100000 in
theorem decimal_Mul.calls (k : Nat) (a0 : ByteArray) (a1 : ByteArray) (r : ByteArray) (w : World) (hG : GL w) (h : decimal_Mul.f k a0 a1 = some r) :
  Calls Tryz.prog 44 #[.string a0, .string a1] w fun e w' => e = .returned (.string r) ∧ Below w.heap.size w w' := by
 have HB := AS (Below.refl w.heap.size w)
 have H : (if (wrap64 ((a0.size : Int) + (a1.size : Int))) ≤ 18 then ((decimal_both.f k a0 a1).bind fun bt217 => ((decimal_Of.f (IntKind.u64.wrap (bt217.1 * bt217.2.1))).bind fun t220 => (some t220))) else ((decimal_cut.f a0).bind fun t221 => ((decimal_cut.f a1).bind fun t224 => ((decimal_pieces_times.f k t221 t224).bind fun t227 => ((decimal_pieces_text.f t227).bind fun t230 => (some t230)))))) = some r := h
 clear h
 by_cases c3 : (wrap64 ((a0.size : Int) + (a1.size : Int))) ≤ 18
 ·rw [if_pos c3] at H
  have c3b0 : decide ((wrap64 ((a0.size : Int) + (a1.size : Int))) ≤ 18) = true := decide_eq_true c3
  clear c3
  replace H := Option.bind_eq_some_iff.mp H
  obtain ⟨⟨t217, t218, t219⟩, A40, H⟩ := H
  replace H : ((decimal_Of.f (IntKind.u64.wrap (t217 * t218))).bind fun t220 => (some t220)) = some r := H
  have A4 := AS A40
  clear A40
  replace H := Option.bind_eq_some_iff.mp H
  obtain ⟨t220, A50, H⟩ := H
  replace H : (some t220) = some r := H
  have A5 := AS A50
  clear A50
  obtain rfl := Option.some.inj H
  go_enter Tryz.func44, Tryz.ntmps44
  go_wp2_with (first | ((with_reducible refine gate_callee (f := 80) rfl ?_); refine goesL_ (some 17) rfl rfl Tryz.func80 Z6 rfl #[.string a0, .string a1] rfl Z1 ?_; (with_reducible refine (decimal_both.calls k a0 a1 t217 t218 t219 _ ?side1 A4.out).mono ?_); (case side1 => exact Z183); rintro e w6 ⟨rfl, hb⟩; refine ⟨_, rfl, ?_⟩; have n0_ := AS (below_step Z0 hb); clear HB; have HB := n0_; clear n0_; (try clear hb); (try clear hb2); (try clear hk); (try clear hi)) | ((with_reducible refine gate_callee (f := 79) rfl ?_); refine goesL_ (some 24) rfl rfl Tryz.func79 Z6 rfl #[.int .u64 (IntKind.u64.wrap (t217 * t218))] rfl Z1 ?_; (with_reducible refine (decimal_Of.calls (IntKind.u64.wrap (t217 * t218)) t220 _ ?side1 A5.out).mono ?_); (case side1 => exact Z183); rintro e w7 ⟨rfl, hb⟩; refine ⟨_, rfl, ?_⟩; have n0_ := AS (below_step Z0 hb); clear HB; have HB := n0_; clear n0_; (try clear hb); (try clear hb2); (try clear hk); (try clear hi)))
  go_ret
  exact ⟨Z2, Z0⟩
 ·rw [if_neg c3] at H
  have c3b0 : decide ((wrap64 ((a0.size : Int) + (a1.size : Int))) ≤ 18) = false := decide_eq_false c3
  clear c3
  replace H := Option.bind_eq_some_iff.mp H
  obtain ⟨t221, A80, H⟩ := H
  replace H : ((decimal_cut.f a1).bind fun t224 => ((decimal_pieces_times.f k t221 t224).bind fun t227 => ((decimal_pieces_text.f t227).bind fun t230 => (some t230)))) = some r := H
  have A8 := AS A80
  clear A80
  replace H := Option.bind_eq_some_iff.mp H
  obtain ⟨t224, A90, H⟩ := H
  replace H : ((decimal_pieces_times.f k t221 t224).bind fun t227 => ((decimal_pieces_text.f t227).bind fun t230 => (some t230))) = some r := H
  have A9 := AS A90
  clear A90
  replace H := Option.bind_eq_some_iff.mp H
  obtain ⟨t227, A100, H⟩ := H
  replace H : ((decimal_pieces_text.f t227).bind fun t230 => (some t230)) = some r := H
  have A10 := AS A100
  clear A100
  replace H := Option.bind_eq_some_iff.mp H
  obtain ⟨t230, A110, H⟩ := H
  replace H : (some t230) = some r := H
  have A11 := AS A110
  clear A110
  obtain rfl := Option.some.inj H
  go_enter Tryz.func44, Tryz.ntmps44
  go_wp2_with (first | ((with_reducible refine gate_callee (f := 81) rfl ?_); refine goesL_ (some 26) rfl rfl Tryz.func81 Z6 rfl #[.string a0] rfl Z1 ?_; (with_reducible refine (decimal_cut.calls a0 t221 _ ?side1 A8.out).mono ?_); (case side1 => exact Z183); rintro e w12 ⟨v222, rfl, ho0, hb⟩; refine ⟨_, rfl, ?_⟩; have n0_ := AS (Kd.V_lower (Kd.V_mono (ok' := fun k_ => True) ho0 (fun k_ hk_ => trivial)) (below_size Z0)); have n1_ := AS (below_step Z0 hb); clear HB; have HO223 := n0_; have HB := n1_; clear n0_ n1_; (try clear hb); (try clear hb2); (try clear hk); (try clear hi); (try clear ho0)) | ((with_reducible refine gate_callee (f := 81) rfl ?_); refine goesL_ (some 28) rfl rfl Tryz.func81 Z6 rfl #[.string a1] rfl Z1 ?_; (with_reducible refine (decimal_cut.calls a1 t224 _ ?side1 A9.out).mono ?_); (case side1 => exact Z183); rintro e w13 ⟨v225, rfl, ho0, hb⟩; refine ⟨_, rfl, ?_⟩; have n0_ := AS (Kd.V_below Z138 hb); have n1_ := AS (Kd.V_lower (Kd.V_mono (ok' := fun k_ => True) ho0 (fun k_ hk_ => trivial)) (below_size Z0)); have n2_ := AS (below_step Z0 hb); clear HO223; clear HB; have HO223 := n0_; have HO226 := n1_; have HB := n2_; clear n0_ n1_ n2_; (try clear hb); (try clear hb2); (try clear hk); (try clear hi); (try clear ho0); obtain ⟨Ao14, co14, eo14⟩ := Kd.V_slice HO223.out; subst eo14; obtain ⟨Ao15, co15, eo15⟩ := Kd.V_slice HO226.out; subst eo15) | ((with_reducible refine gate_callee (f := 82) rfl ?_); refine goesL_ (some 29) rfl rfl Tryz.func82 Z6 rfl #[.slice Ao14 t221.length co14, .slice Ao15 t224.length co15] rfl Z1 ?_; (with_reducible refine (decimal_pieces_times.calls k _ _ t221 _ _ t224 t227 _ ?side1 ?side2 ?side3 ?side4 ?side5 A10.out).mono ?_); (case side1 => repeat (first | exact (Kd.V_reads' HO223.out).2.2 | (with_reducible refine Kd.C_alloc ?_ _) | (with_reducible refine Kd.C_drewN ?_ _) | (with_reducible refine Kd.C_drew ?_))); (case side2 => exact (Kd.V_reads' HO223.out).2.1); (case side3 => repeat (first | exact (Kd.V_reads' HO226.out).2.2 | (with_reducible refine Kd.C_alloc ?_ _) | (with_reducible refine Kd.C_drewN ?_ _) | (with_reducible refine Kd.C_drew ?_))); (case side4 => exact (Kd.V_reads' HO226.out).2.1); (case side5 => exact Z183); rintro e w16 ⟨v228, rfl, ho0, hb⟩; refine ⟨_, rfl, ?_⟩; have n0_ := AS (Kd.V_below Z138 hb); have n1_ := AS (Kd.V_below Z153 hb); have n2_ := AS (Kd.V_lower (Kd.V_mono (ok' := fun k_ => True) ho0 (fun k_ hk_ => trivial)) (below_size Z0)); have n3_ := AS (below_step Z0 hb); clear HO223; clear HO226; clear HB; have HO223 := n0_; have HO226 := n1_; have HO229 := n2_; have HB := n3_; clear n0_ n1_ n2_ n3_; (try clear hb); (try clear hb2); (try clear hk); (try clear hi); (try clear ho0); obtain ⟨Ao17, co17, eo17⟩ := Kd.V_slice HO229.out; subst eo17) | ((with_reducible refine gate_callee (f := 83) rfl ?_); refine goesL_ (some 30) rfl rfl Tryz.func83 Z6 rfl #[.slice Ao17 t227.length co17] rfl Z1 ?_; (with_reducible refine (decimal_pieces_text.calls _ _ t227 t230 _ ?side1 ?side2 ?side3 A11.out).mono ?_); (case side1 => repeat (first | exact (Kd.V_reads' HO229.out).2.2 | (with_reducible refine Kd.C_alloc ?_ _) | (with_reducible refine Kd.C_drewN ?_ _) | (with_reducible refine Kd.C_drew ?_))); (case side2 => exact (Kd.V_reads' HO229.out).2.1); (case side3 => exact Z183); rintro e w18 ⟨rfl, hb⟩; refine ⟨_, rfl, ?_⟩; have n0_ := AS (Kd.V_below Z138 hb); have n1_ := AS (Kd.V_below Z153 hb); have n2_ := AS (Kd.V_below (by (with_reducible repeat (first | apply Kd.V_alloc | apply Kd.V_drewN | apply Kd.V_drew)); exact HO229.out) hb); have n3_ := AS (below_step Z0 hb); clear HO223; clear HO226; clear HO229; clear HB; have HO223 := n0_; have HO226 := n1_; have HO229 := n2_; have HB := n3_; clear n0_ n1_ n2_ n3_; (try clear hb); (try clear hb2); (try clear hk); (try clear hi)))
  go_ret
  exact ⟨Z2, Z0⟩
def decimal_DivMod.f (k : Nat) (a0 : ByteArray) (a1 : ByteArray) : Option (ByteArray × ByteArray × Int) := if a1.toList = ([48] : List UInt8) then (some ((⟨#[]⟩ : ByteArray), (⟨#[]⟩ : ByteArray), 17)) else ((decimal_both.f k a0 a1).bind fun bt231 => (if bt231.2.2 = true then (if bt231.2.1 = 0 then (none) else ((decimal_Of.f (IntKind.u64.wrap (Int.tdiv bt231.1 bt231.2.1))).bind fun t234 => ((decimal_Of.f (Int.tmod bt231.1 bt231.2.1)).bind fun t235 => (some (t234, t235, 0))))) else (none)))
def decimal_DivMod.T5 : Bool × List (List Nat × List Nat) := (true, [([], []), ([], []), ([0, 1], [0, 1]), ([2], [2]), ([], []), ([], []), ([4, 5], [4, 5]), ([6, 3], [6]), ([3, 7, 0, 1, 2, 3], [3]), ([7, 8, 0, 1, 2, 3, 4, 5, 6, 7, 8], [7]), ([9, 0, 1, 2, 3, 4, 5, 6, 7, 8, 9], [])])
def decimal_DivMod.B5 : List Nat := [0, 0, 3, 7, 0, 0, 48, 127, 255, 511, 1023]
theorem decimal_DivMod.tab5 : rtab .any (opsOf Tryz.f141 5) = decimal_DivMod.T5 := by kernel_rfl
theorem decimal_DivMod.bits5 : waitsOk decimal_DivMod.T5.2 decimal_DivMod.B5 = true := by kernel_rfl
set_option maxHeartbeats 8000000 in
set_option maxRecDepth 100000 in
theorem decimal_DivMod.calls (k : Nat) (a0 : ByteArray) (a1 : ByteArray) (r1 : ByteArray) (r2 : ByteArray) (r3 : Int) (w : World) (hG : GL w) (h : decimal_DivMod.f k a0 a1 = some (r1, r2, r3)) :
  Calls Tryz.prog 141 #[.string a0, .string a1] w fun e w' => e = .returned (.tuple #[.string r1, .string r2, .int .i64 r3]) ∧ Below w.heap.size w w' := by
 have HB := AS (Below.refl w.heap.size w)
 have H : (if a1.toList = ([48] : List UInt8) then (some ((⟨#[]⟩ : ByteArray), (⟨#[]⟩ : ByteArray), 17)) else ((decimal_both.f k a0 a1).bind fun bt231 => (if bt231.2.2 = true then (if bt231.2.1 = 0 then (none) else ((decimal_Of.f (IntKind.u64.wrap (Int.tdiv bt231.1 bt231.2.1))).bind fun t234 => ((decimal_Of.f (Int.tmod bt231.1 bt231.2.1)).bind fun t235 => (some (t234, t235, 0))))) else (none)))) = some (r1, r2, r3) := h
 clear h
 by_cases c3 : a1.toList = ([48] : List UInt8)
 ·rw [if_pos c3] at H
  have c3b0 : (a1.toList == ([48] : List UInt8)) = true := beq_iff_eq.mpr c3
  have c3b1 : (a1.toList != ([48] : List UInt8)) = false := bne_eq_false_iff_eq.mpr c3
  clear c3
  simp only [Option.some.injEq, Prod.mk.injEq] at H
  obtain ⟨rfl, rfl, rfl⟩ := H
  go_enter Tryz.func141, Tryz.ntmps141
  go_wp2
  go_ret3
  exact ⟨Z2, Z0⟩
 ·rw [if_neg c3] at H
  have c3b0 : (a1.toList == ([48] : List UInt8)) = false := beq_eq_false_iff_ne.mpr c3
  have c3b1 : (a1.toList != ([48] : List UInt8)) = true := bne_iff_ne.mpr c3
  replace H := Option.bind_eq_some_iff.mp H
  obtain ⟨⟨t231, t232, t233⟩, A40, H⟩ := H
  replace H : (if t233 = true then (if t232 = 0 then (none) else ((decimal_Of.f (IntKind.u64.wrap (Int.tdiv t231 t232))).bind fun t234 => ((decimal_Of.f (Int.tmod t231 t232)).bind fun t235 => (some (t234, t235, 0))))) else (none)) = some (r1, r2, r3) := H
  have A4 := AS A40
  clear A40
  by_cases c5 : t233 = true
  ·subst c5
   have H1 : (if t232 = 0 then (none) else ((decimal_Of.f (IntKind.u64.wrap (Int.tdiv t231 t232))).bind fun t234 => ((decimal_Of.f (Int.tmod t231 t232)).bind fun t235 => (some (t234, t235, 0))))) = some (r1, r2, r3) := by rw [if_pos rfl] at H; exact H
   clear H
   have H := H1
   clear H1
   by_cases c6 : t232 = 0
   ·rw [if_pos c6] at H
    exact absurd H (by simp)
   ·rw [if_neg c6] at H
    have c6b0 : (t232 == 0) = false := beq_eq_false_iff_ne.mpr c6
    have c6b1 : (t232 != 0) = true := bne_iff_ne.mpr c6
    replace H := Option.bind_eq_some_iff.mp H
    obtain ⟨t234, A70, H⟩ := H
    replace H : ((decimal_Of.f (Int.tmod t231 t232)).bind fun t235 => (some (t234, t235, 0))) = some (r1, r2, r3) := H
    have A7 := AS A70
    clear A70
    replace H := Option.bind_eq_some_iff.mp H
    obtain ⟨t235, A80, H⟩ := H
    replace H : (some (t234, t235, 0)) = some (r1, r2, r3) := H
    have A8 := AS A80
    clear A80
    simp only [Option.some.injEq, Prod.mk.injEq] at H
    obtain ⟨rfl, rfl, rfl⟩ := H
    go_enter Tryz.func141, Tryz.ntmps141
    try go_wp2_with (first | ((with_reducible refine gate_callee (f := 80) rfl ?_); refine goesL_ (some 21) rfl rfl Tryz.func80 Z6 rfl #[.string a0, .string a1] rfl Z1 ?_; (with_reducible refine (decimal_both.calls k a0 a1 t231 t232 true _ ?side1 A4.out).mono ?_); (case side1 => exact Z183); rintro e w9 ⟨rfl, hb⟩; refine ⟨_, rfl, ?_⟩; have n0_ := AS (below_step Z0 hb); clear HB; have HB := n0_; clear n0_; (try clear hb); (try clear hb2); (try clear hk); (try clear hi)))
    have n0_ := AS (below_drew1 HB.out)
    clear HB
    have HB := n0_
    clear n0_
    refine start_ (n := 11) (S := fun w' => True) (ds := []) #[false, false, false, false, false, false, false, false, false, false, false] Z6 rfl rfl trivial (fun hHeld => ?_); refine with_tabW decimal_DivMod.tab5 decimal_DivMod.bits5 (fun HT_ HW_ => ?_)
    generalize w9.drew = w10 at HB hHeld ⊢
    refine pure_ (i := 0) (N := some 26) (v := ?_) (a' := ?_) #[true, false, false, false, false, false, false, false, false, false, false] rfl rfl (any_of HT_.out Z6) (fun _ _ _ h => h) (Or.inl ⟨by rfl, ?_⟩) ?_ ?_
    rotate_left
    ·intro w'
     go_simp
     with_reducible rfl
    rotate_left
    ·simp only [Act.put, List.setIfInBounds_toArray, List.set_cons_zero, List.set_cons_succ, i64_w, i32_w]
     rfl
    refine pure_ (i := 1) (N := some 27) (v := ?_) (a' := ?_) #[true, true, false, false, false, false, false, false, false, false, false] rfl rfl (any_of HT_.out Z6) (fun _ _ _ h => h) (Or.inl ⟨by rfl, ?_⟩) ?_ ?_
    rotate_left
    ·intro w'
     go_simp
     with_reducible rfl
    rotate_left
    ·simp only [Act.put, List.setIfInBounds_toArray, List.set_cons_zero, List.set_cons_succ, i64_w, i32_w]
     rfl
    refine pure_ (i := 2) (N := some 28) (v := ?_) (a' := ?_) #[true, true, true, false, false, false, false, false, false, false, false] rfl rfl (any_of HT_.out Z6) (fun _ _ _ h => h) (Or.inl ⟨by rfl, ?_⟩) ?_ ?_
    rotate_left
    ·intro w'
     go_simp
     with_reducible rfl
    rotate_left
    ·simp only [Act.put, List.setIfInBounds_toArray, List.set_cons_zero, List.set_cons_succ, i64_w, i32_w]
     rfl
    refine pure_ (i := 4) (N := some 30) (v := ?_) (a' := ?_) #[true, true, true, false, true, false, false, false, false, false, false] rfl rfl (any_of HT_.out Z6) (fun _ _ _ h => h) (Or.inl ⟨by rfl, ?_⟩) ?_ ?_
    rotate_left
    ·intro w'
     go_simp
     with_reducible rfl
    rotate_left
    ·simp only [Act.put, List.setIfInBounds_toArray, List.set_cons_zero, List.set_cons_succ, i64_w, i32_w]
     rfl
    refine pure_ (i := 5) (N := some 31) (v := ?_) (a' := ?_) #[true, true, true, false, true, true, false, false, false, false, false] rfl rfl (any_of HT_.out Z6) (fun _ _ _ h => h) (Or.inl ⟨by rfl, ?_⟩) ?_ ?_
    rotate_left
    ·intro w'
     go_simp
     with_reducible rfl
    rotate_left
    ·simp only [Act.put, List.setIfInBounds_toArray, List.set_cons_zero, List.set_cons_succ, i64_w, i32_w]
     rfl
    refine pure_ (i := 6) (N := some 32) (v := ?_) (a' := ?_) #[true, true, true, false, true, true, true, false, false, false, false] rfl rfl (any_of HT_.out Z6) (fun _ _ _ h => h) (Or.inl ⟨by rfl, ?_⟩) ?_ ?_
    rotate_left
    ·intro w'
     go_simp
     with_reducible rfl
    rotate_left
    ·simp only [Act.put, List.setIfInBounds_toArray, List.set_cons_zero, List.set_cons_succ, i64_w, i32_w]
     rfl
    refine one_ (i := 3) (N := some 29) #[true, true, true, true, true, true, true, false, false, false, false] rfl rfl (one_of HT_.out Z6) (by decide) (fun K hK => ?_)
    refine goes_ Tryz.func79 Z6 rfl #[.int .u64 (IntKind.u64.wrap (Int.tdiv t231 t232))] (by rfl) rfl rfl Z1 ?_
    with_reducible refine (decimal_Of.calls (IntKind.u64.wrap (Int.tdiv t231 t232)) t234 _ ?side1 A7.out).mono ?_
    (case side1 => exact Z183)
    rintro e w11 ⟨rfl, hb⟩
    refine ⟨_, rfl, ?_⟩
    have n0_ := AS (below_step Z0 hb)
    clear HB
    have HB := n0_
    clear n0_
    (try clear hb)
    (try clear hb2)
    (try clear hk)
    (try clear hi)
    refine hK.out _ _ trivial (fun hHeld => ?_)
    clear hK K
    refine norm_ (a' := ?_) ?_ ?_
    rotate_left
    ·show Act.put _ (some 29) _ = _
     simp only [Act.put, List.setIfInBounds_toArray, List.set_cons_zero, List.set_cons_succ, i64_w, i32_w]
     rfl
    refine one_ (i := 7) (N := some 33) #[true, true, true, true, true, true, true, true, false, false, false] rfl rfl (one_of HT_.out Z6) (by decide) (fun K hK => ?_)
    refine goes_ Tryz.func79 Z6 rfl #[.int .u64 (Int.tmod t231 t232)] (by rfl) rfl rfl Z1 ?_
    with_reducible refine (decimal_Of.calls (Int.tmod t231 t232) t235 _ ?side1 A8.out).mono ?_
    (case side1 => exact Z183)
    rintro e w12 ⟨rfl, hb⟩
    refine ⟨_, rfl, ?_⟩
    have n0_ := AS (below_step Z0 hb)
    clear HB
    have HB := n0_
    clear n0_
    (try clear hb)
    (try clear hb2)
    (try clear hk)
    (try clear hi)
    refine hK.out _ _ trivial (fun hHeld => ?_)
    clear hK K
    refine norm_ (a' := ?_) ?_ ?_
    rotate_left
    ·show Act.put _ (some 33) _ = _
     simp only [Act.put, List.setIfInBounds_toArray, List.set_cons_zero, List.set_cons_succ, i64_w, i32_w]
     rfl
    refine pure_ (i := 8) (N := some 4) (v := ?_) (a' := ?_) #[true, true, true, true, true, true, true, true, true, false, false] rfl rfl (any_of HT_.out Z6) (fun _ _ _ h => h) (Or.inl ⟨by rfl, ?_⟩) ?_ ?_
    rotate_left
    ·intro w'
     go_simp
     with_reducible rfl
    rotate_left
    ·simp only [Act.put, List.setIfInBounds_toArray, List.set_cons_zero, List.set_cons_succ, i64_w, i32_w]
     rfl
    refine pure_ (i := 9) (N := some 5) (v := ?_) (a' := ?_) #[true, true, true, true, true, true, true, true, true, true, false] rfl rfl (any_of HT_.out Z6) (fun _ _ _ h => h) (Or.inl ⟨by rfl, ?_⟩) ?_ ?_
    rotate_left
    ·intro w'
     go_simp
     with_reducible rfl
    rotate_left
    ·simp only [Act.put, List.setIfInBounds_toArray, List.set_cons_zero, List.set_cons_succ, i64_w, i32_w]
     rfl
    refine pure_ (i := 10) (N := some 6) (v := ?_) (a' := ?_) #[true, true, true, true, true, true, true, true, true, true, true] rfl rfl (any_of HT_.out Z6) (fun _ _ _ h => h) (Or.inl ⟨by rfl, ?_⟩) ?_ ?_
    rotate_left
    ·intro w'
     go_simp
     with_reducible rfl
    rotate_left
    ·simp only [Act.put, List.setIfInBounds_toArray, List.set_cons_zero, List.set_cons_succ, i64_w, i32_w]
     rfl
    refine done_ (done_of HT_.out Z6) ?_
    try go_wp2
    go_ret3
    exact ⟨Z2, Z0⟩
  ·replace c5 := Bool.eq_false_iff.mpr c5
   subst c5
   have H1 : (none) = some (r1, r2, r3) := by rw [if_neg (show ¬ (false = true) by decide)] at H; exact H
   clear H
   have H := H1
   clear H1
   exact absurd H (by simp)
def decimal_Gcd.l0 : Nat → ByteArray → ByteArray → Option (ByteArray)
 | 0, _, _ => none
 | k + 1, x0, x1 => if x1.toList = ([48] : List UInt8) then (some x0) else ((decimal_DivMod.f k x0 x1).bind fun bt236 => (if bt236.2.2 = 0 then (decimal_Gcd.l0 k x1 bt236.2.1) else (some (⟨#[]⟩ : ByteArray))))
def decimal_Gcd.f (k : Nat) (a0 : ByteArray) (a1 : ByteArray) : Option (ByteArray) := decimal_Gcd.l0 k a0 a1
set_option maxHeartbeats 8000000 in
set_option maxRecDepth 100000 in
theorem decimal_Gcd.calls (k : Nat) (a0 : ByteArray) (a1 : ByteArray) (r : ByteArray) (w : World) (hG : GL w) (h : decimal_Gcd.f k a0 a1 = some r) :
  Calls Tryz.prog 125 #[.string a0, .string a1] w fun e w' => e = .returned (.string r) ∧ Below w.heap.size w w' := by
 have HB := AS (Below.refl w.heap.size w)
 have H : (decimal_Gcd.l0 k a0 a1) = some r := h
 clear h
 have H' := AS H
 clear H
 go_enter Tryz.func125, Tryz.ntmps125
 go_wp2
 go_loopg [0, 1] k (fun kq v0 v1 w' => ∃ (x0_1 : ByteArray) (x1_1 : ByteArray), v0 = .string x0_1 ∧ v1 = .string x1_1 ∧ Aside0 (decimal_Gcd.l0 kq x0_1 x1_1 = some r) ∧ Aside0 (kq ≤ k) ∧ Aside0 (Below w.heap.size w w'))
 case atStart => exact ⟨(a0), (a1), Z5, Z5, H', ⟨Nat.le_refl _⟩, ⟨Z0⟩⟩
 case round =>
  clear H'
  try clear c1
  try clear p2
  obtain ⟨x0_1, x1_1, rfl, rfl, HA, HK1, HB⟩ := hrel
  cases gk with
  | zero => exact absurd HA.out (by simp [decimal_Gcd.l0])
  | succ k1 =>
   have H := HA.out
   clear HA
   simp only [decimal_Gcd.l0] at H
   by_cases c3 : x1_1.toList = ([48] : List UInt8)
   ·rw [if_pos c3] at H
    have c3b0 : (x1_1.toList == ([48] : List UInt8)) = true := beq_iff_eq.mpr c3
    have c3b1 : (x1_1.toList != ([48] : List UInt8)) = false := bne_eq_false_iff_eq.mpr c3
    clear c3
    obtain rfl := Option.some.inj H
    go_wp2
    go_ret
    exact ⟨Z2, Z0⟩
   ·rw [if_neg c3] at H
    have c3b0 : (x1_1.toList == ([48] : List UInt8)) = false := beq_eq_false_iff_ne.mpr c3
    have c3b1 : (x1_1.toList != ([48] : List UInt8)) = true := bne_iff_ne.mpr c3
    replace H := Option.bind_eq_some_iff.mp H
    obtain ⟨⟨t236, t237, t238⟩, A40, H⟩ := H
    replace H : (if t238 = 0 then (decimal_Gcd.l0 k1 x1_1 t237) else (some (⟨#[]⟩ : ByteArray))) = some r := H
    have A4 := AS A40
    clear A40
    by_cases c5 : t238 = 0
    ·rw [if_pos c5] at H
     have c5b0 : (t238 == 0) = true := beq_iff_eq.mpr c5
     have c5b1 : (t238 != 0) = false := bne_eq_false_iff_eq.mpr c5
     clear c5
     have H' := AS H
     clear H
     go_wp2_with (first | ((with_reducible refine gate_callee (f := 141) rfl ?_); refine goesL_ (some 13) rfl rfl Tryz.func141 Z6 rfl #[.string x0_1, .string x1_1] rfl Z1 ?_; (with_reducible refine (decimal_DivMod.calls k1 x0_1 x1_1 t236 t237 t238 _ ?side1 A4.out).mono ?_); (case side1 => exact Z183); rintro e w6 ⟨rfl, hb⟩; refine ⟨_, rfl, ?_⟩; have n0_ := AS (below_step Z0 hb); clear HB; have HB := n0_; clear n0_; (try clear hb); (try clear hb2); (try clear hk); (try clear hi)))
     go_roundg k1
     case measure => have := HK1.out; omega
     case rel => exact ⟨(x1_1), (t237), Z5, Z5, H', ⟨Z101⟩, ⟨Z0⟩⟩
    ·rw [if_neg c5] at H
     have c5b0 : (t238 == 0) = false := beq_eq_false_iff_ne.mpr c5
     have c5b1 : (t238 != 0) = true := bne_iff_ne.mpr c5
     obtain rfl := Option.some.inj H
     go_wp2_with (first | ((with_reducible refine gate_callee (f := 141) rfl ?_); refine goesL_ (some 13) rfl rfl Tryz.func141 Z6 rfl #[.string x0_1, .string x1_1] rfl Z1 ?_; (with_reducible refine (decimal_DivMod.calls k1 x0_1 x1_1 t236 t237 t238 _ ?side1 A4.out).mono ?_); (case side1 => exact Z183); rintro e w7 ⟨rfl, hb⟩; refine ⟨_, rfl, ?_⟩; have n0_ := AS (below_step Z0 hb); clear HB; have HB := n0_; clear n0_; (try clear hb); (try clear hb2); (try clear hk); (try clear hi)))
     go_ret
     exact ⟨Z2, Z0⟩
def decimal_Lcm.j0 : Nat → ByteArray → ByteArray → Bool → Option (ByteArray)
 | 0, _, _, _ => none
 | k + 1, x0, x1, x13 => if x13 = true then (some (⟨#[48]⟩ : ByteArray)) else ((decimal_Gcd.f k x0 x1).bind fun t239 => ((decimal_DivMod.f k x0 t239).bind fun bt240 => (if bt240.2.2 = 0 then ((decimal_Mul.f k bt240.1 x1).bind fun t243 => (some t243)) else (some (⟨#[]⟩ : ByteArray)))))
def decimal_Lcm.f (k : Nat) (a0 : ByteArray) (a1 : ByteArray) : Option (ByteArray) := if a0.toList = ([48] : List UInt8) then (decimal_Lcm.j0 k a0 a1 true) else (decimal_Lcm.j0 k a0 a1 (a1.toList == ([48] : List UInt8)))
set_option maxHeartbeats 8000000 in
set_option maxRecDepth 100000 in
theorem decimal_Lcm.calls (k : Nat) (a0 : ByteArray) (a1 : ByteArray) (r : ByteArray) (w : World) (hG : GL w) (h : decimal_Lcm.f k a0 a1 = some r) :
  Calls Tryz.prog 209 #[.string a0, .string a1] w fun e w' => e = .returned (.string r) ∧ Below w.heap.size w w' := by
 have HB := AS (Below.refl w.heap.size w)
 have H : (if a0.toList = ([48] : List UInt8) then (decimal_Lcm.j0 k a0 a1 true) else (decimal_Lcm.j0 k a0 a1 (a1.toList == ([48] : List UInt8)))) = some r := h
 clear h
 have HC3 := AS H
 clear H
 go_enter Tryz.func209, Tryz.ntmps209
 go_upto_region 1 with (fail)
 go_cut [13] (fun v13 wc => ∃ (kq : Nat) (x13_2 : Bool), v13 = .bool x13_2 ∧ Aside0 (decimal_Lcm.j0 kq a0 a1 x13_2 = some r) ∧ Aside0 (kq ≤ k) ∧ Aside0 (Below w.heap.size w wc))
 case first =>
  have H := HC3.out
  clear HC3
  by_cases c4 : a0.toList = ([48] : List UInt8)
  ·rw [if_pos c4] at H
   have c4b0 : (a0.toList == ([48] : List UInt8)) = true := beq_iff_eq.mpr c4
   have c4b1 : (a0.toList != ([48] : List UInt8)) = false := bne_eq_false_iff_eq.mpr c4
   clear c4
   (first | rw [c4b0] | (simp only [i64_w, i32_w]; rw [c4b0]) | skip)
   have H' := AS H
   clear H
   go_wp2
   go_meet
   case rel => exact ⟨_, (true), Z5, H', ⟨Z76⟩, ⟨Z0⟩⟩
  ·rw [if_neg c4] at H
   have c4b0 : (a0.toList == ([48] : List UInt8)) = false := beq_eq_false_iff_ne.mpr c4
   have c4b1 : (a0.toList != ([48] : List UInt8)) = true := bne_iff_ne.mpr c4
   (first | rw [c4b0] | (simp only [i64_w, i32_w]; rw [c4b0]) | skip)
   have H' := AS H
   clear H
   go_wp2
   go_meet
   case rel => exact ⟨_, ((a1.toList == ([48] : List UInt8))), Z5, H', ⟨Z76⟩, ⟨Z0⟩⟩
 case rest =>
  clear HC3
  try clear c2
  try clear p2
  try clear c4
  try clear c4b0
  try clear c4b1
  obtain ⟨kq, x13_2, rfl, HA, HJ2, HB⟩ := hcut
  cases kq with
  | zero => exact absurd HA.out (by simp [decimal_Lcm.j0])
  | succ kj2 =>
   have H := HA.out
   clear HA
   simp only [decimal_Lcm.j0] at H
   by_cases c5 : x13_2 = true
   ·subst c5
    have H1 : (some (⟨#[48]⟩ : ByteArray)) = some r := by rw [if_pos rfl] at H; exact H
    clear H
    have H := H1
    clear H1
    obtain rfl := Option.some.inj H
    go_wp2
    go_ret
    exact ⟨Z2, Z0⟩
   ·replace c5 := Bool.eq_false_iff.mpr c5
    subst c5
    have H1 : ((decimal_Gcd.f kj2 a0 a1).bind fun t239 => ((decimal_DivMod.f kj2 a0 t239).bind fun bt240 => (if bt240.2.2 = 0 then ((decimal_Mul.f kj2 bt240.1 a1).bind fun t243 => (some t243)) else (some (⟨#[]⟩ : ByteArray))))) = some r := by rw [if_neg (show ¬ (false = true) by decide)] at H; exact H
    clear H
    have H := H1
    clear H1
    replace H := Option.bind_eq_some_iff.mp H
    obtain ⟨t239, A60, H⟩ := H
    replace H : ((decimal_DivMod.f kj2 a0 t239).bind fun bt240 => (if bt240.2.2 = 0 then ((decimal_Mul.f kj2 bt240.1 a1).bind fun t243 => (some t243)) else (some (⟨#[]⟩ : ByteArray)))) = some r := H
    have A6 := AS A60
    clear A60
    replace H := Option.bind_eq_some_iff.mp H
    obtain ⟨⟨t240, t241, t242⟩, A70, H⟩ := H
    replace H : (if t242 = 0 then ((decimal_Mul.f kj2 t240 a1).bind fun t243 => (some t243)) else (some (⟨#[]⟩ : ByteArray))) = some r := H
    have A7 := AS A70
    clear A70
    by_cases c8 : t242 = 0
    ·rw [if_pos c8] at H
     have c8b0 : (t242 == 0) = true := beq_iff_eq.mpr c8
     have c8b1 : (t242 != 0) = false := bne_eq_false_iff_eq.mpr c8
     clear c8
     replace H := Option.bind_eq_some_iff.mp H
     obtain ⟨t243, A90, H⟩ := H
     replace H : (some t243) = some r := H
     have A9 := AS A90
     clear A90
     obtain rfl := Option.some.inj H
     go_wp2_with (first | ((with_reducible refine gate_callee (f := 125) rfl ?_); refine goesL_ (some 18) rfl rfl Tryz.func125 Z6 rfl #[.string a0, .string a1] rfl Z1 ?_; (with_reducible refine (decimal_Gcd.calls kj2 a0 a1 t239 _ ?side1 A6.out).mono ?_); (case side1 => exact Z183); rintro e w10 ⟨rfl, hb⟩; refine ⟨_, rfl, ?_⟩; have n0_ := AS (below_step Z0 hb); clear HB; have HB := n0_; clear n0_; (try clear hb); (try clear hb2); (try clear hk); (try clear hi)) | ((with_reducible refine gate_callee (f := 141) rfl ?_); refine goesL_ (some 19) rfl rfl Tryz.func141 Z6 rfl #[.string a0, .string t239] rfl Z1 ?_; (with_reducible refine (decimal_DivMod.calls kj2 a0 t239 t240 t241 t242 _ ?side1 A7.out).mono ?_); (case side1 => exact Z183); rintro e w11 ⟨rfl, hb⟩; refine ⟨_, rfl, ?_⟩; have n0_ := AS (below_step Z0 hb); clear HB; have HB := n0_; clear n0_; (try clear hb); (try clear hb2); (try clear hk); (try clear hi)) | ((with_reducible refine gate_callee (f := 44) rfl ?_); refine goesL_ (some 27) rfl rfl Tryz.func44 Z6 rfl #[.string t240, .string a1] rfl Z1 ?_; (with_reducible refine (decimal_Mul.calls kj2 t240 a1 t243 _ ?side1 A9.out).mono ?_); (case side1 => exact Z183); rintro e w12 ⟨rfl, hb⟩; refine ⟨_, rfl, ?_⟩; have n0_ := AS (below_step Z0 hb); clear HB; have HB := n0_; clear n0_; (try clear hb); (try clear hb2); (try clear hk); (try clear hi)))
     go_ret
     exact ⟨Z2, Z0⟩
    ·rw [if_neg c8] at H
     have c8b0 : (t242 == 0) = false := beq_eq_false_iff_ne.mpr c8
     have c8b1 : (t242 != 0) = true := bne_iff_ne.mpr c8
     obtain rfl := Option.some.inj H
     go_wp2_with (first | ((with_reducible refine gate_callee (f := 125) rfl ?_); refine goesL_ (some 18) rfl rfl Tryz.func125 Z6 rfl #[.string a0, .string a1] rfl Z1 ?_; (with_reducible refine (decimal_Gcd.calls kj2 a0 a1 t239 _ ?side1 A6.out).mono ?_); (case side1 => exact Z183); rintro e w13 ⟨rfl, hb⟩; refine ⟨_, rfl, ?_⟩; have n0_ := AS (below_step Z0 hb); clear HB; have HB := n0_; clear n0_; (try clear hb); (try clear hb2); (try clear hk); (try clear hi)) | ((with_reducible refine gate_callee (f := 141) rfl ?_); refine goesL_ (some 19) rfl rfl Tryz.func141 Z6 rfl #[.string a0, .string t239] rfl Z1 ?_; (with_reducible refine (decimal_DivMod.calls kj2 a0 t239 t240 t241 t242 _ ?side1 A7.out).mono ?_); (case side1 => exact Z183); rintro e w14 ⟨rfl, hb⟩; refine ⟨_, rfl, ?_⟩; have n0_ := AS (below_step Z0 hb); clear HB; have HB := n0_; clear n0_; (try clear hb); (try clear hb2); (try clear hk); (try clear hi)))
     go_ret
     exact ⟨Z2, Z0⟩
def whole_Lcm.f (k : Nat) (a0 : ByteArray) (a1 : ByteArray) : Option (ByteArray) := (whole_Abs.f a0).bind fun t244 => ((whole_Abs.f a1).bind fun t245 => ((decimal_Lcm.f k t244 t245).bind fun t246 => (some t246)))
set_option maxHeartbeats 8000000 in
set_option maxRecDepth 100000 in
theorem whole_Lcm.calls (k : Nat) (a0 : ByteArray) (a1 : ByteArray) (r : ByteArray) (w : World) (hG : GL w) (h : whole_Lcm.f k a0 a1 = some r) :
  Calls Tryz.prog 182 #[.string a0, .string a1] w fun e w' => e = .returned (.string r) ∧ Below w.heap.size w w' := by
 have HB := AS (Below.refl w.heap.size w)
 have H : ((whole_Abs.f a0).bind fun t244 => ((whole_Abs.f a1).bind fun t245 => ((decimal_Lcm.f k t244 t245).bind fun t246 => (some t246)))) = some r := h
 clear h
 replace H := Option.bind_eq_some_iff.mp H
 obtain ⟨t244, A30, H⟩ := H
 replace H : ((whole_Abs.f a1).bind fun t245 => ((decimal_Lcm.f k t244 t245).bind fun t246 => (some t246))) = some r := H
 have A3 := AS A30
 clear A30
 replace H := Option.bind_eq_some_iff.mp H
 obtain ⟨t245, A40, H⟩ := H
 replace H : ((decimal_Lcm.f k t244 t245).bind fun t246 => (some t246)) = some r := H
 have A4 := AS A40
 clear A40
 replace H := Option.bind_eq_some_iff.mp H
 obtain ⟨t246, A50, H⟩ := H
 replace H : (some t246) = some r := H
 have A5 := AS A50
 clear A50
 obtain rfl := Option.some.inj H
 go_enter Tryz.func182, Tryz.ntmps182
 go_wp2_with (first | ((with_reducible refine gate_callee (f := 69) rfl ?_); refine goesL_ (some 6) rfl rfl Tryz.func69 Z6 rfl #[.string a0] rfl Z1 ?_; (with_reducible refine (whole_Abs.calls a0 t244 _ ?side1 A3.out).mono ?_); (case side1 => exact Z183); rintro e w' ⟨rfl, ⟨nd, rfl⟩⟩; refine ⟨_, rfl, ?_⟩) | ((with_reducible refine gate_callee (f := 69) rfl ?_); refine goesL_ (some 8) rfl rfl Tryz.func69 Z6 rfl #[.string a1] rfl Z1 ?_; (with_reducible refine (whole_Abs.calls a1 t245 _ ?side1 A4.out).mono ?_); (case side1 => exact Z183); rintro e w' ⟨rfl, ⟨nd, rfl⟩⟩; refine ⟨_, rfl, ?_⟩) | ((with_reducible refine gate_callee (f := 209) rfl ?_); refine goesL_ (some 9) rfl rfl Tryz.func209 Z6 rfl #[.string t244, .string t245] rfl Z1 ?_; (with_reducible refine (decimal_Lcm.calls k t244 t245 t246 _ ?side1 A5.out).mono ?_); (case side1 => exact Z183); rintro e w6 ⟨rfl, hb⟩; refine ⟨_, rfl, ?_⟩; have n0_ := AS (below_step Z0 hb); clear HB; have HB := n0_; clear n0_; (try clear hb); (try clear hb2); (try clear hk); (try clear hi)))
 go_ret
 exact ⟨Z2, Z0⟩
mutual
def size_termsOf.l0 : Nat → List Int → List (S53) → List (S53) → Int → Int → ByteArray → Option (List Int × List ByteArray × ByteArray)
 | 0, _, _, _, _, _, _ => none
 | k + 1, x0, x1, x14, x15, x16, x249002 => if x16 < x15 then (if 0 ≤ x16 then (if x16 < (x14.length : Int) then ((whole_Lcm.f k x249002 ((rd_T53 x14 x16).f1)).bind fun t251 => (size_termsOf.l0 k x0 x1 x14 x15 (wrap64 (x16 + 1)) t251)) else (none)) else (none)) else (size_termsOf.l1 k x0 x1 (x1.length : Int) 0 ([] : List Int) ([] : List ByteArray) x249002)
def size_termsOf.l1 : Nat → List Int → List (S53) → Int → Int → List Int → List ByteArray → ByteArray → Option (List Int × List ByteArray × ByteArray)
 | 0, _, _, _, _, _, _, _ => none
 | k + 1, x0, x27, x28, x29, x249000, x249001, x249002 => if x29 < x28 then (if 0 ≤ x29 then (if x29 < (x27.length : Int) then (if ((rd_T53 x27 x29).f0).toList = ([48] : List UInt8) then (size_termsOf.l1 k x0 x27 x28 (wrap64 (x29 + 1)) x249000 x249001 x249002) else ((whole_DivMod.f k x249002 ((rd_T53 x27 x29).f1)).bind fun bt254 => (if x29 < (x0.length : Int) then (if x249000.length < 17592186044416 then ((whole_Mul.f k ((rd_T53 x27 x29).f0) bt254.1).bind fun t261 => (if x249001.length < 8796093022208 then (size_termsOf.l1 k x0 x27 x28 (wrap64 (x29 + 1)) (x249000 ++ [rd x0 x29]) (x249001 ++ [t261]) x249002) else (none))) else (none)) else (none)))) else (none)) else (none)) else (some (x249000, x249001, x249002))
end
def size_termsOf.f (k : Nat) (l0 : List Int) (l1 : List (S53)) : Option (List Int × List ByteArray × ByteArray) := size_termsOf.l0 k l0 l1 l1 (l1.length : Int) 0 (⟨#[49]⟩ : ByteArray)
def size_termsOf.T12 : Bool × List (List Nat × List Nat) := (true, [([], []), ([0], [0]), ([], []), ([], []), ([2, 3], [2, 3]), ([4], [4]), ([5], [5]), ([1, 6], [1, 6]), ([], []), ([8], [8]), ([], []), ([10], [10]), ([], []), ([11, 12, 7], [11, 12]), ([13], [13]), ([9, 14, 13], [9, 14]), ([0, 1, 2, 3, 4, 5, 6, 7, 8, 9], []), ([16, 7, 15, 0, 1, 2, 3, 4, 5, 6, 7, 8, 9], [7, 16]), ([0, 1, 2, 3, 4, 5, 6, 7, 8, 9, 10, 11, 12, 13, 14, 15, 16, 17], []), ([18, 15, 17, 0, 1, 2, 3, 4, 5, 6, 7, 8, 9, 10, 11, 12, 13, 14, 15, 16, 17], [15, 18])])
def size_termsOf.B12 : List Nat := [0, 1, 0, 0, 12, 28, 60, 127, 0, 256, 0, 1024, 0, 7423, 15615, 32767, 1023, 131071, 262143, 524287]
theorem size_termsOf.tab12 : rtab .any (opsOf Tryz.f149 12) = size_termsOf.T12 := by kernel_rfl
theorem size_termsOf.bits12 : waitsOk size_termsOf.T12.2 size_termsOf.B12 = true := by kernel_rfl
set_option maxHeartbeats 8000000 in
set_option maxRecDepth 100000 in
theorem size_termsOf.calls (k : Nat) (A0 : Option Addr) (c0 : Nat) (l0 : List Int) (A1 : Option Addr) (c1 : Nat) (l1 : List (S53)) (r1 : List Int) (r2 : List ByteArray) (r3 : ByteArray) (w : World) (hr0 : Kd.C (Kd.int .i64) w A0 l0.length l0) (hc0 : l0.length ≤ c0) (hr1 : Kd.C k53 w A1 l1.length l1) (hc1 : l1.length ≤ c1) (hG : GL w) (h : size_termsOf.f k l0 l1 = some (r1, r2, r3)) :
  Calls Tryz.prog 149 #[.slice A0 l0.length c0, .slice A1 l1.length c1] w fun e w' => ∃ v0_ v1_ : Value, e = .returned (.agg #[v0_, v1_, .string r3]) ∧ Kd.R (Kd.int .i64) 3 w' w.heap.size (fun _ => True) v0_ r1 ∧ Kd.R Kd.string 51 w' w.heap.size (fun _ => True) v1_ r2 ∧ Below w.heap.size w w' := by
 have hu191 := Tryz.underlying191
 have hu53 := Tryz.underlying53
 have HR0 := AS hr0
 have HC0 := AS hc0
 clear hr0 hc0
 have HR1 := AS hr1
 have HC1 := AS hc1
 clear hr1 hc1
 have HB := AS (Below.refl w.heap.size w)
 have H : (size_termsOf.l0 k l0 l1 l1 (l1.length : Int) 0 (⟨#[49]⟩ : ByteArray)) = some (r1, r2, r3) := h
 clear h
 have H' := AS H
 clear H
 go_enter Tryz.func149, Tryz.ntmps149
 go_wp2_with (first | ((with_reducible refine gate_dst (N := 4) rfl ?_); refine box_event ?hg (N := 4) ?hd (cs := #[.slice none 0 0, .slice none 0 0, .string (⟨#[]⟩ : ByteArray)]) (t := 191) ?hr ?_; (case hd => rfl); (case hg => rfl); (case hr => exact Z13); intro gb247 hg w3 hbox hb; have n0_ := AS (below_step Z0 hb); have n1_ := AS (hbox); have n2_ := AS ((Z184 : w.heap.size ≤ gb247)); have n3_ := AS ((Z184 : w.heap.size ≤ gb247)); clear HB; have HB := n0_; have BK247 := n1_; have GW247 := n2_; have GE247 := n3_; clear n0_ n1_ n2_ n3_; clear hb hbox hg) | ((with_reducible refine gate_dst (N := 5) rfl ?_); refine box_event ?hg (N := 5) ?hd (cs := #[.slice none 0 0, .slice none 0 0, .string (⟨#[]⟩ : ByteArray)]) (t := 191) ?hr ?_; (case hd => rfl); (case hg => rfl); (case hr => exact Z13); intro gb248 hg w4 hbox hb; have n0_ := AS (blk_below (g := gb247) (o := .cells #[.slice none 0 0, .slice none 0 0, .string (⟨#[]⟩ : ByteArray)] 191 (0, 0)) Z33 hb); have n1_ := AS (below_step Z117 hb); have n2_ := AS (hbox); have n3_ := AS ((by rw [hg]; exact (below_size Z117) : w.heap.size ≤ gb248)); have n4_ := AS ((by rw [hg]; exact (below_size Z117) : w.heap.size ≤ gb248)); have n5_ := AS ((Z187 : gb247 ≠ gb248)); have n6_ := AS ((Z188 : gb248 ≠ gb247)); clear BK247; clear HB; have BK247 := n0_; have HB := n1_; have BK248 := n2_; have GW248 := n3_; have GE248 := n4_; have NB247_248 := n5_; have NB248_247 := n6_; clear n0_ n1_ n2_ n3_ n4_ n5_ n6_; clear hb hbox hg; have hnb5 := NB248_247.out; have hnc5 := NB247_248.out; have hcz6_0 : w4.cell? ⟨gb248, 0, none⟩ = some (.slice none 0 0) := (blk_cell BK248.out 0).trans rfl; have hcz6_1 : w4.cell? ⟨gb248, 1, none⟩ = some (.slice none 0 0) := (blk_cell BK248.out 1).trans rfl; have hcz6_2 : w4.cell? ⟨gb248, 2, none⟩ = some (.string (⟨#[]⟩ : ByteArray)) := (blk_cell BK248.out 2).trans rfl; have hfz6_0 := blk_frozen BK248.out 0; have hfz6_1 := blk_frozen BK248.out 1; have hfz6_2 := blk_frozen BK248.out 2))
 go_loopg [16] k (fun kq v16 w' => ∃ (x16_1 : Int) (x249002_1 : ByteArray), v16 = .int .i64 x16_1 ∧ Aside0 (size_termsOf.l0 kq l0 l1 l1 (l1.length : Int) x16_1 x249002_1 = some (r1, r2, r3)) ∧ Aside0 (kq ≤ k) ∧ Aside0 (w'.heap[gb247]? = some (.cells #[(.slice none 0 0), (.slice none 0 0), .string (⟨#[]⟩ : ByteArray)] 191 (0, 0))) ∧ Aside0 (w'.heap[gb248]? = some (.cells #[(.slice none 0 0), (.slice none 0 0), .string x249002_1] 191 (0, 0))) ∧ Aside0 (Below w.heap.size w w'))
 case atStart => exact ⟨(0), ((⟨#[49]⟩ : ByteArray)), Z5, H', ⟨Nat.le_refl _⟩, ⟨by (with_reducible repeat (first | refine blk_drewN ?_ _ | refine blk_drew ?_ | refine blk_alloc ?_ _)); refine blk_far ?_ NB247_248.out _; (with_reducible repeat (first | refine blk_drewN ?_ _ | refine blk_drew ?_ | refine blk_alloc ?_ _)); refine blk_far ?_ NB247_248.out _; (with_reducible repeat (first | refine blk_drewN ?_ _ | refine blk_drew ?_ | refine blk_alloc ?_ _)); refine blk_far ?_ NB247_248.out _; (with_reducible repeat (first | refine blk_drewN ?_ _ | refine blk_drew ?_ | refine blk_alloc ?_ _)); exact BK247.out⟩, ⟨by (with_reducible repeat (first | refine blk_drewN ?_ _ | refine blk_drew ?_ | refine blk_alloc ?_ _)); refine blk_put (cs := #[.slice none 0 0, .slice none 0 0, .string (⟨#[]⟩ : ByteArray)]) ?_ 2 _ rfl; (with_reducible repeat (first | refine blk_drewN ?_ _ | refine blk_drew ?_ | refine blk_alloc ?_ _)); refine blk_put (cs := #[.slice none 0 0, .slice none 0 0, .string (⟨#[]⟩ : ByteArray)]) ?_ 1 _ rfl; (with_reducible repeat (first | refine blk_drewN ?_ _ | refine blk_drew ?_ | refine blk_alloc ?_ _)); refine blk_put (cs := #[.slice none 0 0, .slice none 0 0, .string (⟨#[]⟩ : ByteArray)]) ?_ 0 _ rfl; (with_reducible repeat (first | refine blk_drewN ?_ _ | refine blk_drew ?_ | refine blk_alloc ?_ _)); exact BK248.out⟩, ⟨Z24⟩⟩
 case round =>
  clear H'
  try clear c1
  try clear p2
  try clear c5
  try clear hcz6_0
  try clear hcz6_1
  try clear hcz6_2
  try clear hfz6_0
  try clear hfz6_1
  try clear hfz6_2
  obtain ⟨x16_1, x249002_1, rfl, HA, HK1, BK247, BK248, HB⟩ := hrel
  cases gk with
  | zero => exact absurd HA.out (by simp [size_termsOf.l0])
  | succ k1 =>
   have H := HA.out
   clear HA
   simp only [size_termsOf.l0] at H
   by_cases c7 : x16_1 < (l1.length : Int)
   ·rw [if_pos c7] at H
    have c7b0 : decide (x16_1 < (l1.length : Int)) = true := decide_eq_true c7
    clear c7
    by_cases c8 : 0 ≤ x16_1
    ·rw [if_pos c8] at H
     have c8b0 : decide (0 ≤ x16_1) = true := decide_eq_true c8
     clear c8
     by_cases c9 : x16_1 < (l1.length : Int)
     ·rw [if_pos c9] at H
      have c9b0 : decide (x16_1 < (l1.length : Int)) = true := decide_eq_true c9
      clear c9
      replace H := Option.bind_eq_some_iff.mp H
      obtain ⟨t251, A100, H⟩ := H
      replace H : (size_termsOf.l0 k1 l0 l1 l1 (l1.length : Int) (wrap64 (x16_1 + 1)) t251) = some (r1, r2, r3) := H
      have A10 := AS A100
      clear A100
      have H' := AS H
      clear H
      have p249 : 0 ≤ (x16_1 : Int) := of_decide_eq_true Z3
      have q249 : x16_1 < (l1.length : Int) := of_decide_eq_true Z3
      obtain ⟨ad249, e249, hx249_0, hx249_1⟩ := at_T53 HR1.out x16_1 p249 q249
      cases e249
      replace hx249_0 := (HB.out.cell (World.block_lt_of_cell? w _ hx249_0)).trans hx249_0
      replace hx249_1 := (HB.out.cell (World.block_lt_of_cell? w _ hx249_1)).trans hx249_1
      replace p249 := eq_true p249
      replace q249 := eq_true q249
      go_wp2_with (first | ((with_reducible refine gate_dst (N := 7) rfl ?_); refine box_event ?hg (N := 7) ?hd (cs := #[.string (⟨#[]⟩ : ByteArray), .string (⟨#[]⟩ : ByteArray)]) (t := 53) ?hr ?_; (case hd => rfl); (case hg => rfl); (case hr => exact Z13); intro gb250 hg w11 hbox hb; have n0_ := AS (blk_below (g := gb247) (o := .cells #[.slice none 0 0, .slice none 0 0, .string (⟨#[]⟩ : ByteArray)] 191 (0, 0)) Z33 hb); have n1_ := AS (blk_below (g := gb248) (o := .cells #[.slice none 0 0, .slice none 0 0, .string x249002_1] 191 (0, 0)) Z45 hb); have n2_ := AS (below_step Z24 hb); have n3_ := AS (hbox); have n4_ := AS ((Z215 : w.heap.size ≤ gb250)); have n5_ := AS ((Z215 : w.heap.size ≤ gb250)); have n6_ := AS ((Z187 : gb247 ≠ gb250)); have n7_ := AS ((Z188 : gb250 ≠ gb247)); have n8_ := AS ((by rw [hg]; exact Nat.ne_of_lt (blk_lt (g := gb248) (o := .cells #[.slice none 0 0, .slice none 0 0, .string x249002_1] 191 (0, 0)) Z45) : gb248 ≠ gb250)); have n9_ := AS ((by rw [hg]; exact Nat.ne_of_gt (blk_lt (g := gb248) (o := .cells #[.slice none 0 0, .slice none 0 0, .string x249002_1] 191 (0, 0)) Z45) : gb250 ≠ gb248)); clear BK247; clear BK248; clear HB; have BK247 := n0_; have BK248 := n1_; have HB := n2_; have BK250 := n3_; have GW250 := n4_; have GE250 := n5_; have NB247_250 := n6_; have NB250_247 := n7_; have NB248_250 := n8_; have NB250_248 := n9_; clear n0_ n1_ n2_ n3_ n4_ n5_ n6_ n7_ n8_ n9_; clear hb hbox hg; have hnb12 := NB250_247.out; have hnc12 := NB247_250.out; have hnb13 := NB250_248.out; have hnc13 := NB248_250.out; have hcz14_0 : w11.cell? ⟨gb250, 0, none⟩ = some (.string (⟨#[]⟩ : ByteArray)) := (blk_cell BK250.out 0).trans rfl; have hcz14_1 : w11.cell? ⟨gb250, 1, none⟩ = some (.string (⟨#[]⟩ : ByteArray)) := (blk_cell BK250.out 1).trans rfl; have hfz14_0 := blk_frozen BK250.out 0; have hfz14_1 := blk_frozen BK250.out 1; have hnb15 := NB248_247.out; have hnc15 := NB247_248.out; have hcz16_0 : w11.cell? ⟨gb248, 0, none⟩ = some (.slice none 0 0) := (blk_cell BK248.out 0).trans rfl; have hcz16_1 : w11.cell? ⟨gb248, 1, none⟩ = some (.slice none 0 0) := (blk_cell BK248.out 1).trans rfl; have hcz16_2 : w11.cell? ⟨gb248, 2, none⟩ = some (.string x249002_1) := (blk_cell BK248.out 2).trans rfl; have hfz16_0 := blk_frozen BK248.out 0; have hfz16_1 := blk_frozen BK248.out 1; have hfz16_2 := blk_frozen BK248.out 2) | ((with_reducible refine gate_callee (f := 182) rfl ?_); refine goesL_ (some 24) rfl rfl Tryz.func182 Z6 rfl #[.string x249002_1, .string ((rd_T53 l1 x16_1).f1)] rfl Z1 ?_; (with_reducible refine (whole_Lcm.calls k1 x249002_1 ((rd_T53 l1 x16_1).f1) t251 _ ?side1 A10.out).mono ?_); (case side1 => exact GL.below hG Z98); rintro e w17 ⟨rfl, hb⟩; refine ⟨_, rfl, ?_⟩; have n0_ := AS (blk_below (g := gb247) (o := .cells #[.slice none 0 0, .slice none 0 0, .string (⟨#[]⟩ : ByteArray)] 191 (0, 0)) (by (with_reducible repeat (first | refine blk_drewN ?_ _ | refine blk_drew ?_ | refine blk_alloc ?_ _)); refine blk_far ?_ NB247_250.out _; (with_reducible repeat (first | refine blk_drewN ?_ _ | refine blk_drew ?_ | refine blk_alloc ?_ _)); refine blk_far ?_ NB247_250.out _; (with_reducible repeat (first | refine blk_drewN ?_ _ | refine blk_drew ?_ | refine blk_alloc ?_ _)); exact BK247.out) hb); have n1_ := AS (blk_below (g := gb248) (o := .cells #[.slice none 0 0, .slice none 0 0, .string x249002_1] 191 (0, 0)) (by (with_reducible repeat (first | refine blk_drewN ?_ _ | refine blk_drew ?_ | refine blk_alloc ?_ _)); refine blk_far ?_ NB248_250.out _; (with_reducible repeat (first | refine blk_drewN ?_ _ | refine blk_drew ?_ | refine blk_alloc ?_ _)); refine blk_far ?_ NB248_250.out _; (with_reducible repeat (first | refine blk_drewN ?_ _ | refine blk_drew ?_ | refine blk_alloc ?_ _)); exact BK248.out) hb); have n2_ := AS (blk_below (g := gb250) (o := .cells #[.string ((rd_T53 l1 x16_1).f0), .string ((rd_T53 l1 x16_1).f1)] 53 (0, 0)) (by (with_reducible repeat (first | refine blk_drewN ?_ _ | refine blk_drew ?_ | refine blk_alloc ?_ _)); refine blk_put (cs := #[.string ((rd_T53 l1 x16_1).f0), .string (⟨#[]⟩ : ByteArray)]) ?_ 1 _ rfl; (with_reducible repeat (first | refine blk_drewN ?_ _ | refine blk_drew ?_ | refine blk_alloc ?_ _)); refine blk_put (cs := #[.string (⟨#[]⟩ : ByteArray), .string (⟨#[]⟩ : ByteArray)]) ?_ 0 _ rfl; (with_reducible repeat (first | refine blk_drewN ?_ _ | refine blk_drew ?_ | refine blk_alloc ?_ _)); exact BK250.out) hb); have n3_ := AS (below_step Z98 hb); clear BK247; clear BK248; clear BK250; clear HB; have BK247 := n0_; have BK248 := n1_; have BK250 := n2_; have HB := n3_; clear n0_ n1_ n2_ n3_; (try clear hb); (try clear hb2); (try clear hk); (try clear hi); have hcz18_0 : w17.cell? ⟨gb248, 0, none⟩ = some (.slice none 0 0) := (blk_cell BK248.out 0).trans rfl; have hcz18_1 : w17.cell? ⟨gb248, 1, none⟩ = some (.slice none 0 0) := (blk_cell BK248.out 1).trans rfl; have hcz18_2 : w17.cell? ⟨gb248, 2, none⟩ = some (.string x249002_1) := (blk_cell BK248.out 2).trans rfl; have hfz18_0 := blk_frozen BK248.out 0; have hfz18_1 := blk_frozen BK248.out 1; have hfz18_2 := blk_frozen BK248.out 2))
      go_roundg k1
      case measure => have := HK1.out; omega
      case rel => exact ⟨(wrap64 (x16_1 + 1)), (t251), Z5, H', ⟨Z101⟩, ⟨by (with_reducible repeat (first | refine blk_drewN ?_ _ | refine blk_drew ?_ | refine blk_alloc ?_ _)); refine blk_far ?_ NB247_248.out _; (with_reducible repeat (first | refine blk_drewN ?_ _ | refine blk_drew ?_ | refine blk_alloc ?_ _)); exact BK247.out⟩, ⟨by (with_reducible repeat (first | refine blk_drewN ?_ _ | refine blk_drew ?_ | refine blk_alloc ?_ _)); refine blk_put (cs := #[.slice none 0 0, .slice none 0 0, .string x249002_1]) ?_ 2 _ rfl; (with_reducible repeat (first | refine blk_drewN ?_ _ | refine blk_drew ?_ | refine blk_alloc ?_ _)); exact BK248.out⟩, ⟨Z98⟩⟩
     ·rw [if_neg c9] at H
      exact absurd H (by simp)
    ·rw [if_neg c8] at H
     exact absurd H (by simp)
   ·rw [if_neg c7] at H
    have c7b0 : decide (x16_1 < (l1.length : Int)) = false := decide_eq_false c7
    clear c7
    have H' := AS H
    clear H
    go_wp2
    go_loopg [29] k1 (fun kq v29 w' => ∃ (x29_2 : Int) (x249000_2 : List Int) (x249001_2 : List ByteArray) (u249000 : Value) (u249001 : Value), v29 = .int .i64 x29_2 ∧ Aside0 (size_termsOf.l1 kq l0 l1 (l1.length : Int) x29_2 x249000_2 x249001_2 x249002_1 = some (r1, r2, r3)) ∧ Aside0 (kq ≤ k1) ∧ Aside0 (Kd.R (Kd.int .i64) 3 w' w.heap.size (fun _ => True) u249000 x249000_2) ∧ Aside0 (Kd.R Kd.string 51 w' w.heap.size (fun _ => True) u249001 x249001_2) ∧ Aside0 (w'.heap[gb247]? = some (.cells #[(.slice none 0 0), (.slice none 0 0), .string (⟨#[]⟩ : ByteArray)] 191 (0, 0))) ∧ Aside0 (w'.heap[gb248]? = some (.cells #[u249000, u249001, .string x249002_1] 191 (0, 0))) ∧ Aside0 (Below w.heap.size w w'))
    case atStart => exact ⟨(0), (([] : List Int)), (([] : List ByteArray)), (.slice none 0 0), (.slice none 0 0), Z5, H', ⟨Nat.le_refl _⟩, ⟨Z22⟩, ⟨Z22⟩, ⟨Z33⟩, ⟨Z45⟩, ⟨Z24⟩⟩
    case round =>
     clear H'
     try clear c1
     try clear p2
     try clear q2
     try clear hx2
     try clear c5
     try clear p6
     try clear c7
     try clear c7b0
     try clear c8
     try clear c8b0
     try clear c9
     try clear c9b0
     try clear c12
     try clear c13
     try clear c14
     try clear c15
     try clear c18
     try clear hcz14_0
     try clear hcz14_1
     try clear hcz16_0
     try clear hcz16_1
     try clear hcz16_2
     try clear hcz18_0
     try clear hcz18_1
     try clear hcz18_2
     try clear hcz6_0
     try clear hcz6_1
     try clear hcz6_2
     try clear hfz14_0
     try clear hfz14_1
     try clear hfz16_0
     try clear hfz16_1
     try clear hfz16_2
     try clear hfz18_0
     try clear hfz18_1
     try clear hfz18_2
     try clear hfz6_0
     try clear hfz6_1
     try clear hfz6_2
     try clear hx249_0
     try clear hx249_1
     try clear p2
     try clear p249
     try clear q249
     obtain ⟨x29_2, x249000_2, x249001_2, u249000, u249001, rfl, HA, HK2, HO_249000, HO_249001, BK247, BK248, HB⟩ := hrel
     cases gk with
     | zero => exact absurd HA.out (by simp [size_termsOf.l1])
     | succ k2 =>
      have H := HA.out
      clear HA
      simp only [size_termsOf.l1] at H
      by_cases c19 : x29_2 < (l1.length : Int)
      ·rw [if_pos c19] at H
       have c19b0 : decide (x29_2 < (l1.length : Int)) = true := decide_eq_true c19
       clear c19
       by_cases c20 : 0 ≤ x29_2
       ·rw [if_pos c20] at H
        have c20b0 : decide (0 ≤ x29_2) = true := decide_eq_true c20
        clear c20
        by_cases c21 : x29_2 < (l1.length : Int)
        ·rw [if_pos c21] at H
         have c21b0 : decide (x29_2 < (l1.length : Int)) = true := decide_eq_true c21
         clear c21
         by_cases c22 : ((rd_T53 l1 x29_2).f0).toList = ([48] : List UInt8)
         ·rw [if_pos c22] at H
          have c22b0 : (((rd_T53 l1 x29_2).f0).toList == ([48] : List UInt8)) = true := beq_iff_eq.mpr c22
          have c22b1 : (((rd_T53 l1 x29_2).f0).toList != ([48] : List UInt8)) = false := bne_eq_false_iff_eq.mpr c22
          clear c22
          have H' := AS H
          clear H
          have p252 : 0 ≤ (x29_2 : Int) := of_decide_eq_true Z3
          have q252 : x29_2 < (l1.length : Int) := of_decide_eq_true Z3
          obtain ⟨ad252, e252, hx252_0, hx252_1⟩ := at_T53 HR1.out x29_2 p252 q252
          cases e252
          replace hx252_0 := (HB.out.cell (World.block_lt_of_cell? w _ hx252_0)).trans hx252_0
          replace hx252_1 := (HB.out.cell (World.block_lt_of_cell? w _ hx252_1)).trans hx252_1
          replace p252 := eq_true p252
          replace q252 := eq_true q252
          go_wp2_with (first | ((with_reducible refine gate_dst (N := 9) rfl ?_); refine box_event ?hg (N := 9) ?hd (cs := #[.string (⟨#[]⟩ : ByteArray), .string (⟨#[]⟩ : ByteArray)]) (t := 53) ?hr ?_; (case hd => rfl); (case hg => rfl); (case hr => exact Z13); intro gb253 hg w23 hbox hb; have n0_ := AS (Kd.R_below Z123 hb); have n1_ := AS (Kd.R_below Z100 hb); have n2_ := AS (blk_below (g := gb247) (o := .cells #[.slice none 0 0, .slice none 0 0, .string (⟨#[]⟩ : ByteArray)] 191 (0, 0)) Z33 hb); have n3_ := AS (blk_below (g := gb248) (o := .cells #[u249000, u249001, .string x249002_1] 191 (0, 0)) Z45 hb); have n4_ := AS (below_step Z24 hb); have n5_ := AS (hbox); have n6_ := AS ((Z215 : w.heap.size ≤ gb253)); have n7_ := AS ((Z215 : w.heap.size ≤ gb253)); have n8_ := AS ((Z187 : gb247 ≠ gb253)); have n9_ := AS ((Z188 : gb253 ≠ gb247)); have n10_ := AS ((Z207 : gb248 ≠ gb253)); have n11_ := AS ((Z208 : gb253 ≠ gb248)); clear HO_249000; clear HO_249001; clear BK247; clear BK248; clear HB; have HO_249000 := n0_; have HO_249001 := n1_; have BK247 := n2_; have BK248 := n3_; have HB := n4_; have BK253 := n5_; have GW253 := n6_; have GE253 := n7_; have NB247_253 := n8_; have NB253_247 := n9_; have NB248_253 := n10_; have NB253_248 := n11_; clear n0_ n1_ n2_ n3_ n4_ n5_ n6_ n7_ n8_ n9_ n10_ n11_; clear hb hbox hg; have hnb24 := NB253_247.out; have hnc24 := NB247_253.out; have hnb25 := NB253_248.out; have hnc25 := NB248_253.out; have hcz26_0 : w23.cell? ⟨gb253, 0, none⟩ = some (.string (⟨#[]⟩ : ByteArray)) := (blk_cell BK253.out 0).trans rfl; have hcz26_1 : w23.cell? ⟨gb253, 1, none⟩ = some (.string (⟨#[]⟩ : ByteArray)) := (blk_cell BK253.out 1).trans rfl; have hfz26_0 := blk_frozen BK253.out 0; have hfz26_1 := blk_frozen BK253.out 1))
          go_roundg k2
          case measure => have := HK1.out; have := HK2.out; omega
          case rel => exact ⟨(wrap64 (x29_2 + 1)), (x249000_2), (x249001_2), (u249000), (u249001), Z5, H', ⟨Z146⟩, ⟨by (with_reducible repeat (first | apply Kd.R_alloc | apply Kd.R_drewN | apply Kd.R_drew)); exact Kd.R_mono (Kd.R_far (p := ⟨gb253, 1, none⟩) (Kd.R_far (p := ⟨gb253, 0, none⟩) (Kd.R_types HO_249000.out BK253.out (by decide)) (fun _ hk => hk.2) (.string ((rd_T53 l1 x29_2).f0))) (fun _ hk => hk.2) (.string ((rd_T53 l1 x29_2).f1))) (fun _ hk => trivial)⟩, ⟨by (with_reducible repeat (first | apply Kd.R_alloc | apply Kd.R_drewN | apply Kd.R_drew)); exact Kd.R_mono (Kd.R_far (p := ⟨gb253, 1, none⟩) (Kd.R_far (p := ⟨gb253, 0, none⟩) (Kd.R_types HO_249001.out BK253.out (by decide)) (fun _ hk => hk.2) (.string ((rd_T53 l1 x29_2).f0))) (fun _ hk => hk.2) (.string ((rd_T53 l1 x29_2).f1))) (fun _ hk => trivial)⟩, ⟨Z81⟩, ⟨Z82⟩, ⟨Z26⟩⟩
         ·rw [if_neg c22] at H
          have c22b0 : (((rd_T53 l1 x29_2).f0).toList == ([48] : List UInt8)) = false := beq_eq_false_iff_ne.mpr c22
          have c22b1 : (((rd_T53 l1 x29_2).f0).toList != ([48] : List UInt8)) = true := bne_iff_ne.mpr c22
          replace H := Option.bind_eq_some_iff.mp H
          obtain ⟨⟨t254, t255, t256⟩, A270, H⟩ := H
          replace H : (if x29_2 < (l0.length : Int) then (if x249000_2.length < 17592186044416 then ((whole_Mul.f k2 ((rd_T53 l1 x29_2).f0) t254).bind fun t261 => (if x249001_2.length < 8796093022208 then (size_termsOf.l1 k2 l0 l1 (l1.length : Int) (wrap64 (x29_2 + 1)) (x249000_2 ++ [rd l0 x29_2]) (x249001_2 ++ [t261]) x249002_1) else (none))) else (none)) else (none)) = some (r1, r2, r3) := H
          have A27 := AS A270
          clear A270
          by_cases c28 : x29_2 < (l0.length : Int)
          ·rw [if_pos c28] at H
           have c28b0 : decide (x29_2 < (l0.length : Int)) = true := decide_eq_true c28
           clear c28
           by_cases c29 : x249000_2.length < 17592186044416
           ·rw [if_pos c29] at H
            have LMc29 := AS c29
            clear c29
            obtain ⟨y258, hy258⟩ : ∃ y_ : List Int, y_ = (x249000_2 ++ [rd l0 x29_2]) := ⟨_, rfl⟩
            replace H : ((whole_Mul.f k2 ((rd_T53 l1 x29_2).f0) t254).bind fun t261 => (if x249001_2.length < 8796093022208 then (size_termsOf.l1 k2 l0 l1 (l1.length : Int) (wrap64 (x29_2 + 1)) y258 (x249001_2 ++ [t261]) x249002_1) else (none))) = some (r1, r2, r3) := by first | (rw [hy258]; with_reducible exact H) | (have H2_ := (Option.bind_some _ _).symm.trans H; rw [hy258]; with_reducible exact H2_) | (have H2_ := (Option.bind_some _ _).symm.trans H; with_reducible exact H2_) | with_reducible exact H | (rw [hy258]; exact H) | exact H
            have Ny258 := AS hy258
            clear hy258
            replace H := Option.bind_eq_some_iff.mp H
            obtain ⟨t261, A300, H⟩ := H
            replace H : (if x249001_2.length < 8796093022208 then (size_termsOf.l1 k2 l0 l1 (l1.length : Int) (wrap64 (x29_2 + 1)) y258 (x249001_2 ++ [t261]) x249002_1) else (none)) = some (r1, r2, r3) := H
            have A30 := AS A300
            clear A300
            by_cases c31 : x249001_2.length < 8796093022208
            ·rw [if_pos c31] at H
             have LMc31 := AS c31
             clear c31
             obtain ⟨y262, hy262⟩ : ∃ y_ : List ByteArray, y_ = (x249001_2 ++ [t261]) := ⟨_, rfl⟩
             replace H : (size_termsOf.l1 k2 l0 l1 (l1.length : Int) (wrap64 (x29_2 + 1)) y258 y262 x249002_1) = some (r1, r2, r3) := by first | (rw [hy262]; with_reducible exact H) | (have H2_ := (Option.bind_some _ _).symm.trans H; rw [hy262]; with_reducible exact H2_) | (have H2_ := (Option.bind_some _ _).symm.trans H; with_reducible exact H2_) | with_reducible exact H | (rw [hy262]; exact H) | exact H
             have Ny262 := AS hy262
             clear hy262
             have H' := AS H
             clear H
             have p252 : 0 ≤ (x29_2 : Int) := of_decide_eq_true Z3
             have q252 : x29_2 < (l1.length : Int) := of_decide_eq_true Z3
             obtain ⟨ad252, e252, hx252_0, hx252_1⟩ := at_T53 HR1.out x29_2 p252 q252
             cases e252
             replace hx252_0 := (HB.out.cell (World.block_lt_of_cell? w _ hx252_0)).trans hx252_0
             replace hx252_1 := (HB.out.cell (World.block_lt_of_cell? w _ hx252_1)).trans hx252_1
             replace p252 := eq_true p252
             replace q252 := eq_true q252
             try go_wp2_with (first | ((with_reducible refine gate_dst (N := 9) rfl ?_); refine box_event ?hg (N := 9) ?hd (cs := #[.string (⟨#[]⟩ : ByteArray), .string (⟨#[]⟩ : ByteArray)]) (t := 53) ?hr ?_; (case hd => rfl); (case hg => rfl); (case hr => exact Z13); intro gb253 hg w32 hbox hb; have n0_ := AS (Kd.R_below Z123 hb); have n1_ := AS (Kd.R_below Z100 hb); have n2_ := AS (blk_below (g := gb247) (o := .cells #[.slice none 0 0, .slice none 0 0, .string (⟨#[]⟩ : ByteArray)] 191 (0, 0)) Z33 hb); have n3_ := AS (blk_below (g := gb248) (o := .cells #[u249000, u249001, .string x249002_1] 191 (0, 0)) Z45 hb); have n4_ := AS (below_step Z24 hb); have n5_ := AS (hbox); have n6_ := AS ((Z215 : w.heap.size ≤ gb253)); have n7_ := AS ((Z215 : w.heap.size ≤ gb253)); have n8_ := AS ((Z187 : gb247 ≠ gb253)); have n9_ := AS ((Z188 : gb253 ≠ gb247)); have n10_ := AS ((Z207 : gb248 ≠ gb253)); have n11_ := AS ((Z208 : gb253 ≠ gb248)); clear HO_249000; clear HO_249001; clear BK247; clear BK248; clear HB; have HO_249000 := n0_; have HO_249001 := n1_; have BK247 := n2_; have BK248 := n3_; have HB := n4_; have BK253 := n5_; have GW253 := n6_; have GE253 := n7_; have NB247_253 := n8_; have NB253_247 := n9_; have NB248_253 := n10_; have NB253_248 := n11_; clear n0_ n1_ n2_ n3_ n4_ n5_ n6_ n7_ n8_ n9_ n10_ n11_; clear hb hbox hg; have hnb33 := NB253_247.out; have hnc33 := NB247_253.out; have hnb34 := NB253_248.out; have hnc34 := NB248_253.out; have hcz35_0 : w32.cell? ⟨gb253, 0, none⟩ = some (.string (⟨#[]⟩ : ByteArray)) := (blk_cell BK253.out 0).trans rfl; have hcz35_1 : w32.cell? ⟨gb253, 1, none⟩ = some (.string (⟨#[]⟩ : ByteArray)) := (blk_cell BK253.out 1).trans rfl; have hfz35_0 := blk_frozen BK253.out 0; have hfz35_1 := blk_frozen BK253.out 1; have hnb36 := NB248_247.out; have hnc36 := NB247_248.out; have hcz37_0 : w32.cell? ⟨gb248, 0, none⟩ = some (u249000) := (blk_cell BK248.out 0).trans rfl; have hcz37_1 : w32.cell? ⟨gb248, 1, none⟩ = some (u249001) := (blk_cell BK248.out 1).trans rfl; have hcz37_2 : w32.cell? ⟨gb248, 2, none⟩ = some (.string x249002_1) := (blk_cell BK248.out 2).trans rfl; have hfz37_0 := blk_frozen BK248.out 0; have hfz37_1 := blk_frozen BK248.out 1; have hfz37_2 := blk_frozen BK248.out 2) | ((with_reducible refine gate_callee (f := 118) rfl ?_); refine goesL_ (some 42) rfl rfl Tryz.func118 Z6 rfl #[.string x249002_1, .string ((rd_T53 l1 x29_2).f1)] rfl Z1 ?_; (with_reducible refine (whole_DivMod.calls k2 x249002_1 ((rd_T53 l1 x29_2).f1) t254 t255 t256 _ ?side1 A27.out).mono ?_); (case side1 => exact GL.below hG Z26); rintro e w38 ⟨rfl, hb⟩; refine ⟨_, rfl, ?_⟩; have n0_ := AS (Kd.R_below (by (with_reducible repeat (first | apply Kd.R_alloc | apply Kd.R_drewN | apply Kd.R_drew)); exact (Kd.R_mono (Kd.R_far (p := ⟨gb253, 1, none⟩) (Kd.R_far (p := ⟨gb253, 0, none⟩) (Kd.R_types HO_249000.out BK253.out (by decide)) (fun _ hk => hk.2) (.string ((rd_T53 l1 x29_2).f0))) (fun _ hk => hk.2) (.string ((rd_T53 l1 x29_2).f1))) (fun _ h_ => h_.1))) hb); have n1_ := AS (Kd.R_below (by (with_reducible repeat (first | apply Kd.R_alloc | apply Kd.R_drewN | apply Kd.R_drew)); exact (Kd.R_mono (Kd.R_far (p := ⟨gb253, 1, none⟩) (Kd.R_far (p := ⟨gb253, 0, none⟩) (Kd.R_types HO_249001.out BK253.out (by decide)) (fun _ hk => hk.2) (.string ((rd_T53 l1 x29_2).f0))) (fun _ hk => hk.2) (.string ((rd_T53 l1 x29_2).f1))) (fun _ h_ => h_.1))) hb); have n2_ := AS (blk_below (g := gb247) (o := .cells #[.slice none 0 0, .slice none 0 0, .string (⟨#[]⟩ : ByteArray)] 191 (0, 0)) Z81 hb); have n3_ := AS (blk_below (g := gb248) (o := .cells #[u249000, u249001, .string x249002_1] 191 (0, 0)) Z82 hb); have n4_ := AS (blk_below (g := gb253) (o := .cells #[.string ((rd_T53 l1 x29_2).f0), .string ((rd_T53 l1 x29_2).f1)] 53 (0, 0)) (by (with_reducible repeat (first | refine blk_drewN ?_ _ | refine blk_drew ?_ | refine blk_alloc ?_ _)); refine blk_put (cs := #[.string ((rd_T53 l1 x29_2).f0), .string (⟨#[]⟩ : ByteArray)]) ?_ 1 _ rfl; (with_reducible repeat (first | refine blk_drewN ?_ _ | refine blk_drew ?_ | refine blk_alloc ?_ _)); refine blk_put (cs := #[.string (⟨#[]⟩ : ByteArray), .string (⟨#[]⟩ : ByteArray)]) ?_ 0 _ rfl; (with_reducible repeat (first | refine blk_drewN ?_ _ | refine blk_drew ?_ | refine blk_alloc ?_ _)); exact BK253.out) hb); have n5_ := AS (below_step Z26 hb); clear HO_249000; clear HO_249001; clear BK247; clear BK248; clear BK253; clear HB; have HO_249000 := n0_; have HO_249001 := n1_; have BK247 := n2_; have BK248 := n3_; have BK253 := n4_; have HB := n5_; clear n0_ n1_ n2_ n3_ n4_ n5_; (try clear hb); (try clear hb2); (try clear hk); (try clear hi)))
             have n0_ := AS (Kd.R_drew HO_249000.out)
             have n1_ := AS (Kd.R_drew HO_249001.out)
             have n2_ := AS (blk_drew BK247.out)
             have n3_ := AS (blk_drew BK248.out)
             have n4_ := AS (blk_drew BK253.out)
             have n5_ := AS (below_drew1 HB.out)
             clear HO_249000
             clear HO_249001
             clear BK247
             clear BK248
             clear BK253
             clear HB
             have HO_249000 := n0_
             have HO_249001 := n1_
             have BK247 := n2_
             have BK248 := n3_
             have BK253 := n4_
             have HB := n5_
             clear n0_ n1_ n2_ n3_ n4_ n5_
             have p257 : 0 ≤ (x29_2 : Int) := of_decide_eq_true Z3
             have q257 : x29_2 < (l0.length : Int) := of_decide_eq_true Z3
             obtain ⟨ad257, e257, hx257_0⟩ := Kd.at_int HR0.out x29_2 p257 q257
             have hw257_0 := hx257_0
             cases e257
             replace hx257_0 := (HB.out.cell (World.block_lt_of_cell? w _ hx257_0)).trans hx257_0
             replace p257 := eq_true p257
             replace q257 := eq_true q257
             refine start_ (n := 20) (S := fun w' => w'.cell? ⟨gb248, 0, none⟩ = some (u249000) ∧ w'.cell? ⟨gb248, 1, none⟩ = some (u249001) ∧ w'.cell? ⟨gb248, 2, none⟩ = some (.string x249002_1) ∧ w'.cell? ⟨gb253, 0, none⟩ = some (.string ((rd_T53 l1 x29_2).f0)) ∧ w'.cell? ⟨gb253, 1, none⟩ = some (.string ((rd_T53 l1 x29_2).f1)) ∧ w'.cell? (ad257.add (x29_2).toNat) = some (.int .i64 (rd l0 x29_2))) (ds := [17, 19]) #[false, false, false, false, false, false, false, false, false, false, false, false, false, false, false, false, false, false, false, false] Z6 rfl rfl ⟨(blk_cell BK248.out 0).trans rfl, (blk_cell BK248.out 1).trans rfl, (blk_cell BK248.out 2).trans rfl, (blk_cell BK253.out 0).trans rfl, (blk_cell BK253.out 1).trans rfl, ((HB.out.cell (World.block_lt_of_cell? w _ hw257_0)).trans hw257_0)⟩ (fun hHeld => ?_); refine with_tabW size_termsOf.tab12 size_termsOf.bits12 (fun HT_ HW_ => ?_)
             generalize w38.drew = w39 at HO_249000 HO_249001 BK247 BK248 BK253 HB hx257_0 hHeld ⊢
             refine pure_ (i := 0) (N := some 46) (v := ?_) (a' := ?_) #[true, false, false, false, false, false, false, false, false, false, false, false, false, false, false, false, false, false, false, false] rfl rfl (any_of HT_.out Z6) (fun _ _ _ h => h) (Or.inl ⟨by rfl, ?_⟩) ?_ ?_
             rotate_left
             ·intro w'
              go_simp
              with_reducible rfl
             rotate_left
             ·simp only [Act.put, List.setIfInBounds_toArray, List.set_cons_zero, List.set_cons_succ, i64_w, i32_w]
              rfl
             refine pure_ (i := 2) (N := some 48) (v := ?_) (a' := ?_) #[true, false, true, false, false, false, false, false, false, false, false, false, false, false, false, false, false, false, false, false] rfl rfl (any_of HT_.out Z6) (fun _ _ _ h => h) (Or.inl ⟨by rfl, ?_⟩) ?_ ?_
             rotate_left
             ·intro w'
              go_simp
              with_reducible rfl
             rotate_left
             ·simp only [Act.put, List.setIfInBounds_toArray, List.set_cons_zero, List.set_cons_succ, i64_w, i32_w]
              rfl
             refine pure_ (i := 3) (N := some 49) (v := ?_) (a' := ?_) #[true, false, true, true, false, false, false, false, false, false, false, false, false, false, false, false, false, false, false, false] rfl rfl (any_of HT_.out Z6) (fun _ _ _ h => h) (Or.inl ⟨by rfl, ?_⟩) ?_ ?_
             rotate_left
             ·intro w'
              go_simp
              with_reducible rfl
             rotate_left
             ·simp only [Act.put, List.setIfInBounds_toArray, List.set_cons_zero, List.set_cons_succ, i64_w, i32_w]
              rfl
             refine pure_ (i := 4) (N := some 50) (v := ?_) (a' := ?_) #[true, false, true, true, true, false, false, false, false, false, false, false, false, false, false, false, false, false, false, false] rfl rfl (any_of HT_.out Z6) (fun _ _ _ h => h) (Or.inl ⟨by rfl, ?_⟩) ?_ ?_
             rotate_left
             ·intro w'
              go_simp
              with_reducible rfl
             rotate_left
             ·simp only [Act.put, List.setIfInBounds_toArray, List.set_cons_zero, List.set_cons_succ, i64_w, i32_w]
              rfl
             refine pure_ (i := 8) (N := some 54) (v := ?_) (a' := ?_) #[true, false, true, true, true, false, false, false, true, false, false, false, false, false, false, false, false, false, false, false] rfl rfl (any_of HT_.out Z6) (fun _ _ _ h => h) (Or.inl ⟨by rfl, ?_⟩) ?_ ?_
             rotate_left
             ·intro w'
              go_simp
              with_reducible rfl
             rotate_left
             ·simp only [Act.put, List.setIfInBounds_toArray, List.set_cons_zero, List.set_cons_succ, i64_w, i32_w]
              rfl
             refine pure_ (i := 10) (N := some 56) (v := ?_) (a' := ?_) #[true, false, true, true, true, false, false, false, true, false, true, false, false, false, false, false, false, false, false, false] rfl rfl (any_of HT_.out Z6) (fun _ _ _ h => h) (Or.inl ⟨by rfl, ?_⟩) ?_ ?_
             rotate_left
             ·intro w'
              go_simp
              with_reducible rfl
             rotate_left
             ·simp only [Act.put, List.setIfInBounds_toArray, List.set_cons_zero, List.set_cons_succ, i64_w, i32_w]
              rfl
             refine pure_ (i := 12) (N := some 58) (v := ?_) (a' := ?_) #[true, false, true, true, true, false, false, false, true, false, true, false, true, false, false, false, false, false, false, false] rfl rfl (any_of HT_.out Z6) (fun _ _ _ h => h) (Or.inl ⟨by rfl, ?_⟩) ?_ ?_
             rotate_left
             ·intro w'
              go_simp
              with_reducible rfl
             rotate_left
             ·simp only [Act.put, List.setIfInBounds_toArray, List.set_cons_zero, List.set_cons_succ, i64_w, i32_w]
              rfl
             refine take_ (i := 1) (N := some 47) (v := ?_) (a' := ?_) #[true, true, true, true, true, false, false, false, true, false, true, false, true, false, false, false, false, false, false, false] rfl rfl (take_ofW HT_.out HW_.out Z6) (fun _ _ _ h => h) (Or.inl ⟨by rfl, ?_⟩) hHeld ?_ ?_
             rotate_left
             ·rintro w' ⟨s0, s1, s2, s3, s4, s5⟩
              go_simp
              with_reducible rfl
             rotate_left
             ·simp only [Act.put, List.setIfInBounds_toArray, List.set_cons_zero, List.set_cons_succ, i64_w, i32_w]
              rfl
             refine take_ (i := 5) (N := some 51) (v := ?_) (a' := ?_) #[true, true, true, true, true, true, false, false, true, false, true, false, true, false, false, false, false, false, false, false] rfl rfl (take_ofW HT_.out HW_.out Z6) (fun _ _ _ h => h) (Or.inl ⟨by rfl, ?_⟩) hHeld ?_ ?_
             rotate_left
             ·rintro w' ⟨s0, s1, s2, s3, s4, s5⟩
              go_simp
              with_reducible rfl
             rotate_left
             ·simp only [Act.put, List.setIfInBounds_toArray, List.set_cons_zero, List.set_cons_succ, i64_w, i32_w]
              rfl
             refine take_ (i := 9) (N := some 55) (v := ?_) (a' := ?_) #[true, true, true, true, true, true, false, false, true, true, true, false, true, false, false, false, false, false, false, false] rfl rfl (take_ofW HT_.out HW_.out Z6) (fun _ _ _ h => h) (Or.inl ⟨by rfl, ?_⟩) hHeld ?_ ?_
             rotate_left
             ·rintro w' ⟨s0, s1, s2, s3, s4, s5⟩
              go_simp
              with_reducible rfl
             rotate_left
             ·simp only [Act.put, List.setIfInBounds_toArray, List.set_cons_zero, List.set_cons_succ, i64_w, i32_w]
              rfl
             refine take_ (i := 11) (N := some 57) (v := ?_) (a' := ?_) #[true, true, true, true, true, true, false, false, true, true, true, true, true, false, false, false, false, false, false, false] rfl rfl (take_ofW HT_.out HW_.out Z6) (fun _ _ _ h => h) (Or.inl ⟨by rfl, ?_⟩) hHeld ?_ ?_
             rotate_left
             ·rintro w' ⟨s0, s1, s2, s3, s4, s5⟩
              go_simp
              with_reducible rfl
             rotate_left
             ·simp only [Act.put, List.setIfInBounds_toArray, List.set_cons_zero, List.set_cons_succ, i64_w, i32_w]
              rfl
             refine one_ (i := 6) (N := some 52) #[true, true, true, true, true, true, true, false, true, true, true, true, true, false, false, false, false, false, false, false] rfl rfl (one_of HT_.out Z6) (by decide) (fun K hK => ?_)
             refine value_ (w1 := ?_) (v := ?_) (by rfl) rfl ?_ ?_
             rotate_left 2
             ·go_simp
              constructor
              ·rfl
              ·rfl
             refine hK.out _ _ ⟨(blk_cell (blk_alloc BK248.out _) 0).trans rfl, (blk_cell (blk_alloc BK248.out _) 1).trans rfl, (blk_cell (blk_alloc BK248.out _) 2).trans rfl, (blk_cell (blk_alloc BK253.out _) 0).trans rfl, (blk_cell (blk_alloc BK253.out _) 1).trans rfl, (World.cell?_alloc_lt _ _ _ (World.block_lt_of_cell? _ _ (((HB.out.cell (World.block_lt_of_cell? w _ hw257_0)).trans hw257_0)))).trans (((HB.out.cell (World.block_lt_of_cell? w _ hw257_0)).trans hw257_0))⟩ (fun hHeld => ?_)
             clear hK K
             refine norm_ (a' := ?_) ?_ ?_
             rotate_left
             ·show Act.put _ (some 52) _ = _
              simp only [Act.put, List.setIfInBounds_toArray, List.set_cons_zero, List.set_cons_succ, i64_w, i32_w]
              rfl
             refine one_ (i := 7) (N := some 53) #[true, true, true, true, true, true, true, true, true, true, true, true, true, false, false, false, false, false, false, false] rfl rfl (one_of HT_.out Z6) (by decide) (fun K hK => ?_)
             refine Kd.R_append_step (Kd.int .i64) (w0 := w) w.heap.size (by rfl) (.tmp 47) (.tmp 52) 25 3 (.int .i64 0) 8 rfl Tryz.underlying25 info3 rfl (by decide) (by omega) u249000 x249000_2 (rd l0 x29_2) [.int .i64 (rd l0 x29_2)] (fun _ => True) (fun _ => False) rfl rfl ?aP (fun _ hk => hk.elim) ?aF ?aO ?aB ?aS ?aL ?_
             (case aP => exact rfl)
             (case aB => exact Z26)
             (case aF => exact (fun _ _ => trivial))
             (case aO => exact Z123)
             (case aS => exact (below_size Z26))
             (case aL => have := LMc29.out; omega)
             intro v259 w40 ho hb hg hat
             rw [← Ny258.out] at ho
             have n0_ := AS (Kd.R_over' Z100 (Kd.R_typed Z123) (by decide) hg)
             have n1_ := AS (blk_grown (g := gb247) (o := .cells #[.slice none 0 0, .slice none 0 0, .string (⟨#[]⟩ : ByteArray)] 191 (0, 0)) Z33 hg (Kd.R_ne HO_249000.out BK247.out (by decide)))
             have n2_ := AS (blk_grown (g := gb248) (o := .cells #[u249000, u249001, .string x249002_1] 191 (0, 0)) Z45 hg (Kd.R_ne HO_249000.out BK248.out (by decide)))
             have n3_ := AS (blk_grown (g := gb253) (o := .cells #[.string ((rd_T53 l1 x29_2).f0), .string ((rd_T53 l1 x29_2).f1)] 53 (0, 0)) Z128 hg (Kd.R_ne HO_249000.out BK253.out (by decide)))
             have n4_ := AS (hb)
             have n5_ := AS (ho)
             clear HO_249001
             clear BK247
             clear BK248
             clear BK253
             clear HB
             clear HO_249000
             have HO_249001 := n0_
             have BK247 := n1_
             have BK248 := n2_
             have BK253 := n3_
             have HB := n4_
             have HO260 := n5_
             clear n0_ n1_ n2_ n3_ n4_ n5_
             clear ho hb hg hat
             refine hK.out _ _ ⟨(blk_cell BK248.out 0).trans rfl, (blk_cell BK248.out 1).trans rfl, (blk_cell BK248.out 2).trans rfl, (blk_cell BK253.out 0).trans rfl, (blk_cell BK253.out 1).trans rfl, ((HB.out.cell (World.block_lt_of_cell? w _ hw257_0)).trans hw257_0)⟩ (fun hHeld => ?_)
             clear hK K
             refine norm_ (a' := ?_) ?_ ?_
             rotate_left
             ·show Act.put _ (some 53) _ = _
              simp only [Act.put, List.setIfInBounds_toArray, List.set_cons_zero, List.set_cons_succ, i64_w, i32_w]
              rfl
             refine pure_ (i := 16) (N := some 62) (v := ?_) (a' := ?_) #[true, true, true, true, true, true, true, true, true, true, true, true, true, false, false, false, true, false, false, false] rfl rfl (any_of HT_.out Z6) (fun _ _ _ h => h) (Or.inl ⟨by rfl, ?_⟩) ?_ ?_
             rotate_left
             ·intro w'
              go_simp
              with_reducible rfl
             rotate_left
             ·simp only [Act.put, List.setIfInBounds_toArray, List.set_cons_zero, List.set_cons_succ, i64_w, i32_w]
              rfl
             refine one_ (i := 13) (N := some 59) #[true, true, true, true, true, true, true, true, true, true, true, true, true, true, false, false, true, false, false, false] rfl rfl (one_of HT_.out Z6) (by decide) (fun K hK => ?_)
             refine goes_ Tryz.func154 Z6 rfl #[.string ((rd_T53 l1 x29_2).f0), .string t254] (by rfl) rfl rfl Z1 ?_
             with_reducible refine (whole_Mul.calls k2 ((rd_T53 l1 x29_2).f0) t254 t261 _ ?side1 A30.out).mono ?_
             (case side1 => exact GL.below hG Z26)
             rintro e w41 ⟨rfl, hb⟩
             refine ⟨_, rfl, ?_⟩
             have n0_ := AS (Kd.R_below Z100 hb)
             have n1_ := AS (Kd.R_below Z154 hb)
             have n2_ := AS (blk_below (g := gb247) (o := .cells #[.slice none 0 0, .slice none 0 0, .string (⟨#[]⟩ : ByteArray)] 191 (0, 0)) Z33 hb)
             have n3_ := AS (blk_below (g := gb248) (o := .cells #[u249000, u249001, .string x249002_1] 191 (0, 0)) Z45 hb)
             have n4_ := AS (blk_below (g := gb253) (o := .cells #[.string ((rd_T53 l1 x29_2).f0), .string ((rd_T53 l1 x29_2).f1)] 53 (0, 0)) Z128 hb)
             have n5_ := AS (below_step Z26 hb)
             clear HO_249001
             clear HO260
             clear BK247
             clear BK248
             clear BK253
             clear HB
             have HO_249001 := n0_
             have HO260 := n1_
             have BK247 := n2_
             have BK248 := n3_
             have BK253 := n4_
             have HB := n5_
             clear n0_ n1_ n2_ n3_ n4_ n5_
             (try clear hb)
             (try clear hb2)
             (try clear hk)
             (try clear hi)
             refine hK.out _ _ ⟨(blk_cell BK248.out 0).trans rfl, (blk_cell BK248.out 1).trans rfl, (blk_cell BK248.out 2).trans rfl, (blk_cell BK253.out 0).trans rfl, (blk_cell BK253.out 1).trans rfl, ((HB.out.cell (World.block_lt_of_cell? w _ hw257_0)).trans hw257_0)⟩ (fun hHeld => ?_)
             clear hK K
             refine norm_ (a' := ?_) ?_ ?_
             rotate_left
             ·show Act.put _ (some 59) _ = _
              simp only [Act.put, List.setIfInBounds_toArray, List.set_cons_zero, List.set_cons_succ, i64_w, i32_w]
              rfl
             refine one_ (i := 14) (N := some 60) #[true, true, true, true, true, true, true, true, true, true, true, true, true, true, true, false, true, false, false, false] rfl rfl (one_of HT_.out Z6) (by decide) (fun K hK => ?_)
             refine value_ (w1 := ?_) (v := ?_) (by rfl) rfl ?_ ?_
             rotate_left 2
             ·go_simp
              constructor
              ·rfl
              ·rfl
             refine hK.out _ _ ⟨(blk_cell (blk_alloc BK248.out _) 0).trans rfl, (blk_cell (blk_alloc BK248.out _) 1).trans rfl, (blk_cell (blk_alloc BK248.out _) 2).trans rfl, (blk_cell (blk_alloc BK253.out _) 0).trans rfl, (blk_cell (blk_alloc BK253.out _) 1).trans rfl, (World.cell?_alloc_lt _ _ _ (World.block_lt_of_cell? _ _ (((HB.out.cell (World.block_lt_of_cell? w _ hw257_0)).trans hw257_0)))).trans (((HB.out.cell (World.block_lt_of_cell? w _ hw257_0)).trans hw257_0))⟩ (fun hHeld => ?_)
             clear hK K
             refine norm_ (a' := ?_) ?_ ?_
             rotate_left
             ·show Act.put _ (some 60) _ = _
              simp only [Act.put, List.setIfInBounds_toArray, List.set_cons_zero, List.set_cons_succ, i64_w, i32_w]
              rfl
             refine one_ (i := 15) (N := some 61) #[true, true, true, true, true, true, true, true, true, true, true, true, true, true, true, true, true, false, false, false] rfl rfl (one_of HT_.out Z6) (by decide) (fun K hK => ?_)
             refine Kd.R_append_step Kd.string (w0 := w) w.heap.size (by rfl) (.tmp 55) (.tmp 60) 189 51 (.string ⟨#[]⟩) 16 rfl Tryz.underlying189 info51 rfl (by decide) (by omega) u249001 x249001_2 t261 [.string t261] (fun _ => True) (fun _ => False) rfl rfl ?aP (fun _ hk => hk.elim) ?aF ?aO ?aB ?aS ?aL ?_
             (case aP => exact rfl)
             (case aB => exact Z26)
             (case aF => exact (fun _ _ => trivial))
             (case aO => exact Z100)
             (case aS => exact (below_size Z26))
             (case aL => have := LMc31.out; omega)
             intro v263 w42 ho hb hg hat
             rw [← Ny262.out] at ho
             have n0_ := AS (blk_grown (g := gb247) (o := .cells #[.slice none 0 0, .slice none 0 0, .string (⟨#[]⟩ : ByteArray)] 191 (0, 0)) Z33 hg (Kd.R_ne HO_249001.out BK247.out (by decide)))
             have n1_ := AS (blk_grown (g := gb248) (o := .cells #[u249000, u249001, .string x249002_1] 191 (0, 0)) Z45 hg (Kd.R_ne HO_249001.out BK248.out (by decide)))
             have n2_ := AS (blk_grown (g := gb253) (o := .cells #[.string ((rd_T53 l1 x29_2).f0), .string ((rd_T53 l1 x29_2).f1)] 53 (0, 0)) Z128 hg (Kd.R_ne HO_249001.out BK253.out (by decide)))
             have n3_ := AS (Kd.R_over' Z154 (Kd.R_typed Z100) (by decide) hg)
             have n4_ := AS (hb)
             have n5_ := AS (ho)
             clear BK247
             clear BK248
             clear BK253
             clear HO260
             clear HB
             clear HO_249001
             have BK247 := n0_
             have BK248 := n1_
             have BK253 := n2_
             have HO260 := n3_
             have HB := n4_
             have HO264 := n5_
             clear n0_ n1_ n2_ n3_ n4_ n5_
             clear ho hb hg hat
             obtain ⟨Ao43, co43, eo43⟩ := Kd.R_slice HO260.out
             (first | subst eo43 | (injection eo43 with f1_ f2_ f3_; have f4_ := f1_.symm; have f5_ := f3_.symm; clear f1_ f2_ f3_; subst f4_; subst f5_))
             obtain ⟨Ao45, co45, eo45⟩ := Kd.R_slice HO264.out
             (first | subst eo45 | (injection eo45 with f1_ f2_ f3_; have f4_ := f1_.symm; have f5_ := f3_.symm; clear f1_ f2_ f3_; subst f4_; subst f5_))
             refine hK.out _ _ ⟨(blk_cell BK248.out 0).trans rfl, (blk_cell BK248.out 1).trans rfl, (blk_cell BK248.out 2).trans rfl, (blk_cell BK253.out 0).trans rfl, (blk_cell BK253.out 1).trans rfl, ((HB.out.cell (World.block_lt_of_cell? w _ hw257_0)).trans hw257_0)⟩ (fun hHeld => ?_)
             clear hK K
             refine norm_ (a' := ?_) ?_ ?_
             rotate_left
             ·show Act.put _ (some 61) _ = _
              simp only [Act.put, List.setIfInBounds_toArray, List.set_cons_zero, List.set_cons_succ, i64_w, i32_w]
              rfl
             refine last_ (i := 17) (N := none) #[true, true, true, true, true, true, true, true, true, true, true, true, true, true, true, true, true, true, false, false] rfl rfl (one_of HT_.out Z6) (by decide) (fun K hK => ?_)
             have hs44 : w42.cell? ⟨gb248, 0, none⟩ = some (u249000) := (blk_cell BK248.out 0).trans rfl
             have hfs44 := blk_frozen BK248.out 0
             have hns44_0 := NB247_248.out
             have hns44_2 := NB253_248.out
             have hms44_0 := NB248_247.out
             have hms44_2 := NB248_253.out
             refine skip_ (w1 := ?_) (by rfl) rfl ?_ ?_
             rotate_left
             ·go_simp
              rfl
             refine hK.out _ _ ?_
             clear hK K
             refine pure_ (i := 18) (N := some 63) (v := ?_) (a' := ?_) #[true, true, true, true, true, true, true, true, true, true, true, true, true, true, true, true, true, true, true, false] rfl rfl (any_of HT_.out Z6) (fun _ _ _ h => h) (Or.inl ⟨by rfl, ?_⟩) ?_ ?_
             rotate_left
             ·intro w'
              go_simp
              with_reducible rfl
             rotate_left
             ·simp only [Act.put, List.setIfInBounds_toArray, List.set_cons_zero, List.set_cons_succ, i64_w, i32_w]
              rfl
             refine last_ (i := 19) (N := none) #[true, true, true, true, true, true, true, true, true, true, true, true, true, true, true, true, true, true, true, true] rfl rfl (one_of HT_.out Z6) (by decide) (fun K hK => ?_)
             have hs46 : w42.cell? ⟨gb248, 1, none⟩ = some (u249001) := (blk_cell BK248.out 1).trans rfl
             have hfs46 := blk_frozen BK248.out 1
             have hns46_0 := NB247_248.out
             have hns46_2 := NB253_248.out
             have hms46_0 := NB248_247.out
             have hms46_2 := NB248_253.out
             refine skip_ (w1 := ?_) (by rfl) rfl ?_ ?_
             rotate_left
             ·go_simp
              rfl
             refine hK.out _ _ ?_
             clear hK K
             refine done_ (done_of HT_.out Z6) ?_
             try go_wp2
             go_roundg k2
             case measure => have := HK1.out; have := HK2.out; omega
             case rel => exact ⟨(wrap64 (x29_2 + 1)), (y258), (y262), (.slice Ao43 y258.length co43), (.slice Ao45 y262.length co45), Z5, H', ⟨Z146⟩, ⟨by (with_reducible repeat (first | apply Kd.R_alloc | apply Kd.R_drewN | apply Kd.R_drew)); exact Kd.R_mono (Kd.R_far (p := ⟨gb248, 1, none⟩) (Kd.R_far (p := ⟨gb248, 0, none⟩) (Kd.R_types HO260.out BK248.out (by decide)) (fun _ hk => hk.2) (.slice Ao43 y258.length co43)) (fun _ hk => hk.2) (.slice Ao45 y262.length co45)) (fun _ hk => trivial)⟩, ⟨by (with_reducible repeat (first | apply Kd.R_alloc | apply Kd.R_drewN | apply Kd.R_drew)); exact Kd.R_mono (Kd.R_far (p := ⟨gb248, 1, none⟩) (Kd.R_far (p := ⟨gb248, 0, none⟩) (Kd.R_types HO264.out BK248.out (by decide)) (fun _ hk => hk.2) (.slice Ao43 y258.length co43)) (fun _ hk => hk.2) (.slice Ao45 y262.length co45)) (fun _ hk => trivial)⟩, ⟨by (with_reducible repeat (first | refine blk_drewN ?_ _ | refine blk_drew ?_ | refine blk_alloc ?_ _)); refine blk_far ?_ NB247_248.out _; (with_reducible repeat (first | refine blk_drewN ?_ _ | refine blk_drew ?_ | refine blk_alloc ?_ _)); refine blk_far ?_ NB247_248.out _; (with_reducible repeat (first | refine blk_drewN ?_ _ | refine blk_drew ?_ | refine blk_alloc ?_ _)); exact BK247.out⟩, ⟨by (with_reducible repeat (first | refine blk_drewN ?_ _ | refine blk_drew ?_ | refine blk_alloc ?_ _)); refine blk_put (cs := #[.slice Ao43 y258.length co43, u249001, .string x249002_1]) ?_ 1 _ rfl; (with_reducible repeat (first | refine blk_drewN ?_ _ | refine blk_drew ?_ | refine blk_alloc ?_ _)); refine blk_put (cs := #[u249000, u249001, .string x249002_1]) ?_ 0 _ rfl; (with_reducible repeat (first | refine blk_drewN ?_ _ | refine blk_drew ?_ | refine blk_alloc ?_ _)); exact BK248.out⟩, ⟨Z26⟩⟩
            ·rw [if_neg c31] at H
             exact absurd H (by simp)
           ·rw [if_neg c29] at H
            exact absurd H (by simp)
          ·rw [if_neg c28] at H
           exact absurd H (by simp)
        ·rw [if_neg c21] at H
         exact absurd H (by simp)
       ·rw [if_neg c20] at H
        exact absurd H (by simp)
      ·rw [if_neg c19] at H
       have c19b0 : decide (x29_2 < (l1.length : Int)) = false := decide_eq_false c19
       clear c19
       simp only [Option.some.injEq, Prod.mk.injEq] at H
       obtain ⟨rfl, rfl, rfl⟩ := H
       have hnb47 := NB248_247.out
       have hnc47 := NB247_248.out
       have hcz48_0 : wr.cell? ⟨gb248, 0, none⟩ = some (u249000) := (blk_cell BK248.out 0).trans rfl
       have hcz48_1 : wr.cell? ⟨gb248, 1, none⟩ = some (u249001) := (blk_cell BK248.out 1).trans rfl
       have hcz48_2 : wr.cell? ⟨gb248, 2, none⟩ = some (.string x249002_1) := (blk_cell BK248.out 2).trans rfl
       have hfz48_0 := blk_frozen BK248.out 0
       have hfz48_1 := blk_frozen BK248.out 1
       have hfz48_2 := blk_frozen BK248.out 2
       obtain ⟨Ao49, co49, eo49⟩ := Kd.R_slice HO_249000.out
       subst eo49
       have hcz50_0 : wr.cell? ⟨gb247, 0, none⟩ = some (.slice none 0 0) := (blk_cell BK247.out 0).trans rfl
       have hcz50_1 : wr.cell? ⟨gb247, 1, none⟩ = some (.slice none 0 0) := (blk_cell BK247.out 1).trans rfl
       have hcz50_2 : wr.cell? ⟨gb247, 2, none⟩ = some (.string (⟨#[]⟩ : ByteArray)) := (blk_cell BK247.out 2).trans rfl
       have hfz50_0 := blk_frozen BK247.out 0
       have hfz50_1 := blk_frozen BK247.out 1
       have hfz50_2 := blk_frozen BK247.out 2
       obtain ⟨Ao51, co51, eo51⟩ := Kd.R_slice HO_249001.out
       subst eo51
       go_wp2
       refine bodyPost_ret (results_cell_row rfl _ _ gb247 191 #[.slice Ao49 x249000_2.length co49, .slice Ao51 x249001_2.length co51, .string x249002_1] (0, 0) _ rfl (by (with_reducible repeat (first | refine blk_drewN ?_ _ | refine blk_drew ?_ | refine blk_alloc ?_ _)); refine blk_put (cs := #[.slice Ao49 x249000_2.length co49, .slice Ao51 x249001_2.length co51, .string (⟨#[]⟩ : ByteArray)]) ?_ 2 _ rfl; (with_reducible repeat (first | refine blk_drewN ?_ _ | refine blk_drew ?_ | refine blk_alloc ?_ _)); refine blk_put (cs := #[.slice Ao49 x249000_2.length co49, .slice none 0 0, .string (⟨#[]⟩ : ByteArray)]) ?_ 1 _ rfl; (with_reducible repeat (first | refine blk_drewN ?_ _ | refine blk_drew ?_ | refine blk_alloc ?_ _)); refine blk_put (cs := #[.slice none 0 0, .slice none 0 0, .string (⟨#[]⟩ : ByteArray)]) ?_ 0 _ rfl; (with_reducible repeat (first | refine blk_drewN ?_ _ | refine blk_drew ?_ | refine blk_alloc ?_ _)); exact BK247.out) Tryz.underlying191 rfl Z6) rfl ?_
       exact ⟨_, _, Z2, by (with_reducible repeat (first | apply Kd.R_alloc | apply Kd.R_drewN | apply Kd.R_drew)); exact Kd.R_mono (Kd.R_far (p := ⟨gb247, 2, none⟩) (Kd.R_far (p := ⟨gb247, 1, none⟩) (Kd.R_far (p := ⟨gb247, 0, none⟩) (Kd.R_types HO_249000.out BK247.out (by decide)) (fun _ hk => hk.2) (.slice Ao49 x249000_2.length co49)) (fun _ hk => hk.2) (.slice Ao51 x249001_2.length co51)) (fun _ hk => hk.2) (.string x249002_1)) (fun _ hk => trivial), by (with_reducible repeat (first | apply Kd.R_alloc | apply Kd.R_drewN | apply Kd.R_drew)); exact Kd.R_mono (Kd.R_far (p := ⟨gb247, 2, none⟩) (Kd.R_far (p := ⟨gb247, 1, none⟩) (Kd.R_far (p := ⟨gb247, 0, none⟩) (Kd.R_types HO_249001.out BK247.out (by decide)) (fun _ hk => hk.2) (.slice Ao49 x249000_2.length co49)) (fun _ hk => hk.2) (.slice Ao51 x249001_2.length co51)) (fun _ hk => hk.2) (.string x249002_1)) (fun _ hk => trivial), Z24⟩
def size_checkQuotient.f (k : Nat) (l0 : List Int) (l1 : List (S53)) (l2 : List (S53)) : Option (Int) := (size_CheckAll.f k l0 (([l1, l2] : List (List (S53))))).bind fun t268 => (if t268 = 0 then ((size_termsOf.f k l0 l2).bind fun bt269 => (if (bt269.1.length : Int) = 0 then (some 17) else (some 0))) else (some t268))
set_option maxHeartbeats 8000000 in
set_option maxRecDepth 100000 in
theorem size_checkQuotient.callsS (k : Nat) (A0 : Option Addr) (c0 : Nat) (l0 : List Int) (P1_ : Nat → Prop) (A1 : Option Addr) (c1 : Nat) (l1 : List (S53)) (P2_ : Nat → Prop) (A2 : Option Addr) (c2 : Nat) (l2 : List (S53)) (r : Int) (w : World) (hr0 : Kd.C (Kd.int .i64) w A0 l0.length l0) (hc0 : l0.length ≤ c0) (hs1 : Kd.V k53 53 w w.heap.size (fun k_ => P1_ k_) (.slice A1 l1.length c1) l1) (hs2 : Kd.V k53 53 w w.heap.size (fun k_ => P2_ k_) (.slice A2 l2.length c2) l2) (hG : GL w) (h : size_checkQuotient.f k l0 l1 l2 = some r) :
  Calls Tryz.prog 128 #[.slice A0 l0.length c0, .slice A1 l1.length c1, .slice A2 l2.length c2] w fun e w' => e = .returned (.int .i64 r) ∧ Below w.heap.size w w' := by
 have hu191 := Tryz.underlying191
 have hfd191_0 : ∀ (z0_ z1_ z2_ : Value) (W : World), (Instr.field 191 (.agg #[z0_, z1_, z2_]) 0).run Tryz.prog W = .ok z0_ W := fun _ _ _ _ => by rfl
 have HR0 := AS hr0
 have HC0 := AS hc0
 clear hr0 hc0
 have HO1 := AS (show Kd.V k53 53 w w.heap.size (fun k_ => ((P1_ k_ ∨ P2_ k_) ∨ w.heap.size ≤ k_)) (.slice A1 l1.length c1) l1 from Kd.V_mono hs1 (fun k_ hk => .inl (.inl hk)))
 have HO2 := AS (show Kd.V k53 53 w w.heap.size (fun k_ => ((P1_ k_ ∨ P2_ k_) ∨ w.heap.size ≤ k_)) (.slice A2 l2.length c2) l2 from Kd.V_mono hs2 (fun k_ hk => .inl (.inr hk)))
 have HB := AS (Below.refl w.heap.size w)
 have H : ((size_CheckAll.f k l0 (([l1, l2] : List (List (S53))))).bind fun t268 => (if t268 = 0 then ((size_termsOf.f k l0 l2).bind fun bt269 => (if (bt269.1.length : Int) = 0 then (some 17) else (some 0))) else (some t268))) = some r := h
 clear h
 obtain ⟨y265, hy265⟩ : ∃ y_ : List (List (S53)), y_ = (([l1, l2] : List (List (S53)))) := ⟨_, rfl⟩
 replace H : ((size_CheckAll.f k l0 y265).bind fun t268 => (if t268 = 0 then ((size_termsOf.f k l0 l2).bind fun bt269 => (if (bt269.1.length : Int) = 0 then (some 17) else (some 0))) else (some t268))) = some r := by first | (rw [hy265]; with_reducible exact H) | (have H2_ := (Option.bind_some _ _).symm.trans H; rw [hy265]; with_reducible exact H2_) | (have H2_ := (Option.bind_some _ _).symm.trans H; with_reducible exact H2_) | with_reducible exact H | (rw [hy265]; exact H) | exact H
 have Ny265 := AS hy265
 clear hy265
 replace H := Option.bind_eq_some_iff.mp H
 obtain ⟨t268, A40, H⟩ := H
 replace H : (if t268 = 0 then ((size_termsOf.f k l0 l2).bind fun bt269 => (if (bt269.1.length : Int) = 0 then (some 17) else (some 0))) else (some t268)) = some r := H
 have A4 := AS A40
 clear A40
 by_cases c5 : t268 = 0
 ·rw [if_pos c5] at H
  have c5b0 : (t268 == 0) = true := beq_iff_eq.mpr c5
  have c5b1 : (t268 != 0) = false := bne_eq_false_iff_eq.mpr c5
  clear c5
  replace H := Option.bind_eq_some_iff.mp H
  obtain ⟨⟨t269, t272, t275⟩, A60, H⟩ := H
  replace H : (if (t269.length : Int) = 0 then (some 17) else (some 0)) = some r := H
  have A6 := AS A60
  clear A60
  by_cases c7 : (t269.length : Int) = 0
  ·rw [if_pos c7] at H
   have c7b0 : ((t269.length : Int) == 0) = true := beq_iff_eq.mpr c7
   have c7b1 : ((t269.length : Int) != 0) = false := bne_eq_false_iff_eq.mpr c7
   clear c7
   obtain rfl := Option.some.inj H
   go_enter Tryz.func128, Tryz.ntmps128
   go_wp2_with (first | ((with_reducible refine gate_dst (N := 11) rfl ?_); refine Kd.N_lit (Kd.slice 53 k53) _ 134 ?hg (N' := 11) ?hd (xs := ([l1, l2] : List (List (S53)))) (inner := [.slice A1 l1.length c1, .slice A2 l2.length c2]) (ok := (fun k_ => ((P1_ k_ ∨ P2_ k_) ∨ w.heap.size ≤ k_))) (okp := (fun k_ => ((P1_ k_ ∨ P2_ k_) ∨ w.heap.size ≤ k_))) ?hr ?hp (fun _ hk => hk) ((show ∀ k_, w.heap.size ≤ k_ → (fun k_ => ((P1_ k_ ∨ P2_ k_) ∨ w.heap.size ≤ k_)) k_ from fun k_ hk => (.inr (Nat.le_trans (below_size Z0) hk))) _ (Nat.le_refl _)) (Below.refl _ _) (Nat.le_refl _) (by simp) ?_; (case hd => rfl); (case hg => rfl); (case hr => exact Z13); (case hp => exact Z31); intro v266 w8 ho9 hb hg_ hnew_; clear hg_ hnew_; (first | rw [← Ny265.out] at ho9 | (simp only [Int.reduceToNat] at ho9; rw [← Ny265.out] at ho9)); have n0_ := AS (Kd.V_elder' Z11 (Kd.N_base ho9) hb); have n1_ := AS (Kd.V_elder' Z19 (Kd.N_base ho9) hb); have n2_ := AS (Kd.N_lower ho9 (below_size Z0)); have n3_ := AS (below_step Z0 hb); clear HO1; clear HO2; clear HB; have HO1 := n0_; have HO2 := n1_; have HO267 := n2_; have HB := n3_; clear n0_ n1_ n2_ n3_; clear hb ho9; obtain ⟨Ao10, co10, eo10⟩ := Kd.N_slice HO267.out; subst eo10) | ((with_reducible refine gate_callee (f := 148) rfl ?_); refine goesL_ (some 12) rfl rfl Tryz.func148 Z6 rfl #[.slice A0 l0.length c0, .slice Ao10 y265.length co10] rfl Z1 ?_; (with_reducible refine (size_CheckAll.calls k _ _ l0 _ _ y265 t268 _ ?side1 ?side2 ?side3 ?side4 ?side5 A4.out).mono ?_); (case side1 => exact Z4); (case side2 => exact Z58); (case side3 => exact Z111); (case side4 => exact Z173); (case side5 => exact Z183); rintro e w11 ⟨rfl, hb⟩; refine ⟨_, rfl, ?_⟩; have n0_ := AS (Kd.V_below Z11 hb); have n1_ := AS (Kd.V_below Z19 hb); have n2_ := AS (Kd.N_below Z106 hb); have n3_ := AS (below_step Z0 hb); clear HO1; clear HO2; clear HO267; clear HB; have HO1 := n0_; have HO2 := n1_; have HO267 := n2_; have HB := n3_; clear n0_ n1_ n2_ n3_; (try clear hb); (try clear hb2); (try clear hk); (try clear hi)) | ((with_reducible refine gate_callee (f := 149) rfl ?_); refine goesL_ (some 18) rfl rfl Tryz.func149 Z6 rfl #[.slice A0 l0.length c0, .slice A2 l2.length c2] rfl Z1 ?_; (with_reducible refine (size_termsOf.calls k _ _ l0 _ _ l2 t269 t272 t275 _ ?side1 ?side2 ?side3 ?side4 ?side5 A6.out).mono ?_); (case side1 => exact Z4); (case side2 => exact Z58); (case side3 => exact Z114); (case side4 => exact Z176); (case side5 => exact Z183); rintro e w12 ⟨v270, v273, rfl, ho0, ho1, hb⟩; refine ⟨_, rfl, ?_⟩; have n0_ := AS (Kd.V_mono (Kd.V_told (Kd.V_told (Kd.V_old Z11 hb) (Kd.R_base ho0)) (Kd.R_base ho1)) (fun _ h_ => h_.1)); have n1_ := AS (Kd.V_mono (Kd.V_told (Kd.V_told (Kd.V_old Z19 hb) (Kd.R_base ho0)) (Kd.R_base ho1)) (fun _ h_ => h_.1)); have n2_ := AS (Kd.N_mono (Kd.N_told (Kd.N_told (Kd.N_old Z106 hb) (Kd.R_base ho0)) (Kd.R_base ho1)) (fun _ h_ => h_.1)); have n3_ := AS (Kd.R_lower (Kd.R_newM (M := fun k_ => (w.heap.size ≤ k_)) ho0 (below_size Z0) (fun k_ h_ => h_)) (below_size Z0)); have n4_ := AS (Kd.R_lower (Kd.R_newM (M := fun k_ => (w.heap.size ≤ k_)) ho1 (below_size Z0) (fun k_ h_ => h_)) (below_size Z0)); have n5_ := AS (below_step Z0 hb); clear HO1; clear HO2; clear HO267; clear HB; have HO1 := n0_; have HO2 := n1_; have HO267 := n2_; have HO271 := n3_; have HO274 := n4_; have HB := n5_; clear n0_ n1_ n2_ n3_ n4_ n5_; (try clear hb); (try clear hb2); (try clear hk); (try clear hi); (try clear ho0); (try clear ho1); obtain ⟨Ao13, co13, eo13⟩ := Kd.R_slice HO274.out; subst eo13; obtain ⟨Ao14, co14, eo14⟩ := Kd.R_slice HO271.out; subst eo14))
   go_ret
   exact ⟨Z2, Z0⟩
  ·rw [if_neg c7] at H
   have c7b0 : ((t269.length : Int) == 0) = false := beq_eq_false_iff_ne.mpr c7
   have c7b1 : ((t269.length : Int) != 0) = true := bne_iff_ne.mpr c7
   have c7b2 : ¬ (t269 = []) := fun h_ => c7 (by rw [h_]; rfl)
   obtain rfl := Option.some.inj H
   go_enter Tryz.func128, Tryz.ntmps128
   go_wp2_with (first | ((with_reducible refine gate_dst (N := 11) rfl ?_); refine Kd.N_lit (Kd.slice 53 k53) _ 134 ?hg (N' := 11) ?hd (xs := ([l1, l2] : List (List (S53)))) (inner := [.slice A1 l1.length c1, .slice A2 l2.length c2]) (ok := (fun k_ => ((P1_ k_ ∨ P2_ k_) ∨ w.heap.size ≤ k_))) (okp := (fun k_ => ((P1_ k_ ∨ P2_ k_) ∨ w.heap.size ≤ k_))) ?hr ?hp (fun _ hk => hk) ((show ∀ k_, w.heap.size ≤ k_ → (fun k_ => ((P1_ k_ ∨ P2_ k_) ∨ w.heap.size ≤ k_)) k_ from fun k_ hk => (.inr (Nat.le_trans (below_size Z0) hk))) _ (Nat.le_refl _)) (Below.refl _ _) (Nat.le_refl _) (by simp) ?_; (case hd => rfl); (case hg => rfl); (case hr => exact Z13); (case hp => exact Z31); intro v266 w15 ho16 hb hg_ hnew_; clear hg_ hnew_; (first | rw [← Ny265.out] at ho16 | (simp only [Int.reduceToNat] at ho16; rw [← Ny265.out] at ho16)); have n0_ := AS (Kd.V_elder' Z11 (Kd.N_base ho16) hb); have n1_ := AS (Kd.V_elder' Z19 (Kd.N_base ho16) hb); have n2_ := AS (Kd.N_lower ho16 (below_size Z0)); have n3_ := AS (below_step Z0 hb); clear HO1; clear HO2; clear HB; have HO1 := n0_; have HO2 := n1_; have HO267 := n2_; have HB := n3_; clear n0_ n1_ n2_ n3_; clear hb ho16; obtain ⟨Ao17, co17, eo17⟩ := Kd.N_slice HO267.out; subst eo17) | ((with_reducible refine gate_callee (f := 148) rfl ?_); refine goesL_ (some 12) rfl rfl Tryz.func148 Z6 rfl #[.slice A0 l0.length c0, .slice Ao17 y265.length co17] rfl Z1 ?_; (with_reducible refine (size_CheckAll.calls k _ _ l0 _ _ y265 t268 _ ?side1 ?side2 ?side3 ?side4 ?side5 A4.out).mono ?_); (case side1 => exact Z4); (case side2 => exact Z58); (case side3 => exact Z111); (case side4 => exact Z173); (case side5 => exact Z183); rintro e w18 ⟨rfl, hb⟩; refine ⟨_, rfl, ?_⟩; have n0_ := AS (Kd.V_below Z11 hb); have n1_ := AS (Kd.V_below Z19 hb); have n2_ := AS (Kd.N_below Z106 hb); have n3_ := AS (below_step Z0 hb); clear HO1; clear HO2; clear HO267; clear HB; have HO1 := n0_; have HO2 := n1_; have HO267 := n2_; have HB := n3_; clear n0_ n1_ n2_ n3_; (try clear hb); (try clear hb2); (try clear hk); (try clear hi)) | ((with_reducible refine gate_callee (f := 149) rfl ?_); refine goesL_ (some 18) rfl rfl Tryz.func149 Z6 rfl #[.slice A0 l0.length c0, .slice A2 l2.length c2] rfl Z1 ?_; (with_reducible refine (size_termsOf.calls k _ _ l0 _ _ l2 t269 t272 t275 _ ?side1 ?side2 ?side3 ?side4 ?side5 A6.out).mono ?_); (case side1 => exact Z4); (case side2 => exact Z58); (case side3 => exact Z114); (case side4 => exact Z176); (case side5 => exact Z183); rintro e w19 ⟨v270, v273, rfl, ho0, ho1, hb⟩; refine ⟨_, rfl, ?_⟩; have n0_ := AS (Kd.V_mono (Kd.V_told (Kd.V_told (Kd.V_old Z11 hb) (Kd.R_base ho0)) (Kd.R_base ho1)) (fun _ h_ => h_.1)); have n1_ := AS (Kd.V_mono (Kd.V_told (Kd.V_told (Kd.V_old Z19 hb) (Kd.R_base ho0)) (Kd.R_base ho1)) (fun _ h_ => h_.1)); have n2_ := AS (Kd.N_mono (Kd.N_told (Kd.N_told (Kd.N_old Z106 hb) (Kd.R_base ho0)) (Kd.R_base ho1)) (fun _ h_ => h_.1)); have n3_ := AS (Kd.R_lower (Kd.R_newM (M := fun k_ => (w.heap.size ≤ k_)) ho0 (below_size Z0) (fun k_ h_ => h_)) (below_size Z0)); have n4_ := AS (Kd.R_lower (Kd.R_newM (M := fun k_ => (w.heap.size ≤ k_)) ho1 (below_size Z0) (fun k_ h_ => h_)) (below_size Z0)); have n5_ := AS (below_step Z0 hb); clear HO1; clear HO2; clear HO267; clear HB; have HO1 := n0_; have HO2 := n1_; have HO267 := n2_; have HO271 := n3_; have HO274 := n4_; have HB := n5_; clear n0_ n1_ n2_ n3_ n4_ n5_; (try clear hb); (try clear hb2); (try clear hk); (try clear hi); (try clear ho0); (try clear ho1); obtain ⟨Ao20, co20, eo20⟩ := Kd.R_slice HO274.out; subst eo20; obtain ⟨Ao21, co21, eo21⟩ := Kd.R_slice HO271.out; subst eo21))
   go_ret
   exact ⟨Z2, Z0⟩
 ·rw [if_neg c5] at H
  have c5b0 : (t268 == 0) = false := beq_eq_false_iff_ne.mpr c5
  have c5b1 : (t268 != 0) = true := bne_iff_ne.mpr c5
  obtain rfl := Option.some.inj H
  go_enter Tryz.func128, Tryz.ntmps128
  go_wp2_with (first | ((with_reducible refine gate_dst (N := 11) rfl ?_); refine Kd.N_lit (Kd.slice 53 k53) _ 134 ?hg (N' := 11) ?hd (xs := ([l1, l2] : List (List (S53)))) (inner := [.slice A1 l1.length c1, .slice A2 l2.length c2]) (ok := (fun k_ => ((P1_ k_ ∨ P2_ k_) ∨ w.heap.size ≤ k_))) (okp := (fun k_ => ((P1_ k_ ∨ P2_ k_) ∨ w.heap.size ≤ k_))) ?hr ?hp (fun _ hk => hk) ((show ∀ k_, w.heap.size ≤ k_ → (fun k_ => ((P1_ k_ ∨ P2_ k_) ∨ w.heap.size ≤ k_)) k_ from fun k_ hk => (.inr (Nat.le_trans (below_size Z0) hk))) _ (Nat.le_refl _)) (Below.refl _ _) (Nat.le_refl _) (by simp) ?_; (case hd => rfl); (case hg => rfl); (case hr => exact Z13); (case hp => exact Z31); intro v266 w22 ho23 hb hg_ hnew_; clear hg_ hnew_; (first | rw [← Ny265.out] at ho23 | (simp only [Int.reduceToNat] at ho23; rw [← Ny265.out] at ho23)); have n0_ := AS (Kd.V_elder' Z11 (Kd.N_base ho23) hb); have n1_ := AS (Kd.V_elder' Z19 (Kd.N_base ho23) hb); have n2_ := AS (Kd.N_lower ho23 (below_size Z0)); have n3_ := AS (below_step Z0 hb); clear HO1; clear HO2; clear HB; have HO1 := n0_; have HO2 := n1_; have HO267 := n2_; have HB := n3_; clear n0_ n1_ n2_ n3_; clear hb ho23; obtain ⟨Ao24, co24, eo24⟩ := Kd.N_slice HO267.out; subst eo24) | ((with_reducible refine gate_callee (f := 148) rfl ?_); refine goesL_ (some 12) rfl rfl Tryz.func148 Z6 rfl #[.slice A0 l0.length c0, .slice Ao24 y265.length co24] rfl Z1 ?_; (with_reducible refine (size_CheckAll.calls k _ _ l0 _ _ y265 t268 _ ?side1 ?side2 ?side3 ?side4 ?side5 A4.out).mono ?_); (case side1 => exact Z4); (case side2 => exact Z58); (case side3 => exact Z111); (case side4 => exact Z173); (case side5 => exact Z183); rintro e w25 ⟨rfl, hb⟩; refine ⟨_, rfl, ?_⟩; have n0_ := AS (Kd.V_below Z11 hb); have n1_ := AS (Kd.V_below Z19 hb); have n2_ := AS (Kd.N_below Z106 hb); have n3_ := AS (below_step Z0 hb); clear HO1; clear HO2; clear HO267; clear HB; have HO1 := n0_; have HO2 := n1_; have HO267 := n2_; have HB := n3_; clear n0_ n1_ n2_ n3_; (try clear hb); (try clear hb2); (try clear hk); (try clear hi)))
  go_ret
  exact ⟨Z2, Z0⟩
theorem size_checkQuotient.calls (k : Nat) (A0 : Option Addr) (c0 : Nat) (l0 : List Int) (A1 : Option Addr) (c1 : Nat) (l1 : List (S53)) (A2 : Option Addr) (c2 : Nat) (l2 : List (S53)) (r : Int) (w : World) (hr0 : Kd.C (Kd.int .i64) w A0 l0.length l0) (hc0 : l0.length ≤ c0) (hr1 : Kd.C k53 w A1 l1.length l1) (hc1 : l1.length ≤ c1) (hr2 : Kd.C k53 w A2 l2.length l2) (hc2 : l2.length ≤ c2) (hG : GL w) (h : size_checkQuotient.f k l0 l1 l2 = some r) :
  Calls Tryz.prog 128 #[.slice A0 l0.length c0, .slice A1 l1.length c1, .slice A2 l2.length c2] w fun e w' => e = .returned (.int .i64 r) ∧ Below w.heap.size w w' :=
 size_checkQuotient.callsS k _ _ l0 (fun k_ => k_ < w.heap.size) _ _ l1 (fun k_ => k_ < w.heap.size) _ _ l2 r w hr0 hc0 (Kd.V_mk hc1 (Kd.F_below (Kd.C_F k53_heap hr1) (Below.refl w.heap.size w))) (Kd.V_mk hc2 (Kd.F_below (Kd.C_F k53_heap hr2) (Below.refl w.heap.size w))) hG h
def whole_Neg.f (a0 : ByteArray) : Option (ByteArray) := (whole_split.f a0).bind fun bt276 => ((whole_join.f (!bt276.1) bt276.2).bind fun t278 => (some t278))
set_option maxHeartbeats 8000000 in
set_option maxRecDepth 100000 in
theorem whole_Neg.calls (a0 : ByteArray) (r : ByteArray) (w : World) (hG : GL w) (h : whole_Neg.f a0 = some r) :
  Calls Tryz.prog 117 #[.string a0] w fun e w' => e = .returned (.string r) ∧ Drawn0 w w' := by
 have HB := AS (Below.refl w.heap.size w)
 have H : ((whole_split.f a0).bind fun bt276 => ((whole_join.f (!bt276.1) bt276.2).bind fun t278 => (some t278))) = some r := h
 clear h
 replace H := Option.bind_eq_some_iff.mp H
 obtain ⟨⟨t276, t277⟩, A20, H⟩ := H
 replace H : ((whole_join.f (!t276) t277).bind fun t278 => (some t278)) = some r := H
 have A2 := AS A20
 clear A20
 replace H := Option.bind_eq_some_iff.mp H
 obtain ⟨t278, A30, H⟩ := H
 replace H : (some t278) = some r := H
 have A3 := AS A30
 clear A30
 obtain rfl := Option.some.inj H
 go_enter Tryz.func117, Tryz.ntmps117
 go_wp2_with (first | ((with_reducible refine gate_callee (f := 98) rfl ?_); refine goesL_ (some 7) rfl rfl Tryz.func98 Z6 rfl #[.string a0] rfl Z1 ?_; (with_reducible refine (whole_split.calls a0 t276 t277 _ ?side1 A2.out).mono ?_); (case side1 => exact Z183); rintro e w' ⟨rfl, ⟨nd, rfl⟩⟩; refine ⟨_, rfl, ?_⟩) | ((with_reducible refine gate_callee (f := 140) rfl ?_); refine goesL_ (some 13) rfl rfl Tryz.func140 Z6 rfl #[.bool (!t276), .string t277] rfl Z1 ?_; (with_reducible refine (whole_join.calls (!t276) t277 t278 _ ?side1 A3.out).mono ?_); (case side1 => exact Z183); rintro e w' ⟨rfl, ⟨nd, rfl⟩⟩; refine ⟨_, rfl, ?_⟩))
 go_ret
 exact ⟨Z5, Z15⟩
def fraction_Sign.f (a0_0 : ByteArray) (a0_1 : ByteArray) : Option (Int) := (whole_Sign.f a0_0).bind fun t280 => (some t280)
set_option maxHeartbeats 8000000 in
set_option maxRecDepth 100000 in
theorem fraction_Sign.calls (a0_0 : ByteArray) (a0_1 : ByteArray) (r : Int) (w : World) (hG : GL w) (h : fraction_Sign.f a0_0 a0_1 = some r) :
  Calls Tryz.prog 68 #[.agg #[.string a0_0, .string a0_1]] w fun e w' => e = .returned (.int .i64 r) ∧ Below w.heap.size w w' := by
 have hu53 := Tryz.underlying53
 have HB := AS (Below.refl w.heap.size w)
 have H : ((whole_Sign.f a0_0).bind fun t280 => (some t280)) = some r := h
 clear h
 replace H := Option.bind_eq_some_iff.mp H
 obtain ⟨t280, A20, H⟩ := H
 replace H : (some t280) = some r := H
 have A2 := AS A20
 clear A20
 obtain rfl := Option.some.inj H
 go_enter Tryz.func68, Tryz.ntmps68
 go_wp2_with (first | ((with_reducible refine gate_dst (N := 1) rfl ?_); refine box_event ?hg (N := 1) ?hd (cs := #[.string a0_0, .string a0_1]) (t := 53) ?hr ?_; (case hd => rfl); (case hg => rfl); (case hr => exact Z13); intro gb279 hg w3 hbox hb; have n0_ := AS (below_step Z0 hb); have n1_ := AS (hbox); have n2_ := AS ((Z184 : w.heap.size ≤ gb279)); have n3_ := AS ((Z184 : w.heap.size ≤ gb279)); clear HB; have HB := n0_; have BK279 := n1_; have GW279 := n2_; have GE279 := n3_; clear n0_ n1_ n2_ n3_; clear hb hbox hg; have hcz4_0 : w3.cell? ⟨gb279, 0, none⟩ = some (.string a0_0) := (blk_cell BK279.out 0).trans rfl; have hcz4_1 : w3.cell? ⟨gb279, 1, none⟩ = some (.string a0_1) := (blk_cell BK279.out 1).trans rfl; have hfz4_0 := blk_frozen BK279.out 0; have hfz4_1 := blk_frozen BK279.out 1) | ((with_reducible refine gate_callee (f := 88) rfl ?_); refine goesL_ (some 5) rfl rfl Tryz.func88 Z6 rfl #[.string a0_0] rfl Z1 ?_; (with_reducible refine (whole_Sign.calls a0_0 t280 _ ?side1 A2.out).mono ?_); (case side1 => exact GL.below hG Z137); rintro e w' ⟨rfl, ⟨nd, rfl⟩⟩; refine ⟨_, rfl, ?_⟩))
 go_ret
 exact ⟨Z2, Z137⟩
def fraction_lowest.j0 : Nat → ByteArray → ByteArray → Option (ByteArray × ByteArray)
 | 0, _, _ => none
 | k + 1, x0, x1 => (whole_Gcd.f k x0 x1).bind fun t285 => (if t285.toList = ([49] : List UInt8) then (some (x0, x1)) else ((whole_DivMod.f k x0 t285).bind fun bt286 => ((whole_DivMod.f k x1 t285).bind fun bt289 => (some (bt286.1, bt289.1)))))
def fraction_lowest.f (k : Nat) (a0 : ByteArray) (a1 : ByteArray) : Option (ByteArray × ByteArray) := (whole_Sign.f a1).bind fun t282 => (if t282 < 0 then ((whole_Neg.f a0).bind fun t283 => ((whole_Neg.f a1).bind fun t284 => (fraction_lowest.j0 k t283 t284))) else (fraction_lowest.j0 k a0 a1))
set_option maxHeartbeats 8000000 in
set_option maxRecDepth 100000 in
theorem fraction_lowest.calls (k : Nat) (a0 : ByteArray) (a1 : ByteArray) (r1 : ByteArray) (r2 : ByteArray) (w : World) (hG : GL w) (h : fraction_lowest.f k a0 a1 = some (r1, r2)) :
  Calls Tryz.prog 89 #[.string a0, .string a1] w fun e w' => e = .returned (.agg #[.string r1, .string r2]) ∧ Below w.heap.size w w' := by
 have hu53 := Tryz.underlying53
 have HB := AS (Below.refl w.heap.size w)
 have H : ((whole_Sign.f a1).bind fun t282 => (if t282 < 0 then ((whole_Neg.f a0).bind fun t283 => ((whole_Neg.f a1).bind fun t284 => (fraction_lowest.j0 k t283 t284))) else (fraction_lowest.j0 k a0 a1))) = some (r1, r2) := h
 clear h
 replace H := Option.bind_eq_some_iff.mp H
 obtain ⟨t282, A30, H⟩ := H
 replace H : (if t282 < 0 then ((whole_Neg.f a0).bind fun t283 => ((whole_Neg.f a1).bind fun t284 => (fraction_lowest.j0 k t283 t284))) else (fraction_lowest.j0 k a0 a1)) = some (r1, r2) := H
 have A3 := AS A30
 clear A30
 have HC4 := AS H
 clear H
 go_enter Tryz.func89, Tryz.ntmps89
 go_upto_if 8 with (first | ((with_reducible refine gate_dst (N := 4) rfl ?_); refine box_event ?hg (N := 4) ?hd (cs := #[.string (⟨#[]⟩ : ByteArray), .string (⟨#[]⟩ : ByteArray)]) (t := 53) ?hr ?_; (case hd => rfl); (case hg => rfl); (case hr => exact Z13); intro gb281 hg w5 hbox hb; have n0_ := AS (below_step Z0 hb); have n1_ := AS (hbox); have n2_ := AS ((Z184 : w.heap.size ≤ gb281)); have n3_ := AS ((Z184 : w.heap.size ≤ gb281)); clear HB; have HB := n0_; have BK281 := n1_; have GW281 := n2_; have GE281 := n3_; clear n0_ n1_ n2_ n3_; clear hb hbox hg) | ((with_reducible refine gate_callee (f := 88) rfl ?_); refine goesL_ (some 7) rfl rfl Tryz.func88 Z6 rfl #[.string a1] rfl Z1 ?_; (with_reducible refine (whole_Sign.calls a1 t282 _ ?side1 A3.out).mono ?_); (case side1 => exact Z218); rintro e w' ⟨rfl, ⟨nd, rfl⟩⟩; refine ⟨_, rfl, ?_⟩))
 (try simp only [Act.put, List.setIfInBounds_toArray, List.set_cons_zero, List.set_cons_succ])
 go_cut [0, 1] (fun v0 v1 wc => ∃ (kq : Nat) (x0_3 : ByteArray) (x1_3 : ByteArray), v0 = .string x0_3 ∧ v1 = .string x1_3 ∧ Aside0 (fraction_lowest.j0 kq x0_3 x1_3 = some (r1, r2)) ∧ Aside0 (kq ≤ k) ∧ Aside0 (wc.heap[gb281]? = some (.cells #[.string (⟨#[]⟩ : ByteArray), .string (⟨#[]⟩ : ByteArray)] 53 (0, 0))) ∧ Aside0 (Below w.heap.size w wc))
 case first =>
  have H := HC4.out
  clear HC4
  by_cases c6 : t282 < 0
  ·rw [if_pos c6] at H
   have c6b0 : decide (t282 < 0) = true := decide_eq_true c6
   clear c6
   (first | rw [c6b0] | (simp only [i64_w, i32_w]; rw [c6b0]) | skip)
   replace H := Option.bind_eq_some_iff.mp H
   obtain ⟨t283, A70, H⟩ := H
   replace H : ((whole_Neg.f a1).bind fun t284 => (fraction_lowest.j0 k t283 t284)) = some (r1, r2) := H
   have A7 := AS A70
   clear A70
   replace H := Option.bind_eq_some_iff.mp H
   obtain ⟨t284, A80, H⟩ := H
   replace H : (fraction_lowest.j0 k t283 t284) = some (r1, r2) := H
   have A8 := AS A80
   clear A80
   have H' := AS H
   clear H
   go_wp2_with (first | ((with_reducible refine gate_callee (f := 117) rfl ?_); refine goesL_ (some 10) rfl rfl Tryz.func117 Z6 rfl #[.string a0] rfl Z1 ?_; (with_reducible refine (whole_Neg.calls a0 t283 _ ?side1 A7.out).mono ?_); (case side1 => exact Z218); rintro e w' ⟨rfl, ⟨nd, rfl⟩⟩; refine ⟨_, rfl, ?_⟩) | ((with_reducible refine gate_callee (f := 117) rfl ?_); refine goesL_ (some 12) rfl rfl Tryz.func117 Z6 rfl #[.string a1] rfl Z1 ?_; (with_reducible refine (whole_Neg.calls a1 t284 _ ?side1 A8.out).mono ?_); (case side1 => exact Z218); rintro e w' ⟨rfl, ⟨nd, rfl⟩⟩; refine ⟨_, rfl, ?_⟩))
   go_meet
   case rel => exact ⟨_, (t283), (t284), Z5, Z5, H', ⟨Z76⟩, ⟨Z93⟩, ⟨Z21⟩⟩
  ·rw [if_neg c6] at H
   have c6b0 : decide (t282 < 0) = false := decide_eq_false c6
   clear c6
   (first | rw [c6b0] | (simp only [i64_w, i32_w]; rw [c6b0]) | skip)
   have H' := AS H
   clear H
   go_wp2
   go_meet
   case rel => exact ⟨_, (a0), (a1), Z5, Z5, H', ⟨Z76⟩, ⟨Z93⟩, ⟨Z21⟩⟩
 case rest =>
  clear HC4
  try clear c1
  try clear p2
  try clear c6
  try clear c6b0
  try clear c8
  obtain ⟨kq, x0_3, x1_3, rfl, rfl, HA, HJ3, BK281, HB⟩ := hcut
  cases kq with
  | zero => exact absurd HA.out (by simp [fraction_lowest.j0])
  | succ kj3 =>
   have H := HA.out
   clear HA
   simp only [fraction_lowest.j0] at H
   replace H := Option.bind_eq_some_iff.mp H
   obtain ⟨t285, A90, H⟩ := H
   replace H : (if t285.toList = ([49] : List UInt8) then (some (x0_3, x1_3)) else ((whole_DivMod.f kj3 x0_3 t285).bind fun bt286 => ((whole_DivMod.f kj3 x1_3 t285).bind fun bt289 => (some (bt286.1, bt289.1))))) = some (r1, r2) := H
   have A9 := AS A90
   clear A90
   by_cases c10 : t285.toList = ([49] : List UInt8)
   ·rw [if_pos c10] at H
    have c10b0 : (t285.toList == ([49] : List UInt8)) = true := beq_iff_eq.mpr c10
    have c10b1 : (t285.toList != ([49] : List UInt8)) = false := bne_eq_false_iff_eq.mpr c10
    clear c10
    simp only [Option.some.injEq, Prod.mk.injEq] at H
    obtain ⟨rfl, rfl⟩ := H
    go_wp2_with (first | ((with_reducible refine gate_callee (f := 97) rfl ?_); refine goesL_ (some 15) rfl rfl Tryz.func97 Z6 rfl #[.string x0_3, .string x1_3] rfl Z1 ?_; (with_reducible refine (whole_Gcd.calls kj3 x0_3 x1_3 t285 _ ?side1 A9.out).mono ?_); (case side1 => exact Z218); rintro e w11 ⟨rfl, hb⟩; refine ⟨_, rfl, ?_⟩; have n0_ := AS (blk_below (g := gb281) (o := .cells #[.string (⟨#[]⟩ : ByteArray), .string (⟨#[]⟩ : ByteArray)] 53 (0, 0)) Z93 hb); have n1_ := AS (below_step Z21 hb); clear BK281; clear HB; have BK281 := n0_; have HB := n1_; clear n0_ n1_; (try clear hb); (try clear hb2); (try clear hk); (try clear hi); have hcz12_0 : w11.cell? ⟨gb281, 0, none⟩ = some (.string (⟨#[]⟩ : ByteArray)) := (blk_cell BK281.out 0).trans rfl; have hcz12_1 : w11.cell? ⟨gb281, 1, none⟩ = some (.string (⟨#[]⟩ : ByteArray)) := (blk_cell BK281.out 1).trans rfl; have hfz12_0 := blk_frozen BK281.out 0; have hfz12_1 := blk_frozen BK281.out 1))
    refine bodyPost_ret (results_cell_row rfl _ _ gb281 53 #[.string x0_3, .string x1_3] (0, 0) _ rfl (by (with_reducible repeat (first | refine blk_drewN ?_ _ | refine blk_drew ?_ | refine blk_alloc ?_ _)); refine blk_put (cs := #[.string x0_3, .string (⟨#[]⟩ : ByteArray)]) ?_ 1 _ rfl; (with_reducible repeat (first | refine blk_drewN ?_ _ | refine blk_drew ?_ | refine blk_alloc ?_ _)); refine blk_put (cs := #[.string (⟨#[]⟩ : ByteArray), .string (⟨#[]⟩ : ByteArray)]) ?_ 0 _ rfl; (with_reducible repeat (first | refine blk_drewN ?_ _ | refine blk_drew ?_ | refine blk_alloc ?_ _)); exact BK281.out) Tryz.underlying53 rfl Z6) rfl ?_
    exact ⟨Z2, Z21⟩
   ·rw [if_neg c10] at H
    have c10b0 : (t285.toList == ([49] : List UInt8)) = false := beq_eq_false_iff_ne.mpr c10
    have c10b1 : (t285.toList != ([49] : List UInt8)) = true := bne_iff_ne.mpr c10
    replace H := Option.bind_eq_some_iff.mp H
    obtain ⟨⟨t286, t287, t288⟩, A130, H⟩ := H
    replace H : ((whole_DivMod.f kj3 x1_3 t285).bind fun bt289 => (some (t286, bt289.1))) = some (r1, r2) := H
    have A13 := AS A130
    clear A130
    replace H := Option.bind_eq_some_iff.mp H
    obtain ⟨⟨t289, t290, t291⟩, A140, H⟩ := H
    replace H : (some (t286, t289)) = some (r1, r2) := H
    have A14 := AS A140
    clear A140
    simp only [Option.some.injEq, Prod.mk.injEq] at H
    obtain ⟨rfl, rfl⟩ := H
    go_wp2_with (first | ((with_reducible refine gate_callee (f := 97) rfl ?_); refine goesL_ (some 15) rfl rfl Tryz.func97 Z6 rfl #[.string x0_3, .string x1_3] rfl Z1 ?_; (with_reducible refine (whole_Gcd.calls kj3 x0_3 x1_3 t285 _ ?side1 A9.out).mono ?_); (case side1 => exact Z218); rintro e w15 ⟨rfl, hb⟩; refine ⟨_, rfl, ?_⟩; have n0_ := AS (blk_below (g := gb281) (o := .cells #[.string (⟨#[]⟩ : ByteArray), .string (⟨#[]⟩ : ByteArray)] 53 (0, 0)) Z93 hb); have n1_ := AS (below_step Z21 hb); clear BK281; clear HB; have BK281 := n0_; have HB := n1_; clear n0_ n1_; (try clear hb); (try clear hb2); (try clear hk); (try clear hi)) | ((with_reducible refine gate_callee (f := 118) rfl ?_); refine goesL_ (some 21) rfl rfl Tryz.func118 Z6 rfl #[.string x0_3, .string t285] rfl Z1 ?_; (with_reducible refine (whole_DivMod.calls kj3 x0_3 t285 t286 t287 t288 _ ?side1 A13.out).mono ?_); (case side1 => exact Z218); rintro e w16 ⟨rfl, hb⟩; refine ⟨_, rfl, ?_⟩; have n0_ := AS (blk_below (g := gb281) (o := .cells #[.string (⟨#[]⟩ : ByteArray), .string (⟨#[]⟩ : ByteArray)] 53 (0, 0)) Z93 hb); have n1_ := AS (below_step Z21 hb); clear BK281; clear HB; have BK281 := n0_; have HB := n1_; clear n0_ n1_; (try clear hb); (try clear hb2); (try clear hk); (try clear hi)) | ((with_reducible refine gate_callee (f := 118) rfl ?_); refine goesL_ (some 28) rfl rfl Tryz.func118 Z6 rfl #[.string x1_3, .string t285] rfl Z1 ?_; (with_reducible refine (whole_DivMod.calls kj3 x1_3 t285 t289 t290 t291 _ ?side1 A14.out).mono ?_); (case side1 => exact Z218); rintro e w17 ⟨rfl, hb⟩; refine ⟨_, rfl, ?_⟩; have n0_ := AS (blk_below (g := gb281) (o := .cells #[.string (⟨#[]⟩ : ByteArray), .string (⟨#[]⟩ : ByteArray)] 53 (0, 0)) Z93 hb); have n1_ := AS (below_step Z21 hb); clear BK281; clear HB; have BK281 := n0_; have HB := n1_; clear n0_ n1_; (try clear hb); (try clear hb2); (try clear hk); (try clear hi); have hcz18_0 : w17.cell? ⟨gb281, 0, none⟩ = some (.string (⟨#[]⟩ : ByteArray)) := (blk_cell BK281.out 0).trans rfl; have hcz18_1 : w17.cell? ⟨gb281, 1, none⟩ = some (.string (⟨#[]⟩ : ByteArray)) := (blk_cell BK281.out 1).trans rfl; have hfz18_0 := blk_frozen BK281.out 0; have hfz18_1 := blk_frozen BK281.out 1))
    refine bodyPost_ret (results_cell_row rfl _ _ gb281 53 #[.string t286, .string t289] (0, 0) _ rfl (by (with_reducible repeat (first | refine blk_drewN ?_ _ | refine blk_drew ?_ | refine blk_alloc ?_ _)); refine blk_put (cs := #[.string t286, .string (⟨#[]⟩ : ByteArray)]) ?_ 1 _ rfl; (with_reducible repeat (first | refine blk_drewN ?_ _ | refine blk_drew ?_ | refine blk_alloc ?_ _)); refine blk_put (cs := #[.string (⟨#[]⟩ : ByteArray), .string (⟨#[]⟩ : ByteArray)]) ?_ 0 _ rfl; (with_reducible repeat (first | refine blk_drewN ?_ _ | refine blk_drew ?_ | refine blk_alloc ?_ _)); exact BK281.out) Tryz.underlying53 rfl Z6) rfl ?_
    exact ⟨Z2, Z21⟩
def fraction_Div.f (k : Nat) (a0_0 : ByteArray) (a0_1 : ByteArray) (a1_0 : ByteArray) (a1_1 : ByteArray) : Option (ByteArray × ByteArray × Int) := (fraction_Sign.f a1_0 a1_1).bind fun t295 => (if t295 = 0 then (some ((⟨#[]⟩ : ByteArray), (⟨#[]⟩ : ByteArray), 17)) else ((whole_Mul.f k a0_0 a1_1).bind fun t296 => ((whole_Mul.f k a0_1 a1_0).bind fun t297 => ((fraction_lowest.f k t296 t297).bind fun bt298 => (some (bt298.1, bt298.2, 0))))))
def fraction_Div.T3 : Bool × List (List Nat × List Nat) := (true, [([], []), ([0], [0]), ([], []), ([2], [2]), ([1, 3], [1, 3]), ([], []), ([5], [5]), ([], []), ([7], [7]), ([6, 8, 4], [6, 8]), ([4, 9, 9], [4, 9]), ([10, 10, 0, 1, 2, 3, 4, 5, 6, 7, 8, 9, 10], [10]), ([11, 0, 1, 2, 3, 4, 5, 6, 7, 8, 9, 10, 11], [])])
def fraction_Div.B3 : List Nat := [0, 1, 0, 4, 15, 0, 32, 0, 128, 511, 1023, 2047, 4095]
theorem fraction_Div.tab3 : rtab .any (opsOf Tryz.f183 3) = fraction_Div.T3 := by kernel_rfl
theorem fraction_Div.bits3 : waitsOk fraction_Div.T3.2 fraction_Div.B3 = true := by kernel_rfl
set_option maxHeartbeats 8000000 in
set_option maxRecDepth 100000 in
theorem fraction_Div.calls (k : Nat) (a0_0 : ByteArray) (a0_1 : ByteArray) (a1_0 : ByteArray) (a1_1 : ByteArray) (r1 : ByteArray) (r2 : ByteArray) (r3 : Int) (w : World) (hG : GL w) (h : fraction_Div.f k a0_0 a0_1 a1_0 a1_1 = some (r1, r2, r3)) :
  Calls Tryz.prog 183 #[.agg #[.string a0_0, .string a0_1], .agg #[.string a1_0, .string a1_1]] w fun e w' => e = .returned (.tuple #[.agg #[.string r1, .string r2], .int .i64 r3]) ∧ Below w.heap.size w w' := by
 have hu53 := Tryz.underlying53
 have HB := AS (Below.refl w.heap.size w)
 have H : ((fraction_Sign.f a1_0 a1_1).bind fun t295 => (if t295 = 0 then (some ((⟨#[]⟩ : ByteArray), (⟨#[]⟩ : ByteArray), 17)) else ((whole_Mul.f k a0_0 a1_1).bind fun t296 => ((whole_Mul.f k a0_1 a1_0).bind fun t297 => ((fraction_lowest.f k t296 t297).bind fun bt298 => (some (bt298.1, bt298.2, 0))))))) = some (r1, r2, r3) := h
 clear h
 replace H := Option.bind_eq_some_iff.mp H
 obtain ⟨t295, A30, H⟩ := H
 replace H : (if t295 = 0 then (some ((⟨#[]⟩ : ByteArray), (⟨#[]⟩ : ByteArray), 17)) else ((whole_Mul.f k a0_0 a1_1).bind fun t296 => ((whole_Mul.f k a0_1 a1_0).bind fun t297 => ((fraction_lowest.f k t296 t297).bind fun bt298 => (some (bt298.1, bt298.2, 0)))))) = some (r1, r2, r3) := H
 have A3 := AS A30
 clear A30
 by_cases c4 : t295 = 0
 ·rw [if_pos c4] at H
  have c4b0 : (t295 == 0) = true := beq_iff_eq.mpr c4
  have c4b1 : (t295 != 0) = false := bne_eq_false_iff_eq.mpr c4
  clear c4
  simp only [Option.some.injEq, Prod.mk.injEq] at H
  obtain ⟨rfl, rfl, rfl⟩ := H
  go_enter Tryz.func183, Tryz.ntmps183
  go_wp2_with (first | ((with_reducible refine gate_dst (N := 2) rfl ?_); refine box_event ?hg (N := 2) ?hd (cs := #[.string a0_0, .string a0_1]) (t := 53) ?hr ?_; (case hd => rfl); (case hg => rfl); (case hr => exact Z13); intro gb292 hg w5 hbox hb; have n0_ := AS (below_step Z0 hb); have n1_ := AS (hbox); have n2_ := AS ((Z184 : w.heap.size ≤ gb292)); have n3_ := AS ((Z184 : w.heap.size ≤ gb292)); clear HB; have HB := n0_; have BK292 := n1_; have GW292 := n2_; have GE292 := n3_; clear n0_ n1_ n2_ n3_; clear hb hbox hg) | ((with_reducible refine gate_dst (N := 3) rfl ?_); refine box_event ?hg (N := 3) ?hd (cs := #[.string a1_0, .string a1_1]) (t := 53) ?hr ?_; (case hd => rfl); (case hg => rfl); (case hr => exact Z13); intro gb293 hg w6 hbox hb; have n0_ := AS (blk_below (g := gb292) (o := .cells #[.string a0_0, .string a0_1] 53 (0, 0)) Z28 hb); have n1_ := AS (below_step Z68 hb); have n2_ := AS (hbox); have n3_ := AS ((Z219 : w.heap.size ≤ gb293)); have n4_ := AS ((Z219 : w.heap.size ≤ gb293)); have n5_ := AS ((Z194 : gb292 ≠ gb293)); have n6_ := AS ((Z195 : gb293 ≠ gb292)); clear BK292; clear HB; have BK292 := n0_; have HB := n1_; have BK293 := n2_; have GW293 := n3_; have GE293 := n4_; have NB292_293 := n5_; have NB293_292 := n6_; clear n0_ n1_ n2_ n3_ n4_ n5_ n6_; clear hb hbox hg) | ((with_reducible refine gate_dst (N := 4) rfl ?_); refine box_event ?hg (N := 4) ?hd (cs := #[.string (⟨#[]⟩ : ByteArray), .string (⟨#[]⟩ : ByteArray)]) (t := 53) ?hr ?_; (case hd => rfl); (case hg => rfl); (case hr => exact Z13); intro gb294 hg w7 hbox hb; have n0_ := AS (blk_below (g := gb292) (o := .cells #[.string a0_0, .string a0_1] 53 (0, 0)) Z28 hb); have n1_ := AS (blk_below (g := gb293) (o := .cells #[.string a1_0, .string a1_1] 53 (0, 0)) Z57 hb); have n2_ := AS (below_step Z60 hb); have n3_ := AS (hbox); have n4_ := AS ((Z220 : w.heap.size ≤ gb294)); have n5_ := AS ((Z220 : w.heap.size ≤ gb294)); have n6_ := AS ((Z194 : gb292 ≠ gb294)); have n7_ := AS ((Z195 : gb294 ≠ gb292)); have n8_ := AS ((Z211 : gb293 ≠ gb294)); have n9_ := AS ((Z212 : gb294 ≠ gb293)); clear BK292; clear BK293; clear HB; have BK292 := n0_; have BK293 := n1_; have HB := n2_; have BK294 := n3_; have GW294 := n4_; have GE294 := n5_; have NB292_294 := n6_; have NB294_292 := n7_; have NB293_294 := n8_; have NB294_293 := n9_; clear n0_ n1_ n2_ n3_ n4_ n5_ n6_ n7_ n8_ n9_; clear hb hbox hg; have hnb8 := NB293_292.out; have hnc8 := NB292_293.out; have hnb9 := NB293_294.out; have hnc9 := NB294_293.out; have hcz10_0 : w7.cell? ⟨gb293, 0, none⟩ = some (.string a1_0) := (blk_cell BK293.out 0).trans rfl; have hcz10_1 : w7.cell? ⟨gb293, 1, none⟩ = some (.string a1_1) := (blk_cell BK293.out 1).trans rfl; have hfz10_0 := blk_frozen BK293.out 0; have hfz10_1 := blk_frozen BK293.out 1) | ((with_reducible refine gate_callee (f := 68) rfl ?_); refine goesL_ (some 7) rfl rfl Tryz.func68 Z6 rfl #[.agg #[.string a1_0, .string a1_1]] rfl Z1 ?_; (with_reducible refine (fraction_Sign.calls a1_0 a1_1 t295 _ ?side1 A3.out).mono ?_); (case side1 => exact Z224); rintro e w11 ⟨rfl, hb⟩; refine ⟨_, rfl, ?_⟩; have n0_ := AS (blk_below (g := gb292) (o := .cells #[.string a0_0, .string a0_1] 53 (0, 0)) Z28 hb); have n1_ := AS (blk_below (g := gb293) (o := .cells #[.string a1_0, .string a1_1] 53 (0, 0)) Z57 hb); have n2_ := AS (blk_below (g := gb294) (o := .cells #[.string (⟨#[]⟩ : ByteArray), .string (⟨#[]⟩ : ByteArray)] 53 (0, 0)) Z102 hb); have n3_ := AS (below_step Z18 hb); clear BK292; clear BK293; clear BK294; clear HB; have BK292 := n0_; have BK293 := n1_; have BK294 := n2_; have HB := n3_; clear n0_ n1_ n2_ n3_; (try clear hb); (try clear hb2); (try clear hk); (try clear hi); have hnb12 := NB294_292.out; have hnc12 := NB292_294.out; have hcz13_0 : w11.cell? ⟨gb294, 0, none⟩ = some (.string (⟨#[]⟩ : ByteArray)) := (blk_cell BK294.out 0).trans rfl; have hcz13_1 : w11.cell? ⟨gb294, 1, none⟩ = some (.string (⟨#[]⟩ : ByteArray)) := (blk_cell BK294.out 1).trans rfl; have hfz13_0 := blk_frozen BK294.out 0; have hfz13_1 := blk_frozen BK294.out 1))
  refine bodyPost_ret (results_ct rfl _ _ gb294 53 #[.string (⟨#[]⟩ : ByteArray), .string (⟨#[]⟩ : ByteArray)] (0, 0) _ rfl (by (with_reducible repeat (first | refine blk_drewN ?_ _ | refine blk_drew ?_ | refine blk_alloc ?_ _)); refine blk_put (cs := #[.string (⟨#[]⟩ : ByteArray), .string (⟨#[]⟩ : ByteArray)]) ?_ 1 _ rfl; (with_reducible repeat (first | refine blk_drewN ?_ _ | refine blk_drew ?_ | refine blk_alloc ?_ _)); refine blk_put (cs := #[.string (⟨#[]⟩ : ByteArray), .string (⟨#[]⟩ : ByteArray)]) ?_ 0 _ rfl; (with_reducible repeat (first | refine blk_drewN ?_ _ | refine blk_drew ?_ | refine blk_alloc ?_ _)); exact BK294.out) Tryz.underlying53 rfl Z6) rfl ?_
  exact ⟨Z2, Z18⟩
 ·rw [if_neg c4] at H
  have c4b0 : (t295 == 0) = false := beq_eq_false_iff_ne.mpr c4
  have c4b1 : (t295 != 0) = true := bne_iff_ne.mpr c4
  replace H := Option.bind_eq_some_iff.mp H
  obtain ⟨t296, A140, H⟩ := H
  replace H : ((whole_Mul.f k a0_1 a1_0).bind fun t297 => ((fraction_lowest.f k t296 t297).bind fun bt298 => (some (bt298.1, bt298.2, 0)))) = some (r1, r2, r3) := H
  have A14 := AS A140
  clear A140
  replace H := Option.bind_eq_some_iff.mp H
  obtain ⟨t297, A150, H⟩ := H
  replace H : ((fraction_lowest.f k t296 t297).bind fun bt298 => (some (bt298.1, bt298.2, 0))) = some (r1, r2, r3) := H
  have A15 := AS A150
  clear A150
  replace H := Option.bind_eq_some_iff.mp H
  obtain ⟨⟨t298, t299⟩, A160, H⟩ := H
  replace H : (some (t298, t299, 0)) = some (r1, r2, r3) := H
  have A16 := AS A160
  clear A160
  simp only [Option.some.injEq, Prod.mk.injEq] at H
  obtain ⟨rfl, rfl, rfl⟩ := H
  go_enter Tryz.func183, Tryz.ntmps183
  try go_wp2_with (first | ((with_reducible refine gate_dst (N := 2) rfl ?_); refine box_event ?hg (N := 2) ?hd (cs := #[.string a0_0, .string a0_1]) (t := 53) ?hr ?_; (case hd => rfl); (case hg => rfl); (case hr => exact Z13); intro gb292 hg w17 hbox hb; have n0_ := AS (below_step Z0 hb); have n1_ := AS (hbox); have n2_ := AS ((Z184 : w.heap.size ≤ gb292)); have n3_ := AS ((Z184 : w.heap.size ≤ gb292)); clear HB; have HB := n0_; have BK292 := n1_; have GW292 := n2_; have GE292 := n3_; clear n0_ n1_ n2_ n3_; clear hb hbox hg) | ((with_reducible refine gate_dst (N := 3) rfl ?_); refine box_event ?hg (N := 3) ?hd (cs := #[.string a1_0, .string a1_1]) (t := 53) ?hr ?_; (case hd => rfl); (case hg => rfl); (case hr => exact Z13); intro gb293 hg w18 hbox hb; have n0_ := AS (blk_below (g := gb292) (o := .cells #[.string a0_0, .string a0_1] 53 (0, 0)) Z28 hb); have n1_ := AS (below_step Z68 hb); have n2_ := AS (hbox); have n3_ := AS ((Z219 : w.heap.size ≤ gb293)); have n4_ := AS ((Z219 : w.heap.size ≤ gb293)); have n5_ := AS ((Z194 : gb292 ≠ gb293)); have n6_ := AS ((Z195 : gb293 ≠ gb292)); clear BK292; clear HB; have BK292 := n0_; have HB := n1_; have BK293 := n2_; have GW293 := n3_; have GE293 := n4_; have NB292_293 := n5_; have NB293_292 := n6_; clear n0_ n1_ n2_ n3_ n4_ n5_ n6_; clear hb hbox hg) | ((with_reducible refine gate_dst (N := 4) rfl ?_); refine box_event ?hg (N := 4) ?hd (cs := #[.string (⟨#[]⟩ : ByteArray), .string (⟨#[]⟩ : ByteArray)]) (t := 53) ?hr ?_; (case hd => rfl); (case hg => rfl); (case hr => exact Z13); intro gb294 hg w19 hbox hb; have n0_ := AS (blk_below (g := gb292) (o := .cells #[.string a0_0, .string a0_1] 53 (0, 0)) Z28 hb); have n1_ := AS (blk_below (g := gb293) (o := .cells #[.string a1_0, .string a1_1] 53 (0, 0)) Z57 hb); have n2_ := AS (below_step Z60 hb); have n3_ := AS (hbox); have n4_ := AS ((Z220 : w.heap.size ≤ gb294)); have n5_ := AS ((Z220 : w.heap.size ≤ gb294)); have n6_ := AS ((Z194 : gb292 ≠ gb294)); have n7_ := AS ((Z195 : gb294 ≠ gb292)); have n8_ := AS ((Z211 : gb293 ≠ gb294)); have n9_ := AS ((Z212 : gb294 ≠ gb293)); clear BK292; clear BK293; clear HB; have BK292 := n0_; have BK293 := n1_; have HB := n2_; have BK294 := n3_; have GW294 := n4_; have GE294 := n5_; have NB292_294 := n6_; have NB294_292 := n7_; have NB293_294 := n8_; have NB294_293 := n9_; clear n0_ n1_ n2_ n3_ n4_ n5_ n6_ n7_ n8_ n9_; clear hb hbox hg; have hnb20 := NB293_292.out; have hnc20 := NB292_293.out; have hnb21 := NB293_294.out; have hnc21 := NB294_293.out; have hcz22_0 : w19.cell? ⟨gb293, 0, none⟩ = some (.string a1_0) := (blk_cell BK293.out 0).trans rfl; have hcz22_1 : w19.cell? ⟨gb293, 1, none⟩ = some (.string a1_1) := (blk_cell BK293.out 1).trans rfl; have hfz22_0 := blk_frozen BK293.out 0; have hfz22_1 := blk_frozen BK293.out 1) | ((with_reducible refine gate_callee (f := 68) rfl ?_); refine goesL_ (some 7) rfl rfl Tryz.func68 Z6 rfl #[.agg #[.string a1_0, .string a1_1]] rfl Z1 ?_; (with_reducible refine (fraction_Sign.calls a1_0 a1_1 t295 _ ?side1 A3.out).mono ?_); (case side1 => exact Z224); rintro e w23 ⟨rfl, hb⟩; refine ⟨_, rfl, ?_⟩; have n0_ := AS (blk_below (g := gb292) (o := .cells #[.string a0_0, .string a0_1] 53 (0, 0)) Z28 hb); have n1_ := AS (blk_below (g := gb293) (o := .cells #[.string a1_0, .string a1_1] 53 (0, 0)) Z57 hb); have n2_ := AS (blk_below (g := gb294) (o := .cells #[.string (⟨#[]⟩ : ByteArray), .string (⟨#[]⟩ : ByteArray)] 53 (0, 0)) Z102 hb); have n3_ := AS (below_step Z18 hb); clear BK292; clear BK293; clear BK294; clear HB; have BK292 := n0_; have BK293 := n1_; have BK294 := n2_; have HB := n3_; clear n0_ n1_ n2_ n3_; (try clear hb); (try clear hb2); (try clear hk); (try clear hi)))
  have n0_ := AS (blk_drew BK292.out)
  have n1_ := AS (blk_drew BK293.out)
  have n2_ := AS (blk_drew BK294.out)
  have n3_ := AS (below_drew1 HB.out)
  clear BK292
  clear BK293
  clear BK294
  clear HB
  have BK292 := n0_
  have BK293 := n1_
  have BK294 := n2_
  have HB := n3_
  clear n0_ n1_ n2_ n3_
  refine start_ (n := 13) (S := fun w' => w'.cell? ⟨gb292, 0, none⟩ = some (.string a0_0) ∧ w'.cell? ⟨gb292, 1, none⟩ = some (.string a0_1) ∧ w'.cell? ⟨gb293, 0, none⟩ = some (.string a1_0) ∧ w'.cell? ⟨gb293, 1, none⟩ = some (.string a1_1)) (ds := []) #[false, false, false, false, false, false, false, false, false, false, false, false, false] Z6 rfl rfl ⟨(blk_cell BK292.out 0).trans rfl, (blk_cell BK292.out 1).trans rfl, (blk_cell BK293.out 0).trans rfl, (blk_cell BK293.out 1).trans rfl⟩ (fun hHeld => ?_); refine with_tabW fraction_Div.tab3 fraction_Div.bits3 (fun HT_ HW_ => ?_)
  generalize w23.drew = w24 at BK292 BK293 BK294 HB hHeld ⊢
  refine pure_ (i := 0) (N := some 10) (v := ?_) (a' := ?_) #[true, false, false, false, false, false, false, false, false, false, false, false, false] rfl rfl (any_of HT_.out Z6) (fun _ _ _ h => h) (Or.inl ⟨by rfl, ?_⟩) ?_ ?_
  rotate_left
  ·intro w'
   go_simp
   with_reducible rfl
  rotate_left
  ·simp only [Act.put, List.setIfInBounds_toArray, List.set_cons_zero, List.set_cons_succ, i64_w, i32_w]
   rfl
  refine pure_ (i := 2) (N := some 12) (v := ?_) (a' := ?_) #[true, false, true, false, false, false, false, false, false, false, false, false, false] rfl rfl (any_of HT_.out Z6) (fun _ _ _ h => h) (Or.inl ⟨by rfl, ?_⟩) ?_ ?_
  rotate_left
  ·intro w'
   go_simp
   with_reducible rfl
  rotate_left
  ·simp only [Act.put, List.setIfInBounds_toArray, List.set_cons_zero, List.set_cons_succ, i64_w, i32_w]
   rfl
  refine pure_ (i := 5) (N := some 15) (v := ?_) (a' := ?_) #[true, false, true, false, false, true, false, false, false, false, false, false, false] rfl rfl (any_of HT_.out Z6) (fun _ _ _ h => h) (Or.inl ⟨by rfl, ?_⟩) ?_ ?_
  rotate_left
  ·intro w'
   go_simp
   with_reducible rfl
  rotate_left
  ·simp only [Act.put, List.setIfInBounds_toArray, List.set_cons_zero, List.set_cons_succ, i64_w, i32_w]
   rfl
  refine pure_ (i := 7) (N := some 17) (v := ?_) (a' := ?_) #[true, false, true, false, false, true, false, true, false, false, false, false, false] rfl rfl (any_of HT_.out Z6) (fun _ _ _ h => h) (Or.inl ⟨by rfl, ?_⟩) ?_ ?_
  rotate_left
  ·intro w'
   go_simp
   with_reducible rfl
  rotate_left
  ·simp only [Act.put, List.setIfInBounds_toArray, List.set_cons_zero, List.set_cons_succ, i64_w, i32_w]
   rfl
  refine take_ (i := 1) (N := some 11) (v := ?_) (a' := ?_) #[true, true, true, false, false, true, false, true, false, false, false, false, false] rfl rfl (take_ofW HT_.out HW_.out Z6) (fun _ _ _ h => h) (Or.inl ⟨by rfl, ?_⟩) hHeld ?_ ?_
  rotate_left
  ·rintro w' ⟨s0, s1, s2, s3⟩
   go_simp
   with_reducible rfl
  rotate_left
  ·simp only [Act.put, List.setIfInBounds_toArray, List.set_cons_zero, List.set_cons_succ, i64_w, i32_w]
   rfl
  refine take_ (i := 3) (N := some 13) (v := ?_) (a' := ?_) #[true, true, true, true, false, true, false, true, false, false, false, false, false] rfl rfl (take_ofW HT_.out HW_.out Z6) (fun _ _ _ h => h) (Or.inl ⟨by rfl, ?_⟩) hHeld ?_ ?_
  rotate_left
  ·rintro w' ⟨s0, s1, s2, s3⟩
   go_simp
   with_reducible rfl
  rotate_left
  ·simp only [Act.put, List.setIfInBounds_toArray, List.set_cons_zero, List.set_cons_succ, i64_w, i32_w]
   rfl
  refine take_ (i := 6) (N := some 16) (v := ?_) (a' := ?_) #[true, true, true, true, false, true, true, true, false, false, false, false, false] rfl rfl (take_ofW HT_.out HW_.out Z6) (fun _ _ _ h => h) (Or.inl ⟨by rfl, ?_⟩) hHeld ?_ ?_
  rotate_left
  ·rintro w' ⟨s0, s1, s2, s3⟩
   go_simp
   with_reducible rfl
  rotate_left
  ·simp only [Act.put, List.setIfInBounds_toArray, List.set_cons_zero, List.set_cons_succ, i64_w, i32_w]
   rfl
  refine take_ (i := 8) (N := some 18) (v := ?_) (a' := ?_) #[true, true, true, true, false, true, true, true, true, false, false, false, false] rfl rfl (take_ofW HT_.out HW_.out Z6) (fun _ _ _ h => h) (Or.inl ⟨by rfl, ?_⟩) hHeld ?_ ?_
  rotate_left
  ·rintro w' ⟨s0, s1, s2, s3⟩
   go_simp
   with_reducible rfl
  rotate_left
  ·simp only [Act.put, List.setIfInBounds_toArray, List.set_cons_zero, List.set_cons_succ, i64_w, i32_w]
   rfl
  refine one_ (i := 4) (N := some 14) #[true, true, true, true, true, true, true, true, true, false, false, false, false] rfl rfl (one_of HT_.out Z6) (by decide) (fun K hK => ?_)
  refine goes_ Tryz.func154 Z6 rfl #[.string a0_0, .string a1_1] (by rfl) rfl rfl Z1 ?_
  with_reducible refine (whole_Mul.calls k a0_0 a1_1 t296 _ ?side1 A14.out).mono ?_
  (case side1 => exact Z224)
  rintro e w25 ⟨rfl, hb⟩
  refine ⟨_, rfl, ?_⟩
  have n0_ := AS (blk_below (g := gb292) (o := .cells #[.string a0_0, .string a0_1] 53 (0, 0)) Z28 hb)
  have n1_ := AS (blk_below (g := gb293) (o := .cells #[.string a1_0, .string a1_1] 53 (0, 0)) Z57 hb)
  have n2_ := AS (blk_below (g := gb294) (o := .cells #[.string (⟨#[]⟩ : ByteArray), .string (⟨#[]⟩ : ByteArray)] 53 (0, 0)) Z102 hb)
  have n3_ := AS (below_step Z18 hb)
  clear BK292
  clear BK293
  clear BK294
  clear HB
  have BK292 := n0_
  have BK293 := n1_
  have BK294 := n2_
  have HB := n3_
  clear n0_ n1_ n2_ n3_
  (try clear hb)
  (try clear hb2)
  (try clear hk)
  (try clear hi)
  refine hK.out _ _ ⟨(blk_cell BK292.out 0).trans rfl, (blk_cell BK292.out 1).trans rfl, (blk_cell BK293.out 0).trans rfl, (blk_cell BK293.out 1).trans rfl⟩ (fun hHeld => ?_)
  clear hK K
  refine norm_ (a' := ?_) ?_ ?_
  rotate_left
  ·show Act.put _ (some 14) _ = _
   simp only [Act.put, List.setIfInBounds_toArray, List.set_cons_zero, List.set_cons_succ, i64_w, i32_w]
   rfl
  refine one_ (i := 9) (N := some 19) #[true, true, true, true, true, true, true, true, true, true, false, false, false] rfl rfl (one_of HT_.out Z6) (by decide) (fun K hK => ?_)
  refine goes_ Tryz.func154 Z6 rfl #[.string a0_1, .string a1_0] (by rfl) rfl rfl Z1 ?_
  with_reducible refine (whole_Mul.calls k a0_1 a1_0 t297 _ ?side1 A15.out).mono ?_
  (case side1 => exact Z224)
  rintro e w26 ⟨rfl, hb⟩
  refine ⟨_, rfl, ?_⟩
  have n0_ := AS (blk_below (g := gb292) (o := .cells #[.string a0_0, .string a0_1] 53 (0, 0)) Z28 hb)
  have n1_ := AS (blk_below (g := gb293) (o := .cells #[.string a1_0, .string a1_1] 53 (0, 0)) Z57 hb)
  have n2_ := AS (blk_below (g := gb294) (o := .cells #[.string (⟨#[]⟩ : ByteArray), .string (⟨#[]⟩ : ByteArray)] 53 (0, 0)) Z102 hb)
  have n3_ := AS (below_step Z18 hb)
  clear BK292
  clear BK293
  clear BK294
  clear HB
  have BK292 := n0_
  have BK293 := n1_
  have BK294 := n2_
  have HB := n3_
  clear n0_ n1_ n2_ n3_
  (try clear hb)
  (try clear hb2)
  (try clear hk)
  (try clear hi)
  refine hK.out _ _ ⟨(blk_cell BK292.out 0).trans rfl, (blk_cell BK292.out 1).trans rfl, (blk_cell BK293.out 0).trans rfl, (blk_cell BK293.out 1).trans rfl⟩ (fun hHeld => ?_)
  clear hK K
  refine norm_ (a' := ?_) ?_ ?_
  rotate_left
  ·show Act.put _ (some 19) _ = _
   simp only [Act.put, List.setIfInBounds_toArray, List.set_cons_zero, List.set_cons_succ, i64_w, i32_w]
   rfl
  refine one_ (i := 10) (N := some 20) #[true, true, true, true, true, true, true, true, true, true, true, false, false] rfl rfl (one_of HT_.out Z6) (by decide) (fun K hK => ?_)
  refine goes_ Tryz.func89 Z6 rfl #[.string t296, .string t297] (by rfl) rfl rfl Z1 ?_
  with_reducible refine (fraction_lowest.calls k t296 t297 t298 t299 _ ?side1 A16.out).mono ?_
  (case side1 => exact Z224)
  rintro e w27 ⟨rfl, hb⟩
  refine ⟨_, rfl, ?_⟩
  have n0_ := AS (blk_below (g := gb292) (o := .cells #[.string a0_0, .string a0_1] 53 (0, 0)) Z28 hb)
  have n1_ := AS (blk_below (g := gb293) (o := .cells #[.string a1_0, .string a1_1] 53 (0, 0)) Z57 hb)
  have n2_ := AS (blk_below (g := gb294) (o := .cells #[.string (⟨#[]⟩ : ByteArray), .string (⟨#[]⟩ : ByteArray)] 53 (0, 0)) Z102 hb)
  have n3_ := AS (below_step Z18 hb)
  clear BK292
  clear BK293
  clear BK294
  clear HB
  have BK292 := n0_
  have BK293 := n1_
  have BK294 := n2_
  have HB := n3_
  clear n0_ n1_ n2_ n3_
  (try clear hb)
  (try clear hb2)
  (try clear hk)
  (try clear hi)
  refine hK.out _ _ ⟨(blk_cell BK292.out 0).trans rfl, (blk_cell BK292.out 1).trans rfl, (blk_cell BK293.out 0).trans rfl, (blk_cell BK293.out 1).trans rfl⟩ (fun hHeld => ?_)
  clear hK K
  refine norm_ (a' := ?_) ?_ ?_
  rotate_left
  ·show Act.put _ (some 20) _ = _
   simp only [Act.put, List.setIfInBounds_toArray, List.set_cons_zero, List.set_cons_succ, i64_w, i32_w]
   rfl
  refine one_ (i := 11) (N := none) #[true, true, true, true, true, true, true, true, true, true, true, true, false] rfl rfl (one_of HT_.out Z6) (by decide) (fun K hK => ?_)
  have hs28 : w27.cell? ⟨gb294, 0, none⟩ = some (.string (⟨#[]⟩ : ByteArray)) := (blk_cell BK294.out 0).trans rfl
  have hfs28 := blk_frozen BK294.out 0
  have hns28_0 := NB292_294.out
  have hns28_1 := NB293_294.out
  have hms28_0 := NB294_292.out
  have hms28_1 := NB294_293.out
  have hs29 : w27.cell? ⟨gb294, 1, none⟩ = some (.string (⟨#[]⟩ : ByteArray)) := (blk_cell BK294.out 1).trans rfl
  have hfs29 := blk_frozen BK294.out 1
  have hns29_0 := NB292_294.out
  have hns29_1 := NB293_294.out
  have hms29_0 := NB294_292.out
  have hms29_1 := NB294_293.out
  refine skip_ (w1 := ?_) (by rfl) rfl ?_ ?_
  rotate_left
  ·go_simp
   rfl
  refine hK.out _ _ ⟨((cell_far (p := ⟨gb294, _, none⟩) NB292_294.out _).trans (((cell_far (p := ⟨gb294, _, none⟩) NB292_294.out _).trans (hHeld.1)))), ((cell_far (p := ⟨gb294, _, none⟩) NB292_294.out _).trans (((cell_far (p := ⟨gb294, _, none⟩) NB292_294.out _).trans (hHeld.2.1)))), ((cell_far (p := ⟨gb294, _, none⟩) NB293_294.out _).trans (((cell_far (p := ⟨gb294, _, none⟩) NB293_294.out _).trans (hHeld.2.2.1)))), ((cell_far (p := ⟨gb294, _, none⟩) NB293_294.out _).trans (((cell_far (p := ⟨gb294, _, none⟩) NB293_294.out _).trans (hHeld.2.2.2))))⟩ (fun hHeld => ?_)
  clear hK K
  refine pure_ (i := 12) (N := some 5) (v := ?_) (a' := ?_) #[true, true, true, true, true, true, true, true, true, true, true, true, true] rfl rfl (any_of HT_.out Z6) (fun _ _ _ h => h) (Or.inl ⟨by rfl, ?_⟩) ?_ ?_
  rotate_left
  ·intro w'
   go_simp
   with_reducible rfl
  rotate_left
  ·simp only [Act.put, List.setIfInBounds_toArray, List.set_cons_zero, List.set_cons_succ, i64_w, i32_w]
   rfl
  refine done_ (done_of HT_.out Z6) ?_
  try go_wp2
  refine bodyPost_ret (results_ct rfl _ _ gb294 53 #[.string t298, .string t299] (0, 0) _ rfl (by (with_reducible repeat (first | refine blk_drewN ?_ _ | refine blk_drew ?_ | refine blk_alloc ?_ _)); refine blk_put (cs := #[.string t298, .string (⟨#[]⟩ : ByteArray)]) ?_ 1 _ rfl; (with_reducible repeat (first | refine blk_drewN ?_ _ | refine blk_drew ?_ | refine blk_alloc ?_ _)); refine blk_put (cs := #[.string (⟨#[]⟩ : ByteArray), .string (⟨#[]⟩ : ByteArray)]) ?_ 0 _ rfl; (with_reducible repeat (first | refine blk_drewN ?_ _ | refine blk_drew ?_ | refine blk_alloc ?_ _)); exact BK294.out) Tryz.underlying53 rfl Z6) rfl ?_
  exact ⟨Z2, Z18⟩
def fraction_little.f (a0 : ByteArray) : Option (Int × Bool) := if (a0.size : Int) > 9 then some (0, false) else (atoiOk a0).map fun v => (v, true)
set_option maxHeartbeats 2000000 in
theorem fraction_little.calls (a0 : ByteArray) (r1 : Int) (r2 : Bool) (w : World) (hG : GL w) (h : fraction_little.f a0 = some (r1, r2)) :
  Calls Tryz.prog 223 #[.string a0] w fun e w' => e = .returned (.tuple #[.int .i64 r1, .bool r2]) ∧ Below w.heap.size w w' := by
 unfold fraction_little.f at h
 by_cases c : (a0.size : Int) > 9
 ·rw [if_pos c] at h
  have c1 : decide (9 < (a0.size : Int)) = true := decide_eq_true c
  simp only [Option.some.injEq, Prod.mk.injEq] at h
  obtain ⟨rfl, rfl⟩ := h
  have hb := Below.refl w.heap.size w
  clear c
  go_enter Tryz.func223, Tryz.ntmps223
  go_wp2
  go_ret2
  exact ⟨rfl, hb⟩
 ·rw [if_neg c] at h
  have c1 : decide (9 < (a0.size : Int)) = false := decide_eq_false c
  obtain ⟨v, hv, he⟩ := Option.map_eq_some_iff.mp h
  simp only [Prod.mk.injEq] at he
  obtain ⟨rfl, rfl⟩ := he
  have hc := AS (atoi_calls hv)
  clear c h hv
  go_enter Tryz.func223, Tryz.ntmps223
  go_wp2_with (go_at_call 145; refine (hc.out _).mono ?_; rintro e w' ⟨rfl, hb⟩)
  go_quiet (fail)
  go_wp2
  go_ret2
  exact ⟨rfl, pw_below_drewN hb _⟩
end Go.Proofs.YtkgkihichdcpmaaGreatDoor.H
