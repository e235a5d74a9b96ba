import Derived.Test.YtkgkihichdcpmaaGreatDoorC4
namespace Go.Proofs.YtkgkihichdcpmaaGreatDoor.H
open Go.RowKit Go.Proofs.YtkgkihichdcpmaaGreatDoorW.PrintWords Go.Proofs.YtkgkihichdcpmaaGreatDoorW.PrintLast Go.Proofs.YtkgkihichdcpmaaGreatDoorW.PrintMore
attribute [local go_sem] max2_int min2_int max_two min_two max_three min_three max_four min_four
set_option linter.unusedVariables false
set_option linter.unusedSimpArgs false
def fraction_both.f (a0_0 : ByteArray) (a0_1 : ByteArray) : Option (Int × Int × Bool) := (fraction_little.f a0_0).bind fun bt329 => ((fraction_little.f a0_1).bind fun bt331 => (if bt329.2 = true then (some (bt329.1, bt331.1, bt331.2)) else (some (bt329.1, bt331.1, false))))
set_option maxHeartbeats 8000000 in
set_option maxRecDepth 100000 in
theorem fraction_both.calls (a0_0 : ByteArray) (a0_1 : ByteArray) (r1 : Int) (r2 : Int) (r3 : Bool) (w : World) (hG : GL w) (h : fraction_both.f a0_0 a0_1 = some (r1, r2, r3)) :
  Calls Tryz.prog 210 #[.agg #[.string a0_0, .string a0_1]] w fun e w' => e = .returned (.tuple #[.int .i64 r1, .int .i64 r2, .bool r3]) ∧ Below w.heap.size w w' := by
 have hu53 := Tryz.underlying53; have HB := AS (Below.refl w.heap.size w); have H : ((fraction_little.f a0_0).bind fun bt329 => ((fraction_little.f a0_1).bind fun bt331 => (if bt329.2 = true then (some (bt329.1, bt331.1, bt331.2)) else (some (bt329.1, bt331.1, false))))) = some (r1, r2, r3) := h; clear h; replace H := Option.bind_eq_some_iff.mp H; obtain ⟨⟨t329, t330⟩, A20, H⟩ := H; replace H : ((fraction_little.f a0_1).bind fun bt331 => (if t330 = true then (some (t329, bt331.1, bt331.2)) else (some (t329, bt331.1, false)))) = some (r1, r2, r3) := H; have A2 := AS A20; clear A20; replace H := Option.bind_eq_some_iff.mp H; obtain ⟨⟨t331, t332⟩, A30, H⟩ := H; replace H : (if t330 = true then (some (t329, t331, t332)) else (some (t329, t331, false))) = some (r1, r2, r3) := H; have A3 := AS A30; clear A30
 by_cases c4 : t330 = true
 ·subst c4
  rw [if_pos rfl] at H
  simp only [Option.some.injEq, Prod.mk.injEq] at H
  obtain ⟨rfl, rfl, rfl⟩ := H; go_enter Tryz.func210, Tryz.ntmps210; go_wp2_with (first | ((with_reducible refine gtd (N := 1) rfl ?_); refine bxe ?hg (N := 1) ?hd (cs := #[.string a0_0, .string a0_1]) (t := 53) ?hr ?_; (case hd => rfl); (case hg => rfl); (case hr => exact Z11); intro gb328 hg w5 hbox hb; have BK328 := AS (hbox); have GW328 := AS ((Z183 : w.heap.size ≤ gb328)); have GE328 := AS ((Z183 : w.heap.size ≤ gb328)); replace HB := AS (bst Z0 hb); clear hb hbox hg; have hcz6_0 := bc0 BK328.out; have hcz6_1 := bc1 BK328.out; have hfz6_0 := bfz BK328.out 0; have hfz6_1 := bfz BK328.out 1) | ((with_reducible refine gtc (f := 223) rfl ?_); refine gsL (some 10) rfl rfl Tryz.func223 Z5 rfl #[.string a0_0] rfl Z1 ?_; (with_reducible refine (fraction_little.calls a0_0 t329 true _ ?side1 A2.out).mono ?_); (case side1 => exact Z216); rintro e w7 ⟨rfl, hb⟩; refine ⟨_, rfl, ?_⟩; replace BK328 := AS (bbl (g := gb328) (o := .cells #[.string a0_0, .string a0_1] 53 (0, 0)) Z123 hb); replace HB := AS (bst Z30 hb); (try clear hb); (try clear hb2); (try clear hk); (try clear hi); have hcz8_0 := bc0 BK328.out; have hcz8_1 := bc1 BK328.out; have hfz8_0 := bfz BK328.out 0; have hfz8_1 := bfz BK328.out 1) | ((with_reducible refine gtc (f := 223) rfl ?_); refine gsL (some 16) rfl rfl Tryz.func223 Z5 rfl #[.string a0_1] rfl Z1 ?_; (with_reducible refine (fraction_little.calls a0_1 t331 t332 _ ?side1 A3.out).mono ?_); (case side1 => exact Z216); rintro e w9 ⟨rfl, hb⟩; refine ⟨_, rfl, ?_⟩; replace BK328 := AS (bbl (g := gb328) (o := .cells #[.string a0_0, .string a0_1] 53 (0, 0)) Z123 hb); replace HB := AS (bst Z30 hb); (try clear hb); (try clear hb2); (try clear hk); (try clear hi)))
  go_ret3
  exact ⟨Z3, Z30⟩
 ·replace c4 := Bool.eq_false_iff.mpr c4; subst c4
  rw [if_neg (show ¬ (false = true) by decide)] at H
  simp only [Option.some.injEq, Prod.mk.injEq] at H
  obtain ⟨rfl, rfl, rfl⟩ := H; go_enter Tryz.func210, Tryz.ntmps210; go_wp2_with (first | ((with_reducible refine gtd (N := 1) rfl ?_); refine bxe ?hg (N := 1) ?hd (cs := #[.string a0_0, .string a0_1]) (t := 53) ?hr ?_; (case hd => rfl); (case hg => rfl); (case hr => exact Z11); intro gb328 hg w10 hbox hb; have BK328 := AS (hbox); have GW328 := AS ((Z183 : w.heap.size ≤ gb328)); have GE328 := AS ((Z183 : w.heap.size ≤ gb328)); replace HB := AS (bst Z0 hb); clear hb hbox hg; have hcz11_0 := bc0 BK328.out; have hcz11_1 := bc1 BK328.out; have hfz11_0 := bfz BK328.out 0; have hfz11_1 := bfz BK328.out 1) | ((with_reducible refine gtc (f := 223) rfl ?_); refine gsL (some 10) rfl rfl Tryz.func223 Z5 rfl #[.string a0_0] rfl Z1 ?_; (with_reducible refine (fraction_little.calls a0_0 t329 false _ ?side1 A2.out).mono ?_); (case side1 => exact Z216); rintro e w12 ⟨rfl, hb⟩; refine ⟨_, rfl, ?_⟩; replace BK328 := AS (bbl (g := gb328) (o := .cells #[.string a0_0, .string a0_1] 53 (0, 0)) Z123 hb); replace HB := AS (bst Z30 hb); (try clear hb); (try clear hb2); (try clear hk); (try clear hi); have hcz13_0 := bc0 BK328.out; have hcz13_1 := bc1 BK328.out; have hfz13_0 := bfz BK328.out 0; have hfz13_1 := bfz BK328.out 1) | ((with_reducible refine gtc (f := 223) rfl ?_); refine gsL (some 16) rfl rfl Tryz.func223 Z5 rfl #[.string a0_1] rfl Z1 ?_; (with_reducible refine (fraction_little.calls a0_1 t331 t332 _ ?side1 A3.out).mono ?_); (case side1 => exact Z216); rintro e w14 ⟨rfl, hb⟩; refine ⟨_, rfl, ?_⟩; replace BK328 := AS (bbl (g := gb328) (o := .cells #[.string a0_0, .string a0_1] 53 (0, 0)) Z123 hb); replace HB := AS (bst Z30 hb); (try clear hb); (try clear hb2); (try clear hk); (try clear hi)))
  go_ret3
  exact ⟨Z3, Z30⟩
def fraction_of.l0 : Nat → Int → Int → Int → Int → Option (ByteArray × ByteArray)
 | 0, _, _, _, _ => none
 | k + 1, x0, x1, x5, x6 => if x6 = 0 then (if x5 < 0 then (if (wrap64 (-x5)) = 0 then (none) else ((strconv_Itoa.f (wrap64 (Int.tdiv x0 (wrap64 (-x5))))).bind fun t334 => ((strconv_Itoa.f (wrap64 (Int.tdiv x1 (wrap64 (-x5))))).bind fun t335 => (some (t334, t335))))) else (if x5 = 0 then (none) else ((strconv_Itoa.f (wrap64 (Int.tdiv x0 x5))).bind fun t336 => ((strconv_Itoa.f (wrap64 (Int.tdiv x1 x5))).bind fun t337 => (some (t336, t337)))))) else (fraction_of.l0 k x0 x1 x6 (Int.tmod x5 x6))
def fraction_of.f (k : Nat) (a0 : Int) (a1 : Int) : Option (ByteArray × ByteArray) := fraction_of.l0 k a0 a1 a0 a1
def fraction_of.T6 : Bool × List (List Nat × List Nat) := (true, [([], []), ([], []), ([0, 1], [0, 1]), ([2], [2]), ([], []), ([], []), ([4, 5], [4, 5]), ([6, 3], [6]), ([3, 7], [3, 7]), ([8, 7, 0, 1, 2, 3, 4, 5, 6, 7, 8], [8])])
def fraction_of.B6 : List Nat := [0, 0, 3, 7, 0, 0, 48, 127, 255, 511]
theorem fraction_of.tab6 : rtab .any (opsOf Tryz.f211 6) = fraction_of.T6 := by kernel_rfl
theorem fraction_of.bits6 : waitsOk fraction_of.T6.2 fraction_of.B6 = true := by kernel_rfl
set_option maxHeartbeats 8000000 in
set_option maxRecDepth 100000 in
theorem fraction_of.calls (k : Nat) (a0 : Int) (a1 : Int) (r1 : ByteArray) (r2 : ByteArray) (w : World) (hG : GL w) (h : fraction_of.f k a0 a1 = some (r1, r2)) :
  Calls Tryz.prog 211 #[.int .i64 a0, .int .i64 a1] w fun e w' => e = .returned (.agg #[.string r1, .string r2]) ∧ Below w.heap.size w w' := by
 have hu53 := Tryz.underlying53; have HB := AS (Below.refl w.heap.size w); have H : (fraction_of.l0 k a0 a1 a0 a1) = some (r1, r2) := h; clear h; have H' := AS H; clear H; go_enter Tryz.func211, Tryz.ntmps211; go_wp2_with (first | ((with_reducible refine gtd (N := 4) rfl ?_); refine bxe ?hg (N := 4) ?hd (cs := #[.string (⟨#[]⟩ : ByteArray), .string (⟨#[]⟩ : ByteArray)]) (t := 53) ?hr ?_; (case hd => rfl); (case hg => rfl); (case hr => exact Z11); intro gb333 hg w3 hbox hb; have BK333 := AS (hbox); have GW333 := AS ((Z183 : w.heap.size ≤ gb333)); have GE333 := AS ((Z183 : w.heap.size ≤ gb333)); replace HB := AS (bst Z0 hb); clear hb hbox hg))
 go_loopg [5, 6] k (fun kq v5 v6 w' => ∃ (x5_1 : Int) (x6_1 : Int), v5 = .int .i64 x5_1 ∧ v6 = .int .i64 x6_1 ∧ Aside0 (fraction_of.l0 kq a0 a1 x5_1 x6_1 = some (r1, r2)) ∧ Aside0 (kq ≤ k) ∧ Aside0 (w'.heap[gb333]? = some (.cells #[.string (⟨#[]⟩ : ByteArray), .string (⟨#[]⟩ : ByteArray)] 53 (0, 0))) ∧ Aside0 (Below w.heap.size w w'))
 case atStart => exact ⟨(a0), (a1), Z4, Z4, H', ⟨Nat.le_refl _⟩, ⟨Z93⟩, ⟨Z22⟩⟩
 case round =>
  clear H'; (try clear c2); (try clear p2); obtain ⟨x5_1, x6_1, rfl, rfl, HA, HK1, BK333, HB⟩ := hrel
  cases gk with
  | zero => exact absurd HA.out (by simp [fraction_of.l0])
  | succ k1 =>
   have H := HA.out; clear HA
   simp only [fraction_of.l0] at H
   by_cases c4 : x6_1 = 0
   ·rw [if_pos c4] at H
    have c4b0 : (x6_1 == 0) = true := beq_iff_eq.mpr c4; have c4b1 : (x6_1 != 0) = false := bne_eq_false_iff_eq.mpr c4; clear c4
    by_cases c5 : x5_1 < 0
    ·rw [if_pos c5] at H
     have c5b0 : decide (x5_1 < 0) = true := decide_eq_true c5; clear c5
     by_cases c6 : (wrap64 (-x5_1)) = 0
     ·rw [if_pos c6] at H
      exact absurd H (by simp)
     ·rw [if_neg c6] at H
      have c6b0 : ((wrap64 (-x5_1)) == 0) = false := beq_eq_false_iff_ne.mpr c6; have c6b1 : ((wrap64 (-x5_1)) != 0) = true := bne_iff_ne.mpr c6; replace H := Option.bind_eq_some_iff.mp H; obtain ⟨t334, A70, H⟩ := H; replace H : ((strconv_Itoa.f (wrap64 (Int.tdiv a1 (wrap64 (-x5_1))))).bind fun t335 => (some (t334, t335))) = some (r1, r2) := H; have A7 := AS A70; clear A70; replace H := Option.bind_eq_some_iff.mp H; obtain ⟨t335, A80, H⟩ := H; replace H : (some (t334, t335)) = some (r1, r2) := H; have A8 := AS A80; clear A80
      simp only [Option.some.injEq, Prod.mk.injEq] at H
      obtain ⟨rfl, rfl⟩ := H; (try go_wp2); have n0_ := AS (bdr BK333.out); have n1_ := AS (bl1 HB.out); clear BK333 HB; have BK333 := n0_; have HB := n1_; clear n0_ n1_
      refine start_ (n := 10) (S := fun w' => True) (ds := []) #[false, false, false, false, false, false, false, false, false, false] Z5 rfl rfl trivial (fun hHeld => ?_); refine with_tabW fraction_of.tab6 fraction_of.bits6 (fun HT_ HW_ => ?_)
      generalize wr.drew = w9 at BK333 HB hHeld ⊢; refine pure_ (i := 0) (N := some 19) (v := ?_) (a' := ?_) #[true, false, false, false, false, false, false, false, false, false] rfl rfl (any_of HT_.out Z5) (fun _ _ _ h => h) (Or.inl ⟨by rfl, ?_⟩) ?_ ?_; rotate_left
      ·intro w'; go_simp; with_reducible rfl
      rotate_left
      ·simp only [Act.put, List.setIfInBounds_toArray, List.set_cons_zero, List.set_cons_succ, i64_w, i32_w]; rfl
      refine pure_ (i := 1) (N := some 20) (v := ?_) (a' := ?_) #[true, true, false, false, false, false, false, false, false, false] rfl rfl (any_of HT_.out Z5) (fun _ _ _ h => h) (Or.inl ⟨by rfl, ?_⟩) ?_ ?_; rotate_left
      ·intro w'; go_simp; with_reducible rfl
      rotate_left
      ·simp only [Act.put, List.setIfInBounds_toArray, List.set_cons_zero, List.set_cons_succ, i64_w, i32_w]; rfl
      refine pure_ (i := 2) (N := some 21) (v := ?_) (a' := ?_) #[true, true, true, false, false, false, false, false, false, false] rfl rfl (any_of HT_.out Z5) (fun _ _ _ h => h) (Or.inl ⟨by rfl, ?_⟩) ?_ ?_; rotate_left
      ·intro w'; go_simp; with_reducible rfl
      rotate_left
      ·simp only [Act.put, List.setIfInBounds_toArray, List.set_cons_zero, List.set_cons_succ, i64_w, i32_w]; rfl
      refine pure_ (i := 4) (N := some 23) (v := ?_) (a' := ?_) #[true, true, true, false, true, false, false, false, false, false] rfl rfl (any_of HT_.out Z5) (fun _ _ _ h => h) (Or.inl ⟨by rfl, ?_⟩) ?_ ?_; rotate_left
      ·intro w'; go_simp; with_reducible rfl
      rotate_left
      ·simp only [Act.put, List.setIfInBounds_toArray, List.set_cons_zero, List.set_cons_succ, i64_w, i32_w]; rfl
      refine pure_ (i := 5) (N := some 24) (v := ?_) (a' := ?_) #[true, true, true, false, true, true, false, false, false, false] rfl rfl (any_of HT_.out Z5) (fun _ _ _ h => h) (Or.inl ⟨by rfl, ?_⟩) ?_ ?_; rotate_left
      ·intro w'; go_simp; with_reducible rfl
      rotate_left
      ·simp only [Act.put, List.setIfInBounds_toArray, List.set_cons_zero, List.set_cons_succ, i64_w, i32_w]; rfl
      refine pure_ (i := 6) (N := some 25) (v := ?_) (a' := ?_) #[true, true, true, false, true, true, true, false, false, false] rfl rfl (any_of HT_.out Z5) (fun _ _ _ h => h) (Or.inl ⟨by rfl, ?_⟩) ?_ ?_; rotate_left
      ·intro w'; go_simp; with_reducible rfl
      rotate_left
      ·simp only [Act.put, List.setIfInBounds_toArray, List.set_cons_zero, List.set_cons_succ, i64_w, i32_w]; rfl
      refine one_ (i := 3) (N := some 22) #[true, true, true, true, true, true, true, false, false, false] rfl rfl (one_of HT_.out Z5) (by decide) (fun K hK => ?_); refine goes_ Tryz.func90 Z5 rfl #[.int .i64 (wrap64 (Int.tdiv a0 (wrap64 (-x5_1))))] (by rfl) rfl rfl Z1 ?_
      with_reducible refine (strconv_Itoa.calls (wrap64 (Int.tdiv a0 (wrap64 (-x5_1)))) t334 _ ?side1 A7.out).mono ?_
      (case side1 => exact Z217)
      rintro e w10 ⟨rfl, hb⟩; refine ⟨_, rfl, ?_⟩; have n0_ := AS (bbl (g := gb333) (o := .cells #[.string (⟨#[]⟩ : ByteArray), .string (⟨#[]⟩ : ByteArray)] 53 (0, 0)) Z93 hb); have n1_ := AS (bst Z22 hb); clear BK333 HB; have BK333 := n0_; have HB := n1_; clear n0_ n1_
      (try clear hb)
      (try clear hb2)
      (try clear hk)
      (try clear hi)
      refine hK.out _ _ trivial (fun hHeld => ?_); clear hK K; refine norm_ (a' := ?_) ?_ ?_; rotate_left
      ·show Act.put _ (some 22) _ = _
       simp only [Act.put, List.setIfInBounds_toArray, List.set_cons_zero, List.set_cons_succ, i64_w, i32_w]; rfl
      refine one_ (i := 7) (N := some 26) #[true, true, true, true, true, true, true, true, false, false] rfl rfl (one_of HT_.out Z5) (by decide) (fun K hK => ?_); refine goes_ Tryz.func90 Z5 rfl #[.int .i64 (wrap64 (Int.tdiv a1 (wrap64 (-x5_1))))] (by rfl) rfl rfl Z1 ?_
      with_reducible refine (strconv_Itoa.calls (wrap64 (Int.tdiv a1 (wrap64 (-x5_1)))) t335 _ ?side1 A8.out).mono ?_
      (case side1 => exact Z217)
      rintro e w11 ⟨rfl, hb⟩; refine ⟨_, rfl, ?_⟩; have n0_ := AS (bbl (g := gb333) (o := .cells #[.string (⟨#[]⟩ : ByteArray), .string (⟨#[]⟩ : ByteArray)] 53 (0, 0)) Z93 hb); have n1_ := AS (bst Z22 hb); clear BK333 HB; have BK333 := n0_; have HB := n1_; clear n0_ n1_
      (try clear hb)
      (try clear hb2)
      (try clear hk)
      (try clear hi)
      refine hK.out _ _ trivial (fun hHeld => ?_); clear hK K; refine norm_ (a' := ?_) ?_ ?_; rotate_left
      ·show Act.put _ (some 26) _ = _
       simp only [Act.put, List.setIfInBounds_toArray, List.set_cons_zero, List.set_cons_succ, i64_w, i32_w]; rfl
      refine pure_ (i := 8) (N := some 27) (v := ?_) (a' := ?_) #[true, true, true, true, true, true, true, true, true, false] rfl rfl (any_of HT_.out Z5) (fun _ _ _ h => h) (Or.inl ⟨by rfl, ?_⟩) ?_ ?_; rotate_left
      ·intro w'; go_simp; with_reducible rfl
      rotate_left
      ·simp only [Act.put, List.setIfInBounds_toArray, List.set_cons_zero, List.set_cons_succ, i64_w, i32_w]; rfl
      refine one_ (i := 9) (N := none) #[true, true, true, true, true, true, true, true, true, true] rfl rfl (one_of HT_.out Z5) (by decide) (fun K hK => ?_); have hs12 : w11.cell? ⟨gb333, 0, none⟩ = some (.string (⟨#[]⟩ : ByteArray)) := bc0 BK333.out; have hfs12 := bfz BK333.out 0; have hs13 : w11.cell? ⟨gb333, 1, none⟩ = some (.string (⟨#[]⟩ : ByteArray)) := bc1 BK333.out; have hfs13 := bfz BK333.out 1; refine skip_ (w1 := ?_) (by rfl) rfl ?_ ?_; rotate_left
      ·go_simp; rfl
      refine hK.out _ _ trivial (fun hHeld => ?_); clear hK K; refine done_ (done_of HT_.out Z5) ?_; (try go_wp2); refine bodyPost_ret (results_cell_row rfl _ _ gb333 53 #[.string t334, .string t335] (0, 0) _ rfl (by (with_reducible repeat (first | apply bdn | apply bdr | apply bal)); refine bpt (cs := #[.string t334, .string (⟨#[]⟩ : ByteArray)]) ?_ 1 _ rfl; (with_reducible repeat (first | apply bdn | apply bdr | apply bal)); refine bpt (cs := #[.string (⟨#[]⟩ : ByteArray), .string (⟨#[]⟩ : ByteArray)]) ?_ 0 _ rfl; (with_reducible repeat (first | apply bdn | apply bdr | apply bal)); exact BK333.out) Tryz.underlying53 rfl Z5) rfl ?_; exact ⟨Z3, Z22⟩
    ·rw [if_neg c5] at H
     have c5b0 : decide (x5_1 < 0) = false := decide_eq_false c5; clear c5
     by_cases c14 : x5_1 = 0
     ·rw [if_pos c14] at H
      exact absurd H (by simp)
     ·rw [if_neg c14] at H
      have c14b0 : (x5_1 == 0) = false := beq_eq_false_iff_ne.mpr c14; have c14b1 : (x5_1 != 0) = true := bne_iff_ne.mpr c14; replace H := Option.bind_eq_some_iff.mp H; obtain ⟨t336, A150, H⟩ := H; replace H : ((strconv_Itoa.f (wrap64 (Int.tdiv a1 x5_1))).bind fun t337 => (some (t336, t337))) = some (r1, r2) := H; have A15 := AS A150; clear A150; replace H := Option.bind_eq_some_iff.mp H; obtain ⟨t337, A160, H⟩ := H; replace H : (some (t336, t337)) = some (r1, r2) := H; have A16 := AS A160; clear A160
      simp only [Option.some.injEq, Prod.mk.injEq] at H
      obtain ⟨rfl, rfl⟩ := H; (try go_wp2); have n0_ := AS (bdr BK333.out); have n1_ := AS (bl1 HB.out); clear BK333 HB; have BK333 := n0_; have HB := n1_; clear n0_ n1_
      refine start_ (n := 10) (S := fun w' => True) (ds := []) #[false, false, false, false, false, false, false, false, false, false] Z5 rfl rfl trivial (fun hHeld => ?_); refine with_tabW fraction_of.tab6 fraction_of.bits6 (fun HT_ HW_ => ?_)
      generalize wr.drew = w17 at BK333 HB hHeld ⊢; refine pure_ (i := 0) (N := some 19) (v := ?_) (a' := ?_) #[true, false, false, false, false, false, false, false, false, false] rfl rfl (any_of HT_.out Z5) (fun _ _ _ h => h) (Or.inl ⟨by rfl, ?_⟩) ?_ ?_; rotate_left
      ·intro w'; go_simp; with_reducible rfl
      rotate_left
      ·simp only [Act.put, List.setIfInBounds_toArray, List.set_cons_zero, List.set_cons_succ, i64_w, i32_w]; rfl
      refine pure_ (i := 1) (N := some 20) (v := ?_) (a' := ?_) #[true, true, false, false, false, false, false, false, false, false] rfl rfl (any_of HT_.out Z5) (fun _ _ _ h => h) (Or.inl ⟨by rfl, ?_⟩) ?_ ?_; rotate_left
      ·intro w'; go_simp; with_reducible rfl
      rotate_left
      ·simp only [Act.put, List.setIfInBounds_toArray, List.set_cons_zero, List.set_cons_succ, i64_w, i32_w]; rfl
      refine pure_ (i := 2) (N := some 21) (v := ?_) (a' := ?_) #[true, true, true, false, false, false, false, false, false, false] rfl rfl (any_of HT_.out Z5) (fun _ _ _ h => h) (Or.inl ⟨by rfl, ?_⟩) ?_ ?_; rotate_left
      ·intro w'; go_simp; with_reducible rfl
      rotate_left
      ·simp only [Act.put, List.setIfInBounds_toArray, List.set_cons_zero, List.set_cons_succ, i64_w, i32_w]; rfl
      refine pure_ (i := 4) (N := some 23) (v := ?_) (a' := ?_) #[true, true, true, false, true, false, false, false, false, false] rfl rfl (any_of HT_.out Z5) (fun _ _ _ h => h) (Or.inl ⟨by rfl, ?_⟩) ?_ ?_; rotate_left
      ·intro w'; go_simp; with_reducible rfl
      rotate_left
      ·simp only [Act.put, List.setIfInBounds_toArray, List.set_cons_zero, List.set_cons_succ, i64_w, i32_w]; rfl
      refine pure_ (i := 5) (N := some 24) (v := ?_) (a' := ?_) #[true, true, true, false, true, true, false, false, false, false] rfl rfl (any_of HT_.out Z5) (fun _ _ _ h => h) (Or.inl ⟨by rfl, ?_⟩) ?_ ?_; rotate_left
      ·intro w'; go_simp; with_reducible rfl
      rotate_left
      ·simp only [Act.put, List.setIfInBounds_toArray, List.set_cons_zero, List.set_cons_succ, i64_w, i32_w]; rfl
      refine pure_ (i := 6) (N := some 25) (v := ?_) (a' := ?_) #[true, true, true, false, true, true, true, false, false, false] rfl rfl (any_of HT_.out Z5) (fun _ _ _ h => h) (Or.inl ⟨by rfl, ?_⟩) ?_ ?_; rotate_left
      ·intro w'; go_simp; with_reducible rfl
      rotate_left
      ·simp only [Act.put, List.setIfInBounds_toArray, List.set_cons_zero, List.set_cons_succ, i64_w, i32_w]; rfl
      refine one_ (i := 3) (N := some 22) #[true, true, true, true, true, true, true, false, false, false] rfl rfl (one_of HT_.out Z5) (by decide) (fun K hK => ?_); refine goes_ Tryz.func90 Z5 rfl #[.int .i64 (wrap64 (Int.tdiv a0 x5_1))] (by rfl) rfl rfl Z1 ?_
      with_reducible refine (strconv_Itoa.calls (wrap64 (Int.tdiv a0 x5_1)) t336 _ ?side1 A15.out).mono ?_
      (case side1 => exact Z217)
      rintro e w18 ⟨rfl, hb⟩; refine ⟨_, rfl, ?_⟩; have n0_ := AS (bbl (g := gb333) (o := .cells #[.string (⟨#[]⟩ : ByteArray), .string (⟨#[]⟩ : ByteArray)] 53 (0, 0)) Z93 hb); have n1_ := AS (bst Z22 hb); clear BK333 HB; have BK333 := n0_; have HB := n1_; clear n0_ n1_
      (try clear hb)
      (try clear hb2)
      (try clear hk)
      (try clear hi)
      refine hK.out _ _ trivial (fun hHeld => ?_); clear hK K; refine norm_ (a' := ?_) ?_ ?_; rotate_left
      ·show Act.put _ (some 22) _ = _
       simp only [Act.put, List.setIfInBounds_toArray, List.set_cons_zero, List.set_cons_succ, i64_w, i32_w]; rfl
      refine one_ (i := 7) (N := some 26) #[true, true, true, true, true, true, true, true, false, false] rfl rfl (one_of HT_.out Z5) (by decide) (fun K hK => ?_); refine goes_ Tryz.func90 Z5 rfl #[.int .i64 (wrap64 (Int.tdiv a1 x5_1))] (by rfl) rfl rfl Z1 ?_
      with_reducible refine (strconv_Itoa.calls (wrap64 (Int.tdiv a1 x5_1)) t337 _ ?side1 A16.out).mono ?_
      (case side1 => exact Z217)
      rintro e w19 ⟨rfl, hb⟩; refine ⟨_, rfl, ?_⟩; have n0_ := AS (bbl (g := gb333) (o := .cells #[.string (⟨#[]⟩ : ByteArray), .string (⟨#[]⟩ : ByteArray)] 53 (0, 0)) Z93 hb); have n1_ := AS (bst Z22 hb); clear BK333 HB; have BK333 := n0_; have HB := n1_; clear n0_ n1_
      (try clear hb)
      (try clear hb2)
      (try clear hk)
      (try clear hi)
      refine hK.out _ _ trivial (fun hHeld => ?_); clear hK K; refine norm_ (a' := ?_) ?_ ?_; rotate_left
      ·show Act.put _ (some 26) _ = _
       simp only [Act.put, List.setIfInBounds_toArray, List.set_cons_zero, List.set_cons_succ, i64_w, i32_w]; rfl
      refine pure_ (i := 8) (N := some 27) (v := ?_) (a' := ?_) #[true, true, true, true, true, true, true, true, true, false] rfl rfl (any_of HT_.out Z5) (fun _ _ _ h => h) (Or.inl ⟨by rfl, ?_⟩) ?_ ?_; rotate_left
      ·intro w'; go_simp; with_reducible rfl
      rotate_left
      ·simp only [Act.put, List.setIfInBounds_toArray, List.set_cons_zero, List.set_cons_succ, i64_w, i32_w]; rfl
      refine one_ (i := 9) (N := none) #[true, true, true, true, true, true, true, true, true, true] rfl rfl (one_of HT_.out Z5) (by decide) (fun K hK => ?_); have hs20 : w19.cell? ⟨gb333, 0, none⟩ = some (.string (⟨#[]⟩ : ByteArray)) := bc0 BK333.out; have hfs20 := bfz BK333.out 0; have hs21 : w19.cell? ⟨gb333, 1, none⟩ = some (.string (⟨#[]⟩ : ByteArray)) := bc1 BK333.out; have hfs21 := bfz BK333.out 1; refine skip_ (w1 := ?_) (by rfl) rfl ?_ ?_; rotate_left
      ·go_simp; rfl
      refine hK.out _ _ trivial (fun hHeld => ?_); clear hK K; refine done_ (done_of HT_.out Z5) ?_; (try go_wp2); refine bodyPost_ret (results_cell_row rfl _ _ gb333 53 #[.string t336, .string t337] (0, 0) _ rfl (by (with_reducible repeat (first | apply bdn | apply bdr | apply bal)); refine bpt (cs := #[.string t336, .string (⟨#[]⟩ : ByteArray)]) ?_ 1 _ rfl; (with_reducible repeat (first | apply bdn | apply bdr | apply bal)); refine bpt (cs := #[.string (⟨#[]⟩ : ByteArray), .string (⟨#[]⟩ : ByteArray)]) ?_ 0 _ rfl; (with_reducible repeat (first | apply bdn | apply bdr | apply bal)); exact BK333.out) Tryz.underlying53 rfl Z5) rfl ?_; exact ⟨Z3, Z22⟩
   ·rw [if_neg c4] at H
    have c4b0 : (x6_1 == 0) = false := beq_eq_false_iff_ne.mpr c4; have c4b1 : (x6_1 != 0) = true := bne_iff_ne.mpr c4; have H' := AS H; clear H; (try go_wp2); have n0_ := AS (bdr BK333.out); have n1_ := AS (bl1 HB.out); clear BK333 HB; have BK333 := n0_; have HB := n1_; clear n0_ n1_; refine start_ (n := 6) (S := fun w' => True) (ds := []) #[false, false, false, false, false, false] Z5 rfl rfl trivial (fun hHeld => ?_); generalize wr.drew = w22 at BK333 HB hHeld ⊢; refine pure_ (i := 0) (N := some 11) (v := ?_) (a' := ?_) #[true, false, false, false, false, false] rfl rfl Z5 (fun _ _ _ h => h) (Or.inl ⟨by rfl, ?_⟩) ?_ ?_; rotate_left
    ·intro w'; go_simp; with_reducible rfl
    rotate_left
    ·simp only [Act.put, List.setIfInBounds_toArray, List.set_cons_zero, List.set_cons_succ, i64_w, i32_w]; rfl
    refine pure_ (i := 1) (N := some 12) (v := ?_) (a' := ?_) #[true, true, false, false, false, false] rfl rfl Z5 (fun _ _ _ h => h) (Or.inl ⟨by rfl, ?_⟩) ?_ ?_; rotate_left
    ·intro w'; go_simp; with_reducible rfl
    rotate_left
    ·simp only [Act.put, List.setIfInBounds_toArray, List.set_cons_zero, List.set_cons_succ, i64_w, i32_w]; rfl
    refine pure_ (i := 2) (N := some 13) (v := ?_) (a' := ?_) #[true, true, true, false, false, false] rfl rfl Z5 (fun _ _ _ h => h) (Or.inl ⟨by rfl, ?_⟩) ?_ ?_; rotate_left
    ·intro w'; go_simp; with_reducible rfl
    rotate_left
    ·simp only [Act.put, List.setIfInBounds_toArray, List.set_cons_zero, List.set_cons_succ, i64_w, i32_w]; rfl
    refine pure_ (i := 3) (N := some 14) (v := ?_) (a' := ?_) #[true, true, true, true, false, false] rfl rfl Z5 (fun _ _ _ h => h) (Or.inl ⟨by rfl, ?_⟩) ?_ ?_; rotate_left
    ·intro w'; go_simp; with_reducible rfl
    rotate_left
    ·simp only [Act.put, List.setIfInBounds_toArray, List.set_cons_zero, List.set_cons_succ, i64_w, i32_w]; rfl
    refine pure_ (i := 4) (N := some 5) (v := ?_) (a' := ?_) #[true, true, true, true, true, false] rfl rfl Z5 (fun _ _ _ h => h) (Or.inl ⟨by rfl, ?_⟩) ?_ ?_; rotate_left
    ·intro w'; go_simp; with_reducible rfl
    rotate_left
    ·simp only [Act.put, List.setIfInBounds_toArray, List.set_cons_zero, List.set_cons_succ, i64_w, i32_w]; rfl
    refine pure_ (i := 5) (N := some 6) (v := ?_) (a' := ?_) #[true, true, true, true, true, true] rfl rfl Z5 (fun _ _ _ h => h) (Or.inl ⟨by rfl, ?_⟩) ?_ ?_; rotate_left
    ·intro w'; go_simp; with_reducible rfl
    rotate_left
    ·simp only [Act.put, List.setIfInBounds_toArray, List.set_cons_zero, List.set_cons_succ, i64_w, i32_w]; rfl
    refine done_ Z5 ?_; (try go_wp2)
    go_roundg k1
    case measure => have := HK1.out; omega
    case rel => exact ⟨(x6_1), (Int.tmod x5_1 x6_1), Z4, Z4, H', ⟨Z88⟩, ⟨Z93⟩, ⟨Z22⟩⟩
def fraction_Mul.f (k : Nat) (a0_0 : ByteArray) (a0_1 : ByteArray) (a1_0 : ByteArray) (a1_1 : ByteArray) : Option (ByteArray × ByteArray) := (fraction_both.f a0_0 a0_1).bind fun bt341 => (if bt341.2.2 = true then ((fraction_both.f a1_0 a1_1).bind fun bt344 => (if bt344.2.2 = true then ((fraction_of.f k (wrap64 (bt341.1 * bt344.1)) (wrap64 (bt341.2.1 * bt344.2.1))).bind fun bt347 => (some (bt347.1, bt347.2))) else (none))) else (none))
set_option maxHeartbeats 8000000 in
set_option maxRecDepth 100000 in
theorem fraction_Mul.calls (k : Nat) (a0_0 : ByteArray) (a0_1 : ByteArray) (a1_0 : ByteArray) (a1_1 : ByteArray) (r1 : ByteArray) (r2 : ByteArray) (w : World) (hG : GL w) (h : fraction_Mul.f k a0_0 a0_1 a1_0 a1_1 = some (r1, r2)) :
  Calls Tryz.prog 184 #[.agg #[.string a0_0, .string a0_1], .agg #[.string a1_0, .string a1_1]] w fun e w' => e = .returned (.agg #[.string r1, .string r2]) ∧ Below w.heap.size w w' := by
 have hu53 := Tryz.underlying53; have HB := AS (Below.refl w.heap.size w); have H : ((fraction_both.f a0_0 a0_1).bind fun bt341 => (if bt341.2.2 = true then ((fraction_both.f a1_0 a1_1).bind fun bt344 => (if bt344.2.2 = true then ((fraction_of.f k (wrap64 (bt341.1 * bt344.1)) (wrap64 (bt341.2.1 * bt344.2.1))).bind fun bt347 => (some (bt347.1, bt347.2))) else (none))) else (none))) = some (r1, r2) := h; clear h; replace H := Option.bind_eq_some_iff.mp H; obtain ⟨⟨t341, t342, t343⟩, A30, H⟩ := H; replace H : (if t343 = true then ((fraction_both.f a1_0 a1_1).bind fun bt344 => (if bt344.2.2 = true then ((fraction_of.f k (wrap64 (t341 * bt344.1)) (wrap64 (t342 * bt344.2.1))).bind fun bt347 => (some (bt347.1, bt347.2))) else (none))) else (none)) = some (r1, r2) := H; have A3 := AS A30; clear A30
 by_cases c4 : t343 = true
 ·subst c4
  rw [if_pos rfl] at H
  replace H := Option.bind_eq_some_iff.mp H; obtain ⟨⟨t344, t345, t346⟩, A50, H⟩ := H; replace H : (if t346 = true then ((fraction_of.f k (wrap64 (t341 * t344)) (wrap64 (t342 * t345))).bind fun bt347 => (some (bt347.1, bt347.2))) else (none)) = some (r1, r2) := H; have A5 := AS A50; clear A50
  by_cases c6 : t346 = true
  ·subst c6
   rw [if_pos rfl] at H
   replace H := Option.bind_eq_some_iff.mp H; obtain ⟨⟨t347, t348⟩, A70, H⟩ := H; replace H : (some (t347, t348)) = some (r1, r2) := H; have A7 := AS A70; clear A70
   simp only [Option.some.injEq, Prod.mk.injEq] at H
   obtain ⟨rfl, rfl⟩ := H; go_enter Tryz.func184, Tryz.ntmps184; go_wp2_with (first | ((with_reducible refine gtd (N := 2) rfl ?_); refine bxe ?hg (N := 2) ?hd (cs := #[.string a0_0, .string a0_1]) (t := 53) ?hr ?_; (case hd => rfl); (case hg => rfl); (case hr => exact Z11); intro gb338 hg w8 hbox hb; have BK338 := AS (hbox); have GW338 := AS ((Z183 : w.heap.size ≤ gb338)); have GE338 := AS ((Z183 : w.heap.size ≤ gb338)); replace HB := AS (bst Z0 hb); clear hb hbox hg) | ((with_reducible refine gtd (N := 3) rfl ?_); refine bxe ?hg (N := 3) ?hd (cs := #[.string a1_0, .string a1_1]) (t := 53) ?hr ?_; (case hd => rfl); (case hg => rfl); (case hr => exact Z11); intro gb339 hg w9 hbox hb; have BK339 := AS (hbox); have GW339 := AS ((by rw [hg]; exact (bsz Z114) : w.heap.size ≤ gb339)); have GE339 := AS ((by rw [hg]; exact (bsz Z114) : w.heap.size ≤ gb339)); have NB338_339 := AS ((Z205 : gb338 ≠ gb339)); have NB339_338 := AS ((Z206 : gb339 ≠ gb338)); replace BK338 := AS (bbl (g := gb338) (o := .cells #[.string a0_0, .string a0_1] 53 (0, 0)) Z66 hb); replace HB := AS (bst Z114 hb); clear hb hbox hg) | ((with_reducible refine gtd (N := 4) rfl ?_); refine bxe ?hg (N := 4) ?hd (cs := #[.string (⟨#[]⟩ : ByteArray), .string (⟨#[]⟩ : ByteArray)]) (t := 53) ?hr ?_; (case hd => rfl); (case hg => rfl); (case hr => exact Z11); intro gb340 hg w10 hbox hb; have BK340 := AS (hbox); have GW340 := AS ((by rw [hg]; exact (bsz Z98) : w.heap.size ≤ gb340)); have GE340 := AS ((by rw [hg]; exact (bsz Z98) : w.heap.size ≤ gb340)); have NB338_340 := AS ((Z205 : gb338 ≠ gb340)); have NB340_338 := AS ((Z206 : gb340 ≠ gb338)); have NB339_340 := AS ((by rw [hg]; exact Nat.ne_of_lt (blk_lt (g := gb339) (o := .cells #[.string a1_0, .string a1_1] 53 (0, 0)) Z94) : gb339 ≠ gb340)); have NB340_339 := AS ((by rw [hg]; exact Nat.ne_of_gt (blk_lt (g := gb339) (o := .cells #[.string a1_0, .string a1_1] 53 (0, 0)) Z94) : gb340 ≠ gb339)); replace BK338 := AS (bbl (g := gb338) (o := .cells #[.string a0_0, .string a0_1] 53 (0, 0)) Z66 hb); replace BK339 := AS (bbl (g := gb339) (o := .cells #[.string a1_0, .string a1_1] 53 (0, 0)) Z94 hb); replace HB := AS (bst Z98 hb); clear hb hbox hg; have hnb11 := NB338_339.out; have hnc11 := NB339_338.out; have hnb12 := NB338_340.out; have hnc12 := NB340_338.out; have hcz13_0 := bc0 BK338.out; have hcz13_1 := bc1 BK338.out; have hfz13_0 := bfz BK338.out 0; have hfz13_1 := bfz BK338.out 1) | ((with_reducible refine gtc (f := 210) rfl ?_); refine gsL (some 13) rfl rfl Tryz.func210 Z5 rfl #[.agg #[.string a0_0, .string a0_1]] rfl Z1 ?_; (with_reducible refine (fraction_both.calls a0_0 a0_1 t341 t342 true _ ?side1 A3.out).mono ?_); (case side1 => exact GL.below hG Z35); rintro e w14 ⟨rfl, hb⟩; refine ⟨_, rfl, ?_⟩; replace BK338 := AS (bbl (g := gb338) (o := .cells #[.string a0_0, .string a0_1] 53 (0, 0)) Z66 hb); replace BK339 := AS (bbl (g := gb339) (o := .cells #[.string a1_0, .string a1_1] 53 (0, 0)) Z94 hb); replace BK340 := AS (bbl (g := gb340) (o := .cells #[.string (⟨#[]⟩ : ByteArray), .string (⟨#[]⟩ : ByteArray)] 53 (0, 0)) Z141 hb); replace HB := AS (bst Z35 hb); (try clear hb); (try clear hb2); (try clear hk); (try clear hi); have hnb15 := NB339_340.out; have hnc15 := NB340_339.out; have hcz16_0 := bc0 BK339.out; have hcz16_1 := bc1 BK339.out; have hfz16_0 := bfz BK339.out 0; have hfz16_1 := bfz BK339.out 1) | ((with_reducible refine gtc (f := 210) rfl ?_); refine gsL (some 20) rfl rfl Tryz.func210 Z5 rfl #[.agg #[.string a1_0, .string a1_1]] rfl Z1 ?_; (with_reducible refine (fraction_both.calls a1_0 a1_1 t344 t345 true _ ?side1 A5.out).mono ?_); (case side1 => exact GL.below hG Z35); rintro e w17 ⟨rfl, hb⟩; refine ⟨_, rfl, ?_⟩; replace BK338 := AS (bbl (g := gb338) (o := .cells #[.string a0_0, .string a0_1] 53 (0, 0)) Z66 hb); replace BK339 := AS (bbl (g := gb339) (o := .cells #[.string a1_0, .string a1_1] 53 (0, 0)) Z94 hb); replace BK340 := AS (bbl (g := gb340) (o := .cells #[.string (⟨#[]⟩ : ByteArray), .string (⟨#[]⟩ : ByteArray)] 53 (0, 0)) Z141 hb); replace HB := AS (bst Z35 hb); (try clear hb); (try clear hb2); (try clear hk); (try clear hi)) | ((with_reducible refine gtc (f := 211) rfl ?_); refine gsL (some 31) rfl rfl Tryz.func211 Z5 rfl #[.int .i64 (wrap64 (t341 * t344)), .int .i64 (wrap64 (t342 * t345))] rfl Z1 ?_; (with_reducible refine (fraction_of.calls k (wrap64 (t341 * t344)) (wrap64 (t342 * t345)) t347 t348 _ ?side1 A7.out).mono ?_); (case side1 => exact GL.below hG Z35); rintro e w18 ⟨rfl, hb⟩; refine ⟨_, rfl, ?_⟩; replace BK338 := AS (bbl (g := gb338) (o := .cells #[.string a0_0, .string a0_1] 53 (0, 0)) Z66 hb); replace BK339 := AS (bbl (g := gb339) (o := .cells #[.string a1_0, .string a1_1] 53 (0, 0)) Z94 hb); replace BK340 := AS (bbl (g := gb340) (o := .cells #[.string (⟨#[]⟩ : ByteArray), .string (⟨#[]⟩ : ByteArray)] 53 (0, 0)) Z141 hb); replace HB := AS (bst Z35 hb); (try clear hb); (try clear hb2); (try clear hk); (try clear hi); have hcz19_0 := bc0 BK340.out; have hcz19_1 := bc1 BK340.out; have hfz19_0 := bfz BK340.out 0; have hfz19_1 := bfz BK340.out 1)); refine bodyPost_ret (results_cell_row rfl _ _ gb340 53 #[.string t347, .string t348] (0, 0) _ rfl (by (with_reducible repeat (first | apply bdn | apply bdr | apply bal)); refine bpt (cs := #[.string t347, .string (⟨#[]⟩ : ByteArray)]) ?_ 1 _ rfl; (with_reducible repeat (first | apply bdn | apply bdr | apply bal)); refine bpt (cs := #[.string (⟨#[]⟩ : ByteArray), .string (⟨#[]⟩ : ByteArray)]) ?_ 0 _ rfl; (with_reducible repeat (first | apply bdn | apply bdr | apply bal)); exact BK340.out) Tryz.underlying53 rfl Z5) rfl ?_; exact ⟨Z3, Z35⟩
  ·replace c6 := Bool.eq_false_iff.mpr c6; subst c6
   rw [if_neg (show ¬ (false = true) by decide)] at H
   exact absurd H (by simp)
 ·replace c4 := Bool.eq_false_iff.mpr c4; subst c4
  rw [if_neg (show ¬ (false = true) by decide)] at H
  exact absurd H (by simp)

section
attribute [local go_sem high] eqA53
mutual
def szra.l0 : Nat → List (S53) → List (S53) → List (S53) → Int → Int → ByteArray → ByteArray → Option (ByteArray × ByteArray × Bool)
 | 0, _, _, _, _, _, _, _ => none
 | k + 1, x0, x1, x12, x13, x14, x353000, x353001 => if x14 < x13 then (if 0 ≤ x14 then (if x14 < (x12.length : Int) then (if ((rd_T53 x12 x14).f0).toList = ([48] : List UInt8) then (szra.l0 k x0 x1 x12 x13 (wrap64 (x14 + 1)) x353000 x353001) else (if x14 < (x0.length : Int) then ((fraction_Div.f k ((rd_T53 x0 x14).f0) ((rd_T53 x0 x14).f1) ((rd_T53 x12 x14).f0) ((rd_T53 x12 x14).f1)).bind fun bt356 => (szra.l0 k x0 x1 x12 x13 (wrap64 (x14 + 1)) bt356.1 bt356.2.1)) else (none))) else (none)) else (none)) else (szra.l1 k x0 x1 (x1.length : Int) 0 x353000 x353001)
def szra.l1 : Nat → List (S53) → List (S53) → Int → Int → ByteArray → ByteArray → Option (ByteArray × ByteArray × Bool)
 | 0, _, _, _, _, _, _ => none
 | k + 1, x0, x32, x33, x34, x353000, x353001 => if x34 < x33 then (if 0 ≤ x34 then (if x34 < (x32.length : Int) then ((fraction_Mul.f k x353000 x353001 ((rd_T53 x32 x34).f0) ((rd_T53 x32 x34).f1)).bind fun bt361 => (if x34 < (x0.length : Int) then (if (!(bt361.1.toList == (((rd_T53 x0 x34).f0).toList)) || (!(bt361.2.toList == (((rd_T53 x0 x34).f1).toList)))) = true then (some (x353000, x353001, false)) else (szra.l1 k x0 x32 x33 (wrap64 (x34 + 1)) x353000 x353001)) else (none))) else (none)) else (none)) else (some (x353000, x353001, true))
end
def szra.f (k : Nat) (l0 : List (S53)) (l1 : List (S53)) : Option (ByteArray × ByteArray × Bool) := (size_number.f 0).bind fun bt350 => (szra.l0 k l0 l1 l1 (l1.length : Int) 0 bt350.1 bt350.2)
def szra.T6 : Bool × List (List Nat × List Nat) := (true, [([], []), ([], []), ([0, 1], [0, 1]), ([2], [2]), ([], []), ([3, 4], [3, 4]), ([5], [5]), ([6], [6]), ([6], [6]), ([7, 5, 0, 1, 2, 3, 4, 5, 6, 7], [7])])
def szra.B6 : List Nat := [0, 0, 3, 7, 0, 31, 63, 127, 127, 255]
theorem szra.tab6 : rtab .any (opsOf Tryz.f150 6) = szra.T6 := by kernel_rfl
theorem szra.bits6 : waitsOk szra.T6.2 szra.B6 = true := by kernel_rfl
def szra.T11 : Bool × List (List Nat × List Nat) := (true, [([], []), ([], []), ([0, 1], [0, 1]), ([], []), ([], []), ([3, 4], [3, 4]), ([5], [5]), ([2, 6], [2, 6])])
def szra.B11 : List Nat := [0, 0, 3, 0, 0, 24, 56, 127]
theorem szra.tab11 : rtab .any (opsOf Tryz.f150 11) = szra.T11 := by kernel_rfl
theorem szra.bits11 : waitsOk szra.T11.2 szra.B11 = true := by kernel_rfl
set_option maxHeartbeats 8000000 in
set_option maxRecDepth 100000 in
theorem szra.calls (k : Nat) (A0 : Option Addr) (c0 : Nat) (l0 : List (S53)) (A1 : Option Addr) (c1 : Nat) (l1 : List (S53)) (r1 : ByteArray) (r2 : ByteArray) (r3 : Bool) (w : World) (hr0 : Kd.C k53 w A0 l0.length l0) (hc0 : l0.length ≤ c0) (hr1 : Kd.C k53 w A1 l1.length l1) (hc1 : l1.length ≤ c1) (hG : GL w) (h : szra.f k l0 l1 = some (r1, r2, r3)) :
  Calls Tryz.prog 150 #[.slice A0 l0.length c0, .slice A1 l1.length c1] w fun e w' => e = .returned (.tuple #[.agg #[.string r1, .string r2], .bool r3]) ∧ Below w.heap.size w w' := by
 have hu53 := Tryz.underlying53; have HR0 := AS hr0; have HC0 := AS hc0; clear hr0 hc0; have HR1 := AS hr1; have HC1 := AS hc1; clear hr1 hc1; have HB := AS (Below.refl w.heap.size w); have H : ((size_number.f 0).bind fun bt350 => (szra.l0 k l0 l1 l1 (l1.length : Int) 0 bt350.1 bt350.2)) = some (r1, r2, r3) := h; clear h; replace H := Option.bind_eq_some_iff.mp H; obtain ⟨⟨t350, t351⟩, A30, H⟩ := H; replace H : (szra.l0 k l0 l1 l1 (l1.length : Int) 0 t350 t351) = some (r1, r2, r3) := H; have A3 := AS A30; clear A30; have H' := AS H; clear H; go_enter Tryz.func150, Tryz.ntmps150; go_wp2_with (first | ((with_reducible refine gtd (N := 4) rfl ?_); refine bxe ?hg (N := 4) ?hd (cs := #[.string (⟨#[]⟩ : ByteArray), .string (⟨#[]⟩ : ByteArray)]) (t := 53) ?hr ?_; (case hd => rfl); (case hg => rfl); (case hr => exact Z11); intro gb349 hg w4 hbox hb; have BK349 := AS (hbox); have GW349 := AS ((Z183 : w.heap.size ≤ gb349)); have GE349 := AS ((Z183 : w.heap.size ≤ gb349)); replace HB := AS (bst Z0 hb); clear hb hbox hg) | ((with_reducible refine gtc (f := 147) rfl ?_); refine gsL (some 11) rfl rfl Tryz.func147 Z5 rfl #[.int .i64 0] rfl Z1 ?_; (with_reducible refine (size_number.calls 0 t350 t351 _ ?side1 A3.out).mono ?_); (case side1 => exact GL.below hG Z69); rintro e w5 ⟨rfl, hb⟩; refine ⟨_, rfl, ?_⟩; replace BK349 := AS (bbl (g := gb349) (o := .cells #[.string (⟨#[]⟩ : ByteArray), .string (⟨#[]⟩ : ByteArray)] 53 (0, 0)) Z18 hb); replace HB := AS (bst Z69 hb); (try clear hb); (try clear hb2); (try clear hk); (try clear hi)) | ((with_reducible refine gtd (N := 6) rfl ?_); refine bxe ?hg (N := 6) ?hd (cs := #[.string (⟨#[]⟩ : ByteArray), .string (⟨#[]⟩ : ByteArray)]) (t := 53) ?hr ?_; (case hd => rfl); (case hg => rfl); (case hr => exact Z11); intro gb352 hg w6 hbox hb; have BK352 := AS (hbox); have GW352 := AS ((by rw [hg]; exact (bsz Z69) : w.heap.size ≤ gb352)); have GE352 := AS ((by rw [hg]; exact (bsz Z69) : w.heap.size ≤ gb352)); have NB349_352 := AS ((Z192 : gb349 ≠ gb352)); have NB352_349 := AS ((Z193 : gb352 ≠ gb349)); replace BK349 := AS (bbl (g := gb349) (o := .cells #[.string (⟨#[]⟩ : ByteArray), .string (⟨#[]⟩ : ByteArray)] 53 (0, 0)) Z18 hb); replace HB := AS (bst Z69 hb); clear hb hbox hg; have hnb7 := NB352_349.out; have hnc7 := NB349_352.out; have hcz8_0 := bc0 BK352.out; have hcz8_1 := bc1 BK352.out; have hfz8_0 := bfz BK352.out 0; have hfz8_1 := bfz BK352.out 1))
 go_loopg [14] k (fun kq v14 w' => ∃ (x14_1 : Int) (x353000_1 : ByteArray) (x353001_1 : ByteArray), v14 = .int .i64 x14_1 ∧ Aside0 (szra.l0 kq l0 l1 l1 (l1.length : Int) x14_1 x353000_1 x353001_1 = some (r1, r2, r3)) ∧ Aside0 (kq ≤ k) ∧ Aside0 (w'.heap[gb349]? = some (.cells #[.string (⟨#[]⟩ : ByteArray), .string (⟨#[]⟩ : ByteArray)] 53 (0, 0))) ∧ Aside0 (w'.heap[gb352]? = some (.cells #[.string x353000_1, .string x353001_1] 53 (0, 0))) ∧ Aside0 (Below w.heap.size w w'))
 case atStart => exact ⟨(0), (t350), (t351), Z4, H', ⟨Nat.le_refl _⟩, ⟨Z83⟩, ⟨by (with_reducible repeat (first | apply bdn | apply bdr | apply bal)); refine bpt (cs := #[.string t350, .string (⟨#[]⟩ : ByteArray)]) ?_ 1 _ rfl; (with_reducible repeat (first | apply bdn | apply bdr | apply bal)); refine bpt (cs := #[.string (⟨#[]⟩ : ByteArray), .string (⟨#[]⟩ : ByteArray)]) ?_ 0 _ rfl; (with_reducible repeat (first | apply bdn | apply bdr | apply bal)); exact BK352.out⟩, ⟨Z12⟩⟩
 case round =>
  clear H'; (try clear c1); (try clear p2); (try clear c7); (try clear hcz8_0); (try clear hcz8_1); (try clear hfz8_0); (try clear hfz8_1); obtain ⟨x14_1, x353000_1, x353001_1, rfl, HA, HK1, BK349, BK352, HB⟩ := hrel
  cases gk with
  | zero => exact absurd HA.out (by simp [szra.l0])
  | succ k1 =>
   have H := HA.out; clear HA
   simp only [szra.l0] at H
   by_cases c9 : x14_1 < (l1.length : Int)
   ·rw [if_pos c9] at H
    have c9b0 : decide (x14_1 < (l1.length : Int)) = true := decide_eq_true c9; clear c9
    by_cases c10 : 0 ≤ x14_1
    ·rw [if_pos c10] at H
     have c10b0 : decide (0 ≤ x14_1) = true := decide_eq_true c10; clear c10
     by_cases c11 : x14_1 < (l1.length : Int)
     ·rw [if_pos c11] at H
      have c11b0 : decide (x14_1 < (l1.length : Int)) = true := decide_eq_true c11; clear c11
      by_cases c12 : ((rd_T53 l1 x14_1).f0).toList = ([48] : List UInt8)
      ·rw [if_pos c12] at H
       have c12b0 : (((rd_T53 l1 x14_1).f0).toList == ([48] : List UInt8)) = true := beq_iff_eq.mpr c12; have c12b1 : (((rd_T53 l1 x14_1).f0).toList != ([48] : List UInt8)) = false := bne_eq_false_iff_eq.mpr c12; clear c12; have H' := AS H; clear H; have p353 : 0 ≤ (x14_1 : Int) := of_decide_eq_true Z2; have q353 : x14_1 < (l1.length : Int) := of_decide_eq_true Z2; obtain ⟨ad353, e353, hx353_0, hx353_1⟩ := at_T53 HR1.out x14_1 p353 q353; cases e353; replace hx353_0 := (HB.out.cell (World.block_lt_of_cell? w _ hx353_0)).trans hx353_0; replace hx353_1 := (HB.out.cell (World.block_lt_of_cell? w _ hx353_1)).trans hx353_1; replace p353 := eq_true p353; replace q353 := eq_true q353; go_wp2_with (first | ((with_reducible refine gtd (N := 8) rfl ?_); refine bxe ?hg (N := 8) ?hd (cs := #[.string (⟨#[]⟩ : ByteArray), .string (⟨#[]⟩ : ByteArray)]) (t := 53) ?hr ?_; (case hd => rfl); (case hg => rfl); (case hr => exact Z11); intro gb354 hg w13 hbox hb; have BK354 := AS (hbox); have GW354 := AS ((Z197 : w.heap.size ≤ gb354)); have GE354 := AS ((Z197 : w.heap.size ≤ gb354)); have NB349_354 := AS ((Z192 : gb349 ≠ gb354)); have NB354_349 := AS ((Z193 : gb354 ≠ gb349)); have NB352_354 := AS ((Z188 : gb352 ≠ gb354)); have NB354_352 := AS ((Z189 : gb354 ≠ gb352)); replace BK349 := AS (bbl (g := gb349) (o := .cells #[.string (⟨#[]⟩ : ByteArray), .string (⟨#[]⟩ : ByteArray)] 53 (0, 0)) Z18 hb); replace BK352 := AS (bbl (g := gb352) (o := .cells #[.string x353000_1, .string x353001_1] 53 (0, 0)) Z26 hb); replace HB := AS (bst Z12 hb); clear hb hbox hg; have hnb14 := NB354_349.out; have hnc14 := NB349_354.out; have hnb15 := NB354_352.out; have hnc15 := NB352_354.out; have hcz16_0 := bc0 BK354.out; have hcz16_1 := bc1 BK354.out; have hfz16_0 := bfz BK354.out 0; have hfz16_1 := bfz BK354.out 1))
       go_roundg k1
       case measure => have := HK1.out; omega
       case rel => exact ⟨(wrap64 (x14_1 + 1)), (x353000_1), (x353001_1), Z4, H', ⟨Z88⟩, ⟨Z84⟩, ⟨Z85⟩, ⟨Z54⟩⟩
      ·rw [if_neg c12] at H
       have c12b0 : (((rd_T53 l1 x14_1).f0).toList == ([48] : List UInt8)) = false := beq_eq_false_iff_ne.mpr c12; have c12b1 : (((rd_T53 l1 x14_1).f0).toList != ([48] : List UInt8)) = true := bne_iff_ne.mpr c12
       by_cases c17 : x14_1 < (l0.length : Int)
       ·rw [if_pos c17] at H
        have c17b0 : decide (x14_1 < (l0.length : Int)) = true := decide_eq_true c17; clear c17; replace H := Option.bind_eq_some_iff.mp H; obtain ⟨⟨t356, t357, t358⟩, A180, H⟩ := H; replace H : (szra.l0 k1 l0 l1 l1 (l1.length : Int) (wrap64 (x14_1 + 1)) t356 t357) = some (r1, r2, r3) := H; have A18 := AS A180; clear A180; have H' := AS H; clear H; have p353 : 0 ≤ (x14_1 : Int) := of_decide_eq_true Z2; have q353 : x14_1 < (l1.length : Int) := of_decide_eq_true Z2; obtain ⟨ad353, e353, hx353_0, hx353_1⟩ := at_T53 HR1.out x14_1 p353 q353; cases e353; replace hx353_0 := (HB.out.cell (World.block_lt_of_cell? w _ hx353_0)).trans hx353_0; replace hx353_1 := (HB.out.cell (World.block_lt_of_cell? w _ hx353_1)).trans hx353_1; replace p353 := eq_true p353; replace q353 := eq_true q353; (try go_wp2_with (first | ((with_reducible refine gtd (N := 8) rfl ?_); refine bxe ?hg (N := 8) ?hd (cs := #[.string (⟨#[]⟩ : ByteArray), .string (⟨#[]⟩ : ByteArray)]) (t := 53) ?hr ?_; (case hd => rfl); (case hg => rfl); (case hr => exact Z11); intro gb354 hg w19 hbox hb; have BK354 := AS (hbox); have GW354 := AS ((Z197 : w.heap.size ≤ gb354)); have GE354 := AS ((Z197 : w.heap.size ≤ gb354)); have NB349_354 := AS ((Z192 : gb349 ≠ gb354)); have NB354_349 := AS ((Z193 : gb354 ≠ gb349)); have NB352_354 := AS ((Z188 : gb352 ≠ gb354)); have NB354_352 := AS ((Z189 : gb354 ≠ gb352)); replace BK349 := AS (bbl (g := gb349) (o := .cells #[.string (⟨#[]⟩ : ByteArray), .string (⟨#[]⟩ : ByteArray)] 53 (0, 0)) Z18 hb); replace BK352 := AS (bbl (g := gb352) (o := .cells #[.string x353000_1, .string x353001_1] 53 (0, 0)) Z26 hb); replace HB := AS (bst Z12 hb); clear hb hbox hg; have hnb20 := NB354_349.out; have hnc20 := NB349_354.out; have hnb21 := NB354_352.out; have hnc21 := NB352_354.out; have hcz22_0 := bc0 BK354.out; have hcz22_1 := bc1 BK354.out; have hfz22_0 := bfz BK354.out 0; have hfz22_1 := bfz BK354.out 1))); have n0_ : Aside0 (((w19.setCell ⟨gb354, 0, none⟩ (.string ((rd_T53 l1 x14_1).f0))).setCell ⟨gb354, 1, none⟩ (.string ((rd_T53 l1 x14_1).f1))).heap[gb349]? = some (.cells #[.string (⟨#[]⟩ : ByteArray), .string (⟨#[]⟩ : ByteArray)] 53 (0, 0))) := ⟨Z84⟩; have n1_ : Aside0 (((w19.setCell ⟨gb354, 0, none⟩ (.string ((rd_T53 l1 x14_1).f0))).setCell ⟨gb354, 1, none⟩ (.string ((rd_T53 l1 x14_1).f1))).heap[gb352]? = some (.cells #[.string x353000_1, .string x353001_1] 53 (0, 0))) := ⟨Z85⟩; have n2_ : Aside0 (((w19.setCell ⟨gb354, 0, none⟩ (.string ((rd_T53 l1 x14_1).f0))).setCell ⟨gb354, 1, none⟩ (.string ((rd_T53 l1 x14_1).f1))).heap[gb354]? = some (.cells #[.string ((rd_T53 l1 x14_1).f0), .string ((rd_T53 l1 x14_1).f1)] 53 (0, 0))) := ⟨by (with_reducible repeat (first | apply bdn | apply bdr | apply bal)); refine bpt (cs := #[.string ((rd_T53 l1 x14_1).f0), .string (⟨#[]⟩ : ByteArray)]) ?_ 1 _ rfl; (with_reducible repeat (first | apply bdn | apply bdr | apply bal)); refine bpt (cs := #[.string (⟨#[]⟩ : ByteArray), .string (⟨#[]⟩ : ByteArray)]) ?_ 0 _ rfl; (with_reducible repeat (first | apply bdn | apply bdr | apply bal)); exact BK354.out⟩; have n3_ : Aside0 (Below w.heap.size w ((w19.setCell ⟨gb354, 0, none⟩ (.string ((rd_T53 l1 x14_1).f0))).setCell ⟨gb354, 1, none⟩ (.string ((rd_T53 l1 x14_1).f1)))) := ⟨Z54⟩
        (try clear BK349)
        (try clear BK352)
        (try clear BK354)
        (try clear HB)
        generalize ((w19.setCell ⟨gb354, 0, none⟩ (.string ((rd_T53 l1 x14_1).f0))).setCell ⟨gb354, 1, none⟩ (.string ((rd_T53 l1 x14_1).f1))) = w23 at n0_ n1_ n2_ n3_ ⊢; have BK349 := n0_; have BK352 := n1_; have BK354 := n2_; have HB := n3_; clear n0_ n1_ n2_ n3_; have n0_ := AS (bdr BK349.out); have n1_ := AS (bdr BK352.out); have n2_ := AS (bdr BK354.out); have n3_ := AS (bl1 HB.out); clear BK349 BK352; clear BK354 HB; have BK349 := n0_; have BK352 := n1_; have BK354 := n2_; have HB := n3_; clear n0_ n1_ n2_ n3_; have p355 : 0 ≤ (x14_1 : Int) := of_decide_eq_true Z2; have q355 : x14_1 < (l0.length : Int) := of_decide_eq_true Z2; obtain ⟨ad355, e355, hx355_0, hx355_1⟩ := at_T53 HR0.out x14_1 p355 q355; have hw355_1 := hx355_1; have hw355_0 := hx355_0; cases e355; replace hx355_0 := (HB.out.cell (World.block_lt_of_cell? w _ hx355_0)).trans hx355_0; replace hx355_1 := (HB.out.cell (World.block_lt_of_cell? w _ hx355_1)).trans hx355_1; replace p355 := eq_true p355; replace q355 := eq_true q355
        refine start_ (n := 10) (S := fun w' => w'.cell? ⟨gb354, 0, none⟩ = some (.string ((rd_T53 l1 x14_1).f0)) ∧ w'.cell? ⟨gb354, 1, none⟩ = some (.string ((rd_T53 l1 x14_1).f1)) ∧ w'.cell? (ad355.add ((x14_1).toNat * 2)) = some (.string ((rd_T53 l0 x14_1).f0)) ∧ w'.cell? ⟨(ad355.add ((x14_1).toNat * 2)).block, (ad355.add ((x14_1).toNat * 2)).off + 1, none⟩ = some (.string ((rd_T53 l0 x14_1).f1))) (ds := []) #[false, false, false, false, false, false, false, false, false, false] Z5 rfl rfl ⟨bc0 BK354.out, bc1 BK354.out, ((HB.out.cell (World.block_lt_of_cell? w _ hw355_0)).trans hw355_0), ((HB.out.cell (World.block_lt_of_cell? w _ hw355_1)).trans hw355_1)⟩ (fun hHeld => ?_); refine with_tabW szra.tab6 szra.bits6 (fun HT_ HW_ => ?_)
        generalize w23.drew = w24 at BK349 BK352 BK354 HB hx355_0 hx355_1 hHeld ⊢; refine pure_ (i := 0) (N := some 23) (v := ?_) (a' := ?_) #[true, false, false, false, false, false, false, false, false, false] rfl rfl (any_of HT_.out Z5) (fun _ _ _ h => h) (Or.inl ⟨by rfl, ?_⟩) ?_ ?_; rotate_left
        ·intro w'; go_simp; with_reducible rfl
        rotate_left
        ·simp only [Act.put, List.setIfInBounds_toArray, List.set_cons_zero, List.set_cons_succ, i64_w, i32_w]; rfl
        refine pure_ (i := 1) (N := some 24) (v := ?_) (a' := ?_) #[true, true, false, false, false, false, false, false, false, false] rfl rfl (any_of HT_.out Z5) (fun _ _ _ h => h) (Or.inl ⟨by rfl, ?_⟩) ?_ ?_; rotate_left
        ·intro w'; go_simp; with_reducible rfl
        rotate_left
        ·simp only [Act.put, List.setIfInBounds_toArray, List.set_cons_zero, List.set_cons_succ, i64_w, i32_w]; rfl
        refine pure_ (i := 2) (N := some 25) (v := ?_) (a' := ?_) #[true, true, true, false, false, false, false, false, false, false] rfl rfl (any_of HT_.out Z5) (fun _ _ _ h => h) (Or.inl ⟨by rfl, ?_⟩) ?_ ?_; rotate_left
        ·intro w'; go_simp; with_reducible rfl
        rotate_left
        ·simp only [Act.put, List.setIfInBounds_toArray, List.set_cons_zero, List.set_cons_succ, i64_w, i32_w]; rfl
        refine take_ (i := 3) (N := some 26) (v := ?_) (a' := ?_) #[true, true, true, true, false, false, false, false, false, false] rfl rfl (take_ofW HT_.out HW_.out Z5) (fun _ _ _ h => h) (Or.inl ⟨by rfl, ?_⟩) hHeld ?_ ?_; rotate_left
        ·rintro w' ⟨s0, s1, s2, s3⟩; go_simp; with_reducible rfl
        rotate_left
        ·simp only [Act.put, List.setIfInBounds_toArray, List.set_cons_zero, List.set_cons_succ, i64_w, i32_w]; rfl
        refine take_ (i := 4) (N := some 27) (v := ?_) (a' := ?_) #[true, true, true, true, true, false, false, false, false, false] rfl rfl (take_ofW HT_.out HW_.out Z5) (fun _ _ _ h => h) (Or.inl ⟨by rfl, ?_⟩) hHeld ?_ ?_; rotate_left
        ·rintro w' ⟨s0, s1, s2, s3⟩; go_simp; with_reducible rfl
        rotate_left
        ·simp only [Act.put, List.setIfInBounds_toArray, List.set_cons_zero, List.set_cons_succ, i64_w, i32_w]; rfl
        refine one_ (i := 5) (N := some 28) #[true, true, true, true, true, true, false, false, false, false] rfl rfl (one_of HT_.out Z5) (by decide) (fun K hK => ?_); refine goes_ Tryz.func183 Z5 rfl #[.agg #[.string ((rd_T53 l0 x14_1).f0), .string ((rd_T53 l0 x14_1).f1)], .agg #[.string ((rd_T53 l1 x14_1).f0), .string ((rd_T53 l1 x14_1).f1)]] (by rfl) rfl rfl Z1 ?_
        with_reducible refine (fraction_Div.calls k1 ((rd_T53 l0 x14_1).f0) ((rd_T53 l0 x14_1).f1) ((rd_T53 l1 x14_1).f0) ((rd_T53 l1 x14_1).f1) t356 t357 t358 _ ?side1 A18.out).mono ?_
        (case side1 => exact GL.below hG Z54)
        rintro e w25 ⟨rfl, hb⟩; refine ⟨_, rfl, ?_⟩; have n0_ := AS (bbl (g := gb349) (o := .cells #[.string (⟨#[]⟩ : ByteArray), .string (⟨#[]⟩ : ByteArray)] 53 (0, 0)) Z18 hb); have n1_ := AS (bbl (g := gb352) (o := .cells #[.string x353000_1, .string x353001_1] 53 (0, 0)) Z26 hb); have n2_ := AS (bbl (g := gb354) (o := .cells #[.string ((rd_T53 l1 x14_1).f0), .string ((rd_T53 l1 x14_1).f1)] 53 (0, 0)) (by (with_reducible repeat (first | apply bdn | apply bdr | apply bal)); exact BK354.out) hb); have n3_ := AS (bst Z54 hb); clear BK349 BK352; clear BK354 HB; have BK349 := n0_; have BK352 := n1_; have BK354 := n2_; have HB := n3_; clear n0_ n1_ n2_ n3_
        (try clear hb)
        (try clear hb2)
        (try clear hk)
        (try clear hi)
        refine hK.out _ _ ⟨bc0 BK354.out, bc1 BK354.out, ((HB.out.cell (World.block_lt_of_cell? w _ hw355_0)).trans hw355_0), ((HB.out.cell (World.block_lt_of_cell? w _ hw355_1)).trans hw355_1)⟩ (fun hHeld => ?_); clear hK K; refine norm_ (a' := ?_) ?_ ?_; rotate_left
        ·show Act.put _ (some 28) _ = _
         simp only [Act.put, List.setIfInBounds_toArray, List.set_cons_zero, List.set_cons_succ, i64_w, i32_w]; rfl
        refine pure_ (i := 6) (N := some 22) (v := ?_) (a' := ?_) #[true, true, true, true, true, true, true, false, false, false] rfl rfl (any_of HT_.out Z5) (fun _ _ _ h => h) (Or.inl ⟨by rfl, ?_⟩) ?_ ?_; rotate_left
        ·intro w'; go_simp; with_reducible rfl
        rotate_left
        ·simp only [Act.put, List.setIfInBounds_toArray, List.set_cons_zero, List.set_cons_succ, i64_w, i32_w]; rfl
        refine pure_ (i := 7) (N := some 29) (v := ?_) (a' := ?_) #[true, true, true, true, true, true, true, true, false, false] rfl rfl (any_of HT_.out Z5) (fun _ _ _ h => h) (Or.inl ⟨by rfl, ?_⟩) ?_ ?_; rotate_left
        ·intro w'; go_simp; with_reducible rfl
        rotate_left
        ·simp only [Act.put, List.setIfInBounds_toArray, List.set_cons_zero, List.set_cons_succ, i64_w, i32_w]; rfl
        refine pure_ (i := 8) (N := some 30) (v := ?_) (a' := ?_) #[true, true, true, true, true, true, true, true, true, false] rfl rfl (any_of HT_.out Z5) (fun _ _ _ h => h) (Or.inl ⟨by rfl, ?_⟩) ?_ ?_; rotate_left
        ·intro w'; go_simp; with_reducible rfl
        rotate_left
        ·simp only [Act.put, List.setIfInBounds_toArray, List.set_cons_zero, List.set_cons_succ, i64_w, i32_w]; rfl
        refine one_ (i := 9) (N := none) #[true, true, true, true, true, true, true, true, true, true] rfl rfl (one_of HT_.out Z5) (by decide) (fun K hK => ?_); have hs26 : w25.cell? ⟨gb352, 0, none⟩ = some (.string x353000_1) := bc0 BK352.out; have hfs26 := bfz BK352.out 0; have hns26_0 := NB349_352.out; have hns26_2 := NB354_352.out; have hms26_0 := NB352_349.out; have hms26_2 := NB352_354.out; have hs27 : w25.cell? ⟨gb352, 1, none⟩ = some (.string x353001_1) := bc1 BK352.out; have hfs27 := bfz BK352.out 1; have hns27_0 := NB349_352.out; have hns27_2 := NB354_352.out; have hms27_0 := NB352_349.out; have hms27_2 := NB352_354.out; refine skip_ (w1 := ?_) (by rfl) rfl ?_ ?_; rotate_left
        ·go_simp; rfl
        refine hK.out _ _ ⟨((cell_far (p := ⟨gb352, _, none⟩) NB354_352.out _).trans (((cell_far (p := ⟨gb352, _, none⟩) NB354_352.out _).trans (hHeld.1)))), ((cell_far (p := ⟨gb352, _, none⟩) NB354_352.out _).trans (((cell_far (p := ⟨gb352, _, none⟩) NB354_352.out _).trans (hHeld.2.1)))), ((cell_far (p := ⟨gb352, _, none⟩) Z184 _).trans (((cell_far (p := ⟨gb352, _, none⟩) Z184 _).trans (hHeld.2.2.1)))), ((cell_far (p := ⟨gb352, _, none⟩) Z185 _).trans (((cell_far (p := ⟨gb352, _, none⟩) Z185 _).trans (hHeld.2.2.2))))⟩ (fun hHeld => ?_); clear hK K; refine done_ (done_of HT_.out Z5) ?_; (try go_wp2)
        go_roundg k1
        case measure => have := HK1.out; omega
        case rel => exact ⟨(wrap64 (x14_1 + 1)), (t356), (t357), Z4, H', ⟨Z88⟩, ⟨Z83⟩, ⟨by (with_reducible repeat (first | apply bdn | apply bdr | apply bal)); refine bpt (cs := #[.string t356, .string x353001_1]) ?_ 1 _ rfl; (with_reducible repeat (first | apply bdn | apply bdr | apply bal)); refine bpt (cs := #[.string x353000_1, .string x353001_1]) ?_ 0 _ rfl; (with_reducible repeat (first | apply bdn | apply bdr | apply bal)); exact BK352.out⟩, ⟨Z54⟩⟩
       ·rw [if_neg c17] at H
        exact absurd H (by simp)
     ·rw [if_neg c11] at H
      exact absurd H (by simp)
    ·rw [if_neg c10] at H
     exact absurd H (by simp)
   ·rw [if_neg c9] at H
    have c9b0 : decide (x14_1 < (l1.length : Int)) = false := decide_eq_false c9; clear c9; have H' := AS H; clear H; go_wp2
    go_loopg [34] k1 (fun kq v34 w' => ∃ (x34_2 : Int) (x350000_2 : ByteArray) (x350001_2 : ByteArray), v34 = .int .i64 x34_2 ∧ Aside0 (szra.l1 kq l0 l1 (l1.length : Int) x34_2 x353000_1 x353001_1 = some (r1, r2, r3)) ∧ Aside0 (kq ≤ k1) ∧ Aside0 (w'.heap[gb349]? = some (.cells #[.string x350000_2, .string x350001_2] 53 (0, 0))) ∧ Aside0 (w'.heap[gb352]? = some (.cells #[.string x353000_1, .string x353001_1] 53 (0, 0))) ∧ Aside0 (Below w.heap.size w w'))
    case atStart => exact ⟨(0), ((⟨#[]⟩ : ByteArray)), ((⟨#[]⟩ : ByteArray)), Z4, H', ⟨Nat.le_refl _⟩, ⟨Z18⟩, ⟨Z26⟩, ⟨Z12⟩⟩
    case round =>
     clear H'; (try clear c1); (try clear c2); (try clear p2); (try clear p3); (try clear q3); (try clear hx3); (try clear p6); (try clear c7); (try clear c9); (try clear c9b0); (try clear c10); (try clear c10b0); (try clear c11); (try clear c11b0); (try clear c12); (try clear c12b0); (try clear c12b1); (try clear c14); (try clear c15); (try clear c17); (try clear c17b0); (try clear c18); (try clear c20); (try clear c21); (try clear hcz16_0); (try clear hcz16_1); (try clear hcz22_0); (try clear hcz22_1); (try clear hcz8_0); (try clear hcz8_1); (try clear hfz16_0); (try clear hfz16_1); (try clear hfz22_0); (try clear hfz22_1); (try clear hfz8_0); (try clear hfz8_1); (try clear hx353_0); (try clear hx353_1); (try clear hx355_0); (try clear hx355_1); (try clear p2); (try clear p353); (try clear p355); (try clear q353); (try clear q355); obtain ⟨x34_2, x350000_2, x350001_2, rfl, HA, HK2, BK349, BK352, HB⟩ := hrel
     cases gk with
     | zero => exact absurd HA.out (by simp [szra.l1])
     | succ k2 =>
      have H := HA.out; clear HA
      simp only [szra.l1] at H
      by_cases c28 : x34_2 < (l1.length : Int)
      ·rw [if_pos c28] at H
       have c28b0 : decide (x34_2 < (l1.length : Int)) = true := decide_eq_true c28; clear c28
       by_cases c29 : 0 ≤ x34_2
       ·rw [if_pos c29] at H
        have c29b0 : decide (0 ≤ x34_2) = true := decide_eq_true c29; clear c29
        by_cases c30 : x34_2 < (l1.length : Int)
        ·rw [if_pos c30] at H
         have c30b0 : decide (x34_2 < (l1.length : Int)) = true := decide_eq_true c30; clear c30; replace H := Option.bind_eq_some_iff.mp H; obtain ⟨⟨t361, t362⟩, A310, H⟩ := H; replace H : (if x34_2 < (l0.length : Int) then (if (!(t361.toList == (((rd_T53 l0 x34_2).f0).toList)) || (!(t362.toList == (((rd_T53 l0 x34_2).f1).toList)))) = true then (some (x353000_1, x353001_1, false)) else (szra.l1 k2 l0 l1 (l1.length : Int) (wrap64 (x34_2 + 1)) x353000_1 x353001_1)) else (none)) = some (r1, r2, r3) := H; have A31 := AS A310; clear A310
         by_cases c32 : x34_2 < (l0.length : Int)
         ·rw [if_pos c32] at H
          have c32b0 : decide (x34_2 < (l0.length : Int)) = true := decide_eq_true c32; clear c32
          by_cases c33 : (!(t361.toList == (((rd_T53 l0 x34_2).f0).toList)) || (!(t362.toList == (((rd_T53 l0 x34_2).f1).toList)))) = true
          ·rw [if_pos c33] at H
           have c33b0 : (!(t361.toList == (((rd_T53 l0 x34_2).f0).toList)) || (!(t362.toList == (((rd_T53 l0 x34_2).f1).toList)))) = true := c33; clear c33
           simp only [Option.some.injEq, Prod.mk.injEq] at H
           obtain ⟨rfl, rfl, rfl⟩ := H; have p359 : 0 ≤ (x34_2 : Int) := of_decide_eq_true Z2; have q359 : x34_2 < (l1.length : Int) := of_decide_eq_true Z2; obtain ⟨ad359, e359, hx359_0, hx359_1⟩ := at_T53 HR1.out x34_2 p359 q359; cases e359; replace hx359_0 := (HB.out.cell (World.block_lt_of_cell? w _ hx359_0)).trans hx359_0; replace hx359_1 := (HB.out.cell (World.block_lt_of_cell? w _ hx359_1)).trans hx359_1; replace p359 := eq_true p359; replace q359 := eq_true q359; (try go_wp2_with (first | ((with_reducible refine gtd (N := 10) rfl ?_); refine bxe ?hg (N := 10) ?hd (cs := #[.string (⟨#[]⟩ : ByteArray), .string (⟨#[]⟩ : ByteArray)]) (t := 53) ?hr ?_; (case hd => rfl); (case hg => rfl); (case hr => exact Z11); intro gb360 hg w34 hbox hb; have BK360 := AS (hbox); have GW360 := AS ((Z197 : w.heap.size ≤ gb360)); have GE360 := AS ((Z197 : w.heap.size ≤ gb360)); have NB349_360 := AS ((Z200 : gb349 ≠ gb360)); have NB360_349 := AS ((Z201 : gb360 ≠ gb349)); have NB352_360 := AS ((Z188 : gb352 ≠ gb360)); have NB360_352 := AS ((Z189 : gb360 ≠ gb352)); replace BK349 := AS (bbl (g := gb349) (o := .cells #[.string x350000_2, .string x350001_2] 53 (0, 0)) Z18 hb); replace BK352 := AS (bbl (g := gb352) (o := .cells #[.string x353000_1, .string x353001_1] 53 (0, 0)) Z26 hb); replace HB := AS (bst Z12 hb); clear hb hbox hg; have hnb35 := NB360_349.out; have hnc35 := NB349_360.out; have hnb36 := NB360_352.out; have hnc36 := NB352_360.out; have hcz37_0 := bc0 BK360.out; have hcz37_1 := bc1 BK360.out; have hfz37_0 := bfz BK360.out 0; have hfz37_1 := bfz BK360.out 1))); have n0_ : Aside0 (((w34.setCell ⟨gb360, 0, none⟩ (.string ((rd_T53 l1 x34_2).f0))).setCell ⟨gb360, 1, none⟩ (.string ((rd_T53 l1 x34_2).f1))).heap[gb349]? = some (.cells #[.string x350000_2, .string x350001_2] 53 (0, 0))) := ⟨Z86⟩; have n1_ : Aside0 (((w34.setCell ⟨gb360, 0, none⟩ (.string ((rd_T53 l1 x34_2).f0))).setCell ⟨gb360, 1, none⟩ (.string ((rd_T53 l1 x34_2).f1))).heap[gb352]? = some (.cells #[.string x353000_1, .string x353001_1] 53 (0, 0))) := ⟨Z87⟩; have n2_ : Aside0 (((w34.setCell ⟨gb360, 0, none⟩ (.string ((rd_T53 l1 x34_2).f0))).setCell ⟨gb360, 1, none⟩ (.string ((rd_T53 l1 x34_2).f1))).heap[gb360]? = some (.cells #[.string ((rd_T53 l1 x34_2).f0), .string ((rd_T53 l1 x34_2).f1)] 53 (0, 0))) := ⟨Z65⟩; have n3_ : Aside0 (Below w.heap.size w ((w34.setCell ⟨gb360, 0, none⟩ (.string ((rd_T53 l1 x34_2).f0))).setCell ⟨gb360, 1, none⟩ (.string ((rd_T53 l1 x34_2).f1)))) := ⟨Z24⟩
           (try clear BK349)
           (try clear BK352)
           (try clear BK360)
           (try clear HB)
           generalize ((w34.setCell ⟨gb360, 0, none⟩ (.string ((rd_T53 l1 x34_2).f0))).setCell ⟨gb360, 1, none⟩ (.string ((rd_T53 l1 x34_2).f1))) = w38 at n0_ n1_ n2_ n3_ ⊢; have BK349 := n0_; have BK352 := n1_; have BK360 := n2_; have HB := n3_; clear n0_ n1_ n2_ n3_; have n0_ := AS (bdr BK349.out); have n1_ := AS (bdr BK352.out); have n2_ := AS (bdr BK360.out); have n3_ := AS (bl1 HB.out); clear BK349 BK352; clear BK360 HB; have BK349 := n0_; have BK352 := n1_; have BK360 := n2_; have HB := n3_; clear n0_ n1_ n2_ n3_; have p363 : 0 ≤ (x34_2 : Int) := of_decide_eq_true Z2; have q363 : x34_2 < (l0.length : Int) := of_decide_eq_true Z2; obtain ⟨ad363, e363, hx363_0, hx363_1⟩ := at_T53 HR0.out x34_2 p363 q363; have hw363_1 := hx363_1; have hw363_0 := hx363_0; cases e363; replace hx363_0 := (HB.out.cell (World.block_lt_of_cell? w _ hx363_0)).trans hx363_0; replace hx363_1 := (HB.out.cell (World.block_lt_of_cell? w _ hx363_1)).trans hx363_1; replace p363 := eq_true p363; replace q363 := eq_true q363
           refine start_ (n := 8) (S := fun w' => w'.cell? ⟨gb352, 0, none⟩ = some (.string x353000_1) ∧ w'.cell? ⟨gb352, 1, none⟩ = some (.string x353001_1) ∧ w'.cell? ⟨gb360, 0, none⟩ = some (.string ((rd_T53 l1 x34_2).f0)) ∧ w'.cell? ⟨gb360, 1, none⟩ = some (.string ((rd_T53 l1 x34_2).f1)) ∧ w'.cell? (ad363.add ((x34_2).toNat * 2)) = some (.string ((rd_T53 l0 x34_2).f0)) ∧ w'.cell? ⟨(ad363.add ((x34_2).toNat * 2)).block, (ad363.add ((x34_2).toNat * 2)).off + 1, none⟩ = some (.string ((rd_T53 l0 x34_2).f1))) (ds := []) #[false, false, false, false, false, false, false, false] Z5 rfl rfl ⟨bc0 BK352.out, bc1 BK352.out, bc0 BK360.out, bc1 BK360.out, ((HB.out.cell (World.block_lt_of_cell? w _ hw363_0)).trans hw363_0), ((HB.out.cell (World.block_lt_of_cell? w _ hw363_1)).trans hw363_1)⟩ (fun hHeld => ?_); refine with_tabW szra.tab11 szra.bits11 (fun HT_ HW_ => ?_)
           generalize w38.drew = w39 at BK349 BK352 BK360 HB hx363_0 hx363_1 hHeld ⊢; refine pure_ (i := 3) (N := some 42) (v := ?_) (a' := ?_) #[false, false, false, true, false, false, false, false] rfl rfl (any_of HT_.out Z5) (fun _ _ _ h => h) (Or.inl ⟨by rfl, ?_⟩) ?_ ?_; rotate_left
           ·intro w'; go_simp; with_reducible rfl
           rotate_left
           ·simp only [Act.put, List.setIfInBounds_toArray, List.set_cons_zero, List.set_cons_succ, i64_w, i32_w]; rfl
           refine pure_ (i := 4) (N := some 43) (v := ?_) (a' := ?_) #[false, false, false, true, true, false, false, false] rfl rfl (any_of HT_.out Z5) (fun _ _ _ h => h) (Or.inl ⟨by rfl, ?_⟩) ?_ ?_; rotate_left
           ·intro w'; go_simp; with_reducible rfl
           rotate_left
           ·simp only [Act.put, List.setIfInBounds_toArray, List.set_cons_zero, List.set_cons_succ, i64_w, i32_w]; rfl
           refine pure_ (i := 5) (N := some 44) (v := ?_) (a' := ?_) #[false, false, false, true, true, true, false, false] rfl rfl (any_of HT_.out Z5) (fun _ _ _ h => h) (Or.inl ⟨by rfl, ?_⟩) ?_ ?_; rotate_left
           ·intro w'; go_simp; with_reducible rfl
           rotate_left
           ·simp only [Act.put, List.setIfInBounds_toArray, List.set_cons_zero, List.set_cons_succ, i64_w, i32_w]; rfl
           refine take_ (i := 0) (N := some 39) (v := ?_) (a' := ?_) #[true, false, false, true, true, true, false, false] rfl rfl (take_ofW HT_.out HW_.out Z5) (fun _ _ _ h => h) (Or.inl ⟨by rfl, ?_⟩) hHeld ?_ ?_; rotate_left
           ·rintro w' ⟨s0, s1, s2, s3, s4, s5⟩; go_simp; with_reducible rfl
           rotate_left
           ·simp only [Act.put, List.setIfInBounds_toArray, List.set_cons_zero, List.set_cons_succ, i64_w, i32_w]; rfl
           refine take_ (i := 1) (N := some 40) (v := ?_) (a' := ?_) #[true, true, false, true, true, true, false, false] rfl rfl (take_ofW HT_.out HW_.out Z5) (fun _ _ _ h => h) (Or.inl ⟨by rfl, ?_⟩) hHeld ?_ ?_; rotate_left
           ·rintro w' ⟨s0, s1, s2, s3, s4, s5⟩; go_simp; with_reducible rfl
           rotate_left
           ·simp only [Act.put, List.setIfInBounds_toArray, List.set_cons_zero, List.set_cons_succ, i64_w, i32_w]; rfl
           refine take_ (i := 6) (N := some 45) (v := ?_) (a' := ?_) #[true, true, false, true, true, true, true, false] rfl rfl (take_ofW HT_.out HW_.out Z5) (fun _ _ _ h => h) (Or.inl ⟨by rfl, ?_⟩) hHeld ?_ ?_; rotate_left
           ·rintro w' ⟨s0, s1, s2, s3, s4, s5⟩; go_simp; with_reducible rfl
           rotate_left
           ·simp only [Act.put, List.setIfInBounds_toArray, List.set_cons_zero, List.set_cons_succ, i64_w, i32_w]; rfl
           refine one_ (i := 2) (N := some 41) #[true, true, true, true, true, true, true, false] rfl rfl (one_of HT_.out Z5) (by decide) (fun K hK => ?_); refine goes_ Tryz.func184 Z5 rfl #[.agg #[.string x353000_1, .string x353001_1], .agg #[.string ((rd_T53 l1 x34_2).f0), .string ((rd_T53 l1 x34_2).f1)]] (by rfl) rfl rfl Z1 ?_
           with_reducible refine (fraction_Mul.calls k2 x353000_1 x353001_1 ((rd_T53 l1 x34_2).f0) ((rd_T53 l1 x34_2).f1) t361 t362 _ ?side1 A31.out).mono ?_
           (case side1 => exact GL.below hG Z24)
           rintro e w40 ⟨rfl, hb⟩; refine ⟨_, rfl, ?_⟩; have n0_ := AS (bbl (g := gb349) (o := .cells #[.string x350000_2, .string x350001_2] 53 (0, 0)) Z18 hb); have n1_ := AS (bbl (g := gb352) (o := .cells #[.string x353000_1, .string x353001_1] 53 (0, 0)) Z26 hb); have n2_ := AS (bbl (g := gb360) (o := .cells #[.string ((rd_T53 l1 x34_2).f0), .string ((rd_T53 l1 x34_2).f1)] 53 (0, 0)) Z160 hb); have n3_ := AS (bst Z24 hb); clear BK349 BK352; clear BK360 HB; have BK349 := n0_; have BK352 := n1_; have BK360 := n2_; have HB := n3_; clear n0_ n1_ n2_ n3_
           (try clear hb)
           (try clear hb2)
           (try clear hk)
           (try clear hi)
           refine hK.out _ _ ⟨bc0 BK352.out, bc1 BK352.out, bc0 BK360.out, bc1 BK360.out, ((HB.out.cell (World.block_lt_of_cell? w _ hw363_0)).trans hw363_0), ((HB.out.cell (World.block_lt_of_cell? w _ hw363_1)).trans hw363_1)⟩ (fun hHeld => ?_); clear hK K; refine norm_ (a' := ?_) ?_ ?_; rotate_left
           ·show Act.put _ (some 41) _ = _
            simp only [Act.put, List.setIfInBounds_toArray, List.set_cons_zero, List.set_cons_succ, i64_w, i32_w]; rfl
           refine pure_ (i := 7) (N := some 46) (v := ?_) (a' := ?_) #[true, true, true, true, true, true, true, true] rfl rfl (any_of HT_.out Z5) (fun _ _ _ h => h) (Or.inl ⟨by rfl, ?_⟩) ?_ ?_; rotate_left
           ·intro w'; go_simp; with_reducible rfl
           rotate_left
           ·simp only [Act.put, List.setIfInBounds_toArray, List.set_cons_zero, List.set_cons_succ, i64_w, i32_w]; rfl
           refine done_ (done_of HT_.out Z5) ?_; have hnb41 := NB352_349.out; have hnc41 := NB349_352.out; have hcz42_0 := bc0 BK352.out; have hcz42_1 := bc1 BK352.out; have hfz42_0 := bfz BK352.out 0; have hfz42_1 := bfz BK352.out 1; have hcz43_0 := bc0 BK349.out; have hcz43_1 := bc1 BK349.out; have hfz43_0 := bfz BK349.out 0; have hfz43_1 := bfz BK349.out 1; (try go_wp2); refine bodyPost_ret (results_ct rfl _ _ gb349 53 #[.string x353000_1, .string x353001_1] (0, 0) _ rfl Z67 Tryz.underlying53 rfl Z5) rfl ?_; exact ⟨Z3, Z24⟩
          ·rw [if_neg c33] at H
           have c33b0 : (!(t361.toList == (((rd_T53 l0 x34_2).f0).toList)) || (!(t362.toList == (((rd_T53 l0 x34_2).f1).toList)))) = false := by simpa using c33
           clear c33; have H' := AS H; clear H; have p359 : 0 ≤ (x34_2 : Int) := of_decide_eq_true Z2; have q359 : x34_2 < (l1.length : Int) := of_decide_eq_true Z2; obtain ⟨ad359, e359, hx359_0, hx359_1⟩ := at_T53 HR1.out x34_2 p359 q359; cases e359; replace hx359_0 := (HB.out.cell (World.block_lt_of_cell? w _ hx359_0)).trans hx359_0; replace hx359_1 := (HB.out.cell (World.block_lt_of_cell? w _ hx359_1)).trans hx359_1; replace p359 := eq_true p359; replace q359 := eq_true q359; (try go_wp2_with (first | ((with_reducible refine gtd (N := 10) rfl ?_); refine bxe ?hg (N := 10) ?hd (cs := #[.string (⟨#[]⟩ : ByteArray), .string (⟨#[]⟩ : ByteArray)]) (t := 53) ?hr ?_; (case hd => rfl); (case hg => rfl); (case hr => exact Z11); intro gb360 hg w44 hbox hb; have BK360 := AS (hbox); have GW360 := AS ((Z197 : w.heap.size ≤ gb360)); have GE360 := AS ((Z197 : w.heap.size ≤ gb360)); have NB349_360 := AS ((Z200 : gb349 ≠ gb360)); have NB360_349 := AS ((Z201 : gb360 ≠ gb349)); have NB352_360 := AS ((Z188 : gb352 ≠ gb360)); have NB360_352 := AS ((Z189 : gb360 ≠ gb352)); replace BK349 := AS (bbl (g := gb349) (o := .cells #[.string x350000_2, .string x350001_2] 53 (0, 0)) Z18 hb); replace BK352 := AS (bbl (g := gb352) (o := .cells #[.string x353000_1, .string x353001_1] 53 (0, 0)) Z26 hb); replace HB := AS (bst Z12 hb); clear hb hbox hg; have hnb45 := NB360_349.out; have hnc45 := NB349_360.out; have hnb46 := NB360_352.out; have hnc46 := NB352_360.out; have hcz47_0 := bc0 BK360.out; have hcz47_1 := bc1 BK360.out; have hfz47_0 := bfz BK360.out 0; have hfz47_1 := bfz BK360.out 1))); have n0_ : Aside0 (((w44.setCell ⟨gb360, 0, none⟩ (.string ((rd_T53 l1 x34_2).f0))).setCell ⟨gb360, 1, none⟩ (.string ((rd_T53 l1 x34_2).f1))).heap[gb349]? = some (.cells #[.string x350000_2, .string x350001_2] 53 (0, 0))) := ⟨Z86⟩; have n1_ : Aside0 (((w44.setCell ⟨gb360, 0, none⟩ (.string ((rd_T53 l1 x34_2).f0))).setCell ⟨gb360, 1, none⟩ (.string ((rd_T53 l1 x34_2).f1))).heap[gb352]? = some (.cells #[.string x353000_1, .string x353001_1] 53 (0, 0))) := ⟨Z87⟩; have n2_ : Aside0 (((w44.setCell ⟨gb360, 0, none⟩ (.string ((rd_T53 l1 x34_2).f0))).setCell ⟨gb360, 1, none⟩ (.string ((rd_T53 l1 x34_2).f1))).heap[gb360]? = some (.cells #[.string ((rd_T53 l1 x34_2).f0), .string ((rd_T53 l1 x34_2).f1)] 53 (0, 0))) := ⟨Z65⟩; have n3_ : Aside0 (Below w.heap.size w ((w44.setCell ⟨gb360, 0, none⟩ (.string ((rd_T53 l1 x34_2).f0))).setCell ⟨gb360, 1, none⟩ (.string ((rd_T53 l1 x34_2).f1)))) := ⟨Z24⟩
           (try clear BK349)
           (try clear BK352)
           (try clear BK360)
           (try clear HB)
           generalize ((w44.setCell ⟨gb360, 0, none⟩ (.string ((rd_T53 l1 x34_2).f0))).setCell ⟨gb360, 1, none⟩ (.string ((rd_T53 l1 x34_2).f1))) = w48 at n0_ n1_ n2_ n3_ ⊢; have BK349 := n0_; have BK352 := n1_; have BK360 := n2_; have HB := n3_; clear n0_ n1_ n2_ n3_; have n0_ := AS (bdr BK349.out); have n1_ := AS (bdr BK352.out); have n2_ := AS (bdr BK360.out); have n3_ := AS (bl1 HB.out); clear BK349 BK352; clear BK360 HB; have BK349 := n0_; have BK352 := n1_; have BK360 := n2_; have HB := n3_; clear n0_ n1_ n2_ n3_; have p363 : 0 ≤ (x34_2 : Int) := of_decide_eq_true Z2; have q363 : x34_2 < (l0.length : Int) := of_decide_eq_true Z2; obtain ⟨ad363, e363, hx363_0, hx363_1⟩ := at_T53 HR0.out x34_2 p363 q363; have hw363_1 := hx363_1; have hw363_0 := hx363_0; cases e363; replace hx363_0 := (HB.out.cell (World.block_lt_of_cell? w _ hx363_0)).trans hx363_0; replace hx363_1 := (HB.out.cell (World.block_lt_of_cell? w _ hx363_1)).trans hx363_1; replace p363 := eq_true p363; replace q363 := eq_true q363
           refine start_ (n := 8) (S := fun w' => w'.cell? ⟨gb352, 0, none⟩ = some (.string x353000_1) ∧ w'.cell? ⟨gb352, 1, none⟩ = some (.string x353001_1) ∧ w'.cell? ⟨gb360, 0, none⟩ = some (.string ((rd_T53 l1 x34_2).f0)) ∧ w'.cell? ⟨gb360, 1, none⟩ = some (.string ((rd_T53 l1 x34_2).f1)) ∧ w'.cell? (ad363.add ((x34_2).toNat * 2)) = some (.string ((rd_T53 l0 x34_2).f0)) ∧ w'.cell? ⟨(ad363.add ((x34_2).toNat * 2)).block, (ad363.add ((x34_2).toNat * 2)).off + 1, none⟩ = some (.string ((rd_T53 l0 x34_2).f1))) (ds := []) #[false, false, false, false, false, false, false, false] Z5 rfl rfl ⟨bc0 BK352.out, bc1 BK352.out, bc0 BK360.out, bc1 BK360.out, ((HB.out.cell (World.block_lt_of_cell? w _ hw363_0)).trans hw363_0), ((HB.out.cell (World.block_lt_of_cell? w _ hw363_1)).trans hw363_1)⟩ (fun hHeld => ?_); refine with_tabW szra.tab11 szra.bits11 (fun HT_ HW_ => ?_)
           generalize w48.drew = w49 at BK349 BK352 BK360 HB hx363_0 hx363_1 hHeld ⊢; refine pure_ (i := 3) (N := some 42) (v := ?_) (a' := ?_) #[false, false, false, true, false, false, false, false] rfl rfl (any_of HT_.out Z5) (fun _ _ _ h => h) (Or.inl ⟨by rfl, ?_⟩) ?_ ?_; rotate_left
           ·intro w'; go_simp; with_reducible rfl
           rotate_left
           ·simp only [Act.put, List.setIfInBounds_toArray, List.set_cons_zero, List.set_cons_succ, i64_w, i32_w]; rfl
           refine pure_ (i := 4) (N := some 43) (v := ?_) (a' := ?_) #[false, false, false, true, true, false, false, false] rfl rfl (any_of HT_.out Z5) (fun _ _ _ h => h) (Or.inl ⟨by rfl, ?_⟩) ?_ ?_; rotate_left
           ·intro w'; go_simp; with_reducible rfl
           rotate_left
           ·simp only [Act.put, List.setIfInBounds_toArray, List.set_cons_zero, List.set_cons_succ, i64_w, i32_w]; rfl
           refine pure_ (i := 5) (N := some 44) (v := ?_) (a' := ?_) #[false, false, false, true, true, true, false, false] rfl rfl (any_of HT_.out Z5) (fun _ _ _ h => h) (Or.inl ⟨by rfl, ?_⟩) ?_ ?_; rotate_left
           ·intro w'; go_simp; with_reducible rfl
           rotate_left
           ·simp only [Act.put, List.setIfInBounds_toArray, List.set_cons_zero, List.set_cons_succ, i64_w, i32_w]; rfl
           refine take_ (i := 0) (N := some 39) (v := ?_) (a' := ?_) #[true, false, false, true, true, true, false, false] rfl rfl (take_ofW HT_.out HW_.out Z5) (fun _ _ _ h => h) (Or.inl ⟨by rfl, ?_⟩) hHeld ?_ ?_; rotate_left
           ·rintro w' ⟨s0, s1, s2, s3, s4, s5⟩; go_simp; with_reducible rfl
           rotate_left
           ·simp only [Act.put, List.setIfInBounds_toArray, List.set_cons_zero, List.set_cons_succ, i64_w, i32_w]; rfl
           refine take_ (i := 1) (N := some 40) (v := ?_) (a' := ?_) #[true, true, false, true, true, true, false, false] rfl rfl (take_ofW HT_.out HW_.out Z5) (fun _ _ _ h => h) (Or.inl ⟨by rfl, ?_⟩) hHeld ?_ ?_; rotate_left
           ·rintro w' ⟨s0, s1, s2, s3, s4, s5⟩; go_simp; with_reducible rfl
           rotate_left
           ·simp only [Act.put, List.setIfInBounds_toArray, List.set_cons_zero, List.set_cons_succ, i64_w, i32_w]; rfl
           refine take_ (i := 6) (N := some 45) (v := ?_) (a' := ?_) #[true, true, false, true, true, true, true, false] rfl rfl (take_ofW HT_.out HW_.out Z5) (fun _ _ _ h => h) (Or.inl ⟨by rfl, ?_⟩) hHeld ?_ ?_; rotate_left
           ·rintro w' ⟨s0, s1, s2, s3, s4, s5⟩; go_simp; with_reducible rfl
           rotate_left
           ·simp only [Act.put, List.setIfInBounds_toArray, List.set_cons_zero, List.set_cons_succ, i64_w, i32_w]; rfl
           refine one_ (i := 2) (N := some 41) #[true, true, true, true, true, true, true, false] rfl rfl (one_of HT_.out Z5) (by decide) (fun K hK => ?_); refine goes_ Tryz.func184 Z5 rfl #[.agg #[.string x353000_1, .string x353001_1], .agg #[.string ((rd_T53 l1 x34_2).f0), .string ((rd_T53 l1 x34_2).f1)]] (by rfl) rfl rfl Z1 ?_
           with_reducible refine (fraction_Mul.calls k2 x353000_1 x353001_1 ((rd_T53 l1 x34_2).f0) ((rd_T53 l1 x34_2).f1) t361 t362 _ ?side1 A31.out).mono ?_
           (case side1 => exact GL.below hG Z24)
           rintro e w50 ⟨rfl, hb⟩; refine ⟨_, rfl, ?_⟩; have n0_ := AS (bbl (g := gb349) (o := .cells #[.string x350000_2, .string x350001_2] 53 (0, 0)) Z18 hb); have n1_ := AS (bbl (g := gb352) (o := .cells #[.string x353000_1, .string x353001_1] 53 (0, 0)) Z26 hb); have n2_ := AS (bbl (g := gb360) (o := .cells #[.string ((rd_T53 l1 x34_2).f0), .string ((rd_T53 l1 x34_2).f1)] 53 (0, 0)) Z160 hb); have n3_ := AS (bst Z24 hb); clear BK349 BK352; clear BK360 HB; have BK349 := n0_; have BK352 := n1_; have BK360 := n2_; have HB := n3_; clear n0_ n1_ n2_ n3_
           (try clear hb)
           (try clear hb2)
           (try clear hk)
           (try clear hi)
           refine hK.out _ _ ⟨bc0 BK352.out, bc1 BK352.out, bc0 BK360.out, bc1 BK360.out, ((HB.out.cell (World.block_lt_of_cell? w _ hw363_0)).trans hw363_0), ((HB.out.cell (World.block_lt_of_cell? w _ hw363_1)).trans hw363_1)⟩ (fun hHeld => ?_); clear hK K; refine norm_ (a' := ?_) ?_ ?_; rotate_left
           ·show Act.put _ (some 41) _ = _
            simp only [Act.put, List.setIfInBounds_toArray, List.set_cons_zero, List.set_cons_succ, i64_w, i32_w]; rfl
           refine pure_ (i := 7) (N := some 46) (v := ?_) (a' := ?_) #[true, true, true, true, true, true, true, true] rfl rfl (any_of HT_.out Z5) (fun _ _ _ h => h) (Or.inl ⟨by rfl, ?_⟩) ?_ ?_; rotate_left
           ·intro w'; go_simp; with_reducible rfl
           rotate_left
           ·simp only [Act.put, List.setIfInBounds_toArray, List.set_cons_zero, List.set_cons_succ, i64_w, i32_w]; rfl
           refine done_ (done_of HT_.out Z5) ?_; (try go_wp2)
           go_roundg k2
           case measure => have := HK1.out; have := HK2.out; omega
           case rel => exact ⟨(wrap64 (x34_2 + 1)), (x350000_2), (x350001_2), Z4, H', ⟨Z143⟩, ⟨Z18⟩, ⟨Z26⟩, ⟨Z24⟩⟩
         ·rw [if_neg c32] at H
          exact absurd H (by simp)
        ·rw [if_neg c30] at H
         exact absurd H (by simp)
       ·rw [if_neg c29] at H
        exact absurd H (by simp)
      ·rw [if_neg c28] at H
       have c28b0 : decide (x34_2 < (l1.length : Int)) = false := decide_eq_false c28; clear c28
       simp only [Option.some.injEq, Prod.mk.injEq] at H
       obtain ⟨rfl, rfl, rfl⟩ := H; have hnb51 := NB352_349.out; have hnc51 := NB349_352.out; have hcz52_0 := bc0 BK352.out; have hcz52_1 := bc1 BK352.out; have hfz52_0 := bfz BK352.out 0; have hfz52_1 := bfz BK352.out 1; have hcz53_0 := bc0 BK349.out; have hcz53_1 := bc1 BK349.out; have hfz53_0 := bfz BK349.out 0; have hfz53_1 := bfz BK349.out 1; go_wp2; refine bodyPost_ret (results_ct rfl _ _ gb349 53 #[.string x353000_1, .string x353001_1] (0, 0) _ rfl Z67 Tryz.underlying53 rfl Z5) rfl ?_; exact ⟨Z3, Z12⟩
def fraction_Floor.f (k : Nat) (a0_0 : ByteArray) (a0_1 : ByteArray) : Option (ByteArray) := (whDM.f k a0_0 a0_1).bind fun bt365 => (some bt365.1)
set_option maxHeartbeats 8000000 in
set_option maxRecDepth 100000 in
theorem fraction_Floor.calls (k : Nat) (a0_0 : ByteArray) (a0_1 : ByteArray) (r : ByteArray) (w : World) (hG : GL w) (h : fraction_Floor.f k a0_0 a0_1 = some r) :
  Calls Tryz.prog 151 #[.agg #[.string a0_0, .string a0_1]] w fun e w' => e = .returned (.string r) ∧ Below w.heap.size w w' := by
 have hu53 := Tryz.underlying53; have HB := AS (Below.refl w.heap.size w); have H : ((whDM.f k a0_0 a0_1).bind fun bt365 => (some bt365.1)) = some r := h; clear h; replace H := Option.bind_eq_some_iff.mp H; obtain ⟨⟨t365, t366, t367⟩, A20, H⟩ := H; replace H : (some t365) = some r := H; have A2 := AS A20; clear A20; obtain rfl := Option.some.inj H; go_enter Tryz.func151, Tryz.ntmps151; go_wp2_with (first | ((with_reducible refine gtd (N := 1) rfl ?_); refine bxe ?hg (N := 1) ?hd (cs := #[.string a0_0, .string a0_1]) (t := 53) ?hr ?_; (case hd => rfl); (case hg => rfl); (case hr => exact Z11); intro gb364 hg w3 hbox hb; have BK364 := AS (hbox); have GW364 := AS ((Z183 : w.heap.size ≤ gb364)); have GE364 := AS ((Z183 : w.heap.size ≤ gb364)); replace HB := AS (bst Z0 hb); clear hb hbox hg; have hcz4_0 := bc0 BK364.out; have hcz4_1 := bc1 BK364.out; have hfz4_0 := bfz BK364.out 0; have hfz4_1 := bfz BK364.out 1) | ((with_reducible refine gtc (f := 118) rfl ?_); refine gsL (some 11) rfl rfl Tryz.func118 Z5 rfl #[.string a0_0, .string a0_1] rfl Z1 ?_; (with_reducible refine (whDM.calls k a0_0 a0_1 t365 t366 t367 _ ?side1 A2.out).mono ?_); (case side1 => exact GL.below hG Z115); rintro e w5 ⟨rfl, hb⟩; refine ⟨_, rfl, ?_⟩; replace BK364 := AS (bbl (g := gb364) (o := .cells #[.string a0_0, .string a0_1] 53 (0, 0)) (by (with_reducible repeat (first | apply bdn | apply bdr | apply bal)); exact BK364.out) hb); replace HB := AS (bst Z115 hb); (try clear hb); (try clear hb2); (try clear hk); (try clear hi))); go_ret; exact ⟨Z3, Z115⟩
end

def parseOk (s : ByteArray) : Option Int := if s.size ≤ 1000000 then (match Lib.parseIntB 64 s.data.toList with | .ok v => some v | _ => none) else none
theorem parseOk_spec {s : ByteArray} {v : Int} (h : parseOk s = some v) : s.size ≤ 1000000 ∧ Lib.parseIntB 64 s.data.toList = .ok v := by
 unfold parseOk at h
 by_cases c : s.size ≤ 1000000
 ·rw [if_pos c] at h; refine ⟨c, ?_⟩
  split at h
  ·rename_i x hx
   rw [hx]; cases h; rfl
  ·cases h
 ·rw [if_neg c] at h; cases h
theorem parseInt_calls {s : ByteArray} {v : Int} (h : parseOk s = some v) (w : World) :
  Calls Tryz.prog 130 #[.string s, .int .i64 10, .int .i64 64] w fun e w' => e = .returned (.tuple #[.int .i64 v, .nilIface]) ∧ Below w.heap.size w w' := by
 obtain ⟨hs, hv⟩ := parseOk_spec h; refine (Tryz.strconv_ParseInt_10_at64_ok s (by omega) v hv w).mono ?_; rintro e w' ⟨rfl, rfl | ⟨t, rfl⟩⟩
 ·exact ⟨rfl, Below.refl _ _⟩
 ·exact ⟨rfl, Lib.bytesWorld_below w 5 t⟩
def whole_Small.f (a0 : ByteArray) : Option (Int × Bool) := (parseOk a0).map fun v => (v, true)
set_option maxHeartbeats 2000000 in
theorem whole_Small.calls (a0 : ByteArray) (r1 : Int) (r2 : Bool) (w : World) (hG : GL w) (h : whole_Small.f a0 = some (r1, r2)) :
  Calls Tryz.prog 102 #[.string a0] w fun e w' => e = .returned (.tuple #[.int .i64 r1, .bool r2]) ∧ Below w.heap.size w w' := by
 unfold whole_Small.f at h; obtain ⟨v, hv, he⟩ := Option.map_eq_some_iff.mp h; simp only [Prod.mk.injEq] at he; obtain ⟨rfl, rfl⟩ := he; have hc := AS (parseInt_calls hv); clear h hv; go_enter Tryz.func102, Tryz.ntmps102; go_wp2_with (go_at_call 130; refine (hc.out _).mono ?_; rintro e w' ⟨rfl, hb⟩); go_ret2; exact ⟨rfl, hb⟩

section
open Go.Shelf
def nearStep (most p : Int) (k : ByteArray) : Option (Int × Int) :=
 (whole_Small.f k).bind fun n => if n.2 = true ∧ n.1 ≤ most ∧ -most ≤ n.1 then (size_fast.f 2000000 p).bind fun a => if a.2 = true then some (n.1, a.1) else none else none
structure NearX (most : Int) where
 p : Int
 k : ByteArray
 n : Int
 a : Int
 small : whole_Small.f k = some (n, true)
 le : n ≤ most
 ge : -most ≤ n
 fast : size_fast.f 2000000 p = some (a, true)
def NearX.v {most : Int} (x : NearX most) : Int × Int × Int := (x.p, x.n, x.a)
def nearL (most : Int) : List Int → List ByteArray → Option (List (Int × Int × Int))
 | [], [] => some []
 | p :: ps, k :: ks => (nearStep most p k).bind fun x => (nearL most ps ks).bind fun l => some ((p, x) :: l)
 | _, _ => none
def nearAdd (s : Int × Int) (x : Int × Int × Int) : Int × Int :=
 let m := wrap64 (x.2.1 * x.2.2)
 let q := if x.1 = 2 then m else wrap64 (x.2.1 * wrap64 (x.2.2 + 1))
 (wrap64 (s.1 + if q < m then q else m), wrap64 (s.2 + if m < q then q else m))
def nearSum (l : List (Int × Int × Int)) : Int × Int := l.foldl nearAdd (0, 0)
theorem nearL_zs (most : Int) : ∀ (ps : List Int) (ks : List ByteArray) (l : List (Int × Int × Int)), nearL most ps ks = some l →
  ps.length = ks.length ∧ ∃ zs : List (NearX most), zs.map NearX.v = l ∧ zs.map NearX.p = ps ∧ zs.map NearX.k = ks := by
 intro ps
 induction ps with
 | nil =>
  intro ks l h
  cases ks with
  | nil =>
   simp only [nearL, Option.some.injEq] at h; exact ⟨rfl, [], by simp [h], rfl, rfl⟩
  | cons k ks => simp [nearL] at h
 | cons p ps ih =>
  intro ks l h
  cases ks with
  | nil => simp [nearL] at h
  | cons k ks =>
   simp only [nearL] at h; obtain ⟨x, hx, h⟩ := Option.bind_eq_some_iff.1 h; obtain ⟨m, hm, h⟩ := Option.bind_eq_some_iff.1 h; obtain rfl := Option.some.inj h; obtain ⟨hl, zs, hz1, hz2, hz3⟩ := ih ks m hm; unfold nearStep at hx; obtain ⟨⟨n, b⟩, hn, hx⟩ := Option.bind_eq_some_iff.1 hx
   split at hx
   ·rename_i hc
    obtain ⟨⟨a, b2⟩, ha, hx⟩ := Option.bind_eq_some_iff.1 hx
    split at hx
    ·rename_i hc2
     obtain rfl := Option.some.inj hx
     dsimp only at hc hc2
     obtain ⟨rfl, hle, hge⟩ := hc; subst hc2; exact ⟨by simp [hl], ⟨p, k, n, a, hn, hle, hge, ha⟩ :: zs, by simp [NearX.v, hz1], by simp [hz2], by simp [hz3]⟩
    ·cases hx
   ·cases hx
theorem nearSum_snoc (l : List (Int × Int × Int)) (x : Int × Int × Int) : nearSum (l ++ [x]) = nearAdd (nearSum l) x := by simp [nearSum]
theorem near_ne {most : Int} (pre : List (NearX most)) (x : NearX most) (h : (x.p == 2) = false) :
  IntKind.i64.wrap ((nearSum (pre.map NearX.v)).1 + if IntKind.i64.wrap (x.n * wrap64 (x.a + 1)) < IntKind.i64.wrap (x.n * x.a) then IntKind.i64.wrap (x.n * wrap64 (x.a + 1)) else IntKind.i64.wrap (x.n * x.a)) = (nearSum ((pre ++ [x]).map NearX.v)).1 ∧
  IntKind.i64.wrap ((nearSum (pre.map NearX.v)).2 + if IntKind.i64.wrap (x.n * x.a) < IntKind.i64.wrap (x.n * wrap64 (x.a + 1)) then IntKind.i64.wrap (x.n * wrap64 (x.a + 1)) else IntKind.i64.wrap (x.n * x.a)) = (nearSum ((pre ++ [x]).map NearX.v)).2 := by
 have h' : x.p ≠ 2 := by simpa using h
 rw [List.map_append, List.map_cons, List.map_nil, nearSum_snoc]
 have e : ∀ z, IntKind.i64.wrap z = wrap64 z := fun x => by rw [IntKind.wrap_i64]; unfold wrap64; rfl
 simp only [nearAdd, NearX.v, h', if_false, e]; simp
theorem near_eq {most : Int} (pre : List (NearX most)) (x : NearX most) (h : (x.p == 2) = true) :
  IntKind.i64.wrap ((nearSum (pre.map NearX.v)).1 + IntKind.i64.wrap (x.n * x.a)) = (nearSum ((pre ++ [x]).map NearX.v)).1 ∧ IntKind.i64.wrap ((nearSum (pre.map NearX.v)).2 + IntKind.i64.wrap (x.n * x.a)) = (nearSum ((pre ++ [x]).map NearX.v)).2 := by
 have h' : x.p = 2 := by simpa using h
 rw [List.map_append, List.map_cons, List.map_nil, nearSum_snoc]
 have e : ∀ z, IntKind.i64.wrap z = wrap64 z := fun x => by rw [IntKind.wrap_i64]; unfold wrap64; rfl
 simp only [nearAdd, NearX.v, h', if_true, Int.lt_irrefl, if_false, e]; simp
theorem near_post {most : Int} {w W0 W W2 : World} {pre : List (NearX most)} {x : NearX most} {u v : Int} (hS0 : w.heap.size + 6 ≤ W.heap.size) (hB : Below w.heap.size w W) (h2 : Below W.heap.size W W2) (hS2 : W.heap.size ≤ W2.heap.size)
  (hr1 : Boxed W2 (w.heap.size + 1) 3 (.int .i64 most)) (hr2 : Boxed W2 (w.heap.size + 2) 3 (.int .i64 (nearSum (pre.map NearX.v)).1)) (hr3 : Boxed W2 (w.heap.size + 3) 3 (.int .i64 (nearSum (pre.map NearX.v)).2)) (hr4 : Boxed W2 (w.heap.size + 4) 4 (.bool false))
  (hk : KeepsFrom W0.heap.size W W2) (hb : Below w.heap.size w W2) (hu : u = (nearSum ((pre ++ [x]).map NearX.v)).1) (hv : v = (nearSum ((pre ++ [x]).map NearX.v)).2) :
  KeepsFrom W0.heap.size W ((W2.drew.setCell ⟨w.heap.size + 2, 0, none⟩ (.int .i64 u)).setCell ⟨w.heap.size + 3, 0, none⟩ (.int .i64 v)) ∧ KeepsB w.heap.size (w.heap.size + 5) (w.heap.size + 6) W ((W2.drew.setCell ⟨w.heap.size + 2, 0, none⟩ (.int .i64 u)).setCell ⟨w.heap.size + 3, 0, none⟩ (.int .i64 v)) ∧
   (Boxed ((W2.drew.setCell ⟨w.heap.size + 2, 0, none⟩ (.int .i64 u)).setCell ⟨w.heap.size + 3, 0, none⟩ (.int .i64 v)) (w.heap.size + 1) 3 (.int .i64 most) ∧ Boxed ((W2.drew.setCell ⟨w.heap.size + 2, 0, none⟩ (.int .i64 u)).setCell ⟨w.heap.size + 3, 0, none⟩ (.int .i64 v)) (w.heap.size + 2) 3 (.int .i64 (nearSum ((pre ++ [x]).map NearX.v)).1) ∧
    Boxed ((W2.drew.setCell ⟨w.heap.size + 2, 0, none⟩ (.int .i64 u)).setCell ⟨w.heap.size + 3, 0, none⟩ (.int .i64 v)) (w.heap.size + 3) 3 (.int .i64 (nearSum ((pre ++ [x]).map NearX.v)).2) ∧ Boxed ((W2.drew.setCell ⟨w.heap.size + 2, 0, none⟩ (.int .i64 u)).setCell ⟨w.heap.size + 3, 0, none⟩ (.int .i64 v)) (w.heap.size + 4) 4 (.bool false)) ∧
   Below w.heap.size w ((W2.drew.setCell ⟨w.heap.size + 2, 0, none⟩ (.int .i64 u)).setCell ⟨w.heap.size + 3, 0, none⟩ (.int .i64 v)) ∧ w.heap.size + 6 ≤ ((W2.drew.setCell ⟨w.heap.size + 2, 0, none⟩ (.int .i64 u)).setCell ⟨w.heap.size + 3, 0, none⟩ (.int .i64 v)).heap.size := by
 subst hu hv; have d1 : Boxed W2.drew (w.heap.size + 1) 3 (.int .i64 most) := hr1; have d2 : Boxed W2.drew (w.heap.size + 2) 3 (.int .i64 (nearSum (pre.map NearX.v)).1) := hr2; have d3 : Boxed W2.drew (w.heap.size + 3) 3 (.int .i64 (nearSum (pre.map NearX.v)).2) := hr3; have d4 : Boxed W2.drew (w.heap.size + 4) 4 (.bool false) := hr4; refine ⟨((hk.trans ((KeepsOthers.drew W2).from _)).trans ((KeepsOthers.setCell _ _ _).from _)).trans ((KeepsOthers.setCell _ _ _).from _), ⟨?_, fun k h3 h4 => ?_⟩, ⟨(d1.other (by omega) _).other (by omega) _, (d2.set _).other (by omega) _, (d3.other (by omega) _).set _, (d4.other (by omega) _).other (by omega) _⟩, ?_, ?_⟩
 ·exact ((((h2.mono (by omega)).drew).setCell (p := ⟨w.heap.size + 2, 0, none⟩) Z171 _).setCell (p := ⟨w.heap.size + 3, 0, none⟩) Z172 _)
 ·rw [Below.heap_setCell _ _ _ k (by show k ≠ w.heap.size + 3; omega), Below.heap_setCell _ _ _ k (by show k ≠ w.heap.size + 2; omega)]; exact h2.block k (by omega)
 ·exact (((hb.drew).setCell (p := ⟨w.heap.size + 2, 0, none⟩) Z171 _).setCell (p := ⟨w.heap.size + 3, 0, none⟩) Z172 _)
 ·have e : ∀ (X : World) (a : Addr) (u : Value), (X.setCell a u).heap.size = X.heap.size := fun X a u => by simp [World.setCell]
  rw [e, e]
  show _ ≤ W2.heap.size
  omega
attribute [local go_sem] Oper.semAt_some in
set_option maxHeartbeats 8000000 in
set_option maxRecDepth 100000 in
theorem near_walk (A0_0 : Option Addr) (c0_0 : Nat) (l0_0 : List Int) (A0_1 : Option Addr) (c0_1 : Nat) (l0_1 : List ByteArray) (a0_2 : ByteArray) (a1 : Int) (l : List (Int × Int × Int)) (w : World) (hr0_0 : Kd.C (Kd.int .i64) w A0_0 l0_0.length l0_0) (hr0_1 : Kd.C Kd.string w A0_1 l0_1.length l0_1) (hlen : l0_0.length ≤ 100000) (hm0 : 0 ≤ a1) (hm1 : a1 ≤ 1000000000) (hG : GL w) (h : nearL a1 l0_0 l0_1 = some l) :
  CallsIn Fence.wide 5 Tryz.prog 185 #[.agg #[.slice A0_0 l0_0.length c0_0, .slice A0_1 l0_1.length c0_1, .string a0_2], .int .i64 a1] w fun e w' => e = .returned (.tuple #[.int .i64 (nearSum l).1, .int .i64 (nearSum l).2, .bool true]) ∧ Below w.heap.size w w' := by
 obtain ⟨hll, zs, hz1, hz2, hz3⟩ := nearL_zs a1 _ _ _ h; have HZ := AS hz1
 have HL1 : Aside0 (HoldsI w.heap.size w A0_0 zs fun x => .int .i64 x.p) := ⟨fun j hj => by
  obtain ⟨ad, e, hb, hc⟩ := C_int_holds hr0_0 j (by rw [← hz2]; simpa using hj)
  exact ⟨ad, e, hb, by rw [hc]; simp [← hz2]⟩⟩
 have HL2 : Aside0 (HoldsI w.heap.size w A0_1 zs fun x => .string x.k) := ⟨fun j hj => by
  obtain ⟨ad, e, hb, hc⟩ := C_str_holds hr0_1 j (by rw [← hz3]; simpa using hj)
  exact ⟨ad, e, hb, by rw [hc]; simp [← hz3]⟩⟩
 have hlz : zs.length = l0_0.length := by rw [← hz2]; simp
 have HGL := AS hG; rw [← hll, ← hlz]; rw [← hlz] at hlen; clear hr0_0 hr0_1 h hz1 hz2 hz3 hG hll hlz; refine callsIn_of_wp_marks Tryz.func185 rfl trivial ?_ rfl; simp only [Tryz.ntmps185, List.size_toArray, List.length_cons, List.length_nil, Nat.reduceAdd, Nat.reduceSub, Array.replicate_succ, Array.replicate_zero, List.push_toArray, List.append_toArray, List.nil_append, List.cons_append]
 gi_wp2_with (refine ⟨trivial, ?_⟩; gi_at_call 187; refine (all_in Fence.wide 4 trivial rfl _ _ _ _ _ _ _ _).mono ?_; rintro e w' ⟨rfl, rfl⟩)
 obtain ⟨W0, hW0⟩ : ∃ W0, ((((((w.alloc (.cells #[.slice A0_0 zs.length c0_0, .slice A0_1 zs.length c0_1, .string a0_2] 191)).alloc (.cells #[.int .i64 a1] 3)).alloc (.cells #[.int .i64 0] 3)).alloc (.cells #[.int .i64 0] 3)).alloc (.cells #[.bool false] 4)).alloc (.cells #[.slice A0_0 zs.length c0_0, .slice A0_1 zs.length c0_1, .string a0_2] 191)) = W0 := ⟨_, rfl⟩
 have hsz : W0.heap.size = w.heap.size + 6 := by rw [← hW0]; simp
 have hB0 : Below w.heap.size w W0 := by
  rw [← hW0]; exact ((((((Below.refl _ w).alloc (Nat.le_refl _) _).alloc (by simp) _).alloc Z169 _).alloc Z169 _).alloc Z169 _).alloc Z169 _
 have hb1 : Boxed W0 (w.heap.size + 1) 3 (.int .i64 a1) := by
  rw [← hW0]; have := Boxed.new (w.alloc (.cells #[.slice A0_0 zs.length c0_0, .slice A0_1 zs.length c0_1, .string a0_2] 191)) 3 (.int .i64 a1); rw [World.size_alloc] at this
  exact (((this.alloc _).alloc _).alloc _).alloc _
 have hb2 : Boxed W0 (w.heap.size + 2) 3 (.int .i64 0) := by
  rw [← hW0]; have := Boxed.new ((w.alloc (.cells #[.slice A0_0 zs.length c0_0, .slice A0_1 zs.length c0_1, .string a0_2] 191)).alloc (.cells #[.int .i64 a1] 3)) 3 (.int .i64 0); rw [World.size_alloc, World.size_alloc] at this
  exact ((this.alloc _).alloc _).alloc _
 have hb3 : Boxed W0 (w.heap.size + 3) 3 (.int .i64 0) := by
  rw [← hW0]; have := Boxed.new (((w.alloc (.cells #[.slice A0_0 zs.length c0_0, .slice A0_1 zs.length c0_1, .string a0_2] 191)).alloc (.cells #[.int .i64 a1] 3)).alloc (.cells #[.int .i64 0] 3)) 3 (.int .i64 0); rw [World.size_alloc, World.size_alloc, World.size_alloc] at this
  exact (this.alloc _).alloc _
 have hb4 : Boxed W0 (w.heap.size + 4) 4 (.bool false) := by
  rw [← hW0]; have := Boxed.new ((((w.alloc (.cells #[.slice A0_0 zs.length c0_0, .slice A0_1 zs.length c0_1, .string a0_2] 191)).alloc (.cells #[.int .i64 a1] 3)).alloc (.cells #[.int .i64 0] 3)).alloc (.cells #[.int .i64 0] 3)) 4 (.bool false); rw [World.size_alloc, World.size_alloc, World.size_alloc, World.size_alloc] at this
  exact this.alloc _
 have hc5 : W0.heap[w.heap.size + 5]? = some (.cells #[.slice A0_0 zs.length c0_0, .slice A0_1 zs.length c0_1, .string a0_2] 191 (0, 0)) := by
  rw [← hW0]; have := World.alloc_heap_new (((((w.alloc (.cells #[.slice A0_0 zs.length c0_0, .slice A0_1 zs.length c0_1, .string a0_2] 191)).alloc (.cells #[.int .i64 a1] 3)).alloc (.cells #[.int .i64 0] 3)).alloc (.cells #[.int .i64 0] 3)).alloc (.cells #[.bool false] 4)) (.cells #[.slice A0_0 zs.length c0_0, .slice A0_1 zs.length c0_1, .string a0_2] 191); rw [World.size_alloc, World.size_alloc, World.size_alloc, World.size_alloc, World.size_alloc] at this
  exact this
 have hc50 : W0.cell? ⟨w.heap.size + 5, 0, none⟩ = some (.slice A0_0 zs.length c0_0) := by simp [World.cell?, hc5]
 have hc51 : W0.cell? ⟨w.heap.size + 5, 1, none⟩ = some (.slice A0_1 zs.length c0_1) := by simp [World.cell?, hc5]
 simp only [Nat.add_assoc, Nat.reduceAdd]; rw [hW0]; clear hW0
 refine wpIn_rangeFunc_ownG (n := 5) rfl (by decide) (gf := 213) (lb := #[.pointer (some ⟨w.heap.size + 5, 0, none⟩)]) rfl trivial (enters_of Tryz.func213 Z5 rfl)
  (all_stops (α := NearX a1) (fun x => x.p) (fun x => x.k) zs Fence.wide 4 trivial rfl (by decide) (w.heap.size + 5) w.heap.size (w.heap.size + 5) (w.heap.size + 6) A0_0 A0_1 c0_0 c0_1 (by omega) W0 (by omega) (by omega) (by omega) (by omega) hc50 hc51 (HL1.out.below hB0) (HL2.out.below hB0)) KeepsB.trans (keepsB_b (by omega) (by omega)) (Below.refl _ _) (fun _ => rfl)
  (fun pre W => (Boxed W (w.heap.size + 1) 3 (.int .i64 a1) ∧ Boxed W (w.heap.size + 2) 3 (.int .i64 (nearSum (pre.map NearX.v)).1) ∧ Boxed W (w.heap.size + 3) 3 (.int .i64 (nearSum (pre.map NearX.v)).2) ∧ Boxed W (w.heap.size + 4) 4 (.bool false)) ∧ Below w.heap.size w W ∧ w.heap.size + 6 ≤ W.heap.size)
  (fun _ _ _ => False)
  (OwnFrom.and (Own.from (fun s A B row hs hg hr => ⟨boxed_own _ 3 (fun _ : List (NearX a1) => _) s A B row hs.1 hg hr, boxed_own _ 3 (fun s : List (NearX a1) => .int .i64 (nearSum (s.map NearX.v)).1) s A B row hs.2.1 hg hr, boxed_own _ 3 (fun s : List (NearX a1) => .int .i64 (nearSum (s.map NearX.v)).2) s A B row hs.2.2.1 hg hr, boxed_own _ 4 (fun _ : List (NearX a1) => _) s A B row hs.2.2.2 hg hr⟩) _) (OwnFrom.and (ownFrom_below (Nat.le_refl _) (by omega)) (fun _ _ _ _ hs hg _ => Nat.le_trans hs hg.size)))
  (fun _ _ _ _ _ hs _ _ => hs)
  ⟨⟨hb1, hb2, hb3, hb4⟩, hB0, by omega⟩
  (fun x => { tmps := #[.agg #[.slice A0_0 zs.length c0_0, .slice A0_1 zs.length c0_1, .string a0_2], .int .i64 a1, .pointer (some ⟨w.heap.size, 0, none⟩), .pointer (some ⟨w.heap.size + 1, 0, none⟩), .pointer (some ⟨w.heap.size + 2, 0, none⟩), .pointer (some ⟨w.heap.size + 3, 0, none⟩), .pointer (some ⟨w.heap.size + 4, 0, none⟩), .int .i64 x.p, .string x.k, undef, undef, undef, undef, undef, .agg #[.slice A0_0 zs.length c0_0, .slice A0_1 zs.length c0_1, .string a0_2], .func (.func 213) #[] #[.pointer (some ⟨w.heap.size + 5, 0, none⟩)], .int .i64 x.p, .string x.k, undef, undef, undef, undef, undef, undef, undef, undef, undef, undef, undef, undef, undef, undef, undef, undef, undef, undef, undef, undef, undef, undef, undef, undef, undef, undef, undef, undef, undef, undef, undef, undef, undef, undef, undef, undef, undef, undef, undef, undef, undef, undef, undef, undef, undef, undef, undef, undef, undef, undef], defers := [] }) ?assign ?body ?done ?stop
 case assign =>
  intro l x W K hK
  gi_wp2
  exact hK
 case done =>
  rintro D ys W hD rfl ⟨⟨hb1, hb2, hb3, hb4⟩, hB, hS0⟩ hK; have hc2 := hb2.cell; have hf2 := hb2.frozen; have hc3 := hb3.cell; have hf3 := hb3.frozen; have hc4 := hb4.cell; have hf4 := hb4.frozen
  have hmx : Tryz.prog.follows .mixedOrders = true := by kernel_rfl
  gi_wp2
  gi_region_o
  all_goals gi_wp2
  all_goals (try go_bits)
  have hD2 : w.heap.size + 6 ≤ D := by omega
  clear hc2 hf2 hc3 hf3 hc4 hf4 hD; have e2 := (nearSum (ys.map NearX.v)).1; have g2 : Boxed (((W.setCell ⟨w.heap.size + 2, 0, none⟩ (.int .i64 (nearSum (ys.map NearX.v)).1)).setCell ⟨w.heap.size + 3, 0, none⟩ (.int .i64 (nearSum (ys.map NearX.v)).2)).setCell ⟨w.heap.size + 4, 0, none⟩ (.bool true)).drew (w.heap.size + 2) 3 (.int .i64 (nearSum (ys.map NearX.v)).1) := ((hb2.set _).other (by omega) _).other (by omega) _; have g3 : Boxed (((W.setCell ⟨w.heap.size + 2, 0, none⟩ (.int .i64 (nearSum (ys.map NearX.v)).1)).setCell ⟨w.heap.size + 3, 0, none⟩ (.int .i64 (nearSum (ys.map NearX.v)).2)).setCell ⟨w.heap.size + 4, 0, none⟩ (.bool true)).drew (w.heap.size + 3) 3 (.int .i64 (nearSum (ys.map NearX.v)).2) := ((hb3.other (by omega) _).set _).other (by omega) _; have g4 : Boxed (((W.setCell ⟨w.heap.size + 2, 0, none⟩ (.int .i64 (nearSum (ys.map NearX.v)).1)).setCell ⟨w.heap.size + 3, 0, none⟩ (.int .i64 (nearSum (ys.map NearX.v)).2)).setCell ⟨w.heap.size + 4, 0, none⟩ (.bool true)).drew (w.heap.size + 4) 4 (.bool true) := ((hb4.other (by omega) _).other (by omega) _).set _; have hK' : (((W.setCell ⟨w.heap.size + 2, 0, none⟩ (.int .i64 (nearSum (ys.map NearX.v)).1)).setCell ⟨w.heap.size + 3, 0, none⟩ (.int .i64 (nearSum (ys.map NearX.v)).2)).setCell ⟨w.heap.size + 4, 0, none⟩ (.bool true)).drew.heap[D]? = some (.deferred (some [])) := ((((KeepsOthers.setCell W _ _).trans (KeepsOthers.setCell _ _ _)).trans (KeepsOthers.setCell _ _ _)).trans (KeepsOthers.drew _)).same D _ hK rfl; have hBX : Below w.heap.size w (((W.setCell ⟨w.heap.size + 2, 0, none⟩ (.int .i64 (nearSum (ys.map NearX.v)).1)).setCell ⟨w.heap.size + 3, 0, none⟩ (.int .i64 (nearSum (ys.map NearX.v)).2)).setCell ⟨w.heap.size + 4, 0, none⟩ (.bool true)).drew := (((hB.setCell (p := ⟨w.heap.size + 2, 0, none⟩) Z171 _).setCell (p := ⟨w.heap.size + 3, 0, none⟩) Z172 _).setCell (p := ⟨w.heap.size + 4, 0, none⟩) (by show w.heap.size ≤ w.heap.size + 4; omega) _).drew
  obtain ⟨X, hX⟩ : ∃ X, (((W.setCell ⟨w.heap.size + 2, 0, none⟩ (.int .i64 (nearSum (ys.map NearX.v)).1)).setCell ⟨w.heap.size + 3, 0, none⟩ (.int .i64 (nearSum (ys.map NearX.v)).2)).setCell ⟨w.heap.size + 4, 0, none⟩ (.bool true)).drew = X := ⟨_, rfl⟩
  rw [hX] at g2 g3 g4 hK' hBX ⊢; refine ⟨by simp, .inl ⟨_, _, rfl, run_takeDeferred hK', ?_⟩⟩; have k2 := (g2.kept (grownBy_putObj' X D (.deferred none)) (fun e => by cases e; omega)).cell; have k3 := (g3.kept (grownBy_putObj' X D (.deferred none)) (fun e => by cases e; omega)).cell; have k4 := (g4.kept (grownBy_putObj' X D (.deferred none)) (fun e => by cases e; omega)).cell; have hBY := belowK_b (w := w) (Nat.le_refl _) X D _ (.deferred none) (by omega) hK' rfl rfl; refine ⟨.tuple #[.int .i64 (nearSum (ys.map NearX.v)).1, .int .i64 (nearSum (ys.map NearX.v)).2, .bool true], ?_, by rw [HZ.out], hBX.trans hBY⟩; simp only [results, show Tryz.f185.results = #[.cell 4 3, .cell 5 3, .cell 6 4] from rfl]; go_simp
 case stop =>
  rintro D c pre W _ _ h _; exact h.elim
 case body =>
  rintro l pre x W ⟨⟨hb1, hb2, hb3, hb4⟩, hB, hS0⟩ _
  have hd : 1 ≤ 5 - 1 - 1 := by decide
  have hmx : Tryz.prog.follows .mixedOrders = true := by kernel_rfl
  have hG1 := AS (HGL.out.below hB); have hS := AS (whole_Small.calls x.k x.n true W hG1.out x.small); have hFa := AS x.fast; have hle := x.le; have hge := x.ge
  gi_wp2_with (first | (refine ⟨trivial, ?_⟩; gi_at_call 102; refine (CallsIn.inRound l (callsIn_wide.2 hS.out)).mono ?_; rintro e W1 ⟨rfl, hB1⟩; have HB1 := AS (bst hB hB1); have hq1 := hb1.below hB1 hb1.lt; have hq2 := hb2.below hB1 hb2.lt; have hq3 := hb3.below hB1 hb3.lt; have hq4 := hb4.below hB1 hb4.lt; have hc1 := hq1.cell; have HK1 := AS (keepsFrom_below (B := W0.heap.size) hB1); have HW1 := AS hB1; have HS1 := AS hB1.size; clear hB1) | (refine ⟨trivial, ?_⟩; gi_at_call 212; refine (CallsIn.inRound l (callsIn_wide.2 (size_fast.calls 2000000 x.p x.a true _ (HGL.out.below HB1.out) hFa.out))).mono ?_; rintro e W2 ⟨rfl, hB2⟩; have HB2 := AS (bst HB1.out hB2); have hr1 := hq1.below hB2 hq1.lt; have hr2 := hq2.below hB2 hq2.lt; have hr3 := hq3.below hB2 hq3.lt; have hr4 := hq4.below hB2 hq4.lt; have hc2 := hr2.cell; have hf2 := hr2.frozen; have hc3 := hr3.cell; have hf3 := hr3.frozen; have HK2 := AS (HK1.out.trans (keepsFrom_below (B := W0.heap.size) hB2)); have HW2 := AS (HW1.out.trans (hB2.mono HS1.out)); have hS2 := Nat.le_trans HS1.out hB2.size; clear hB2))
  all_goals (refine wpIn_region_any hmx (wpAnyIn_inRound l Z5 _ _ _ _ ?_))
  all_goals (refine wpAnyIn_take (i := 1) (v := ?_) rfl rfl Z5 Z5 Z5 (fun _ _ _ h => h) ⟨Or.inl ⟨by rfl, ?_⟩, fun _ => rfl⟩ ?_; rotate_left; focus (intro w; go_simp; try with_reducible rfl))
  all_goals (refine wpAnyIn_take (i := 2) (v := ?_) rfl rfl Z5 Z5 Z5 (fun _ _ _ h => h) ⟨Or.inl ⟨by rfl, ?_⟩, fun _ => rfl⟩ ?_; rotate_left; focus (intro w; go_simp; try with_reducible rfl))
  all_goals (refine wpAnyIn_take (i := 3) (v := ?_) rfl rfl Z5 Z5 Z5 (fun _ _ _ h => h) ⟨Or.inl ⟨by rfl, ?_⟩, fun _ => rfl⟩ ?_; rotate_left; focus (intro w; go_simp; try with_reducible rfl))
  all_goals (refine wpAnyIn_take (i := 4) (v := ?_) rfl rfl Z5 Z5 Z5 (fun _ _ _ h => h) ⟨Or.inl ⟨by rfl, ?_⟩, fun _ => rfl⟩ ?_; rotate_left; focus (intro w; go_simp; try with_reducible rfl))
  all_goals (refine wpAnyIn_take (i := 5) (v := ?_) rfl rfl Z5 Z5 Z5 (fun _ _ _ h => h) ⟨Or.inl ⟨by rfl, ?_⟩, fun _ => rfl⟩ ?_; rotate_left; focus (intro w; go_simp; try with_reducible rfl))
  all_goals (refine wpAnyIn_take (i := 6) (v := ?_) rfl rfl Z5 Z5 Z5 (fun _ _ _ h => h) ⟨Or.inl ⟨by rfl, ?_⟩, fun _ => rfl⟩ ?_; rotate_left; focus (intro w; go_simp; try with_reducible rfl))
  all_goals (refine wpAnyIn_take (i := 7) (v := ?_) rfl rfl Z5 Z5 Z5 (fun _ _ _ h => h) ⟨Or.inl ⟨by rfl, ?_⟩, fun _ => rfl⟩ ?_; rotate_left; focus (intro w; go_simp; try with_reducible rfl))
  all_goals (refine wpAnyIn_take (i := 10) (v := ?_) rfl rfl Z5 Z5 Z5 (fun _ _ _ h => h) ⟨Or.inl ⟨by rfl, ?_⟩, fun _ => rfl⟩ ?_; rotate_left; focus (intro w; go_simp; try with_reducible rfl))
  all_goals (refine wpAnyIn_take (i := 11) (v := ?_) rfl rfl Z5 Z5 Z5 (fun _ _ _ h => h) ⟨Or.inl ⟨by rfl, ?_⟩, fun _ => rfl⟩ ?_; rotate_left; focus (intro w; go_simp; try with_reducible rfl))
  all_goals (refine wpAnyIn_take (i := 12) (v := ?_) rfl rfl Z5 Z5 Z5 (fun _ _ _ h => h) ⟨Or.inl ⟨by rfl, ?_⟩, fun _ => rfl⟩ ?_; rotate_left; focus (intro w; go_simp; try with_reducible rfl))
  all_goals (refine wpAnyIn_take (i := 13) (v := ?_) rfl rfl Z5 Z5 Z5 (fun _ _ _ h => h) ⟨Or.inl ⟨by rfl, ?_⟩, fun _ => rfl⟩ ?_; rotate_left; focus (intro w; go_simp; try with_reducible rfl))
  all_goals (refine wpAnyIn_take (i := 14) (v := ?_) rfl rfl Z5 Z5 Z5 (fun _ _ _ h => h) ⟨Or.inl ⟨by rfl, ?_⟩, fun _ => rfl⟩ ?_; rotate_left; focus (intro w; go_simp; try with_reducible rfl))
  all_goals (refine wpAnyIn_take (i := 15) (v := ?_) rfl rfl Z5 Z5 Z5 (fun _ _ _ h => h) ⟨Or.inl ⟨by rfl, ?_⟩, fun _ => rfl⟩ ?_; rotate_left; focus (intro w; go_simp; try with_reducible rfl))
  all_goals (refine wpAnyIn_take (i := 16) (v := ?_) rfl rfl Z5 Z5 Z5 (fun _ _ _ h => h) ⟨Or.inl ⟨by rfl, ?_⟩, fun _ => rfl⟩ ?_; rotate_left; focus (intro w; go_simp; try with_reducible rfl))
  all_goals (refine wpAnyIn_all (rs := [0, 9]) Z5 (by simp) ?_; refine AllReadyIn.cons rfl (fun K hK => ?_) (AllReadyIn.cons rfl (fun K hK => ?_) AllReadyIn.nil) <;> go_simp <;> refine hK _ _ ?_ <;> clear hK K)
  rotate_left 2
  iterate 2
   ·refine wpAnyIn_take (i := 8) (v := ?_) rfl rfl Z5 Z5 Z5 (fun _ _ _ h => h) ⟨Or.inl ⟨by rfl, ?_⟩, fun _ => rfl⟩ ?_; rotate_left; focus (intro w; go_simp; try with_reducible rfl)
    refine wpAnyIn_all (rs := [9, 18]) Z5 (by simp) ?_; refine AllReadyIn.cons rfl (fun K hK => ?_) (AllReadyIn.cons rfl (fun K hK => ?_) (AllReadyIn.nil)) <;> go_simp <;> refine hK _ _ ?_ <;> clear hK K
    ·refine wpAnyIn_take (i := 17) (v := ?_) rfl rfl Z5 Z5 Z5 (fun _ _ _ h => h) ⟨Or.inl ⟨by rfl, ?_⟩, fun _ => rfl⟩ ?_; rotate_left; focus (intro w; go_simp; try with_reducible rfl)
     refine wpAnyIn_all (rs := [18]) Z5 (by simp) ?_; refine AllReadyIn.cons rfl (fun K hK => ?_) (AllReadyIn.nil) <;> go_simp <;> refine hK _ _ ?_ <;> clear hK K
     refine wpAnyIn_all (rs := [19]) Z5 (by simp) ?_; refine AllReadyIn.cons rfl (fun K hK => ?_) (AllReadyIn.nil) <;> go_simp <;> refine hK _ _ ?_ <;> clear hK K
     refine wpAnyIn_done Z5 ?_ _; refine near_post hS0 hB HW2.out hS2 hr1 hr2 hr3 hr4 HK2.out HB2.out ?_ ?_
     all_goals (first | exact (near_ne pre x Z167).1 | exact (near_ne pre x Z167).2 | exact (near_eq pre x Z167).1 | exact (near_eq pre x Z167).2)
    ·refine wpAnyIn_all (rs := [9]) Z5 (by simp) ?_; refine AllReadyIn.cons rfl (fun K hK => ?_) (AllReadyIn.nil) <;> go_simp <;> refine hK _ _ ?_ <;> clear hK K
     refine wpAnyIn_take (i := 17) (v := ?_) rfl rfl Z5 Z5 Z5 (fun _ _ _ h => h) ⟨Or.inl ⟨by rfl, ?_⟩, fun _ => rfl⟩ ?_; rotate_left; focus (intro w; go_simp; try with_reducible rfl)
     refine wpAnyIn_all (rs := [19]) Z5 (by simp) ?_; refine AllReadyIn.cons rfl (fun K hK => ?_) (AllReadyIn.nil) <;> go_simp <;> refine hK _ _ ?_ <;> clear hK K
     refine wpAnyIn_done Z5 ?_ _; refine near_post hS0 hB HW2.out hS2 hr1 hr2 hr3 hr4 HK2.out HB2.out ?_ ?_
     all_goals (first | exact (near_ne pre x Z167).1 | exact (near_ne pre x Z167).2 | exact (near_eq pre x Z167).1 | exact (near_eq pre x Z167).2)
   ·refine wpAnyIn_take (i := 17) (v := ?_) rfl rfl Z5 Z5 Z5 (fun _ _ _ h => h) ⟨Or.inl ⟨by rfl, ?_⟩, fun _ => rfl⟩ ?_; rotate_left; focus (intro w; go_simp; try with_reducible rfl)
    refine wpAnyIn_all (rs := [0]) Z5 (by simp) ?_; refine AllReadyIn.cons rfl (fun K hK => ?_) (AllReadyIn.nil) <;> go_simp <;> refine hK _ _ ?_ <;> clear hK K
    refine wpAnyIn_take (i := 8) (v := ?_) rfl rfl Z5 Z5 Z5 (fun _ _ _ h => h) ⟨Or.inl ⟨by rfl, ?_⟩, fun _ => rfl⟩ ?_; rotate_left; focus (intro w; go_simp; try with_reducible rfl)
    refine wpAnyIn_all (rs := [18]) Z5 (by simp) ?_; refine AllReadyIn.cons rfl (fun K hK => ?_) (AllReadyIn.nil) <;> go_simp <;> refine hK _ _ ?_ <;> clear hK K
    refine wpAnyIn_all (rs := [19]) Z5 (by simp) ?_; refine AllReadyIn.cons rfl (fun K hK => ?_) (AllReadyIn.nil) <;> go_simp <;> refine hK _ _ ?_ <;> clear hK K
    ·refine wpAnyIn_done Z5 ?_ _; refine near_post hS0 hB HW2.out hS2 hr1 hr2 hr3 hr4 HK2.out HB2.out ?_ ?_
     all_goals (first | exact (near_ne pre x Z167).1 | exact (near_ne pre x Z167).2 | exact (near_eq pre x Z167).1 | exact (near_eq pre x Z167).2)
def size_terms_near.f (l0_0 : List Int) (l0_1 : List ByteArray) (a0_2 : ByteArray) (a1 : Int) : Option (Int × Int × Bool) := if l0_0.length ≤ 100000 ∧ 0 ≤ a1 ∧ a1 ≤ 1000000000 then (nearL a1 l0_0 l0_1).bind fun l => some ((nearSum l).1, (nearSum l).2, true) else none
theorem size_terms_near.calls (A0_0 : Option Addr) (c0_0 : Nat) (l0_0 : List Int) (A0_1 : Option Addr) (c0_1 : Nat) (l0_1 : List ByteArray) (a0_2 : ByteArray) (a1 : Int) (r1 : Int) (r2 : Int) (r3 : Bool) (w : World) (hr0_0 : Kd.C (Kd.int .i64) w A0_0 l0_0.length l0_0) (hc0_0 : l0_0.length ≤ c0_0) (hr0_1 : Kd.C Kd.string w A0_1 l0_1.length l0_1) (hc0_1 : l0_1.length ≤ c0_1) (hG : GL w) (h : size_terms_near.f l0_0 l0_1 a0_2 a1 = some (r1, r2, r3)) :
  Calls Tryz.prog 185 #[.agg #[.slice A0_0 l0_0.length c0_0, .slice A0_1 l0_1.length c0_1, .string a0_2], .int .i64 a1] w fun e w' => e = .returned (.tuple #[.int .i64 r1, .int .i64 r2, .bool r3]) ∧ Below w.heap.size w w' := by
 unfold size_terms_near.f at h
 by_cases c : l0_0.length ≤ 100000 ∧ 0 ≤ a1 ∧ a1 ≤ 1000000000
 ·rw [if_pos c] at h; obtain ⟨l, hl, he⟩ := Option.bind_eq_some_iff.1 h; simp only [Option.some.injEq, Prod.mk.injEq] at he; obtain ⟨rfl, rfl, rfl⟩ := he; exact callsIn_wide.1 (near_walk A0_0 c0_0 l0_0 A0_1 c0_1 l0_1 a0_2 a1 l w hr0_0 hr0_1 c.1 c.2.1 c.2.2 hG hl)
 ·rw [if_neg c] at h; cases h
end

end Go.Proofs.YtkgkihichdcpmaaGreatDoor.H
