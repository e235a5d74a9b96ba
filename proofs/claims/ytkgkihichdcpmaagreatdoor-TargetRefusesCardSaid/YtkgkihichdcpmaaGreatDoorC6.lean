import Derived.Test.YtkgkihichdcpmaaGreatDoorC5
import Derived.Lib.SliceRun
namespace Go.Proofs.YtkgkihichdcpmaaGreatDoor.H
open Go.RowKit Go.Proofs.YtkgkihichdcpmaaGreatDoorW.PrintWords Go.Proofs.YtkgkihichdcpmaaGreatDoorW.PrintLast Go.Proofs.YtkgkihichdcpmaaGreatDoorW.PrintMore
attribute [local go_sem] max2_int min2_int max_two min_two max_three min_three max_four min_four
set_option linter.unusedVariables false
set_option linter.unusedSimpArgs false
def size_downward.f (a0 : Int) (a1 : Int) : Option (Int) := if a0 < 0 then (if a1 = 0 then (none) else (some (wrap64 (-(wrap64 (Int.tdiv (wrap64 ((wrap64 ((wrap64 (-a0)) + a1)) - 1)) a1)))))) else (if a1 = 0 then (none) else (some (wrap64 (Int.tdiv a0 a1))))
set_option maxHeartbeats 8000000 in
set_option maxRecDepth 100000 in
theorem size_downward.calls (a0 : Int) (a1 : Int) (r : Int) (w : World) (hG : GL w) (h : size_downward.f a0 a1 = some r) :
  Calls Tryz.prog 186 #[.int .i64 a0, .int .i64 a1] w fun e w' => e = .returned (.int .i64 r) ∧ Drawn0 w w' := by
 have HB := AS (Below.refl w.heap.size w)
 have H : (if a0 < 0 then (if a1 = 0 then (none) else (some (wrap64 (-(wrap64 (Int.tdiv (wrap64 ((wrap64 ((wrap64 (-a0)) + a1)) - 1)) a1)))))) else (if a1 = 0 then (none) else (some (wrap64 (Int.tdiv a0 a1))))) = some r := h
 clear h
 by_cases c3 : a0 < 0
 ·rw [if_pos c3] at H
  have c3b0 : decide (a0 < 0) = true := decide_eq_true c3
  clear c3
  by_cases c4 : a1 = 0
  ·rw [if_pos c4] at H
   exact absurd H (by simp)
  ·rw [if_neg c4] at H
   have c4b0 : (a1 == 0) = false := beq_eq_false_iff_ne.mpr c4
   have c4b1 : (a1 != 0) = true := bne_iff_ne.mpr c4
   obtain rfl := Option.some.inj H
   go_enter Tryz.func186, Tryz.ntmps186
   go_wp2
   go_ret
   exact ⟨Z5, Z15⟩
 ·rw [if_neg c3] at H
  have c3b0 : decide (a0 < 0) = false := decide_eq_false c3
  clear c3
  by_cases c5 : a1 = 0
  ·rw [if_pos c5] at H
   exact absurd H (by simp)
  ·rw [if_neg c5] at H
   have c5b0 : (a1 == 0) = false := beq_eq_false_iff_ne.mpr c5
   have c5b1 : (a1 != 0) = true := bne_iff_ne.mpr c5
   obtain rfl := Option.some.inj H
   go_enter Tryz.func186, Tryz.ntmps186
   go_wp2
   go_ret
   exact ⟨Z5, Z15⟩
mutual
def size_quotient.j0 : Nat → Int → Int → Int → Int → Int → Int → Bool → Option (Int × Bool)
 | 0, _, _, _, _, _, _, _ => none
 | k + 1, x6, x7, x9, x10, x12, x14, x65 => if x65 = true then (some (0, false)) else (if x10 ≤ 0 then (size_quotient.j1 k (wrap64 (-x7)) (wrap64 (-x6)) (wrap64 (-x10)) (wrap64 (-x9)) x12 x14) else (size_quotient.j1 k x6 x7 x9 x10 x12 x14))
def size_quotient.j1 : Nat → Int → Int → Int → Int → Int → Int → Option (Int × Bool)
 | 0, _, _, _, _, _, _ => none
 | k + 1, x6, x7, x9, x10, x12, x14 => if x9 ≤ 0 then (some (0, false)) else (if x6 < 0 then (size_quotient.j2 k x6 x7 x10 x12 x14 x9 x9) else (size_quotient.j2 k x6 x7 x10 x12 x14 x10 x9))
def size_quotient.j2 : Nat → Int → Int → Int → Int → Int → Int → Int → Option (Int × Bool)
 | 0, _, _, _, _, _, _, _ => none
 | k + 1, x6, x7, x10, x12, x14, x16, x17 => if x7 < 0 then ((size_downward.f (wrap64 (x6 * x14)) (wrap64 (x16 * x12))).bind fun t352 => ((size_downward.f (wrap64 (x7 * x14)) (wrap64 (x10 * x12))).bind fun t353 => (some (t352, (t352 == t353))))) else ((size_downward.f (wrap64 (x6 * x14)) (wrap64 (x16 * x12))).bind fun t354 => ((size_downward.f (wrap64 (x7 * x14)) (wrap64 (x17 * x12))).bind fun t355 => (some (t354, (t354 == t355)))))
end
def size_quotient.f (k : Nat) (l0_0 : List Int) (l0_1 : List ByteArray) (a0_2 : ByteArray) (l1_0 : List Int) (l1_1 : List ByteArray) (a1_2 : ByteArray) : Option (Int × Bool) := (size_terms_near.f l0_0 l0_1 a0_2 100000).bind fun bt342 => ((size_terms_near.f l1_0 l1_1 a1_2 100000).bind fun bt345 => ((whole_Small.f a0_2).bind fun bt348 => ((whole_Small.f a1_2).bind fun bt350 => (if bt342.2.2 = true then (if bt345.2.2 = true then (if bt348.2 = true then (if bt350.2 = true then (if bt348.1 > 10000 then (size_quotient.j0 k bt342.1 bt342.2.1 bt345.1 bt345.2.1 bt348.1 bt350.1 true) else (size_quotient.j0 k bt342.1 bt342.2.1 bt345.1 bt345.2.1 bt348.1 bt350.1 (decide (bt350.1 > 10000)))) else (size_quotient.j0 k bt342.1 bt342.2.1 bt345.1 bt345.2.1 bt348.1 bt350.1 true)) else (size_quotient.j0 k bt342.1 bt342.2.1 bt345.1 bt345.2.1 bt348.1 bt350.1 true)) else (size_quotient.j0 k bt342.1 bt342.2.1 bt345.1 bt345.2.1 bt348.1 bt350.1 true)) else (size_quotient.j0 k bt342.1 bt342.2.1 bt345.1 bt345.2.1 bt348.1 bt350.1 true)))))
set_option maxHeartbeats 8000000 in
set_option maxRecDepth 100000 in
theorem size_quotient.calls (k : Nat) (A0_0 : Option Addr) (c0_0 : Nat) (l0_0 : List Int) (A0_1 : Option Addr) (c0_1 : Nat) (l0_1 : List ByteArray) (a0_2 : ByteArray) (A1_0 : Option Addr) (c1_0 : Nat) (l1_0 : List Int) (A1_1 : Option Addr) (c1_1 : Nat) (l1_1 : List ByteArray) (a1_2 : ByteArray) (r1 : Int) (r2 : Bool) (w : World) (hr0_0 : Kd.C (Kd.int .i64) w A0_0 l0_0.length l0_0) (hc0_0 : l0_0.length ≤ c0_0) (hr0_1 : Kd.C Kd.string w A0_1 l0_1.length l0_1) (hc0_1 : l0_1.length ≤ c0_1) (hr1_0 : Kd.C (Kd.int .i64) w A1_0 l1_0.length l1_0) (hc1_0 : l1_0.length ≤ c1_0) (hr1_1 : Kd.C Kd.string w A1_1 l1_1.length l1_1) (hc1_1 : l1_1.length ≤ c1_1) (hG : GL w) (h : size_quotient.f k l0_0 l0_1 a0_2 l1_0 l1_1 a1_2 = some (r1, r2)) :
  Calls Tryz.prog 152 #[.agg #[.slice A0_0 l0_0.length c0_0, .slice A0_1 l0_1.length c0_1, .string a0_2], .agg #[.slice A1_0 l1_0.length c1_0, .slice A1_1 l1_1.length c1_1, .string a1_2]] w fun e w' => e = .returned (.tuple #[.int .i64 r1, .bool r2]) ∧ Below w.heap.size w w' := by
 have hu191 := Tryz.underlying191
 have HR0_0 := AS hr0_0
 have HC0_0 := AS hc0_0
 clear hr0_0 hc0_0
 have HR0_1 := AS hr0_1
 have HC0_1 := AS hc0_1
 clear hr0_1 hc0_1
 have HR1_0 := AS hr1_0
 have HC1_0 := AS hc1_0
 clear hr1_0 hc1_0
 have HR1_1 := AS hr1_1
 have HC1_1 := AS hc1_1
 clear hr1_1 hc1_1
 have HB := AS (Below.refl w.heap.size w)
 have H : ((size_terms_near.f l0_0 l0_1 a0_2 100000).bind fun bt342 => ((size_terms_near.f l1_0 l1_1 a1_2 100000).bind fun bt345 => ((whole_Small.f a0_2).bind fun bt348 => ((whole_Small.f a1_2).bind fun bt350 => (if bt342.2.2 = true then (if bt345.2.2 = true then (if bt348.2 = true then (if bt350.2 = true then (if bt348.1 > 10000 then (size_quotient.j0 k bt342.1 bt342.2.1 bt345.1 bt345.2.1 bt348.1 bt350.1 true) else (size_quotient.j0 k bt342.1 bt342.2.1 bt345.1 bt345.2.1 bt348.1 bt350.1 (decide (bt350.1 > 10000)))) else (size_quotient.j0 k bt342.1 bt342.2.1 bt345.1 bt345.2.1 bt348.1 bt350.1 true)) else (size_quotient.j0 k bt342.1 bt342.2.1 bt345.1 bt345.2.1 bt348.1 bt350.1 true)) else (size_quotient.j0 k bt342.1 bt342.2.1 bt345.1 bt345.2.1 bt348.1 bt350.1 true)) else (size_quotient.j0 k bt342.1 bt342.2.1 bt345.1 bt345.2.1 bt348.1 bt350.1 true)))))) = some (r1, r2) := h
 clear h
 replace H := Option.bind_eq_some_iff.mp H
 obtain ⟨⟨t342, t343, t344⟩, A30, H⟩ := H
 replace H : ((size_terms_near.f l1_0 l1_1 a1_2 100000).bind fun bt345 => ((whole_Small.f a0_2).bind fun bt348 => ((whole_Small.f a1_2).bind fun bt350 => (if t344 = true then (if bt345.2.2 = true then (if bt348.2 = true then (if bt350.2 = true then (if bt348.1 > 10000 then (size_quotient.j0 k t342 t343 bt345.1 bt345.2.1 bt348.1 bt350.1 true) else (size_quotient.j0 k t342 t343 bt345.1 bt345.2.1 bt348.1 bt350.1 (decide (bt350.1 > 10000)))) else (size_quotient.j0 k t342 t343 bt345.1 bt345.2.1 bt348.1 bt350.1 true)) else (size_quotient.j0 k t342 t343 bt345.1 bt345.2.1 bt348.1 bt350.1 true)) else (size_quotient.j0 k t342 t343 bt345.1 bt345.2.1 bt348.1 bt350.1 true)) else (size_quotient.j0 k t342 t343 bt345.1 bt345.2.1 bt348.1 bt350.1 true))))) = some (r1, r2) := H
 have A3 := AS A30
 clear A30
 replace H := Option.bind_eq_some_iff.mp H
 obtain ⟨⟨t345, t346, t347⟩, A40, H⟩ := H
 replace H : ((whole_Small.f a0_2).bind fun bt348 => ((whole_Small.f a1_2).bind fun bt350 => (if t344 = true then (if t347 = true then (if bt348.2 = true then (if bt350.2 = true then (if bt348.1 > 10000 then (size_quotient.j0 k t342 t343 t345 t346 bt348.1 bt350.1 true) else (size_quotient.j0 k t342 t343 t345 t346 bt348.1 bt350.1 (decide (bt350.1 > 10000)))) else (size_quotient.j0 k t342 t343 t345 t346 bt348.1 bt350.1 true)) else (size_quotient.j0 k t342 t343 t345 t346 bt348.1 bt350.1 true)) else (size_quotient.j0 k t342 t343 t345 t346 bt348.1 bt350.1 true)) else (size_quotient.j0 k t342 t343 t345 t346 bt348.1 bt350.1 true)))) = some (r1, r2) := H
 have A4 := AS A40
 clear A40
 replace H := Option.bind_eq_some_iff.mp H
 obtain ⟨⟨t348, t349⟩, A50, H⟩ := H
 replace H : ((whole_Small.f a1_2).bind fun bt350 => (if t344 = true then (if t347 = true then (if t349 = true then (if bt350.2 = true then (if t348 > 10000 then (size_quotient.j0 k t342 t343 t345 t346 t348 bt350.1 true) else (size_quotient.j0 k t342 t343 t345 t346 t348 bt350.1 (decide (bt350.1 > 10000)))) else (size_quotient.j0 k t342 t343 t345 t346 t348 bt350.1 true)) else (size_quotient.j0 k t342 t343 t345 t346 t348 bt350.1 true)) else (size_quotient.j0 k t342 t343 t345 t346 t348 bt350.1 true)) else (size_quotient.j0 k t342 t343 t345 t346 t348 bt350.1 true))) = some (r1, r2) := H
 have A5 := AS A50
 clear A50
 replace H := Option.bind_eq_some_iff.mp H
 obtain ⟨⟨t350, t351⟩, A60, H⟩ := H
 replace H : (if t344 = true then (if t347 = true then (if t349 = true then (if t351 = true then (if t348 > 10000 then (size_quotient.j0 k t342 t343 t345 t346 t348 t350 true) else (size_quotient.j0 k t342 t343 t345 t346 t348 t350 (decide (t350 > 10000)))) else (size_quotient.j0 k t342 t343 t345 t346 t348 t350 true)) else (size_quotient.j0 k t342 t343 t345 t346 t348 t350 true)) else (size_quotient.j0 k t342 t343 t345 t346 t348 t350 true)) else (size_quotient.j0 k t342 t343 t345 t346 t348 t350 true)) = some (r1, r2) := H
 have A6 := AS A60
 clear A60
 have HC7 := AS H
 clear H
 go_enter Tryz.func152, Tryz.ntmps152
 go_upto_region 5 with (first | ((with_reducible refine gate_dst (N := 2) rfl ?_); refine box_event ?hg (N := 2) ?hd (cs := #[.slice A0_0 l0_0.length c0_0, .slice A0_1 l0_1.length c0_1, .string a0_2]) (t := 191) ?hr ?_; (case hd => rfl); (case hg => rfl); (case hr => exact Z13); intro gb340 hg w8 hbox hb; have n0_ := AS (below_step Z0 hb); have n1_ := AS (hbox); have n2_ := AS ((Z184 : w.heap.size ≤ gb340)); have n3_ := AS ((Z184 : w.heap.size ≤ gb340)); clear HB; have HB := n0_; have BK340 := n1_; have GW340 := n2_; have GE340 := n3_; clear n0_ n1_ n2_ n3_; clear hb hbox hg) | ((with_reducible refine gate_dst (N := 3) rfl ?_); refine box_event ?hg (N := 3) ?hd (cs := #[.slice A1_0 l1_0.length c1_0, .slice A1_1 l1_1.length c1_1, .string a1_2]) (t := 191) ?hr ?_; (case hd => rfl); (case hg => rfl); (case hr => exact Z13); intro gb341 hg w9 hbox hb; have n0_ := AS (blk_below (g := gb340) (o := .cells #[.slice A0_0 l0_0.length c0_0, .slice A0_1 l0_1.length c0_1, .string a0_2] 191 (0, 0)) Z30 hb); have n1_ := AS (below_step Z120 hb); have n2_ := AS (hbox); have n3_ := AS ((by rw [hg]; exact (below_size Z120) : w.heap.size ≤ gb341)); have n4_ := AS ((by rw [hg]; exact (below_size Z120) : w.heap.size ≤ gb341)); have n5_ := AS ((by rw [hg]; exact Nat.ne_of_lt (blk_lt (g := gb340) (o := .cells #[.slice A0_0 l0_0.length c0_0, .slice A0_1 l0_1.length c0_1, .string a0_2] 191 (0, 0)) Z30) : gb340 ≠ gb341)); have n6_ := AS ((by rw [hg]; exact Nat.ne_of_gt (blk_lt (g := gb340) (o := .cells #[.slice A0_0 l0_0.length c0_0, .slice A0_1 l0_1.length c0_1, .string a0_2] 191 (0, 0)) Z30) : gb341 ≠ gb340)); clear BK340; clear HB; have BK340 := n0_; have HB := n1_; have BK341 := n2_; have GW341 := n3_; have GE341 := n4_; have NB340_341 := n5_; have NB341_340 := n6_; clear n0_ n1_ n2_ n3_ n4_ n5_ n6_; clear hb hbox hg; have hnb10 := NB340_341.out; have hnc10 := NB341_340.out; have hcz11_0 : w9.cell? ⟨gb340, 0, none⟩ = some (.slice A0_0 l0_0.length c0_0) := (blk_cell BK340.out 0).trans rfl; have hcz11_1 : w9.cell? ⟨gb340, 1, none⟩ = some (.slice A0_1 l0_1.length c0_1) := (blk_cell BK340.out 1).trans rfl; have hcz11_2 : w9.cell? ⟨gb340, 2, none⟩ = some (.string a0_2) := (blk_cell BK340.out 2).trans rfl; have hfz11_0 := blk_frozen BK340.out 0; have hfz11_1 := blk_frozen BK340.out 1; have hfz11_2 := blk_frozen BK340.out 2) | ((with_reducible refine gate_callee (f := 185) rfl ?_); refine goesL_ (some 22) rfl rfl Tryz.func185 Z6 rfl #[.agg #[.slice A0_0 l0_0.length c0_0, .slice A0_1 l0_1.length c0_1, .string a0_2], .int .i64 100000] rfl Z1 ?_; (with_reducible refine (size_terms_near.calls _ _ l0_0 _ _ l0_1 a0_2 100000 t342 t343 t344 _ ?side1 ?side2 ?side3 ?side4 ?side5 A3.out).mono ?_); (case side1 => repeat (first | exact (Kd.C_below HR0_0.out HB.out) | (with_reducible refine Kd.C_alloc ?_ _) | (with_reducible refine Kd.C_drewN ?_ _) | (with_reducible refine Kd.C_drew ?_))); (case side2 => exact HC0_0.out); (case side3 => repeat (first | exact (Kd.C_below HR0_1.out HB.out) | (with_reducible refine Kd.C_alloc ?_ _) | (with_reducible refine Kd.C_drewN ?_ _) | (with_reducible refine Kd.C_drew ?_))); (case side4 => exact HC0_1.out); (case side5 => exact Z216); rintro e w12 ⟨rfl, hb⟩; refine ⟨_, rfl, ?_⟩; have n0_ := AS (blk_below (g := gb340) (o := .cells #[.slice A0_0 l0_0.length c0_0, .slice A0_1 l0_1.length c0_1, .string a0_2] 191 (0, 0)) Z30 hb); have n1_ := AS (blk_below (g := gb341) (o := .cells #[.slice A1_0 l1_0.length c1_0, .slice A1_1 l1_1.length c1_1, .string a1_2] 191 (0, 0)) Z39 hb); have n2_ := AS (below_step Z9 hb); clear BK340; clear BK341; clear HB; have BK340 := n0_; have BK341 := n1_; have HB := n2_; clear n0_ n1_ n2_; (try clear hb); (try clear hb2); (try clear hk); (try clear hi); have hcz13_0 : w12.cell? ⟨gb341, 0, none⟩ = some (.slice A1_0 l1_0.length c1_0) := (blk_cell BK341.out 0).trans rfl; have hcz13_1 : w12.cell? ⟨gb341, 1, none⟩ = some (.slice A1_1 l1_1.length c1_1) := (blk_cell BK341.out 1).trans rfl; have hcz13_2 : w12.cell? ⟨gb341, 2, none⟩ = some (.string a1_2) := (blk_cell BK341.out 2).trans rfl; have hfz13_0 := blk_frozen BK341.out 0; have hfz13_1 := blk_frozen BK341.out 1; have hfz13_2 := blk_frozen BK341.out 2) | ((with_reducible refine gate_callee (f := 185) rfl ?_); refine goesL_ (some 28) rfl rfl Tryz.func185 Z6 rfl #[.agg #[.slice A1_0 l1_0.length c1_0, .slice A1_1 l1_1.length c1_1, .string a1_2], .int .i64 100000] rfl Z1 ?_; (with_reducible refine (size_terms_near.calls _ _ l1_0 _ _ l1_1 a1_2 100000 t345 t346 t347 _ ?side1 ?side2 ?side3 ?side4 ?side5 A4.out).mono ?_); (case side1 => repeat (first | exact (Kd.C_below HR1_0.out HB.out) | (with_reducible refine Kd.C_alloc ?_ _) | (with_reducible refine Kd.C_drewN ?_ _) | (with_reducible refine Kd.C_drew ?_))); (case side2 => exact HC1_0.out); (case side3 => repeat (first | exact (Kd.C_below HR1_1.out HB.out) | (with_reducible refine Kd.C_alloc ?_ _) | (with_reducible refine Kd.C_drewN ?_ _) | (with_reducible refine Kd.C_drew ?_))); (case side4 => exact HC1_1.out); (case side5 => exact Z216); rintro e w14 ⟨rfl, hb⟩; refine ⟨_, rfl, ?_⟩; have n0_ := AS (blk_below (g := gb340) (o := .cells #[.slice A0_0 l0_0.length c0_0, .slice A0_1 l0_1.length c0_1, .string a0_2] 191 (0, 0)) Z30 hb); have n1_ := AS (blk_below (g := gb341) (o := .cells #[.slice A1_0 l1_0.length c1_0, .slice A1_1 l1_1.length c1_1, .string a1_2] 191 (0, 0)) Z39 hb); have n2_ := AS (below_step Z9 hb); clear BK340; clear BK341; clear HB; have BK340 := n0_; have BK341 := n1_; have HB := n2_; clear n0_ n1_ n2_; (try clear hb); (try clear hb2); (try clear hk); (try clear hi); have hcz15_0 : w14.cell? ⟨gb340, 0, none⟩ = some (.slice A0_0 l0_0.length c0_0) := (blk_cell BK340.out 0).trans rfl; have hcz15_1 : w14.cell? ⟨gb340, 1, none⟩ = some (.slice A0_1 l0_1.length c0_1) := (blk_cell BK340.out 1).trans rfl; have hcz15_2 : w14.cell? ⟨gb340, 2, none⟩ = some (.string a0_2) := (blk_cell BK340.out 2).trans rfl; have hfz15_0 := blk_frozen BK340.out 0; have hfz15_1 := blk_frozen BK340.out 1; have hfz15_2 := blk_frozen BK340.out 2) | ((with_reducible refine gate_callee (f := 102) rfl ?_); refine goesL_ (some 35) rfl rfl Tryz.func102 Z6 rfl #[.string a0_2] rfl Z1 ?_; (with_reducible refine (whole_Small.calls a0_2 t348 t349 _ ?side1 A5.out).mono ?_); (case side1 => exact Z216); rintro e w16 ⟨rfl, hb⟩; refine ⟨_, rfl, ?_⟩; have n0_ := AS (blk_below (g := gb340) (o := .cells #[.slice A0_0 l0_0.length c0_0, .slice A0_1 l0_1.length c0_1, .string a0_2] 191 (0, 0)) Z30 hb); have n1_ := AS (blk_below (g := gb341) (o := .cells #[.slice A1_0 l1_0.length c1_0, .slice A1_1 l1_1.length c1_1, .string a1_2] 191 (0, 0)) Z39 hb); have n2_ := AS (below_step Z9 hb); clear BK340; clear BK341; clear HB; have BK340 := n0_; have BK341 := n1_; have HB := n2_; clear n0_ n1_ n2_; (try clear hb); (try clear hb2); (try clear hk); (try clear hi); have hcz17_0 : w16.cell? ⟨gb341, 0, none⟩ = some (.slice A1_0 l1_0.length c1_0) := (blk_cell BK341.out 0).trans rfl; have hcz17_1 : w16.cell? ⟨gb341, 1, none⟩ = some (.slice A1_1 l1_1.length c1_1) := (blk_cell BK341.out 1).trans rfl; have hcz17_2 : w16.cell? ⟨gb341, 2, none⟩ = some (.string a1_2) := (blk_cell BK341.out 2).trans rfl; have hfz17_0 := blk_frozen BK341.out 0; have hfz17_1 := blk_frozen BK341.out 1; have hfz17_2 := blk_frozen BK341.out 2) | ((with_reducible refine gate_callee (f := 102) rfl ?_); refine goesL_ (some 41) rfl rfl Tryz.func102 Z6 rfl #[.string a1_2] rfl Z1 ?_; (with_reducible refine (whole_Small.calls a1_2 t350 t351 _ ?side1 A6.out).mono ?_); (case side1 => exact Z216); rintro e w18 ⟨rfl, hb⟩; refine ⟨_, rfl, ?_⟩; have n0_ := AS (blk_below (g := gb340) (o := .cells #[.slice A0_0 l0_0.length c0_0, .slice A0_1 l0_1.length c0_1, .string a0_2] 191 (0, 0)) Z30 hb); have n1_ := AS (blk_below (g := gb341) (o := .cells #[.slice A1_0 l1_0.length c1_0, .slice A1_1 l1_1.length c1_1, .string a1_2] 191 (0, 0)) Z39 hb); have n2_ := AS (below_step Z9 hb); clear BK340; clear BK341; clear HB; have BK340 := n0_; have BK341 := n1_; have HB := n2_; clear n0_ n1_ n2_; (try clear hb); (try clear hb2); (try clear hk); (try clear hi)))
 (try simp only [Act.put, List.setIfInBounds_toArray, List.set_cons_zero, List.set_cons_succ])
 go_cut [65] (fun v65 wc => ∃ (kq : Nat) (x65_6 : Bool), v65 = .bool x65_6 ∧ Aside0 (size_quotient.j0 kq t342 t343 t345 t346 t348 t350 x65_6 = some (r1, r2)) ∧ Aside0 (kq ≤ k) ∧ Aside0 (wc.heap[gb340]? = some (.cells #[(.slice A0_0 l0_0.length c0_0), (.slice A0_1 l0_1.length c0_1), .string a0_2] 191 (0, 0))) ∧ Aside0 (wc.heap[gb341]? = some (.cells #[(.slice A1_0 l1_0.length c1_0), (.slice A1_1 l1_1.length c1_1), .string a1_2] 191 (0, 0))) ∧ Aside0 (Below w.heap.size w wc))
 case first =>
  have H := HC7.out
  clear HC7
  by_cases c19 : t344 = true
  ·subst c19
   have H1 : (if t347 = true then (if t349 = true then (if t351 = true then (if t348 > 10000 then (size_quotient.j0 k t342 t343 t345 t346 t348 t350 true) else (size_quotient.j0 k t342 t343 t345 t346 t348 t350 (decide (t350 > 10000)))) else (size_quotient.j0 k t342 t343 t345 t346 t348 t350 true)) else (size_quotient.j0 k t342 t343 t345 t346 t348 t350 true)) else (size_quotient.j0 k t342 t343 t345 t346 t348 t350 true)) = some (r1, r2) := by rw [if_pos rfl] at H; exact H
   clear H
   have H := H1
   clear H1
   by_cases c20 : t347 = true
   ·subst c20
    have H1 : (if t349 = true then (if t351 = true then (if t348 > 10000 then (size_quotient.j0 k t342 t343 t345 t346 t348 t350 true) else (size_quotient.j0 k t342 t343 t345 t346 t348 t350 (decide (t350 > 10000)))) else (size_quotient.j0 k t342 t343 t345 t346 t348 t350 true)) else (size_quotient.j0 k t342 t343 t345 t346 t348 t350 true)) = some (r1, r2) := by rw [if_pos rfl] at H; exact H
    clear H
    have H := H1
    clear H1
    by_cases c21 : t349 = true
    ·subst c21
     have H1 : (if t351 = true then (if t348 > 10000 then (size_quotient.j0 k t342 t343 t345 t346 t348 t350 true) else (size_quotient.j0 k t342 t343 t345 t346 t348 t350 (decide (t350 > 10000)))) else (size_quotient.j0 k t342 t343 t345 t346 t348 t350 true)) = some (r1, r2) := by rw [if_pos rfl] at H; exact H
     clear H
     have H := H1
     clear H1
     by_cases c22 : t351 = true
     ·subst c22
      have H1 : (if t348 > 10000 then (size_quotient.j0 k t342 t343 t345 t346 t348 t350 true) else (size_quotient.j0 k t342 t343 t345 t346 t348 t350 (decide (t350 > 10000)))) = some (r1, r2) := by rw [if_pos rfl] at H; exact H
      clear H
      have H := H1
      clear H1
      by_cases c23 : t348 > 10000
      ·rw [if_pos c23] at H
       have c23b0 : decide (10000 < t348) = true := decide_eq_true c23
       clear c23
       (first | rw [c23b0] | (simp only [i64_w, i32_w]; rw [c23b0]) | skip)
       have H' := AS H
       clear H
       go_wp2
       go_meet
       case rel => exact ⟨_, (true), Z5, H', ⟨Z76⟩, ⟨Z30⟩, ⟨Z39⟩, ⟨Z9⟩⟩
      ·rw [if_neg c23] at H
       have c23b0 : decide (10000 < t348) = false := decide_eq_false c23
       clear c23
       (first | rw [c23b0] | (simp only [i64_w, i32_w]; rw [c23b0]) | skip)
       have H' := AS H
       clear H
       go_wp2
       go_meet
       case rel => exact ⟨_, (decide (t350 > 10000)), Z5, H', ⟨Z76⟩, ⟨Z30⟩, ⟨Z39⟩, ⟨Z9⟩⟩
     ·replace c22 := Bool.eq_false_iff.mpr c22
      subst c22
      have H1 : (size_quotient.j0 k t342 t343 t345 t346 t348 t350 true) = some (r1, r2) := by rw [if_neg (show ¬ (false = true) by decide)] at H; exact H
      clear H
      have H := H1
      clear H1
      have H' := AS H
      clear H
      go_wp2
      go_meet
      case rel => exact ⟨_, (true), Z5, H', ⟨Z76⟩, ⟨Z30⟩, ⟨Z39⟩, ⟨Z9⟩⟩
    ·replace c21 := Bool.eq_false_iff.mpr c21
     subst c21
     have H1 : (size_quotient.j0 k t342 t343 t345 t346 t348 t350 true) = some (r1, r2) := by rw [if_neg (show ¬ (false = true) by decide)] at H; exact H
     clear H
     have H := H1
     clear H1
     have H' := AS H
     clear H
     go_wp2
     go_meet
     case rel => exact ⟨_, (true), Z5, H', ⟨Z76⟩, ⟨Z30⟩, ⟨Z39⟩, ⟨Z9⟩⟩
   ·replace c20 := Bool.eq_false_iff.mpr c20
    subst c20
    have H1 : (size_quotient.j0 k t342 t343 t345 t346 t348 t350 true) = some (r1, r2) := by rw [if_neg (show ¬ (false = true) by decide)] at H; exact H
    clear H
    have H := H1
    clear H1
    have H' := AS H
    clear H
    go_wp2
    go_meet
    case rel => exact ⟨_, (true), Z5, H', ⟨Z76⟩, ⟨Z30⟩, ⟨Z39⟩, ⟨Z9⟩⟩
  ·replace c19 := Bool.eq_false_iff.mpr c19
   subst c19
   have H1 : (size_quotient.j0 k t342 t343 t345 t346 t348 t350 true) = some (r1, r2) := by rw [if_neg (show ¬ (false = true) by decide)] at H; exact H
   clear H
   have H := H1
   clear H1
   have H' := AS H
   clear H
   go_wp2
   go_meet
   case rel => exact ⟨_, (true), Z5, H', ⟨Z76⟩, ⟨Z30⟩, ⟨Z39⟩, ⟨Z9⟩⟩
 case rest =>
  clear HC7
  try clear c1
  try clear c2
  try clear p2
  try clear c10
  try clear c15
  try clear c18
  try clear c19
  try clear c20
  try clear c21
  try clear c22
  try clear c23
  try clear c23b0
  try clear hcz11_0
  try clear hcz11_1
  try clear hcz11_2
  try clear hcz13_0
  try clear hcz13_1
  try clear hcz13_2
  try clear hcz15_0
  try clear hcz15_1
  try clear hcz15_2
  try clear hcz17_0
  try clear hcz17_1
  try clear hcz17_2
  try clear hfz11_0
  try clear hfz11_1
  try clear hfz11_2
  try clear hfz13_0
  try clear hfz13_1
  try clear hfz13_2
  try clear hfz15_0
  try clear hfz15_1
  try clear hfz15_2
  try clear hfz17_0
  try clear hfz17_1
  try clear hfz17_2
  obtain ⟨kq, x65_6, rfl, HA, HJ6, BK340, BK341, HB⟩ := hcut
  cases kq with
  | zero => exact absurd HA.out (by simp [size_quotient.j0])
  | succ kj6 =>
   have H := HA.out
   clear HA
   simp only [size_quotient.j0] at H
   by_cases c24 : x65_6 = true
   ·subst c24
    have H1 : (some (0, false)) = some (r1, r2) := by rw [if_pos rfl] at H; exact H
    clear H
    have H := H1
    clear H1
    simp only [Option.some.injEq, Prod.mk.injEq] at H
    obtain ⟨rfl, rfl⟩ := H
    go_wp2
    go_ret2
    exact ⟨Z2, Z9⟩
   ·replace c24 := Bool.eq_false_iff.mpr c24
    subst c24
    have H1 : (if t346 ≤ 0 then (size_quotient.j1 kj6 (wrap64 (-t343)) (wrap64 (-t342)) (wrap64 (-t346)) (wrap64 (-t345)) t348 t350) else (size_quotient.j1 kj6 t342 t343 t345 t346 t348 t350)) = some (r1, r2) := by rw [if_neg (show ¬ (false = true) by decide)] at H; exact H
    clear H
    have H := H1
    clear H1
    have HC25 := AS H
    clear H
    go_upto_if 67 with (fail)
    go_cut [6, 7, 9, 10] (fun v6 v7 v9 v10 wc => ∃ (kq : Nat) (x6_24 : Int) (x7_24 : Int) (x9_24 : Int) (x10_24 : Int), v6 = .int .i64 x6_24 ∧ v7 = .int .i64 x7_24 ∧ v9 = .int .i64 x9_24 ∧ v10 = .int .i64 x10_24 ∧ Aside0 (size_quotient.j1 kq x6_24 x7_24 x9_24 x10_24 t348 t350 = some (r1, r2)) ∧ Aside0 (kq ≤ kj6) ∧ Aside0 (wc.heap[gb340]? = some (.cells #[(.slice A0_0 l0_0.length c0_0), (.slice A0_1 l0_1.length c0_1), .string a0_2] 191 (0, 0))) ∧ Aside0 (wc.heap[gb341]? = some (.cells #[(.slice A1_0 l1_0.length c1_0), (.slice A1_1 l1_1.length c1_1), .string a1_2] 191 (0, 0))) ∧ Aside0 (Below w.heap.size w wc))
    case first =>
     have H := HC25.out
     clear HC25
     by_cases c26 : t346 ≤ 0
     ·rw [if_pos c26] at H
      have c26b0 : decide (t346 ≤ 0) = true := decide_eq_true c26
      clear c26
      (first | rw [c26b0] | (simp only [i64_w, i32_w]; rw [c26b0]) | skip)
      have H' := AS H
      clear H
      go_wp2
      go_meet
      case rel => exact ⟨_, (wrap64 (-t343)), (wrap64 (-t342)), (wrap64 (-t346)), (wrap64 (-t345)), Z5, Z5, Z5, Z5, H', ⟨Z171⟩, ⟨Z30⟩, ⟨Z39⟩, ⟨Z9⟩⟩
     ·rw [if_neg c26] at H
      have c26b0 : decide (t346 ≤ 0) = false := decide_eq_false c26
      clear c26
      (first | rw [c26b0] | (simp only [i64_w, i32_w]; rw [c26b0]) | skip)
      have H' := AS H
      clear H
      go_wp2
      go_meet
      case rel => exact ⟨_, (t342), (t343), (t345), (t346), Z5, Z5, Z5, Z5, H', ⟨Z171⟩, ⟨Z30⟩, ⟨Z39⟩, ⟨Z9⟩⟩
    case rest =>
     clear HC25
     try clear c1
     try clear c2
     try clear p2
     try clear p6
     try clear c10
     try clear c15
     try clear c18
     try clear c19
     try clear c20
     try clear c21
     try clear c22
     try clear c23
     try clear c23b0
     try clear c24
     try clear c26
     try clear c26b0
     try clear hcz11_0
     try clear hcz11_1
     try clear hcz11_2
     try clear hcz13_0
     try clear hcz13_1
     try clear hcz13_2
     try clear hcz15_0
     try clear hcz15_1
     try clear hcz15_2
     try clear hcz17_0
     try clear hcz17_1
     try clear hcz17_2
     try clear hfz11_0
     try clear hfz11_1
     try clear hfz11_2
     try clear hfz13_0
     try clear hfz13_1
     try clear hfz13_2
     try clear hfz15_0
     try clear hfz15_1
     try clear hfz15_2
     try clear hfz17_0
     try clear hfz17_1
     try clear hfz17_2
     try clear p2
     obtain ⟨kq, x6_24, x7_24, x9_24, x10_24, rfl, rfl, rfl, rfl, HA, HJ24, BK340, BK341, HB⟩ := hcut
     cases kq with
     | zero => exact absurd HA.out (by simp [size_quotient.j1])
     | succ kj24 =>
      have H := HA.out
      clear HA
      simp only [size_quotient.j1] at H
      by_cases c27 : x9_24 ≤ 0
      ·rw [if_pos c27] at H
       have c27b0 : decide (x9_24 ≤ 0) = true := decide_eq_true c27
       clear c27
       simp only [Option.some.injEq, Prod.mk.injEq] at H
       obtain ⟨rfl, rfl⟩ := H
       go_wp2
       go_ret2
       exact ⟨Z2, Z9⟩
      ·rw [if_neg c27] at H
       have c27b0 : decide (x9_24 ≤ 0) = false := decide_eq_false c27
       clear c27
       have HC28 := AS H
       clear H
       go_upto_if 81 with (fail)
       go_cut [16] (fun v16 wc => ∃ (kq : Nat) (x16_27 : Int), v16 = .int .i64 x16_27 ∧ Aside0 (size_quotient.j2 kq x6_24 x7_24 x10_24 t348 t350 x16_27 x9_24 = some (r1, r2)) ∧ Aside0 (kq ≤ kj24) ∧ Aside0 (wc.heap[gb340]? = some (.cells #[(.slice A0_0 l0_0.length c0_0), (.slice A0_1 l0_1.length c0_1), .string a0_2] 191 (0, 0))) ∧ Aside0 (wc.heap[gb341]? = some (.cells #[(.slice A1_0 l1_0.length c1_0), (.slice A1_1 l1_1.length c1_1), .string a1_2] 191 (0, 0))) ∧ Aside0 (Below w.heap.size w wc))
       case first =>
        have H := HC28.out
        clear HC28
        by_cases c29 : x6_24 < 0
        ·rw [if_pos c29] at H
         have c29b0 : decide (x6_24 < 0) = true := decide_eq_true c29
         clear c29
         (first | rw [c29b0] | (simp only [i64_w, i32_w]; rw [c29b0]) | skip)
         have H' := AS H
         clear H
         go_wp2
         go_meet
         case rel => exact ⟨_, (x9_24), Z5, H', ⟨Z163⟩, ⟨Z30⟩, ⟨Z39⟩, ⟨Z9⟩⟩
        ·rw [if_neg c29] at H
         have c29b0 : decide (x6_24 < 0) = false := decide_eq_false c29
         clear c29
         (first | rw [c29b0] | (simp only [i64_w, i32_w]; rw [c29b0]) | skip)
         have H' := AS H
         clear H
         go_wp2
         go_meet
         case rel => exact ⟨_, (x10_24), Z5, H', ⟨Z163⟩, ⟨Z30⟩, ⟨Z39⟩, ⟨Z9⟩⟩
       case rest =>
        clear HC28
        try clear c1
        try clear c2
        try clear p2
        try clear p6
        try clear c10
        try clear c15
        try clear c18
        try clear c19
        try clear c20
        try clear c21
        try clear c22
        try clear c23
        try clear c23b0
        try clear c24
        try clear c26
        try clear c26b0
        try clear c27
        try clear c27b0
        try clear c29
        try clear c29b0
        try clear hcz11_0
        try clear hcz11_1
        try clear hcz11_2
        try clear hcz13_0
        try clear hcz13_1
        try clear hcz13_2
        try clear hcz15_0
        try clear hcz15_1
        try clear hcz15_2
        try clear hcz17_0
        try clear hcz17_1
        try clear hcz17_2
        try clear hfz11_0
        try clear hfz11_1
        try clear hfz11_2
        try clear hfz13_0
        try clear hfz13_1
        try clear hfz13_2
        try clear hfz15_0
        try clear hfz15_1
        try clear hfz15_2
        try clear hfz17_0
        try clear hfz17_1
        try clear hfz17_2
        try clear p2
        try clear p6
        obtain ⟨kq, x16_27, rfl, HA, HJ27, BK340, BK341, HB⟩ := hcut
        cases kq with
        | zero => exact absurd HA.out (by simp [size_quotient.j2])
        | succ kj27 =>
         have H := HA.out
         clear HA
         simp only [size_quotient.j2] at H
         by_cases c30 : x7_24 < 0
         ·rw [if_pos c30] at H
          have c30b0 : decide (x7_24 < 0) = true := decide_eq_true c30
          clear c30
          replace H := Option.bind_eq_some_iff.mp H
          obtain ⟨t352, A310, H⟩ := H
          replace H : ((size_downward.f (wrap64 (x7_24 * t350)) (wrap64 (x10_24 * t348))).bind fun t353 => (some (t352, (t352 == t353)))) = some (r1, r2) := H
          have A31 := AS A310
          clear A310
          replace H := Option.bind_eq_some_iff.mp H
          obtain ⟨t353, A320, H⟩ := H
          replace H : (some (t352, (t352 == t353))) = some (r1, r2) := H
          have A32 := AS A320
          clear A320
          simp only [Option.some.injEq, Prod.mk.injEq] at H
          obtain ⟨rfl, rfl⟩ := H
          go_wp2_with (first | ((with_reducible refine gate_callee (f := 186) rfl ?_); refine goesL_ (some 92) rfl rfl Tryz.func186 Z6 rfl #[.int .i64 (wrap64 (x6_24 * t350)), .int .i64 (wrap64 (x16_27 * t348))] rfl Z1 ?_; (with_reducible refine (size_downward.calls (wrap64 (x6_24 * t350)) (wrap64 (x16_27 * t348)) t352 _ ?side1 A31.out).mono ?_); (case side1 => exact Z216); rintro e w' ⟨rfl, ⟨nd, rfl⟩⟩; refine ⟨_, rfl, ?_⟩) | ((with_reducible refine gate_callee (f := 186) rfl ?_); refine goesL_ (some 99) rfl rfl Tryz.func186 Z6 rfl #[.int .i64 (wrap64 (x7_24 * t350)), .int .i64 (wrap64 (x10_24 * t348))] rfl Z1 ?_; (with_reducible refine (size_downward.calls (wrap64 (x7_24 * t350)) (wrap64 (x10_24 * t348)) t353 _ ?side1 A32.out).mono ?_); (case side1 => exact Z216); rintro e w' ⟨rfl, ⟨nd, rfl⟩⟩; refine ⟨_, rfl, ?_⟩))
          go_ret2
          exact ⟨Z2, Z9⟩
         ·rw [if_neg c30] at H
          have c30b0 : decide (x7_24 < 0) = false := decide_eq_false c30
          clear c30
          replace H := Option.bind_eq_some_iff.mp H
          obtain ⟨t354, A330, H⟩ := H
          replace H : ((size_downward.f (wrap64 (x7_24 * t350)) (wrap64 (x9_24 * t348))).bind fun t355 => (some (t354, (t354 == t355)))) = some (r1, r2) := H
          have A33 := AS A330
          clear A330
          replace H := Option.bind_eq_some_iff.mp H
          obtain ⟨t355, A340, H⟩ := H
          replace H : (some (t354, (t354 == t355))) = some (r1, r2) := H
          have A34 := AS A340
          clear A340
          simp only [Option.some.injEq, Prod.mk.injEq] at H
          obtain ⟨rfl, rfl⟩ := H
          go_wp2_with (first | ((with_reducible refine gate_callee (f := 186) rfl ?_); refine goesL_ (some 92) rfl rfl Tryz.func186 Z6 rfl #[.int .i64 (wrap64 (x6_24 * t350)), .int .i64 (wrap64 (x16_27 * t348))] rfl Z1 ?_; (with_reducible refine (size_downward.calls (wrap64 (x6_24 * t350)) (wrap64 (x16_27 * t348)) t354 _ ?side1 A33.out).mono ?_); (case side1 => exact Z216); rintro e w' ⟨rfl, ⟨nd, rfl⟩⟩; refine ⟨_, rfl, ?_⟩) | ((with_reducible refine gate_callee (f := 186) rfl ?_); refine goesL_ (some 99) rfl rfl Tryz.func186 Z6 rfl #[.int .i64 (wrap64 (x7_24 * t350)), .int .i64 (wrap64 (x9_24 * t348))] rfl Z1 ?_; (with_reducible refine (size_downward.calls (wrap64 (x7_24 * t350)) (wrap64 (x9_24 * t348)) t355 _ ?side1 A34.out).mono ?_); (case side1 => exact Z216); rintro e w' ⟨rfl, ⟨nd, rfl⟩⟩; refine ⟨_, rfl, ?_⟩))
          go_ret2
          exact ⟨Z2, Z9⟩
def size_floor.l0 : Nat → Option (ByteArray)
 | 0 => none
 | k + 1 => none
def size_floor.f (k : Nat) (l0 : List Int) (l1 : List (S53)) (l2 : List (S53)) : Option (ByteArray) := (size_ratio.f k l1 l2).bind fun bt356 => (if bt356.2.2 = true then ((fraction_Floor.f k bt356.1 bt356.2.1).bind fun t360 => (some t360)) else ((size_termsOf.f k l0 l1).bind fun bt361 => ((size_termsOf.f k l0 l2).bind fun bt368 => ((size_quotient.f k bt361.1 bt361.2.1 bt361.2.2 bt368.1 bt368.2.1 bt368.2.2).bind fun bt377 => (if bt377.2 = true then ((whole_Of.f bt377.1).bind fun t379 => (some t379)) else (size_floor.l0 k))))))
set_option maxHeartbeats 8000000 in
set_option maxRecDepth 100000 in
theorem size_floor.calls (k : Nat) (A0 : Option Addr) (c0 : Nat) (l0 : List Int) (A1 : Option Addr) (c1 : Nat) (l1 : List (S53)) (A2 : Option Addr) (c2 : Nat) (l2 : List (S53)) (r : ByteArray) (w : World) (hr0 : Kd.C (Kd.int .i64) w A0 l0.length l0) (hc0 : l0.length ≤ c0) (hr1 : Kd.C k53 w A1 l1.length l1) (hc1 : l1.length ≤ c1) (hr2 : Kd.C k53 w A2 l2.length l2) (hc2 : l2.length ≤ c2) (hG : GL w) (h : size_floor.f k l0 l1 l2 = some r) :
  Calls Tryz.prog 129 #[.slice A0 l0.length c0, .slice A1 l1.length c1, .slice A2 l2.length c2] w fun e w' => e = .returned (.string r) ∧ Below w.heap.size w w' := by
 have hu53 := Tryz.underlying53
 have hu191 := Tryz.underlying191
 have HR0 := AS hr0
 have HC0 := AS hc0
 clear hr0 hc0
 have HR1 := AS hr1
 have HC1 := AS hc1
 clear hr1 hc1
 have HR2 := AS hr2
 have HC2 := AS hc2
 clear hr2 hc2
 have HB := AS (Below.refl w.heap.size w)
 have H : ((size_ratio.f k l1 l2).bind fun bt356 => (if bt356.2.2 = true then ((fraction_Floor.f k bt356.1 bt356.2.1).bind fun t360 => (some t360)) else ((size_termsOf.f k l0 l1).bind fun bt361 => ((size_termsOf.f k l0 l2).bind fun bt368 => ((size_quotient.f k bt361.1 bt361.2.1 bt361.2.2 bt368.1 bt368.2.1 bt368.2.2).bind fun bt377 => (if bt377.2 = true then ((whole_Of.f bt377.1).bind fun t379 => (some t379)) else (size_floor.l0 k))))))) = some r := h
 clear h
 replace H := Option.bind_eq_some_iff.mp H
 obtain ⟨⟨t356, t357, t358⟩, A40, H⟩ := H
 replace H : (if t358 = true then ((fraction_Floor.f k t356 t357).bind fun t360 => (some t360)) else ((size_termsOf.f k l0 l1).bind fun bt361 => ((size_termsOf.f k l0 l2).bind fun bt368 => ((size_quotient.f k bt361.1 bt361.2.1 bt361.2.2 bt368.1 bt368.2.1 bt368.2.2).bind fun bt377 => (if bt377.2 = true then ((whole_Of.f bt377.1).bind fun t379 => (some t379)) else (size_floor.l0 k)))))) = some r := H
 have A4 := AS A40
 clear A40
 by_cases c5 : t358 = true
 ·subst c5
  have H1 : ((fraction_Floor.f k t356 t357).bind fun t360 => (some t360)) = some r := by rw [if_pos rfl] at H; exact H
  clear H
  have H := H1
  clear H1
  replace H := Option.bind_eq_some_iff.mp H
  obtain ⟨t360, A60, H⟩ := H
  replace H : (some t360) = some r := H
  have A6 := AS A60
  clear A60
  obtain rfl := Option.some.inj H
  go_enter Tryz.func129, Tryz.ntmps129
  go_wp2_with (first | ((with_reducible refine gate_callee (f := 150) rfl ?_); refine goesL_ (some 29) rfl rfl Tryz.func150 Z6 rfl #[.slice A1 l1.length c1, .slice A2 l2.length c2] rfl Z1 ?_; (with_reducible refine (size_ratio.calls k _ _ l1 _ _ l2 t356 t357 true _ ?side1 ?side2 ?side3 ?side4 ?side5 A4.out).mono ?_); (case side1 => exact Z36); (case side2 => exact Z145); (case side3 => exact Z88); (case side4 => exact Z170); (case side5 => exact Z183); rintro e w7 ⟨rfl, hb⟩; refine ⟨_, rfl, ?_⟩; have n0_ := AS (below_step Z0 hb); clear HB; have HB := n0_; clear n0_; (try clear hb); (try clear hb2); (try clear hk); (try clear hi)) | ((with_reducible refine gate_dst (N := 7) rfl ?_); refine box_event ?hg (N := 7) ?hd (cs := #[.string (⟨#[]⟩ : ByteArray), .string (⟨#[]⟩ : ByteArray)]) (t := 53) ?hr ?_; (case hd => rfl); (case hg => rfl); (case hr => exact Z13); intro gb359 hg w8 hbox hb; have n0_ := AS (below_step Z0 hb); have n1_ := AS (hbox); have n2_ := AS ((Z184 : w.heap.size ≤ gb359)); have n3_ := AS ((Z184 : w.heap.size ≤ gb359)); clear HB; have HB := n0_; have BK359 := n1_; have GW359 := n2_; have GE359 := n3_; clear n0_ n1_ n2_ n3_; clear hb hbox hg; have hcz9_0 : w8.cell? ⟨gb359, 0, none⟩ = some (.string (⟨#[]⟩ : ByteArray)) := (blk_cell BK359.out 0).trans rfl; have hcz9_1 : w8.cell? ⟨gb359, 1, none⟩ = some (.string (⟨#[]⟩ : ByteArray)) := (blk_cell BK359.out 1).trans rfl; have hfz9_0 := blk_frozen BK359.out 0; have hfz9_1 := blk_frozen BK359.out 1) | ((with_reducible refine gate_callee (f := 151) rfl ?_); refine goesL_ (some 34) rfl rfl Tryz.func151 Z6 rfl #[.agg #[.string t356, .string t357]] rfl Z1 ?_; (with_reducible refine (fraction_Floor.calls k t356 t357 t360 _ ?side1 A6.out).mono ?_); (case side1 => exact Z225); rintro e w10 ⟨rfl, hb⟩; refine ⟨_, rfl, ?_⟩; have n0_ := AS (blk_below (g := gb359) (o := .cells #[.string t356, .string t357] 53 (0, 0)) Z47 hb); have n1_ := AS (below_step Z10 hb); clear BK359; clear HB; have BK359 := n0_; have HB := n1_; clear n0_ n1_; (try clear hb); (try clear hb2); (try clear hk); (try clear hi)))
  go_ret
  exact ⟨Z2, Z10⟩
 ·replace c5 := Bool.eq_false_iff.mpr c5
  subst c5
  have H1 : ((size_termsOf.f k l0 l1).bind fun bt361 => ((size_termsOf.f k l0 l2).bind fun bt368 => ((size_quotient.f k bt361.1 bt361.2.1 bt361.2.2 bt368.1 bt368.2.1 bt368.2.2).bind fun bt377 => (if bt377.2 = true then ((whole_Of.f bt377.1).bind fun t379 => (some t379)) else (size_floor.l0 k))))) = some r := by rw [if_neg (show ¬ (false = true) by decide)] at H; exact H
  clear H
  have H := H1
  clear H1
  replace H := Option.bind_eq_some_iff.mp H
  obtain ⟨⟨t361, t364, t367⟩, A110, H⟩ := H
  replace H : ((size_termsOf.f k l0 l2).bind fun bt368 => ((size_quotient.f k t361 t364 t367 bt368.1 bt368.2.1 bt368.2.2).bind fun bt377 => (if bt377.2 = true then ((whole_Of.f bt377.1).bind fun t379 => (some t379)) else (size_floor.l0 k)))) = some r := H
  have A11 := AS A110
  clear A110
  replace H := Option.bind_eq_some_iff.mp H
  obtain ⟨⟨t368, t371, t374⟩, A120, H⟩ := H
  replace H : ((size_quotient.f k t361 t364 t367 t368 t371 t374).bind fun bt377 => (if bt377.2 = true then ((whole_Of.f bt377.1).bind fun t379 => (some t379)) else (size_floor.l0 k))) = some r := H
  have A12 := AS A120
  clear A120
  replace H := Option.bind_eq_some_iff.mp H
  obtain ⟨⟨t377, t378⟩, A130, H⟩ := H
  replace H : (if t378 = true then ((whole_Of.f t377).bind fun t379 => (some t379)) else (size_floor.l0 k)) = some r := H
  have A13 := AS A130
  clear A130
  by_cases c14 : t378 = true
  ·subst c14
   have H1 : ((whole_Of.f t377).bind fun t379 => (some t379)) = some r := by rw [if_pos rfl] at H; exact H
   clear H
   have H := H1
   clear H1
   replace H := Option.bind_eq_some_iff.mp H
   obtain ⟨t379, A150, H⟩ := H
   replace H : (some t379) = some r := H
   have A15 := AS A150
   clear A150
   obtain rfl := Option.some.inj H
   go_enter Tryz.func129, Tryz.ntmps129
   go_wp2_with (first | ((with_reducible refine gate_callee (f := 150) rfl ?_); refine goesL_ (some 29) rfl rfl Tryz.func150 Z6 rfl #[.slice A1 l1.length c1, .slice A2 l2.length c2] rfl Z1 ?_; (with_reducible refine (size_ratio.calls k _ _ l1 _ _ l2 t356 t357 false _ ?side1 ?side2 ?side3 ?side4 ?side5 A4.out).mono ?_); (case side1 => exact Z36); (case side2 => exact Z145); (case side3 => exact Z88); (case side4 => exact Z170); (case side5 => exact Z183); rintro e w16 ⟨rfl, hb⟩; refine ⟨_, rfl, ?_⟩; have n0_ := AS (below_step Z0 hb); clear HB; have HB := n0_; clear n0_; (try clear hb); (try clear hb2); (try clear hk); (try clear hi)) | ((with_reducible refine gate_dst (N := 7) rfl ?_); refine box_event ?hg (N := 7) ?hd (cs := #[.string (⟨#[]⟩ : ByteArray), .string (⟨#[]⟩ : ByteArray)]) (t := 53) ?hr ?_; (case hd => rfl); (case hg => rfl); (case hr => exact Z13); intro gb359 hg w17 hbox hb; have n0_ := AS (below_step Z0 hb); have n1_ := AS (hbox); have n2_ := AS ((Z184 : w.heap.size ≤ gb359)); have n3_ := AS ((Z184 : w.heap.size ≤ gb359)); clear HB; have HB := n0_; have BK359 := n1_; have GW359 := n2_; have GE359 := n3_; clear n0_ n1_ n2_ n3_; clear hb hbox hg; have hcz18_0 : w17.cell? ⟨gb359, 0, none⟩ = some (.string (⟨#[]⟩ : ByteArray)) := (blk_cell BK359.out 0).trans rfl; have hcz18_1 : w17.cell? ⟨gb359, 1, none⟩ = some (.string (⟨#[]⟩ : ByteArray)) := (blk_cell BK359.out 1).trans rfl; have hfz18_0 := blk_frozen BK359.out 0; have hfz18_1 := blk_frozen BK359.out 1) | ((with_reducible refine gate_callee (f := 149) rfl ?_); refine goesL_ (some 37) rfl rfl Tryz.func149 Z6 rfl #[.slice A0 l0.length c0, .slice A1 l1.length c1] rfl Z1 ?_; (with_reducible refine (size_termsOf.calls k _ _ l0 _ _ l1 t361 t364 t367 _ ?side1 ?side2 ?side3 ?side4 ?side5 A11.out).mono ?_); (case side1 => exact Kd.C_below HR0.out Z10); (case side2 => exact Z58); (case side3 => exact Kd.C_below HR1.out Z10); (case side4 => exact Z145); (case side5 => exact Z225); rintro e w19 ⟨v362, v365, rfl, ho0, ho1, hb⟩; refine ⟨_, rfl, ?_⟩; have n0_ := AS (Kd.R_lower ho0 (below_size Z10)); have n1_ := AS (Kd.R_lower ho1 (below_size Z10)); have n2_ := AS (blk_below (g := gb359) (o := .cells #[.string t356, .string t357] 53 (0, 0)) Z47 hb); have n3_ := AS (below_step Z10 hb); clear BK359; clear HB; have HO363 := n0_; have HO366 := n1_; have BK359 := n2_; have HB := n3_; clear n0_ n1_ n2_ n3_; (try clear hb); (try clear hb2); (try clear hk); (try clear hi); (try clear ho0); (try clear ho1)) | ((with_reducible refine gate_callee (f := 149) rfl ?_); refine goesL_ (some 40) rfl rfl Tryz.func149 Z6 rfl #[.slice A0 l0.length c0, .slice A2 l2.length c2] rfl Z1 ?_; (with_reducible refine (size_termsOf.calls k _ _ l0 _ _ l2 t368 t371 t374 _ ?side1 ?side2 ?side3 ?side4 ?side5 A12.out).mono ?_); (case side1 => exact Z4); (case side2 => exact Z58); (case side3 => exact Z112); (case side4 => exact Z170); (case side5 => exact Z225); rintro e w20 ⟨v369, v372, rfl, ho0, ho1, hb⟩; refine ⟨_, rfl, ?_⟩; have n0_ := AS (Kd.R_elder' Z71 (Kd.R_base ho0) hb); have n1_ := AS (Kd.R_elder' Z72 (Kd.R_base ho1) hb); have n2_ := AS (Kd.R_lower (Kd.R_new' ho0 (Kd.R_lt Z71)) (below_size Z10)); have n3_ := AS (Kd.R_lower (Kd.R_new' ho1 (Kd.R_lt Z72)) (below_size Z10)); have n4_ := AS (blk_below (g := gb359) (o := .cells #[.string t356, .string t357] 53 (0, 0)) Z34 hb); have n5_ := AS (below_step Z10 hb); clear HO363; clear HO366; clear BK359; clear HB; have HO363 := n0_; have HO366 := n1_; have HO370 := n2_; have HO373 := n3_; have BK359 := n4_; have HB := n5_; clear n0_ n1_ n2_ n3_ n4_ n5_; (try clear hb); (try clear hb2); (try clear hk); (try clear hi); (try clear ho0); (try clear ho1)) | ((with_reducible refine gate_dst (N := 9) rfl ?_); refine box_event ?hg (N := 9) ?hd (cs := #[.slice none 0 0, .slice none 0 0, .string (⟨#[]⟩ : ByteArray)]) (t := 191) ?hr ?_; (case hd => rfl); (case hg => rfl); (case hr => exact Z13); intro gb375 hg w21 hbox hb; have n0_ := AS (Kd.R_below Z71 hb); have n1_ := AS (Kd.R_below Z72 hb); have n2_ := AS (Kd.R_below Z107 hb); have n3_ := AS (Kd.R_below Z108 hb); have n4_ := AS (blk_below (g := gb359) (o := .cells #[.string t356, .string t357] 53 (0, 0)) Z34 hb); have n5_ := AS (below_step Z10 hb); have n6_ := AS (hbox); have n7_ := AS ((Z221 : w.heap.size ≤ gb375)); have n8_ := AS ((Z221 : w.heap.size ≤ gb375)); have n9_ := AS ((Z196 : gb359 ≠ gb375)); have n10_ := AS ((Z197 : gb375 ≠ gb359)); clear HO363; clear HO366; clear HO370; clear HO373; clear BK359; clear HB; have HO363 := n0_; have HO366 := n1_; have HO370 := n2_; have HO373 := n3_; have BK359 := n4_; have HB := n5_; have BK375 := n6_; have GW375 := n7_; have GE375 := n8_; have NB359_375 := n9_; have NB375_359 := n10_; clear n0_ n1_ n2_ n3_ n4_ n5_ n6_ n7_ n8_ n9_ n10_; clear hb hbox hg) | ((with_reducible refine gate_dst (N := 10) rfl ?_); refine box_event ?hg (N := 10) ?hd (cs := #[.slice none 0 0, .slice none 0 0, .string (⟨#[]⟩ : ByteArray)]) (t := 191) ?hr ?_; (case hd => rfl); (case hg => rfl); (case hr => exact Z13); intro gb376 hg w22 hbox hb; have n0_ := AS (Kd.R_below Z71 hb); have n1_ := AS (Kd.R_below Z72 hb); have n2_ := AS (Kd.R_below Z107 hb); have n3_ := AS (Kd.R_below Z108 hb); have n4_ := AS (blk_below (g := gb359) (o := .cells #[.string t356, .string t357] 53 (0, 0)) Z34 hb); have n5_ := AS (blk_below (g := gb375) (o := .cells #[.slice none 0 0, .slice none 0 0, .string (⟨#[]⟩ : ByteArray)] 191 (0, 0)) Z73 hb); have n6_ := AS (below_step Z61 hb); have n7_ := AS (hbox); have n8_ := AS ((Z222 : w.heap.size ≤ gb376)); have n9_ := AS ((Z222 : w.heap.size ≤ gb376)); have n10_ := AS ((Z196 : gb359 ≠ gb376)); have n11_ := AS ((Z197 : gb376 ≠ gb359)); have n12_ := AS ((Z203 : gb375 ≠ gb376)); have n13_ := AS ((Z204 : gb376 ≠ gb375)); clear HO363; clear HO366; clear HO370; clear HO373; clear BK359; clear BK375; clear HB; have HO363 := n0_; have HO366 := n1_; have HO370 := n2_; have HO373 := n3_; have BK359 := n4_; have BK375 := n5_; have HB := n6_; have BK376 := n7_; have GW376 := n8_; have GE376 := n9_; have NB359_376 := n10_; have NB376_359 := n11_; have NB375_376 := n12_; have NB376_375 := n13_; clear n0_ n1_ n2_ n3_ n4_ n5_ n6_ n7_ n8_ n9_ n10_ n11_ n12_ n13_; clear hb hbox hg; obtain ⟨Ao23, co23, eo23⟩ := Kd.R_slice HO363.out; subst eo23; have hnb24 := NB375_359.out; have hnc24 := NB359_375.out; have hnb25 := NB375_376.out; have hnc25 := NB376_375.out; have hcz26_0 : w22.cell? ⟨gb375, 0, none⟩ = some (.slice none 0 0) := (blk_cell BK375.out 0).trans rfl; have hcz26_1 : w22.cell? ⟨gb375, 1, none⟩ = some (.slice none 0 0) := (blk_cell BK375.out 1).trans rfl; have hcz26_2 : w22.cell? ⟨gb375, 2, none⟩ = some (.string (⟨#[]⟩ : ByteArray)) := (blk_cell BK375.out 2).trans rfl; have hfz26_0 := blk_frozen BK375.out 0; have hfz26_1 := blk_frozen BK375.out 1; have hfz26_2 := blk_frozen BK375.out 2; obtain ⟨Ao27, co27, eo27⟩ := Kd.R_slice HO366.out; subst eo27; obtain ⟨Ao28, co28, eo28⟩ := Kd.R_slice HO370.out; subst eo28; have hnb29 := NB376_359.out; have hnc29 := NB359_376.out; have hcz30_0 : w22.cell? ⟨gb376, 0, none⟩ = some (.slice none 0 0) := (blk_cell BK376.out 0).trans rfl; have hcz30_1 : w22.cell? ⟨gb376, 1, none⟩ = some (.slice none 0 0) := (blk_cell BK376.out 1).trans rfl; have hcz30_2 : w22.cell? ⟨gb376, 2, none⟩ = some (.string (⟨#[]⟩ : ByteArray)) := (blk_cell BK376.out 2).trans rfl; have hfz30_0 := blk_frozen BK376.out 0; have hfz30_1 := blk_frozen BK376.out 1; have hfz30_2 := blk_frozen BK376.out 2; obtain ⟨Ao31, co31, eo31⟩ := Kd.R_slice HO373.out; subst eo31) | ((with_reducible refine gate_callee (f := 152) rfl ?_); refine goesL_ (some 44) rfl rfl Tryz.func152 Z6 rfl #[.agg #[.slice Ao23 t361.length co23, .slice Ao27 t364.length co27, .string t367], .agg #[.slice Ao28 t368.length co28, .slice Ao31 t371.length co31, .string t374]] rfl Z1 ?_; (with_reducible refine (size_quotient.calls k _ _ t361 _ _ t364 t367 _ _ t368 _ _ t371 t374 t377 true _ ?side1 ?side2 ?side3 ?side4 ?side5 ?side6 ?side7 ?side8 ?side9 A13.out).mono ?_); (case side1 => refine (Kd.R_reads' (e := 3) (base := w.heap.size) (ok := fun k_ => (True ∧ some k_ ≠ (.slice Ao28 t368.length co28 : Value).ownBlock)) (n := t361.length) (c := co23) ?_).2.2; exact Z48); (case side2 => exact (Kd.R_reads' HO363.out).2.1); (case side3 => refine (Kd.R_reads' (e := 51) (base := w.heap.size) (ok := fun k_ => (True ∧ some k_ ≠ (.slice Ao31 t371.length co31 : Value).ownBlock)) (n := t364.length) (c := co27) ?_).2.2; exact Z49); (case side4 => exact (Kd.R_reads' HO366.out).2.1); (case side5 => refine (Kd.R_reads' (e := 3) (base := w.heap.size) (ok := fun k_ => (True ∧ some k_ ≠ (.slice Ao23 t361.length co23 : Value).ownBlock)) (n := t368.length) (c := co28) ?_).2.2; exact Z50); (case side6 => exact (Kd.R_reads' HO370.out).2.1); (case side7 => refine (Kd.R_reads' (e := 51) (base := w.heap.size) (ok := fun k_ => (True ∧ some k_ ≠ (.slice Ao27 t364.length co27 : Value).ownBlock)) (n := t371.length) (c := co31) ?_).2.2; exact Z51); (case side8 => exact (Kd.R_reads' HO373.out).2.1); (case side9 => exact GL.below hG Z38); rintro e w32 ⟨rfl, hb⟩; refine ⟨_, rfl, ?_⟩; have n0_ := AS (Kd.R_below Z48 hb); have n1_ := AS (Kd.R_below Z49 hb); have n2_ := AS (Kd.R_below Z50 hb); have n3_ := AS (Kd.R_below Z51 hb); have n4_ := AS (blk_below (g := gb359) (o := .cells #[.string t356, .string t357] 53 (0, 0)) Z35 hb); have n5_ := AS (blk_below (g := gb375) (o := .cells #[.slice Ao23 t361.length co23, .slice Ao27 t364.length co27, .string t367] 191 (0, 0)) (by (with_reducible repeat (first | refine blk_drewN ?_ _ | refine blk_drew ?_ | refine blk_alloc ?_ _)); refine blk_far ?_ NB375_376.out _; (with_reducible repeat (first | refine blk_drewN ?_ _ | refine blk_drew ?_ | refine blk_alloc ?_ _)); refine blk_far ?_ NB375_376.out _; (with_reducible repeat (first | refine blk_drewN ?_ _ | refine blk_drew ?_ | refine blk_alloc ?_ _)); refine blk_far ?_ NB375_376.out _; (with_reducible repeat (first | refine blk_drewN ?_ _ | refine blk_drew ?_ | refine blk_alloc ?_ _)); refine blk_put (cs := #[.slice Ao23 t361.length co23, .slice Ao27 t364.length co27, .string (⟨#[]⟩ : ByteArray)]) ?_ 2 _ rfl; (with_reducible repeat (first | refine blk_drewN ?_ _ | refine blk_drew ?_ | refine blk_alloc ?_ _)); refine blk_put (cs := #[.slice Ao23 t361.length co23, .slice none 0 0, .string (⟨#[]⟩ : ByteArray)]) ?_ 1 _ rfl; (with_reducible repeat (first | refine blk_drewN ?_ _ | refine blk_drew ?_ | refine blk_alloc ?_ _)); refine blk_put (cs := #[.slice none 0 0, .slice none 0 0, .string (⟨#[]⟩ : ByteArray)]) ?_ 0 _ rfl; (with_reducible repeat (first | refine blk_drewN ?_ _ | refine blk_drew ?_ | refine blk_alloc ?_ _)); exact BK375.out) hb); have n6_ := AS (blk_below (g := gb376) (o := .cells #[.slice Ao28 t368.length co28, .slice Ao31 t371.length co31, .string t374] 191 (0, 0)) (by (with_reducible repeat (first | refine blk_drewN ?_ _ | refine blk_drew ?_ | refine blk_alloc ?_ _)); refine blk_put (cs := #[.slice Ao28 t368.length co28, .slice Ao31 t371.length co31, .string (⟨#[]⟩ : ByteArray)]) ?_ 2 _ rfl; (with_reducible repeat (first | refine blk_drewN ?_ _ | refine blk_drew ?_ | refine blk_alloc ?_ _)); refine blk_put (cs := #[.slice Ao28 t368.length co28, .slice none 0 0, .string (⟨#[]⟩ : ByteArray)]) ?_ 1 _ rfl; (with_reducible repeat (first | refine blk_drewN ?_ _ | refine blk_drew ?_ | refine blk_alloc ?_ _)); refine blk_put (cs := #[.slice none 0 0, .slice none 0 0, .string (⟨#[]⟩ : ByteArray)]) ?_ 0 _ rfl; (with_reducible repeat (first | refine blk_drewN ?_ _ | refine blk_drew ?_ | refine blk_alloc ?_ _)); refine blk_far ?_ NB376_375.out _; (with_reducible repeat (first | refine blk_drewN ?_ _ | refine blk_drew ?_ | refine blk_alloc ?_ _)); refine blk_far ?_ NB376_375.out _; (with_reducible repeat (first | refine blk_drewN ?_ _ | refine blk_drew ?_ | refine blk_alloc ?_ _)); refine blk_far ?_ NB376_375.out _; (with_reducible repeat (first | refine blk_drewN ?_ _ | refine blk_drew ?_ | refine blk_alloc ?_ _)); exact BK376.out) hb); have n7_ := AS (below_step Z38 hb); clear HO363; clear HO366; clear HO370; clear HO373; clear BK359; clear BK375; clear BK376; clear HB; have HO363 := n0_; have HO366 := n1_; have HO370 := n2_; have HO373 := n3_; have BK359 := n4_; have BK375 := n5_; have BK376 := n6_; have HB := n7_; clear n0_ n1_ n2_ n3_ n4_ n5_ n6_ n7_; (try clear hb); (try clear hb2); (try clear hk); (try clear hi)) | ((with_reducible refine gate_callee (f := 59) rfl ?_); refine goesL_ (some 49) rfl rfl Tryz.func59 Z6 rfl #[.int .i64 t377] rfl Z1 ?_; (with_reducible refine (whole_Of.calls t377 t379 _ ?side1 A15.out).mono ?_); (case side1 => exact GL.below hG Z38); rintro e w33 ⟨rfl, hb⟩; refine ⟨_, rfl, ?_⟩; have n0_ := AS (Kd.R_below Z71 hb); have n1_ := AS (Kd.R_below Z72 hb); have n2_ := AS (Kd.R_below Z107 hb); have n3_ := AS (Kd.R_below Z108 hb); have n4_ := AS (blk_below (g := gb359) (o := .cells #[.string t356, .string t357] 53 (0, 0)) Z34 hb); have n5_ := AS (blk_below (g := gb375) (o := .cells #[.slice Ao23 t361.length co23, .slice Ao27 t364.length co27, .string t367] 191 (0, 0)) Z73 hb); have n6_ := AS (blk_below (g := gb376) (o := .cells #[.slice Ao28 t368.length co28, .slice Ao31 t371.length co31, .string t374] 191 (0, 0)) Z151 hb); have n7_ := AS (below_step Z38 hb); clear HO363; clear HO366; clear HO370; clear HO373; clear BK359; clear BK375; clear BK376; clear HB; have HO363 := n0_; have HO366 := n1_; have HO370 := n2_; have HO373 := n3_; have BK359 := n4_; have BK375 := n5_; have BK376 := n6_; have HB := n7_; clear n0_ n1_ n2_ n3_ n4_ n5_ n6_ n7_; (try clear hb); (try clear hb2); (try clear hk); (try clear hi)))
   go_ret
   exact ⟨Z2, Z38⟩
  ·replace c14 := Bool.eq_false_iff.mpr c14
   subst c14
   have H1 : (size_floor.l0 k) = some r := by rw [if_neg (show ¬ (false = true) by decide)] at H; exact H
   clear H
   have H := H1
   clear H1
   have H' := AS H
   clear H
   go_enter Tryz.func129, Tryz.ntmps129
   go_wp2_with (first | ((with_reducible refine gate_callee (f := 150) rfl ?_); refine goesL_ (some 29) rfl rfl Tryz.func150 Z6 rfl #[.slice A1 l1.length c1, .slice A2 l2.length c2] rfl Z1 ?_; (with_reducible refine (size_ratio.calls k _ _ l1 _ _ l2 t356 t357 false _ ?side1 ?side2 ?side3 ?side4 ?side5 A4.out).mono ?_); (case side1 => exact Z36); (case side2 => exact Z145); (case side3 => exact Z88); (case side4 => exact Z170); (case side5 => exact Z183); rintro e w34 ⟨rfl, hb⟩; refine ⟨_, rfl, ?_⟩; have n0_ := AS (below_step Z0 hb); clear HB; have HB := n0_; clear n0_; (try clear hb); (try clear hb2); (try clear hk); (try clear hi)) | ((with_reducible refine gate_dst (N := 7) rfl ?_); refine box_event ?hg (N := 7) ?hd (cs := #[.string (⟨#[]⟩ : ByteArray), .string (⟨#[]⟩ : ByteArray)]) (t := 53) ?hr ?_; (case hd => rfl); (case hg => rfl); (case hr => exact Z13); intro gb359 hg w35 hbox hb; have n0_ := AS (below_step Z0 hb); have n1_ := AS (hbox); have n2_ := AS ((Z184 : w.heap.size ≤ gb359)); have n3_ := AS ((Z184 : w.heap.size ≤ gb359)); clear HB; have HB := n0_; have BK359 := n1_; have GW359 := n2_; have GE359 := n3_; clear n0_ n1_ n2_ n3_; clear hb hbox hg; have hcz36_0 : w35.cell? ⟨gb359, 0, none⟩ = some (.string (⟨#[]⟩ : ByteArray)) := (blk_cell BK359.out 0).trans rfl; have hcz36_1 : w35.cell? ⟨gb359, 1, none⟩ = some (.string (⟨#[]⟩ : ByteArray)) := (blk_cell BK359.out 1).trans rfl; have hfz36_0 := blk_frozen BK359.out 0; have hfz36_1 := blk_frozen BK359.out 1) | ((with_reducible refine gate_callee (f := 149) rfl ?_); refine goesL_ (some 37) rfl rfl Tryz.func149 Z6 rfl #[.slice A0 l0.length c0, .slice A1 l1.length c1] rfl Z1 ?_; (with_reducible refine (size_termsOf.calls k _ _ l0 _ _ l1 t361 t364 t367 _ ?side1 ?side2 ?side3 ?side4 ?side5 A11.out).mono ?_); (case side1 => exact Kd.C_below HR0.out Z10); (case side2 => exact Z58); (case side3 => exact Kd.C_below HR1.out Z10); (case side4 => exact Z145); (case side5 => exact Z225); rintro e w37 ⟨v362, v365, rfl, ho0, ho1, hb⟩; refine ⟨_, rfl, ?_⟩; have n0_ := AS (Kd.R_lower ho0 (below_size Z10)); have n1_ := AS (Kd.R_lower ho1 (below_size Z10)); have n2_ := AS (blk_below (g := gb359) (o := .cells #[.string t356, .string t357] 53 (0, 0)) Z47 hb); have n3_ := AS (below_step Z10 hb); clear BK359; clear HB; have HO363 := n0_; have HO366 := n1_; have BK359 := n2_; have HB := n3_; clear n0_ n1_ n2_ n3_; (try clear hb); (try clear hb2); (try clear hk); (try clear hi); (try clear ho0); (try clear ho1)) | ((with_reducible refine gate_callee (f := 149) rfl ?_); refine goesL_ (some 40) rfl rfl Tryz.func149 Z6 rfl #[.slice A0 l0.length c0, .slice A2 l2.length c2] rfl Z1 ?_; (with_reducible refine (size_termsOf.calls k _ _ l0 _ _ l2 t368 t371 t374 _ ?side1 ?side2 ?side3 ?side4 ?side5 A12.out).mono ?_); (case side1 => exact Z4); (case side2 => exact Z58); (case side3 => exact Z112); (case side4 => exact Z170); (case side5 => exact Z225); rintro e w38 ⟨v369, v372, rfl, ho0, ho1, hb⟩; refine ⟨_, rfl, ?_⟩; have n0_ := AS (Kd.R_elder' Z71 (Kd.R_base ho0) hb); have n1_ := AS (Kd.R_elder' Z72 (Kd.R_base ho1) hb); have n2_ := AS (Kd.R_lower (Kd.R_new' ho0 (Kd.R_lt Z71)) (below_size Z10)); have n3_ := AS (Kd.R_lower (Kd.R_new' ho1 (Kd.R_lt Z72)) (below_size Z10)); have n4_ := AS (blk_below (g := gb359) (o := .cells #[.string t356, .string t357] 53 (0, 0)) Z34 hb); have n5_ := AS (below_step Z10 hb); clear HO363; clear HO366; clear BK359; clear HB; have HO363 := n0_; have HO366 := n1_; have HO370 := n2_; have HO373 := n3_; have BK359 := n4_; have HB := n5_; clear n0_ n1_ n2_ n3_ n4_ n5_; (try clear hb); (try clear hb2); (try clear hk); (try clear hi); (try clear ho0); (try clear ho1)) | ((with_reducible refine gate_dst (N := 9) rfl ?_); refine box_event ?hg (N := 9) ?hd (cs := #[.slice none 0 0, .slice none 0 0, .string (⟨#[]⟩ : ByteArray)]) (t := 191) ?hr ?_; (case hd => rfl); (case hg => rfl); (case hr => exact Z13); intro gb375 hg w39 hbox hb; have n0_ := AS (Kd.R_below Z71 hb); have n1_ := AS (Kd.R_below Z72 hb); have n2_ := AS (Kd.R_below Z107 hb); have n3_ := AS (Kd.R_below Z108 hb); have n4_ := AS (blk_below (g := gb359) (o := .cells #[.string t356, .string t357] 53 (0, 0)) Z34 hb); have n5_ := AS (below_step Z10 hb); have n6_ := AS (hbox); have n7_ := AS ((Z221 : w.heap.size ≤ gb375)); have n8_ := AS ((Z221 : w.heap.size ≤ gb375)); have n9_ := AS ((Z196 : gb359 ≠ gb375)); have n10_ := AS ((Z197 : gb375 ≠ gb359)); clear HO363; clear HO366; clear HO370; clear HO373; clear BK359; clear HB; have HO363 := n0_; have HO366 := n1_; have HO370 := n2_; have HO373 := n3_; have BK359 := n4_; have HB := n5_; have BK375 := n6_; have GW375 := n7_; have GE375 := n8_; have NB359_375 := n9_; have NB375_359 := n10_; clear n0_ n1_ n2_ n3_ n4_ n5_ n6_ n7_ n8_ n9_ n10_; clear hb hbox hg) | ((with_reducible refine gate_dst (N := 10) rfl ?_); refine box_event ?hg (N := 10) ?hd (cs := #[.slice none 0 0, .slice none 0 0, .string (⟨#[]⟩ : ByteArray)]) (t := 191) ?hr ?_; (case hd => rfl); (case hg => rfl); (case hr => exact Z13); intro gb376 hg w40 hbox hb; have n0_ := AS (Kd.R_below Z71 hb); have n1_ := AS (Kd.R_below Z72 hb); have n2_ := AS (Kd.R_below Z107 hb); have n3_ := AS (Kd.R_below Z108 hb); have n4_ := AS (blk_below (g := gb359) (o := .cells #[.string t356, .string t357] 53 (0, 0)) Z34 hb); have n5_ := AS (blk_below (g := gb375) (o := .cells #[.slice none 0 0, .slice none 0 0, .string (⟨#[]⟩ : ByteArray)] 191 (0, 0)) Z73 hb); have n6_ := AS (below_step Z61 hb); have n7_ := AS (hbox); have n8_ := AS ((Z222 : w.heap.size ≤ gb376)); have n9_ := AS ((Z222 : w.heap.size ≤ gb376)); have n10_ := AS ((Z196 : gb359 ≠ gb376)); have n11_ := AS ((Z197 : gb376 ≠ gb359)); have n12_ := AS ((Z203 : gb375 ≠ gb376)); have n13_ := AS ((Z204 : gb376 ≠ gb375)); clear HO363; clear HO366; clear HO370; clear HO373; clear BK359; clear BK375; clear HB; have HO363 := n0_; have HO366 := n1_; have HO370 := n2_; have HO373 := n3_; have BK359 := n4_; have BK375 := n5_; have HB := n6_; have BK376 := n7_; have GW376 := n8_; have GE376 := n9_; have NB359_376 := n10_; have NB376_359 := n11_; have NB375_376 := n12_; have NB376_375 := n13_; clear n0_ n1_ n2_ n3_ n4_ n5_ n6_ n7_ n8_ n9_ n10_ n11_ n12_ n13_; clear hb hbox hg; obtain ⟨Ao41, co41, eo41⟩ := Kd.R_slice HO363.out; subst eo41; have hnb42 := NB375_359.out; have hnc42 := NB359_375.out; have hnb43 := NB375_376.out; have hnc43 := NB376_375.out; have hcz44_0 : w40.cell? ⟨gb375, 0, none⟩ = some (.slice none 0 0) := (blk_cell BK375.out 0).trans rfl; have hcz44_1 : w40.cell? ⟨gb375, 1, none⟩ = some (.slice none 0 0) := (blk_cell BK375.out 1).trans rfl; have hcz44_2 : w40.cell? ⟨gb375, 2, none⟩ = some (.string (⟨#[]⟩ : ByteArray)) := (blk_cell BK375.out 2).trans rfl; have hfz44_0 := blk_frozen BK375.out 0; have hfz44_1 := blk_frozen BK375.out 1; have hfz44_2 := blk_frozen BK375.out 2; obtain ⟨Ao45, co45, eo45⟩ := Kd.R_slice HO366.out; subst eo45; obtain ⟨Ao46, co46, eo46⟩ := Kd.R_slice HO370.out; subst eo46; have hnb47 := NB376_359.out; have hnc47 := NB359_376.out; have hcz48_0 : w40.cell? ⟨gb376, 0, none⟩ = some (.slice none 0 0) := (blk_cell BK376.out 0).trans rfl; have hcz48_1 : w40.cell? ⟨gb376, 1, none⟩ = some (.slice none 0 0) := (blk_cell BK376.out 1).trans rfl; have hcz48_2 : w40.cell? ⟨gb376, 2, none⟩ = some (.string (⟨#[]⟩ : ByteArray)) := (blk_cell BK376.out 2).trans rfl; have hfz48_0 := blk_frozen BK376.out 0; have hfz48_1 := blk_frozen BK376.out 1; have hfz48_2 := blk_frozen BK376.out 2; obtain ⟨Ao49, co49, eo49⟩ := Kd.R_slice HO373.out; subst eo49) | ((with_reducible refine gate_callee (f := 152) rfl ?_); refine goesL_ (some 44) rfl rfl Tryz.func152 Z6 rfl #[.agg #[.slice Ao41 t361.length co41, .slice Ao45 t364.length co45, .string t367], .agg #[.slice Ao46 t368.length co46, .slice Ao49 t371.length co49, .string t374]] rfl Z1 ?_; (with_reducible refine (size_quotient.calls k _ _ t361 _ _ t364 t367 _ _ t368 _ _ t371 t374 t377 false _ ?side1 ?side2 ?side3 ?side4 ?side5 ?side6 ?side7 ?side8 ?side9 A13.out).mono ?_); (case side1 => refine (Kd.R_reads' (e := 3) (base := w.heap.size) (ok := fun k_ => (True ∧ some k_ ≠ (.slice Ao46 t368.length co46 : Value).ownBlock)) (n := t361.length) (c := co41) ?_).2.2; exact Z52); (case side2 => exact (Kd.R_reads' HO363.out).2.1); (case side3 => refine (Kd.R_reads' (e := 51) (base := w.heap.size) (ok := fun k_ => (True ∧ some k_ ≠ (.slice Ao49 t371.length co49 : Value).ownBlock)) (n := t364.length) (c := co45) ?_).2.2; exact Z53); (case side4 => exact (Kd.R_reads' HO366.out).2.1); (case side5 => refine (Kd.R_reads' (e := 3) (base := w.heap.size) (ok := fun k_ => (True ∧ some k_ ≠ (.slice Ao41 t361.length co41 : Value).ownBlock)) (n := t368.length) (c := co46) ?_).2.2; exact Z54); (case side6 => exact (Kd.R_reads' HO370.out).2.1); (case side7 => refine (Kd.R_reads' (e := 51) (base := w.heap.size) (ok := fun k_ => (True ∧ some k_ ≠ (.slice Ao45 t364.length co45 : Value).ownBlock)) (n := t371.length) (c := co49) ?_).2.2; exact Z55); (case side8 => exact (Kd.R_reads' HO373.out).2.1); (case side9 => exact GL.below hG Z38); rintro e w50 ⟨rfl, hb⟩; refine ⟨_, rfl, ?_⟩; have n0_ := AS (Kd.R_below Z52 hb); have n1_ := AS (Kd.R_below Z53 hb); have n2_ := AS (Kd.R_below Z54 hb); have n3_ := AS (Kd.R_below Z55 hb); have n4_ := AS (blk_below (g := gb359) (o := .cells #[.string t356, .string t357] 53 (0, 0)) Z35 hb); have n5_ := AS (blk_below (g := gb375) (o := .cells #[.slice Ao41 t361.length co41, .slice Ao45 t364.length co45, .string t367] 191 (0, 0)) (by (with_reducible repeat (first | refine blk_drewN ?_ _ | refine blk_drew ?_ | refine blk_alloc ?_ _)); refine blk_far ?_ NB375_376.out _; (with_reducible repeat (first | refine blk_drewN ?_ _ | refine blk_drew ?_ | refine blk_alloc ?_ _)); refine blk_far ?_ NB375_376.out _; (with_reducible repeat (first | refine blk_drewN ?_ _ | refine blk_drew ?_ | refine blk_alloc ?_ _)); refine blk_far ?_ NB375_376.out _; (with_reducible repeat (first | refine blk_drewN ?_ _ | refine blk_drew ?_ | refine blk_alloc ?_ _)); refine blk_put (cs := #[.slice Ao41 t361.length co41, .slice Ao45 t364.length co45, .string (⟨#[]⟩ : ByteArray)]) ?_ 2 _ rfl; (with_reducible repeat (first | refine blk_drewN ?_ _ | refine blk_drew ?_ | refine blk_alloc ?_ _)); refine blk_put (cs := #[.slice Ao41 t361.length co41, .slice none 0 0, .string (⟨#[]⟩ : ByteArray)]) ?_ 1 _ rfl; (with_reducible repeat (first | refine blk_drewN ?_ _ | refine blk_drew ?_ | refine blk_alloc ?_ _)); refine blk_put (cs := #[.slice none 0 0, .slice none 0 0, .string (⟨#[]⟩ : ByteArray)]) ?_ 0 _ rfl; (with_reducible repeat (first | refine blk_drewN ?_ _ | refine blk_drew ?_ | refine blk_alloc ?_ _)); exact BK375.out) hb); have n6_ := AS (blk_below (g := gb376) (o := .cells #[.slice Ao46 t368.length co46, .slice Ao49 t371.length co49, .string t374] 191 (0, 0)) (by (with_reducible repeat (first | refine blk_drewN ?_ _ | refine blk_drew ?_ | refine blk_alloc ?_ _)); refine blk_put (cs := #[.slice Ao46 t368.length co46, .slice Ao49 t371.length co49, .string (⟨#[]⟩ : ByteArray)]) ?_ 2 _ rfl; (with_reducible repeat (first | refine blk_drewN ?_ _ | refine blk_drew ?_ | refine blk_alloc ?_ _)); refine blk_put (cs := #[.slice Ao46 t368.length co46, .slice none 0 0, .string (⟨#[]⟩ : ByteArray)]) ?_ 1 _ rfl; (with_reducible repeat (first | refine blk_drewN ?_ _ | refine blk_drew ?_ | refine blk_alloc ?_ _)); refine blk_put (cs := #[.slice none 0 0, .slice none 0 0, .string (⟨#[]⟩ : ByteArray)]) ?_ 0 _ rfl; (with_reducible repeat (first | refine blk_drewN ?_ _ | refine blk_drew ?_ | refine blk_alloc ?_ _)); refine blk_far ?_ NB376_375.out _; (with_reducible repeat (first | refine blk_drewN ?_ _ | refine blk_drew ?_ | refine blk_alloc ?_ _)); refine blk_far ?_ NB376_375.out _; (with_reducible repeat (first | refine blk_drewN ?_ _ | refine blk_drew ?_ | refine blk_alloc ?_ _)); refine blk_far ?_ NB376_375.out _; (with_reducible repeat (first | refine blk_drewN ?_ _ | refine blk_drew ?_ | refine blk_alloc ?_ _)); exact BK376.out) hb); have n7_ := AS (below_step Z38 hb); clear HO363; clear HO366; clear HO370; clear HO373; clear BK359; clear BK375; clear BK376; clear HB; have HO363 := n0_; have HO366 := n1_; have HO370 := n2_; have HO373 := n3_; have BK359 := n4_; have BK375 := n5_; have BK376 := n6_; have HB := n7_; clear n0_ n1_ n2_ n3_ n4_ n5_ n6_ n7_; (try clear hb); (try clear hb2); (try clear hk); (try clear hi)))
   go_loopg [] k (fun kq w' => Aside0 (size_floor.l0 kq  = some r) ∧ Aside0 (kq ≤ k) ∧ Aside0 (Kd.R (Kd.int .i64) 3 w' w.heap.size (fun k_ => some k_ ≠ ((.slice Ao46 t368.length co46) : Value).ownBlock) (.slice Ao41 t361.length co41) t361) ∧ Aside0 (Kd.R Kd.string 51 w' w.heap.size (fun k_ => some k_ ≠ ((.slice Ao49 t371.length co49) : Value).ownBlock) (.slice Ao45 t364.length co45) t364) ∧ Aside0 (Kd.R (Kd.int .i64) 3 w' w.heap.size (fun k_ => some k_ ≠ ((.slice Ao41 t361.length co41) : Value).ownBlock) (.slice Ao46 t368.length co46) t368) ∧ Aside0 (Kd.R Kd.string 51 w' w.heap.size (fun k_ => some k_ ≠ ((.slice Ao45 t364.length co45) : Value).ownBlock) (.slice Ao49 t371.length co49) t371) ∧ Aside0 (w'.heap[gb359]? = some (.cells #[.string t356, .string t357] 53 (0, 0))) ∧ Aside0 (w'.heap[gb375]? = some (.cells #[(.slice Ao41 t361.length co41), (.slice Ao45 t364.length co45), .string t367] 191 (0, 0))) ∧ Aside0 (w'.heap[gb376]? = some (.cells #[(.slice Ao46 t368.length co46), (.slice Ao49 t371.length co49), .string t374] 191 (0, 0))) ∧ Aside0 (Below w.heap.size w w'))
   case atStart => exact ⟨H', ⟨Nat.le_refl _⟩, ⟨by (with_reducible repeat (first | apply Kd.R_alloc | apply Kd.R_drewN | apply Kd.R_drew)); exact Kd.R_mono HO363.out (fun _ hk => hk.2)⟩, ⟨by (with_reducible repeat (first | apply Kd.R_alloc | apply Kd.R_drewN | apply Kd.R_drew)); exact Kd.R_mono HO366.out (fun _ hk => hk.2)⟩, ⟨by (with_reducible repeat (first | apply Kd.R_alloc | apply Kd.R_drewN | apply Kd.R_drew)); exact Kd.R_mono HO370.out (fun _ hk => hk.2)⟩, ⟨by (with_reducible repeat (first | apply Kd.R_alloc | apply Kd.R_drewN | apply Kd.R_drew)); exact Kd.R_mono HO373.out (fun _ hk => hk.2)⟩, ⟨Z34⟩, ⟨Z73⟩, ⟨Z151⟩, ⟨Z38⟩⟩
   case round =>
    clear H'
    try clear c1
    try clear c2
    try clear p2
    try clear c4
    try clear c5
    try clear c12
    try clear c14
    try clear c15
    try clear c24
    try clear c25
    try clear c29
    try clear c42
    try clear c43
    try clear c47
    try clear hcz18_0
    try clear hcz18_1
    try clear hcz26_0
    try clear hcz26_1
    try clear hcz26_2
    try clear hcz30_0
    try clear hcz30_1
    try clear hcz30_2
    try clear hcz36_0
    try clear hcz36_1
    try clear hcz44_0
    try clear hcz44_1
    try clear hcz44_2
    try clear hcz48_0
    try clear hcz48_1
    try clear hcz48_2
    try clear hcz9_0
    try clear hcz9_1
    try clear hfz18_0
    try clear hfz18_1
    try clear hfz26_0
    try clear hfz26_1
    try clear hfz26_2
    try clear hfz30_0
    try clear hfz30_1
    try clear hfz30_2
    try clear hfz36_0
    try clear hfz36_1
    try clear hfz44_0
    try clear hfz44_1
    try clear hfz44_2
    try clear hfz48_0
    try clear hfz48_1
    try clear hfz48_2
    try clear hfz9_0
    try clear hfz9_1
    obtain ⟨HA, HK1, HO_376000, HO_376001, HO_377000, HO_377001, BK359, BK375, BK376, HB⟩ := hrel
    cases gk with
    | zero => exact absurd HA.out (by simp [size_floor.l0])
    | succ k1 =>
     have H := HA.out
     clear HA
     simp only [size_floor.l0] at H
     exact absurd H (by simp)
def size_Floor.f (k : Nat) (l0 : List Int) (l1 : List (S53)) (l2 : List (S53)) : Option (ByteArray × Int) := (size_checkQuotient.f k l0 l1 l2).bind fun t380 => (if t380 = 0 then ((size_floor.f k l0 l1 l2).bind fun t381 => (some (t381, 0))) else (some ((⟨#[]⟩ : ByteArray), t380)))
set_option maxHeartbeats 8000000 in
set_option maxRecDepth 100000 in
theorem size_Floor.calls (k : Nat) (A0 : Option Addr) (c0 : Nat) (l0 : List Int) (A1 : Option Addr) (c1 : Nat) (l1 : List (S53)) (A2 : Option Addr) (c2 : Nat) (l2 : List (S53)) (r1 : ByteArray) (r2 : Int) (w : World) (hr0 : Kd.C (Kd.int .i64) w A0 l0.length l0) (hc0 : l0.length ≤ c0) (hr1 : Kd.C k53 w A1 l1.length l1) (hc1 : l1.length ≤ c1) (hr2 : Kd.C k53 w A2 l2.length l2) (hc2 : l2.length ≤ c2) (hG : GL w) (h : size_Floor.f k l0 l1 l2 = some (r1, r2)) :
  Calls Tryz.prog 101 #[.slice A0 l0.length c0, .slice A1 l1.length c1, .slice A2 l2.length c2] w fun e w' => e = .returned (.tuple #[.string r1, .int .i64 r2]) ∧ Below w.heap.size w w' := by
 have HR0 := AS hr0
 have HC0 := AS hc0
 clear hr0 hc0
 have HR1 := AS hr1
 have HC1 := AS hc1
 clear hr1 hc1
 have HR2 := AS hr2
 have HC2 := AS hc2
 clear hr2 hc2
 have HB := AS (Below.refl w.heap.size w)
 have H : ((size_checkQuotient.f k l0 l1 l2).bind fun t380 => (if t380 = 0 then ((size_floor.f k l0 l1 l2).bind fun t381 => (some (t381, 0))) else (some ((⟨#[]⟩ : ByteArray), t380)))) = some (r1, r2) := h
 clear h
 replace H := Option.bind_eq_some_iff.mp H
 obtain ⟨t380, A40, H⟩ := H
 replace H : (if t380 = 0 then ((size_floor.f k l0 l1 l2).bind fun t381 => (some (t381, 0))) else (some ((⟨#[]⟩ : ByteArray), t380))) = some (r1, r2) := H
 have A4 := AS A40
 clear A40
 by_cases c5 : t380 = 0
 ·rw [if_pos c5] at H
  have c5b0 : (t380 == 0) = true := beq_iff_eq.mpr c5
  have c5b1 : (t380 != 0) = false := bne_eq_false_iff_eq.mpr c5
  clear c5
  replace H := Option.bind_eq_some_iff.mp H
  obtain ⟨t381, A60, H⟩ := H
  replace H : (some (t381, 0)) = some (r1, r2) := H
  have A6 := AS A60
  clear A60
  simp only [Option.some.injEq, Prod.mk.injEq] at H
  obtain ⟨rfl, rfl⟩ := H
  go_enter Tryz.func101, Tryz.ntmps101
  go_wp2_with (first | ((with_reducible refine gate_callee (f := 128) rfl ?_); refine goesL_ (some 12) rfl rfl Tryz.func128 Z6 rfl #[.slice A0 l0.length c0, .slice A1 l1.length c1, .slice A2 l2.length c2] rfl Z1 ?_; (with_reducible refine (size_checkQuotient.calls k _ _ l0 _ _ l1 _ _ l2 t380 _ ?side1 ?side2 ?side3 ?side4 ?side5 ?side6 ?side7 A4.out).mono ?_); (case side1 => exact Z12); (case side2 => exact Z58); (case side3 => exact Z36); (case side4 => exact Z145); (case side5 => exact Z88); (case side6 => exact Z170); (case side7 => exact Z183); rintro e w7 ⟨rfl, hb⟩; refine ⟨_, rfl, ?_⟩; have n0_ := AS (below_step Z0 hb); clear HB; have HB := n0_; clear n0_; (try clear hb); (try clear hb2); (try clear hk); (try clear hi)) | ((with_reducible refine gate_callee (f := 129) rfl ?_); refine goesL_ (some 19) rfl rfl Tryz.func129 Z6 rfl #[.slice A0 l0.length c0, .slice A1 l1.length c1, .slice A2 l2.length c2] rfl Z1 ?_; (with_reducible refine (size_floor.calls k _ _ l0 _ _ l1 _ _ l2 t381 _ ?side1 ?side2 ?side3 ?side4 ?side5 ?side6 ?side7 A6.out).mono ?_); (case side1 => exact Z4); (case side2 => exact Z58); (case side3 => exact Z77); (case side4 => exact Z145); (case side5 => exact Z112); (case side6 => exact Z170); (case side7 => exact Z183); rintro e w8 ⟨rfl, hb⟩; refine ⟨_, rfl, ?_⟩; have n0_ := AS (below_step Z0 hb); clear HB; have HB := n0_; clear n0_; (try clear hb); (try clear hb2); (try clear hk); (try clear hi)))
  go_ret2
  exact ⟨Z2, Z0⟩
 ·rw [if_neg c5] at H
  have c5b0 : (t380 == 0) = false := beq_eq_false_iff_ne.mpr c5
  have c5b1 : (t380 != 0) = true := bne_iff_ne.mpr c5
  simp only [Option.some.injEq, Prod.mk.injEq] at H
  obtain ⟨rfl, rfl⟩ := H
  go_enter Tryz.func101, Tryz.ntmps101
  go_wp2_with (first | ((with_reducible refine gate_callee (f := 128) rfl ?_); refine goesL_ (some 12) rfl rfl Tryz.func128 Z6 rfl #[.slice A0 l0.length c0, .slice A1 l1.length c1, .slice A2 l2.length c2] rfl Z1 ?_; (with_reducible refine (size_checkQuotient.calls k _ _ l0 _ _ l1 _ _ l2 t380 _ ?side1 ?side2 ?side3 ?side4 ?side5 ?side6 ?side7 A4.out).mono ?_); (case side1 => exact Z12); (case side2 => exact Z58); (case side3 => exact Z36); (case side4 => exact Z145); (case side5 => exact Z88); (case side6 => exact Z170); (case side7 => exact Z183); rintro e w9 ⟨rfl, hb⟩; refine ⟨_, rfl, ?_⟩; have n0_ := AS (below_step Z0 hb); clear HB; have HB := n0_; clear n0_; (try clear hb); (try clear hb2); (try clear hk); (try clear hi)))
  go_ret2
  exact ⟨Z2, Z0⟩
def interval_floor.f (k : Nat) (l0 : List Int) (l1 : List Int) (l2 : List Int) : Option (Int × Int) := (interval_sizes.f k l0 (([l1, l2] : List (List Int)))).bind fun t385 => (if 0 < (t385.length : Int) then (if 1 < (t385.length : Int) then ((size_Floor.f k l0 (rd_L8 t385 0) (rd_L8 t385 1)).bind fun bt390 => (if bt390.2 = 0 then ((whole_Small.f bt390.1).bind fun bt392 => (if bt392.2 = true then (some (bt392.1, 0)) else (some (0, 4)))) else (some (0, bt390.2)))) else (none)) else (none))
def interval_floor.T2 : Bool × List (List Nat × List Nat) := (true, [([], []), ([], []), ([1], [1]), ([2], [2]), ([], []), ([4], [4]), ([5], [5]), ([0, 3, 6], [0, 3, 6]), ([7], [7]), ([8], [8]), ([8], [8]), ([9, 7, 0, 1, 2, 3, 4, 5, 6, 7, 8, 9], [9]), ([10, 11, 0, 1, 2, 3, 4, 5, 6, 7, 8, 9, 10, 11], [10])])
def interval_floor.B2 : List Nat := [0, 0, 2, 6, 0, 16, 48, 127, 255, 511, 511, 1023, 4095]
theorem interval_floor.tab2 : rtab .any (opsOf Tryz.f72 2) = interval_floor.T2 := by kernel_rfl
theorem interval_floor.bits2 : waitsOk interval_floor.T2.2 interval_floor.B2 = true := by kernel_rfl
set_option maxHeartbeats 8000000 in
set_option maxRecDepth 100000 in
theorem interval_floor.calls (k : Nat) (A0 : Option Addr) (c0 : Nat) (l0 : List Int) (P1_ : Nat → Prop) (A1 : Option Addr) (c1 : Nat) (l1 : List Int) (P2_ : Nat → Prop) (A2 : Option Addr) (c2 : Nat) (l2 : List Int) (r1 : Int) (r2 : Int) (w : World) (hr0 : Kd.C (Kd.int .i64) w A0 l0.length l0) (hc0 : l0.length ≤ c0) (hs1 : Kd.V (Kd.int .i64) 3 w w.heap.size (fun k_ => P1_ k_) (.slice A1 l1.length c1) l1) (hs2 : Kd.V (Kd.int .i64) 3 w w.heap.size (fun k_ => P2_ k_) (.slice A2 l2.length c2) l2) (hG : GL w) (h : interval_floor.f k l0 l1 l2 = some (r1, r2)) :
  Calls Tryz.prog 72 #[.slice A0 l0.length c0, .slice A1 l1.length c1, .slice A2 l2.length c2] w fun e w' => e = .returned (.tuple #[.int .i64 r1, .int .i64 r2]) ∧ Below w.heap.size w w' := by
 have HR0 := AS hr0
 have HC0 := AS hc0
 clear hr0 hc0
 have HO1 := AS (show Kd.V (Kd.int .i64) 3 w w.heap.size (fun k_ => ((P1_ k_ ∨ P2_ k_) ∨ w.heap.size ≤ k_)) (.slice A1 l1.length c1) l1 from Kd.V_mono hs1 (fun k_ hk => .inl (.inl hk)))
 have HO2 := AS (show Kd.V (Kd.int .i64) 3 w w.heap.size (fun k_ => ((P1_ k_ ∨ P2_ k_) ∨ w.heap.size ≤ k_)) (.slice A2 l2.length c2) l2 from Kd.V_mono hs2 (fun k_ hk => .inl (.inr hk)))
 have HB := AS (Below.refl w.heap.size w)
 have H : ((interval_sizes.f k l0 (([l1, l2] : List (List Int)))).bind fun t385 => (if 0 < (t385.length : Int) then (if 1 < (t385.length : Int) then ((size_Floor.f k l0 (rd_L8 t385 0) (rd_L8 t385 1)).bind fun bt390 => (if bt390.2 = 0 then ((whole_Small.f bt390.1).bind fun bt392 => (if bt392.2 = true then (some (bt392.1, 0)) else (some (0, 4)))) else (some (0, bt390.2)))) else (none)) else (none))) = some (r1, r2) := h
 clear h
 obtain ⟨y382, hy382⟩ : ∃ y_ : List (List Int), y_ = (([l1, l2] : List (List Int))) := ⟨_, rfl⟩
 replace H : ((interval_sizes.f k l0 y382).bind fun t385 => (if 0 < (t385.length : Int) then (if 1 < (t385.length : Int) then ((size_Floor.f k l0 (rd_L8 t385 0) (rd_L8 t385 1)).bind fun bt390 => (if bt390.2 = 0 then ((whole_Small.f bt390.1).bind fun bt392 => (if bt392.2 = true then (some (bt392.1, 0)) else (some (0, 4)))) else (some (0, bt390.2)))) else (none)) else (none))) = some (r1, r2) := by first | (rw [hy382]; with_reducible exact H) | (have H2_ := (Option.bind_some _ _).symm.trans H; rw [hy382]; with_reducible exact H2_) | (have H2_ := (Option.bind_some _ _).symm.trans H; with_reducible exact H2_) | with_reducible exact H | (rw [hy382]; exact H) | exact H
 have Ny382 := AS hy382
 clear hy382
 replace H := Option.bind_eq_some_iff.mp H
 obtain ⟨t385, A40, H⟩ := H
 replace H : (if 0 < (t385.length : Int) then (if 1 < (t385.length : Int) then ((size_Floor.f k l0 (rd_L8 t385 0) (rd_L8 t385 1)).bind fun bt390 => (if bt390.2 = 0 then ((whole_Small.f bt390.1).bind fun bt392 => (if bt392.2 = true then (some (bt392.1, 0)) else (some (0, 4)))) else (some (0, bt390.2)))) else (none)) else (none)) = some (r1, r2) := H
 have A4 := AS A40
 clear A40
 by_cases c5 : 0 < (t385.length : Int)
 ·rw [if_pos c5] at H
  have c5b0 : decide (0 < (t385.length : Int)) = true := decide_eq_true c5
  have c5b1 : decide (0 < t385.length) = true := decide_eq_true (by omega)
  clear c5
  by_cases c6 : 1 < (t385.length : Int)
  ·rw [if_pos c6] at H
   have c6b0 : decide (1 < (t385.length : Int)) = true := decide_eq_true c6
   have c6b1 : decide (1 < t385.length) = true := decide_eq_true (by omega)
   clear c6
   replace H := Option.bind_eq_some_iff.mp H
   obtain ⟨⟨t390, t391⟩, A70, H⟩ := H
   replace H : (if t391 = 0 then ((whole_Small.f t390).bind fun bt392 => (if bt392.2 = true then (some (bt392.1, 0)) else (some (0, 4)))) else (some (0, t391))) = some (r1, r2) := H
   have A7 := AS A70
   clear A70
   by_cases c8 : t391 = 0
   ·rw [if_pos c8] at H
    have c8b0 : (t391 == 0) = true := beq_iff_eq.mpr c8
    have c8b1 : (t391 != 0) = false := bne_eq_false_iff_eq.mpr c8
    clear c8
    replace H := Option.bind_eq_some_iff.mp H
    obtain ⟨⟨t392, t393⟩, A90, H⟩ := H
    replace H : (if t393 = true then (some (t392, 0)) else (some (0, 4))) = some (r1, r2) := H
    have A9 := AS A90
    clear A90
    by_cases c10 : t393 = true
    ·subst c10
     have H1 : (some (t392, 0)) = some (r1, r2) := by rw [if_pos rfl] at H; exact H
     clear H
     have H := H1
     clear H1
     simp only [Option.some.injEq, Prod.mk.injEq] at H
     obtain ⟨rfl, rfl⟩ := H
     go_enter Tryz.func72, Tryz.ntmps72
     try go_wp2_with (first | ((with_reducible refine gate_dst (N := 16) rfl ?_); refine Kd.N_lit (Kd.slice 3 (Kd.int .i64)) _ 28 ?hg (N' := 16) ?hd (xs := ([l1, l2] : List (List Int))) (inner := [.slice A1 l1.length c1, .slice A2 l2.length c2]) (ok := (fun k_ => ((P1_ k_ ∨ P2_ k_) ∨ w.heap.size ≤ k_))) (okp := (fun k_ => ((P1_ k_ ∨ P2_ k_) ∨ w.heap.size ≤ k_))) ?hr ?hp (fun _ hk => hk) ((show ∀ k_, w.heap.size ≤ k_ → (fun k_ => ((P1_ k_ ∨ P2_ k_) ∨ w.heap.size ≤ k_)) k_ from fun k_ hk => (.inr (Nat.le_trans (below_size Z0) hk))) _ (Nat.le_refl _)) (Below.refl _ _) (Nat.le_refl _) (by simp) ?_; (case hd => rfl); (case hg => rfl); (case hr => exact Z13); (case hp => exact Z14); intro v383 w11 ho12 hb hg_ hnew_; clear hg_ hnew_; (first | rw [← Ny382.out] at ho12 | (simp only [Int.reduceToNat] at ho12; rw [← Ny382.out] at ho12)); have n0_ := AS (Kd.V_elder' Z11 (Kd.N_base ho12) hb); have n1_ := AS (Kd.V_elder' Z19 (Kd.N_base ho12) hb); have n2_ := AS (Kd.N_lower ho12 (below_size Z0)); have n3_ := AS (below_step Z0 hb); clear HO1; clear HO2; clear HB; have HO1 := n0_; have HO2 := n1_; have HO384 := n2_; have HB := n3_; clear n0_ n1_ n2_ n3_; clear hb ho12; obtain ⟨Ao13, co13, eo13⟩ := Kd.N_slice HO384.out; subst eo13) | ((with_reducible refine gate_callee (f := 100) rfl ?_); refine goesL_ (some 17) rfl rfl Tryz.func100 Z6 rfl #[.slice A0 l0.length c0, .slice Ao13 y382.length co13] rfl Z1 ?_; (with_reducible refine (interval_sizes.calls k _ _ l0 _ _ y382 t385 _ ?side1 ?side2 ?side3 ?side4 ?side5 A4.out).mono ?_); (case side1 => exact Z4); (case side2 => exact Z58); (case side3 => exact Z113); (case side4 => exact Z174); (case side5 => exact Z183); rintro e w14 ⟨v386, rfl, ho0, hb⟩; refine ⟨_, rfl, ?_⟩; have n0_ := AS (Kd.V_elder' Z11 (Kd.N_base (Kd.S_N ho0)) hb); have n1_ := AS (Kd.V_elder' Z19 (Kd.N_base (Kd.S_N ho0)) hb); have n2_ := AS (Kd.N_elder' Z62 (Kd.N_base (Kd.S_N ho0)) hb); have n3_ := AS (Kd.N_lower (Kd.N_mono (ok' := fun k_ => ((P1_ k_ ∨ P2_ k_) ∨ w.heap.size ≤ k_) ∧ some k_ ≠ (.slice Ao13 y382.length co13 : Value).ownBlock) (Kd.S_N (Kd.S_bound ho0)) (fun k_ hk_ => ⟨(.inr (Nat.le_trans (below_size Z0) hk_.2.1)), (Kd.fresh' (Kd.N_lt Z62) k_ hk_.2.1)⟩)) (below_size Z0)); have n4_ := AS (below_step Z0 hb); clear HO1; clear HO2; clear HO384; clear HB; have HO1 := n0_; have HO2 := n1_; have HO384 := n2_; have HO387 := n3_; have HB := n4_; clear n0_ n1_ n2_ n3_ n4_; (try clear hb); (try clear hb2); (try clear hk); (try clear hi); (try clear ho0)))
     have n0_ := AS (Kd.V_drew HO1.out)
     have n1_ := AS (Kd.V_drew HO2.out)
     have n2_ := AS (Kd.N_drew HO384.out)
     have n3_ := AS (Kd.N_drew HO387.out)
     have n4_ := AS (below_drew1 HB.out)
     clear HO1
     clear HO2
     clear HO384
     clear HO387
     clear HB
     have HO1 := n0_
     have HO2 := n1_
     have HO384 := n2_
     have HO387 := n3_
     have HB := n4_
     clear n0_ n1_ n2_ n3_ n4_
     obtain ⟨Ao16, co16, eo16⟩ := Kd.N_slice HO387.out
     (first | subst eo16 | (injection eo16 with f1_ f2_ f3_; have f4_ := f1_.symm; have f5_ := f3_.symm; clear f1_ f2_ f3_; subst f4_; subst f5_))
     have p388 : 0 ≤ (0 : Int) := (by omega)
     have q388 : 0 < (t385.length : Int) := of_decide_eq_true Z3
     obtain ⟨ad388, A388_0, c388_0, e388, hx388_0, hl388_0, hi388_0⟩ := at_L8 (Kd.N_reads' HO387.out).2.2 0 p388 q388
     cases e388
     obtain ⟨ce388, hce388, hMe388, hcc388⟩ := Kd.N_get HO387.out [] 0 p388 Z201
     obtain ⟨ua388_0, uc388_0, rfl, ul388_0, ge388_0⟩ := Kd.FK_slice_open hMe388
     have hv388_0 := hcc388 0 _ rfl
     rw [Nat.add_zero, show ((Kd.slice 53 k53)).sz = 1 from rfl, Nat.mul_one] at hv388_0
     replace hv388_0 := Option.some.inj (hv388_0.symm.trans hx388_0)
     injection hv388_0 with hva_ hvn_ hvc_
     rw [hva_] at ge388_0
     rw [hvc_] at ul388_0
     have HL388_0 := AS (show Kd.V k53 53 _ w.heap.size _ _ (rd_L8 t385 0) from Kd.V_mk ul388_0 ge388_0)
     clear hva_ hvn_ hvc_ ge388_0 ul388_0
     clear hcc388 hce388
     have qi388 : (0 < t385.length) = True := eq_true (by omega)
     (try rw [show ((0 : Int)).toNat = 0 from rfl] at hx388_0)
     (try rw [Addr.add_zero'] at hx388_0)
     have HR388_0 := AS hi388_0
     have HC388_0 := AS hl388_0
     clear hi388_0 hl388_0
     replace p388 := eq_true p388
     replace q388 := eq_true q388
     have p389 : 0 ≤ (1 : Int) := (by omega)
     have q389 : 1 < (t385.length : Int) := of_decide_eq_true Z3
     obtain ⟨ad389, A389_0, c389_0, e389, hx389_0, hl389_0, hi389_0⟩ := at_L8 (Kd.N_reads' HO387.out).2.2 1 p389 q389
     obtain rfl : ad388 = ad389 := (by injection e389)
     obtain ⟨ce389, hce389, hMe389, hcc389⟩ := Kd.N_get HO387.out [] 1 p389 Z202
     obtain ⟨ua389_0, uc389_0, rfl, ul389_0, ge389_0⟩ := Kd.FK_slice_open hMe389
     have hv389_0 := hcc389 0 _ rfl
     rw [Nat.add_zero, show ((Kd.slice 53 k53)).sz = 1 from rfl, Nat.mul_one] at hv389_0
     replace hv389_0 := Option.some.inj (hv389_0.symm.trans hx389_0)
     injection hv389_0 with hva_ hvn_ hvc_
     rw [hva_] at ge389_0
     rw [hvc_] at ul389_0
     have HL389_0 := AS (show Kd.V k53 53 _ w.heap.size _ _ (rd_L8 t385 1) from Kd.V_mk ul389_0 ge389_0)
     clear hva_ hvn_ hvc_ ge389_0 ul389_0
     clear hcc389 hce389
     (try simp only [show (1 : Int).toNat = 1 from rfl, Nat.reduceMul, Nat.reduceEqDiff, Go.Addr.add, ↓reduceIte] at hx389_0)
     have qi389 : (1 < t385.length) = True := eq_true (by omega)
     (try rw [show ((1 : Int)).toNat = 1 from rfl] at hx389_0)
     have HR389_0 := AS hi389_0
     have HC389_0 := AS hl389_0
     clear hi389_0 hl389_0
     replace p389 := eq_true p389
     replace q389 := eq_true q389
     refine start_ (n := 13) (S := fun w' => w'.cell? ad388 = some (.slice A388_0 (rd_L8 t385 0).length c388_0) ∧ w'.cell? ⟨ad388.block, ad388.off + 1, none⟩ = some (.slice A389_0 (rd_L8 t385 1).length c389_0)) (ds := []) #[false, false, false, false, false, false, false, false, false, false, false, false, false] Z6 rfl rfl ⟨hx388_0, hx389_0⟩ (fun hHeld => ?_); refine with_tabW interval_floor.tab2 interval_floor.bits2 (fun HT_ HW_ => ?_)
     generalize w14.drew = w15 at HO1 HO2 HO384 HO387 HB HL388_0 HL389_0 HR388_0 HR389_0 hx388_0 hx389_0 hHeld ⊢
     refine pure_ (i := 0) (N := some 19) (v := ?_) (a' := ?_) #[true, false, false, false, false, false, false, false, false, false, false, false, false] rfl rfl (any_of HT_.out Z6) (fun _ _ _ h => h) (Or.inl ⟨by rfl, ?_⟩) ?_ ?_
     rotate_left
     ·intro w'
      go_simp
      with_reducible rfl
     rotate_left
     ·simp only [Act.put, List.setIfInBounds_toArray, List.set_cons_zero, List.set_cons_succ, i64_w, i32_w]
      rfl
     refine pure_ (i := 1) (N := some 20) (v := ?_) (a' := ?_) #[true, true, false, false, false, false, false, false, false, false, false, false, false] rfl rfl (any_of HT_.out Z6) (fun _ _ _ h => h) (Or.inl ⟨by rfl, ?_⟩) ?_ ?_
     rotate_left
     ·intro w'
      go_simp
      with_reducible rfl
     rotate_left
     ·simp only [Act.put, List.setIfInBounds_toArray, List.set_cons_zero, List.set_cons_succ, i64_w, i32_w]
      rfl
     refine pure_ (i := 2) (N := some 21) (v := ?_) (a' := ?_) #[true, true, true, false, false, false, false, false, false, false, false, false, false] rfl rfl (any_of HT_.out Z6) (fun _ _ _ h => h) (Or.inl ⟨by rfl, ?_⟩) ?_ ?_
     rotate_left
     ·intro w'
      go_simp
      with_reducible rfl
     rotate_left
     ·simp only [Act.put, List.setIfInBounds_toArray, List.set_cons_zero, List.set_cons_succ, i64_w, i32_w]
      rfl
     refine pure_ (i := 4) (N := some 23) (v := ?_) (a' := ?_) #[true, true, true, false, true, false, false, false, false, false, false, false, false] rfl rfl (any_of HT_.out Z6) (fun _ _ _ h => h) (Or.inl ⟨by rfl, ?_⟩) ?_ ?_
     rotate_left
     ·intro w'
      go_simp
      with_reducible rfl
     rotate_left
     ·simp only [Act.put, List.setIfInBounds_toArray, List.set_cons_zero, List.set_cons_succ, i64_w, i32_w]
      rfl
     refine pure_ (i := 5) (N := some 24) (v := ?_) (a' := ?_) #[true, true, true, false, true, true, false, false, false, false, false, false, false] rfl rfl (any_of HT_.out Z6) (fun _ _ _ h => h) (Or.inl ⟨by rfl, ?_⟩) ?_ ?_
     rotate_left
     ·intro w'
      go_simp
      with_reducible rfl
     rotate_left
     ·simp only [Act.put, List.setIfInBounds_toArray, List.set_cons_zero, List.set_cons_succ, i64_w, i32_w]
      rfl
     refine take_ (i := 3) (N := some 22) (v := ?_) (a' := ?_) #[true, true, true, true, true, true, false, false, false, false, false, false, false] rfl rfl (take_ofW HT_.out HW_.out Z6) (fun _ _ _ h => h) (Or.inl ⟨by rfl, ?_⟩) hHeld ?_ ?_
     rotate_left
     ·rintro w' ⟨s0, s1⟩
      go_simp
      with_reducible rfl
     rotate_left
     ·simp only [Act.put, List.setIfInBounds_toArray, List.set_cons_zero, List.set_cons_succ, i64_w, i32_w]
      rfl
     refine take_ (i := 6) (N := some 25) (v := ?_) (a' := ?_) #[true, true, true, true, true, true, true, false, false, false, false, false, false] rfl rfl (take_ofW HT_.out HW_.out Z6) (fun _ _ _ h => h) (Or.inl ⟨by rfl, ?_⟩) hHeld ?_ ?_
     rotate_left
     ·rintro w' ⟨s0, s1⟩
      go_simp
      with_reducible rfl
     rotate_left
     ·simp only [Act.put, List.setIfInBounds_toArray, List.set_cons_zero, List.set_cons_succ, i64_w, i32_w]
      rfl
     refine one_ (i := 7) (N := some 26) #[true, true, true, true, true, true, true, true, false, false, false, false, false] rfl rfl (one_of HT_.out Z6) (by decide) (fun K hK => ?_)
     refine goes_ Tryz.func101 Z6 rfl #[.slice A0 l0.length c0, .slice A388_0 (rd_L8 t385 0).length c388_0, .slice A389_0 (rd_L8 t385 1).length c389_0] (by rfl) rfl rfl Z1 ?_
     with_reducible refine (size_Floor.calls k _ _ l0 _ _ (rd_L8 t385 0) _ _ (rd_L8 t385 1) t390 t391 _ ?side1 ?side2 ?side3 ?side4 ?side5 ?side6 ?side7 A7.out).mono ?_
     (case side1 => exact Z4)
     (case side2 => exact Z58)
     (case side3 => exact Z192)
     (case side4 => exact HC388_0.out)
     (case side5 => exact Z193)
     (case side6 => exact HC389_0.out)
     (case side7 => exact Z183)
     rintro e w17 ⟨rfl, hb⟩
     have HS0_ := (hb.cell (World.block_lt_of_cell? _ _ (hHeld.1))).trans (hHeld.1)
     have HS1_ := (hb.cell (World.block_lt_of_cell? _ _ (hHeld.2))).trans (hHeld.2)
     refine ⟨_, rfl, ?_⟩
     have n0_ := AS (Kd.V_below Z11 hb)
     have n1_ := AS (Kd.V_below Z19 hb)
     have n2_ := AS (Kd.N_below Z62 hb)
     have n3_ := AS (Kd.N_below Z109 hb)
     have n4_ := AS (Kd.V_below Z104 hb)
     have n5_ := AS (Kd.V_below Z105 hb)
     have n6_ := AS (Kd.C_below Z43 hb)
     have n7_ := AS (Kd.C_below Z44 hb)
     have n8_ := AS (below_step Z0 hb)
     clear HO1
     clear HO2
     clear HO384
     clear HO387
     clear HL388_0
     clear HL389_0
     clear HR388_0
     clear HR389_0
     clear HB
     have HO1 := n0_
     have HO2 := n1_
     have HO384 := n2_
     have HO387 := n3_
     have HL388_0 := n4_
     have HL389_0 := n5_
     have HR388_0 := n6_
     have HR389_0 := n7_
     have HB := n8_
     clear n0_ n1_ n2_ n3_ n4_ n5_ n6_ n7_ n8_
     (try clear hb)
     (try clear hb2)
     (try clear hk)
     (try clear hi)
     refine hK.out _ _ ⟨HS0_, HS1_⟩ (fun hHeld => ?_)
     clear hK K
     refine norm_ (a' := ?_) ?_ ?_
     rotate_left
     ·show Act.put _ (some 26) _ = _
      simp only [Act.put, List.setIfInBounds_toArray, List.set_cons_zero, List.set_cons_succ, i64_w, i32_w]
      rfl
     refine pure_ (i := 8) (N := some 18) (v := ?_) (a' := ?_) #[true, true, true, true, true, true, true, true, true, false, false, false, false] rfl rfl (any_of HT_.out Z6) (fun _ _ _ h => h) (Or.inl ⟨by rfl, ?_⟩) ?_ ?_
     rotate_left
     ·intro w'
      go_simp
      with_reducible rfl
     rotate_left
     ·simp only [Act.put, List.setIfInBounds_toArray, List.set_cons_zero, List.set_cons_succ, i64_w, i32_w]
      rfl
     refine pure_ (i := 9) (N := some 27) (v := ?_) (a' := ?_) #[true, true, true, true, true, true, true, true, true, true, false, false, false] rfl rfl (any_of HT_.out Z6) (fun _ _ _ h => h) (Or.inl ⟨by rfl, ?_⟩) ?_ ?_
     rotate_left
     ·intro w'
      go_simp
      with_reducible rfl
     rotate_left
     ·simp only [Act.put, List.setIfInBounds_toArray, List.set_cons_zero, List.set_cons_succ, i64_w, i32_w]
      rfl
     refine pure_ (i := 10) (N := some 28) (v := ?_) (a' := ?_) #[true, true, true, true, true, true, true, true, true, true, true, false, false] rfl rfl (any_of HT_.out Z6) (fun _ _ _ h => h) (Or.inl ⟨by rfl, ?_⟩) ?_ ?_
     rotate_left
     ·intro w'
      go_simp
      with_reducible rfl
     rotate_left
     ·simp only [Act.put, List.setIfInBounds_toArray, List.set_cons_zero, List.set_cons_succ, i64_w, i32_w]
      rfl
     refine pure_ (i := 11) (N := some 9) (v := ?_) (a' := ?_) #[true, true, true, true, true, true, true, true, true, true, true, true, false] rfl rfl (any_of HT_.out Z6) (fun _ _ _ h => h) (Or.inl ⟨by rfl, ?_⟩) ?_ ?_
     rotate_left
     ·intro w'
      go_simp
      with_reducible rfl
     rotate_left
     ·simp only [Act.put, List.setIfInBounds_toArray, List.set_cons_zero, List.set_cons_succ, i64_w, i32_w]
      rfl
     refine pure_ (i := 12) (N := some 10) (v := ?_) (a' := ?_) #[true, true, true, true, true, true, true, true, true, true, true, true, true] rfl rfl (any_of HT_.out Z6) (fun _ _ _ h => h) (Or.inl ⟨by rfl, ?_⟩) ?_ ?_
     rotate_left
     ·intro w'
      go_simp
      with_reducible rfl
     rotate_left
     ·simp only [Act.put, List.setIfInBounds_toArray, List.set_cons_zero, List.set_cons_succ, i64_w, i32_w]
      rfl
     refine done_ (done_of HT_.out Z6) ?_
     try go_wp2_with (first | ((with_reducible refine gate_callee (f := 102) rfl ?_); refine goesL_ (some 34) rfl rfl Tryz.func102 Z6 rfl #[.string t390] rfl Z1 ?_; (with_reducible refine (whole_Small.calls t390 t392 true _ ?side1 A9.out).mono ?_); (case side1 => exact Z183); rintro e w18 ⟨rfl, hb⟩; refine ⟨_, rfl, ?_⟩; have n0_ := AS (Kd.V_below Z11 hb); have n1_ := AS (Kd.V_below Z19 hb); have n2_ := AS (Kd.N_below Z62 hb); have n3_ := AS (Kd.N_below Z109 hb); have n4_ := AS (Kd.V_below Z104 hb); have n5_ := AS (Kd.V_below Z105 hb); have n6_ := AS (Kd.C_below Z43 hb); have n7_ := AS (Kd.C_below Z44 hb); have n8_ := AS (below_step Z0 hb); clear HO1; clear HO2; clear HO384; clear HO387; clear HL388_0; clear HL389_0; clear HR388_0; clear HR389_0; clear HB; have HO1 := n0_; have HO2 := n1_; have HO384 := n2_; have HO387 := n3_; have HL388_0 := n4_; have HL389_0 := n5_; have HR388_0 := n6_; have HR389_0 := n7_; have HB := n8_; clear n0_ n1_ n2_ n3_ n4_ n5_ n6_ n7_ n8_; (try clear hb); (try clear hb2); (try clear hk); (try clear hi)))
     go_ret2
     exact ⟨Z2, Z0⟩
    ·replace c10 := Bool.eq_false_iff.mpr c10
     subst c10
     have H1 : (some (0, 4)) = some (r1, r2) := by rw [if_neg (show ¬ (false = true) by decide)] at H; exact H
     clear H
     have H := H1
     clear H1
     simp only [Option.some.injEq, Prod.mk.injEq] at H
     obtain ⟨rfl, rfl⟩ := H
     go_enter Tryz.func72, Tryz.ntmps72
     try go_wp2_with (first | ((with_reducible refine gate_dst (N := 16) rfl ?_); refine Kd.N_lit (Kd.slice 3 (Kd.int .i64)) _ 28 ?hg (N' := 16) ?hd (xs := ([l1, l2] : List (List Int))) (inner := [.slice A1 l1.length c1, .slice A2 l2.length c2]) (ok := (fun k_ => ((P1_ k_ ∨ P2_ k_) ∨ w.heap.size ≤ k_))) (okp := (fun k_ => ((P1_ k_ ∨ P2_ k_) ∨ w.heap.size ≤ k_))) ?hr ?hp (fun _ hk => hk) ((show ∀ k_, w.heap.size ≤ k_ → (fun k_ => ((P1_ k_ ∨ P2_ k_) ∨ w.heap.size ≤ k_)) k_ from fun k_ hk => (.inr (Nat.le_trans (below_size Z0) hk))) _ (Nat.le_refl _)) (Below.refl _ _) (Nat.le_refl _) (by simp) ?_; (case hd => rfl); (case hg => rfl); (case hr => exact Z13); (case hp => exact Z14); intro v383 w19 ho20 hb hg_ hnew_; clear hg_ hnew_; (first | rw [← Ny382.out] at ho20 | (simp only [Int.reduceToNat] at ho20; rw [← Ny382.out] at ho20)); have n0_ := AS (Kd.V_elder' Z11 (Kd.N_base ho20) hb); have n1_ := AS (Kd.V_elder' Z19 (Kd.N_base ho20) hb); have n2_ := AS (Kd.N_lower ho20 (below_size Z0)); have n3_ := AS (below_step Z0 hb); clear HO1; clear HO2; clear HB; have HO1 := n0_; have HO2 := n1_; have HO384 := n2_; have HB := n3_; clear n0_ n1_ n2_ n3_; clear hb ho20; obtain ⟨Ao21, co21, eo21⟩ := Kd.N_slice HO384.out; subst eo21) | ((with_reducible refine gate_callee (f := 100) rfl ?_); refine goesL_ (some 17) rfl rfl Tryz.func100 Z6 rfl #[.slice A0 l0.length c0, .slice Ao21 y382.length co21] rfl Z1 ?_; (with_reducible refine (interval_sizes.calls k _ _ l0 _ _ y382 t385 _ ?side1 ?side2 ?side3 ?side4 ?side5 A4.out).mono ?_); (case side1 => exact Z4); (case side2 => exact Z58); (case side3 => exact Z113); (case side4 => exact Z174); (case side5 => exact Z183); rintro e w22 ⟨v386, rfl, ho0, hb⟩; refine ⟨_, rfl, ?_⟩; have n0_ := AS (Kd.V_elder' Z11 (Kd.N_base (Kd.S_N ho0)) hb); have n1_ := AS (Kd.V_elder' Z19 (Kd.N_base (Kd.S_N ho0)) hb); have n2_ := AS (Kd.N_elder' Z62 (Kd.N_base (Kd.S_N ho0)) hb); have n3_ := AS (Kd.N_lower (Kd.N_mono (ok' := fun k_ => ((P1_ k_ ∨ P2_ k_) ∨ w.heap.size ≤ k_) ∧ some k_ ≠ (.slice Ao21 y382.length co21 : Value).ownBlock) (Kd.S_N (Kd.S_bound ho0)) (fun k_ hk_ => ⟨(.inr (Nat.le_trans (below_size Z0) hk_.2.1)), (Kd.fresh' (Kd.N_lt Z62) k_ hk_.2.1)⟩)) (below_size Z0)); have n4_ := AS (below_step Z0 hb); clear HO1; clear HO2; clear HO384; clear HB; have HO1 := n0_; have HO2 := n1_; have HO384 := n2_; have HO387 := n3_; have HB := n4_; clear n0_ n1_ n2_ n3_ n4_; (try clear hb); (try clear hb2); (try clear hk); (try clear hi); (try clear ho0)))
     have n0_ := AS (Kd.V_drew HO1.out)
     have n1_ := AS (Kd.V_drew HO2.out)
     have n2_ := AS (Kd.N_drew HO384.out)
     have n3_ := AS (Kd.N_drew HO387.out)
     have n4_ := AS (below_drew1 HB.out)
     clear HO1
     clear HO2
     clear HO384
     clear HO387
     clear HB
     have HO1 := n0_
     have HO2 := n1_
     have HO384 := n2_
     have HO387 := n3_
     have HB := n4_
     clear n0_ n1_ n2_ n3_ n4_
     obtain ⟨Ao24, co24, eo24⟩ := Kd.N_slice HO387.out
     (first | subst eo24 | (injection eo24 with f1_ f2_ f3_; have f4_ := f1_.symm; have f5_ := f3_.symm; clear f1_ f2_ f3_; subst f4_; subst f5_))
     have p388 : 0 ≤ (0 : Int) := (by omega)
     have q388 : 0 < (t385.length : Int) := of_decide_eq_true Z3
     obtain ⟨ad388, A388_0, c388_0, e388, hx388_0, hl388_0, hi388_0⟩ := at_L8 (Kd.N_reads' HO387.out).2.2 0 p388 q388
     cases e388
     obtain ⟨ce388, hce388, hMe388, hcc388⟩ := Kd.N_get HO387.out [] 0 p388 Z201
     obtain ⟨ua388_0, uc388_0, rfl, ul388_0, ge388_0⟩ := Kd.FK_slice_open hMe388
     have hv388_0 := hcc388 0 _ rfl
     rw [Nat.add_zero, show ((Kd.slice 53 k53)).sz = 1 from rfl, Nat.mul_one] at hv388_0
     replace hv388_0 := Option.some.inj (hv388_0.symm.trans hx388_0)
     injection hv388_0 with hva_ hvn_ hvc_
     rw [hva_] at ge388_0
     rw [hvc_] at ul388_0
     have HL388_0 := AS (show Kd.V k53 53 _ w.heap.size _ _ (rd_L8 t385 0) from Kd.V_mk ul388_0 ge388_0)
     clear hva_ hvn_ hvc_ ge388_0 ul388_0
     clear hcc388 hce388
     have qi388 : (0 < t385.length) = True := eq_true (by omega)
     (try rw [show ((0 : Int)).toNat = 0 from rfl] at hx388_0)
     (try rw [Addr.add_zero'] at hx388_0)
     have HR388_0 := AS hi388_0
     have HC388_0 := AS hl388_0
     clear hi388_0 hl388_0
     replace p388 := eq_true p388
     replace q388 := eq_true q388
     have p389 : 0 ≤ (1 : Int) := (by omega)
     have q389 : 1 < (t385.length : Int) := of_decide_eq_true Z3
     obtain ⟨ad389, A389_0, c389_0, e389, hx389_0, hl389_0, hi389_0⟩ := at_L8 (Kd.N_reads' HO387.out).2.2 1 p389 q389
     obtain rfl : ad388 = ad389 := (by injection e389)
     obtain ⟨ce389, hce389, hMe389, hcc389⟩ := Kd.N_get HO387.out [] 1 p389 Z202
     obtain ⟨ua389_0, uc389_0, rfl, ul389_0, ge389_0⟩ := Kd.FK_slice_open hMe389
     have hv389_0 := hcc389 0 _ rfl
     rw [Nat.add_zero, show ((Kd.slice 53 k53)).sz = 1 from rfl, Nat.mul_one] at hv389_0
     replace hv389_0 := Option.some.inj (hv389_0.symm.trans hx389_0)
     injection hv389_0 with hva_ hvn_ hvc_
     rw [hva_] at ge389_0
     rw [hvc_] at ul389_0
     have HL389_0 := AS (show Kd.V k53 53 _ w.heap.size _ _ (rd_L8 t385 1) from Kd.V_mk ul389_0 ge389_0)
     clear hva_ hvn_ hvc_ ge389_0 ul389_0
     clear hcc389 hce389
     (try simp only [show (1 : Int).toNat = 1 from rfl, Nat.reduceMul, Nat.reduceEqDiff, Go.Addr.add, ↓reduceIte] at hx389_0)
     have qi389 : (1 < t385.length) = True := eq_true (by omega)
     (try rw [show ((1 : Int)).toNat = 1 from rfl] at hx389_0)
     have HR389_0 := AS hi389_0
     have HC389_0 := AS hl389_0
     clear hi389_0 hl389_0
     replace p389 := eq_true p389
     replace q389 := eq_true q389
     refine start_ (n := 13) (S := fun w' => w'.cell? ad388 = some (.slice A388_0 (rd_L8 t385 0).length c388_0) ∧ w'.cell? ⟨ad388.block, ad388.off + 1, none⟩ = some (.slice A389_0 (rd_L8 t385 1).length c389_0)) (ds := []) #[false, false, false, false, false, false, false, false, false, false, false, false, false] Z6 rfl rfl ⟨hx388_0, hx389_0⟩ (fun hHeld => ?_); refine with_tabW interval_floor.tab2 interval_floor.bits2 (fun HT_ HW_ => ?_)
     generalize w22.drew = w23 at HO1 HO2 HO384 HO387 HB HL388_0 HL389_0 HR388_0 HR389_0 hx388_0 hx389_0 hHeld ⊢
     refine pure_ (i := 0) (N := some 19) (v := ?_) (a' := ?_) #[true, false, false, false, false, false, false, false, false, false, false, false, false] rfl rfl (any_of HT_.out Z6) (fun _ _ _ h => h) (Or.inl ⟨by rfl, ?_⟩) ?_ ?_
     rotate_left
     ·intro w'
      go_simp
      with_reducible rfl
     rotate_left
     ·simp only [Act.put, List.setIfInBounds_toArray, List.set_cons_zero, List.set_cons_succ, i64_w, i32_w]
      rfl
     refine pure_ (i := 1) (N := some 20) (v := ?_) (a' := ?_) #[true, true, false, false, false, false, false, false, false, false, false, false, false] rfl rfl (any_of HT_.out Z6) (fun _ _ _ h => h) (Or.inl ⟨by rfl, ?_⟩) ?_ ?_
     rotate_left
     ·intro w'
      go_simp
      with_reducible rfl
     rotate_left
     ·simp only [Act.put, List.setIfInBounds_toArray, List.set_cons_zero, List.set_cons_succ, i64_w, i32_w]
      rfl
     refine pure_ (i := 2) (N := some 21) (v := ?_) (a' := ?_) #[true, true, true, false, false, false, false, false, false, false, false, false, false] rfl rfl (any_of HT_.out Z6) (fun _ _ _ h => h) (Or.inl ⟨by rfl, ?_⟩) ?_ ?_
     rotate_left
     ·intro w'
      go_simp
      with_reducible rfl
     rotate_left
     ·simp only [Act.put, List.setIfInBounds_toArray, List.set_cons_zero, List.set_cons_succ, i64_w, i32_w]
      rfl
     refine pure_ (i := 4) (N := some 23) (v := ?_) (a' := ?_) #[true, true, true, false, true, false, false, false, false, false, false, false, false] rfl rfl (any_of HT_.out Z6) (fun _ _ _ h => h) (Or.inl ⟨by rfl, ?_⟩) ?_ ?_
     rotate_left
     ·intro w'
      go_simp
      with_reducible rfl
     rotate_left
     ·simp only [Act.put, List.setIfInBounds_toArray, List.set_cons_zero, List.set_cons_succ, i64_w, i32_w]
      rfl
     refine pure_ (i := 5) (N := some 24) (v := ?_) (a' := ?_) #[true, true, true, false, true, true, false, false, false, false, false, false, false] rfl rfl (any_of HT_.out Z6) (fun _ _ _ h => h) (Or.inl ⟨by rfl, ?_⟩) ?_ ?_
     rotate_left
     ·intro w'
      go_simp
      with_reducible rfl
     rotate_left
     ·simp only [Act.put, List.setIfInBounds_toArray, List.set_cons_zero, List.set_cons_succ, i64_w, i32_w]
      rfl
     refine take_ (i := 3) (N := some 22) (v := ?_) (a' := ?_) #[true, true, true, true, true, true, false, false, false, false, false, false, false] rfl rfl (take_ofW HT_.out HW_.out Z6) (fun _ _ _ h => h) (Or.inl ⟨by rfl, ?_⟩) hHeld ?_ ?_
     rotate_left
     ·rintro w' ⟨s0, s1⟩
      go_simp
      with_reducible rfl
     rotate_left
     ·simp only [Act.put, List.setIfInBounds_toArray, List.set_cons_zero, List.set_cons_succ, i64_w, i32_w]
      rfl
     refine take_ (i := 6) (N := some 25) (v := ?_) (a' := ?_) #[true, true, true, true, true, true, true, false, false, false, false, false, false] rfl rfl (take_ofW HT_.out HW_.out Z6) (fun _ _ _ h => h) (Or.inl ⟨by rfl, ?_⟩) hHeld ?_ ?_
     rotate_left
     ·rintro w' ⟨s0, s1⟩
      go_simp
      with_reducible rfl
     rotate_left
     ·simp only [Act.put, List.setIfInBounds_toArray, List.set_cons_zero, List.set_cons_succ, i64_w, i32_w]
      rfl
     refine one_ (i := 7) (N := some 26) #[true, true, true, true, true, true, true, true, false, false, false, false, false] rfl rfl (one_of HT_.out Z6) (by decide) (fun K hK => ?_)
     refine goes_ Tryz.func101 Z6 rfl #[.slice A0 l0.length c0, .slice A388_0 (rd_L8 t385 0).length c388_0, .slice A389_0 (rd_L8 t385 1).length c389_0] (by rfl) rfl rfl Z1 ?_
     with_reducible refine (size_Floor.calls k _ _ l0 _ _ (rd_L8 t385 0) _ _ (rd_L8 t385 1) t390 t391 _ ?side1 ?side2 ?side3 ?side4 ?side5 ?side6 ?side7 A7.out).mono ?_
     (case side1 => exact Z4)
     (case side2 => exact Z58)
     (case side3 => exact Z192)
     (case side4 => exact HC388_0.out)
     (case side5 => exact Z193)
     (case side6 => exact HC389_0.out)
     (case side7 => exact Z183)
     rintro e w25 ⟨rfl, hb⟩
     have HS0_ := (hb.cell (World.block_lt_of_cell? _ _ (hHeld.1))).trans (hHeld.1)
     have HS1_ := (hb.cell (World.block_lt_of_cell? _ _ (hHeld.2))).trans (hHeld.2)
     refine ⟨_, rfl, ?_⟩
     have n0_ := AS (Kd.V_below Z11 hb)
     have n1_ := AS (Kd.V_below Z19 hb)
     have n2_ := AS (Kd.N_below Z62 hb)
     have n3_ := AS (Kd.N_below Z109 hb)
     have n4_ := AS (Kd.V_below Z104 hb)
     have n5_ := AS (Kd.V_below Z105 hb)
     have n6_ := AS (Kd.C_below Z43 hb)
     have n7_ := AS (Kd.C_below Z44 hb)
     have n8_ := AS (below_step Z0 hb)
     clear HO1
     clear HO2
     clear HO384
     clear HO387
     clear HL388_0
     clear HL389_0
     clear HR388_0
     clear HR389_0
     clear HB
     have HO1 := n0_
     have HO2 := n1_
     have HO384 := n2_
     have HO387 := n3_
     have HL388_0 := n4_
     have HL389_0 := n5_
     have HR388_0 := n6_
     have HR389_0 := n7_
     have HB := n8_
     clear n0_ n1_ n2_ n3_ n4_ n5_ n6_ n7_ n8_
     (try clear hb)
     (try clear hb2)
     (try clear hk)
     (try clear hi)
     refine hK.out _ _ ⟨HS0_, HS1_⟩ (fun hHeld => ?_)
     clear hK K
     refine norm_ (a' := ?_) ?_ ?_
     rotate_left
     ·show Act.put _ (some 26) _ = _
      simp only [Act.put, List.setIfInBounds_toArray, List.set_cons_zero, List.set_cons_succ, i64_w, i32_w]
      rfl
     refine pure_ (i := 8) (N := some 18) (v := ?_) (a' := ?_) #[true, true, true, true, true, true, true, true, true, false, false, false, false] rfl rfl (any_of HT_.out Z6) (fun _ _ _ h => h) (Or.inl ⟨by rfl, ?_⟩) ?_ ?_
     rotate_left
     ·intro w'
      go_simp
      with_reducible rfl
     rotate_left
     ·simp only [Act.put, List.setIfInBounds_toArray, List.set_cons_zero, List.set_cons_succ, i64_w, i32_w]
      rfl
     refine pure_ (i := 9) (N := some 27) (v := ?_) (a' := ?_) #[true, true, true, true, true, true, true, true, true, true, false, false, false] rfl rfl (any_of HT_.out Z6) (fun _ _ _ h => h) (Or.inl ⟨by rfl, ?_⟩) ?_ ?_
     rotate_left
     ·intro w'
      go_simp
      with_reducible rfl
     rotate_left
     ·simp only [Act.put, List.setIfInBounds_toArray, List.set_cons_zero, List.set_cons_succ, i64_w, i32_w]
      rfl
     refine pure_ (i := 10) (N := some 28) (v := ?_) (a' := ?_) #[true, true, true, true, true, true, true, true, true, true, true, false, false] rfl rfl (any_of HT_.out Z6) (fun _ _ _ h => h) (Or.inl ⟨by rfl, ?_⟩) ?_ ?_
     rotate_left
     ·intro w'
      go_simp
      with_reducible rfl
     rotate_left
     ·simp only [Act.put, List.setIfInBounds_toArray, List.set_cons_zero, List.set_cons_succ, i64_w, i32_w]
      rfl
     refine pure_ (i := 11) (N := some 9) (v := ?_) (a' := ?_) #[true, true, true, true, true, true, true, true, true, true, true, true, false] rfl rfl (any_of HT_.out Z6) (fun _ _ _ h => h) (Or.inl ⟨by rfl, ?_⟩) ?_ ?_
     rotate_left
     ·intro w'
      go_simp
      with_reducible rfl
     rotate_left
     ·simp only [Act.put, List.setIfInBounds_toArray, List.set_cons_zero, List.set_cons_succ, i64_w, i32_w]
      rfl
     refine pure_ (i := 12) (N := some 10) (v := ?_) (a' := ?_) #[true, true, true, true, true, true, true, true, true, true, true, true, true] rfl rfl (any_of HT_.out Z6) (fun _ _ _ h => h) (Or.inl ⟨by rfl, ?_⟩) ?_ ?_
     rotate_left
     ·intro w'
      go_simp
      with_reducible rfl
     rotate_left
     ·simp only [Act.put, List.setIfInBounds_toArray, List.set_cons_zero, List.set_cons_succ, i64_w, i32_w]
      rfl
     refine done_ (done_of HT_.out Z6) ?_
     try go_wp2_with (first | ((with_reducible refine gate_callee (f := 102) rfl ?_); refine goesL_ (some 34) rfl rfl Tryz.func102 Z6 rfl #[.string t390] rfl Z1 ?_; (with_reducible refine (whole_Small.calls t390 t392 false _ ?side1 A9.out).mono ?_); (case side1 => exact Z183); rintro e w26 ⟨rfl, hb⟩; refine ⟨_, rfl, ?_⟩; have n0_ := AS (Kd.V_below Z11 hb); have n1_ := AS (Kd.V_below Z19 hb); have n2_ := AS (Kd.N_below Z62 hb); have n3_ := AS (Kd.N_below Z109 hb); have n4_ := AS (Kd.V_below Z104 hb); have n5_ := AS (Kd.V_below Z105 hb); have n6_ := AS (Kd.C_below Z43 hb); have n7_ := AS (Kd.C_below Z44 hb); have n8_ := AS (below_step Z0 hb); clear HO1; clear HO2; clear HO384; clear HO387; clear HL388_0; clear HL389_0; clear HR388_0; clear HR389_0; clear HB; have HO1 := n0_; have HO2 := n1_; have HO384 := n2_; have HO387 := n3_; have HL388_0 := n4_; have HL389_0 := n5_; have HR388_0 := n6_; have HR389_0 := n7_; have HB := n8_; clear n0_ n1_ n2_ n3_ n4_ n5_ n6_ n7_ n8_; (try clear hb); (try clear hb2); (try clear hk); (try clear hi)))
     go_ret2
     exact ⟨Z2, Z0⟩
   ·rw [if_neg c8] at H
    have c8b0 : (t391 == 0) = false := beq_eq_false_iff_ne.mpr c8
    have c8b1 : (t391 != 0) = true := bne_iff_ne.mpr c8
    simp only [Option.some.injEq, Prod.mk.injEq] at H
    obtain ⟨rfl, rfl⟩ := H
    go_enter Tryz.func72, Tryz.ntmps72
    try go_wp2_with (first | ((with_reducible refine gate_dst (N := 16) rfl ?_); refine Kd.N_lit (Kd.slice 3 (Kd.int .i64)) _ 28 ?hg (N' := 16) ?hd (xs := ([l1, l2] : List (List Int))) (inner := [.slice A1 l1.length c1, .slice A2 l2.length c2]) (ok := (fun k_ => ((P1_ k_ ∨ P2_ k_) ∨ w.heap.size ≤ k_))) (okp := (fun k_ => ((P1_ k_ ∨ P2_ k_) ∨ w.heap.size ≤ k_))) ?hr ?hp (fun _ hk => hk) ((show ∀ k_, w.heap.size ≤ k_ → (fun k_ => ((P1_ k_ ∨ P2_ k_) ∨ w.heap.size ≤ k_)) k_ from fun k_ hk => (.inr (Nat.le_trans (below_size Z0) hk))) _ (Nat.le_refl _)) (Below.refl _ _) (Nat.le_refl _) (by simp) ?_; (case hd => rfl); (case hg => rfl); (case hr => exact Z13); (case hp => exact Z14); intro v383 w27 ho28 hb hg_ hnew_; clear hg_ hnew_; (first | rw [← Ny382.out] at ho28 | (simp only [Int.reduceToNat] at ho28; rw [← Ny382.out] at ho28)); have n0_ := AS (Kd.V_elder' Z11 (Kd.N_base ho28) hb); have n1_ := AS (Kd.V_elder' Z19 (Kd.N_base ho28) hb); have n2_ := AS (Kd.N_lower ho28 (below_size Z0)); have n3_ := AS (below_step Z0 hb); clear HO1; clear HO2; clear HB; have HO1 := n0_; have HO2 := n1_; have HO384 := n2_; have HB := n3_; clear n0_ n1_ n2_ n3_; clear hb ho28; obtain ⟨Ao29, co29, eo29⟩ := Kd.N_slice HO384.out; subst eo29) | ((with_reducible refine gate_callee (f := 100) rfl ?_); refine goesL_ (some 17) rfl rfl Tryz.func100 Z6 rfl #[.slice A0 l0.length c0, .slice Ao29 y382.length co29] rfl Z1 ?_; (with_reducible refine (interval_sizes.calls k _ _ l0 _ _ y382 t385 _ ?side1 ?side2 ?side3 ?side4 ?side5 A4.out).mono ?_); (case side1 => exact Z4); (case side2 => exact Z58); (case side3 => exact Z113); (case side4 => exact Z174); (case side5 => exact Z183); rintro e w30 ⟨v386, rfl, ho0, hb⟩; refine ⟨_, rfl, ?_⟩; have n0_ := AS (Kd.V_elder' Z11 (Kd.N_base (Kd.S_N ho0)) hb); have n1_ := AS (Kd.V_elder' Z19 (Kd.N_base (Kd.S_N ho0)) hb); have n2_ := AS (Kd.N_elder' Z62 (Kd.N_base (Kd.S_N ho0)) hb); have n3_ := AS (Kd.N_lower (Kd.N_mono (ok' := fun k_ => ((P1_ k_ ∨ P2_ k_) ∨ w.heap.size ≤ k_) ∧ some k_ ≠ (.slice Ao29 y382.length co29 : Value).ownBlock) (Kd.S_N (Kd.S_bound ho0)) (fun k_ hk_ => ⟨(.inr (Nat.le_trans (below_size Z0) hk_.2.1)), (Kd.fresh' (Kd.N_lt Z62) k_ hk_.2.1)⟩)) (below_size Z0)); have n4_ := AS (below_step Z0 hb); clear HO1; clear HO2; clear HO384; clear HB; have HO1 := n0_; have HO2 := n1_; have HO384 := n2_; have HO387 := n3_; have HB := n4_; clear n0_ n1_ n2_ n3_ n4_; (try clear hb); (try clear hb2); (try clear hk); (try clear hi); (try clear ho0)))
    have n0_ := AS (Kd.V_drew HO1.out)
    have n1_ := AS (Kd.V_drew HO2.out)
    have n2_ := AS (Kd.N_drew HO384.out)
    have n3_ := AS (Kd.N_drew HO387.out)
    have n4_ := AS (below_drew1 HB.out)
    clear HO1
    clear HO2
    clear HO384
    clear HO387
    clear HB
    have HO1 := n0_
    have HO2 := n1_
    have HO384 := n2_
    have HO387 := n3_
    have HB := n4_
    clear n0_ n1_ n2_ n3_ n4_
    obtain ⟨Ao32, co32, eo32⟩ := Kd.N_slice HO387.out
    (first | subst eo32 | (injection eo32 with f1_ f2_ f3_; have f4_ := f1_.symm; have f5_ := f3_.symm; clear f1_ f2_ f3_; subst f4_; subst f5_))
    have p388 : 0 ≤ (0 : Int) := (by omega)
    have q388 : 0 < (t385.length : Int) := of_decide_eq_true Z3
    obtain ⟨ad388, A388_0, c388_0, e388, hx388_0, hl388_0, hi388_0⟩ := at_L8 (Kd.N_reads' HO387.out).2.2 0 p388 q388
    cases e388
    obtain ⟨ce388, hce388, hMe388, hcc388⟩ := Kd.N_get HO387.out [] 0 p388 Z201
    obtain ⟨ua388_0, uc388_0, rfl, ul388_0, ge388_0⟩ := Kd.FK_slice_open hMe388
    have hv388_0 := hcc388 0 _ rfl
    rw [Nat.add_zero, show ((Kd.slice 53 k53)).sz = 1 from rfl, Nat.mul_one] at hv388_0
    replace hv388_0 := Option.some.inj (hv388_0.symm.trans hx388_0)
    injection hv388_0 with hva_ hvn_ hvc_
    rw [hva_] at ge388_0
    rw [hvc_] at ul388_0
    have HL388_0 := AS (show Kd.V k53 53 _ w.heap.size _ _ (rd_L8 t385 0) from Kd.V_mk ul388_0 ge388_0)
    clear hva_ hvn_ hvc_ ge388_0 ul388_0
    clear hcc388 hce388
    have qi388 : (0 < t385.length) = True := eq_true (by omega)
    (try rw [show ((0 : Int)).toNat = 0 from rfl] at hx388_0)
    (try rw [Addr.add_zero'] at hx388_0)
    have HR388_0 := AS hi388_0
    have HC388_0 := AS hl388_0
    clear hi388_0 hl388_0
    replace p388 := eq_true p388
    replace q388 := eq_true q388
    have p389 : 0 ≤ (1 : Int) := (by omega)
    have q389 : 1 < (t385.length : Int) := of_decide_eq_true Z3
    obtain ⟨ad389, A389_0, c389_0, e389, hx389_0, hl389_0, hi389_0⟩ := at_L8 (Kd.N_reads' HO387.out).2.2 1 p389 q389
    obtain rfl : ad388 = ad389 := (by injection e389)
    obtain ⟨ce389, hce389, hMe389, hcc389⟩ := Kd.N_get HO387.out [] 1 p389 Z202
    obtain ⟨ua389_0, uc389_0, rfl, ul389_0, ge389_0⟩ := Kd.FK_slice_open hMe389
    have hv389_0 := hcc389 0 _ rfl
    rw [Nat.add_zero, show ((Kd.slice 53 k53)).sz = 1 from rfl, Nat.mul_one] at hv389_0
    replace hv389_0 := Option.some.inj (hv389_0.symm.trans hx389_0)
    injection hv389_0 with hva_ hvn_ hvc_
    rw [hva_] at ge389_0
    rw [hvc_] at ul389_0
    have HL389_0 := AS (show Kd.V k53 53 _ w.heap.size _ _ (rd_L8 t385 1) from Kd.V_mk ul389_0 ge389_0)
    clear hva_ hvn_ hvc_ ge389_0 ul389_0
    clear hcc389 hce389
    (try simp only [show (1 : Int).toNat = 1 from rfl, Nat.reduceMul, Nat.reduceEqDiff, Go.Addr.add, ↓reduceIte] at hx389_0)
    have qi389 : (1 < t385.length) = True := eq_true (by omega)
    (try rw [show ((1 : Int)).toNat = 1 from rfl] at hx389_0)
    have HR389_0 := AS hi389_0
    have HC389_0 := AS hl389_0
    clear hi389_0 hl389_0
    replace p389 := eq_true p389
    replace q389 := eq_true q389
    refine start_ (n := 13) (S := fun w' => w'.cell? ad388 = some (.slice A388_0 (rd_L8 t385 0).length c388_0) ∧ w'.cell? ⟨ad388.block, ad388.off + 1, none⟩ = some (.slice A389_0 (rd_L8 t385 1).length c389_0)) (ds := []) #[false, false, false, false, false, false, false, false, false, false, false, false, false] Z6 rfl rfl ⟨hx388_0, hx389_0⟩ (fun hHeld => ?_); refine with_tabW interval_floor.tab2 interval_floor.bits2 (fun HT_ HW_ => ?_)
    generalize w30.drew = w31 at HO1 HO2 HO384 HO387 HB HL388_0 HL389_0 HR388_0 HR389_0 hx388_0 hx389_0 hHeld ⊢
    refine pure_ (i := 0) (N := some 19) (v := ?_) (a' := ?_) #[true, false, false, false, false, false, false, false, false, false, false, false, false] rfl rfl (any_of HT_.out Z6) (fun _ _ _ h => h) (Or.inl ⟨by rfl, ?_⟩) ?_ ?_
    rotate_left
    ·intro w'
     go_simp
     with_reducible rfl
    rotate_left
    ·simp only [Act.put, List.setIfInBounds_toArray, List.set_cons_zero, List.set_cons_succ, i64_w, i32_w]
     rfl
    refine pure_ (i := 1) (N := some 20) (v := ?_) (a' := ?_) #[true, true, false, false, false, false, false, false, false, false, false, false, false] rfl rfl (any_of HT_.out Z6) (fun _ _ _ h => h) (Or.inl ⟨by rfl, ?_⟩) ?_ ?_
    rotate_left
    ·intro w'
     go_simp
     with_reducible rfl
    rotate_left
    ·simp only [Act.put, List.setIfInBounds_toArray, List.set_cons_zero, List.set_cons_succ, i64_w, i32_w]
     rfl
    refine pure_ (i := 2) (N := some 21) (v := ?_) (a' := ?_) #[true, true, true, false, false, false, false, false, false, false, false, false, false] rfl rfl (any_of HT_.out Z6) (fun _ _ _ h => h) (Or.inl ⟨by rfl, ?_⟩) ?_ ?_
    rotate_left
    ·intro w'
     go_simp
     with_reducible rfl
    rotate_left
    ·simp only [Act.put, List.setIfInBounds_toArray, List.set_cons_zero, List.set_cons_succ, i64_w, i32_w]
     rfl
    refine pure_ (i := 4) (N := some 23) (v := ?_) (a' := ?_) #[true, true, true, false, true, false, false, false, false, false, false, false, false] rfl rfl (any_of HT_.out Z6) (fun _ _ _ h => h) (Or.inl ⟨by rfl, ?_⟩) ?_ ?_
    rotate_left
    ·intro w'
     go_simp
     with_reducible rfl
    rotate_left
    ·simp only [Act.put, List.setIfInBounds_toArray, List.set_cons_zero, List.set_cons_succ, i64_w, i32_w]
     rfl
    refine pure_ (i := 5) (N := some 24) (v := ?_) (a' := ?_) #[true, true, true, false, true, true, false, false, false, false, false, false, false] rfl rfl (any_of HT_.out Z6) (fun _ _ _ h => h) (Or.inl ⟨by rfl, ?_⟩) ?_ ?_
    rotate_left
    ·intro w'
     go_simp
     with_reducible rfl
    rotate_left
    ·simp only [Act.put, List.setIfInBounds_toArray, List.set_cons_zero, List.set_cons_succ, i64_w, i32_w]
     rfl
    refine take_ (i := 3) (N := some 22) (v := ?_) (a' := ?_) #[true, true, true, true, true, true, false, false, false, false, false, false, false] rfl rfl (take_ofW HT_.out HW_.out Z6) (fun _ _ _ h => h) (Or.inl ⟨by rfl, ?_⟩) hHeld ?_ ?_
    rotate_left
    ·rintro w' ⟨s0, s1⟩
     go_simp
     with_reducible rfl
    rotate_left
    ·simp only [Act.put, List.setIfInBounds_toArray, List.set_cons_zero, List.set_cons_succ, i64_w, i32_w]
     rfl
    refine take_ (i := 6) (N := some 25) (v := ?_) (a' := ?_) #[true, true, true, true, true, true, true, false, false, false, false, false, false] rfl rfl (take_ofW HT_.out HW_.out Z6) (fun _ _ _ h => h) (Or.inl ⟨by rfl, ?_⟩) hHeld ?_ ?_
    rotate_left
    ·rintro w' ⟨s0, s1⟩
     go_simp
     with_reducible rfl
    rotate_left
    ·simp only [Act.put, List.setIfInBounds_toArray, List.set_cons_zero, List.set_cons_succ, i64_w, i32_w]
     rfl
    refine one_ (i := 7) (N := some 26) #[true, true, true, true, true, true, true, true, false, false, false, false, false] rfl rfl (one_of HT_.out Z6) (by decide) (fun K hK => ?_)
    refine goes_ Tryz.func101 Z6 rfl #[.slice A0 l0.length c0, .slice A388_0 (rd_L8 t385 0).length c388_0, .slice A389_0 (rd_L8 t385 1).length c389_0] (by rfl) rfl rfl Z1 ?_
    with_reducible refine (size_Floor.calls k _ _ l0 _ _ (rd_L8 t385 0) _ _ (rd_L8 t385 1) t390 t391 _ ?side1 ?side2 ?side3 ?side4 ?side5 ?side6 ?side7 A7.out).mono ?_
    (case side1 => exact Z4)
    (case side2 => exact Z58)
    (case side3 => exact Z192)
    (case side4 => exact HC388_0.out)
    (case side5 => exact Z193)
    (case side6 => exact HC389_0.out)
    (case side7 => exact Z183)
    rintro e w33 ⟨rfl, hb⟩
    have HS0_ := (hb.cell (World.block_lt_of_cell? _ _ (hHeld.1))).trans (hHeld.1)
    have HS1_ := (hb.cell (World.block_lt_of_cell? _ _ (hHeld.2))).trans (hHeld.2)
    refine ⟨_, rfl, ?_⟩
    have n0_ := AS (Kd.V_below Z11 hb)
    have n1_ := AS (Kd.V_below Z19 hb)
    have n2_ := AS (Kd.N_below Z62 hb)
    have n3_ := AS (Kd.N_below Z109 hb)
    have n4_ := AS (Kd.V_below Z104 hb)
    have n5_ := AS (Kd.V_below Z105 hb)
    have n6_ := AS (Kd.C_below Z43 hb)
    have n7_ := AS (Kd.C_below Z44 hb)
    have n8_ := AS (below_step Z0 hb)
    clear HO1
    clear HO2
    clear HO384
    clear HO387
    clear HL388_0
    clear HL389_0
    clear HR388_0
    clear HR389_0
    clear HB
    have HO1 := n0_
    have HO2 := n1_
    have HO384 := n2_
    have HO387 := n3_
    have HL388_0 := n4_
    have HL389_0 := n5_
    have HR388_0 := n6_
    have HR389_0 := n7_
    have HB := n8_
    clear n0_ n1_ n2_ n3_ n4_ n5_ n6_ n7_ n8_
    (try clear hb)
    (try clear hb2)
    (try clear hk)
    (try clear hi)
    refine hK.out _ _ ⟨HS0_, HS1_⟩ (fun hHeld => ?_)
    clear hK K
    refine norm_ (a' := ?_) ?_ ?_
    rotate_left
    ·show Act.put _ (some 26) _ = _
     simp only [Act.put, List.setIfInBounds_toArray, List.set_cons_zero, List.set_cons_succ, i64_w, i32_w]
     rfl
    refine pure_ (i := 8) (N := some 18) (v := ?_) (a' := ?_) #[true, true, true, true, true, true, true, true, true, false, false, false, false] rfl rfl (any_of HT_.out Z6) (fun _ _ _ h => h) (Or.inl ⟨by rfl, ?_⟩) ?_ ?_
    rotate_left
    ·intro w'
     go_simp
     with_reducible rfl
    rotate_left
    ·simp only [Act.put, List.setIfInBounds_toArray, List.set_cons_zero, List.set_cons_succ, i64_w, i32_w]
     rfl
    refine pure_ (i := 9) (N := some 27) (v := ?_) (a' := ?_) #[true, true, true, true, true, true, true, true, true, true, false, false, false] rfl rfl (any_of HT_.out Z6) (fun _ _ _ h => h) (Or.inl ⟨by rfl, ?_⟩) ?_ ?_
    rotate_left
    ·intro w'
     go_simp
     with_reducible rfl
    rotate_left
    ·simp only [Act.put, List.setIfInBounds_toArray, List.set_cons_zero, List.set_cons_succ, i64_w, i32_w]
     rfl
    refine pure_ (i := 10) (N := some 28) (v := ?_) (a' := ?_) #[true, true, true, true, true, true, true, true, true, true, true, false, false] rfl rfl (any_of HT_.out Z6) (fun _ _ _ h => h) (Or.inl ⟨by rfl, ?_⟩) ?_ ?_
    rotate_left
    ·intro w'
     go_simp
     with_reducible rfl
    rotate_left
    ·simp only [Act.put, List.setIfInBounds_toArray, List.set_cons_zero, List.set_cons_succ, i64_w, i32_w]
     rfl
    refine pure_ (i := 11) (N := some 9) (v := ?_) (a' := ?_) #[true, true, true, true, true, true, true, true, true, true, true, true, false] rfl rfl (any_of HT_.out Z6) (fun _ _ _ h => h) (Or.inl ⟨by rfl, ?_⟩) ?_ ?_
    rotate_left
    ·intro w'
     go_simp
     with_reducible rfl
    rotate_left
    ·simp only [Act.put, List.setIfInBounds_toArray, List.set_cons_zero, List.set_cons_succ, i64_w, i32_w]
     rfl
    refine pure_ (i := 12) (N := some 10) (v := ?_) (a' := ?_) #[true, true, true, true, true, true, true, true, true, true, true, true, true] rfl rfl (any_of HT_.out Z6) (fun _ _ _ h => h) (Or.inl ⟨by rfl, ?_⟩) ?_ ?_
    rotate_left
    ·intro w'
     go_simp
     with_reducible rfl
    rotate_left
    ·simp only [Act.put, List.setIfInBounds_toArray, List.set_cons_zero, List.set_cons_succ, i64_w, i32_w]
     rfl
    refine done_ (done_of HT_.out Z6) ?_
    try go_wp2
    go_ret2
    exact ⟨Z2, Z0⟩
  ·rw [if_neg c6] at H
   exact absurd H (by simp)
 ·rw [if_neg c5] at H
  exact absurd H (by simp)
def interval_unit.f (l0 : List Int) : Option (List Int) := if 0 ≤ (l0.length : Int) then (if ((l0.length : Int) : Int).toNat ≤ 35184372088832 then ((some (List.replicate ((l0.length : Int) : Int).toNat 0 : List Int)).bind fun y394 => (if 0 < (y394.length : Int) then (some (y394.set (0 : Int).toNat 1)) else (none))) else (none)) else (none)
set_option maxHeartbeats 8000000 in
set_option maxRecDepth 100000 in
theorem interval_unit.calls (A0 : Option Addr) (c0 : Nat) (l0 : List Int) (r : List Int) (w : World) (hr0 : Kd.C (Kd.int .i64) w A0 l0.length l0) (hc0 : l0.length ≤ c0) (hG : GL w) (h : interval_unit.f l0 = some r) :
  Calls Tryz.prog 73 #[.slice A0 l0.length c0] w fun e w' => ∃ v0_ : Value, e = .returned (v0_) ∧ Kd.R (Kd.int .i64) 3 w' w.heap.size (fun _ => True) v0_ r ∧ Below w.heap.size w w' := by
 have HR0 := AS hr0
 have HC0 := AS hc0
 clear hr0 hc0
 have HB := AS (Below.refl w.heap.size w)
 have H : (if 0 ≤ (l0.length : Int) then (if ((l0.length : Int) : Int).toNat ≤ 35184372088832 then ((some (List.replicate ((l0.length : Int) : Int).toNat 0 : List Int)).bind fun y394 => (if 0 < (y394.length : Int) then (some (y394.set (0 : Int).toNat 1)) else (none))) else (none)) else (none)) = some r := h
 clear h
 by_cases c2 : 0 ≤ (l0.length : Int)
 ·rw [if_pos c2] at H
  have c2b0 := eq_true c2
  have c2b1 : decide (0 ≤ (l0.length : Int)) = true := decide_eq_true c2
  clear c2
  by_cases c3 : ((l0.length : Int) : Int).toNat ≤ 35184372088832
  ·rw [if_pos c3] at H
   have c3b0 := eq_true c3
   have c3b1 : decide (((l0.length : Int) : Int).toNat ≤ 35184372088832) = true := decide_eq_true c3
   clear c3
   obtain ⟨y394, hy394⟩ : ∃ y_ : List Int, y_ = (List.replicate ((l0.length : Int) : Int).toNat 0) := ⟨_, rfl⟩
   replace H : (if 0 < (y394.length : Int) then (some (y394.set (0 : Int).toNat 1)) else (none)) = some r := by first | (rw [hy394]; with_reducible exact H) | (have H2_ := (Option.bind_some _ _).symm.trans H; rw [hy394]; with_reducible exact H2_) | (have H2_ := (Option.bind_some _ _).symm.trans H; with_reducible exact H2_) | with_reducible exact H | (rw [hy394]; exact H) | exact H
   have Ny394 := AS hy394
   clear hy394
   by_cases c4 : 0 < (y394.length : Int)
   ·rw [if_pos c4] at H
    have c4b0 : decide (0 < (y394.length : Int)) = true := decide_eq_true c4
    have c4b1 : decide (0 < y394.length) = true := decide_eq_true (by omega)
    clear c4
    obtain ⟨y397, hy397⟩ : ∃ y_ : List Int, y_ = (y394.set (0 : Int).toNat 1) := ⟨_, rfl⟩
    replace H : (some y397) = some r := by first | (rw [hy397]; with_reducible exact H) | (have H2_ := (Option.bind_some _ _).symm.trans H; rw [hy397]; with_reducible exact H2_) | (have H2_ := (Option.bind_some _ _).symm.trans H; with_reducible exact H2_) | with_reducible exact H | (rw [hy397]; exact H) | exact H
    have Ny397 := AS hy397
    clear hy397
    obtain rfl := Option.some.inj H
    go_enter Tryz.func73, Tryz.ntmps73
    go_wp2_with (first | ((with_reducible refine gate_dst (N := 6) rfl ?_); refine Kd.R_make (Kd.int .i64) _ 3 rfl (N := 6) rfl 28 _ _ rfl (l0.length : Int) rfl rfl Tryz.underlying28 (.int .i64 0) 8 info3 rfl (by decide) (by omega) 0 (ok := fun _ => True) (okp := fun _ => True) rfl (fun _ hk => hk) trivial (of_decide_eq_true Z3) (Nat.le_trans (Nat.mul_le_mul_right _ (of_decide_eq_true Z3 : (l0.length : Int).toNat ≤ 35184372088832)) (by omega)) (Below.refl _ _) (Nat.le_refl _) ?_; intro v395 w6 ho7 hb hg_ hnew_; clear hg_ hnew_; (first | rw [← Ny394.out] at ho7 | (simp only [Int.reduceToNat] at ho7; rw [← Ny394.out] at ho7)); have n0_ := AS (Kd.R_lower ho7 (below_size Z0)); have n1_ := AS (below_step Z0 hb); clear HB; have HO396 := n0_; have HB := n1_; clear n0_ n1_; clear hb ho7; have p5 : 0 ≤ (0 : Int) := (by omega); have q5 : (0 : Int) < ((y394.length : Int) : Int) := of_decide_eq_true Z3; have qi5 : (0 < y394.length) = True := eq_true (by omega); obtain ⟨go5, co5, eo5, gb5, gl5, cl5, HG5⟩ := Kd.R_form HO396.out (by omega); (first | cases eo5 | (injection eo5 with ea_ en_ ec_; (first | subst ea_ | (injection ea_ with ea_; subst ea_)); subst ec_; clear en_)); have GB5 := AS gb5; have GG5 := AS HG5; clear gb5 gl5 HG5; obtain ⟨hx5_0, hf5_0⟩ := Kd.R_celln 0 HO396.out (0 : Int) p5 q5; (try rw [show ((0 : Int)).toNat = 0 from rfl] at hx5_0); (try simp only [Nat.reduceMul, Nat.zero_mul, Nat.zero_add, Nat.reduceAdd] at hx5_0); (try rw [show ((0 : Int)).toNat = 0 from rfl] at hf5_0); (try simp only [Nat.reduceMul, Nat.zero_mul, Nat.zero_add, Nat.reduceAdd] at hf5_0); replace p5 := eq_true p5; replace q5 := eq_true q5; obtain ⟨hy8_, hz8_⟩ := Kd.R_celln 0 HO396.out (0 : Int) (by omega) (of_decide_eq_true Z3); (try simp only [Int.reduceToNat, Int.toNat_zero, Int.toNat_ofNat, Nat.reduceMul, Nat.zero_mul, Nat.zero_add] at hy8_ hz8_); (try rw [show ((0 : Int)).toNat = 0 from rfl] at hy8_); (try rw [show ((0 : Int)).toNat = 0 from rfl] at hz8_); have HP8 := Kd.R_putg HO396.out (0 : Int) 1) | ((with_reducible refine gate_store (t := 3) (p := 8) rfl ?_); refine store_event (t := 3) (p := 8) (v := ?vo_w9) (w1 := (w6.setCell ⟨go5, (0 : Int).toNat, none⟩ (.int .i64 1))) ?hg ?ho ?hn ?hr ?_; (case ho => rfl); (case hg => rfl); (case hn => rfl); (case hr => exact Z13); intro w9 hw; have hg : w6.grownBy w9 (some go5) := (by rw [hw]; exact HP8.2); have hp_ : Kd.R (Kd.int .i64) 3 w9 w.heap.size (fun _ => True) (.slice (some ⟨go5, 0, none⟩) y394.length co5) y397 := (by rw [hw, Ny397.out]; exact HP8.1); clear HP8; have n0_ := AS (hp_); have n1_ := AS ((by rw [hw]; exact below_set (HB.out) GB5.out : Below w.heap.size w w9)); clear HO396; clear HB; have HO396 := n0_; have HB := n1_; clear n0_ n1_; clear hg hw hp_))
    go_ret
    exact ⟨_, Z2, by (with_reducible repeat (first | apply Kd.R_alloc | apply Kd.R_drewN | apply Kd.R_drew)); exact HO396.out, Z0⟩
   ·rw [if_neg c4] at H
    exact absurd H (by simp)
  ·rw [if_neg c3] at H
   exact absurd H (by simp)
 ·rw [if_neg c2] at H
  exact absurd H (by simp)
theorem reads_int_of_C {w : World} {A : Option Addr} {l : List Int} (h : Kd.C (Kd.int .i64) w A l.length l) : ReadsInt w .i64 A l.length l := by
 refine ⟨rfl, Kd.C_max h, fun hn => ?_⟩
 obtain ⟨ad, e, _⟩ := h.2.2 hn
 refine ⟨ad, e, fun j hj => ?_⟩
 obtain ⟨ad', e', hc⟩ := C_int_at h j hj
 rw [e] at e'
 cases e'
 exact hc
def api_Row_int_103.f (l0 : List Int) : Option (List Int) := if l0.length ≤ 1000000 then some l0 else none
set_option maxHeartbeats 4000000 in
set_option maxRecDepth 100000 in
theorem clone_walk (A0 : Option Addr) (c0 : Nat) (l0 : List Int) (w : World) (hl : l0.length ≤ 1000000) (hr0 : Kd.C (Kd.int .i64) w A0 l0.length l0) (hc0 : l0.length ≤ c0) :
  Calls Tryz.prog 103 #[.slice A0 l0.length c0] w fun e w' => ∃ v0_ : Value, e = .returned v0_ ∧ Kd.R (Kd.int .i64) 3 w' w.heap.size (fun _ => True) v0_ l0 ∧ Below w.heap.size w w' := by
 have HR := AS (reads_int_of_C hr0)
 have HC := AS hc0
 have HL := AS hl
 have hb := AS (Below.refl w.heap.size w)
 clear hc0
 cases A0 with
 | none =>
  have hn : l0 = [] := by
   rcases Nat.eq_zero_or_pos l0.length with h | h
   ·exact List.eq_nil_of_length_eq_zero h
   ·obtain ⟨ad, e, _⟩ := hr0.2.2 h
    cases e
  subst hn
  have e1 := fun W => Lib.run_eql_slice_nil (P := Tryz.prog) W 28 3 none 0 c0 0 0 Tryz.underlying28
  clear hr0 HR HL hl
  go_enter Tryz.func103, Tryz.ntmps103
  go_wp2
  go_ret
  exact ⟨_, rfl, Kd.R_nil _ _ _ _ _, hb.out⟩
 | some ad =>
  have e1 := fun W => Lib.run_eql_slice_nil (P := Tryz.prog) W 28 3 (some ad) l0.length c0 0 0 Tryz.underlying28
  clear hr0 hl
  go_enter Tryz.func103, Tryz.ntmps103
  go_wp2_with (at_builtin; (refine print_append_row (w0 := w) w.heap.size rfl _ _ 28 3 .i64 8 rfl Tryz.underlying28 info3_row (by decide) (.slice (some ⟨w.heap.size, 0, none⟩) 0 0) [] l0 (some ad) l0.length c0 rfl rfl (own_lit w w.heap.size 3 .i64 [] (Nat.le_refl _) (by decide)) (by have h := HR.out; exact h.below (below_alloc hb.out _)) (below_alloc hb.out _) (by simp) (by have := HL.out; simp only [List.length_nil]; omega) ?_); intro v1 w1 hown hB _ _; simp only [List.nil_append] at hown; have HO := AS hown; have HB := AS hB; clear hown hB)
  go_ret
  exact ⟨_, rfl, Kd.R_of_own HO.out (fun _ _ => trivial), HB.out⟩
theorem api_Row_int_103.calls (A0 : Option Addr) (c0 : Nat) (l0 : List Int) (r : List Int) (w : World) (hr0 : Kd.C (Kd.int .i64) w A0 l0.length l0) (hc0 : l0.length ≤ c0) (hG : GL w) (h : api_Row_int_103.f l0 = some r) :
  Calls Tryz.prog 103 #[.slice A0 l0.length c0] w fun e w' => ∃ v0_ : Value, e = .returned (v0_) ∧ Kd.R (Kd.int .i64) 3 w' w.heap.size (fun _ => True) v0_ r ∧ Below w.heap.size w w' := by
 unfold api_Row_int_103.f at h
 by_cases c : l0.length ≤ 1000000
 ·rw [if_pos c] at h
  obtain rfl := Option.some.inj h
  exact clone_walk A0 c0 l0 w c hr0 hc0
 ·rw [if_neg c] at h
  cases h
end Go.Proofs.YtkgkihichdcpmaaGreatDoor.H
