import Derived.Test.YtkgkihichdcpmaaGreatDoorC4
namespace Go.Proofs.YtkgkihichdcpmaaGreatDoor.H
open Go.RowKit Go.Proofs.YtkgkihichdcpmaaGreatDoorW.PrintWords Go.Proofs.YtkgkihichdcpmaaGreatDoorW.PrintLast Go.Proofs.YtkgkihichdcpmaaGreatDoorW.PrintMore
attribute [local go_sem] max2_int min2_int max_two min_two max_three min_three max_four min_four
set_option linter.unusedVariables false
set_option linter.unusedSimpArgs false
set_option maxHeartbeats 64000000
set_option maxRecDepth 100000
section
attribute [local go_sem high] eqA53
mutual
def szra.l0 : Nat → List (S53) → List (S53) → List (S53) → Int → Int → ByteArray → ByteArray → Option (ByteArray × ByteArray × Bool)
 | 0, _, _, _, _, _, _, _ => none
 | k + 1, x0, x1, x12, x13, x14, x325000, x325001 => if x14 < x13 then (if 0 ≤ x14 then (if x14 < (x12.length : Int) then (if ((rd_T53 x12 x14).f0).toList = ([48] : List UInt8) then (szra.l0 k x0 x1 x12 x13 (wrap64 (x14 + 1)) x325000 x325001) else (if x14 < (x0.length : Int) then ((fraction_Div.f k ((rd_T53 x0 x14).f0) ((rd_T53 x0 x14).f1) ((rd_T53 x12 x14).f0) ((rd_T53 x12 x14).f1)).bind fun bt328 => (szra.l0 k x0 x1 x12 x13 (wrap64 (x14 + 1)) bt328.1 bt328.2.1)) else (none))) else (none)) else (none)) else (szra.l1 k x0 x1 (x1.length : Int) 0 x325000 x325001)
def szra.l1 : Nat → List (S53) → List (S53) → Int → Int → ByteArray → ByteArray → Option (ByteArray × ByteArray × Bool)
 | 0, _, _, _, _, _, _ => none
 | k + 1, x0, x32, x33, x34, x325000, x325001 => if x34 < x33 then (if 0 ≤ x34 then (if x34 < (x32.length : Int) then ((fraction_Mul.f k x325000 x325001 ((rd_T53 x32 x34).f0) ((rd_T53 x32 x34).f1)).bind fun bt333 => (if x34 < (x0.length : Int) then (if (!(bt333.1.toList == (((rd_T53 x0 x34).f0).toList)) || (!(bt333.2.toList == (((rd_T53 x0 x34).f1).toList)))) = true then (some (x325000, x325001, false)) else (szra.l1 k x0 x32 x33 (wrap64 (x34 + 1)) x325000 x325001)) else (none))) else (none)) else (none)) else (some (x325000, x325001, true))
end
def szra.f (k : Nat) (l0 : List (S53)) (l1 : List (S53)) : Option (ByteArray × ByteArray × Bool) := (size_number.f 0).bind fun bt322 => (szra.l0 k l0 l1 l1 (l1.length : Int) 0 bt322.1 bt322.2)
def szra.T6 : Bool × List (List Nat × List Nat) := (true, [([], []), ([], []), ([0, 1], [0, 1]), ([2], [2]), ([], []), ([3, 4], [3, 4]), ([5], [5]), ([6], [6]), ([6], [6]), ([7, 5, 0, 1, 2, 3, 4, 5, 6, 7], [7])])
def szra.B6 : List Nat := [0, 0, 3, 7, 0, 31, 63, 127, 127, 255]
theorem szra.tab6 : rtab .any (opsOf Tryz.f150 6) = szra.T6 := by kernel_rfl
theorem szra.bits6 : waitsOk szra.T6.2 szra.B6 = true := by kernel_rfl
def szra.T11 : Bool × List (List Nat × List Nat) := (true, [([], []), ([], []), ([0, 1], [0, 1]), ([], []), ([], []), ([3, 4], [3, 4]), ([5], [5]), ([2, 6], [2, 6])])
def szra.B11 : List Nat := [0, 0, 3, 0, 0, 24, 56, 127]
theorem szra.tab11 : rtab .any (opsOf Tryz.f150 11) = szra.T11 := by kernel_rfl
theorem szra.bits11 : waitsOk szra.T11.2 szra.B11 = true := by kernel_rfl
theorem szra.calls (k : Nat) (A0 : Option Addr) (c0 : Nat) (l0 : List (S53)) (A1 : Option Addr) (c1 : Nat) (l1 : List (S53)) (r1 : ByteArray) (r2 : ByteArray) (r3 : Bool) (w : World) (hr0 : Kd.C k53 w A0 l0.length l0) (hc0 : l0.length ≤ c0) (hr1 : Kd.C k53 w A1 l1.length l1) (hc1 : l1.length ≤ c1) (hG : GL w) (h : szra.f k l0 l1 = some (r1, r2, r3)) :
  Calls Tryz.prog 150 #[.slice A0 l0.length c0, .slice A1 l1.length c1] w fun e w' => e = .returned (.tuple #[.agg #[.string r1, .string r2], .bool r3]) ∧ Below w.heap.size w w' := by
 have hu53 := Tryz.underlying53; have HR0 := AS hr0; have HC0 := AS hc0; clear hr0 hc0; have HR1 := AS hr1; have HC1 := AS hc1; clear hr1 hc1; have HB := AS (blr w); have H : ((size_number.f 0).bind fun bt322 => (szra.l0 k l0 l1 l1 (l1.length : Int) 0 bt322.1 bt322.2)) = some (r1, r2, r3) := h; clear h; replace H := bsm H; obtain ⟨⟨t322, t323⟩, A30, H⟩ := H; replace H : (szra.l0 k l0 l1 l1 (l1.length : Int) 0 t322 t323) = some (r1, r2, r3) := H; have A3 := AS A30; clear A30; have H' := AS H; clear H; go_enter Tryz.func150, Tryz.ntmps150; go_wp2_with (first | ((with_reducible refine gtd (N := 4) rfl ?_); refine bxe ?hg (N := 4) ?hd (cs := #[.string ⟨#[]⟩, .string ⟨#[]⟩]) (t := 53) ?hr ?_; (case hd => rfl); (case hg => rfl); (case hr => exact Z12); intro gb321 hg w4 hbox hb; have BK321 := AS (hbox); have GW321 := AS ((Z169 : w.heap.size ≤ gb321)); have GE321 := GW321; replace HB := AS (bst Z0 hb); clear hb hbox hg) | ((with_reducible refine gtc (f := 147) rfl ?_); refine gsL (some 11) rfl rfl Tryz.func147 Z6 rfl #[.int .i64 0] rfl Z1 ?_; (with_reducible refine (size_number.calls 0 t322 t323 _ ?side1 A3.out).mono ?_); (case side1 => exact GL.below hG Z64); rintro e w5 ⟨rfl, hb⟩; refine ⟨_, rfl, ?_⟩; replace BK321 := AS (bbl (g := gb321) (o := .cells #[.string ⟨#[]⟩, .string ⟨#[]⟩] 53 (0, 0)) Z17 hb); replace HB := AS (bst Z64 hb); (try clear hb)) | ((with_reducible refine gtd (N := 6) rfl ?_); refine bxe ?hg (N := 6) ?hd (cs := #[.string ⟨#[]⟩, .string ⟨#[]⟩]) (t := 53) ?hr ?_; (case hd => rfl); (case hg => rfl); (case hr => exact Z12); intro gb324 hg w6 hbox hb; have BK324 := AS (hbox); have GW324 := AS ((by rw [hg]; exact (bsz Z64) : w.heap.size ≤ gb324)); have GE324 := AS ((by rw [hg]; exact (bsz Z64) : w.heap.size ≤ gb324)); have NB321_324 := AS ((Z178 : gb321 ≠ gb324)); have NB324_321 := AS ((Z179 : gb324 ≠ gb321)); replace BK321 := AS (bbl (g := gb321) (o := .cells #[.string ⟨#[]⟩, .string ⟨#[]⟩] 53 (0, 0)) Z17 hb); replace HB := AS (bst Z64 hb); clear hb hbox hg; have hnb7 := NB324_321.out; have hnc7 := NB321_324.out; have hcz8_0 := bc0 BK324.out; have hcz8_1 := bc1 BK324.out; have hfz8_0 := bfz BK324.out 0; have hfz8_1 := bfz BK324.out 1))
 go_loopg [14] k (fun kq v14 w' => ∃ (x14_1 : Int) (x325000_1 : ByteArray) (x325001_1 : ByteArray), v14 = .int .i64 x14_1 ∧ Aside0 (szra.l0 kq l0 l1 l1 (l1.length : Int) x14_1 x325000_1 x325001_1 = some (r1, r2, r3)) ∧ Aside0 (kq ≤ k) ∧ Aside0 (w'.heap[gb321]? = some (.cells #[.string ⟨#[]⟩, .string ⟨#[]⟩] 53 (0, 0))) ∧ Aside0 (w'.heap[gb324]? = some (.cells #[.string x325000_1, .string x325001_1] 53 (0, 0))) ∧ Aside0 (Below w.heap.size w w'))
 case atStart => exact ⟨(0), (t322), (t323), Z4, H', ⟨Nat.le_refl _⟩, ⟨Z76⟩, ⟨by (with_reducible repeat (first | apply bdn | apply bdr | apply bal)); refine bpt (cs := #[.string t322, .string ⟨#[]⟩]) ?_ 1 _ rfl; (with_reducible repeat (first | apply bdn | apply bdr | apply bal)); refine bpt (cs := #[.string ⟨#[]⟩, .string ⟨#[]⟩]) ?_ 0 _ rfl; (with_reducible repeat (first | apply bdn | apply bdr | apply bal)); exact BK324.out⟩, ⟨Z10⟩⟩
 case round =>
  clear H'; (try clear c1); (try clear p2); (try clear c7); (try clear hcz8_0); (try clear hcz8_1); (try clear hfz8_0); (try clear hfz8_1); obtain ⟨x14_1, x325000_1, x325001_1, rfl, HA, HK1, BK321, BK324, HB⟩ := hrel
  cases gk with
  | zero => exact absurd HA.out (by simp [szra.l0])
  | succ k1 =>
   have H := HA.out; clear HA
   simp only [szra.l0] at H
   by_cases c9 : x14_1 < (l1.length : Int)
   ·rw [if_pos c9] at H
    have c9b0 : decide (x14_1 < (l1.length : Int)) = true := dqt c9; clear c9
    by_cases c10 : 0 ≤ x14_1
    ·rw [if_pos c10] at H
     have c10b0 : decide (0 ≤ x14_1) = true := dqt c10; clear c10
     by_cases c11 : x14_1 < (l1.length : Int)
     ·rw [if_pos c11] at H
      have c11b0 : decide (x14_1 < (l1.length : Int)) = true := dqt c11; clear c11
      by_cases c12 : ((rd_T53 l1 x14_1).f0).toList = ([48] : List UInt8)
      ·rw [if_pos c12] at H
       have c12b0 : (((rd_T53 l1 x14_1).f0).toList == ([48] : List UInt8)) = true := bqt c12; have c12b1 : (((rd_T53 l1 x14_1).f0).toList != ([48] : List UInt8)) = false := bnf c12; clear c12; have H' := AS H; clear H; have p325 : 0 ≤ (x14_1 : Int) := odt Z2; have q325 : x14_1 < (l1.length : Int) := odt Z2; obtain ⟨ad325, e325, hx325_0, hx325_1⟩ := at_T53 HR1.out x14_1 p325 q325; cases e325; replace hx325_0 := (HB.out.cell (wbl w _ hx325_0)).trans hx325_0; replace hx325_1 := (HB.out.cell (wbl w _ hx325_1)).trans hx325_1; replace p325 := eq_true p325; replace q325 := eq_true q325; go_wp2_with (first | ((with_reducible refine gtd (N := 8) rfl ?_); refine bxe ?hg (N := 8) ?hd (cs := #[.string ⟨#[]⟩, .string ⟨#[]⟩]) (t := 53) ?hr ?_; (case hd => rfl); (case hg => rfl); (case hr => exact Z12); intro gb326 hg w13 hbox hb; have BK326 := AS (hbox); have GW326 := AS ((Z184 : w.heap.size ≤ gb326)); have GE326 := GW326; have NB321_326 := AS ((Z178 : gb321 ≠ gb326)); have NB326_321 := AS ((Z179 : gb326 ≠ gb321)); have NB324_326 := AS ((Z174 : gb324 ≠ gb326)); have NB326_324 := AS ((Z175 : gb326 ≠ gb324)); replace BK321 := AS (bbl (g := gb321) (o := .cells #[.string ⟨#[]⟩, .string ⟨#[]⟩] 53 (0, 0)) Z17 hb); replace BK324 := AS (bbl (g := gb324) (o := .cells #[.string x325000_1, .string x325001_1] 53 (0, 0)) Z24 hb); replace HB := AS (bst Z10 hb); clear hb hbox hg; have hnb14 := NB326_321.out; have hnc14 := NB321_326.out; have hnb15 := NB326_324.out; have hnc15 := NB324_326.out; have hcz16_0 := bc0 BK326.out; have hcz16_1 := bc1 BK326.out; have hfz16_0 := bfz BK326.out 0; have hfz16_1 := bfz BK326.out 1))
       go_roundg k1
       case measure => have := HK1.out; omega
       case rel => exact ⟨(wrap64 (x14_1 + 1)), (x325000_1), (x325001_1), Z4, H', ⟨Z85⟩, ⟨Z77⟩, ⟨Z78⟩, ⟨Z49⟩⟩
      ·rw [if_neg c12] at H
       have c12b0 : (((rd_T53 l1 x14_1).f0).toList == ([48] : List UInt8)) = false := bqf c12; have c12b1 : (((rd_T53 l1 x14_1).f0).toList != ([48] : List UInt8)) = true := bnt c12
       by_cases c17 : x14_1 < (l0.length : Int)
       ·rw [if_pos c17] at H
        have c17b0 : decide (x14_1 < (l0.length : Int)) = true := dqt c17; clear c17; replace H := bsm H; obtain ⟨⟨t328, t329, t330⟩, A180, H⟩ := H; replace H : (szra.l0 k1 l0 l1 l1 (l1.length : Int) (wrap64 (x14_1 + 1)) t328 t329) = some (r1, r2, r3) := H; have A18 := AS A180; clear A180; have H' := AS H; clear H; have p325 : 0 ≤ (x14_1 : Int) := odt Z2; have q325 : x14_1 < (l1.length : Int) := odt Z2; obtain ⟨ad325, e325, hx325_0, hx325_1⟩ := at_T53 HR1.out x14_1 p325 q325; cases e325; replace hx325_0 := (HB.out.cell (wbl w _ hx325_0)).trans hx325_0; replace hx325_1 := (HB.out.cell (wbl w _ hx325_1)).trans hx325_1; replace p325 := eq_true p325; replace q325 := eq_true q325; (try go_wp2_with (first | ((with_reducible refine gtd (N := 8) rfl ?_); refine bxe ?hg (N := 8) ?hd (cs := #[.string ⟨#[]⟩, .string ⟨#[]⟩]) (t := 53) ?hr ?_; (case hd => rfl); (case hg => rfl); (case hr => exact Z12); intro gb326 hg w19 hbox hb; have BK326 := AS (hbox); have GW326 := AS ((Z184 : w.heap.size ≤ gb326)); have GE326 := GW326; have NB321_326 := AS ((Z178 : gb321 ≠ gb326)); have NB326_321 := AS ((Z179 : gb326 ≠ gb321)); have NB324_326 := AS ((Z174 : gb324 ≠ gb326)); have NB326_324 := AS ((Z175 : gb326 ≠ gb324)); replace BK321 := AS (bbl (g := gb321) (o := .cells #[.string ⟨#[]⟩, .string ⟨#[]⟩] 53 (0, 0)) Z17 hb); replace BK324 := AS (bbl (g := gb324) (o := .cells #[.string x325000_1, .string x325001_1] 53 (0, 0)) Z24 hb); replace HB := AS (bst Z10 hb); clear hb hbox hg; have hnb20 := NB326_321.out; have hnc20 := NB321_326.out; have hnb21 := NB326_324.out; have hnc21 := NB324_326.out; have hcz22_0 := bc0 BK326.out; have hcz22_1 := bc1 BK326.out; have hfz22_0 := bfz BK326.out 0; have hfz22_1 := bfz BK326.out 1))); have n0_ : Aside0 (((w19.setCell ⟨gb326, 0, none⟩ (.string ((rd_T53 l1 x14_1).f0))).setCell ⟨gb326, 1, none⟩ (.string ((rd_T53 l1 x14_1).f1))).heap[gb321]? = some (.cells #[.string ⟨#[]⟩, .string ⟨#[]⟩] 53 (0, 0))) := ⟨Z77⟩; have n1_ : Aside0 (((w19.setCell ⟨gb326, 0, none⟩ (.string ((rd_T53 l1 x14_1).f0))).setCell ⟨gb326, 1, none⟩ (.string ((rd_T53 l1 x14_1).f1))).heap[gb324]? = some (.cells #[.string x325000_1, .string x325001_1] 53 (0, 0))) := ⟨Z78⟩; have n2_ : Aside0 (((w19.setCell ⟨gb326, 0, none⟩ (.string ((rd_T53 l1 x14_1).f0))).setCell ⟨gb326, 1, none⟩ (.string ((rd_T53 l1 x14_1).f1))).heap[gb326]? = some (.cells #[.string ((rd_T53 l1 x14_1).f0), .string ((rd_T53 l1 x14_1).f1)] 53 (0, 0))) := ⟨by (with_reducible repeat (first | apply bdn | apply bdr | apply bal)); refine bpt (cs := #[.string ((rd_T53 l1 x14_1).f0), .string ⟨#[]⟩]) ?_ 1 _ rfl; (with_reducible repeat (first | apply bdn | apply bdr | apply bal)); refine bpt (cs := #[.string ⟨#[]⟩, .string ⟨#[]⟩]) ?_ 0 _ rfl; (with_reducible repeat (first | apply bdn | apply bdr | apply bal)); exact BK326.out⟩; have n3_ : Aside0 (Below w.heap.size w ((w19.setCell ⟨gb326, 0, none⟩ (.string ((rd_T53 l1 x14_1).f0))).setCell ⟨gb326, 1, none⟩ (.string ((rd_T53 l1 x14_1).f1)))) := ⟨Z49⟩
        (try clear BK321)
        (try clear BK324)
        (try clear BK326)
        (try clear HB)
        generalize ((w19.setCell ⟨gb326, 0, none⟩ (.string ((rd_T53 l1 x14_1).f0))).setCell ⟨gb326, 1, none⟩ (.string ((rd_T53 l1 x14_1).f1))) = w23 at n0_ n1_ n2_ n3_ ⊢; have BK321 := n0_; have BK324 := n1_; have BK326 := n2_; have HB := n3_; clear n0_ n1_ n2_ n3_; have n0_ := AS (bdr BK321.out); have n1_ := AS (bdr BK324.out); have n2_ := AS (bdr BK326.out); have n3_ := AS (bl1 HB.out); clear BK321 BK324; clear BK326 HB; have BK321 := n0_; have BK324 := n1_; have BK326 := n2_; have HB := n3_; clear n0_ n1_ n2_ n3_; have p327 : 0 ≤ (x14_1 : Int) := odt Z2; have q327 : x14_1 < (l0.length : Int) := odt Z2; obtain ⟨ad327, e327, hx327_0, hx327_1⟩ := at_T53 HR0.out x14_1 p327 q327; have hw327_1 := hx327_1; have hw327_0 := hx327_0; cases e327; replace hx327_0 := (HB.out.cell (wbl w _ hx327_0)).trans hx327_0; replace hx327_1 := (HB.out.cell (wbl w _ hx327_1)).trans hx327_1; replace p327 := eq_true p327; replace q327 := eq_true q327
        refine start_ (n := 10) (S := fun w' => w'.cell? ⟨gb326, 0, none⟩ = some (.string ((rd_T53 l1 x14_1).f0)) ∧ w'.cell? ⟨gb326, 1, none⟩ = some (.string ((rd_T53 l1 x14_1).f1)) ∧ w'.cell? (ad327.add ((x14_1).toNat * 2)) = some (.string ((rd_T53 l0 x14_1).f0)) ∧ w'.cell? ⟨(ad327.add ((x14_1).toNat * 2)).block, (ad327.add ((x14_1).toNat * 2)).off + 1, none⟩ = some (.string ((rd_T53 l0 x14_1).f1))) (ds := []) #[false, false, false, false, false, false, false, false, false, false] Z6 rfl rfl ⟨bc0 BK326.out, bc1 BK326.out, ((HB.out.cell (wbl w _ hw327_0)).trans hw327_0), ((HB.out.cell (wbl w _ hw327_1)).trans hw327_1)⟩ (fun hHeld => ?_); refine with_tabW szra.tab6 szra.bits6 (fun HT_ HW_ => ?_)
        generalize w23.drew = w24 at BK321 BK324 BK326 HB hx327_0 hx327_1 hHeld ⊢; refine pure_ (i := 0) (N := some 23) (v := ?_) (a' := ?_) #[true, false, false, false, false, false, false, false, false, false] rfl rfl (any_of HT_.out Z6) (fun _ _ _ h => h) (Or.inl ⟨by rfl, ?_⟩) ?_ ?_; rotate_left
        ·intro w'; go_simp; with_reducible rfl
        rotate_left
        ·simp only [Act.put, sA1, sA2, sA3, i64_w, i32_w]; rfl
        refine pure_ (i := 1) (N := some 24) (v := ?_) (a' := ?_) #[true, true, false, false, false, false, false, false, false, false] rfl rfl (any_of HT_.out Z6) (fun _ _ _ h => h) (Or.inl ⟨by rfl, ?_⟩) ?_ ?_; rotate_left
        ·intro w'; go_simp; with_reducible rfl
        rotate_left
        ·simp only [Act.put, sA1, sA2, sA3, i64_w, i32_w]; rfl
        refine pure_ (i := 2) (N := some 25) (v := ?_) (a' := ?_) #[true, true, true, false, false, false, false, false, false, false] rfl rfl (any_of HT_.out Z6) (fun _ _ _ h => h) (Or.inl ⟨by rfl, ?_⟩) ?_ ?_; rotate_left
        ·intro w'; go_simp; with_reducible rfl
        rotate_left
        ·simp only [Act.put, sA1, sA2, sA3, i64_w, i32_w]; rfl
        refine take_ (i := 3) (N := some 26) (v := ?_) (a' := ?_) #[true, true, true, true, false, false, false, false, false, false] rfl rfl (take_ofW HT_.out HW_.out Z6) (fun _ _ _ h => h) (Or.inl ⟨by rfl, ?_⟩) hHeld ?_ ?_; rotate_left
        ·rintro w' ⟨s0, s1, s2, s3⟩; go_simp; with_reducible rfl
        rotate_left
        ·simp only [Act.put, sA1, sA2, sA3, i64_w, i32_w]; rfl
        refine take_ (i := 4) (N := some 27) (v := ?_) (a' := ?_) #[true, true, true, true, true, false, false, false, false, false] rfl rfl (take_ofW HT_.out HW_.out Z6) (fun _ _ _ h => h) (Or.inl ⟨by rfl, ?_⟩) hHeld ?_ ?_; rotate_left
        ·rintro w' ⟨s0, s1, s2, s3⟩; go_simp; with_reducible rfl
        rotate_left
        ·simp only [Act.put, sA1, sA2, sA3, i64_w, i32_w]; rfl
        refine one_ (i := 5) (N := some 28) #[true, true, true, true, true, true, false, false, false, false] rfl rfl (one_of HT_.out Z6) (by decide) (fun K hK => ?_); refine goes_ Tryz.func183 Z6 rfl #[.agg #[.string ((rd_T53 l0 x14_1).f0), .string ((rd_T53 l0 x14_1).f1)], .agg #[.string ((rd_T53 l1 x14_1).f0), .string ((rd_T53 l1 x14_1).f1)]] (by rfl) rfl rfl Z1 ?_
        with_reducible refine (fraction_Div.calls k1 ((rd_T53 l0 x14_1).f0) ((rd_T53 l0 x14_1).f1) ((rd_T53 l1 x14_1).f0) ((rd_T53 l1 x14_1).f1) t328 t329 t330 _ ?side1 A18.out).mono ?_
        (case side1 => exact GL.below hG Z49)
        rintro e w25 ⟨rfl, hb⟩; refine ⟨_, rfl, ?_⟩; have n0_ := AS (bbl (g := gb321) (o := .cells #[.string ⟨#[]⟩, .string ⟨#[]⟩] 53 (0, 0)) Z17 hb); have n1_ := AS (bbl (g := gb324) (o := .cells #[.string x325000_1, .string x325001_1] 53 (0, 0)) Z24 hb); have n2_ := AS (bbl (g := gb326) (o := .cells #[.string ((rd_T53 l1 x14_1).f0), .string ((rd_T53 l1 x14_1).f1)] 53 (0, 0)) (by (with_reducible repeat (first | apply bdn | apply bdr | apply bal)); exact BK326.out) hb); have n3_ := AS (bst Z49 hb); clear BK321 BK324; clear BK326 HB; have BK321 := n0_; have BK324 := n1_; have BK326 := n2_; have HB := n3_; clear n0_ n1_ n2_ n3_
        (try clear hb)
        (try clear hb2)
        (try clear hk)
        (try clear hi)
        refine hK.out _ _ ⟨bc0 BK326.out, bc1 BK326.out, ((HB.out.cell (wbl w _ hw327_0)).trans hw327_0), ((HB.out.cell (wbl w _ hw327_1)).trans hw327_1)⟩ (fun hHeld => ?_); clear hK K; refine norm_ (a' := ?_) ?_ ?_; rotate_left
        ·show Act.put _ (some 28) _ = _
         simp only [Act.put, sA1, sA2, sA3, i64_w, i32_w]; rfl
        refine pure_ (i := 6) (N := some 22) (v := ?_) (a' := ?_) #[true, true, true, true, true, true, true, false, false, false] rfl rfl (any_of HT_.out Z6) (fun _ _ _ h => h) (Or.inl ⟨by rfl, ?_⟩) ?_ ?_; rotate_left
        ·intro w'; go_simp; with_reducible rfl
        rotate_left
        ·simp only [Act.put, sA1, sA2, sA3, i64_w, i32_w]; rfl
        refine pure_ (i := 7) (N := some 29) (v := ?_) (a' := ?_) #[true, true, true, true, true, true, true, true, false, false] rfl rfl (any_of HT_.out Z6) (fun _ _ _ h => h) (Or.inl ⟨by rfl, ?_⟩) ?_ ?_; rotate_left
        ·intro w'; go_simp; with_reducible rfl
        rotate_left
        ·simp only [Act.put, sA1, sA2, sA3, i64_w, i32_w]; rfl
        refine pure_ (i := 8) (N := some 30) (v := ?_) (a' := ?_) #[true, true, true, true, true, true, true, true, true, false] rfl rfl (any_of HT_.out Z6) (fun _ _ _ h => h) (Or.inl ⟨by rfl, ?_⟩) ?_ ?_; rotate_left
        ·intro w'; go_simp; with_reducible rfl
        rotate_left
        ·simp only [Act.put, sA1, sA2, sA3, i64_w, i32_w]; rfl
        refine one_ (i := 9) (N := none) #[true, true, true, true, true, true, true, true, true, true] rfl rfl (one_of HT_.out Z6) (by decide) (fun K hK => ?_); have hs26 : w25.cell? ⟨gb324, 0, none⟩ = some (.string x325000_1) := bc0 BK324.out; have hfs26 := bfz BK324.out 0; have hns26_0 := NB321_324.out; have hns26_2 := NB326_324.out; have hms26_0 := NB324_321.out; have hms26_2 := NB324_326.out; have hs27 : w25.cell? ⟨gb324, 1, none⟩ = some (.string x325001_1) := bc1 BK324.out; have hfs27 := bfz BK324.out 1; have hns27_0 := NB321_324.out; have hns27_2 := NB326_324.out; have hms27_0 := NB324_321.out; have hms27_2 := NB324_326.out; refine skip_ (w1 := ?_) (by rfl) rfl ?_ ?_; rotate_left
        ·go_simp; rfl
        refine hK.out _ _ ⟨((cell_far (p := ⟨gb324, _, none⟩) NB326_324.out _).trans (((cell_far (p := ⟨gb324, _, none⟩) NB326_324.out _).trans (hHeld.1)))), ((cell_far (p := ⟨gb324, _, none⟩) NB326_324.out _).trans (((cell_far (p := ⟨gb324, _, none⟩) NB326_324.out _).trans (hHeld.2.1)))), ((cell_far (p := ⟨gb324, _, none⟩) Z170 _).trans (((cell_far (p := ⟨gb324, _, none⟩) Z170 _).trans (hHeld.2.2.1)))), ((cell_far (p := ⟨gb324, _, none⟩) Z171 _).trans (((cell_far (p := ⟨gb324, _, none⟩) Z171 _).trans (hHeld.2.2.2))))⟩ (fun hHeld => ?_); clear hK K; refine done_ (done_of HT_.out Z6) ?_; (try go_wp2)
        go_roundg k1
        case measure => have := HK1.out; omega
        case rel => exact ⟨(wrap64 (x14_1 + 1)), (t328), (t329), Z4, H', ⟨Z85⟩, ⟨Z76⟩, ⟨by (with_reducible repeat (first | apply bdn | apply bdr | apply bal)); refine bpt (cs := #[.string t328, .string x325001_1]) ?_ 1 _ rfl; (with_reducible repeat (first | apply bdn | apply bdr | apply bal)); refine bpt (cs := #[.string x325000_1, .string x325001_1]) ?_ 0 _ rfl; (with_reducible repeat (first | apply bdn | apply bdr | apply bal)); exact BK324.out⟩, ⟨Z49⟩⟩
       ·rw [if_neg c17] at H
        exact absurd H (by simp)
     ·rw [if_neg c11] at H
      exact absurd H (by simp)
    ·rw [if_neg c10] at H
     exact absurd H (by simp)
   ·rw [if_neg c9] at H
    have c9b0 : decide (x14_1 < (l1.length : Int)) = false := decide_eq_false c9; clear c9; have H' := AS H; clear H; go_wp2
    go_loopg [34] k1 (fun kq v34 w' => ∃ (x34_2 : Int) (x322000_2 : ByteArray) (x322001_2 : ByteArray), v34 = .int .i64 x34_2 ∧ Aside0 (szra.l1 kq l0 l1 (l1.length : Int) x34_2 x325000_1 x325001_1 = some (r1, r2, r3)) ∧ Aside0 (kq ≤ k1) ∧ Aside0 (w'.heap[gb321]? = some (.cells #[.string x322000_2, .string x322001_2] 53 (0, 0))) ∧ Aside0 (w'.heap[gb324]? = some (.cells #[.string x325000_1, .string x325001_1] 53 (0, 0))) ∧ Aside0 (Below w.heap.size w w'))
    case atStart => exact ⟨(0), ((⟨#[]⟩ : ByteArray)), ((⟨#[]⟩ : ByteArray)), Z4, H', ⟨Nat.le_refl _⟩, ⟨Z17⟩, ⟨Z24⟩, ⟨Z10⟩⟩
    case round =>
     clear H'; (try clear c1); (try clear c2); (try clear p2); (try clear p3); (try clear q3); (try clear hx3); (try clear p6); (try clear c7); (try clear c9); (try clear c9b0); (try clear c10); (try clear c10b0); (try clear c11); (try clear c11b0); (try clear c12); (try clear c12b0); (try clear c12b1); (try clear c14); (try clear c15); (try clear c17); (try clear c17b0); (try clear c18); (try clear c20); (try clear c21); (try clear hcz16_0); (try clear hcz16_1); (try clear hcz22_0); (try clear hcz22_1); (try clear hcz8_0); (try clear hcz8_1); (try clear hfz16_0); (try clear hfz16_1); (try clear hfz22_0); (try clear hfz22_1); (try clear hfz8_0); (try clear hfz8_1); (try clear hx325_0); (try clear hx325_1); (try clear hx327_0); (try clear hx327_1); (try clear p2); (try clear p325); (try clear p327); (try clear q325); (try clear q327); obtain ⟨x34_2, x322000_2, x322001_2, rfl, HA, HK2, BK321, BK324, HB⟩ := hrel
     cases gk with
     | zero => exact absurd HA.out (by simp [szra.l1])
     | succ k2 =>
      have H := HA.out; clear HA
      simp only [szra.l1] at H
      by_cases c28 : x34_2 < (l1.length : Int)
      ·rw [if_pos c28] at H
       have c28b0 : decide (x34_2 < (l1.length : Int)) = true := dqt c28; clear c28
       by_cases c29 : 0 ≤ x34_2
       ·rw [if_pos c29] at H
        have c29b0 : decide (0 ≤ x34_2) = true := dqt c29; clear c29
        by_cases c30 : x34_2 < (l1.length : Int)
        ·rw [if_pos c30] at H
         have c30b0 : decide (x34_2 < (l1.length : Int)) = true := dqt c30; clear c30; replace H := bsm H; obtain ⟨⟨t333, t334⟩, A310, H⟩ := H; replace H : (if x34_2 < (l0.length : Int) then (if (!(t333.toList == (((rd_T53 l0 x34_2).f0).toList)) || (!(t334.toList == (((rd_T53 l0 x34_2).f1).toList)))) = true then (some (x325000_1, x325001_1, false)) else (szra.l1 k2 l0 l1 (l1.length : Int) (wrap64 (x34_2 + 1)) x325000_1 x325001_1)) else (none)) = some (r1, r2, r3) := H; have A31 := AS A310; clear A310
         by_cases c32 : x34_2 < (l0.length : Int)
         ·rw [if_pos c32] at H
          have c32b0 : decide (x34_2 < (l0.length : Int)) = true := dqt c32; clear c32
          by_cases c33 : (!(t333.toList == (((rd_T53 l0 x34_2).f0).toList)) || (!(t334.toList == (((rd_T53 l0 x34_2).f1).toList)))) = true
          ·rw [if_pos c33] at H
           have c33b0 : (!(t333.toList == (((rd_T53 l0 x34_2).f0).toList)) || (!(t334.toList == (((rd_T53 l0 x34_2).f1).toList)))) = true := c33; clear c33
           simp only [Option.some.injEq, Prod.mk.injEq] at H
           obtain ⟨rfl, rfl, rfl⟩ := H; have p331 : 0 ≤ (x34_2 : Int) := odt Z2; have q331 : x34_2 < (l1.length : Int) := odt Z2; obtain ⟨ad331, e331, hx331_0, hx331_1⟩ := at_T53 HR1.out x34_2 p331 q331; cases e331; replace hx331_0 := (HB.out.cell (wbl w _ hx331_0)).trans hx331_0; replace hx331_1 := (HB.out.cell (wbl w _ hx331_1)).trans hx331_1; replace p331 := eq_true p331; replace q331 := eq_true q331; (try go_wp2_with (first | ((with_reducible refine gtd (N := 10) rfl ?_); refine bxe ?hg (N := 10) ?hd (cs := #[.string ⟨#[]⟩, .string ⟨#[]⟩]) (t := 53) ?hr ?_; (case hd => rfl); (case hg => rfl); (case hr => exact Z12); intro gb332 hg w34 hbox hb; have BK332 := AS (hbox); have GW332 := AS ((Z184 : w.heap.size ≤ gb332)); have GE332 := GW332; have NB321_332 := AS ((Z187 : gb321 ≠ gb332)); have NB332_321 := AS ((Z188 : gb332 ≠ gb321)); have NB324_332 := AS ((Z174 : gb324 ≠ gb332)); have NB332_324 := AS ((Z175 : gb332 ≠ gb324)); replace BK321 := AS (bbl (g := gb321) (o := .cells #[.string x322000_2, .string x322001_2] 53 (0, 0)) Z17 hb); replace BK324 := AS (bbl (g := gb324) (o := .cells #[.string x325000_1, .string x325001_1] 53 (0, 0)) Z24 hb); replace HB := AS (bst Z10 hb); clear hb hbox hg; have hnb35 := NB332_321.out; have hnc35 := NB321_332.out; have hnb36 := NB332_324.out; have hnc36 := NB324_332.out; have hcz37_0 := bc0 BK332.out; have hcz37_1 := bc1 BK332.out; have hfz37_0 := bfz BK332.out 0; have hfz37_1 := bfz BK332.out 1))); have n0_ : Aside0 (((w34.setCell ⟨gb332, 0, none⟩ (.string ((rd_T53 l1 x34_2).f0))).setCell ⟨gb332, 1, none⟩ (.string ((rd_T53 l1 x34_2).f1))).heap[gb321]? = some (.cells #[.string x322000_2, .string x322001_2] 53 (0, 0))) := ⟨Z79⟩; have n1_ : Aside0 (((w34.setCell ⟨gb332, 0, none⟩ (.string ((rd_T53 l1 x34_2).f0))).setCell ⟨gb332, 1, none⟩ (.string ((rd_T53 l1 x34_2).f1))).heap[gb324]? = some (.cells #[.string x325000_1, .string x325001_1] 53 (0, 0))) := ⟨Z80⟩; have n2_ : Aside0 (((w34.setCell ⟨gb332, 0, none⟩ (.string ((rd_T53 l1 x34_2).f0))).setCell ⟨gb332, 1, none⟩ (.string ((rd_T53 l1 x34_2).f1))).heap[gb332]? = some (.cells #[.string ((rd_T53 l1 x34_2).f0), .string ((rd_T53 l1 x34_2).f1)] 53 (0, 0))) := ⟨Z59⟩; have n3_ : Aside0 (Below w.heap.size w ((w34.setCell ⟨gb332, 0, none⟩ (.string ((rd_T53 l1 x34_2).f0))).setCell ⟨gb332, 1, none⟩ (.string ((rd_T53 l1 x34_2).f1)))) := ⟨Z22⟩
           (try clear BK321)
           (try clear BK324)
           (try clear BK332)
           (try clear HB)
           generalize ((w34.setCell ⟨gb332, 0, none⟩ (.string ((rd_T53 l1 x34_2).f0))).setCell ⟨gb332, 1, none⟩ (.string ((rd_T53 l1 x34_2).f1))) = w38 at n0_ n1_ n2_ n3_ ⊢; have BK321 := n0_; have BK324 := n1_; have BK332 := n2_; have HB := n3_; clear n0_ n1_ n2_ n3_; have n0_ := AS (bdr BK321.out); have n1_ := AS (bdr BK324.out); have n2_ := AS (bdr BK332.out); have n3_ := AS (bl1 HB.out); clear BK321 BK324; clear BK332 HB; have BK321 := n0_; have BK324 := n1_; have BK332 := n2_; have HB := n3_; clear n0_ n1_ n2_ n3_; have p335 : 0 ≤ (x34_2 : Int) := odt Z2; have q335 : x34_2 < (l0.length : Int) := odt Z2; obtain ⟨ad335, e335, hx335_0, hx335_1⟩ := at_T53 HR0.out x34_2 p335 q335; have hw335_1 := hx335_1; have hw335_0 := hx335_0; cases e335; replace hx335_0 := (HB.out.cell (wbl w _ hx335_0)).trans hx335_0; replace hx335_1 := (HB.out.cell (wbl w _ hx335_1)).trans hx335_1; replace p335 := eq_true p335; replace q335 := eq_true q335
           refine start_ (n := 8) (S := fun w' => w'.cell? ⟨gb324, 0, none⟩ = some (.string x325000_1) ∧ w'.cell? ⟨gb324, 1, none⟩ = some (.string x325001_1) ∧ w'.cell? ⟨gb332, 0, none⟩ = some (.string ((rd_T53 l1 x34_2).f0)) ∧ w'.cell? ⟨gb332, 1, none⟩ = some (.string ((rd_T53 l1 x34_2).f1)) ∧ w'.cell? (ad335.add ((x34_2).toNat * 2)) = some (.string ((rd_T53 l0 x34_2).f0)) ∧ w'.cell? ⟨(ad335.add ((x34_2).toNat * 2)).block, (ad335.add ((x34_2).toNat * 2)).off + 1, none⟩ = some (.string ((rd_T53 l0 x34_2).f1))) (ds := []) #[false, false, false, false, false, false, false, false] Z6 rfl rfl ⟨bc0 BK324.out, bc1 BK324.out, bc0 BK332.out, bc1 BK332.out, ((HB.out.cell (wbl w _ hw335_0)).trans hw335_0), ((HB.out.cell (wbl w _ hw335_1)).trans hw335_1)⟩ (fun hHeld => ?_); refine with_tabW szra.tab11 szra.bits11 (fun HT_ HW_ => ?_)
           generalize w38.drew = w39 at BK321 BK324 BK332 HB hx335_0 hx335_1 hHeld ⊢; refine pure_ (i := 3) (N := some 42) (v := ?_) (a' := ?_) #[false, false, false, true, false, false, false, false] rfl rfl (any_of HT_.out Z6) (fun _ _ _ h => h) (Or.inl ⟨by rfl, ?_⟩) ?_ ?_; rotate_left
           ·intro w'; go_simp; with_reducible rfl
           rotate_left
           ·simp only [Act.put, sA1, sA2, sA3, i64_w, i32_w]; rfl
           refine pure_ (i := 4) (N := some 43) (v := ?_) (a' := ?_) #[false, false, false, true, true, false, false, false] rfl rfl (any_of HT_.out Z6) (fun _ _ _ h => h) (Or.inl ⟨by rfl, ?_⟩) ?_ ?_; rotate_left
           ·intro w'; go_simp; with_reducible rfl
           rotate_left
           ·simp only [Act.put, sA1, sA2, sA3, i64_w, i32_w]; rfl
           refine pure_ (i := 5) (N := some 44) (v := ?_) (a' := ?_) #[false, false, false, true, true, true, false, false] rfl rfl (any_of HT_.out Z6) (fun _ _ _ h => h) (Or.inl ⟨by rfl, ?_⟩) ?_ ?_; rotate_left
           ·intro w'; go_simp; with_reducible rfl
           rotate_left
           ·simp only [Act.put, sA1, sA2, sA3, i64_w, i32_w]; rfl
           refine take_ (i := 0) (N := some 39) (v := ?_) (a' := ?_) #[true, false, false, true, true, true, false, false] rfl rfl (take_ofW HT_.out HW_.out Z6) (fun _ _ _ h => h) (Or.inl ⟨by rfl, ?_⟩) hHeld ?_ ?_; rotate_left
           ·rintro w' ⟨s0, s1, s2, s3, s4, s5⟩; go_simp; with_reducible rfl
           rotate_left
           ·simp only [Act.put, sA1, sA2, sA3, i64_w, i32_w]; rfl
           refine take_ (i := 1) (N := some 40) (v := ?_) (a' := ?_) #[true, true, false, true, true, true, false, false] rfl rfl (take_ofW HT_.out HW_.out Z6) (fun _ _ _ h => h) (Or.inl ⟨by rfl, ?_⟩) hHeld ?_ ?_; rotate_left
           ·rintro w' ⟨s0, s1, s2, s3, s4, s5⟩; go_simp; with_reducible rfl
           rotate_left
           ·simp only [Act.put, sA1, sA2, sA3, i64_w, i32_w]; rfl
           refine take_ (i := 6) (N := some 45) (v := ?_) (a' := ?_) #[true, true, false, true, true, true, true, false] rfl rfl (take_ofW HT_.out HW_.out Z6) (fun _ _ _ h => h) (Or.inl ⟨by rfl, ?_⟩) hHeld ?_ ?_; rotate_left
           ·rintro w' ⟨s0, s1, s2, s3, s4, s5⟩; go_simp; with_reducible rfl
           rotate_left
           ·simp only [Act.put, sA1, sA2, sA3, i64_w, i32_w]; rfl
           refine one_ (i := 2) (N := some 41) #[true, true, true, true, true, true, true, false] rfl rfl (one_of HT_.out Z6) (by decide) (fun K hK => ?_); refine goes_ Tryz.func184 Z6 rfl #[.agg #[.string x325000_1, .string x325001_1], .agg #[.string ((rd_T53 l1 x34_2).f0), .string ((rd_T53 l1 x34_2).f1)]] (by rfl) rfl rfl Z1 ?_
           with_reducible refine (fraction_Mul.calls k2 x325000_1 x325001_1 ((rd_T53 l1 x34_2).f0) ((rd_T53 l1 x34_2).f1) t333 t334 _ ?side1 A31.out).mono ?_
           (case side1 => exact GL.below hG Z22)
           rintro e w40 ⟨rfl, hb⟩; refine ⟨_, rfl, ?_⟩; have n0_ := AS (bbl (g := gb321) (o := .cells #[.string x322000_2, .string x322001_2] 53 (0, 0)) Z17 hb); have n1_ := AS (bbl (g := gb324) (o := .cells #[.string x325000_1, .string x325001_1] 53 (0, 0)) Z24 hb); have n2_ := AS (bbl (g := gb332) (o := .cells #[.string ((rd_T53 l1 x34_2).f0), .string ((rd_T53 l1 x34_2).f1)] 53 (0, 0)) Z147 hb); have n3_ := AS (bst Z22 hb); clear BK321 BK324; clear BK332 HB; have BK321 := n0_; have BK324 := n1_; have BK332 := n2_; have HB := n3_; clear n0_ n1_ n2_ n3_
           (try clear hb)
           (try clear hb2)
           (try clear hk)
           (try clear hi)
           refine hK.out _ _ ⟨bc0 BK324.out, bc1 BK324.out, bc0 BK332.out, bc1 BK332.out, ((HB.out.cell (wbl w _ hw335_0)).trans hw335_0), ((HB.out.cell (wbl w _ hw335_1)).trans hw335_1)⟩ (fun hHeld => ?_); clear hK K; refine norm_ (a' := ?_) ?_ ?_; rotate_left
           ·show Act.put _ (some 41) _ = _
            simp only [Act.put, sA1, sA2, sA3, i64_w, i32_w]; rfl
           refine pure_ (i := 7) (N := some 46) (v := ?_) (a' := ?_) #[true, true, true, true, true, true, true, true] rfl rfl (any_of HT_.out Z6) (fun _ _ _ h => h) (Or.inl ⟨by rfl, ?_⟩) ?_ ?_; rotate_left
           ·intro w'; go_simp; with_reducible rfl
           rotate_left
           ·simp only [Act.put, sA1, sA2, sA3, i64_w, i32_w]; rfl
           refine done_ (done_of HT_.out Z6) ?_; have hnb41 := NB324_321.out; have hnc41 := NB321_324.out; have hcz42_0 := bc0 BK324.out; have hcz42_1 := bc1 BK324.out; have hfz42_0 := bfz BK324.out 0; have hfz42_1 := bfz BK324.out 1; have hcz43_0 := bc0 BK321.out; have hcz43_1 := bc1 BK321.out; have hfz43_0 := bfz BK321.out 0; have hfz43_1 := bfz BK321.out 1; (try go_wp2); refine bodyPost_ret (results_ct rfl _ _ gb321 53 #[.string x325000_1, .string x325001_1] (0, 0) _ rfl Z62 Tryz.underlying53 rfl Z6) rfl ?_; exact ⟨Z3, Z22⟩
          ·rw [if_neg c33] at H
           have c33b0 : (!(t333.toList == (((rd_T53 l0 x34_2).f0).toList)) || (!(t334.toList == (((rd_T53 l0 x34_2).f1).toList)))) = false := by simpa using c33
           clear c33; have H' := AS H; clear H; have p331 : 0 ≤ (x34_2 : Int) := odt Z2; have q331 : x34_2 < (l1.length : Int) := odt Z2; obtain ⟨ad331, e331, hx331_0, hx331_1⟩ := at_T53 HR1.out x34_2 p331 q331; cases e331; replace hx331_0 := (HB.out.cell (wbl w _ hx331_0)).trans hx331_0; replace hx331_1 := (HB.out.cell (wbl w _ hx331_1)).trans hx331_1; replace p331 := eq_true p331; replace q331 := eq_true q331; (try go_wp2_with (first | ((with_reducible refine gtd (N := 10) rfl ?_); refine bxe ?hg (N := 10) ?hd (cs := #[.string ⟨#[]⟩, .string ⟨#[]⟩]) (t := 53) ?hr ?_; (case hd => rfl); (case hg => rfl); (case hr => exact Z12); intro gb332 hg w44 hbox hb; have BK332 := AS (hbox); have GW332 := AS ((Z184 : w.heap.size ≤ gb332)); have GE332 := GW332; have NB321_332 := AS ((Z187 : gb321 ≠ gb332)); have NB332_321 := AS ((Z188 : gb332 ≠ gb321)); have NB324_332 := AS ((Z174 : gb324 ≠ gb332)); have NB332_324 := AS ((Z175 : gb332 ≠ gb324)); replace BK321 := AS (bbl (g := gb321) (o := .cells #[.string x322000_2, .string x322001_2] 53 (0, 0)) Z17 hb); replace BK324 := AS (bbl (g := gb324) (o := .cells #[.string x325000_1, .string x325001_1] 53 (0, 0)) Z24 hb); replace HB := AS (bst Z10 hb); clear hb hbox hg; have hnb45 := NB332_321.out; have hnc45 := NB321_332.out; have hnb46 := NB332_324.out; have hnc46 := NB324_332.out; have hcz47_0 := bc0 BK332.out; have hcz47_1 := bc1 BK332.out; have hfz47_0 := bfz BK332.out 0; have hfz47_1 := bfz BK332.out 1))); have n0_ : Aside0 (((w44.setCell ⟨gb332, 0, none⟩ (.string ((rd_T53 l1 x34_2).f0))).setCell ⟨gb332, 1, none⟩ (.string ((rd_T53 l1 x34_2).f1))).heap[gb321]? = some (.cells #[.string x322000_2, .string x322001_2] 53 (0, 0))) := ⟨Z79⟩; have n1_ : Aside0 (((w44.setCell ⟨gb332, 0, none⟩ (.string ((rd_T53 l1 x34_2).f0))).setCell ⟨gb332, 1, none⟩ (.string ((rd_T53 l1 x34_2).f1))).heap[gb324]? = some (.cells #[.string x325000_1, .string x325001_1] 53 (0, 0))) := ⟨Z80⟩; have n2_ : Aside0 (((w44.setCell ⟨gb332, 0, none⟩ (.string ((rd_T53 l1 x34_2).f0))).setCell ⟨gb332, 1, none⟩ (.string ((rd_T53 l1 x34_2).f1))).heap[gb332]? = some (.cells #[.string ((rd_T53 l1 x34_2).f0), .string ((rd_T53 l1 x34_2).f1)] 53 (0, 0))) := ⟨Z59⟩; have n3_ : Aside0 (Below w.heap.size w ((w44.setCell ⟨gb332, 0, none⟩ (.string ((rd_T53 l1 x34_2).f0))).setCell ⟨gb332, 1, none⟩ (.string ((rd_T53 l1 x34_2).f1)))) := ⟨Z22⟩
           (try clear BK321)
           (try clear BK324)
           (try clear BK332)
           (try clear HB)
           generalize ((w44.setCell ⟨gb332, 0, none⟩ (.string ((rd_T53 l1 x34_2).f0))).setCell ⟨gb332, 1, none⟩ (.string ((rd_T53 l1 x34_2).f1))) = w48 at n0_ n1_ n2_ n3_ ⊢; have BK321 := n0_; have BK324 := n1_; have BK332 := n2_; have HB := n3_; clear n0_ n1_ n2_ n3_; have n0_ := AS (bdr BK321.out); have n1_ := AS (bdr BK324.out); have n2_ := AS (bdr BK332.out); have n3_ := AS (bl1 HB.out); clear BK321 BK324; clear BK332 HB; have BK321 := n0_; have BK324 := n1_; have BK332 := n2_; have HB := n3_; clear n0_ n1_ n2_ n3_; have p335 : 0 ≤ (x34_2 : Int) := odt Z2; have q335 : x34_2 < (l0.length : Int) := odt Z2; obtain ⟨ad335, e335, hx335_0, hx335_1⟩ := at_T53 HR0.out x34_2 p335 q335; have hw335_1 := hx335_1; have hw335_0 := hx335_0; cases e335; replace hx335_0 := (HB.out.cell (wbl w _ hx335_0)).trans hx335_0; replace hx335_1 := (HB.out.cell (wbl w _ hx335_1)).trans hx335_1; replace p335 := eq_true p335; replace q335 := eq_true q335
           refine start_ (n := 8) (S := fun w' => w'.cell? ⟨gb324, 0, none⟩ = some (.string x325000_1) ∧ w'.cell? ⟨gb324, 1, none⟩ = some (.string x325001_1) ∧ w'.cell? ⟨gb332, 0, none⟩ = some (.string ((rd_T53 l1 x34_2).f0)) ∧ w'.cell? ⟨gb332, 1, none⟩ = some (.string ((rd_T53 l1 x34_2).f1)) ∧ w'.cell? (ad335.add ((x34_2).toNat * 2)) = some (.string ((rd_T53 l0 x34_2).f0)) ∧ w'.cell? ⟨(ad335.add ((x34_2).toNat * 2)).block, (ad335.add ((x34_2).toNat * 2)).off + 1, none⟩ = some (.string ((rd_T53 l0 x34_2).f1))) (ds := []) #[false, false, false, false, false, false, false, false] Z6 rfl rfl ⟨bc0 BK324.out, bc1 BK324.out, bc0 BK332.out, bc1 BK332.out, ((HB.out.cell (wbl w _ hw335_0)).trans hw335_0), ((HB.out.cell (wbl w _ hw335_1)).trans hw335_1)⟩ (fun hHeld => ?_); refine with_tabW szra.tab11 szra.bits11 (fun HT_ HW_ => ?_)
           generalize w48.drew = w49 at BK321 BK324 BK332 HB hx335_0 hx335_1 hHeld ⊢; refine pure_ (i := 3) (N := some 42) (v := ?_) (a' := ?_) #[false, false, false, true, false, false, false, false] rfl rfl (any_of HT_.out Z6) (fun _ _ _ h => h) (Or.inl ⟨by rfl, ?_⟩) ?_ ?_; rotate_left
           ·intro w'; go_simp; with_reducible rfl
           rotate_left
           ·simp only [Act.put, sA1, sA2, sA3, i64_w, i32_w]; rfl
           refine pure_ (i := 4) (N := some 43) (v := ?_) (a' := ?_) #[false, false, false, true, true, false, false, false] rfl rfl (any_of HT_.out Z6) (fun _ _ _ h => h) (Or.inl ⟨by rfl, ?_⟩) ?_ ?_; rotate_left
           ·intro w'; go_simp; with_reducible rfl
           rotate_left
           ·simp only [Act.put, sA1, sA2, sA3, i64_w, i32_w]; rfl
           refine pure_ (i := 5) (N := some 44) (v := ?_) (a' := ?_) #[false, false, false, true, true, true, false, false] rfl rfl (any_of HT_.out Z6) (fun _ _ _ h => h) (Or.inl ⟨by rfl, ?_⟩) ?_ ?_; rotate_left
           ·intro w'; go_simp; with_reducible rfl
           rotate_left
           ·simp only [Act.put, sA1, sA2, sA3, i64_w, i32_w]; rfl
           refine take_ (i := 0) (N := some 39) (v := ?_) (a' := ?_) #[true, false, false, true, true, true, false, false] rfl rfl (take_ofW HT_.out HW_.out Z6) (fun _ _ _ h => h) (Or.inl ⟨by rfl, ?_⟩) hHeld ?_ ?_; rotate_left
           ·rintro w' ⟨s0, s1, s2, s3, s4, s5⟩; go_simp; with_reducible rfl
           rotate_left
           ·simp only [Act.put, sA1, sA2, sA3, i64_w, i32_w]; rfl
           refine take_ (i := 1) (N := some 40) (v := ?_) (a' := ?_) #[true, true, false, true, true, true, false, false] rfl rfl (take_ofW HT_.out HW_.out Z6) (fun _ _ _ h => h) (Or.inl ⟨by rfl, ?_⟩) hHeld ?_ ?_; rotate_left
           ·rintro w' ⟨s0, s1, s2, s3, s4, s5⟩; go_simp; with_reducible rfl
           rotate_left
           ·simp only [Act.put, sA1, sA2, sA3, i64_w, i32_w]; rfl
           refine take_ (i := 6) (N := some 45) (v := ?_) (a' := ?_) #[true, true, false, true, true, true, true, false] rfl rfl (take_ofW HT_.out HW_.out Z6) (fun _ _ _ h => h) (Or.inl ⟨by rfl, ?_⟩) hHeld ?_ ?_; rotate_left
           ·rintro w' ⟨s0, s1, s2, s3, s4, s5⟩; go_simp; with_reducible rfl
           rotate_left
           ·simp only [Act.put, sA1, sA2, sA3, i64_w, i32_w]; rfl
           refine one_ (i := 2) (N := some 41) #[true, true, true, true, true, true, true, false] rfl rfl (one_of HT_.out Z6) (by decide) (fun K hK => ?_); refine goes_ Tryz.func184 Z6 rfl #[.agg #[.string x325000_1, .string x325001_1], .agg #[.string ((rd_T53 l1 x34_2).f0), .string ((rd_T53 l1 x34_2).f1)]] (by rfl) rfl rfl Z1 ?_
           with_reducible refine (fraction_Mul.calls k2 x325000_1 x325001_1 ((rd_T53 l1 x34_2).f0) ((rd_T53 l1 x34_2).f1) t333 t334 _ ?side1 A31.out).mono ?_
           (case side1 => exact GL.below hG Z22)
           rintro e w50 ⟨rfl, hb⟩; refine ⟨_, rfl, ?_⟩; have n0_ := AS (bbl (g := gb321) (o := .cells #[.string x322000_2, .string x322001_2] 53 (0, 0)) Z17 hb); have n1_ := AS (bbl (g := gb324) (o := .cells #[.string x325000_1, .string x325001_1] 53 (0, 0)) Z24 hb); have n2_ := AS (bbl (g := gb332) (o := .cells #[.string ((rd_T53 l1 x34_2).f0), .string ((rd_T53 l1 x34_2).f1)] 53 (0, 0)) Z147 hb); have n3_ := AS (bst Z22 hb); clear BK321 BK324; clear BK332 HB; have BK321 := n0_; have BK324 := n1_; have BK332 := n2_; have HB := n3_; clear n0_ n1_ n2_ n3_
           (try clear hb)
           (try clear hb2)
           (try clear hk)
           (try clear hi)
           refine hK.out _ _ ⟨bc0 BK324.out, bc1 BK324.out, bc0 BK332.out, bc1 BK332.out, ((HB.out.cell (wbl w _ hw335_0)).trans hw335_0), ((HB.out.cell (wbl w _ hw335_1)).trans hw335_1)⟩ (fun hHeld => ?_); clear hK K; refine norm_ (a' := ?_) ?_ ?_; rotate_left
           ·show Act.put _ (some 41) _ = _
            simp only [Act.put, sA1, sA2, sA3, i64_w, i32_w]; rfl
           refine pure_ (i := 7) (N := some 46) (v := ?_) (a' := ?_) #[true, true, true, true, true, true, true, true] rfl rfl (any_of HT_.out Z6) (fun _ _ _ h => h) (Or.inl ⟨by rfl, ?_⟩) ?_ ?_; rotate_left
           ·intro w'; go_simp; with_reducible rfl
           rotate_left
           ·simp only [Act.put, sA1, sA2, sA3, i64_w, i32_w]; rfl
           refine done_ (done_of HT_.out Z6) ?_; (try go_wp2)
           go_roundg k2
           case measure => have := HK1.out; have := HK2.out; omega
           case rel => exact ⟨(wrap64 (x34_2 + 1)), (x322000_2), (x322001_2), Z4, H', ⟨Z131⟩, ⟨Z17⟩, ⟨Z24⟩, ⟨Z22⟩⟩
         ·rw [if_neg c32] at H
          exact absurd H (by simp)
        ·rw [if_neg c30] at H
         exact absurd H (by simp)
       ·rw [if_neg c29] at H
        exact absurd H (by simp)
      ·rw [if_neg c28] at H
       have c28b0 : decide (x34_2 < (l1.length : Int)) = false := decide_eq_false c28; clear c28
       simp only [Option.some.injEq, Prod.mk.injEq] at H
       obtain ⟨rfl, rfl, rfl⟩ := H; have hnb51 := NB324_321.out; have hnc51 := NB321_324.out; have hcz52_0 := bc0 BK324.out; have hcz52_1 := bc1 BK324.out; have hfz52_0 := bfz BK324.out 0; have hfz52_1 := bfz BK324.out 1; have hcz53_0 := bc0 BK321.out; have hcz53_1 := bc1 BK321.out; have hfz53_0 := bfz BK321.out 0; have hfz53_1 := bfz BK321.out 1; go_wp2; refine bodyPost_ret (results_ct rfl _ _ gb321 53 #[.string x325000_1, .string x325001_1] (0, 0) _ rfl Z62 Tryz.underlying53 rfl Z6) rfl ?_; exact ⟨Z3, Z10⟩
def fraction_Floor.f (k : Nat) (a0_0 : ByteArray) (a0_1 : ByteArray) : Option (ByteArray) := (whDM.f k a0_0 a0_1).bind fun bt337 => (some bt337.1)
theorem fraction_Floor.mono : ∀ a0 a1 k, LeO (fraction_Floor.f k a0 a1) (fraction_Floor.f (k + 1) a0 a1) := by
 intro a0 a1 k; unfold fraction_Floor.f
 repeat' (with_reducible first | exact whDM.mono _ _ _ | exact LeO.refl _ | exact LeO.none _ | refine LeO.ite ?_ ?_ | refine LeO.bind ?_ (fun _ => ?_))
theorem fraction_Floor.calls (k : Nat) (a0_0 : ByteArray) (a0_1 : ByteArray) (r : ByteArray) (w : World) (hG : GL w) (h : fraction_Floor.f k a0_0 a0_1 = some r) :
  Calls Tryz.prog 151 #[.agg #[.string a0_0, .string a0_1]] w fun e w' => e = .returned (.string r) ∧ Below w.heap.size w w' := by
 have hu53 := Tryz.underlying53; have HB := AS (blr w); have H : ((whDM.f k a0_0 a0_1).bind fun bt337 => (some bt337.1)) = some r := h; clear h; replace H := bsm H; obtain ⟨⟨t337, t338, t339⟩, A20, H⟩ := H; replace H : (some t337) = some r := H; have A2 := AS A20; clear A20; obtain rfl := Option.some.inj H; go_enter Tryz.func151, Tryz.ntmps151; go_wp2_with (first | ((with_reducible refine gtd (N := 1) rfl ?_); refine bxe ?hg (N := 1) ?hd (cs := #[.string a0_0, .string a0_1]) (t := 53) ?hr ?_; (case hd => rfl); (case hg => rfl); (case hr => exact Z12); intro gb336 hg w3 hbox hb; have BK336 := AS (hbox); have GW336 := AS ((Z169 : w.heap.size ≤ gb336)); have GE336 := GW336; replace HB := AS (bst Z0 hb); clear hb hbox hg; have hcz4_0 := bc0 BK336.out; have hcz4_1 := bc1 BK336.out; have hfz4_0 := bfz BK336.out 0; have hfz4_1 := bfz BK336.out 1) | ((with_reducible refine gtc (f := 118) rfl ?_); refine gsL (some 11) rfl rfl Tryz.func118 Z6 rfl #[.string a0_0, .string a0_1] rfl Z1 ?_; (with_reducible refine (whDM.calls k a0_0 a0_1 t337 t338 t339 _ ?side1 A2.out).mono ?_); (case side1 => exact GL.below hG Z105); rintro e w5 ⟨rfl, hb⟩; refine ⟨_, rfl, ?_⟩; replace BK336 := AS (bbl (g := gb336) (o := .cells #[.string a0_0, .string a0_1] 53 (0, 0)) (by (with_reducible repeat (first | apply bdn | apply bdr | apply bal)); exact BK336.out) hb); replace HB := AS (bst Z105 hb); (try clear hb))); go_ret; exact ⟨Z3, Z105⟩
end

def parseOk (s : ByteArray) : Option Int := if s.size ≤ 1000000 then (match Lib.parseIntB 64 s.data.toList with | .ok v => some v | _ => none) else none
theorem parseOk_spec {s : ByteArray} {v : Int} (h : parseOk s = some v) : s.size ≤ 1000000 ∧ Lib.parseIntB 64 s.data.toList = .ok v := by
 unfold parseOk at h
 by_cases c : s.size ≤ 1000000
 ·rw [if_pos c] at h; refine ⟨c, ?_⟩
  split at h
  ·rename_i x hx
   rw [hx]; cases h; rfl
  ·cases h
 ·rw [if_neg c] at h; cases h
theorem parseInt_calls {s : ByteArray} {v : Int} (h : parseOk s = some v) (w : World) :
  Calls Tryz.prog 130 #[.string s, .int .i64 10, .int .i64 64] w fun e w' => e = .returned (.tuple #[.int .i64 v, .nilIface]) ∧ Below w.heap.size w w' := by
 obtain ⟨hs, hv⟩ := parseOk_spec h; refine (Tryz.strconv_ParseInt_10_at64_ok s (by omega) v hv w).mono ?_; rintro e w' ⟨rfl, rfl | ⟨t, rfl⟩⟩
 ·exact ⟨rfl, Below.refl _ _⟩
 ·exact ⟨rfl, Lib.bytesWorld_below w 5 t⟩
def whole_Small.f (a0 : ByteArray) : Option (Int × Bool) := (parseOk a0).map fun v => (v, true)
theorem whole_Small.calls (a0 : ByteArray) (r1 : Int) (r2 : Bool) (w : World) (hG : GL w) (h : whole_Small.f a0 = some (r1, r2)) :
  Calls Tryz.prog 102 #[.string a0] w fun e w' => e = .returned (.tuple #[.int .i64 r1, .bool r2]) ∧ Below w.heap.size w w' := by
 unfold whole_Small.f at h; obtain ⟨v, hv, he⟩ := Option.map_eq_some_iff.mp h; simp only [Prod.mk.injEq] at he; obtain ⟨rfl, rfl⟩ := he; have hc := AS (parseInt_calls hv); clear h hv; go_enter Tryz.func102, Tryz.ntmps102; go_wp2_with (go_at_call 130; refine (hc.out _).mono ?_; rintro e w' ⟨rfl, hb⟩); go_ret2; exact ⟨rfl, hb⟩

section
open Go.Shelf
def nearStep (most p : Int) (k : ByteArray) : Option (Int × Int) :=
 (whole_Small.f k).bind fun n => if n.2 = true ∧ n.1 ≤ most ∧ -most ≤ n.1 then (size_fast.f 2000000 p).bind fun a => if a.2 = true then some (n.1, a.1) else none else none
structure NearX (most : Int) where
 p : Int
 k : ByteArray
 n : Int
 a : Int
 small : whole_Small.f k = some (n, true)
 le : n ≤ most
 ge : -most ≤ n
 fast : size_fast.f 2000000 p = some (a, true)
def NearX.v {most : Int} (x : NearX most) : Int × Int × Int := (x.p, x.n, x.a)
def nearL (most : Int) : List Int → List ByteArray → Option (List (Int × Int × Int))
 | [], [] => some []
 | p :: ps, k :: ks => (nearStep most p k).bind fun x => (nearL most ps ks).bind fun l => some ((p, x) :: l)
 | _, _ => none
def nearAdd (s : Int × Int) (x : Int × Int × Int) : Int × Int :=
 let m := wrap64 (x.2.1 * x.2.2)
 let q := if x.1 = 2 then m else wrap64 (x.2.1 * wrap64 (x.2.2 + 1))
 (wrap64 (s.1 + if q < m then q else m), wrap64 (s.2 + if m < q then q else m))
def nearSum (l : List (Int × Int × Int)) : Int × Int := l.foldl nearAdd (0, 0)
theorem nearL_zs (most : Int) : ∀ (ps : List Int) (ks : List ByteArray) (l : List (Int × Int × Int)), nearL most ps ks = some l →
  ps.length = ks.length ∧ ∃ zs : List (NearX most), zs.map NearX.v = l ∧ zs.map NearX.p = ps ∧ zs.map NearX.k = ks := by
 intro ps
 induction ps with
 | nil =>
  intro ks l h
  cases ks with
  | nil =>
   simp only [nearL, Option.some.injEq] at h; exact ⟨rfl, [], by simp [h], rfl, rfl⟩
  | cons k ks => simp [nearL] at h
 | cons p ps ih =>
  intro ks l h
  cases ks with
  | nil => simp [nearL] at h
  | cons k ks =>
   simp only [nearL] at h; obtain ⟨x, hx, h⟩ := Option.bind_eq_some_iff.1 h; obtain ⟨m, hm, h⟩ := Option.bind_eq_some_iff.1 h; obtain rfl := Option.some.inj h; obtain ⟨hl, zs, hz1, hz2, hz3⟩ := ih ks m hm; unfold nearStep at hx; obtain ⟨⟨n, b⟩, hn, hx⟩ := Option.bind_eq_some_iff.1 hx
   split at hx
   ·rename_i hc
    obtain ⟨⟨a, b2⟩, ha, hx⟩ := Option.bind_eq_some_iff.1 hx
    split at hx
    ·rename_i hc2
     obtain rfl := Option.some.inj hx
     dsimp only at hc hc2
     obtain ⟨rfl, hle, hge⟩ := hc; subst hc2; exact ⟨by simp [hl], ⟨p, k, n, a, hn, hle, hge, ha⟩ :: zs, by simp [NearX.v, hz1], by simp [hz2], by simp [hz3]⟩
    ·cases hx
   ·cases hx
theorem nearSum_snoc (l : List (Int × Int × Int)) (x : Int × Int × Int) : nearSum (l ++ [x]) = nearAdd (nearSum l) x := by simp [nearSum]
theorem near_ne {most : Int} (pre : List (NearX most)) (x : NearX most) (h : (x.p == 2) = false) :
  IntKind.i64.wrap ((nearSum (pre.map NearX.v)).1 + if IntKind.i64.wrap (x.n * wrap64 (x.a + 1)) < IntKind.i64.wrap (x.n * x.a) then IntKind.i64.wrap (x.n * wrap64 (x.a + 1)) else IntKind.i64.wrap (x.n * x.a)) = (nearSum ((pre ++ [x]).map NearX.v)).1 ∧
  IntKind.i64.wrap ((nearSum (pre.map NearX.v)).2 + if IntKind.i64.wrap (x.n * x.a) < IntKind.i64.wrap (x.n * wrap64 (x.a + 1)) then IntKind.i64.wrap (x.n * wrap64 (x.a + 1)) else IntKind.i64.wrap (x.n * x.a)) = (nearSum ((pre ++ [x]).map NearX.v)).2 := by
 have h' : x.p ≠ 2 := by simpa using h
 rw [List.map_append, List.map_cons, List.map_nil, nearSum_snoc]
 have e : ∀ z, IntKind.i64.wrap z = wrap64 z := fun x => by rw [IntKind.wrap_i64]; unfold wrap64; rfl
 simp only [nearAdd, NearX.v, h', if_false, e]; simp
theorem near_eq {most : Int} (pre : List (NearX most)) (x : NearX most) (h : (x.p == 2) = true) :
  IntKind.i64.wrap ((nearSum (pre.map NearX.v)).1 + IntKind.i64.wrap (x.n * x.a)) = (nearSum ((pre ++ [x]).map NearX.v)).1 ∧ IntKind.i64.wrap ((nearSum (pre.map NearX.v)).2 + IntKind.i64.wrap (x.n * x.a)) = (nearSum ((pre ++ [x]).map NearX.v)).2 := by
 have h' : x.p = 2 := by simpa using h
 rw [List.map_append, List.map_cons, List.map_nil, nearSum_snoc]
 have e : ∀ z, IntKind.i64.wrap z = wrap64 z := fun x => by rw [IntKind.wrap_i64]; unfold wrap64; rfl
 simp only [nearAdd, NearX.v, h', if_true, Int.lt_irrefl, if_false, e]; simp
theorem near_post {most : Int} {w W0 W W2 : World} {pre : List (NearX most)} {x : NearX most} {u v : Int} (hS0 : w.heap.size + 6 ≤ W.heap.size) (hB : Below w.heap.size w W) (h2 : Below W.heap.size W W2) (hS2 : W.heap.size ≤ W2.heap.size)
  (hr1 : Boxed W2 (w.heap.size + 1) 3 (.int .i64 most)) (hr2 : Boxed W2 (w.heap.size + 2) 3 (.int .i64 (nearSum (pre.map NearX.v)).1)) (hr3 : Boxed W2 (w.heap.size + 3) 3 (.int .i64 (nearSum (pre.map NearX.v)).2)) (hr4 : Boxed W2 (w.heap.size + 4) 4 (.bool false))
  (hk : KeepsFrom W0.heap.size W W2) (hb : Below w.heap.size w W2) (hu : u = (nearSum ((pre ++ [x]).map NearX.v)).1) (hv : v = (nearSum ((pre ++ [x]).map NearX.v)).2) :
  KeepsFrom W0.heap.size W ((W2.drew.setCell ⟨w.heap.size + 2, 0, none⟩ (.int .i64 u)).setCell ⟨w.heap.size + 3, 0, none⟩ (.int .i64 v)) ∧ KeepsB w.heap.size (w.heap.size + 5) (w.heap.size + 6) W ((W2.drew.setCell ⟨w.heap.size + 2, 0, none⟩ (.int .i64 u)).setCell ⟨w.heap.size + 3, 0, none⟩ (.int .i64 v)) ∧
   (Boxed ((W2.drew.setCell ⟨w.heap.size + 2, 0, none⟩ (.int .i64 u)).setCell ⟨w.heap.size + 3, 0, none⟩ (.int .i64 v)) (w.heap.size + 1) 3 (.int .i64 most) ∧ Boxed ((W2.drew.setCell ⟨w.heap.size + 2, 0, none⟩ (.int .i64 u)).setCell ⟨w.heap.size + 3, 0, none⟩ (.int .i64 v)) (w.heap.size + 2) 3 (.int .i64 (nearSum ((pre ++ [x]).map NearX.v)).1) ∧
    Boxed ((W2.drew.setCell ⟨w.heap.size + 2, 0, none⟩ (.int .i64 u)).setCell ⟨w.heap.size + 3, 0, none⟩ (.int .i64 v)) (w.heap.size + 3) 3 (.int .i64 (nearSum ((pre ++ [x]).map NearX.v)).2) ∧ Boxed ((W2.drew.setCell ⟨w.heap.size + 2, 0, none⟩ (.int .i64 u)).setCell ⟨w.heap.size + 3, 0, none⟩ (.int .i64 v)) (w.heap.size + 4) 4 (.bool false)) ∧
   Below w.heap.size w ((W2.drew.setCell ⟨w.heap.size + 2, 0, none⟩ (.int .i64 u)).setCell ⟨w.heap.size + 3, 0, none⟩ (.int .i64 v)) ∧ w.heap.size + 6 ≤ ((W2.drew.setCell ⟨w.heap.size + 2, 0, none⟩ (.int .i64 u)).setCell ⟨w.heap.size + 3, 0, none⟩ (.int .i64 v)).heap.size := by
 subst hu hv; have d1 : Boxed W2.drew (w.heap.size + 1) 3 (.int .i64 most) := hr1; have d2 : Boxed W2.drew (w.heap.size + 2) 3 (.int .i64 (nearSum (pre.map NearX.v)).1) := hr2; have d3 : Boxed W2.drew (w.heap.size + 3) 3 (.int .i64 (nearSum (pre.map NearX.v)).2) := hr3; have d4 : Boxed W2.drew (w.heap.size + 4) 4 (.bool false) := hr4; refine ⟨((hk.trans ((KeepsOthers.drew W2).from _)).trans ((KeepsOthers.setCell _ _ _).from _)).trans ((KeepsOthers.setCell _ _ _).from _), ⟨?_, fun k h3 h4 => ?_⟩, ⟨(d1.other (by omega) _).other (by omega) _, (d2.set _).other (by omega) _, (d3.other (by omega) _).set _, (d4.other (by omega) _).other (by omega) _⟩, ?_, ?_⟩
 ·exact ((((h2.mono (by omega)).drew).setCell (p := ⟨w.heap.size + 2, 0, none⟩) Z156 _).setCell (p := ⟨w.heap.size + 3, 0, none⟩) Z157 _)
 ·rw [Below.heap_setCell _ _ _ k (by show k ≠ w.heap.size + 3; omega), Below.heap_setCell _ _ _ k (by show k ≠ w.heap.size + 2; omega)]; exact h2.block k (by omega)
 ·exact (((hb.drew).setCell (p := ⟨w.heap.size + 2, 0, none⟩) Z156 _).setCell (p := ⟨w.heap.size + 3, 0, none⟩) Z157 _)
 ·have e : ∀ (X : World) (a : Addr) (u : Value), (X.setCell a u).heap.size = X.heap.size := fun X a u => by simp [World.setCell]
  rw [e, e]
  show _ ≤ W2.heap.size
  omega
attribute [local go_sem] Oper.semAt_some in
theorem near_walk (A0_0 : Option Addr) (c0_0 : Nat) (l0_0 : List Int) (A0_1 : Option Addr) (c0_1 : Nat) (l0_1 : List ByteArray) (a0_2 : ByteArray) (a1 : Int) (l : List (Int × Int × Int)) (w : World) (hr0_0 : Kd.C (Kd.int .i64) w A0_0 l0_0.length l0_0) (hr0_1 : Kd.C Kd.string w A0_1 l0_1.length l0_1) (hlen : l0_0.length ≤ 100000) (hm0 : 0 ≤ a1) (hm1 : a1 ≤ 1000000000) (hG : GL w) (h : nearL a1 l0_0 l0_1 = some l) :
  CallsIn Fence.wide 5 Tryz.prog 185 #[.agg #[.slice A0_0 l0_0.length c0_0, .slice A0_1 l0_1.length c0_1, .string a0_2], .int .i64 a1] w fun e w' => e = .returned (.tuple #[.int .i64 (nearSum l).1, .int .i64 (nearSum l).2, .bool true]) ∧ Below w.heap.size w w' := by
 obtain ⟨hll, zs, hz1, hz2, hz3⟩ := nearL_zs a1 _ _ _ h; have HZ := AS hz1
 have HL1 : Aside0 (HoldsI w.heap.size w A0_0 zs fun x => .int .i64 x.p) := ⟨fun j hj => by
  obtain ⟨ad, e, hb, hc⟩ := C_int_holds hr0_0 j (by rw [← hz2]; simpa using hj)
  exact ⟨ad, e, hb, by rw [hc]; simp [← hz2]⟩⟩
 have HL2 : Aside0 (HoldsI w.heap.size w A0_1 zs fun x => .string x.k) := ⟨fun j hj => by
  obtain ⟨ad, e, hb, hc⟩ := C_str_holds hr0_1 j (by rw [← hz3]; simpa using hj)
  exact ⟨ad, e, hb, by rw [hc]; simp [← hz3]⟩⟩
 have hlz : zs.length = l0_0.length := by rw [← hz2]; simp
 have HGL := AS hG; rw [← hll, ← hlz]; rw [← hlz] at hlen; clear hr0_0 hr0_1 h hz1 hz2 hz3 hG hll hlz; refine callsIn_of_wp_marks Tryz.func185 rfl trivial ?_ rfl; simp only [Tryz.ntmps185, List.size_toArray, List.length_cons, List.length_nil, Nat.reduceAdd, Nat.reduceSub, Array.replicate_succ, Array.replicate_zero, List.push_toArray, List.append_toArray, List.nil_append, List.cons_append]
 gi_wp2_with (refine ⟨trivial, ?_⟩; gi_at_call 187; refine (all_in Fence.wide 4 trivial rfl _ _ _ _ _ _ _ _).mono ?_; rintro e w' ⟨rfl, rfl⟩)
 obtain ⟨W0, hW0⟩ : ∃ W0, ((((((w.alloc (.cells #[.slice A0_0 zs.length c0_0, .slice A0_1 zs.length c0_1, .string a0_2] 191)).alloc (.cells #[.int .i64 a1] 3)).alloc (.cells #[.int .i64 0] 3)).alloc (.cells #[.int .i64 0] 3)).alloc (.cells #[.bool false] 4)).alloc (.cells #[.slice A0_0 zs.length c0_0, .slice A0_1 zs.length c0_1, .string a0_2] 191)) = W0 := ⟨_, rfl⟩
 have hsz : W0.heap.size = w.heap.size + 6 := by rw [← hW0]; simp
 have hB0 : Below w.heap.size w W0 := by
  rw [← hW0]; exact ((((((Below.refl _ w).alloc (Nat.le_refl _) _).alloc (by simp) _).alloc Z154 _).alloc Z154 _).alloc Z154 _).alloc Z154 _
 have hb1 : Boxed W0 (w.heap.size + 1) 3 (.int .i64 a1) := by
  rw [← hW0]; have := Boxed.new (w.alloc (.cells #[.slice A0_0 zs.length c0_0, .slice A0_1 zs.length c0_1, .string a0_2] 191)) 3 (.int .i64 a1); rw [World.size_alloc] at this
  exact (((this.alloc _).alloc _).alloc _).alloc _
 have hb2 : Boxed W0 (w.heap.size + 2) 3 (.int .i64 0) := by
  rw [← hW0]; have := Boxed.new ((w.alloc (.cells #[.slice A0_0 zs.length c0_0, .slice A0_1 zs.length c0_1, .string a0_2] 191)).alloc (.cells #[.int .i64 a1] 3)) 3 (.int .i64 0); rw [World.size_alloc, World.size_alloc] at this
  exact ((this.alloc _).alloc _).alloc _
 have hb3 : Boxed W0 (w.heap.size + 3) 3 (.int .i64 0) := by
  rw [← hW0]; have := Boxed.new (((w.alloc (.cells #[.slice A0_0 zs.length c0_0, .slice A0_1 zs.length c0_1, .string a0_2] 191)).alloc (.cells #[.int .i64 a1] 3)).alloc (.cells #[.int .i64 0] 3)) 3 (.int .i64 0); rw [World.size_alloc, World.size_alloc, World.size_alloc] at this
  exact (this.alloc _).alloc _
 have hb4 : Boxed W0 (w.heap.size + 4) 4 (.bool false) := by
  rw [← hW0]; have := Boxed.new ((((w.alloc (.cells #[.slice A0_0 zs.length c0_0, .slice A0_1 zs.length c0_1, .string a0_2] 191)).alloc (.cells #[.int .i64 a1] 3)).alloc (.cells #[.int .i64 0] 3)).alloc (.cells #[.int .i64 0] 3)) 4 (.bool false); rw [World.size_alloc, World.size_alloc, World.size_alloc, World.size_alloc] at this
  exact this.alloc _
 have hc5 : W0.heap[w.heap.size + 5]? = some (.cells #[.slice A0_0 zs.length c0_0, .slice A0_1 zs.length c0_1, .string a0_2] 191 (0, 0)) := by
  rw [← hW0]; have := World.alloc_heap_new (((((w.alloc (.cells #[.slice A0_0 zs.length c0_0, .slice A0_1 zs.length c0_1, .string a0_2] 191)).alloc (.cells #[.int .i64 a1] 3)).alloc (.cells #[.int .i64 0] 3)).alloc (.cells #[.int .i64 0] 3)).alloc (.cells #[.bool false] 4)) (.cells #[.slice A0_0 zs.length c0_0, .slice A0_1 zs.length c0_1, .string a0_2] 191); rw [World.size_alloc, World.size_alloc, World.size_alloc, World.size_alloc, World.size_alloc] at this
  exact this
 have hc50 : W0.cell? ⟨w.heap.size + 5, 0, none⟩ = some (.slice A0_0 zs.length c0_0) := by simp [World.cell?, hc5]
 have hc51 : W0.cell? ⟨w.heap.size + 5, 1, none⟩ = some (.slice A0_1 zs.length c0_1) := by simp [World.cell?, hc5]
 simp only [Nat.add_assoc, Nat.reduceAdd]; rw [hW0]; clear hW0
 refine wpIn_rangeFunc_ownG (n := 5) rfl (by decide) (gf := 213) (lb := #[.pointer (some ⟨w.heap.size + 5, 0, none⟩)]) rfl trivial (enters_of Tryz.func213 Z6 rfl)
  (all_stops (α := NearX a1) (fun x => x.p) (fun x => x.k) zs Fence.wide 4 trivial rfl (by decide) (w.heap.size + 5) w.heap.size (w.heap.size + 5) (w.heap.size + 6) A0_0 A0_1 c0_0 c0_1 (by omega) W0 (by omega) (by omega) (by omega) (by omega) hc50 hc51 (HL1.out.below hB0) (HL2.out.below hB0)) KeepsB.trans (keepsB_b (by omega) (by omega)) (Below.refl _ _) (fun _ => rfl)
  (fun pre W => (Boxed W (w.heap.size + 1) 3 (.int .i64 a1) ∧ Boxed W (w.heap.size + 2) 3 (.int .i64 (nearSum (pre.map NearX.v)).1) ∧ Boxed W (w.heap.size + 3) 3 (.int .i64 (nearSum (pre.map NearX.v)).2) ∧ Boxed W (w.heap.size + 4) 4 (.bool false)) ∧ Below w.heap.size w W ∧ w.heap.size + 6 ≤ W.heap.size)
  (fun _ _ _ => False)
  (OwnFrom.and (Own.from (fun s A B row hs hg hr => ⟨boxed_own _ 3 (fun _ : List (NearX a1) => _) s A B row hs.1 hg hr, boxed_own _ 3 (fun s : List (NearX a1) => .int .i64 (nearSum (s.map NearX.v)).1) s A B row hs.2.1 hg hr, boxed_own _ 3 (fun s : List (NearX a1) => .int .i64 (nearSum (s.map NearX.v)).2) s A B row hs.2.2.1 hg hr, boxed_own _ 4 (fun _ : List (NearX a1) => _) s A B row hs.2.2.2 hg hr⟩) _) (OwnFrom.and (ownFrom_below (Nat.le_refl _) (by omega)) (fun _ _ _ _ hs hg _ => Nat.le_trans hs hg.size)))
  (fun _ _ _ _ _ hs _ _ => hs)
  ⟨⟨hb1, hb2, hb3, hb4⟩, hB0, by omega⟩
  (fun x => { tmps := #[.agg #[.slice A0_0 zs.length c0_0, .slice A0_1 zs.length c0_1, .string a0_2], .int .i64 a1, .pointer (some ⟨w.heap.size, 0, none⟩), .pointer (some ⟨w.heap.size + 1, 0, none⟩), .pointer (some ⟨w.heap.size + 2, 0, none⟩), .pointer (some ⟨w.heap.size + 3, 0, none⟩), .pointer (some ⟨w.heap.size + 4, 0, none⟩), .int .i64 x.p, .string x.k, undef, undef, undef, undef, undef, .agg #[.slice A0_0 zs.length c0_0, .slice A0_1 zs.length c0_1, .string a0_2], .func (.func 213) #[] #[.pointer (some ⟨w.heap.size + 5, 0, none⟩)], .int .i64 x.p, .string x.k, undef, undef, undef, undef, undef, undef, undef, undef, undef, undef, undef, undef, undef, undef, undef, undef, undef, undef, undef, undef, undef, undef, undef, undef, undef, undef, undef, undef, undef, undef, undef, undef, undef, undef, undef, undef, undef, undef, undef, undef, undef, undef, undef, undef, undef, undef, undef, undef, undef, undef], defers := [] }) ?assign ?body ?done ?stop
 case assign =>
  intro l x W K hK
  gi_wp2
  exact hK
 case done =>
  rintro D ys W hD rfl ⟨⟨hb1, hb2, hb3, hb4⟩, hB, hS0⟩ hK; have hc2 := hb2.cell; have hf2 := hb2.frozen; have hc3 := hb3.cell; have hf3 := hb3.frozen; have hc4 := hb4.cell; have hf4 := hb4.frozen
  have hmx : Tryz.prog.follows .mixedOrders = true := by kernel_rfl
  gi_wp2
  gi_region_o
  all_goals gi_wp2
  all_goals (try go_bits)
  have hD2 : w.heap.size + 6 ≤ D := by omega
  clear hc2 hf2 hc3 hf3 hc4 hf4 hD; have e2 := (nearSum (ys.map NearX.v)).1; have g2 : Boxed (((W.setCell ⟨w.heap.size + 2, 0, none⟩ (.int .i64 (nearSum (ys.map NearX.v)).1)).setCell ⟨w.heap.size + 3, 0, none⟩ (.int .i64 (nearSum (ys.map NearX.v)).2)).setCell ⟨w.heap.size + 4, 0, none⟩ (.bool true)).drew (w.heap.size + 2) 3 (.int .i64 (nearSum (ys.map NearX.v)).1) := ((hb2.set _).other (by omega) _).other (by omega) _; have g3 : Boxed (((W.setCell ⟨w.heap.size + 2, 0, none⟩ (.int .i64 (nearSum (ys.map NearX.v)).1)).setCell ⟨w.heap.size + 3, 0, none⟩ (.int .i64 (nearSum (ys.map NearX.v)).2)).setCell ⟨w.heap.size + 4, 0, none⟩ (.bool true)).drew (w.heap.size + 3) 3 (.int .i64 (nearSum (ys.map NearX.v)).2) := ((hb3.other (by omega) _).set _).other (by omega) _; have g4 : Boxed (((W.setCell ⟨w.heap.size + 2, 0, none⟩ (.int .i64 (nearSum (ys.map NearX.v)).1)).setCell ⟨w.heap.size + 3, 0, none⟩ (.int .i64 (nearSum (ys.map NearX.v)).2)).setCell ⟨w.heap.size + 4, 0, none⟩ (.bool true)).drew (w.heap.size + 4) 4 (.bool true) := ((hb4.other (by omega) _).other (by omega) _).set _; have hK' : (((W.setCell ⟨w.heap.size + 2, 0, none⟩ (.int .i64 (nearSum (ys.map NearX.v)).1)).setCell ⟨w.heap.size + 3, 0, none⟩ (.int .i64 (nearSum (ys.map NearX.v)).2)).setCell ⟨w.heap.size + 4, 0, none⟩ (.bool true)).drew.heap[D]? = some (.deferred (some [])) := ((((KeepsOthers.setCell W _ _).trans (KeepsOthers.setCell _ _ _)).trans (KeepsOthers.setCell _ _ _)).trans (KeepsOthers.drew _)).same D _ hK rfl; have hBX : Below w.heap.size w (((W.setCell ⟨w.heap.size + 2, 0, none⟩ (.int .i64 (nearSum (ys.map NearX.v)).1)).setCell ⟨w.heap.size + 3, 0, none⟩ (.int .i64 (nearSum (ys.map NearX.v)).2)).setCell ⟨w.heap.size + 4, 0, none⟩ (.bool true)).drew := (((hB.setCell (p := ⟨w.heap.size + 2, 0, none⟩) Z156 _).setCell (p := ⟨w.heap.size + 3, 0, none⟩) Z157 _).setCell (p := ⟨w.heap.size + 4, 0, none⟩) (by show w.heap.size ≤ w.heap.size + 4; omega) _).drew
  obtain ⟨X, hX⟩ : ∃ X, (((W.setCell ⟨w.heap.size + 2, 0, none⟩ (.int .i64 (nearSum (ys.map NearX.v)).1)).setCell ⟨w.heap.size + 3, 0, none⟩ (.int .i64 (nearSum (ys.map NearX.v)).2)).setCell ⟨w.heap.size + 4, 0, none⟩ (.bool true)).drew = X := ⟨_, rfl⟩
  rw [hX] at g2 g3 g4 hK' hBX ⊢; refine ⟨by simp, .inl ⟨_, _, rfl, run_takeDeferred hK', ?_⟩⟩; have k2 := (g2.kept (grownBy_putObj' X D (.deferred none)) (fun e => by cases e; omega)).cell; have k3 := (g3.kept (grownBy_putObj' X D (.deferred none)) (fun e => by cases e; omega)).cell; have k4 := (g4.kept (grownBy_putObj' X D (.deferred none)) (fun e => by cases e; omega)).cell; have hBY := belowK_b (w := w) (Nat.le_refl _) X D _ (.deferred none) (by omega) hK' rfl rfl; refine ⟨.tuple #[.int .i64 (nearSum (ys.map NearX.v)).1, .int .i64 (nearSum (ys.map NearX.v)).2, .bool true], ?_, by rw [HZ.out], hBX.trans hBY⟩; simp only [results, show Tryz.f185.results = #[.cell 4 3, .cell 5 3, .cell 6 4] from rfl]; go_simp
 case stop =>
  rintro D c pre W _ _ h _; exact h.elim
 case body =>
  rintro l pre x W ⟨⟨hb1, hb2, hb3, hb4⟩, hB, hS0⟩ _
  have hd : 1 ≤ 5 - 1 - 1 := by decide
  have hmx : Tryz.prog.follows .mixedOrders = true := by kernel_rfl
  have hG1 := AS (HGL.out.below hB); have hS := AS (whole_Small.calls x.k x.n true W hG1.out x.small); have hFa := AS x.fast; have hle := x.le; have hge := x.ge
  gi_wp2_with (first | (refine ⟨trivial, ?_⟩; gi_at_call 102; refine (CallsIn.inRound l (callsIn_wide.2 hS.out)).mono ?_; rintro e W1 ⟨rfl, hB1⟩; have HB1 := AS (bst hB hB1); have hq1 := hb1.below hB1 hb1.lt; have hq2 := hb2.below hB1 hb2.lt; have hq3 := hb3.below hB1 hb3.lt; have hq4 := hb4.below hB1 hb4.lt; have hc1 := hq1.cell; have HK1 := AS (keepsFrom_below (B := W0.heap.size) hB1); have HW1 := AS hB1; have HS1 := AS hB1.size; clear hB1) | (refine ⟨trivial, ?_⟩; gi_at_call 212; refine (CallsIn.inRound l (callsIn_wide.2 (size_fast.calls 2000000 x.p x.a true _ (HGL.out.below HB1.out) hFa.out))).mono ?_; rintro e W2 ⟨rfl, hB2⟩; have HB2 := AS (bst HB1.out hB2); have hr1 := hq1.below hB2 hq1.lt; have hr2 := hq2.below hB2 hq2.lt; have hr3 := hq3.below hB2 hq3.lt; have hr4 := hq4.below hB2 hq4.lt; have hc2 := hr2.cell; have hf2 := hr2.frozen; have hc3 := hr3.cell; have hf3 := hr3.frozen; have HK2 := AS (HK1.out.trans (keepsFrom_below (B := W0.heap.size) hB2)); have HW2 := AS (HW1.out.trans (hB2.mono HS1.out)); have hS2 := Nat.le_trans HS1.out hB2.size; clear hB2))
  all_goals (refine wpIn_region_any hmx (wpAnyIn_inRound l Z6 _ _ _ _ ?_))
  all_goals (refine wpAnyIn_take (i := 1) (v := ?_) rfl rfl Z6 Z6 Z6 (fun _ _ _ h => h) ⟨Or.inl ⟨by rfl, ?_⟩, fun _ => rfl⟩ ?_; rotate_left; focus (intro w; go_simp; try with_reducible rfl))
  all_goals (refine wpAnyIn_take (i := 2) (v := ?_) rfl rfl Z6 Z6 Z6 (fun _ _ _ h => h) ⟨Or.inl ⟨by rfl, ?_⟩, fun _ => rfl⟩ ?_; rotate_left; focus (intro w; go_simp; try with_reducible rfl))
  all_goals (refine wpAnyIn_take (i := 3) (v := ?_) rfl rfl Z6 Z6 Z6 (fun _ _ _ h => h) ⟨Or.inl ⟨by rfl, ?_⟩, fun _ => rfl⟩ ?_; rotate_left; focus (intro w; go_simp; try with_reducible rfl))
  all_goals (refine wpAnyIn_take (i := 4) (v := ?_) rfl rfl Z6 Z6 Z6 (fun _ _ _ h => h) ⟨Or.inl ⟨by rfl, ?_⟩, fun _ => rfl⟩ ?_; rotate_left; focus (intro w; go_simp; try with_reducible rfl))
  all_goals (refine wpAnyIn_take (i := 5) (v := ?_) rfl rfl Z6 Z6 Z6 (fun _ _ _ h => h) ⟨Or.inl ⟨by rfl, ?_⟩, fun _ => rfl⟩ ?_; rotate_left; focus (intro w; go_simp; try with_reducible rfl))
  all_goals (refine wpAnyIn_take (i := 6) (v := ?_) rfl rfl Z6 Z6 Z6 (fun _ _ _ h => h) ⟨Or.inl ⟨by rfl, ?_⟩, fun _ => rfl⟩ ?_; rotate_left; focus (intro w; go_simp; try with_reducible rfl))
  all_goals (refine wpAnyIn_take (i := 7) (v := ?_) rfl rfl Z6 Z6 Z6 (fun _ _ _ h => h) ⟨Or.inl ⟨by rfl, ?_⟩, fun _ => rfl⟩ ?_; rotate_left; focus (intro w; go_simp; try with_reducible rfl))
  all_goals (refine wpAnyIn_take (i := 10) (v := ?_) rfl rfl Z6 Z6 Z6 (fun _ _ _ h => h) ⟨Or.inl ⟨by rfl, ?_⟩, fun _ => rfl⟩ ?_; rotate_left; focus (intro w; go_simp; try with_reducible rfl))
  all_goals (refine wpAnyIn_take (i := 11) (v := ?_) rfl rfl Z6 Z6 Z6 (fun _ _ _ h => h) ⟨Or.inl ⟨by rfl, ?_⟩, fun _ => rfl⟩ ?_; rotate_left; focus (intro w; go_simp; try with_reducible rfl))
  all_goals (refine wpAnyIn_take (i := 12) (v := ?_) rfl rfl Z6 Z6 Z6 (fun _ _ _ h => h) ⟨Or.inl ⟨by rfl, ?_⟩, fun _ => rfl⟩ ?_; rotate_left; focus (intro w; go_simp; try with_reducible rfl))
  all_goals (refine wpAnyIn_take (i := 13) (v := ?_) rfl rfl Z6 Z6 Z6 (fun _ _ _ h => h) ⟨Or.inl ⟨by rfl, ?_⟩, fun _ => rfl⟩ ?_; rotate_left; focus (intro w; go_simp; try with_reducible rfl))
  all_goals (refine wpAnyIn_take (i := 14) (v := ?_) rfl rfl Z6 Z6 Z6 (fun _ _ _ h => h) ⟨Or.inl ⟨by rfl, ?_⟩, fun _ => rfl⟩ ?_; rotate_left; focus (intro w; go_simp; try with_reducible rfl))
  all_goals (refine wpAnyIn_take (i := 15) (v := ?_) rfl rfl Z6 Z6 Z6 (fun _ _ _ h => h) ⟨Or.inl ⟨by rfl, ?_⟩, fun _ => rfl⟩ ?_; rotate_left; focus (intro w; go_simp; try with_reducible rfl))
  all_goals (refine wpAnyIn_take (i := 16) (v := ?_) rfl rfl Z6 Z6 Z6 (fun _ _ _ h => h) ⟨Or.inl ⟨by rfl, ?_⟩, fun _ => rfl⟩ ?_; rotate_left; focus (intro w; go_simp; try with_reducible rfl))
  all_goals (refine wpAnyIn_all (rs := [0, 9]) Z6 (by simp) ?_; refine AllReadyIn.cons rfl (fun K hK => ?_) (AllReadyIn.cons rfl (fun K hK => ?_) AllReadyIn.nil) <;> go_simp <;> refine hK _ _ ?_ <;> clear hK K)
  rotate_left 2
  iterate 2
   ·refine wpAnyIn_take (i := 8) (v := ?_) rfl rfl Z6 Z6 Z6 (fun _ _ _ h => h) ⟨Or.inl ⟨by rfl, ?_⟩, fun _ => rfl⟩ ?_; rotate_left; focus (intro w; go_simp; try with_reducible rfl)
    refine wpAnyIn_all (rs := [9, 18]) Z6 (by simp) ?_; refine AllReadyIn.cons rfl (fun K hK => ?_) (AllReadyIn.cons rfl (fun K hK => ?_) (AllReadyIn.nil)) <;> go_simp <;> refine hK _ _ ?_ <;> clear hK K
    ·refine wpAnyIn_take (i := 17) (v := ?_) rfl rfl Z6 Z6 Z6 (fun _ _ _ h => h) ⟨Or.inl ⟨by rfl, ?_⟩, fun _ => rfl⟩ ?_; rotate_left; focus (intro w; go_simp; try with_reducible rfl)
     refine wpAnyIn_all (rs := [18]) Z6 (by simp) ?_; refine AllReadyIn.cons rfl (fun K hK => ?_) (AllReadyIn.nil) <;> go_simp <;> refine hK _ _ ?_ <;> clear hK K
     refine wpAnyIn_all (rs := [19]) Z6 (by simp) ?_; refine AllReadyIn.cons rfl (fun K hK => ?_) (AllReadyIn.nil) <;> go_simp <;> refine hK _ _ ?_ <;> clear hK K
     refine wpAnyIn_done Z6 ?_ _; refine near_post hS0 hB HW2.out hS2 hr1 hr2 hr3 hr4 HK2.out HB2.out ?_ ?_
     all_goals (first | exact (near_ne pre x Z152).1 | exact (near_ne pre x Z152).2 | exact (near_eq pre x Z152).1 | exact (near_eq pre x Z152).2)
    ·refine wpAnyIn_all (rs := [9]) Z6 (by simp) ?_; refine AllReadyIn.cons rfl (fun K hK => ?_) (AllReadyIn.nil) <;> go_simp <;> refine hK _ _ ?_ <;> clear hK K
     refine wpAnyIn_take (i := 17) (v := ?_) rfl rfl Z6 Z6 Z6 (fun _ _ _ h => h) ⟨Or.inl ⟨by rfl, ?_⟩, fun _ => rfl⟩ ?_; rotate_left; focus (intro w; go_simp; try with_reducible rfl)
     refine wpAnyIn_all (rs := [19]) Z6 (by simp) ?_; refine AllReadyIn.cons rfl (fun K hK => ?_) (AllReadyIn.nil) <;> go_simp <;> refine hK _ _ ?_ <;> clear hK K
     refine wpAnyIn_done Z6 ?_ _; refine near_post hS0 hB HW2.out hS2 hr1 hr2 hr3 hr4 HK2.out HB2.out ?_ ?_
     all_goals (first | exact (near_ne pre x Z152).1 | exact (near_ne pre x Z152).2 | exact (near_eq pre x Z152).1 | exact (near_eq pre x Z152).2)
   ·refine wpAnyIn_take (i := 17) (v := ?_) rfl rfl Z6 Z6 Z6 (fun _ _ _ h => h) ⟨Or.inl ⟨by rfl, ?_⟩, fun _ => rfl⟩ ?_; rotate_left; focus (intro w; go_simp; try with_reducible rfl)
    refine wpAnyIn_all (rs := [0]) Z6 (by simp) ?_; refine AllReadyIn.cons rfl (fun K hK => ?_) (AllReadyIn.nil) <;> go_simp <;> refine hK _ _ ?_ <;> clear hK K
    refine wpAnyIn_take (i := 8) (v := ?_) rfl rfl Z6 Z6 Z6 (fun _ _ _ h => h) ⟨Or.inl ⟨by rfl, ?_⟩, fun _ => rfl⟩ ?_; rotate_left; focus (intro w; go_simp; try with_reducible rfl)
    refine wpAnyIn_all (rs := [18]) Z6 (by simp) ?_; refine AllReadyIn.cons rfl (fun K hK => ?_) (AllReadyIn.nil) <;> go_simp <;> refine hK _ _ ?_ <;> clear hK K
    refine wpAnyIn_all (rs := [19]) Z6 (by simp) ?_; refine AllReadyIn.cons rfl (fun K hK => ?_) (AllReadyIn.nil) <;> go_simp <;> refine hK _ _ ?_ <;> clear hK K
    ·refine wpAnyIn_done Z6 ?_ _; refine near_post hS0 hB HW2.out hS2 hr1 hr2 hr3 hr4 HK2.out HB2.out ?_ ?_
     all_goals (first | exact (near_ne pre x Z152).1 | exact (near_ne pre x Z152).2 | exact (near_eq pre x Z152).1 | exact (near_eq pre x Z152).2)
def size_terms_near.f (l0_0 : List Int) (l0_1 : List ByteArray) (a0_2 : ByteArray) (a1 : Int) : Option (Int × Int × Bool) := if l0_0.length ≤ 100000 ∧ 0 ≤ a1 ∧ a1 ≤ 1000000000 then (nearL a1 l0_0 l0_1).bind fun l => some ((nearSum l).1, (nearSum l).2, true) else none
theorem size_terms_near.calls (A0_0 : Option Addr) (c0_0 : Nat) (l0_0 : List Int) (A0_1 : Option Addr) (c0_1 : Nat) (l0_1 : List ByteArray) (a0_2 : ByteArray) (a1 : Int) (r1 : Int) (r2 : Int) (r3 : Bool) (w : World) (hr0_0 : Kd.C (Kd.int .i64) w A0_0 l0_0.length l0_0) (hc0_0 : l0_0.length ≤ c0_0) (hr0_1 : Kd.C Kd.string w A0_1 l0_1.length l0_1) (hc0_1 : l0_1.length ≤ c0_1) (hG : GL w) (h : size_terms_near.f l0_0 l0_1 a0_2 a1 = some (r1, r2, r3)) :
  Calls Tryz.prog 185 #[.agg #[.slice A0_0 l0_0.length c0_0, .slice A0_1 l0_1.length c0_1, .string a0_2], .int .i64 a1] w fun e w' => e = .returned (.tuple #[.int .i64 r1, .int .i64 r2, .bool r3]) ∧ Below w.heap.size w w' := by
 unfold size_terms_near.f at h
 by_cases c : l0_0.length ≤ 100000 ∧ 0 ≤ a1 ∧ a1 ≤ 1000000000
 ·rw [if_pos c] at h; obtain ⟨l, hl, he⟩ := Option.bind_eq_some_iff.1 h; simp only [Option.some.injEq, Prod.mk.injEq] at he; obtain ⟨rfl, rfl, rfl⟩ := he; exact callsIn_wide.1 (near_walk A0_0 c0_0 l0_0 A0_1 c0_1 l0_1 a0_2 a1 l w hr0_0 hr0_1 c.1 c.2.1 c.2.2 hG hl)
 ·rw [if_neg c] at h; cases h
end

def size_downward.f (a0 : Int) (a1 : Int) : Option (Int) := if a0 < 0 then (if a1 = 0 then (none) else (some (wrap64 (-(wrap64 (Int.tdiv (wrap64 ((wrap64 ((wrap64 (-a0)) + a1)) - 1)) a1)))))) else (if a1 = 0 then (none) else (some (wrap64 (Int.tdiv a0 a1))))
theorem size_downward.calls (a0 : Int) (a1 : Int) (r : Int) (w : World) (hG : GL w) (h : size_downward.f a0 a1 = some r) :
  Calls Tryz.prog 186 #[.int .i64 a0, .int .i64 a1] w fun e w' => e = .returned (.int .i64 r) ∧ Drawn0 w w' := by
 have HB := AS (blr w); have H : (if a0 < 0 then (if a1 = 0 then (none) else (some (wrap64 (-(wrap64 (Int.tdiv (wrap64 ((wrap64 ((wrap64 (-a0)) + a1)) - 1)) a1)))))) else (if a1 = 0 then (none) else (some (wrap64 (Int.tdiv a0 a1))))) = some r := h; clear h
 by_cases c3 : a0 < 0
 ·rw [if_pos c3] at H
  have c3b0 : decide (a0 < 0) = true := dqt c3; clear c3
  by_cases c4 : a1 = 0
  ·rw [if_pos c4] at H
   exact absurd H (by simp)
  ·rw [if_neg c4] at H
   have c4b0 : (a1 == 0) = false := bqf c4; have c4b1 : (a1 != 0) = true := bnt c4; obtain rfl := Option.some.inj H; go_enter Tryz.func186, Tryz.ntmps186; go_wp2; go_ret; exact ⟨Z4, Z11⟩
 ·rw [if_neg c3] at H
  have c3b0 : decide (a0 < 0) = false := decide_eq_false c3; clear c3
  by_cases c5 : a1 = 0
  ·rw [if_pos c5] at H
   exact absurd H (by simp)
  ·rw [if_neg c5] at H
   have c5b0 : (a1 == 0) = false := bqf c5; have c5b1 : (a1 != 0) = true := bnt c5; obtain rfl := Option.some.inj H; go_enter Tryz.func186, Tryz.ntmps186; go_wp2; go_ret; exact ⟨Z4, Z11⟩
mutual
def sqot.j0 : Nat → Int → Int → Int → Int → Int → Int → Bool → Option (Int × Bool)
 | 0, _, _, _, _, _, _, _ => none
 | k + 1, x6, x7, x9, x10, x12, x14, x65 => if x65 = true then (some (0, false)) else (if x10 ≤ 0 then (sqot.j1 k (wrap64 (-x7)) (wrap64 (-x6)) (wrap64 (-x10)) (wrap64 (-x9)) x12 x14) else (sqot.j1 k x6 x7 x9 x10 x12 x14))
def sqot.j1 : Nat → Int → Int → Int → Int → Int → Int → Option (Int × Bool)
 | 0, _, _, _, _, _, _ => none
 | k + 1, x6, x7, x9, x10, x12, x14 => if x9 ≤ 0 then (some (0, false)) else (if x6 < 0 then (sqot.j2 k x6 x7 x10 x12 x14 x9 x9) else (sqot.j2 k x6 x7 x10 x12 x14 x10 x9))
def sqot.j2 : Nat → Int → Int → Int → Int → Int → Int → Int → Option (Int × Bool)
 | 0, _, _, _, _, _, _, _ => none
 | k + 1, x6, x7, x10, x12, x14, x16, x17 => if x7 < 0 then ((size_downward.f (wrap64 (x6 * x14)) (wrap64 (x16 * x12))).bind fun t352 => ((size_downward.f (wrap64 (x7 * x14)) (wrap64 (x10 * x12))).bind fun t353 => (some (t352, (t352 == t353))))) else ((size_downward.f (wrap64 (x6 * x14)) (wrap64 (x16 * x12))).bind fun t354 => ((size_downward.f (wrap64 (x7 * x14)) (wrap64 (x17 * x12))).bind fun t355 => (some (t354, (t354 == t355)))))
end
def sqot.f (k : Nat) (l0_0 : List Int) (l0_1 : List ByteArray) (a0_2 : ByteArray) (l1_0 : List Int) (l1_1 : List ByteArray) (a1_2 : ByteArray) : Option (Int × Bool) := (size_terms_near.f l0_0 l0_1 a0_2 100000).bind fun bt342 => ((size_terms_near.f l1_0 l1_1 a1_2 100000).bind fun bt345 => ((whole_Small.f a0_2).bind fun bt348 => ((whole_Small.f a1_2).bind fun bt350 => (if bt342.2.2 = true then (if bt345.2.2 = true then (if bt348.2 = true then (if bt350.2 = true then (if bt348.1 > 10000 then (sqot.j0 k bt342.1 bt342.2.1 bt345.1 bt345.2.1 bt348.1 bt350.1 true) else (sqot.j0 k bt342.1 bt342.2.1 bt345.1 bt345.2.1 bt348.1 bt350.1 (decide (bt350.1 > 10000)))) else (sqot.j0 k bt342.1 bt342.2.1 bt345.1 bt345.2.1 bt348.1 bt350.1 true)) else (sqot.j0 k bt342.1 bt342.2.1 bt345.1 bt345.2.1 bt348.1 bt350.1 true)) else (sqot.j0 k bt342.1 bt342.2.1 bt345.1 bt345.2.1 bt348.1 bt350.1 true)) else (sqot.j0 k bt342.1 bt342.2.1 bt345.1 bt345.2.1 bt348.1 bt350.1 true)))))
theorem sqot.calls (k : Nat) (A0_0 : Option Addr) (c0_0 : Nat) (l0_0 : List Int) (A0_1 : Option Addr) (c0_1 : Nat) (l0_1 : List ByteArray) (a0_2 : ByteArray) (A1_0 : Option Addr) (c1_0 : Nat) (l1_0 : List Int) (A1_1 : Option Addr) (c1_1 : Nat) (l1_1 : List ByteArray) (a1_2 : ByteArray) (r1 : Int) (r2 : Bool) (w : World) (hr0_0 : Kd.C (Kd.int .i64) w A0_0 l0_0.length l0_0) (hc0_0 : l0_0.length ≤ c0_0) (hr0_1 : Kd.C Kd.string w A0_1 l0_1.length l0_1) (hc0_1 : l0_1.length ≤ c0_1) (hr1_0 : Kd.C (Kd.int .i64) w A1_0 l1_0.length l1_0) (hc1_0 : l1_0.length ≤ c1_0) (hr1_1 : Kd.C Kd.string w A1_1 l1_1.length l1_1) (hc1_1 : l1_1.length ≤ c1_1) (hG : GL w) (h : sqot.f k l0_0 l0_1 a0_2 l1_0 l1_1 a1_2 = some (r1, r2)) :
  Calls Tryz.prog 152 #[.agg #[.slice A0_0 l0_0.length c0_0, .slice A0_1 l0_1.length c0_1, .string a0_2], .agg #[.slice A1_0 l1_0.length c1_0, .slice A1_1 l1_1.length c1_1, .string a1_2]] w fun e w' => e = .returned (.tuple #[.int .i64 r1, .bool r2]) ∧ Below w.heap.size w w' := by
 have hu191 := Tryz.underlying191; have HR0_0 := AS hr0_0; have HC0_0 := AS hc0_0; clear hr0_0 hc0_0; have HR0_1 := AS hr0_1; have HC0_1 := AS hc0_1; clear hr0_1 hc0_1; have HR1_0 := AS hr1_0; have HC1_0 := AS hc1_0; clear hr1_0 hc1_0; have HR1_1 := AS hr1_1; have HC1_1 := AS hc1_1; clear hr1_1 hc1_1; have HB := AS (blr w); have H : ((size_terms_near.f l0_0 l0_1 a0_2 100000).bind fun bt342 => ((size_terms_near.f l1_0 l1_1 a1_2 100000).bind fun bt345 => ((whole_Small.f a0_2).bind fun bt348 => ((whole_Small.f a1_2).bind fun bt350 => (if bt342.2.2 = true then (if bt345.2.2 = true then (if bt348.2 = true then (if bt350.2 = true then (if bt348.1 > 10000 then (sqot.j0 k bt342.1 bt342.2.1 bt345.1 bt345.2.1 bt348.1 bt350.1 true) else (sqot.j0 k bt342.1 bt342.2.1 bt345.1 bt345.2.1 bt348.1 bt350.1 (decide (bt350.1 > 10000)))) else (sqot.j0 k bt342.1 bt342.2.1 bt345.1 bt345.2.1 bt348.1 bt350.1 true)) else (sqot.j0 k bt342.1 bt342.2.1 bt345.1 bt345.2.1 bt348.1 bt350.1 true)) else (sqot.j0 k bt342.1 bt342.2.1 bt345.1 bt345.2.1 bt348.1 bt350.1 true)) else (sqot.j0 k bt342.1 bt342.2.1 bt345.1 bt345.2.1 bt348.1 bt350.1 true)))))) = some (r1, r2) := h; clear h; replace H := bsm H; obtain ⟨⟨t342, t343, t344⟩, A30, H⟩ := H; replace H : ((size_terms_near.f l1_0 l1_1 a1_2 100000).bind fun bt345 => ((whole_Small.f a0_2).bind fun bt348 => ((whole_Small.f a1_2).bind fun bt350 => (if t344 = true then (if bt345.2.2 = true then (if bt348.2 = true then (if bt350.2 = true then (if bt348.1 > 10000 then (sqot.j0 k t342 t343 bt345.1 bt345.2.1 bt348.1 bt350.1 true) else (sqot.j0 k t342 t343 bt345.1 bt345.2.1 bt348.1 bt350.1 (decide (bt350.1 > 10000)))) else (sqot.j0 k t342 t343 bt345.1 bt345.2.1 bt348.1 bt350.1 true)) else (sqot.j0 k t342 t343 bt345.1 bt345.2.1 bt348.1 bt350.1 true)) else (sqot.j0 k t342 t343 bt345.1 bt345.2.1 bt348.1 bt350.1 true)) else (sqot.j0 k t342 t343 bt345.1 bt345.2.1 bt348.1 bt350.1 true))))) = some (r1, r2) := H; have A3 := AS A30; clear A30; replace H := bsm H; obtain ⟨⟨t345, t346, t347⟩, A40, H⟩ := H; replace H : ((whole_Small.f a0_2).bind fun bt348 => ((whole_Small.f a1_2).bind fun bt350 => (if t344 = true then (if t347 = true then (if bt348.2 = true then (if bt350.2 = true then (if bt348.1 > 10000 then (sqot.j0 k t342 t343 t345 t346 bt348.1 bt350.1 true) else (sqot.j0 k t342 t343 t345 t346 bt348.1 bt350.1 (decide (bt350.1 > 10000)))) else (sqot.j0 k t342 t343 t345 t346 bt348.1 bt350.1 true)) else (sqot.j0 k t342 t343 t345 t346 bt348.1 bt350.1 true)) else (sqot.j0 k t342 t343 t345 t346 bt348.1 bt350.1 true)) else (sqot.j0 k t342 t343 t345 t346 bt348.1 bt350.1 true)))) = some (r1, r2) := H; have A4 := AS A40; clear A40; replace H := bsm H; obtain ⟨⟨t348, t349⟩, A50, H⟩ := H; replace H : ((whole_Small.f a1_2).bind fun bt350 => (if t344 = true then (if t347 = true then (if t349 = true then (if bt350.2 = true then (if t348 > 10000 then (sqot.j0 k t342 t343 t345 t346 t348 bt350.1 true) else (sqot.j0 k t342 t343 t345 t346 t348 bt350.1 (decide (bt350.1 > 10000)))) else (sqot.j0 k t342 t343 t345 t346 t348 bt350.1 true)) else (sqot.j0 k t342 t343 t345 t346 t348 bt350.1 true)) else (sqot.j0 k t342 t343 t345 t346 t348 bt350.1 true)) else (sqot.j0 k t342 t343 t345 t346 t348 bt350.1 true))) = some (r1, r2) := H; have A5 := AS A50; clear A50; replace H := bsm H; obtain ⟨⟨t350, t351⟩, A60, H⟩ := H; replace H : (if t344 = true then (if t347 = true then (if t349 = true then (if t351 = true then (if t348 > 10000 then (sqot.j0 k t342 t343 t345 t346 t348 t350 true) else (sqot.j0 k t342 t343 t345 t346 t348 t350 (decide (t350 > 10000)))) else (sqot.j0 k t342 t343 t345 t346 t348 t350 true)) else (sqot.j0 k t342 t343 t345 t346 t348 t350 true)) else (sqot.j0 k t342 t343 t345 t346 t348 t350 true)) else (sqot.j0 k t342 t343 t345 t346 t348 t350 true)) = some (r1, r2) := H; have A6 := AS A60; clear A60; have HC7 := AS H; clear H; go_enter Tryz.func152, Tryz.ntmps152
 go_upto_region 5 with (first | ((with_reducible refine gtd (N := 2) rfl ?_); refine bxe ?hg (N := 2) ?hd (cs := #[.slice A0_0 l0_0.length c0_0, .slice A0_1 l0_1.length c0_1, .string a0_2]) (t := 191) ?hr ?_; (case hd => rfl); (case hg => rfl); (case hr => exact Z12); intro gb340 hg w8 hbox hb; have BK340 := AS (hbox); have GW340 := AS ((Z169 : w.heap.size ≤ gb340)); have GE340 := GW340; replace HB := AS (bst Z0 hb); clear hb hbox hg) | ((with_reducible refine gtd (N := 3) rfl ?_); refine bxe ?hg (N := 3) ?hd (cs := #[.slice A1_0 l1_0.length c1_0, .slice A1_1 l1_1.length c1_1, .string a1_2]) (t := 191) ?hr ?_; (case hd => rfl); (case hg => rfl); (case hr => exact Z12); intro gb341 hg w9 hbox hb; have BK341 := AS (hbox); have GW341 := AS ((by rw [hg]; exact (bsz Z106) : w.heap.size ≤ gb341)); have GE341 := AS ((by rw [hg]; exact (bsz Z106) : w.heap.size ≤ gb341)); have NB340_341 := AS ((by rw [hg]; exact Nat.ne_of_lt (blk_lt (g := gb340) (o := .cells #[.slice A0_0 l0_0.length c0_0, .slice A0_1 l0_1.length c0_1, .string a0_2] 191 (0, 0)) Z25) : gb340 ≠ gb341)); have NB341_340 := AS ((by rw [hg]; exact Nat.ne_of_gt (blk_lt (g := gb340) (o := .cells #[.slice A0_0 l0_0.length c0_0, .slice A0_1 l0_1.length c0_1, .string a0_2] 191 (0, 0)) Z25) : gb341 ≠ gb340)); replace BK340 := AS (bbl (g := gb340) (o := .cells #[.slice A0_0 l0_0.length c0_0, .slice A0_1 l0_1.length c0_1, .string a0_2] 191 (0, 0)) Z25 hb); replace HB := AS (bst Z106 hb); clear hb hbox hg; have hnb10 := NB340_341.out; have hnc10 := NB341_340.out; have hcz11_0 := bc0 BK340.out; have hcz11_1 := bc1 BK340.out; have hcz11_2 := bc2 BK340.out; have hfz11_0 := bfz BK340.out 0; have hfz11_1 := bfz BK340.out 1; have hfz11_2 := bfz BK340.out 2) | ((with_reducible refine gtc (f := 185) rfl ?_); refine gsL (some 22) rfl rfl Tryz.func185 Z6 rfl #[.agg #[.slice A0_0 l0_0.length c0_0, .slice A0_1 l0_1.length c0_1, .string a0_2], .int .i64 100000] rfl Z1 ?_; (with_reducible refine (size_terms_near.calls _ _ l0_0 _ _ l0_1 a0_2 100000 t342 t343 t344 _ ?side1 ?side2 ?side3 ?side4 ?side5 A3.out).mono ?_); (case side1 => repeat (first | exact (Kd.C_below HR0_0.out HB.out) | (with_reducible refine Kd.C_alloc ?_ _) | (with_reducible refine Kd.C_drewN ?_ _) | (with_reducible refine Kd.C_drew ?_))); (case side2 => exact HC0_0.out); (case side3 => repeat (first | exact (Kd.C_below HR0_1.out HB.out) | (with_reducible refine Kd.C_alloc ?_ _) | (with_reducible refine Kd.C_drewN ?_ _) | (with_reducible refine Kd.C_drew ?_))); (case side4 => exact HC0_1.out); (case side5 => exact Z194); rintro e w12 ⟨rfl, hb⟩; refine ⟨_, rfl, ?_⟩; replace BK340 := AS (bbl (g := gb340) (o := .cells #[.slice A0_0 l0_0.length c0_0, .slice A0_1 l0_1.length c0_1, .string a0_2] 191 (0, 0)) Z25 hb); replace BK341 := AS (bbl (g := gb341) (o := .cells #[.slice A1_0 l1_0.length c1_0, .slice A1_1 l1_1.length c1_1, .string a1_2] 191 (0, 0)) Z33 hb); replace HB := AS (bst Z7 hb); (try clear hb); have hcz13_0 := bc0 BK341.out; have hcz13_1 := bc1 BK341.out; have hcz13_2 := bc2 BK341.out; have hfz13_0 := bfz BK341.out 0; have hfz13_1 := bfz BK341.out 1; have hfz13_2 := bfz BK341.out 2) | ((with_reducible refine gtc (f := 185) rfl ?_); refine gsL (some 28) rfl rfl Tryz.func185 Z6 rfl #[.agg #[.slice A1_0 l1_0.length c1_0, .slice A1_1 l1_1.length c1_1, .string a1_2], .int .i64 100000] rfl Z1 ?_; (with_reducible refine (size_terms_near.calls _ _ l1_0 _ _ l1_1 a1_2 100000 t345 t346 t347 _ ?side1 ?side2 ?side3 ?side4 ?side5 A4.out).mono ?_); (case side1 => repeat (first | exact (Kd.C_below HR1_0.out HB.out) | (with_reducible refine Kd.C_alloc ?_ _) | (with_reducible refine Kd.C_drewN ?_ _) | (with_reducible refine Kd.C_drew ?_))); (case side2 => exact HC1_0.out); (case side3 => repeat (first | exact (Kd.C_below HR1_1.out HB.out) | (with_reducible refine Kd.C_alloc ?_ _) | (with_reducible refine Kd.C_drewN ?_ _) | (with_reducible refine Kd.C_drew ?_))); (case side4 => exact HC1_1.out); (case side5 => exact Z194); rintro e w14 ⟨rfl, hb⟩; refine ⟨_, rfl, ?_⟩; replace BK340 := AS (bbl (g := gb340) (o := .cells #[.slice A0_0 l0_0.length c0_0, .slice A0_1 l0_1.length c0_1, .string a0_2] 191 (0, 0)) Z25 hb); replace BK341 := AS (bbl (g := gb341) (o := .cells #[.slice A1_0 l1_0.length c1_0, .slice A1_1 l1_1.length c1_1, .string a1_2] 191 (0, 0)) Z33 hb); replace HB := AS (bst Z7 hb); (try clear hb); have hcz15_0 := bc0 BK340.out; have hcz15_1 := bc1 BK340.out; have hcz15_2 := bc2 BK340.out; have hfz15_0 := bfz BK340.out 0; have hfz15_1 := bfz BK340.out 1; have hfz15_2 := bfz BK340.out 2) | ((with_reducible refine gtc (f := 102) rfl ?_); refine gsL (some 35) rfl rfl Tryz.func102 Z6 rfl #[.string a0_2] rfl Z1 ?_; (with_reducible refine (whole_Small.calls a0_2 t348 t349 _ ?side1 A5.out).mono ?_); (case side1 => exact Z194); rintro e w16 ⟨rfl, hb⟩; refine ⟨_, rfl, ?_⟩; replace BK340 := AS (bbl (g := gb340) (o := .cells #[.slice A0_0 l0_0.length c0_0, .slice A0_1 l0_1.length c0_1, .string a0_2] 191 (0, 0)) Z25 hb); replace BK341 := AS (bbl (g := gb341) (o := .cells #[.slice A1_0 l1_0.length c1_0, .slice A1_1 l1_1.length c1_1, .string a1_2] 191 (0, 0)) Z33 hb); replace HB := AS (bst Z7 hb); (try clear hb); have hcz17_0 := bc0 BK341.out; have hcz17_1 := bc1 BK341.out; have hcz17_2 := bc2 BK341.out; have hfz17_0 := bfz BK341.out 0; have hfz17_1 := bfz BK341.out 1; have hfz17_2 := bfz BK341.out 2) | ((with_reducible refine gtc (f := 102) rfl ?_); refine gsL (some 41) rfl rfl Tryz.func102 Z6 rfl #[.string a1_2] rfl Z1 ?_; (with_reducible refine (whole_Small.calls a1_2 t350 t351 _ ?side1 A6.out).mono ?_); (case side1 => exact Z194); rintro e w18 ⟨rfl, hb⟩; refine ⟨_, rfl, ?_⟩; replace BK340 := AS (bbl (g := gb340) (o := .cells #[.slice A0_0 l0_0.length c0_0, .slice A0_1 l0_1.length c0_1, .string a0_2] 191 (0, 0)) Z25 hb); replace BK341 := AS (bbl (g := gb341) (o := .cells #[.slice A1_0 l1_0.length c1_0, .slice A1_1 l1_1.length c1_1, .string a1_2] 191 (0, 0)) Z33 hb); replace HB := AS (bst Z7 hb); (try clear hb)))
 (try simp only [Act.put, sA1, sA2, sA3])
 go_cut [65] (fun v65 wc => ∃ (kq : Nat) (x65_6 : Bool), v65 = .bool x65_6 ∧ Aside0 (sqot.j0 kq t342 t343 t345 t346 t348 t350 x65_6 = some (r1, r2)) ∧ Aside0 (kq ≤ k) ∧ Aside0 (wc.heap[gb340]? = some (.cells #[(.slice A0_0 l0_0.length c0_0), (.slice A0_1 l0_1.length c0_1), .string a0_2] 191 (0, 0))) ∧ Aside0 (wc.heap[gb341]? = some (.cells #[(.slice A1_0 l1_0.length c1_0), (.slice A1_1 l1_1.length c1_1), .string a1_2] 191 (0, 0))) ∧ Aside0 (Below w.heap.size w wc))
 case first =>
  have H := HC7.out; clear HC7
  by_cases c19 : t344 = true
  ·subst c19
   rw [if_pos rfl] at H
   by_cases c20 : t347 = true
   ·subst c20
    rw [if_pos rfl] at H
    by_cases c21 : t349 = true
    ·subst c21
     rw [if_pos rfl] at H
     by_cases c22 : t351 = true
     ·subst c22
      rw [if_pos rfl] at H
      by_cases c23 : t348 > 10000
      ·rw [if_pos c23] at H
       have c23b0 : decide (10000 < t348) = true := dqt c23; clear c23
       (first | rw [c23b0] | (simp only [i64_w, i32_w]; rw [c23b0]) | skip)
       have H' := AS H; clear H; go_wp2; go_meet
       case rel => exact ⟨_, (true), Z4, H', ⟨Z61⟩, ⟨Z25⟩, ⟨Z33⟩, ⟨Z7⟩⟩
      ·rw [if_neg c23] at H
       have c23b0 : decide (10000 < t348) = false := decide_eq_false c23; clear c23
       (first | rw [c23b0] | (simp only [i64_w, i32_w]; rw [c23b0]) | skip)
       have H' := AS H; clear H; go_wp2; go_meet
       case rel => exact ⟨_, (decide (t350 > 10000)), Z4, H', ⟨Z61⟩, ⟨Z25⟩, ⟨Z33⟩, ⟨Z7⟩⟩
     ·replace c22 := Bool.eq_false_iff.mpr c22; subst c22
      rw [if_neg ffl] at H
      have H' := AS H; clear H; go_wp2; go_meet
      case rel => exact ⟨_, (true), Z4, H', ⟨Z61⟩, ⟨Z25⟩, ⟨Z33⟩, ⟨Z7⟩⟩
    ·replace c21 := Bool.eq_false_iff.mpr c21; subst c21
     rw [if_neg ffl] at H
     have H' := AS H; clear H; go_wp2; go_meet
     case rel => exact ⟨_, (true), Z4, H', ⟨Z61⟩, ⟨Z25⟩, ⟨Z33⟩, ⟨Z7⟩⟩
   ·replace c20 := Bool.eq_false_iff.mpr c20; subst c20
    rw [if_neg ffl] at H
    have H' := AS H; clear H; go_wp2; go_meet
    case rel => exact ⟨_, (true), Z4, H', ⟨Z61⟩, ⟨Z25⟩, ⟨Z33⟩, ⟨Z7⟩⟩
  ·replace c19 := Bool.eq_false_iff.mpr c19; subst c19
   rw [if_neg ffl] at H
   have H' := AS H; clear H; go_wp2; go_meet
   case rel => exact ⟨_, (true), Z4, H', ⟨Z61⟩, ⟨Z25⟩, ⟨Z33⟩, ⟨Z7⟩⟩
 case rest =>
  clear HC7; (try clear c1); (try clear c2); (try clear p2); (try clear c10); (try clear c15); (try clear c18); (try clear c19); (try clear c20); (try clear c21); (try clear c22); (try clear c23); (try clear c23b0); (try clear hcz11_0); (try clear hcz11_1); (try clear hcz11_2); (try clear hcz13_0); (try clear hcz13_1); (try clear hcz13_2); (try clear hcz15_0); (try clear hcz15_1); (try clear hcz15_2); (try clear hcz17_0); (try clear hcz17_1); (try clear hcz17_2); (try clear hfz11_0); (try clear hfz11_1); (try clear hfz11_2); (try clear hfz13_0); (try clear hfz13_1); (try clear hfz13_2); (try clear hfz15_0); (try clear hfz15_1); (try clear hfz15_2); (try clear hfz17_0); (try clear hfz17_1); (try clear hfz17_2); obtain ⟨kq, x65_6, rfl, HA, HJ6, BK340, BK341, HB⟩ := hcut
  cases kq with
  | zero => exact absurd HA.out (by simp [sqot.j0])
  | succ kj6 =>
   have H := HA.out; clear HA
   simp only [sqot.j0] at H
   by_cases c24 : x65_6 = true
   ·subst c24
    rw [if_pos rfl] at H
    simp only [Option.some.injEq, Prod.mk.injEq] at H
    obtain ⟨rfl, rfl⟩ := H; go_wp2; go_ret2; exact ⟨Z3, Z7⟩
   ·replace c24 := Bool.eq_false_iff.mpr c24; subst c24
    rw [if_neg ffl] at H
    have HC25 := AS H; clear H
    go_upto_if 67 with (fail)
    go_cut [6, 7, 9, 10] (fun v6 v7 v9 v10 wc => ∃ (kq : Nat) (x6_24 : Int) (x7_24 : Int) (x9_24 : Int) (x10_24 : Int), v6 = .int .i64 x6_24 ∧ v7 = .int .i64 x7_24 ∧ v9 = .int .i64 x9_24 ∧ v10 = .int .i64 x10_24 ∧ Aside0 (sqot.j1 kq x6_24 x7_24 x9_24 x10_24 t348 t350 = some (r1, r2)) ∧ Aside0 (kq ≤ kj6) ∧ Aside0 (wc.heap[gb340]? = some (.cells #[(.slice A0_0 l0_0.length c0_0), (.slice A0_1 l0_1.length c0_1), .string a0_2] 191 (0, 0))) ∧ Aside0 (wc.heap[gb341]? = some (.cells #[(.slice A1_0 l1_0.length c1_0), (.slice A1_1 l1_1.length c1_1), .string a1_2] 191 (0, 0))) ∧ Aside0 (Below w.heap.size w wc))
    case first =>
     have H := HC25.out; clear HC25
     by_cases c26 : t346 ≤ 0
     ·rw [if_pos c26] at H
      have c26b0 : decide (t346 ≤ 0) = true := dqt c26; clear c26
      (first | rw [c26b0] | (simp only [i64_w, i32_w]; rw [c26b0]) | skip)
      have H' := AS H; clear H; go_wp2; go_meet
      case rel => exact ⟨_, (wrap64 (-t343)), (wrap64 (-t342)), (wrap64 (-t346)), (wrap64 (-t345)), Z4, Z4, Z4, Z4, H', ⟨Z161⟩, ⟨Z25⟩, ⟨Z33⟩, ⟨Z7⟩⟩
     ·rw [if_neg c26] at H
      have c26b0 : decide (t346 ≤ 0) = false := decide_eq_false c26; clear c26
      (first | rw [c26b0] | (simp only [i64_w, i32_w]; rw [c26b0]) | skip)
      have H' := AS H; clear H; go_wp2; go_meet
      case rel => exact ⟨_, (t342), (t343), (t345), (t346), Z4, Z4, Z4, Z4, H', ⟨Z161⟩, ⟨Z25⟩, ⟨Z33⟩, ⟨Z7⟩⟩
    case rest =>
     clear HC25; (try clear c1); (try clear c2); (try clear p2); (try clear p6); (try clear c10); (try clear c15); (try clear c18); (try clear c19); (try clear c20); (try clear c21); (try clear c22); (try clear c23); (try clear c23b0); (try clear c24); (try clear c26); (try clear c26b0); (try clear hcz11_0); (try clear hcz11_1); (try clear hcz11_2); (try clear hcz13_0); (try clear hcz13_1); (try clear hcz13_2); (try clear hcz15_0); (try clear hcz15_1); (try clear hcz15_2); (try clear hcz17_0); (try clear hcz17_1); (try clear hcz17_2); (try clear hfz11_0); (try clear hfz11_1); (try clear hfz11_2); (try clear hfz13_0); (try clear hfz13_1); (try clear hfz13_2); (try clear hfz15_0); (try clear hfz15_1); (try clear hfz15_2); (try clear hfz17_0); (try clear hfz17_1); (try clear hfz17_2); (try clear p2); obtain ⟨kq, x6_24, x7_24, x9_24, x10_24, rfl, rfl, rfl, rfl, HA, HJ24, BK340, BK341, HB⟩ := hcut
     cases kq with
     | zero => exact absurd HA.out (by simp [sqot.j1])
     | succ kj24 =>
      have H := HA.out; clear HA
      simp only [sqot.j1] at H
      by_cases c27 : x9_24 ≤ 0
      ·rw [if_pos c27] at H
       have c27b0 : decide (x9_24 ≤ 0) = true := dqt c27; clear c27
       simp only [Option.some.injEq, Prod.mk.injEq] at H
       obtain ⟨rfl, rfl⟩ := H; go_wp2; go_ret2; exact ⟨Z3, Z7⟩
      ·rw [if_neg c27] at H
       have c27b0 : decide (x9_24 ≤ 0) = false := decide_eq_false c27; clear c27; have HC28 := AS H; clear H
       go_upto_if 81 with (fail)
       go_cut [16] (fun v16 wc => ∃ (kq : Nat) (x16_27 : Int), v16 = .int .i64 x16_27 ∧ Aside0 (sqot.j2 kq x6_24 x7_24 x10_24 t348 t350 x16_27 x9_24 = some (r1, r2)) ∧ Aside0 (kq ≤ kj24) ∧ Aside0 (wc.heap[gb340]? = some (.cells #[(.slice A0_0 l0_0.length c0_0), (.slice A0_1 l0_1.length c0_1), .string a0_2] 191 (0, 0))) ∧ Aside0 (wc.heap[gb341]? = some (.cells #[(.slice A1_0 l1_0.length c1_0), (.slice A1_1 l1_1.length c1_1), .string a1_2] 191 (0, 0))) ∧ Aside0 (Below w.heap.size w wc))
       case first =>
        have H := HC28.out; clear HC28
        by_cases c29 : x6_24 < 0
        ·rw [if_pos c29] at H
         have c29b0 : decide (x6_24 < 0) = true := dqt c29; clear c29
         (first | rw [c29b0] | (simp only [i64_w, i32_w]; rw [c29b0]) | skip)
         have H' := AS H; clear H; go_wp2; go_meet
         case rel => exact ⟨_, (x9_24), Z4, H', ⟨Z153⟩, ⟨Z25⟩, ⟨Z33⟩, ⟨Z7⟩⟩
        ·rw [if_neg c29] at H
         have c29b0 : decide (x6_24 < 0) = false := decide_eq_false c29; clear c29
         (first | rw [c29b0] | (simp only [i64_w, i32_w]; rw [c29b0]) | skip)
         have H' := AS H; clear H; go_wp2; go_meet
         case rel => exact ⟨_, (x10_24), Z4, H', ⟨Z153⟩, ⟨Z25⟩, ⟨Z33⟩, ⟨Z7⟩⟩
       case rest =>
        clear HC28; (try clear c1); (try clear c2); (try clear p2); (try clear p6); (try clear c10); (try clear c15); (try clear c18); (try clear c19); (try clear c20); (try clear c21); (try clear c22); (try clear c23); (try clear c23b0); (try clear c24); (try clear c26); (try clear c26b0); (try clear c27); (try clear c27b0); (try clear c29); (try clear c29b0); (try clear hcz11_0); (try clear hcz11_1); (try clear hcz11_2); (try clear hcz13_0); (try clear hcz13_1); (try clear hcz13_2); (try clear hcz15_0); (try clear hcz15_1); (try clear hcz15_2); (try clear hcz17_0); (try clear hcz17_1); (try clear hcz17_2); (try clear hfz11_0); (try clear hfz11_1); (try clear hfz11_2); (try clear hfz13_0); (try clear hfz13_1); (try clear hfz13_2); (try clear hfz15_0); (try clear hfz15_1); (try clear hfz15_2); (try clear hfz17_0); (try clear hfz17_1); (try clear hfz17_2); (try clear p2); (try clear p6); obtain ⟨kq, x16_27, rfl, HA, HJ27, BK340, BK341, HB⟩ := hcut
        cases kq with
        | zero => exact absurd HA.out (by simp [sqot.j2])
        | succ kj27 =>
         have H := HA.out; clear HA
         simp only [sqot.j2] at H
         by_cases c30 : x7_24 < 0
         ·rw [if_pos c30] at H
          have c30b0 : decide (x7_24 < 0) = true := dqt c30; clear c30; replace H := bsm H; obtain ⟨t352, A310, H⟩ := H; replace H : ((size_downward.f (wrap64 (x7_24 * t350)) (wrap64 (x10_24 * t348))).bind fun t353 => (some (t352, (t352 == t353)))) = some (r1, r2) := H; have A31 := AS A310; clear A310; replace H := bsm H; obtain ⟨t353, A320, H⟩ := H; replace H : (some (t352, (t352 == t353))) = some (r1, r2) := H; have A32 := AS A320; clear A320
          simp only [Option.some.injEq, Prod.mk.injEq] at H
          obtain ⟨rfl, rfl⟩ := H; go_wp2_with (first | ((with_reducible refine gtc (f := 186) rfl ?_); refine gsL (some 92) rfl rfl Tryz.func186 Z6 rfl #[.int .i64 (wrap64 (x6_24 * t350)), .int .i64 (wrap64 (x16_27 * t348))] rfl Z1 ?_; (with_reducible refine (size_downward.calls (wrap64 (x6_24 * t350)) (wrap64 (x16_27 * t348)) t352 _ ?side1 A31.out).mono ?_); (case side1 => exact Z194); rintro e w' ⟨rfl, ⟨nd, rfl⟩⟩; refine ⟨_, rfl, ?_⟩) | ((with_reducible refine gtc (f := 186) rfl ?_); refine gsL (some 99) rfl rfl Tryz.func186 Z6 rfl #[.int .i64 (wrap64 (x7_24 * t350)), .int .i64 (wrap64 (x10_24 * t348))] rfl Z1 ?_; (with_reducible refine (size_downward.calls (wrap64 (x7_24 * t350)) (wrap64 (x10_24 * t348)) t353 _ ?side1 A32.out).mono ?_); (case side1 => exact Z194); rintro e w' ⟨rfl, ⟨nd, rfl⟩⟩; refine ⟨_, rfl, ?_⟩)); go_ret2; exact ⟨Z3, Z7⟩
         ·rw [if_neg c30] at H
          have c30b0 : decide (x7_24 < 0) = false := decide_eq_false c30; clear c30; replace H := bsm H; obtain ⟨t354, A330, H⟩ := H; replace H : ((size_downward.f (wrap64 (x7_24 * t350)) (wrap64 (x9_24 * t348))).bind fun t355 => (some (t354, (t354 == t355)))) = some (r1, r2) := H; have A33 := AS A330; clear A330; replace H := bsm H; obtain ⟨t355, A340, H⟩ := H; replace H : (some (t354, (t354 == t355))) = some (r1, r2) := H; have A34 := AS A340; clear A340
          simp only [Option.some.injEq, Prod.mk.injEq] at H
          obtain ⟨rfl, rfl⟩ := H; go_wp2_with (first | ((with_reducible refine gtc (f := 186) rfl ?_); refine gsL (some 92) rfl rfl Tryz.func186 Z6 rfl #[.int .i64 (wrap64 (x6_24 * t350)), .int .i64 (wrap64 (x16_27 * t348))] rfl Z1 ?_; (with_reducible refine (size_downward.calls (wrap64 (x6_24 * t350)) (wrap64 (x16_27 * t348)) t354 _ ?side1 A33.out).mono ?_); (case side1 => exact Z194); rintro e w' ⟨rfl, ⟨nd, rfl⟩⟩; refine ⟨_, rfl, ?_⟩) | ((with_reducible refine gtc (f := 186) rfl ?_); refine gsL (some 99) rfl rfl Tryz.func186 Z6 rfl #[.int .i64 (wrap64 (x7_24 * t350)), .int .i64 (wrap64 (x9_24 * t348))] rfl Z1 ?_; (with_reducible refine (size_downward.calls (wrap64 (x7_24 * t350)) (wrap64 (x9_24 * t348)) t355 _ ?side1 A34.out).mono ?_); (case side1 => exact Z194); rintro e w' ⟨rfl, ⟨nd, rfl⟩⟩; refine ⟨_, rfl, ?_⟩)); go_ret2; exact ⟨Z3, Z7⟩
def size_floor.l0 : Nat → Option (ByteArray)
 | 0 => none
 | k + 1 => none
def size_floor.f (k : Nat) (l0 : List Int) (l1 : List (S53)) (l2 : List (S53)) : Option (ByteArray) := (szra.f k l1 l2).bind fun bt356 => (if bt356.2.2 = true then ((fraction_Floor.f k bt356.1 bt356.2.1).bind fun t360 => (some t360)) else ((szTO.f k l0 l1).bind fun bt361 => ((szTO.f k l0 l2).bind fun bt368 => ((sqot.f k bt361.1 bt361.2.1 bt361.2.2 bt368.1 bt368.2.1 bt368.2.2).bind fun bt377 => (if bt377.2 = true then ((whOf.f bt377.1).bind fun t379 => (some t379)) else (size_floor.l0 k))))))
theorem size_floor.calls (k : Nat) (A0 : Option Addr) (c0 : Nat) (l0 : List Int) (A1 : Option Addr) (c1 : Nat) (l1 : List (S53)) (A2 : Option Addr) (c2 : Nat) (l2 : List (S53)) (r : ByteArray) (w : World) (hr0 : Kd.C (Kd.int .i64) w A0 l0.length l0) (hc0 : l0.length ≤ c0) (hr1 : Kd.C k53 w A1 l1.length l1) (hc1 : l1.length ≤ c1) (hr2 : Kd.C k53 w A2 l2.length l2) (hc2 : l2.length ≤ c2) (hG : GL w) (h : size_floor.f k l0 l1 l2 = some r) :
  Calls Tryz.prog 129 #[.slice A0 l0.length c0, .slice A1 l1.length c1, .slice A2 l2.length c2] w fun e w' => e = .returned (.string r) ∧ Below w.heap.size w w' := by
 have hu53 := Tryz.underlying53; have hu191 := Tryz.underlying191; have HR0 := AS hr0; have HC0 := AS hc0; clear hr0 hc0; have HR1 := AS hr1; have HC1 := AS hc1; clear hr1 hc1; have HR2 := AS hr2; have HC2 := AS hc2; clear hr2 hc2; have HB := AS (blr w); have H : ((szra.f k l1 l2).bind fun bt356 => (if bt356.2.2 = true then ((fraction_Floor.f k bt356.1 bt356.2.1).bind fun t360 => (some t360)) else ((szTO.f k l0 l1).bind fun bt361 => ((szTO.f k l0 l2).bind fun bt368 => ((sqot.f k bt361.1 bt361.2.1 bt361.2.2 bt368.1 bt368.2.1 bt368.2.2).bind fun bt377 => (if bt377.2 = true then ((whOf.f bt377.1).bind fun t379 => (some t379)) else (size_floor.l0 k))))))) = some r := h; clear h; replace H := bsm H; obtain ⟨⟨t356, t357, t358⟩, A40, H⟩ := H; replace H : (if t358 = true then ((fraction_Floor.f k t356 t357).bind fun t360 => (some t360)) else ((szTO.f k l0 l1).bind fun bt361 => ((szTO.f k l0 l2).bind fun bt368 => ((sqot.f k bt361.1 bt361.2.1 bt361.2.2 bt368.1 bt368.2.1 bt368.2.2).bind fun bt377 => (if bt377.2 = true then ((whOf.f bt377.1).bind fun t379 => (some t379)) else (size_floor.l0 k)))))) = some r := H; have A4 := AS A40; clear A40
 by_cases c5 : t358 = true
 ·subst c5
  rw [if_pos rfl] at H
  replace H := bsm H; obtain ⟨t360, A60, H⟩ := H; replace H : (some t360) = some r := H; have A6 := AS A60; clear A60; obtain rfl := Option.some.inj H; go_enter Tryz.func129, Tryz.ntmps129; go_wp2_with (first | ((with_reducible refine gtc (f := 150) rfl ?_); refine gsL (some 29) rfl rfl Tryz.func150 Z6 rfl #[.slice A1 l1.length c1, .slice A2 l2.length c2] rfl Z1 ?_; (with_reducible refine (szra.calls k _ _ l1 _ _ l2 t356 t357 true _ ?side1 ?side2 ?side3 ?side4 ?side5 A4.out).mono ?_); (case side1 => exact Z42); (case side2 => exact Z133); (case side3 => exact Z89); (case side4 => exact Z160); (case side5 => exact Z168); rintro e w7 ⟨rfl, hb⟩; refine ⟨_, rfl, ?_⟩; replace HB := AS (bst Z0 hb); (try clear hb)) | ((with_reducible refine gtd (N := 7) rfl ?_); refine bxe ?hg (N := 7) ?hd (cs := #[.string ⟨#[]⟩, .string ⟨#[]⟩]) (t := 53) ?hr ?_; (case hd => rfl); (case hg => rfl); (case hr => exact Z12); intro gb359 hg w8 hbox hb; have BK359 := AS (hbox); have GW359 := AS ((Z169 : w.heap.size ≤ gb359)); have GE359 := GW359; replace HB := AS (bst Z0 hb); clear hb hbox hg; have hcz9_0 := bc0 BK359.out; have hcz9_1 := bc1 BK359.out; have hfz9_0 := bfz BK359.out 0; have hfz9_1 := bfz BK359.out 1) | ((with_reducible refine gtc (f := 151) rfl ?_); refine gsL (some 34) rfl rfl Tryz.func151 Z6 rfl #[.agg #[.string t356, .string t357]] rfl Z1 ?_; (with_reducible refine (fraction_Floor.calls k t356 t357 t360 _ ?side1 A6.out).mono ?_); (case side1 => exact Z198); rintro e w10 ⟨rfl, hb⟩; refine ⟨_, rfl, ?_⟩; replace BK359 := AS (bbl (g := gb359) (o := .cells #[.string t356, .string t357] 53 (0, 0)) Z45 hb); replace HB := AS (bst Z8 hb); (try clear hb))); go_ret; exact ⟨Z3, Z8⟩
 ·replace c5 := Bool.eq_false_iff.mpr c5; subst c5
  rw [if_neg ffl] at H
  replace H := bsm H; obtain ⟨⟨t361, t364, t367⟩, A110, H⟩ := H; replace H : ((szTO.f k l0 l2).bind fun bt368 => ((sqot.f k t361 t364 t367 bt368.1 bt368.2.1 bt368.2.2).bind fun bt377 => (if bt377.2 = true then ((whOf.f bt377.1).bind fun t379 => (some t379)) else (size_floor.l0 k)))) = some r := H; have A11 := AS A110; clear A110; replace H := bsm H; obtain ⟨⟨t368, t371, t374⟩, A120, H⟩ := H; replace H : ((sqot.f k t361 t364 t367 t368 t371 t374).bind fun bt377 => (if bt377.2 = true then ((whOf.f bt377.1).bind fun t379 => (some t379)) else (size_floor.l0 k))) = some r := H; have A12 := AS A120; clear A120; replace H := bsm H; obtain ⟨⟨t377, t378⟩, A130, H⟩ := H; replace H : (if t378 = true then ((whOf.f t377).bind fun t379 => (some t379)) else (size_floor.l0 k)) = some r := H; have A13 := AS A130; clear A130
  by_cases c14 : t378 = true
  ·subst c14
   rw [if_pos rfl] at H
   replace H := bsm H; obtain ⟨t379, A150, H⟩ := H; replace H : (some t379) = some r := H; have A15 := AS A150; clear A150; obtain rfl := Option.some.inj H; go_enter Tryz.func129, Tryz.ntmps129; go_wp2_with (first | ((with_reducible refine gtc (f := 150) rfl ?_); refine gsL (some 29) rfl rfl Tryz.func150 Z6 rfl #[.slice A1 l1.length c1, .slice A2 l2.length c2] rfl Z1 ?_; (with_reducible refine (szra.calls k _ _ l1 _ _ l2 t356 t357 false _ ?side1 ?side2 ?side3 ?side4 ?side5 A4.out).mono ?_); (case side1 => exact Z42); (case side2 => exact Z133); (case side3 => exact Z89); (case side4 => exact Z160); (case side5 => exact Z168); rintro e w16 ⟨rfl, hb⟩; refine ⟨_, rfl, ?_⟩; replace HB := AS (bst Z0 hb); (try clear hb)) | ((with_reducible refine gtd (N := 7) rfl ?_); refine bxe ?hg (N := 7) ?hd (cs := #[.string ⟨#[]⟩, .string ⟨#[]⟩]) (t := 53) ?hr ?_; (case hd => rfl); (case hg => rfl); (case hr => exact Z12); intro gb359 hg w17 hbox hb; have BK359 := AS (hbox); have GW359 := AS ((Z169 : w.heap.size ≤ gb359)); have GE359 := GW359; replace HB := AS (bst Z0 hb); clear hb hbox hg; have hcz18_0 := bc0 BK359.out; have hcz18_1 := bc1 BK359.out; have hfz18_0 := bfz BK359.out 0; have hfz18_1 := bfz BK359.out 1) | ((with_reducible refine gtc (f := 149) rfl ?_); refine gsL (some 37) rfl rfl Tryz.func149 Z6 rfl #[.slice A0 l0.length c0, .slice A1 l1.length c1] rfl Z1 ?_; (with_reducible refine (szTO.calls k _ _ l0 _ _ l1 t361 t364 t367 _ ?side1 ?side2 ?side3 ?side4 ?side5 A11.out).mono ?_); (case side1 => exact Kd.C_below HR0.out Z8); (case side2 => exact Z81); (case side3 => exact Kd.C_below HR1.out Z8); (case side4 => exact Z133); (case side5 => exact Z198); rintro e w19 ⟨v362, v365, rfl, ho0, ho1, hb⟩; refine ⟨_, rfl, ?_⟩; have HO363 := AS (Kd.R_lower ho0 (bsz Z8)); have HO366 := AS (Kd.R_lower ho1 (bsz Z8)); replace BK359 := AS (bbl (g := gb359) (o := .cells #[.string t356, .string t357] 53 (0, 0)) Z45 hb); replace HB := AS (bst Z8 hb); (try clear hb); (try clear ho0); (try clear ho1)) | ((with_reducible refine gtc (f := 149) rfl ?_); refine gsL (some 40) rfl rfl Tryz.func149 Z6 rfl #[.slice A0 l0.length c0, .slice A2 l2.length c2] rfl Z1 ?_; (with_reducible refine (szTO.calls k _ _ l0 _ _ l2 t368 t371 t374 _ ?side1 ?side2 ?side3 ?side4 ?side5 A12.out).mono ?_); (case side1 => exact Z9); (case side2 => exact Z81); (case side3 => exact Z97); (case side4 => exact Z160); (case side5 => exact Z198); rintro e w20 ⟨v369, v372, rfl, ho0, ho1, hb⟩; refine ⟨_, rfl, ?_⟩; have HO370 := AS (Kd.R_lower (Kd.R_new' ho0 (Kd.R_lt Z54)) (bsz Z8)); have HO373 := AS (Kd.R_lower (Kd.R_new' ho1 (Kd.R_lt Z55)) (bsz Z8)); replace HO363 := AS (Kd.R_elder' Z54 (Kd.R_base ho0) hb); replace HO366 := AS (Kd.R_elder' Z55 (Kd.R_base ho1) hb); replace BK359 := AS (bbl (g := gb359) (o := .cells #[.string t356, .string t357] 53 (0, 0)) Z30 hb); replace HB := AS (bst Z8 hb); (try clear hb); (try clear ho0); (try clear ho1)) | ((with_reducible refine gtd (N := 9) rfl ?_); refine bxe ?hg (N := 9) ?hd (cs := #[.slice none 0 0, .slice none 0 0, .string ⟨#[]⟩]) (t := 191) ?hr ?_; (case hd => rfl); (case hg => rfl); (case hr => exact Z12); intro gb375 hg w21 hbox hb; have BK375 := AS (hbox); have GW375 := AS ((Z197 : w.heap.size ≤ gb375)); have GE375 := GW375; have NB359_375 := AS ((Z176 : gb359 ≠ gb375)); have NB375_359 := AS ((Z177 : gb375 ≠ gb359)); replace HO363 := AS (Kd.R_below Z54 hb); replace HO366 := AS (Kd.R_below Z55 hb); replace HO370 := AS (Kd.R_below Z94 hb); replace HO373 := AS (Kd.R_below Z95 hb); replace BK359 := AS (bbl (g := gb359) (o := .cells #[.string t356, .string t357] 53 (0, 0)) Z30 hb); replace HB := AS (bst Z8 hb); clear hb hbox hg) | ((with_reducible refine gtd (N := 10) rfl ?_); refine bxe ?hg (N := 10) ?hd (cs := #[.slice none 0 0, .slice none 0 0, .string ⟨#[]⟩]) (t := 191) ?hr ?_; (case hd => rfl); (case hg => rfl); (case hr => exact Z12); intro gb376 hg w22 hbox hb; have BK376 := AS (hbox); have GW376 := AS ((Z196 : w.heap.size ≤ gb376)); have GE376 := GW376; have NB359_376 := AS ((Z176 : gb359 ≠ gb376)); have NB376_359 := AS ((Z177 : gb376 ≠ gb359)); have NB375_376 := AS ((Z181 : gb375 ≠ gb376)); have NB376_375 := AS ((Z182 : gb376 ≠ gb375)); replace HO363 := AS (Kd.R_below Z54 hb); replace HO366 := AS (Kd.R_below Z55 hb); replace HO370 := AS (Kd.R_below Z94 hb); replace HO373 := AS (Kd.R_below Z95 hb); replace BK359 := AS (bbl (g := gb359) (o := .cells #[.string t356, .string t357] 53 (0, 0)) Z30 hb); replace BK375 := AS (bbl (g := gb375) (o := .cells #[.slice none 0 0, .slice none 0 0, .string ⟨#[]⟩] 191 (0, 0)) Z66 hb); replace HB := AS (bst Z47 hb); clear hb hbox hg; obtain ⟨Ao23, co23, eo23⟩ := Kd.R_slice HO363.out; subst eo23; have hnb24 := NB375_359.out; have hnc24 := NB359_375.out; have hnb25 := NB375_376.out; have hnc25 := NB376_375.out; have hcz26_0 := bc0 BK375.out; have hcz26_1 := bc1 BK375.out; have hcz26_2 := bc2 BK375.out; have hfz26_0 := bfz BK375.out 0; have hfz26_1 := bfz BK375.out 1; have hfz26_2 := bfz BK375.out 2; obtain ⟨Ao27, co27, eo27⟩ := Kd.R_slice HO366.out; subst eo27; obtain ⟨Ao28, co28, eo28⟩ := Kd.R_slice HO370.out; subst eo28; have hnb29 := NB376_359.out; have hnc29 := NB359_376.out; have hcz30_0 := bc0 BK376.out; have hcz30_1 := bc1 BK376.out; have hcz30_2 := bc2 BK376.out; have hfz30_0 := bfz BK376.out 0; have hfz30_1 := bfz BK376.out 1; have hfz30_2 := bfz BK376.out 2; obtain ⟨Ao31, co31, eo31⟩ := Kd.R_slice HO373.out; subst eo31) | ((with_reducible refine gtc (f := 152) rfl ?_); refine gsL (some 44) rfl rfl Tryz.func152 Z6 rfl #[.agg #[.slice Ao23 t361.length co23, .slice Ao27 t364.length co27, .string t367], .agg #[.slice Ao28 t368.length co28, .slice Ao31 t371.length co31, .string t374]] rfl Z1 ?_; (with_reducible refine (sqot.calls k _ _ t361 _ _ t364 t367 _ _ t368 _ _ t371 t374 t377 true _ ?side1 ?side2 ?side3 ?side4 ?side5 ?side6 ?side7 ?side8 ?side9 A13.out).mono ?_); (case side1 => refine (Kd.R_reads' (e := 3) (base := w.heap.size) (ok := fun k_ => (True ∧ some k_ ≠ (.slice Ao28 t368.length co28 : Value).ownBlock)) (n := t361.length) (c := co23) ?_).2.2; exact Z34); (case side2 => exact (Kd.R_reads' HO363.out).2.1); (case side3 => refine (Kd.R_reads' (e := 51) (base := w.heap.size) (ok := fun k_ => (True ∧ some k_ ≠ (.slice Ao31 t371.length co31 : Value).ownBlock)) (n := t364.length) (c := co27) ?_).2.2; exact Z35); (case side4 => exact (Kd.R_reads' HO366.out).2.1); (case side5 => refine (Kd.R_reads' (e := 3) (base := w.heap.size) (ok := fun k_ => (True ∧ some k_ ≠ (.slice Ao23 t361.length co23 : Value).ownBlock)) (n := t368.length) (c := co28) ?_).2.2; exact Z36); (case side6 => exact (Kd.R_reads' HO370.out).2.1); (case side7 => refine (Kd.R_reads' (e := 51) (base := w.heap.size) (ok := fun k_ => (True ∧ some k_ ≠ (.slice Ao27 t364.length co27 : Value).ownBlock)) (n := t371.length) (c := co31) ?_).2.2; exact Z37); (case side8 => exact (Kd.R_reads' HO373.out).2.1); (case side9 => exact GL.below hG Z23); rintro e w32 ⟨rfl, hb⟩; refine ⟨_, rfl, ?_⟩; replace HO363 := AS (Kd.R_below Z34 hb); replace HO366 := AS (Kd.R_below Z35 hb); replace HO370 := AS (Kd.R_below Z36 hb); replace HO373 := AS (Kd.R_below Z37 hb); replace BK359 := AS (bbl (g := gb359) (o := .cells #[.string t356, .string t357] 53 (0, 0)) Z31 hb); replace BK375 := AS (bbl (g := gb375) (o := .cells #[.slice Ao23 t361.length co23, .slice Ao27 t364.length co27, .string t367] 191 (0, 0)) (by (with_reducible repeat (first | apply bdn | apply bdr | apply bal)); refine blk_far ?_ NB375_376.out _; (with_reducible repeat (first | apply bdn | apply bdr | apply bal)); refine blk_far ?_ NB375_376.out _; (with_reducible repeat (first | apply bdn | apply bdr | apply bal)); refine blk_far ?_ NB375_376.out _; (with_reducible repeat (first | apply bdn | apply bdr | apply bal)); refine bpt (cs := #[.slice Ao23 t361.length co23, .slice Ao27 t364.length co27, .string ⟨#[]⟩]) ?_ 2 _ rfl; (with_reducible repeat (first | apply bdn | apply bdr | apply bal)); refine bpt (cs := #[.slice Ao23 t361.length co23, .slice none 0 0, .string ⟨#[]⟩]) ?_ 1 _ rfl; (with_reducible repeat (first | apply bdn | apply bdr | apply bal)); refine bpt (cs := #[.slice none 0 0, .slice none 0 0, .string ⟨#[]⟩]) ?_ 0 _ rfl; (with_reducible repeat (first | apply bdn | apply bdr | apply bal)); exact BK375.out) hb); replace BK376 := AS (bbl (g := gb376) (o := .cells #[.slice Ao28 t368.length co28, .slice Ao31 t371.length co31, .string t374] 191 (0, 0)) (by (with_reducible repeat (first | apply bdn | apply bdr | apply bal)); refine bpt (cs := #[.slice Ao28 t368.length co28, .slice Ao31 t371.length co31, .string ⟨#[]⟩]) ?_ 2 _ rfl; (with_reducible repeat (first | apply bdn | apply bdr | apply bal)); refine bpt (cs := #[.slice Ao28 t368.length co28, .slice none 0 0, .string ⟨#[]⟩]) ?_ 1 _ rfl; (with_reducible repeat (first | apply bdn | apply bdr | apply bal)); refine bpt (cs := #[.slice none 0 0, .slice none 0 0, .string ⟨#[]⟩]) ?_ 0 _ rfl; (with_reducible repeat (first | apply bdn | apply bdr | apply bal)); refine blk_far ?_ NB376_375.out _; (with_reducible repeat (first | apply bdn | apply bdr | apply bal)); refine blk_far ?_ NB376_375.out _; (with_reducible repeat (first | apply bdn | apply bdr | apply bal)); refine blk_far ?_ NB376_375.out _; (with_reducible repeat (first | apply bdn | apply bdr | apply bal)); exact BK376.out) hb); replace HB := AS (bst Z23 hb); (try clear hb)) | ((with_reducible refine gtc (f := 59) rfl ?_); refine gsL (some 49) rfl rfl Tryz.func59 Z6 rfl #[.int .i64 t377] rfl Z1 ?_; (with_reducible refine (whOf.calls t377 t379 _ ?side1 A15.out).mono ?_); (case side1 => exact GL.below hG Z23); rintro e w33 ⟨rfl, hb⟩; refine ⟨_, rfl, ?_⟩; replace HO363 := AS (Kd.R_below Z54 hb); replace HO366 := AS (Kd.R_below Z55 hb); replace HO370 := AS (Kd.R_below Z94 hb); replace HO373 := AS (Kd.R_below Z95 hb); replace BK359 := AS (bbl (g := gb359) (o := .cells #[.string t356, .string t357] 53 (0, 0)) Z30 hb); replace BK375 := AS (bbl (g := gb375) (o := .cells #[.slice Ao23 t361.length co23, .slice Ao27 t364.length co27, .string t367] 191 (0, 0)) Z66 hb); replace BK376 := AS (bbl (g := gb376) (o := .cells #[.slice Ao28 t368.length co28, .slice Ao31 t371.length co31, .string t374] 191 (0, 0)) Z148 hb); replace HB := AS (bst Z23 hb); (try clear hb))); go_ret; exact ⟨Z3, Z23⟩
  ·replace c14 := Bool.eq_false_iff.mpr c14; subst c14
   rw [if_neg ffl] at H
   have H' := AS H; clear H; go_enter Tryz.func129, Tryz.ntmps129; go_wp2_with (first | ((with_reducible refine gtc (f := 150) rfl ?_); refine gsL (some 29) rfl rfl Tryz.func150 Z6 rfl #[.slice A1 l1.length c1, .slice A2 l2.length c2] rfl Z1 ?_; (with_reducible refine (szra.calls k _ _ l1 _ _ l2 t356 t357 false _ ?side1 ?side2 ?side3 ?side4 ?side5 A4.out).mono ?_); (case side1 => exact Z42); (case side2 => exact Z133); (case side3 => exact Z89); (case side4 => exact Z160); (case side5 => exact Z168); rintro e w34 ⟨rfl, hb⟩; refine ⟨_, rfl, ?_⟩; replace HB := AS (bst Z0 hb); (try clear hb)) | ((with_reducible refine gtd (N := 7) rfl ?_); refine bxe ?hg (N := 7) ?hd (cs := #[.string ⟨#[]⟩, .string ⟨#[]⟩]) (t := 53) ?hr ?_; (case hd => rfl); (case hg => rfl); (case hr => exact Z12); intro gb359 hg w35 hbox hb; have BK359 := AS (hbox); have GW359 := AS ((Z169 : w.heap.size ≤ gb359)); have GE359 := GW359; replace HB := AS (bst Z0 hb); clear hb hbox hg; have hcz36_0 := bc0 BK359.out; have hcz36_1 := bc1 BK359.out; have hfz36_0 := bfz BK359.out 0; have hfz36_1 := bfz BK359.out 1) | ((with_reducible refine gtc (f := 149) rfl ?_); refine gsL (some 37) rfl rfl Tryz.func149 Z6 rfl #[.slice A0 l0.length c0, .slice A1 l1.length c1] rfl Z1 ?_; (with_reducible refine (szTO.calls k _ _ l0 _ _ l1 t361 t364 t367 _ ?side1 ?side2 ?side3 ?side4 ?side5 A11.out).mono ?_); (case side1 => exact Kd.C_below HR0.out Z8); (case side2 => exact Z81); (case side3 => exact Kd.C_below HR1.out Z8); (case side4 => exact Z133); (case side5 => exact Z198); rintro e w37 ⟨v362, v365, rfl, ho0, ho1, hb⟩; refine ⟨_, rfl, ?_⟩; have HO363 := AS (Kd.R_lower ho0 (bsz Z8)); have HO366 := AS (Kd.R_lower ho1 (bsz Z8)); replace BK359 := AS (bbl (g := gb359) (o := .cells #[.string t356, .string t357] 53 (0, 0)) Z45 hb); replace HB := AS (bst Z8 hb); (try clear hb); (try clear ho0); (try clear ho1)) | ((with_reducible refine gtc (f := 149) rfl ?_); refine gsL (some 40) rfl rfl Tryz.func149 Z6 rfl #[.slice A0 l0.length c0, .slice A2 l2.length c2] rfl Z1 ?_; (with_reducible refine (szTO.calls k _ _ l0 _ _ l2 t368 t371 t374 _ ?side1 ?side2 ?side3 ?side4 ?side5 A12.out).mono ?_); (case side1 => exact Z9); (case side2 => exact Z81); (case side3 => exact Z97); (case side4 => exact Z160); (case side5 => exact Z198); rintro e w38 ⟨v369, v372, rfl, ho0, ho1, hb⟩; refine ⟨_, rfl, ?_⟩; have HO370 := AS (Kd.R_lower (Kd.R_new' ho0 (Kd.R_lt Z54)) (bsz Z8)); have HO373 := AS (Kd.R_lower (Kd.R_new' ho1 (Kd.R_lt Z55)) (bsz Z8)); replace HO363 := AS (Kd.R_elder' Z54 (Kd.R_base ho0) hb); replace HO366 := AS (Kd.R_elder' Z55 (Kd.R_base ho1) hb); replace BK359 := AS (bbl (g := gb359) (o := .cells #[.string t356, .string t357] 53 (0, 0)) Z30 hb); replace HB := AS (bst Z8 hb); (try clear hb); (try clear ho0); (try clear ho1)) | ((with_reducible refine gtd (N := 9) rfl ?_); refine bxe ?hg (N := 9) ?hd (cs := #[.slice none 0 0, .slice none 0 0, .string ⟨#[]⟩]) (t := 191) ?hr ?_; (case hd => rfl); (case hg => rfl); (case hr => exact Z12); intro gb375 hg w39 hbox hb; have BK375 := AS (hbox); have GW375 := AS ((Z197 : w.heap.size ≤ gb375)); have GE375 := GW375; have NB359_375 := AS ((Z176 : gb359 ≠ gb375)); have NB375_359 := AS ((Z177 : gb375 ≠ gb359)); replace HO363 := AS (Kd.R_below Z54 hb); replace HO366 := AS (Kd.R_below Z55 hb); replace HO370 := AS (Kd.R_below Z94 hb); replace HO373 := AS (Kd.R_below Z95 hb); replace BK359 := AS (bbl (g := gb359) (o := .cells #[.string t356, .string t357] 53 (0, 0)) Z30 hb); replace HB := AS (bst Z8 hb); clear hb hbox hg) | ((with_reducible refine gtd (N := 10) rfl ?_); refine bxe ?hg (N := 10) ?hd (cs := #[.slice none 0 0, .slice none 0 0, .string ⟨#[]⟩]) (t := 191) ?hr ?_; (case hd => rfl); (case hg => rfl); (case hr => exact Z12); intro gb376 hg w40 hbox hb; have BK376 := AS (hbox); have GW376 := AS ((Z196 : w.heap.size ≤ gb376)); have GE376 := GW376; have NB359_376 := AS ((Z176 : gb359 ≠ gb376)); have NB376_359 := AS ((Z177 : gb376 ≠ gb359)); have NB375_376 := AS ((Z181 : gb375 ≠ gb376)); have NB376_375 := AS ((Z182 : gb376 ≠ gb375)); replace HO363 := AS (Kd.R_below Z54 hb); replace HO366 := AS (Kd.R_below Z55 hb); replace HO370 := AS (Kd.R_below Z94 hb); replace HO373 := AS (Kd.R_below Z95 hb); replace BK359 := AS (bbl (g := gb359) (o := .cells #[.string t356, .string t357] 53 (0, 0)) Z30 hb); replace BK375 := AS (bbl (g := gb375) (o := .cells #[.slice none 0 0, .slice none 0 0, .string ⟨#[]⟩] 191 (0, 0)) Z66 hb); replace HB := AS (bst Z47 hb); clear hb hbox hg; obtain ⟨Ao41, co41, eo41⟩ := Kd.R_slice HO363.out; subst eo41; have hnb42 := NB375_359.out; have hnc42 := NB359_375.out; have hnb43 := NB375_376.out; have hnc43 := NB376_375.out; have hcz44_0 := bc0 BK375.out; have hcz44_1 := bc1 BK375.out; have hcz44_2 := bc2 BK375.out; have hfz44_0 := bfz BK375.out 0; have hfz44_1 := bfz BK375.out 1; have hfz44_2 := bfz BK375.out 2; obtain ⟨Ao45, co45, eo45⟩ := Kd.R_slice HO366.out; subst eo45; obtain ⟨Ao46, co46, eo46⟩ := Kd.R_slice HO370.out; subst eo46; have hnb47 := NB376_359.out; have hnc47 := NB359_376.out; have hcz48_0 := bc0 BK376.out; have hcz48_1 := bc1 BK376.out; have hcz48_2 := bc2 BK376.out; have hfz48_0 := bfz BK376.out 0; have hfz48_1 := bfz BK376.out 1; have hfz48_2 := bfz BK376.out 2; obtain ⟨Ao49, co49, eo49⟩ := Kd.R_slice HO373.out; subst eo49) | ((with_reducible refine gtc (f := 152) rfl ?_); refine gsL (some 44) rfl rfl Tryz.func152 Z6 rfl #[.agg #[.slice Ao41 t361.length co41, .slice Ao45 t364.length co45, .string t367], .agg #[.slice Ao46 t368.length co46, .slice Ao49 t371.length co49, .string t374]] rfl Z1 ?_; (with_reducible refine (sqot.calls k _ _ t361 _ _ t364 t367 _ _ t368 _ _ t371 t374 t377 false _ ?side1 ?side2 ?side3 ?side4 ?side5 ?side6 ?side7 ?side8 ?side9 A13.out).mono ?_); (case side1 => refine (Kd.R_reads' (e := 3) (base := w.heap.size) (ok := fun k_ => (True ∧ some k_ ≠ (.slice Ao46 t368.length co46 : Value).ownBlock)) (n := t361.length) (c := co41) ?_).2.2; exact Z38); (case side2 => exact (Kd.R_reads' HO363.out).2.1); (case side3 => refine (Kd.R_reads' (e := 51) (base := w.heap.size) (ok := fun k_ => (True ∧ some k_ ≠ (.slice Ao49 t371.length co49 : Value).ownBlock)) (n := t364.length) (c := co45) ?_).2.2; exact Z39); (case side4 => exact (Kd.R_reads' HO366.out).2.1); (case side5 => refine (Kd.R_reads' (e := 3) (base := w.heap.size) (ok := fun k_ => (True ∧ some k_ ≠ (.slice Ao41 t361.length co41 : Value).ownBlock)) (n := t368.length) (c := co46) ?_).2.2; exact Z40); (case side6 => exact (Kd.R_reads' HO370.out).2.1); (case side7 => refine (Kd.R_reads' (e := 51) (base := w.heap.size) (ok := fun k_ => (True ∧ some k_ ≠ (.slice Ao45 t364.length co45 : Value).ownBlock)) (n := t371.length) (c := co49) ?_).2.2; exact Z41); (case side8 => exact (Kd.R_reads' HO373.out).2.1); (case side9 => exact GL.below hG Z23); rintro e w50 ⟨rfl, hb⟩; refine ⟨_, rfl, ?_⟩; replace HO363 := AS (Kd.R_below Z38 hb); replace HO366 := AS (Kd.R_below Z39 hb); replace HO370 := AS (Kd.R_below Z40 hb); replace HO373 := AS (Kd.R_below Z41 hb); replace BK359 := AS (bbl (g := gb359) (o := .cells #[.string t356, .string t357] 53 (0, 0)) Z31 hb); replace BK375 := AS (bbl (g := gb375) (o := .cells #[.slice Ao41 t361.length co41, .slice Ao45 t364.length co45, .string t367] 191 (0, 0)) (by (with_reducible repeat (first | apply bdn | apply bdr | apply bal)); refine blk_far ?_ NB375_376.out _; (with_reducible repeat (first | apply bdn | apply bdr | apply bal)); refine blk_far ?_ NB375_376.out _; (with_reducible repeat (first | apply bdn | apply bdr | apply bal)); refine blk_far ?_ NB375_376.out _; (with_reducible repeat (first | apply bdn | apply bdr | apply bal)); refine bpt (cs := #[.slice Ao41 t361.length co41, .slice Ao45 t364.length co45, .string ⟨#[]⟩]) ?_ 2 _ rfl; (with_reducible repeat (first | apply bdn | apply bdr | apply bal)); refine bpt (cs := #[.slice Ao41 t361.length co41, .slice none 0 0, .string ⟨#[]⟩]) ?_ 1 _ rfl; (with_reducible repeat (first | apply bdn | apply bdr | apply bal)); refine bpt (cs := #[.slice none 0 0, .slice none 0 0, .string ⟨#[]⟩]) ?_ 0 _ rfl; (with_reducible repeat (first | apply bdn | apply bdr | apply bal)); exact BK375.out) hb); replace BK376 := AS (bbl (g := gb376) (o := .cells #[.slice Ao46 t368.length co46, .slice Ao49 t371.length co49, .string t374] 191 (0, 0)) (by (with_reducible repeat (first | apply bdn | apply bdr | apply bal)); refine bpt (cs := #[.slice Ao46 t368.length co46, .slice Ao49 t371.length co49, .string ⟨#[]⟩]) ?_ 2 _ rfl; (with_reducible repeat (first | apply bdn | apply bdr | apply bal)); refine bpt (cs := #[.slice Ao46 t368.length co46, .slice none 0 0, .string ⟨#[]⟩]) ?_ 1 _ rfl; (with_reducible repeat (first | apply bdn | apply bdr | apply bal)); refine bpt (cs := #[.slice none 0 0, .slice none 0 0, .string ⟨#[]⟩]) ?_ 0 _ rfl; (with_reducible repeat (first | apply bdn | apply bdr | apply bal)); refine blk_far ?_ NB376_375.out _; (with_reducible repeat (first | apply bdn | apply bdr | apply bal)); refine blk_far ?_ NB376_375.out _; (with_reducible repeat (first | apply bdn | apply bdr | apply bal)); refine blk_far ?_ NB376_375.out _; (with_reducible repeat (first | apply bdn | apply bdr | apply bal)); exact BK376.out) hb); replace HB := AS (bst Z23 hb); (try clear hb)))
   go_loopg [] k (fun kq w' => Aside0 (size_floor.l0 kq  = some r) ∧ Aside0 (kq ≤ k) ∧ Aside0 (Kd.R (Kd.int .i64) 3 w' w.heap.size (fun k_ => some k_ ≠ ((.slice Ao46 t368.length co46) : Value).ownBlock) (.slice Ao41 t361.length co41) t361) ∧ Aside0 (Kd.R Kd.string 51 w' w.heap.size (fun k_ => some k_ ≠ ((.slice Ao49 t371.length co49) : Value).ownBlock) (.slice Ao45 t364.length co45) t364) ∧ Aside0 (Kd.R (Kd.int .i64) 3 w' w.heap.size (fun k_ => some k_ ≠ ((.slice Ao41 t361.length co41) : Value).ownBlock) (.slice Ao46 t368.length co46) t368) ∧ Aside0 (Kd.R Kd.string 51 w' w.heap.size (fun k_ => some k_ ≠ ((.slice Ao45 t364.length co45) : Value).ownBlock) (.slice Ao49 t371.length co49) t371) ∧ Aside0 (w'.heap[gb359]? = some (.cells #[.string t356, .string t357] 53 (0, 0))) ∧ Aside0 (w'.heap[gb375]? = some (.cells #[(.slice Ao41 t361.length co41), (.slice Ao45 t364.length co45), .string t367] 191 (0, 0))) ∧ Aside0 (w'.heap[gb376]? = some (.cells #[(.slice Ao46 t368.length co46), (.slice Ao49 t371.length co49), .string t374] 191 (0, 0))) ∧ Aside0 (Below w.heap.size w w'))
   case atStart => exact ⟨H', ⟨Nat.le_refl _⟩, ⟨by (with_reducible repeat (first | apply Kd.R_alloc | apply Kd.R_drewN | apply Kd.R_drew)); exact Kd.R_mono HO363.out (fun _ hk => hk.2)⟩, ⟨by (with_reducible repeat (first | apply Kd.R_alloc | apply Kd.R_drewN | apply Kd.R_drew)); exact Kd.R_mono HO366.out (fun _ hk => hk.2)⟩, ⟨by (with_reducible repeat (first | apply Kd.R_alloc | apply Kd.R_drewN | apply Kd.R_drew)); exact Kd.R_mono HO370.out (fun _ hk => hk.2)⟩, ⟨by (with_reducible repeat (first | apply Kd.R_alloc | apply Kd.R_drewN | apply Kd.R_drew)); exact Kd.R_mono HO373.out (fun _ hk => hk.2)⟩, ⟨Z30⟩, ⟨Z66⟩, ⟨Z148⟩, ⟨Z23⟩⟩
   case round =>
    clear H'; (try clear c1); (try clear c2); (try clear p2); (try clear c4); (try clear c5); (try clear c12); (try clear c14); (try clear c15); (try clear c24); (try clear c25); (try clear c29); (try clear c42); (try clear c43); (try clear c47); (try clear hcz18_0); (try clear hcz18_1); (try clear hcz26_0); (try clear hcz26_1); (try clear hcz26_2); (try clear hcz30_0); (try clear hcz30_1); (try clear hcz30_2); (try clear hcz36_0); (try clear hcz36_1); (try clear hcz44_0); (try clear hcz44_1); (try clear hcz44_2); (try clear hcz48_0); (try clear hcz48_1); (try clear hcz48_2); (try clear hcz9_0); (try clear hcz9_1); (try clear hfz18_0); (try clear hfz18_1); (try clear hfz26_0); (try clear hfz26_1); (try clear hfz26_2); (try clear hfz30_0); (try clear hfz30_1); (try clear hfz30_2); (try clear hfz36_0); (try clear hfz36_1); (try clear hfz44_0); (try clear hfz44_1); (try clear hfz44_2); (try clear hfz48_0); (try clear hfz48_1); (try clear hfz48_2); (try clear hfz9_0); (try clear hfz9_1); obtain ⟨HA, HK1, HO_376000, HO_376001, HO_377000, HO_377001, BK359, BK375, BK376, HB⟩ := hrel
    cases gk with
    | zero => exact absurd HA.out (by simp [size_floor.l0])
    | succ k1 =>
     have H := HA.out; clear HA
     simp only [size_floor.l0] at H
     exact absurd H (by simp)
def size_Floor.f (k : Nat) (l0 : List Int) (l1 : List (S53)) (l2 : List (S53)) : Option (ByteArray × Int) := (size_checkQuotient.f k l0 l1 l2).bind fun t380 => (if t380 = 0 then ((size_floor.f k l0 l1 l2).bind fun t381 => (some (t381, 0))) else (none))
theorem size_Floor.calls (k : Nat) (A0 : Option Addr) (c0 : Nat) (l0 : List Int) (A1 : Option Addr) (c1 : Nat) (l1 : List (S53)) (A2 : Option Addr) (c2 : Nat) (l2 : List (S53)) (r1 : ByteArray) (r2 : Int) (w : World) (hr0 : Kd.C (Kd.int .i64) w A0 l0.length l0) (hc0 : l0.length ≤ c0) (hr1 : Kd.C k53 w A1 l1.length l1) (hc1 : l1.length ≤ c1) (hr2 : Kd.C k53 w A2 l2.length l2) (hc2 : l2.length ≤ c2) (hG : GL w) (h : size_Floor.f k l0 l1 l2 = some (r1, r2)) :
  Calls Tryz.prog 101 #[.slice A0 l0.length c0, .slice A1 l1.length c1, .slice A2 l2.length c2] w fun e w' => e = .returned (.tuple #[.string r1, .int .i64 r2]) ∧ Below w.heap.size w w' := by
 have HR0 := AS hr0; have HC0 := AS hc0; clear hr0 hc0; have HR1 := AS hr1; have HC1 := AS hc1; clear hr1 hc1; have HR2 := AS hr2; have HC2 := AS hc2; clear hr2 hc2; have HB := AS (blr w); have H : ((size_checkQuotient.f k l0 l1 l2).bind fun t380 => (if t380 = 0 then ((size_floor.f k l0 l1 l2).bind fun t381 => (some (t381, 0))) else (none))) = some (r1, r2) := h; clear h; replace H := bsm H; obtain ⟨t380, A40, H⟩ := H; replace H : (if t380 = 0 then ((size_floor.f k l0 l1 l2).bind fun t381 => (some (t381, 0))) else (none)) = some (r1, r2) := H; have A4 := AS A40; clear A40
 by_cases c5 : t380 = 0
 ·rw [if_pos c5] at H
  have c5b0 : (t380 == 0) = true := bqt c5; have c5b1 : (t380 != 0) = false := bnf c5; clear c5; replace H := bsm H; obtain ⟨t381, A60, H⟩ := H; replace H : (some (t381, 0)) = some (r1, r2) := H; have A6 := AS A60; clear A60
  simp only [Option.some.injEq, Prod.mk.injEq] at H
  obtain ⟨rfl, rfl⟩ := H; go_enter Tryz.func101, Tryz.ntmps101; go_wp2_with (first | ((with_reducible refine gtc (f := 128) rfl ?_); refine gsL (some 12) rfl rfl Tryz.func128 Z6 rfl #[.slice A0 l0.length c0, .slice A1 l1.length c1, .slice A2 l2.length c2] rfl Z1 ?_; (with_reducible refine (size_checkQuotient.calls k _ _ l0 _ _ l1 _ _ l2 t380 _ ?side1 ?side2 ?side3 ?side4 ?side5 ?side6 ?side7 A4.out).mono ?_); (case side1 => exact Z15); (case side2 => exact Z81); (case side3 => exact Z42); (case side4 => exact Z133); (case side5 => exact Z89); (case side6 => exact Z160); (case side7 => exact Z168); rintro e w7 ⟨rfl, hb⟩; refine ⟨_, rfl, ?_⟩; replace HB := AS (bst Z0 hb); (try clear hb)) | ((with_reducible refine gtc (f := 129) rfl ?_); refine gsL (some 19) rfl rfl Tryz.func129 Z6 rfl #[.slice A0 l0.length c0, .slice A1 l1.length c1, .slice A2 l2.length c2] rfl Z1 ?_; (with_reducible refine (size_floor.calls k _ _ l0 _ _ l1 _ _ l2 t381 _ ?side1 ?side2 ?side3 ?side4 ?side5 ?side6 ?side7 A6.out).mono ?_); (case side1 => exact Z9); (case side2 => exact Z81); (case side3 => exact Z98); (case side4 => exact Z133); (case side5 => exact Z97); (case side6 => exact Z160); (case side7 => exact Z168); rintro e w8 ⟨rfl, hb⟩; refine ⟨_, rfl, ?_⟩; replace HB := AS (bst Z0 hb); (try clear hb))); go_ret2; exact ⟨Z3, Z0⟩
 ·rw [if_neg c5] at H
  exact absurd H (by simp)

end Go.Proofs.YtkgkihichdcpmaaGreatDoor.H
