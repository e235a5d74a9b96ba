import Derived.Test.YtkgkihichdcpmaaGreatDoorC3
namespace Go.Proofs.YtkgkihichdcpmaaGreatDoor.H
open Go.RowKit Go.Proofs.YtkgkihichdcpmaaGreatDoorW.PrintWords Go.Proofs.YtkgkihichdcpmaaGreatDoorW.PrintLast Go.Proofs.YtkgkihichdcpmaaGreatDoorW.PrintMore
attribute [local go_sem] max2_int min2_int max_two min_two max_three min_three max_four min_four
set_option linter.unusedVariables false
set_option linter.unusedSimpArgs false
set_option maxHeartbeats 64000000
set_option maxRecDepth 100000
mutual
def szTO.l0 : Nat → List Int → List (S53) → List (S53) → Int → Int → ByteArray → Option (List Int × List ByteArray × ByteArray)
 | 0, _, _, _, _, _, _ => none
 | k + 1, x0, x1, x14, x15, x16, x249002 => if x16 < x15 then (if 0 ≤ x16 then (if x16 < (x14.length : Int) then ((whole_Lcm.f k x249002 ((rd_T53 x14 x16).f1)).bind fun t251 => (szTO.l0 k x0 x1 x14 x15 (wrap64 (x16 + 1)) t251)) else (none)) else (none)) else (szTO.l1 k x0 x1 (x1.length : Int) 0 ([] : List Int) ([] : List ByteArray) x249002)
def szTO.l1 : Nat → List Int → List (S53) → Int → Int → List Int → List ByteArray → ByteArray → Option (List Int × List ByteArray × ByteArray)
 | 0, _, _, _, _, _, _, _ => none
 | k + 1, x0, x27, x28, x29, x249000, x249001, x249002 => if x29 < x28 then (if 0 ≤ x29 then (if x29 < (x27.length : Int) then (if ((rd_T53 x27 x29).f0).toList = ([48] : List UInt8) then (szTO.l1 k x0 x27 x28 (wrap64 (x29 + 1)) x249000 x249001 x249002) else ((whDM.f k x249002 ((rd_T53 x27 x29).f1)).bind fun bt254 => (if x29 < (x0.length : Int) then (if x249000.length < 17592186044416 then ((whole_Mul.f k ((rd_T53 x27 x29).f0) bt254.1).bind fun t261 => (if x249001.length < 8796093022208 then (szTO.l1 k x0 x27 x28 (wrap64 (x29 + 1)) (x249000 ++ [rd x0 x29]) (x249001 ++ [t261]) x249002) else (none))) else (none)) else (none)))) else (none)) else (none)) else (some (x249000, x249001, x249002))
end
def szTO.f (k : Nat) (l0 : List Int) (l1 : List (S53)) : Option (List Int × List ByteArray × ByteArray) := szTO.l0 k l0 l1 l1 (l1.length : Int) 0 (⟨#[49]⟩ : ByteArray)
def szTO.T12 : Bool × List (List Nat × List Nat) := (true, [([], []), ([0], [0]), ([], []), ([], []), ([2, 3], [2, 3]), ([4], [4]), ([5], [5]), ([1, 6], [1, 6]), ([], []), ([8], [8]), ([], []), ([10], [10]), ([], []), ([11, 12, 7], [11, 12]), ([13], [13]), ([9, 14, 13], [9, 14]), ([0, 1, 2, 3, 4, 5, 6, 7, 8, 9], []), ([16, 7, 15, 0, 1, 2, 3, 4, 5, 6, 7, 8, 9], [7, 16]), ([0, 1, 2, 3, 4, 5, 6, 7, 8, 9, 10, 11, 12, 13, 14, 15, 16, 17], []), ([18, 15, 17, 0, 1, 2, 3, 4, 5, 6, 7, 8, 9, 10, 11, 12, 13, 14, 15, 16, 17], [15, 18])])
def szTO.B12 : List Nat := [0, 1, 0, 0, 12, 28, 60, 127, 0, 256, 0, 1024, 0, 7423, 15615, 32767, 1023, 131071, 262143, 524287]
theorem szTO.tab12 : rtab .any (opsOf Tryz.f149 12) = szTO.T12 := by kernel_rfl
theorem szTO.bits12 : waitsOk szTO.T12.2 szTO.B12 = true := by kernel_rfl
theorem szTO.calls (k : Nat) (A0 : Option Addr) (c0 : Nat) (l0 : List Int) (A1 : Option Addr) (c1 : Nat) (l1 : List (S53)) (r1 : List Int) (r2 : List ByteArray) (r3 : ByteArray) (w : World) (hr0 : Kd.C (Kd.int .i64) w A0 l0.length l0) (hc0 : l0.length ≤ c0) (hr1 : Kd.C k53 w A1 l1.length l1) (hc1 : l1.length ≤ c1) (hG : GL w) (h : szTO.f k l0 l1 = some (r1, r2, r3)) :
  Calls Tryz.prog 149 #[.slice A0 l0.length c0, .slice A1 l1.length c1] w fun e w' => ∃ v0_ v1_ : Value, e = .returned (.agg #[v0_, v1_, .string r3]) ∧ Kd.R (Kd.int .i64) 3 w' w.heap.size (fun _ => True) v0_ r1 ∧ Kd.R Kd.string 51 w' w.heap.size (fun _ => True) v1_ r2 ∧ Below w.heap.size w w' := by
 have hu191 := Tryz.underlying191; have hu53 := Tryz.underlying53; have HR0 := AS hr0; have HC0 := AS hc0; clear hr0 hc0; have HR1 := AS hr1; have HC1 := AS hc1; clear hr1 hc1; have HB := AS (blr w); have H : (szTO.l0 k l0 l1 l1 (l1.length : Int) 0 (⟨#[49]⟩ : ByteArray)) = some (r1, r2, r3) := h; clear h; have H' := AS H; clear H; go_enter Tryz.func149, Tryz.ntmps149; go_wp2_with (first | ((with_reducible refine gtd (N := 4) rfl ?_); refine bxe ?hg (N := 4) ?hd (cs := #[.slice none 0 0, .slice none 0 0, .string ⟨#[]⟩]) (t := 191) ?hr ?_; (case hd => rfl); (case hg => rfl); (case hr => exact Z12); intro gb247 hg w3 hbox hb; have BK247 := AS (hbox); have GW247 := AS ((Z169 : w.heap.size ≤ gb247)); have GE247 := GW247; replace HB := AS (bst Z0 hb); clear hb hbox hg) | ((with_reducible refine gtd (N := 5) rfl ?_); refine bxe ?hg (N := 5) ?hd (cs := #[.slice none 0 0, .slice none 0 0, .string ⟨#[]⟩]) (t := 191) ?hr ?_; (case hd => rfl); (case hg => rfl); (case hr => exact Z12); intro gb248 hg w4 hbox hb; have BK248 := AS (hbox); have GW248 := AS ((by rw [hg]; exact (bsz Z102) : w.heap.size ≤ gb248)); have GE248 := AS ((by rw [hg]; exact (bsz Z102) : w.heap.size ≤ gb248)); have NB247_248 := AS ((Z172 : gb247 ≠ gb248)); have NB248_247 := AS ((Z173 : gb248 ≠ gb247)); replace BK247 := AS (bbl (g := gb247) (o := .cells #[.slice none 0 0, .slice none 0 0, .string ⟨#[]⟩] 191 (0, 0)) Z29 hb); replace HB := AS (bst Z102 hb); clear hb hbox hg; have hnb5 := NB248_247.out; have hnc5 := NB247_248.out; have hcz6_0 := bc0 BK248.out; have hcz6_1 := bc1 BK248.out; have hcz6_2 := bc2 BK248.out; have hfz6_0 := bfz BK248.out 0; have hfz6_1 := bfz BK248.out 1; have hfz6_2 := bfz BK248.out 2))
 go_loopg [16] k (fun kq v16 w' => ∃ (x16_1 : Int) (x249002_1 : ByteArray), v16 = .int .i64 x16_1 ∧ Aside0 (szTO.l0 kq l0 l1 l1 (l1.length : Int) x16_1 x249002_1 = some (r1, r2, r3)) ∧ Aside0 (kq ≤ k) ∧ Aside0 (w'.heap[gb247]? = some (.cells #[(.slice none 0 0), (.slice none 0 0), .string ⟨#[]⟩] 191 (0, 0))) ∧ Aside0 (w'.heap[gb248]? = some (.cells #[(.slice none 0 0), (.slice none 0 0), .string x249002_1] 191 (0, 0))) ∧ Aside0 (Below w.heap.size w w'))
 case atStart => exact ⟨(0), ((⟨#[49]⟩ : ByteArray)), Z4, H', ⟨Nat.le_refl _⟩, ⟨by (with_reducible repeat (first | apply bdn | apply bdr | apply bal)); refine blk_far ?_ NB247_248.out _; (with_reducible repeat (first | apply bdn | apply bdr | apply bal)); refine blk_far ?_ NB247_248.out _; (with_reducible repeat (first | apply bdn | apply bdr | apply bal)); refine blk_far ?_ NB247_248.out _; (with_reducible repeat (first | apply bdn | apply bdr | apply bal)); exact BK247.out⟩, ⟨by (with_reducible repeat (first | apply bdn | apply bdr | apply bal)); refine bpt (cs := #[.slice none 0 0, .slice none 0 0, .string ⟨#[]⟩]) ?_ 2 _ rfl; (with_reducible repeat (first | apply bdn | apply bdr | apply bal)); refine bpt (cs := #[.slice none 0 0, .slice none 0 0, .string ⟨#[]⟩]) ?_ 1 _ rfl; (with_reducible repeat (first | apply bdn | apply bdr | apply bal)); refine bpt (cs := #[.slice none 0 0, .slice none 0 0, .string ⟨#[]⟩]) ?_ 0 _ rfl; (with_reducible repeat (first | apply bdn | apply bdr | apply bal)); exact BK248.out⟩, ⟨Z14⟩⟩
 case round =>
  clear H'; (try clear c1); (try clear p2); (try clear c5); (try clear hcz6_0); (try clear hcz6_1); (try clear hcz6_2); (try clear hfz6_0); (try clear hfz6_1); (try clear hfz6_2); obtain ⟨x16_1, x249002_1, rfl, HA, HK1, BK247, BK248, HB⟩ := hrel
  cases gk with
  | zero => exact absurd HA.out (by simp [szTO.l0])
  | succ k1 =>
   have H := HA.out; clear HA
   simp only [szTO.l0] at H
   by_cases c7 : x16_1 < (l1.length : Int)
   ·rw [if_pos c7] at H
    have c7b0 : decide (x16_1 < (l1.length : Int)) = true := dqt c7; clear c7
    by_cases c8 : 0 ≤ x16_1
    ·rw [if_pos c8] at H
     have c8b0 : decide (0 ≤ x16_1) = true := dqt c8; clear c8
     by_cases c9 : x16_1 < (l1.length : Int)
     ·rw [if_pos c9] at H
      have c9b0 : decide (x16_1 < (l1.length : Int)) = true := dqt c9; clear c9; replace H := bsm H; obtain ⟨t251, A100, H⟩ := H; replace H : (szTO.l0 k1 l0 l1 l1 (l1.length : Int) (wrap64 (x16_1 + 1)) t251) = some (r1, r2, r3) := H; have A10 := AS A100; clear A100; have H' := AS H; clear H; have p249 : 0 ≤ (x16_1 : Int) := odt Z2; have q249 : x16_1 < (l1.length : Int) := odt Z2; obtain ⟨ad249, e249, hx249_0, hx249_1⟩ := at_T53 HR1.out x16_1 p249 q249; cases e249; replace hx249_0 := (HB.out.cell (wbl w _ hx249_0)).trans hx249_0; replace hx249_1 := (HB.out.cell (wbl w _ hx249_1)).trans hx249_1; replace p249 := eq_true p249; replace q249 := eq_true q249; go_wp2_with (first | ((with_reducible refine gtd (N := 7) rfl ?_); refine bxe ?hg (N := 7) ?hd (cs := #[.string ⟨#[]⟩, .string ⟨#[]⟩]) (t := 53) ?hr ?_; (case hd => rfl); (case hg => rfl); (case hr => exact Z12); intro gb250 hg w11 hbox hb; have BK250 := AS (hbox); have GW250 := AS ((Z193 : w.heap.size ≤ gb250)); have GE250 := GW250; have NB247_250 := AS ((Z172 : gb247 ≠ gb250)); have NB250_247 := AS ((Z173 : gb250 ≠ gb247)); have NB248_250 := AS ((by rw [hg]; exact Nat.ne_of_lt (blk_lt (g := gb248) (o := .cells #[.slice none 0 0, .slice none 0 0, .string x249002_1] 191 (0, 0)) Z46) : gb248 ≠ gb250)); have NB250_248 := AS ((by rw [hg]; exact Nat.ne_of_gt (blk_lt (g := gb248) (o := .cells #[.slice none 0 0, .slice none 0 0, .string x249002_1] 191 (0, 0)) Z46) : gb250 ≠ gb248)); replace BK247 := AS (bbl (g := gb247) (o := .cells #[.slice none 0 0, .slice none 0 0, .string ⟨#[]⟩] 191 (0, 0)) Z29 hb); replace BK248 := AS (bbl (g := gb248) (o := .cells #[.slice none 0 0, .slice none 0 0, .string x249002_1] 191 (0, 0)) Z46 hb); replace HB := AS (bst Z14 hb); clear hb hbox hg; have hnb12 := NB250_247.out; have hnc12 := NB247_250.out; have hnb13 := NB250_248.out; have hnc13 := NB248_250.out; have hcz14_0 := bc0 BK250.out; have hcz14_1 := bc1 BK250.out; have hfz14_0 := bfz BK250.out 0; have hfz14_1 := bfz BK250.out 1; have hnb15 := NB248_247.out; have hnc15 := NB247_248.out; have hcz16_0 := bc0 BK248.out; have hcz16_1 := bc1 BK248.out; have hcz16_2 := bc2 BK248.out; have hfz16_0 := bfz BK248.out 0; have hfz16_1 := bfz BK248.out 1; have hfz16_2 := bfz BK248.out 2) | ((with_reducible refine gtc (f := 182) rfl ?_); refine gsL (some 24) rfl rfl Tryz.func182 Z6 rfl #[.string x249002_1, .string ((rd_T53 l1 x16_1).f1)] rfl Z1 ?_; (with_reducible refine (whole_Lcm.calls k1 x249002_1 ((rd_T53 l1 x16_1).f1) t251 _ ?side1 A10.out).mono ?_); (case side1 => exact GL.below hG Z73); rintro e w17 ⟨rfl, hb⟩; refine ⟨_, rfl, ?_⟩; replace BK247 := AS (bbl (g := gb247) (o := .cells #[.slice none 0 0, .slice none 0 0, .string ⟨#[]⟩] 191 (0, 0)) (by (with_reducible repeat (first | apply bdn | apply bdr | apply bal)); refine blk_far ?_ NB247_250.out _; (with_reducible repeat (first | apply bdn | apply bdr | apply bal)); refine blk_far ?_ NB247_250.out _; (with_reducible repeat (first | apply bdn | apply bdr | apply bal)); exact BK247.out) hb); replace BK248 := AS (bbl (g := gb248) (o := .cells #[.slice none 0 0, .slice none 0 0, .string x249002_1] 191 (0, 0)) (by (with_reducible repeat (first | apply bdn | apply bdr | apply bal)); refine blk_far ?_ NB248_250.out _; (with_reducible repeat (first | apply bdn | apply bdr | apply bal)); refine blk_far ?_ NB248_250.out _; (with_reducible repeat (first | apply bdn | apply bdr | apply bal)); exact BK248.out) hb); replace BK250 := AS (bbl (g := gb250) (o := .cells #[.string ((rd_T53 l1 x16_1).f0), .string ((rd_T53 l1 x16_1).f1)] 53 (0, 0)) (by (with_reducible repeat (first | apply bdn | apply bdr | apply bal)); refine bpt (cs := #[.string ((rd_T53 l1 x16_1).f0), .string ⟨#[]⟩]) ?_ 1 _ rfl; (with_reducible repeat (first | apply bdn | apply bdr | apply bal)); refine bpt (cs := #[.string ⟨#[]⟩, .string ⟨#[]⟩]) ?_ 0 _ rfl; (with_reducible repeat (first | apply bdn | apply bdr | apply bal)); exact BK250.out) hb); replace HB := AS (bst Z73 hb); (try clear hb); have hcz18_0 := bc0 BK248.out; have hcz18_1 := bc1 BK248.out; have hcz18_2 := bc2 BK248.out; have hfz18_0 := bfz BK248.out 0; have hfz18_1 := bfz BK248.out 1; have hfz18_2 := bfz BK248.out 2))
      go_roundg k1
      case measure => have := HK1.out; omega
      case rel => exact ⟨(wrap64 (x16_1 + 1)), (t251), Z4, H', ⟨Z85⟩, ⟨by (with_reducible repeat (first | apply bdn | apply bdr | apply bal)); refine blk_far ?_ NB247_248.out _; (with_reducible repeat (first | apply bdn | apply bdr | apply bal)); exact BK247.out⟩, ⟨by (with_reducible repeat (first | apply bdn | apply bdr | apply bal)); refine bpt (cs := #[.slice none 0 0, .slice none 0 0, .string x249002_1]) ?_ 2 _ rfl; (with_reducible repeat (first | apply bdn | apply bdr | apply bal)); exact BK248.out⟩, ⟨Z73⟩⟩
     ·rw [if_neg c9] at H
      exact absurd H (by simp)
    ·rw [if_neg c8] at H
     exact absurd H (by simp)
   ·rw [if_neg c7] at H
    have c7b0 : decide (x16_1 < (l1.length : Int)) = false := decide_eq_false c7; clear c7; have H' := AS H; clear H; go_wp2
    go_loopg [29] k1 (fun kq v29 w' => ∃ (x29_2 : Int) (x249000_2 : List Int) (x249001_2 : List ByteArray) (u249000 : Value) (u249001 : Value), v29 = .int .i64 x29_2 ∧ Aside0 (szTO.l1 kq l0 l1 (l1.length : Int) x29_2 x249000_2 x249001_2 x249002_1 = some (r1, r2, r3)) ∧ Aside0 (kq ≤ k1) ∧ Aside0 (Kd.R (Kd.int .i64) 3 w' w.heap.size (fun _ => True) u249000 x249000_2) ∧ Aside0 (Kd.R Kd.string 51 w' w.heap.size (fun _ => True) u249001 x249001_2) ∧ Aside0 (w'.heap[gb247]? = some (.cells #[(.slice none 0 0), (.slice none 0 0), .string ⟨#[]⟩] 191 (0, 0))) ∧ Aside0 (w'.heap[gb248]? = some (.cells #[u249000, u249001, .string x249002_1] 191 (0, 0))) ∧ Aside0 (Below w.heap.size w w'))
    case atStart => exact ⟨(0), (([] : List Int)), (([] : List ByteArray)), (.slice none 0 0), (.slice none 0 0), Z4, H', ⟨Nat.le_refl _⟩, ⟨Z72⟩, ⟨Z72⟩, ⟨Z29⟩, ⟨Z46⟩, ⟨Z14⟩⟩
    case round =>
     clear H'; (try clear c1); (try clear p2); (try clear q2); (try clear hx2); (try clear c5); (try clear p6); (try clear c7); (try clear c7b0); (try clear c8); (try clear c8b0); (try clear c9); (try clear c9b0); (try clear c12); (try clear c13); (try clear c14); (try clear c15); (try clear c18); (try clear hcz14_0); (try clear hcz14_1); (try clear hcz16_0); (try clear hcz16_1); (try clear hcz16_2); (try clear hcz18_0); (try clear hcz18_1); (try clear hcz18_2); (try clear hcz6_0); (try clear hcz6_1); (try clear hcz6_2); (try clear hfz14_0); (try clear hfz14_1); (try clear hfz16_0); (try clear hfz16_1); (try clear hfz16_2); (try clear hfz18_0); (try clear hfz18_1); (try clear hfz18_2); (try clear hfz6_0); (try clear hfz6_1); (try clear hfz6_2); (try clear hx249_0); (try clear hx249_1); (try clear p2); (try clear p249); (try clear q249); obtain ⟨x29_2, x249000_2, x249001_2, u249000, u249001, rfl, HA, HK2, HO_249000, HO_249001, BK247, BK248, HB⟩ := hrel
     cases gk with
     | zero => exact absurd HA.out (by simp [szTO.l1])
     | succ k2 =>
      have H := HA.out; clear HA
      simp only [szTO.l1] at H
      by_cases c19 : x29_2 < (l1.length : Int)
      ·rw [if_pos c19] at H
       have c19b0 : decide (x29_2 < (l1.length : Int)) = true := dqt c19; clear c19
       by_cases c20 : 0 ≤ x29_2
       ·rw [if_pos c20] at H
        have c20b0 : decide (0 ≤ x29_2) = true := dqt c20; clear c20
        by_cases c21 : x29_2 < (l1.length : Int)
        ·rw [if_pos c21] at H
         have c21b0 : decide (x29_2 < (l1.length : Int)) = true := dqt c21; clear c21
         by_cases c22 : ((rd_T53 l1 x29_2).f0).toList = ([48] : List UInt8)
         ·rw [if_pos c22] at H
          have c22b0 : (((rd_T53 l1 x29_2).f0).toList == ([48] : List UInt8)) = true := bqt c22; have c22b1 : (((rd_T53 l1 x29_2).f0).toList != ([48] : List UInt8)) = false := bnf c22; clear c22; have H' := AS H; clear H; have p252 : 0 ≤ (x29_2 : Int) := odt Z2; have q252 : x29_2 < (l1.length : Int) := odt Z2; obtain ⟨ad252, e252, hx252_0, hx252_1⟩ := at_T53 HR1.out x29_2 p252 q252; cases e252; replace hx252_0 := (HB.out.cell (wbl w _ hx252_0)).trans hx252_0; replace hx252_1 := (HB.out.cell (wbl w _ hx252_1)).trans hx252_1; replace p252 := eq_true p252; replace q252 := eq_true q252; go_wp2_with (first | ((with_reducible refine gtd (N := 9) rfl ?_); refine bxe ?hg (N := 9) ?hd (cs := #[.string ⟨#[]⟩, .string ⟨#[]⟩]) (t := 53) ?hr ?_; (case hd => rfl); (case hg => rfl); (case hr => exact Z12); intro gb253 hg w23 hbox hb; have BK253 := AS (hbox); have GW253 := AS ((Z193 : w.heap.size ≤ gb253)); have GE253 := GW253; have NB247_253 := AS ((Z172 : gb247 ≠ gb253)); have NB253_247 := AS ((Z173 : gb253 ≠ gb247)); have NB248_253 := AS ((Z185 : gb248 ≠ gb253)); have NB253_248 := AS ((Z186 : gb253 ≠ gb248)); replace HO_249000 := AS (Kd.R_below Z107 hb); replace HO_249001 := AS (Kd.R_below Z84 hb); replace BK247 := AS (bbl (g := gb247) (o := .cells #[.slice none 0 0, .slice none 0 0, .string ⟨#[]⟩] 191 (0, 0)) Z29 hb); replace BK248 := AS (bbl (g := gb248) (o := .cells #[u249000, u249001, .string x249002_1] 191 (0, 0)) Z46 hb); replace HB := AS (bst Z14 hb); clear hb hbox hg; have hnb24 := NB253_247.out; have hnc24 := NB247_253.out; have hnb25 := NB253_248.out; have hnc25 := NB248_253.out; have hcz26_0 := bc0 BK253.out; have hcz26_1 := bc1 BK253.out; have hfz26_0 := bfz BK253.out 0; have hfz26_1 := bfz BK253.out 1))
          go_roundg k2
          case measure => have := HK1.out; have := HK2.out; omega
          case rel => exact ⟨(wrap64 (x29_2 + 1)), (x249000_2), (x249001_2), (u249000), (u249001), Z4, H', ⟨Z131⟩, ⟨by (with_reducible repeat (first | apply Kd.R_alloc | apply Kd.R_drewN | apply Kd.R_drew)); exact Kd.R_mono (Kd.R_far (p := ⟨gb253, 1, none⟩) (Kd.R_far (p := ⟨gb253, 0, none⟩) (Kd.R_types HO_249000.out BK253.out (by decide)) (fun _ hk => hk.2) (.string ((rd_T53 l1 x29_2).f0))) (fun _ hk => hk.2) (.string ((rd_T53 l1 x29_2).f1))) (fun _ hk => trivial)⟩, ⟨by (with_reducible repeat (first | apply Kd.R_alloc | apply Kd.R_drewN | apply Kd.R_drew)); exact Kd.R_mono (Kd.R_far (p := ⟨gb253, 1, none⟩) (Kd.R_far (p := ⟨gb253, 0, none⟩) (Kd.R_types HO_249001.out BK253.out (by decide)) (fun _ hk => hk.2) (.string ((rd_T53 l1 x29_2).f0))) (fun _ hk => hk.2) (.string ((rd_T53 l1 x29_2).f1))) (fun _ hk => trivial)⟩, ⟨Z74⟩, ⟨Z75⟩, ⟨Z16⟩⟩
         ·rw [if_neg c22] at H
          have c22b0 : (((rd_T53 l1 x29_2).f0).toList == ([48] : List UInt8)) = false := bqf c22; have c22b1 : (((rd_T53 l1 x29_2).f0).toList != ([48] : List UInt8)) = true := bnt c22; replace H := bsm H; obtain ⟨⟨t254, t255, t256⟩, A270, H⟩ := H; replace H : (if x29_2 < (l0.length : Int) then (if x249000_2.length < 17592186044416 then ((whole_Mul.f k2 ((rd_T53 l1 x29_2).f0) t254).bind fun t261 => (if x249001_2.length < 8796093022208 then (szTO.l1 k2 l0 l1 (l1.length : Int) (wrap64 (x29_2 + 1)) (x249000_2 ++ [rd l0 x29_2]) (x249001_2 ++ [t261]) x249002_1) else (none))) else (none)) else (none)) = some (r1, r2, r3) := H; have A27 := AS A270; clear A270
          by_cases c28 : x29_2 < (l0.length : Int)
          ·rw [if_pos c28] at H
           have c28b0 : decide (x29_2 < (l0.length : Int)) = true := dqt c28; clear c28
           by_cases c29 : x249000_2.length < 17592186044416
           ·rw [if_pos c29] at H
            have LMc29 := AS c29; clear c29
            obtain ⟨y258, hy258⟩ : ∃ y_ : List Int, y_ = (x249000_2 ++ [rd l0 x29_2]) := ⟨_, rfl⟩
            replace H : ((whole_Mul.f k2 ((rd_T53 l1 x29_2).f0) t254).bind fun t261 => (if x249001_2.length < 8796093022208 then (szTO.l1 k2 l0 l1 (l1.length : Int) (wrap64 (x29_2 + 1)) y258 (x249001_2 ++ [t261]) x249002_1) else (none))) = some (r1, r2, r3) := by first | (rw [hy258]; with_reducible exact H) | (have H2_ := (Option.bind_some _ _).symm.trans H; rw [hy258]; with_reducible exact H2_) | (have H2_ := (Option.bind_some _ _).symm.trans H; with_reducible exact H2_) | with_reducible exact H | (rw [hy258]; exact H) | exact H
            have Ny258 := AS hy258; clear hy258; replace H := bsm H; obtain ⟨t261, A300, H⟩ := H; replace H : (if x249001_2.length < 8796093022208 then (szTO.l1 k2 l0 l1 (l1.length : Int) (wrap64 (x29_2 + 1)) y258 (x249001_2 ++ [t261]) x249002_1) else (none)) = some (r1, r2, r3) := H; have A30 := AS A300; clear A300
            by_cases c31 : x249001_2.length < 8796093022208
            ·rw [if_pos c31] at H
             have LMc31 := AS c31; clear c31
             obtain ⟨y262, hy262⟩ : ∃ y_ : List ByteArray, y_ = (x249001_2 ++ [t261]) := ⟨_, rfl⟩
             replace H : (szTO.l1 k2 l0 l1 (l1.length : Int) (wrap64 (x29_2 + 1)) y258 y262 x249002_1) = some (r1, r2, r3) := by first | (rw [hy262]; with_reducible exact H) | (have H2_ := (Option.bind_some _ _).symm.trans H; rw [hy262]; with_reducible exact H2_) | (have H2_ := (Option.bind_some _ _).symm.trans H; with_reducible exact H2_) | with_reducible exact H | (rw [hy262]; exact H) | exact H
             have Ny262 := AS hy262; clear hy262; have H' := AS H; clear H; have p252 : 0 ≤ (x29_2 : Int) := odt Z2; have q252 : x29_2 < (l1.length : Int) := odt Z2; obtain ⟨ad252, e252, hx252_0, hx252_1⟩ := at_T53 HR1.out x29_2 p252 q252; cases e252; replace hx252_0 := (HB.out.cell (wbl w _ hx252_0)).trans hx252_0; replace hx252_1 := (HB.out.cell (wbl w _ hx252_1)).trans hx252_1; replace p252 := eq_true p252; replace q252 := eq_true q252; (try go_wp2_with (first | ((with_reducible refine gtd (N := 9) rfl ?_); refine bxe ?hg (N := 9) ?hd (cs := #[.string ⟨#[]⟩, .string ⟨#[]⟩]) (t := 53) ?hr ?_; (case hd => rfl); (case hg => rfl); (case hr => exact Z12); intro gb253 hg w32 hbox hb; have BK253 := AS (hbox); have GW253 := AS ((Z193 : w.heap.size ≤ gb253)); have GE253 := GW253; have NB247_253 := AS ((Z172 : gb247 ≠ gb253)); have NB253_247 := AS ((Z173 : gb253 ≠ gb247)); have NB248_253 := AS ((Z185 : gb248 ≠ gb253)); have NB253_248 := AS ((Z186 : gb253 ≠ gb248)); replace HO_249000 := AS (Kd.R_below Z107 hb); replace HO_249001 := AS (Kd.R_below Z84 hb); replace BK247 := AS (bbl (g := gb247) (o := .cells #[.slice none 0 0, .slice none 0 0, .string ⟨#[]⟩] 191 (0, 0)) Z29 hb); replace BK248 := AS (bbl (g := gb248) (o := .cells #[u249000, u249001, .string x249002_1] 191 (0, 0)) Z46 hb); replace HB := AS (bst Z14 hb); clear hb hbox hg; have hnb33 := NB253_247.out; have hnc33 := NB247_253.out; have hnb34 := NB253_248.out; have hnc34 := NB248_253.out; have hcz35_0 := bc0 BK253.out; have hcz35_1 := bc1 BK253.out; have hfz35_0 := bfz BK253.out 0; have hfz35_1 := bfz BK253.out 1; have hnb36 := NB248_247.out; have hnc36 := NB247_248.out; have hcz37_0 := bc0 BK248.out; have hcz37_1 := bc1 BK248.out; have hcz37_2 := bc2 BK248.out; have hfz37_0 := bfz BK248.out 0; have hfz37_1 := bfz BK248.out 1; have hfz37_2 := bfz BK248.out 2) | ((with_reducible refine gtc (f := 118) rfl ?_); refine gsL (some 42) rfl rfl Tryz.func118 Z6 rfl #[.string x249002_1, .string ((rd_T53 l1 x29_2).f1)] rfl Z1 ?_; (with_reducible refine (whDM.calls k2 x249002_1 ((rd_T53 l1 x29_2).f1) t254 t255 t256 _ ?side1 A27.out).mono ?_); (case side1 => exact GL.below hG Z16); rintro e w38 ⟨rfl, hb⟩; refine ⟨_, rfl, ?_⟩; replace HO_249000 := AS (Kd.R_below (by (with_reducible repeat (first | apply Kd.R_alloc | apply Kd.R_drewN | apply Kd.R_drew)); exact (Kd.R_mono (Kd.R_far (p := ⟨gb253, 1, none⟩) (Kd.R_far (p := ⟨gb253, 0, none⟩) (Kd.R_types HO_249000.out BK253.out (by decide)) (fun _ hk => hk.2) (.string ((rd_T53 l1 x29_2).f0))) (fun _ hk => hk.2) (.string ((rd_T53 l1 x29_2).f1))) (fun _ h_ => h_.1))) hb); replace HO_249001 := AS (Kd.R_below (by (with_reducible repeat (first | apply Kd.R_alloc | apply Kd.R_drewN | apply Kd.R_drew)); exact (Kd.R_mono (Kd.R_far (p := ⟨gb253, 1, none⟩) (Kd.R_far (p := ⟨gb253, 0, none⟩) (Kd.R_types HO_249001.out BK253.out (by decide)) (fun _ hk => hk.2) (.string ((rd_T53 l1 x29_2).f0))) (fun _ hk => hk.2) (.string ((rd_T53 l1 x29_2).f1))) (fun _ h_ => h_.1))) hb); replace BK247 := AS (bbl (g := gb247) (o := .cells #[.slice none 0 0, .slice none 0 0, .string ⟨#[]⟩] 191 (0, 0)) Z74 hb); replace BK248 := AS (bbl (g := gb248) (o := .cells #[u249000, u249001, .string x249002_1] 191 (0, 0)) Z75 hb); replace BK253 := AS (bbl (g := gb253) (o := .cells #[.string ((rd_T53 l1 x29_2).f0), .string ((rd_T53 l1 x29_2).f1)] 53 (0, 0)) (by (with_reducible repeat (first | apply bdn | apply bdr | apply bal)); refine bpt (cs := #[.string ((rd_T53 l1 x29_2).f0), .string ⟨#[]⟩]) ?_ 1 _ rfl; (with_reducible repeat (first | apply bdn | apply bdr | apply bal)); refine bpt (cs := #[.string ⟨#[]⟩, .string ⟨#[]⟩]) ?_ 0 _ rfl; (with_reducible repeat (first | apply bdn | apply bdr | apply bal)); exact BK253.out) hb); replace HB := AS (bst Z16 hb); (try clear hb); (try clear hk)))); have n0_ := AS (Kd.R_drew HO_249000.out); have n1_ := AS (Kd.R_drew HO_249001.out); have n2_ := AS (bdr BK247.out); have n3_ := AS (bdr BK248.out); have n4_ := AS (bdr BK253.out); have n5_ := AS (bl1 HB.out); clear HO_249000 HO_249001; clear BK247 BK248; clear BK253 HB; have HO_249000 := n0_; have HO_249001 := n1_; have BK247 := n2_; have BK248 := n3_; have BK253 := n4_; have HB := n5_; clear n0_ n1_ n2_ n3_ n4_ n5_; have p257 : 0 ≤ (x29_2 : Int) := odt Z2; have q257 : x29_2 < (l0.length : Int) := odt Z2; obtain ⟨ad257, e257, hx257_0⟩ := Kd.at_int HR0.out x29_2 p257 q257; have hw257_0 := hx257_0; cases e257; replace hx257_0 := (HB.out.cell (wbl w _ hx257_0)).trans hx257_0; replace p257 := eq_true p257; replace q257 := eq_true q257
             refine start_ (n := 20) (S := fun w' => w'.cell? ⟨gb248, 0, none⟩ = some (u249000) ∧ w'.cell? ⟨gb248, 1, none⟩ = some (u249001) ∧ w'.cell? ⟨gb248, 2, none⟩ = some (.string x249002_1) ∧ w'.cell? ⟨gb253, 0, none⟩ = some (.string ((rd_T53 l1 x29_2).f0)) ∧ w'.cell? ⟨gb253, 1, none⟩ = some (.string ((rd_T53 l1 x29_2).f1)) ∧ w'.cell? (ad257.add (x29_2).toNat) = some (.int .i64 (rd l0 x29_2))) (ds := [17, 19]) #[false, false, false, false, false, false, false, false, false, false, false, false, false, false, false, false, false, false, false, false] Z6 rfl rfl ⟨bc0 BK248.out, bc1 BK248.out, bc2 BK248.out, bc0 BK253.out, bc1 BK253.out, ((HB.out.cell (wbl w _ hw257_0)).trans hw257_0)⟩ (fun hHeld => ?_); refine with_tabW szTO.tab12 szTO.bits12 (fun HT_ HW_ => ?_)
             generalize w38.drew = w39 at HO_249000 HO_249001 BK247 BK248 BK253 HB hx257_0 hHeld ⊢; refine pure_ (i := 0) (N := some 46) (v := ?_) (a' := ?_) #[true, false, false, false, false, false, false, false, false, false, false, false, false, false, false, false, false, false, false, false] rfl rfl (any_of HT_.out Z6) (fun _ _ _ h => h) (Or.inl ⟨by rfl, ?_⟩) ?_ ?_; rotate_left
             ·intro w'; go_simp; with_reducible rfl
             rotate_left
             ·simp only [Act.put, sA1, sA2, sA3, i64_w, i32_w]; rfl
             refine pure_ (i := 2) (N := some 48) (v := ?_) (a' := ?_) #[true, false, true, false, false, false, false, false, false, false, false, false, false, false, false, false, false, false, false, false] rfl rfl (any_of HT_.out Z6) (fun _ _ _ h => h) (Or.inl ⟨by rfl, ?_⟩) ?_ ?_; rotate_left
             ·intro w'; go_simp; with_reducible rfl
             rotate_left
             ·simp only [Act.put, sA1, sA2, sA3, i64_w, i32_w]; rfl
             refine pure_ (i := 3) (N := some 49) (v := ?_) (a' := ?_) #[true, false, true, true, false, false, false, false, false, false, false, false, false, false, false, false, false, false, false, false] rfl rfl (any_of HT_.out Z6) (fun _ _ _ h => h) (Or.inl ⟨by rfl, ?_⟩) ?_ ?_; rotate_left
             ·intro w'; go_simp; with_reducible rfl
             rotate_left
             ·simp only [Act.put, sA1, sA2, sA3, i64_w, i32_w]; rfl
             refine pure_ (i := 4) (N := some 50) (v := ?_) (a' := ?_) #[true, false, true, true, true, false, false, false, false, false, false, false, false, false, false, false, false, false, false, false] rfl rfl (any_of HT_.out Z6) (fun _ _ _ h => h) (Or.inl ⟨by rfl, ?_⟩) ?_ ?_; rotate_left
             ·intro w'; go_simp; with_reducible rfl
             rotate_left
             ·simp only [Act.put, sA1, sA2, sA3, i64_w, i32_w]; rfl
             refine pure_ (i := 8) (N := some 54) (v := ?_) (a' := ?_) #[true, false, true, true, true, false, false, false, true, false, false, false, false, false, false, false, false, false, false, false] rfl rfl (any_of HT_.out Z6) (fun _ _ _ h => h) (Or.inl ⟨by rfl, ?_⟩) ?_ ?_; rotate_left
             ·intro w'; go_simp; with_reducible rfl
             rotate_left
             ·simp only [Act.put, sA1, sA2, sA3, i64_w, i32_w]; rfl
             refine pure_ (i := 10) (N := some 56) (v := ?_) (a' := ?_) #[true, false, true, true, true, false, false, false, true, false, true, false, false, false, false, false, false, false, false, false] rfl rfl (any_of HT_.out Z6) (fun _ _ _ h => h) (Or.inl ⟨by rfl, ?_⟩) ?_ ?_; rotate_left
             ·intro w'; go_simp; with_reducible rfl
             rotate_left
             ·simp only [Act.put, sA1, sA2, sA3, i64_w, i32_w]; rfl
             refine pure_ (i := 12) (N := some 58) (v := ?_) (a' := ?_) #[true, false, true, true, true, false, false, false, true, false, true, false, true, false, false, false, false, false, false, false] rfl rfl (any_of HT_.out Z6) (fun _ _ _ h => h) (Or.inl ⟨by rfl, ?_⟩) ?_ ?_; rotate_left
             ·intro w'; go_simp; with_reducible rfl
             rotate_left
             ·simp only [Act.put, sA1, sA2, sA3, i64_w, i32_w]; rfl
             refine take_ (i := 1) (N := some 47) (v := ?_) (a' := ?_) #[true, true, true, true, true, false, false, false, true, false, true, false, true, false, false, false, false, false, false, false] rfl rfl (take_ofW HT_.out HW_.out Z6) (fun _ _ _ h => h) (Or.inl ⟨by rfl, ?_⟩) hHeld ?_ ?_; rotate_left
             ·rintro w' ⟨s0, s1, s2, s3, s4, s5⟩; go_simp; with_reducible rfl
             rotate_left
             ·simp only [Act.put, sA1, sA2, sA3, i64_w, i32_w]; rfl
             refine take_ (i := 5) (N := some 51) (v := ?_) (a' := ?_) #[true, true, true, true, true, true, false, false, true, false, true, false, true, false, false, false, false, false, false, false] rfl rfl (take_ofW HT_.out HW_.out Z6) (fun _ _ _ h => h) (Or.inl ⟨by rfl, ?_⟩) hHeld ?_ ?_; rotate_left
             ·rintro w' ⟨s0, s1, s2, s3, s4, s5⟩; go_simp; with_reducible rfl
             rotate_left
             ·simp only [Act.put, sA1, sA2, sA3, i64_w, i32_w]; rfl
             refine take_ (i := 9) (N := some 55) (v := ?_) (a' := ?_) #[true, true, true, true, true, true, false, false, true, true, true, false, true, false, false, false, false, false, false, false] rfl rfl (take_ofW HT_.out HW_.out Z6) (fun _ _ _ h => h) (Or.inl ⟨by rfl, ?_⟩) hHeld ?_ ?_; rotate_left
             ·rintro w' ⟨s0, s1, s2, s3, s4, s5⟩; go_simp; with_reducible rfl
             rotate_left
             ·simp only [Act.put, sA1, sA2, sA3, i64_w, i32_w]; rfl
             refine take_ (i := 11) (N := some 57) (v := ?_) (a' := ?_) #[true, true, true, true, true, true, false, false, true, true, true, true, true, false, false, false, false, false, false, false] rfl rfl (take_ofW HT_.out HW_.out Z6) (fun _ _ _ h => h) (Or.inl ⟨by rfl, ?_⟩) hHeld ?_ ?_; rotate_left
             ·rintro w' ⟨s0, s1, s2, s3, s4, s5⟩; go_simp; with_reducible rfl
             rotate_left
             ·simp only [Act.put, sA1, sA2, sA3, i64_w, i32_w]; rfl
             refine one_ (i := 6) (N := some 52) #[true, true, true, true, true, true, true, false, true, true, true, true, true, false, false, false, false, false, false, false] rfl rfl (one_of HT_.out Z6) (by decide) (fun K hK => ?_); refine value_ (w1 := ?_) (v := ?_) (by rfl) rfl ?_ ?_; rotate_left 2
             ·go_simp
              constructor
              ·rfl
              ·rfl
             refine hK.out _ _ ⟨(bce (bal BK248.out _) 0).trans rfl, (bce (bal BK248.out _) 1).trans rfl, (bce (bal BK248.out _) 2).trans rfl, (bce (bal BK253.out _) 0).trans rfl, (bce (bal BK253.out _) 1).trans rfl, (World.cell?_alloc_lt _ _ _ (wbl _ _ (((HB.out.cell (wbl w _ hw257_0)).trans hw257_0)))).trans (((HB.out.cell (wbl w _ hw257_0)).trans hw257_0))⟩ (fun hHeld => ?_); clear hK K; refine norm_ (a' := ?_) ?_ ?_; rotate_left
             ·show Act.put _ (some 52) _ = _
              simp only [Act.put, sA1, sA2, sA3, i64_w, i32_w]; rfl
             refine one_ (i := 7) (N := some 53) #[true, true, true, true, true, true, true, true, true, true, true, true, true, false, false, false, false, false, false, false] rfl rfl (one_of HT_.out Z6) (by decide) (fun K hK => ?_); refine Kd.R_append_step (Kd.int .i64) (w0 := w) w.heap.size (by rfl) (.tmp 47) (.tmp 52) 25 3 (.int .i64 0) 8 rfl Tryz.underlying25 info3 rfl (by decide) (by omega) u249000 x249000_2 (rd l0 x29_2) [.int .i64 (rd l0 x29_2)] (fun _ => True) (fun _ => False) rfl rfl ?aP (fun _ hk => hk.elim) ?aF ?aO ?aB ?aS ?aL ?_
             (case aP => exact rfl)
             (case aB => exact Z16)
             (case aF => exact (fun _ _ => trivial))
             (case aO => exact Z107)
             (case aS => exact (bsz Z16))
             (case aL => have := LMc29.out; omega)
             intro v259 w40 ho hb hg hat; rw [← Ny258.out] at ho; have n0_ := AS (Kd.R_over' Z84 (Kd.R_typed Z107) (by decide) hg); have n1_ := AS (bgr (g := gb247) (o := .cells #[.slice none 0 0, .slice none 0 0, .string ⟨#[]⟩] 191 (0, 0)) Z29 hg (Kd.R_ne HO_249000.out BK247.out (by decide))); have n2_ := AS (bgr (g := gb248) (o := .cells #[u249000, u249001, .string x249002_1] 191 (0, 0)) Z46 hg (Kd.R_ne HO_249000.out BK248.out (by decide))); have n3_ := AS (bgr (g := gb253) (o := .cells #[.string ((rd_T53 l1 x29_2).f0), .string ((rd_T53 l1 x29_2).f1)] 53 (0, 0)) Z128 hg (Kd.R_ne HO_249000.out BK253.out (by decide))); have n4_ := AS (hb); have n5_ := AS (ho); clear HO_249001 BK247; clear BK248 BK253; clear HB HO_249000; have HO_249001 := n0_; have BK247 := n1_; have BK248 := n2_; have BK253 := n3_; have HB := n4_; have HO260 := n5_; clear n0_ n1_ n2_ n3_ n4_ n5_; clear ho hb hg hat; refine hK.out _ _ ⟨bc0 BK248.out, bc1 BK248.out, bc2 BK248.out, bc0 BK253.out, bc1 BK253.out, ((HB.out.cell (wbl w _ hw257_0)).trans hw257_0)⟩ (fun hHeld => ?_); clear hK K; refine norm_ (a' := ?_) ?_ ?_; rotate_left
             ·show Act.put _ (some 53) _ = _
              simp only [Act.put, sA1, sA2, sA3, i64_w, i32_w]; rfl
             refine pure_ (i := 16) (N := some 62) (v := ?_) (a' := ?_) #[true, true, true, true, true, true, true, true, true, true, true, true, true, false, false, false, true, false, false, false] rfl rfl (any_of HT_.out Z6) (fun _ _ _ h => h) (Or.inl ⟨by rfl, ?_⟩) ?_ ?_; rotate_left
             ·intro w'; go_simp; with_reducible rfl
             rotate_left
             ·simp only [Act.put, sA1, sA2, sA3, i64_w, i32_w]; rfl
             refine one_ (i := 13) (N := some 59) #[true, true, true, true, true, true, true, true, true, true, true, true, true, true, false, false, true, false, false, false] rfl rfl (one_of HT_.out Z6) (by decide) (fun K hK => ?_); refine goes_ Tryz.func154 Z6 rfl #[.string ((rd_T53 l1 x29_2).f0), .string t254] (by rfl) rfl rfl Z1 ?_
             with_reducible refine (whole_Mul.calls k2 ((rd_T53 l1 x29_2).f0) t254 t261 _ ?side1 A30.out).mono ?_
             (case side1 => exact GL.below hG Z16)
             rintro e w41 ⟨rfl, hb⟩; refine ⟨_, rfl, ?_⟩; have n0_ := AS (Kd.R_below Z84 hb); have n1_ := AS (Kd.R_below Z137 hb); have n2_ := AS (bbl (g := gb247) (o := .cells #[.slice none 0 0, .slice none 0 0, .string ⟨#[]⟩] 191 (0, 0)) Z29 hb); have n3_ := AS (bbl (g := gb248) (o := .cells #[u249000, u249001, .string x249002_1] 191 (0, 0)) Z46 hb); have n4_ := AS (bbl (g := gb253) (o := .cells #[.string ((rd_T53 l1 x29_2).f0), .string ((rd_T53 l1 x29_2).f1)] 53 (0, 0)) Z128 hb); have n5_ := AS (bst Z16 hb); clear HO_249001 HO260; clear BK247 BK248; clear BK253 HB; have HO_249001 := n0_; have HO260 := n1_; have BK247 := n2_; have BK248 := n3_; have BK253 := n4_; have HB := n5_; clear n0_ n1_ n2_ n3_ n4_ n5_
             (try clear hb)
             (try clear hb2)
             (try clear hk)
             (try clear hi)
             refine hK.out _ _ ⟨bc0 BK248.out, bc1 BK248.out, bc2 BK248.out, bc0 BK253.out, bc1 BK253.out, ((HB.out.cell (wbl w _ hw257_0)).trans hw257_0)⟩ (fun hHeld => ?_); clear hK K; refine norm_ (a' := ?_) ?_ ?_; rotate_left
             ·show Act.put _ (some 59) _ = _
              simp only [Act.put, sA1, sA2, sA3, i64_w, i32_w]; rfl
             refine one_ (i := 14) (N := some 60) #[true, true, true, true, true, true, true, true, true, true, true, true, true, true, true, false, true, false, false, false] rfl rfl (one_of HT_.out Z6) (by decide) (fun K hK => ?_); refine value_ (w1 := ?_) (v := ?_) (by rfl) rfl ?_ ?_; rotate_left 2
             ·go_simp
              constructor
              ·rfl
              ·rfl
             refine hK.out _ _ ⟨(bce (bal BK248.out _) 0).trans rfl, (bce (bal BK248.out _) 1).trans rfl, (bce (bal BK248.out _) 2).trans rfl, (bce (bal BK253.out _) 0).trans rfl, (bce (bal BK253.out _) 1).trans rfl, (World.cell?_alloc_lt _ _ _ (wbl _ _ (((HB.out.cell (wbl w _ hw257_0)).trans hw257_0)))).trans (((HB.out.cell (wbl w _ hw257_0)).trans hw257_0))⟩ (fun hHeld => ?_); clear hK K; refine norm_ (a' := ?_) ?_ ?_; rotate_left
             ·show Act.put _ (some 60) _ = _
              simp only [Act.put, sA1, sA2, sA3, i64_w, i32_w]; rfl
             refine one_ (i := 15) (N := some 61) #[true, true, true, true, true, true, true, true, true, true, true, true, true, true, true, true, true, false, false, false] rfl rfl (one_of HT_.out Z6) (by decide) (fun K hK => ?_); refine Kd.R_append_step Kd.string (w0 := w) w.heap.size (by rfl) (.tmp 55) (.tmp 60) 189 51 (.string ⟨#[]⟩) 16 rfl Tryz.underlying189 info51 rfl (by decide) (by omega) u249001 x249001_2 t261 [.string t261] (fun _ => True) (fun _ => False) rfl rfl ?aP (fun _ hk => hk.elim) ?aF ?aO ?aB ?aS ?aL ?_
             (case aP => exact rfl)
             (case aB => exact Z16)
             (case aF => exact (fun _ _ => trivial))
             (case aO => exact Z84)
             (case aS => exact (bsz Z16))
             (case aL => have := LMc31.out; omega)
             intro v263 w42 ho hb hg hat; rw [← Ny262.out] at ho; have n0_ := AS (bgr (g := gb247) (o := .cells #[.slice none 0 0, .slice none 0 0, .string ⟨#[]⟩] 191 (0, 0)) Z29 hg (Kd.R_ne HO_249001.out BK247.out (by decide))); have n1_ := AS (bgr (g := gb248) (o := .cells #[u249000, u249001, .string x249002_1] 191 (0, 0)) Z46 hg (Kd.R_ne HO_249001.out BK248.out (by decide))); have n2_ := AS (bgr (g := gb253) (o := .cells #[.string ((rd_T53 l1 x29_2).f0), .string ((rd_T53 l1 x29_2).f1)] 53 (0, 0)) Z128 hg (Kd.R_ne HO_249001.out BK253.out (by decide))); have n3_ := AS (Kd.R_over' Z137 (Kd.R_typed Z84) (by decide) hg); have n4_ := AS (hb); have n5_ := AS (ho); clear BK247 BK248; clear BK253 HO260; clear HB HO_249001; have BK247 := n0_; have BK248 := n1_; have BK253 := n2_; have HO260 := n3_; have HB := n4_; have HO264 := n5_; clear n0_ n1_ n2_ n3_ n4_ n5_; clear ho hb hg hat; obtain ⟨Ao43, co43, eo43⟩ := Kd.R_slice HO260.out
             (first | subst eo43 | (injection eo43 with f1_ f2_ f3_; have f4_ := f1_.symm; have f5_ := f3_.symm; clear f1_ f2_ f3_; subst f4_; subst f5_))
             obtain ⟨Ao45, co45, eo45⟩ := Kd.R_slice HO264.out
             (first | subst eo45 | (injection eo45 with f1_ f2_ f3_; have f4_ := f1_.symm; have f5_ := f3_.symm; clear f1_ f2_ f3_; subst f4_; subst f5_))
             refine hK.out _ _ ⟨bc0 BK248.out, bc1 BK248.out, bc2 BK248.out, bc0 BK253.out, bc1 BK253.out, ((HB.out.cell (wbl w _ hw257_0)).trans hw257_0)⟩ (fun hHeld => ?_); clear hK K; refine norm_ (a' := ?_) ?_ ?_; rotate_left
             ·show Act.put _ (some 61) _ = _
              simp only [Act.put, sA1, sA2, sA3, i64_w, i32_w]; rfl
             refine last_ (i := 17) (N := none) #[true, true, true, true, true, true, true, true, true, true, true, true, true, true, true, true, true, true, false, false] rfl rfl (one_of HT_.out Z6) (by decide) (fun K hK => ?_); have hs44 : w42.cell? ⟨gb248, 0, none⟩ = some (u249000) := bc0 BK248.out; have hfs44 := bfz BK248.out 0; have hns44_0 := NB247_248.out; have hns44_2 := NB253_248.out; have hms44_0 := NB248_247.out; have hms44_2 := NB248_253.out; refine skip_ (w1 := ?_) (by rfl) rfl ?_ ?_; rotate_left
             ·go_simp; rfl
             refine hK.out _ _ ?_; clear hK K; refine pure_ (i := 18) (N := some 63) (v := ?_) (a' := ?_) #[true, true, true, true, true, true, true, true, true, true, true, true, true, true, true, true, true, true, true, false] rfl rfl (any_of HT_.out Z6) (fun _ _ _ h => h) (Or.inl ⟨by rfl, ?_⟩) ?_ ?_; rotate_left
             ·intro w'; go_simp; with_reducible rfl
             rotate_left
             ·simp only [Act.put, sA1, sA2, sA3, i64_w, i32_w]; rfl
             refine last_ (i := 19) (N := none) #[true, true, true, true, true, true, true, true, true, true, true, true, true, true, true, true, true, true, true, true] rfl rfl (one_of HT_.out Z6) (by decide) (fun K hK => ?_); have hs46 : w42.cell? ⟨gb248, 1, none⟩ = some (u249001) := bc1 BK248.out; have hfs46 := bfz BK248.out 1; have hns46_0 := NB247_248.out; have hns46_2 := NB253_248.out; have hms46_0 := NB248_247.out; have hms46_2 := NB248_253.out; refine skip_ (w1 := ?_) (by rfl) rfl ?_ ?_; rotate_left
             ·go_simp; rfl
             refine hK.out _ _ ?_; clear hK K; refine done_ (done_of HT_.out Z6) ?_; (try go_wp2)
             go_roundg k2
             case measure => have := HK1.out; have := HK2.out; omega
             case rel => exact ⟨(wrap64 (x29_2 + 1)), (y258), (y262), (.slice Ao43 y258.length co43), (.slice Ao45 y262.length co45), Z4, H', ⟨Z131⟩, ⟨by (with_reducible repeat (first | apply Kd.R_alloc | apply Kd.R_drewN | apply Kd.R_drew)); exact Kd.R_mono (Kd.R_far (p := ⟨gb248, 1, none⟩) (Kd.R_far (p := ⟨gb248, 0, none⟩) (Kd.R_types HO260.out BK248.out (by decide)) (fun _ hk => hk.2) (.slice Ao43 y258.length co43)) (fun _ hk => hk.2) (.slice Ao45 y262.length co45)) (fun _ hk => trivial)⟩, ⟨by (with_reducible repeat (first | apply Kd.R_alloc | apply Kd.R_drewN | apply Kd.R_drew)); exact Kd.R_mono (Kd.R_far (p := ⟨gb248, 1, none⟩) (Kd.R_far (p := ⟨gb248, 0, none⟩) (Kd.R_types HO264.out BK248.out (by decide)) (fun _ hk => hk.2) (.slice Ao43 y258.length co43)) (fun _ hk => hk.2) (.slice Ao45 y262.length co45)) (fun _ hk => trivial)⟩, ⟨by (with_reducible repeat (first | apply bdn | apply bdr | apply bal)); refine blk_far ?_ NB247_248.out _; (with_reducible repeat (first | apply bdn | apply bdr | apply bal)); refine blk_far ?_ NB247_248.out _; (with_reducible repeat (first | apply bdn | apply bdr | apply bal)); exact BK247.out⟩, ⟨by (with_reducible repeat (first | apply bdn | apply bdr | apply bal)); refine bpt (cs := #[.slice Ao43 y258.length co43, u249001, .string x249002_1]) ?_ 1 _ rfl; (with_reducible repeat (first | apply bdn | apply bdr | apply bal)); refine bpt (cs := #[u249000, u249001, .string x249002_1]) ?_ 0 _ rfl; (with_reducible repeat (first | apply bdn | apply bdr | apply bal)); exact BK248.out⟩, ⟨Z16⟩⟩
            ·rw [if_neg c31] at H
             exact absurd H (by simp)
           ·rw [if_neg c29] at H
            exact absurd H (by simp)
          ·rw [if_neg c28] at H
           exact absurd H (by simp)
        ·rw [if_neg c21] at H
         exact absurd H (by simp)
       ·rw [if_neg c20] at H
        exact absurd H (by simp)
      ·rw [if_neg c19] at H
       have c19b0 : decide (x29_2 < (l1.length : Int)) = false := decide_eq_false c19; clear c19
       simp only [Option.some.injEq, Prod.mk.injEq] at H
       obtain ⟨rfl, rfl, rfl⟩ := H; have hnb47 := NB248_247.out; have hnc47 := NB247_248.out; have hcz48_0 := bc0 BK248.out; have hcz48_1 := bc1 BK248.out; have hcz48_2 := bc2 BK248.out; have hfz48_0 := bfz BK248.out 0; have hfz48_1 := bfz BK248.out 1; have hfz48_2 := bfz BK248.out 2; obtain ⟨Ao49, co49, eo49⟩ := Kd.R_slice HO_249000.out; subst eo49; have hcz50_0 := bc0 BK247.out; have hcz50_1 := bc1 BK247.out; have hcz50_2 := bc2 BK247.out; have hfz50_0 := bfz BK247.out 0; have hfz50_1 := bfz BK247.out 1; have hfz50_2 := bfz BK247.out 2; obtain ⟨Ao51, co51, eo51⟩ := Kd.R_slice HO_249001.out; subst eo51; go_wp2; refine bodyPost_ret (results_cell_row rfl _ _ gb247 191 #[.slice Ao49 x249000_2.length co49, .slice Ao51 x249001_2.length co51, .string x249002_1] (0, 0) _ rfl (by (with_reducible repeat (first | apply bdn | apply bdr | apply bal)); refine bpt (cs := #[.slice Ao49 x249000_2.length co49, .slice Ao51 x249001_2.length co51, .string ⟨#[]⟩]) ?_ 2 _ rfl; (with_reducible repeat (first | apply bdn | apply bdr | apply bal)); refine bpt (cs := #[.slice Ao49 x249000_2.length co49, .slice none 0 0, .string ⟨#[]⟩]) ?_ 1 _ rfl; (with_reducible repeat (first | apply bdn | apply bdr | apply bal)); refine bpt (cs := #[.slice none 0 0, .slice none 0 0, .string ⟨#[]⟩]) ?_ 0 _ rfl; (with_reducible repeat (first | apply bdn | apply bdr | apply bal)); exact BK247.out) Tryz.underlying191 rfl Z6) rfl ?_; exact ⟨_, _, Z3, by (with_reducible repeat (first | apply Kd.R_alloc | apply Kd.R_drewN | apply Kd.R_drew)); exact Kd.R_mono (Kd.R_far (p := ⟨gb247, 2, none⟩) (Kd.R_far (p := ⟨gb247, 1, none⟩) (Kd.R_far (p := ⟨gb247, 0, none⟩) (Kd.R_types HO_249000.out BK247.out (by decide)) (fun _ hk => hk.2) (.slice Ao49 x249000_2.length co49)) (fun _ hk => hk.2) (.slice Ao51 x249001_2.length co51)) (fun _ hk => hk.2) (.string x249002_1)) (fun _ hk => trivial), by (with_reducible repeat (first | apply Kd.R_alloc | apply Kd.R_drewN | apply Kd.R_drew)); exact Kd.R_mono (Kd.R_far (p := ⟨gb247, 2, none⟩) (Kd.R_far (p := ⟨gb247, 1, none⟩) (Kd.R_far (p := ⟨gb247, 0, none⟩) (Kd.R_types HO_249001.out BK247.out (by decide)) (fun _ hk => hk.2) (.slice Ao49 x249000_2.length co49)) (fun _ hk => hk.2) (.slice Ao51 x249001_2.length co51)) (fun _ hk => hk.2) (.string x249002_1)) (fun _ hk => trivial), Z14⟩
def size_checkQuotient.f (k : Nat) (l0 : List Int) (l1 : List (S53)) (l2 : List (S53)) : Option (Int) := (size_CheckAll.f k l0 (([l1, l2] : List (List (S53))))).bind fun t268 => (if t268 = 0 then ((szTO.f k l0 l2).bind fun bt269 => (if (bt269.1.length : Int) = 0 then (none) else (some 0))) else (none))
theorem size_checkQuotient.callsS (k : Nat) (A0 : Option Addr) (c0 : Nat) (l0 : List Int) (P1_ : Nat → Prop) (A1 : Option Addr) (c1 : Nat) (l1 : List (S53)) (P2_ : Nat → Prop) (A2 : Option Addr) (c2 : Nat) (l2 : List (S53)) (r : Int) (w : World) (hr0 : Kd.C (Kd.int .i64) w A0 l0.length l0) (hc0 : l0.length ≤ c0) (hs1 : Kd.V k53 53 w w.heap.size (fun k_ => P1_ k_) (.slice A1 l1.length c1) l1) (hs2 : Kd.V k53 53 w w.heap.size (fun k_ => P2_ k_) (.slice A2 l2.length c2) l2) (hG : GL w) (h : size_checkQuotient.f k l0 l1 l2 = some r) :
  Calls Tryz.prog 128 #[.slice A0 l0.length c0, .slice A1 l1.length c1, .slice A2 l2.length c2] w fun e w' => e = .returned (.int .i64 r) ∧ Below w.heap.size w w' := by
 have hu191 := Tryz.underlying191
 have hfd191_0 : ∀ (z0_ z1_ z2_ : Value) (W : World), (Instr.field 191 (.agg #[z0_, z1_, z2_]) 0).run Tryz.prog W = .ok z0_ W := fun _ _ _ _ => by rfl
 have HR0 := AS hr0; have HC0 := AS hc0; clear hr0 hc0; have HO1 := AS (show Kd.V k53 53 w w.heap.size (fun k_ => ((P1_ k_ ∨ P2_ k_) ∨ w.heap.size ≤ k_)) (.slice A1 l1.length c1) l1 from Kd.V_mono hs1 (fun k_ hk => .inl (.inl hk))); have HO2 := AS (show Kd.V k53 53 w w.heap.size (fun k_ => ((P1_ k_ ∨ P2_ k_) ∨ w.heap.size ≤ k_)) (.slice A2 l2.length c2) l2 from Kd.V_mono hs2 (fun k_ hk => .inl (.inr hk))); have HB := AS (blr w); have H : ((size_CheckAll.f k l0 (([l1, l2] : List (List (S53))))).bind fun t268 => (if t268 = 0 then ((szTO.f k l0 l2).bind fun bt269 => (if (bt269.1.length : Int) = 0 then (none) else (some 0))) else (none))) = some r := h; clear h
 obtain ⟨y265, hy265⟩ : ∃ y_ : List (List (S53)), y_ = (([l1, l2] : List (List (S53)))) := ⟨_, rfl⟩
 replace H : ((size_CheckAll.f k l0 y265).bind fun t268 => (if t268 = 0 then ((szTO.f k l0 l2).bind fun bt269 => (if (bt269.1.length : Int) = 0 then (none) else (some 0))) else (none))) = some r := by first | (rw [hy265]; with_reducible exact H) | (have H2_ := (Option.bind_some _ _).symm.trans H; rw [hy265]; with_reducible exact H2_) | (have H2_ := (Option.bind_some _ _).symm.trans H; with_reducible exact H2_) | with_reducible exact H | (rw [hy265]; exact H) | exact H
 have Ny265 := AS hy265; clear hy265; replace H := bsm H; obtain ⟨t268, A40, H⟩ := H; replace H : (if t268 = 0 then ((szTO.f k l0 l2).bind fun bt269 => (if (bt269.1.length : Int) = 0 then (none) else (some 0))) else (none)) = some r := H; have A4 := AS A40; clear A40
 by_cases c5 : t268 = 0
 ·rw [if_pos c5] at H
  have c5b0 : (t268 == 0) = true := bqt c5; have c5b1 : (t268 != 0) = false := bnf c5; clear c5; replace H := bsm H; obtain ⟨⟨t269, t272, t275⟩, A60, H⟩ := H; replace H : (if (t269.length : Int) = 0 then (none) else (some 0)) = some r := H; have A6 := AS A60; clear A60
  by_cases c7 : (t269.length : Int) = 0
  ·rw [if_pos c7] at H
   exact absurd H (by simp)
  ·rw [if_neg c7] at H
   have c7b0 : ((t269.length : Int) == 0) = false := bqf c7; have c7b1 : ((t269.length : Int) != 0) = true := bnt c7
   have c7b2 : ¬ (t269 = []) := fun h_ => c7 (by rw [h_]; rfl)
   obtain rfl := Option.some.inj H; go_enter Tryz.func128, Tryz.ntmps128; go_wp2_with (first | ((with_reducible refine gtd (N := 11) rfl ?_); refine Kd.N_lit (Kd.slice 53 k53) _ 134 ?hg (N' := 11) ?hd (xs := ([l1, l2] : List (List (S53)))) (inner := [.slice A1 l1.length c1, .slice A2 l2.length c2]) (ok := (fun k_ => ((P1_ k_ ∨ P2_ k_) ∨ w.heap.size ≤ k_))) (okp := (fun k_ => ((P1_ k_ ∨ P2_ k_) ∨ w.heap.size ≤ k_))) ?hr ?hp (fun _ hk => hk) ((show ∀ k_, w.heap.size ≤ k_ → (fun k_ => ((P1_ k_ ∨ P2_ k_) ∨ w.heap.size ≤ k_)) k_ from fun k_ hk => (.inr (Nat.le_trans (bsz Z0) hk))) _ (Nat.le_refl _)) (Below.refl _ _) (Nat.le_refl _) (by simp) ?_; (case hd => rfl); (case hg => rfl); (case hr => exact Z12); (case hp => exact (Reps.one (show Kd.FK (Kd.slice 53 k53) _ _ l1 [.slice A1 l1.length c1] from (Kd.FK_slice_mk (Kd.V_reads' (Kd.V_mono (ok' := (fun k_ => ((P1_ k_ ∨ P2_ k_) ∨ w.heap.size ≤ k_))) (HO1.out) (fun k_ hk => hk))).2.1 (Kd.V_F (Kd.V_mono (ok' := (fun k_ => ((P1_ k_ ∨ P2_ k_) ∨ w.heap.size ≤ k_))) (HO1.out) (fun k_ hk => hk))))) (Reps.one (show Kd.FK (Kd.slice 53 k53) _ _ l2 [.slice A2 l2.length c2] from (Kd.FK_slice_mk (Kd.V_reads' (Kd.V_mono (ok' := (fun k_ => ((P1_ k_ ∨ P2_ k_) ∨ w.heap.size ≤ k_))) (HO2.out) (fun k_ hk => hk))).2.1 (Kd.V_F (Kd.V_mono (ok' := (fun k_ => ((P1_ k_ ∨ P2_ k_) ∨ w.heap.size ≤ k_))) (HO2.out) (fun k_ hk => hk))))) (Reps.none _ _)))); intro v266 w8 ho9 hb hg_ hnew_; clear hg_ hnew_; (first | rw [← Ny265.out] at ho9 | (simp only [Int.reduceToNat] at ho9; rw [← Ny265.out] at ho9)); have HO267 := AS (Kd.N_lower ho9 (bsz Z0)); replace HO1 := AS (Kd.V_elder' Z18 (Kd.N_base ho9) hb); replace HO2 := AS (Kd.V_elder' Z44 (Kd.N_base ho9) hb); replace HB := AS (bst Z0 hb); clear hb ho9; obtain ⟨Ao10, co10, eo10⟩ := Kd.N_slice HO267.out; subst eo10) | ((with_reducible refine gtc (f := 148) rfl ?_); refine gsL (some 12) rfl rfl Tryz.func148 Z6 rfl #[.slice A0 l0.length c0, .slice Ao10 y265.length co10] rfl Z1 ?_; (with_reducible refine (size_CheckAll.calls k _ _ l0 _ _ y265 t268 _ ?side1 ?side2 ?side3 ?side4 ?side5 A4.out).mono ?_); (case side1 => exact Z9); (case side2 => exact Z81); (case side3 => repeat (first | exact (Kd.N_reads' HO267.out).2.2 | (with_reducible refine Kd.C_alloc ?_ _) | (with_reducible refine Kd.C_drewN ?_ _) | (with_reducible refine Kd.C_drew ?_))); (case side4 => exact (Kd.N_reads' HO267.out).2.1); (case side5 => exact Z168); rintro e w11 ⟨rfl, hb⟩; refine ⟨_, rfl, ?_⟩; replace HO1 := AS (Kd.V_below Z18 hb); replace HO2 := AS (Kd.V_below Z44 hb); replace HO267 := AS (Kd.N_below Z138 hb); replace HB := AS (bst Z0 hb); (try clear hb)) | ((with_reducible refine gtc (f := 149) rfl ?_); refine gsL (some 18) rfl rfl Tryz.func149 Z6 rfl #[.slice A0 l0.length c0, .slice A2 l2.length c2] rfl Z1 ?_; (with_reducible refine (szTO.calls k _ _ l0 _ _ l2 t269 t272 t275 _ ?side1 ?side2 ?side3 ?side4 ?side5 A6.out).mono ?_); (case side1 => exact Z9); (case side2 => exact Z81); (case side3 => exact Z116); (case side4 => exact (Kd.V_reads' HO2.out).2.1); (case side5 => exact Z168); rintro e w12 ⟨v270, v273, rfl, ho0, ho1, hb⟩; refine ⟨_, rfl, ?_⟩; have HO271 := AS (Kd.R_lower (Kd.R_newM (M := fun k_ => (w.heap.size ≤ k_)) ho0 (bsz Z0) (fun k_ h_ => h_)) (bsz Z0)); have HO274 := AS (Kd.R_lower (Kd.R_newM (M := fun k_ => (w.heap.size ≤ k_)) ho1 (bsz Z0) (fun k_ h_ => h_)) (bsz Z0)); replace HO1 := AS (Kd.V_mono (Kd.V_told (Kd.V_told (Kd.V_old Z18 hb) (Kd.R_base ho0)) (Kd.R_base ho1)) (fun _ h_ => h_.1)); replace HO2 := AS (Kd.V_mono (Kd.V_told (Kd.V_told (Kd.V_old Z44 hb) (Kd.R_base ho0)) (Kd.R_base ho1)) (fun _ h_ => h_.1)); replace HO267 := AS (Kd.N_mono (Kd.N_told (Kd.N_told (Kd.N_old Z138 hb) (Kd.R_base ho0)) (Kd.R_base ho1)) (fun _ h_ => h_.1)); replace HB := AS (bst Z0 hb); (try clear hb); (try clear ho0); (try clear ho1); obtain ⟨Ao13, co13, eo13⟩ := Kd.R_slice HO274.out; subst eo13; obtain ⟨Ao14, co14, eo14⟩ := Kd.R_slice HO271.out; subst eo14)); go_ret; exact ⟨Z3, Z0⟩
 ·rw [if_neg c5] at H
  exact absurd H (by simp)
theorem size_checkQuotient.calls (k : Nat) (A0 : Option Addr) (c0 : Nat) (l0 : List Int) (A1 : Option Addr) (c1 : Nat) (l1 : List (S53)) (A2 : Option Addr) (c2 : Nat) (l2 : List (S53)) (r : Int) (w : World) (hr0 : Kd.C (Kd.int .i64) w A0 l0.length l0) (hc0 : l0.length ≤ c0) (hr1 : Kd.C k53 w A1 l1.length l1) (hc1 : l1.length ≤ c1) (hr2 : Kd.C k53 w A2 l2.length l2) (hc2 : l2.length ≤ c2) (hG : GL w) (h : size_checkQuotient.f k l0 l1 l2 = some r) :
  Calls Tryz.prog 128 #[.slice A0 l0.length c0, .slice A1 l1.length c1, .slice A2 l2.length c2] w fun e w' => e = .returned (.int .i64 r) ∧ Below w.heap.size w w' :=
 size_checkQuotient.callsS k _ _ l0 (fun k_ => k_ < w.heap.size) _ _ l1 (fun k_ => k_ < w.heap.size) _ _ l2 r w hr0 hc0 (Kd.V_mk hc1 (Kd.F_below (Kd.C_F k53_heap hr1) (blr w))) (Kd.V_mk hc2 (Kd.F_below (Kd.C_F k53_heap hr2) (blr w))) hG h
def whole_Neg.f (a0 : ByteArray) : Option (ByteArray) := (whole_split.f a0).bind fun bt276 => ((whole_join.f (!bt276.1) bt276.2).bind fun t278 => (some t278))
theorem whole_Neg.calls (a0 : ByteArray) (r : ByteArray) (w : World) (hG : GL w) (h : whole_Neg.f a0 = some r) :
  Calls Tryz.prog 117 #[.string a0] w fun e w' => e = .returned (.string r) ∧ Drawn0 w w' := by
 have HB := AS (blr w); have H : ((whole_split.f a0).bind fun bt276 => ((whole_join.f (!bt276.1) bt276.2).bind fun t278 => (some t278))) = some r := h; clear h; replace H := bsm H; obtain ⟨⟨t276, t277⟩, A20, H⟩ := H; replace H : ((whole_join.f (!t276) t277).bind fun t278 => (some t278)) = some r := H; have A2 := AS A20; clear A20; replace H := bsm H; obtain ⟨t278, A30, H⟩ := H; replace H : (some t278) = some r := H; have A3 := AS A30; clear A30; obtain rfl := Option.some.inj H; go_enter Tryz.func117, Tryz.ntmps117; go_wp2_with (first | ((with_reducible refine gtc (f := 98) rfl ?_); refine gsL (some 7) rfl rfl Tryz.func98 Z6 rfl #[.string a0] rfl Z1 ?_; (with_reducible refine (whole_split.calls a0 t276 t277 _ ?side1 A2.out).mono ?_); (case side1 => exact Z168); rintro e w' ⟨rfl, ⟨nd, rfl⟩⟩; refine ⟨_, rfl, ?_⟩) | ((with_reducible refine gtc (f := 140) rfl ?_); refine gsL (some 13) rfl rfl Tryz.func140 Z6 rfl #[.bool (!t276), .string t277] rfl Z1 ?_; (with_reducible refine (whole_join.calls (!t276) t277 t278 _ ?side1 A3.out).mono ?_); (case side1 => exact Z168); rintro e w' ⟨rfl, ⟨nd, rfl⟩⟩; refine ⟨_, rfl, ?_⟩)); go_ret; exact ⟨Z4, Z11⟩
def frSi.f (a0_0 : ByteArray) (a0_1 : ByteArray) : Option (Int) := (whole_Sign.f a0_0).bind fun t280 => (some t280)
theorem frSi.calls (a0_0 : ByteArray) (a0_1 : ByteArray) (r : Int) (w : World) (hG : GL w) (h : frSi.f a0_0 a0_1 = some r) :
  Calls Tryz.prog 68 #[.agg #[.string a0_0, .string a0_1]] w fun e w' => e = .returned (.int .i64 r) ∧ Below w.heap.size w w' := by
 have hu53 := Tryz.underlying53; have HB := AS (blr w); have H : ((whole_Sign.f a0_0).bind fun t280 => (some t280)) = some r := h; clear h; replace H := bsm H; obtain ⟨t280, A20, H⟩ := H; replace H : (some t280) = some r := H; have A2 := AS A20; clear A20; obtain rfl := Option.some.inj H; go_enter Tryz.func68, Tryz.ntmps68; go_wp2_with (first | ((with_reducible refine gtd (N := 1) rfl ?_); refine bxe ?hg (N := 1) ?hd (cs := #[.string a0_0, .string a0_1]) (t := 53) ?hr ?_; (case hd => rfl); (case hg => rfl); (case hr => exact Z12); intro gb279 hg w3 hbox hb; have BK279 := AS (hbox); have GW279 := AS ((Z169 : w.heap.size ≤ gb279)); have GE279 := GW279; replace HB := AS (bst Z0 hb); clear hb hbox hg; have hcz4_0 := bc0 BK279.out; have hcz4_1 := bc1 BK279.out; have hfz4_0 := bfz BK279.out 0; have hfz4_1 := bfz BK279.out 1) | ((with_reducible refine gtc (f := 88) rfl ?_); refine gsL (some 5) rfl rfl Tryz.func88 Z6 rfl #[.string a0_0] rfl Z1 ?_; (with_reducible refine (whole_Sign.calls a0_0 t280 _ ?side1 A2.out).mono ?_); (case side1 => exact GL.below hG Z120); rintro e w' ⟨rfl, ⟨nd, rfl⟩⟩; refine ⟨_, rfl, ?_⟩)); go_ret; exact ⟨Z3, Z120⟩
def frlo.j0 : Nat → ByteArray → ByteArray → Option (ByteArray × ByteArray)
 | 0, _, _ => none
 | k + 1, x0, x1 => (whole_Gcd.f k x0 x1).bind fun t285 => (if t285.toList = ([49] : List UInt8) then (some (x0, x1)) else ((whDM.f k x0 t285).bind fun bt286 => ((whDM.f k x1 t285).bind fun bt289 => (some (bt286.1, bt289.1)))))
def frlo.f (k : Nat) (a0 : ByteArray) (a1 : ByteArray) : Option (ByteArray × ByteArray) := (whole_Sign.f a1).bind fun t282 => (if t282 < 0 then ((whole_Neg.f a0).bind fun t283 => ((whole_Neg.f a1).bind fun t284 => (frlo.j0 k t283 t284))) else (frlo.j0 k a0 a1))
theorem frlo.mono_l : ∀ k, (∀ y0 y1, LeO (frlo.j0 k y0 y1) (frlo.j0 (k + 1) y0 y1))
 | 0 => fun _ _ r h => by simp [frlo.j0] at h
 | k + 1 => by
  have ih0 := frlo.mono_l k
  ·intro y0 y1; unfold frlo.j0
   repeat' (with_reducible first | exact ih0 _ _ | exact whDM.mono _ _ _ | exact whole_Gcd.mono _ _ _ | exact LeO.refl _ | exact LeO.none _ | refine LeO.ite ?_ ?_ | refine LeO.bind ?_ (fun _ => ?_))
theorem frlo.mono : ∀ a0 a1 k, LeO (frlo.f k a0 a1) (frlo.f (k + 1) a0 a1) := by
 intro a0 a1 k; have ih0 := frlo.mono_l k; unfold frlo.f
 repeat' (with_reducible first | exact ih0 _ _ | exact whDM.mono _ _ _ | exact whole_Gcd.mono _ _ _ | exact LeO.refl _ | exact LeO.none _ | refine LeO.ite ?_ ?_ | refine LeO.bind ?_ (fun _ => ?_))
theorem frlo.calls (k : Nat) (a0 : ByteArray) (a1 : ByteArray) (r1 : ByteArray) (r2 : ByteArray) (w : World) (hG : GL w) (h : frlo.f k a0 a1 = some (r1, r2)) :
  Calls Tryz.prog 89 #[.string a0, .string a1] w fun e w' => e = .returned (.agg #[.string r1, .string r2]) ∧ Below w.heap.size w w' := by
 have hu53 := Tryz.underlying53; have HB := AS (blr w); have H : ((whole_Sign.f a1).bind fun t282 => (if t282 < 0 then ((whole_Neg.f a0).bind fun t283 => ((whole_Neg.f a1).bind fun t284 => (frlo.j0 k t283 t284))) else (frlo.j0 k a0 a1))) = some (r1, r2) := h; clear h; replace H := bsm H; obtain ⟨t282, A30, H⟩ := H; replace H : (if t282 < 0 then ((whole_Neg.f a0).bind fun t283 => ((whole_Neg.f a1).bind fun t284 => (frlo.j0 k t283 t284))) else (frlo.j0 k a0 a1)) = some (r1, r2) := H; have A3 := AS A30; clear A30; have HC4 := AS H; clear H; go_enter Tryz.func89, Tryz.ntmps89
 go_upto_if 8 with (first | ((with_reducible refine gtd (N := 4) rfl ?_); refine bxe ?hg (N := 4) ?hd (cs := #[.string ⟨#[]⟩, .string ⟨#[]⟩]) (t := 53) ?hr ?_; (case hd => rfl); (case hg => rfl); (case hr => exact Z12); intro gb281 hg w5 hbox hb; have BK281 := AS (hbox); have GW281 := AS ((Z169 : w.heap.size ≤ gb281)); have GE281 := GW281; replace HB := AS (bst Z0 hb); clear hb hbox hg) | ((with_reducible refine gtc (f := 88) rfl ?_); refine gsL (some 7) rfl rfl Tryz.func88 Z6 rfl #[.string a1] rfl Z1 ?_; (with_reducible refine (whole_Sign.calls a1 t282 _ ?side1 A3.out).mono ?_); (case side1 => exact Z195); rintro e w' ⟨rfl, ⟨nd, rfl⟩⟩; refine ⟨_, rfl, ?_⟩))
 (try simp only [Act.put, sA1, sA2, sA3])
 go_cut [0, 1] (fun v0 v1 wc => ∃ (kq : Nat) (x0_3 : ByteArray) (x1_3 : ByteArray), v0 = .string x0_3 ∧ v1 = .string x1_3 ∧ Aside0 (frlo.j0 kq x0_3 x1_3 = some (r1, r2)) ∧ Aside0 (kq ≤ k) ∧ Aside0 (wc.heap[gb281]? = some (.cells #[.string ⟨#[]⟩, .string ⟨#[]⟩] 53 (0, 0))) ∧ Aside0 (Below w.heap.size w wc))
 case first =>
  have H := HC4.out; clear HC4
  by_cases c6 : t282 < 0
  ·rw [if_pos c6] at H
   have c6b0 : decide (t282 < 0) = true := dqt c6; clear c6
   (first | rw [c6b0] | (simp only [i64_w, i32_w]; rw [c6b0]) | skip)
   replace H := bsm H; obtain ⟨t283, A70, H⟩ := H; replace H : ((whole_Neg.f a1).bind fun t284 => (frlo.j0 k t283 t284)) = some (r1, r2) := H; have A7 := AS A70; clear A70; replace H := bsm H; obtain ⟨t284, A80, H⟩ := H; replace H : (frlo.j0 k t283 t284) = some (r1, r2) := H; have A8 := AS A80; clear A80; have H' := AS H; clear H; go_wp2_with (first | ((with_reducible refine gtc (f := 117) rfl ?_); refine gsL (some 10) rfl rfl Tryz.func117 Z6 rfl #[.string a0] rfl Z1 ?_; (with_reducible refine (whole_Neg.calls a0 t283 _ ?side1 A7.out).mono ?_); (case side1 => exact Z195); rintro e w' ⟨rfl, ⟨nd, rfl⟩⟩; refine ⟨_, rfl, ?_⟩) | ((with_reducible refine gtc (f := 117) rfl ?_); refine gsL (some 12) rfl rfl Tryz.func117 Z6 rfl #[.string a1] rfl Z1 ?_; (with_reducible refine (whole_Neg.calls a1 t284 _ ?side1 A8.out).mono ?_); (case side1 => exact Z195); rintro e w' ⟨rfl, ⟨nd, rfl⟩⟩; refine ⟨_, rfl, ?_⟩)); go_meet
   case rel => exact ⟨_, (t283), (t284), Z4, Z4, H', ⟨Z61⟩, ⟨Z86⟩, ⟨Z13⟩⟩
  ·rw [if_neg c6] at H
   have c6b0 : decide (t282 < 0) = false := decide_eq_false c6; clear c6
   (first | rw [c6b0] | (simp only [i64_w, i32_w]; rw [c6b0]) | skip)
   have H' := AS H; clear H; go_wp2; go_meet
   case rel => exact ⟨_, (a0), (a1), Z4, Z4, H', ⟨Z61⟩, ⟨Z86⟩, ⟨Z13⟩⟩
 case rest =>
  clear HC4; (try clear c1); (try clear p2); (try clear c6); (try clear c6b0); (try clear c8); obtain ⟨kq, x0_3, x1_3, rfl, rfl, HA, HJ3, BK281, HB⟩ := hcut
  cases kq with
  | zero => exact absurd HA.out (by simp [frlo.j0])
  | succ kj3 =>
   have H := HA.out; clear HA
   simp only [frlo.j0] at H
   replace H := bsm H; obtain ⟨t285, A90, H⟩ := H; replace H : (if t285.toList = ([49] : List UInt8) then (some (x0_3, x1_3)) else ((whDM.f kj3 x0_3 t285).bind fun bt286 => ((whDM.f kj3 x1_3 t285).bind fun bt289 => (some (bt286.1, bt289.1))))) = some (r1, r2) := H; have A9 := AS A90; clear A90
   by_cases c10 : t285.toList = ([49] : List UInt8)
   ·rw [if_pos c10] at H
    have c10b0 : (t285.toList == ([49] : List UInt8)) = true := bqt c10; have c10b1 : (t285.toList != ([49] : List UInt8)) = false := bnf c10; clear c10
    simp only [Option.some.injEq, Prod.mk.injEq] at H
    obtain ⟨rfl, rfl⟩ := H; go_wp2_with (first | ((with_reducible refine gtc (f := 97) rfl ?_); refine gsL (some 15) rfl rfl Tryz.func97 Z6 rfl #[.string x0_3, .string x1_3] rfl Z1 ?_; (with_reducible refine (whole_Gcd.calls kj3 x0_3 x1_3 t285 _ ?side1 A9.out).mono ?_); (case side1 => exact Z195); rintro e w11 ⟨rfl, hb⟩; refine ⟨_, rfl, ?_⟩; replace BK281 := AS (bbl (g := gb281) (o := .cells #[.string ⟨#[]⟩, .string ⟨#[]⟩] 53 (0, 0)) Z86 hb); replace HB := AS (bst Z13 hb); (try clear hb); have hcz12_0 := bc0 BK281.out; have hcz12_1 := bc1 BK281.out; have hfz12_0 := bfz BK281.out 0; have hfz12_1 := bfz BK281.out 1)); refine bodyPost_ret (results_cell_row rfl _ _ gb281 53 #[.string x0_3, .string x1_3] (0, 0) _ rfl (by (with_reducible repeat (first | apply bdn | apply bdr | apply bal)); refine bpt (cs := #[.string x0_3, .string ⟨#[]⟩]) ?_ 1 _ rfl; (with_reducible repeat (first | apply bdn | apply bdr | apply bal)); refine bpt (cs := #[.string ⟨#[]⟩, .string ⟨#[]⟩]) ?_ 0 _ rfl; (with_reducible repeat (first | apply bdn | apply bdr | apply bal)); exact BK281.out) Tryz.underlying53 rfl Z6) rfl ?_; exact ⟨Z3, Z13⟩
   ·rw [if_neg c10] at H
    have c10b0 : (t285.toList == ([49] : List UInt8)) = false := bqf c10; have c10b1 : (t285.toList != ([49] : List UInt8)) = true := bnt c10; replace H := bsm H; obtain ⟨⟨t286, t287, t288⟩, A130, H⟩ := H; replace H : ((whDM.f kj3 x1_3 t285).bind fun bt289 => (some (t286, bt289.1))) = some (r1, r2) := H; have A13 := AS A130; clear A130; replace H := bsm H; obtain ⟨⟨t289, t290, t291⟩, A140, H⟩ := H; replace H : (some (t286, t289)) = some (r1, r2) := H; have A14 := AS A140; clear A140
    simp only [Option.some.injEq, Prod.mk.injEq] at H
    obtain ⟨rfl, rfl⟩ := H; go_wp2_with (first | ((with_reducible refine gtc (f := 97) rfl ?_); refine gsL (some 15) rfl rfl Tryz.func97 Z6 rfl #[.string x0_3, .string x1_3] rfl Z1 ?_; (with_reducible refine (whole_Gcd.calls kj3 x0_3 x1_3 t285 _ ?side1 A9.out).mono ?_); (case side1 => exact Z195); rintro e w15 ⟨rfl, hb⟩; refine ⟨_, rfl, ?_⟩; replace BK281 := AS (bbl (g := gb281) (o := .cells #[.string ⟨#[]⟩, .string ⟨#[]⟩] 53 (0, 0)) Z86 hb); replace HB := AS (bst Z13 hb); (try clear hb)) | ((with_reducible refine gtc (f := 118) rfl ?_); refine gsL (some 21) rfl rfl Tryz.func118 Z6 rfl #[.string x0_3, .string t285] rfl Z1 ?_; (with_reducible refine (whDM.calls kj3 x0_3 t285 t286 t287 t288 _ ?side1 A13.out).mono ?_); (case side1 => exact Z195); rintro e w16 ⟨rfl, hb⟩; refine ⟨_, rfl, ?_⟩; replace BK281 := AS (bbl (g := gb281) (o := .cells #[.string ⟨#[]⟩, .string ⟨#[]⟩] 53 (0, 0)) Z86 hb); replace HB := AS (bst Z13 hb); (try clear hb)) | ((with_reducible refine gtc (f := 118) rfl ?_); refine gsL (some 28) rfl rfl Tryz.func118 Z6 rfl #[.string x1_3, .string t285] rfl Z1 ?_; (with_reducible refine (whDM.calls kj3 x1_3 t285 t289 t290 t291 _ ?side1 A14.out).mono ?_); (case side1 => exact Z195); rintro e w17 ⟨rfl, hb⟩; refine ⟨_, rfl, ?_⟩; replace BK281 := AS (bbl (g := gb281) (o := .cells #[.string ⟨#[]⟩, .string ⟨#[]⟩] 53 (0, 0)) Z86 hb); replace HB := AS (bst Z13 hb); (try clear hb); have hcz18_0 := bc0 BK281.out; have hcz18_1 := bc1 BK281.out; have hfz18_0 := bfz BK281.out 0; have hfz18_1 := bfz BK281.out 1)); refine bodyPost_ret (results_cell_row rfl _ _ gb281 53 #[.string t286, .string t289] (0, 0) _ rfl (by (with_reducible repeat (first | apply bdn | apply bdr | apply bal)); refine bpt (cs := #[.string t286, .string ⟨#[]⟩]) ?_ 1 _ rfl; (with_reducible repeat (first | apply bdn | apply bdr | apply bal)); refine bpt (cs := #[.string ⟨#[]⟩, .string ⟨#[]⟩]) ?_ 0 _ rfl; (with_reducible repeat (first | apply bdn | apply bdr | apply bal)); exact BK281.out) Tryz.underlying53 rfl Z6) rfl ?_; exact ⟨Z3, Z13⟩

def fraction_Div.f (k : Nat) (a0_0 : ByteArray) (a0_1 : ByteArray) (a1_0 : ByteArray) (a1_1 : ByteArray) : Option (ByteArray × ByteArray × Int) := (frSi.f a1_0 a1_1).bind fun t295 => (if t295 = 0 then (none) else ((whole_Mul.f k a0_0 a1_1).bind fun t296 => ((whole_Mul.f k a0_1 a1_0).bind fun t297 => ((frlo.f k t296 t297).bind fun bt298 => (some (bt298.1, bt298.2, 0))))))
theorem fraction_Div.mono : ∀ a0 a1 a2 a3 k, LeO (fraction_Div.f k a0 a1 a2 a3) (fraction_Div.f (k + 1) a0 a1 a2 a3) := by
 intro a0 a1 a2 a3 k; unfold fraction_Div.f
 repeat' (with_reducible first | exact frlo.mono _ _ _ | exact whole_Mul.mono _ _ _ | exact LeO.refl _ | exact LeO.none _ | refine LeO.ite ?_ ?_ | refine LeO.bind ?_ (fun _ => ?_))
def fraction_Div.T3 : Bool × List (List Nat × List Nat) := (true, [([], []), ([0], [0]), ([], []), ([2], [2]), ([1, 3], [1, 3]), ([], []), ([5], [5]), ([], []), ([7], [7]), ([6, 8, 4], [6, 8]), ([4, 9, 9], [4, 9]), ([10, 10, 0, 1, 2, 3, 4, 5, 6, 7, 8, 9, 10], [10]), ([11, 0, 1, 2, 3, 4, 5, 6, 7, 8, 9, 10, 11], [])])
def fraction_Div.B3 : List Nat := [0, 1, 0, 4, 15, 0, 32, 0, 128, 511, 1023, 2047, 4095]
theorem fraction_Div.tab3 : rtab .any (opsOf Tryz.f183 3) = fraction_Div.T3 := by kernel_rfl
theorem fraction_Div.bits3 : waitsOk fraction_Div.T3.2 fraction_Div.B3 = true := by kernel_rfl
theorem fraction_Div.calls (k : Nat) (a0_0 : ByteArray) (a0_1 : ByteArray) (a1_0 : ByteArray) (a1_1 : ByteArray) (r1 : ByteArray) (r2 : ByteArray) (r3 : Int) (w : World) (hG : GL w) (h : fraction_Div.f k a0_0 a0_1 a1_0 a1_1 = some (r1, r2, r3)) :
  Calls Tryz.prog 183 #[.agg #[.string a0_0, .string a0_1], .agg #[.string a1_0, .string a1_1]] w fun e w' => e = .returned (.tuple #[.agg #[.string r1, .string r2], .int .i64 r3]) ∧ Below w.heap.size w w' := by
 have hu53 := Tryz.underlying53; have HB := AS (blr w); have H : ((frSi.f a1_0 a1_1).bind fun t295 => (if t295 = 0 then (none) else ((whole_Mul.f k a0_0 a1_1).bind fun t296 => ((whole_Mul.f k a0_1 a1_0).bind fun t297 => ((frlo.f k t296 t297).bind fun bt298 => (some (bt298.1, bt298.2, 0))))))) = some (r1, r2, r3) := h; clear h; replace H := bsm H; obtain ⟨t295, A30, H⟩ := H; replace H : (if t295 = 0 then (none) else ((whole_Mul.f k a0_0 a1_1).bind fun t296 => ((whole_Mul.f k a0_1 a1_0).bind fun t297 => ((frlo.f k t296 t297).bind fun bt298 => (some (bt298.1, bt298.2, 0)))))) = some (r1, r2, r3) := H; have A3 := AS A30; clear A30
 by_cases c4 : t295 = 0
 ·rw [if_pos c4] at H
  have c4b0 : (t295 == 0) = true := bqt c4; have c4b1 : (t295 != 0) = false := bnf c4; clear c4; exact absurd H (by simp)
 ·rw [if_neg c4] at H
  have c4b0 : (t295 == 0) = false := bqf c4; have c4b1 : (t295 != 0) = true := bnt c4; replace H := bsm H; obtain ⟨t296, A50, H⟩ := H; replace H : ((whole_Mul.f k a0_1 a1_0).bind fun t297 => ((frlo.f k t296 t297).bind fun bt298 => (some (bt298.1, bt298.2, 0)))) = some (r1, r2, r3) := H; have A5 := AS A50; clear A50; replace H := bsm H; obtain ⟨t297, A60, H⟩ := H; replace H : ((frlo.f k t296 t297).bind fun bt298 => (some (bt298.1, bt298.2, 0))) = some (r1, r2, r3) := H; have A6 := AS A60; clear A60; replace H := bsm H; obtain ⟨⟨t298, t299⟩, A70, H⟩ := H; replace H : (some (t298, t299, 0)) = some (r1, r2, r3) := H; have A7 := AS A70; clear A70
  simp only [Option.some.injEq, Prod.mk.injEq] at H
  obtain ⟨rfl, rfl, rfl⟩ := H; go_enter Tryz.func183, Tryz.ntmps183; (try go_wp2_with (first | ((with_reducible refine gtd (N := 2) rfl ?_); refine bxe ?hg (N := 2) ?hd (cs := #[.string a0_0, .string a0_1]) (t := 53) ?hr ?_; (case hd => rfl); (case hg => rfl); (case hr => exact Z12); intro gb292 hg w8 hbox hb; have BK292 := AS (hbox); have GW292 := AS ((Z169 : w.heap.size ≤ gb292)); have GE292 := GW292; replace HB := AS (bst Z0 hb); clear hb hbox hg) | ((with_reducible refine gtd (N := 3) rfl ?_); refine bxe ?hg (N := 3) ?hd (cs := #[.string a1_0, .string a1_1]) (t := 53) ?hr ?_; (case hd => rfl); (case hg => rfl); (case hr => exact Z12); intro gb293 hg w9 hbox hb; have BK293 := AS (hbox); have GW293 := AS ((by rw [hg]; exact (bsz Z103) : w.heap.size ≤ gb293)); have GE293 := AS ((by rw [hg]; exact (bsz Z103) : w.heap.size ≤ gb293)); have NB292_293 := AS ((Z189 : gb292 ≠ gb293)); have NB293_292 := AS ((Z190 : gb293 ≠ gb292)); replace BK292 := AS (bbl (g := gb292) (o := .cells #[.string a0_0, .string a0_1] 53 (0, 0)) Z51 hb); replace HB := AS (bst Z103 hb); clear hb hbox hg) | ((with_reducible refine gtd (N := 4) rfl ?_); refine bxe ?hg (N := 4) ?hd (cs := #[.string ⟨#[]⟩, .string ⟨#[]⟩]) (t := 53) ?hr ?_; (case hd => rfl); (case hg => rfl); (case hr => exact Z12); intro gb294 hg w10 hbox hb; have BK294 := AS (hbox); have GW294 := AS ((by rw [hg]; exact (bsz Z90) : w.heap.size ≤ gb294)); have GE294 := AS ((by rw [hg]; exact (bsz Z90) : w.heap.size ≤ gb294)); have NB292_294 := AS ((Z189 : gb292 ≠ gb294)); have NB294_292 := AS ((Z190 : gb294 ≠ gb292)); have NB293_294 := AS ((by rw [hg]; exact Nat.ne_of_lt (blk_lt (g := gb293) (o := .cells #[.string a1_0, .string a1_1] 53 (0, 0)) Z71) : gb293 ≠ gb294)); have NB294_293 := AS ((by rw [hg]; exact Nat.ne_of_gt (blk_lt (g := gb293) (o := .cells #[.string a1_0, .string a1_1] 53 (0, 0)) Z71) : gb294 ≠ gb293)); replace BK292 := AS (bbl (g := gb292) (o := .cells #[.string a0_0, .string a0_1] 53 (0, 0)) Z51 hb); replace BK293 := AS (bbl (g := gb293) (o := .cells #[.string a1_0, .string a1_1] 53 (0, 0)) Z71 hb); replace HB := AS (bst Z90 hb); clear hb hbox hg; have hnb11 := NB293_292.out; have hnc11 := NB292_293.out; have hnb12 := NB293_294.out; have hnc12 := NB294_293.out; have hcz13_0 := bc0 BK293.out; have hcz13_1 := bc1 BK293.out; have hfz13_0 := bfz BK293.out 0; have hfz13_1 := bfz BK293.out 1) | ((with_reducible refine gtc (f := 68) rfl ?_); refine gsL (some 7) rfl rfl Tryz.func68 Z6 rfl #[.agg #[.string a1_0, .string a1_1]] rfl Z1 ?_; (with_reducible refine (frSi.calls a1_0 a1_1 t295 _ ?side1 A3.out).mono ?_); (case side1 => exact Z200); rintro e w14 ⟨rfl, hb⟩; refine ⟨_, rfl, ?_⟩; replace BK292 := AS (bbl (g := gb292) (o := .cells #[.string a0_0, .string a0_1] 53 (0, 0)) Z51 hb); replace BK293 := AS (bbl (g := gb293) (o := .cells #[.string a1_0, .string a1_1] 53 (0, 0)) Z71 hb); replace BK294 := AS (bbl (g := gb294) (o := .cells #[.string ⟨#[]⟩, .string ⟨#[]⟩] 53 (0, 0)) Z112 hb); replace HB := AS (bst Z20 hb); (try clear hb)))); have n0_ := AS (bdr BK292.out); have n1_ := AS (bdr BK293.out); have n2_ := AS (bdr BK294.out); have n3_ := AS (bl1 HB.out); clear BK292 BK293; clear BK294 HB; have BK292 := n0_; have BK293 := n1_; have BK294 := n2_; have HB := n3_; clear n0_ n1_ n2_ n3_
  refine start_ (n := 13) (S := fun w' => w'.cell? ⟨gb292, 0, none⟩ = some (.string a0_0) ∧ w'.cell? ⟨gb292, 1, none⟩ = some (.string a0_1) ∧ w'.cell? ⟨gb293, 0, none⟩ = some (.string a1_0) ∧ w'.cell? ⟨gb293, 1, none⟩ = some (.string a1_1)) (ds := []) #[false, false, false, false, false, false, false, false, false, false, false, false, false] Z6 rfl rfl ⟨bc0 BK292.out, bc1 BK292.out, bc0 BK293.out, bc1 BK293.out⟩ (fun hHeld => ?_); refine with_tabW fraction_Div.tab3 fraction_Div.bits3 (fun HT_ HW_ => ?_)
  generalize w14.drew = w15 at BK292 BK293 BK294 HB hHeld ⊢; refine pure_ (i := 0) (N := some 10) (v := ?_) (a' := ?_) #[true, false, false, false, false, false, false, false, false, false, false, false, false] rfl rfl (any_of HT_.out Z6) (fun _ _ _ h => h) (Or.inl ⟨by rfl, ?_⟩) ?_ ?_; rotate_left
  ·intro w'; go_simp; with_reducible rfl
  rotate_left
  ·simp only [Act.put, sA1, sA2, sA3, i64_w, i32_w]; rfl
  refine pure_ (i := 2) (N := some 12) (v := ?_) (a' := ?_) #[true, false, true, false, false, false, false, false, false, false, false, false, false] rfl rfl (any_of HT_.out Z6) (fun _ _ _ h => h) (Or.inl ⟨by rfl, ?_⟩) ?_ ?_; rotate_left
  ·intro w'; go_simp; with_reducible rfl
  rotate_left
  ·simp only [Act.put, sA1, sA2, sA3, i64_w, i32_w]; rfl
  refine pure_ (i := 5) (N := some 15) (v := ?_) (a' := ?_) #[true, false, true, false, false, true, false, false, false, false, false, false, false] rfl rfl (any_of HT_.out Z6) (fun _ _ _ h => h) (Or.inl ⟨by rfl, ?_⟩) ?_ ?_; rotate_left
  ·intro w'; go_simp; with_reducible rfl
  rotate_left
  ·simp only [Act.put, sA1, sA2, sA3, i64_w, i32_w]; rfl
  refine pure_ (i := 7) (N := some 17) (v := ?_) (a' := ?_) #[true, false, true, false, false, true, false, true, false, false, false, false, false] rfl rfl (any_of HT_.out Z6) (fun _ _ _ h => h) (Or.inl ⟨by rfl, ?_⟩) ?_ ?_; rotate_left
  ·intro w'; go_simp; with_reducible rfl
  rotate_left
  ·simp only [Act.put, sA1, sA2, sA3, i64_w, i32_w]; rfl
  refine take_ (i := 1) (N := some 11) (v := ?_) (a' := ?_) #[true, true, true, false, false, true, false, true, false, false, false, false, false] rfl rfl (take_ofW HT_.out HW_.out Z6) (fun _ _ _ h => h) (Or.inl ⟨by rfl, ?_⟩) hHeld ?_ ?_; rotate_left
  ·rintro w' ⟨s0, s1, s2, s3⟩; go_simp; with_reducible rfl
  rotate_left
  ·simp only [Act.put, sA1, sA2, sA3, i64_w, i32_w]; rfl
  refine take_ (i := 3) (N := some 13) (v := ?_) (a' := ?_) #[true, true, true, true, false, true, false, true, false, false, false, false, false] rfl rfl (take_ofW HT_.out HW_.out Z6) (fun _ _ _ h => h) (Or.inl ⟨by rfl, ?_⟩) hHeld ?_ ?_; rotate_left
  ·rintro w' ⟨s0, s1, s2, s3⟩; go_simp; with_reducible rfl
  rotate_left
  ·simp only [Act.put, sA1, sA2, sA3, i64_w, i32_w]; rfl
  refine take_ (i := 6) (N := some 16) (v := ?_) (a' := ?_) #[true, true, true, true, false, true, true, true, false, false, false, false, false] rfl rfl (take_ofW HT_.out HW_.out Z6) (fun _ _ _ h => h) (Or.inl ⟨by rfl, ?_⟩) hHeld ?_ ?_; rotate_left
  ·rintro w' ⟨s0, s1, s2, s3⟩; go_simp; with_reducible rfl
  rotate_left
  ·simp only [Act.put, sA1, sA2, sA3, i64_w, i32_w]; rfl
  refine take_ (i := 8) (N := some 18) (v := ?_) (a' := ?_) #[true, true, true, true, false, true, true, true, true, false, false, false, false] rfl rfl (take_ofW HT_.out HW_.out Z6) (fun _ _ _ h => h) (Or.inl ⟨by rfl, ?_⟩) hHeld ?_ ?_; rotate_left
  ·rintro w' ⟨s0, s1, s2, s3⟩; go_simp; with_reducible rfl
  rotate_left
  ·simp only [Act.put, sA1, sA2, sA3, i64_w, i32_w]; rfl
  refine one_ (i := 4) (N := some 14) #[true, true, true, true, true, true, true, true, true, false, false, false, false] rfl rfl (one_of HT_.out Z6) (by decide) (fun K hK => ?_); refine goes_ Tryz.func154 Z6 rfl #[.string a0_0, .string a1_1] (by rfl) rfl rfl Z1 ?_
  with_reducible refine (whole_Mul.calls k a0_0 a1_1 t296 _ ?side1 A5.out).mono ?_
  (case side1 => exact Z200)
  rintro e w16 ⟨rfl, hb⟩; refine ⟨_, rfl, ?_⟩; have n0_ := AS (bbl (g := gb292) (o := .cells #[.string a0_0, .string a0_1] 53 (0, 0)) Z51 hb); have n1_ := AS (bbl (g := gb293) (o := .cells #[.string a1_0, .string a1_1] 53 (0, 0)) Z71 hb); have n2_ := AS (bbl (g := gb294) (o := .cells #[.string ⟨#[]⟩, .string ⟨#[]⟩] 53 (0, 0)) Z112 hb); have n3_ := AS (bst Z20 hb); clear BK292 BK293; clear BK294 HB; have BK292 := n0_; have BK293 := n1_; have BK294 := n2_; have HB := n3_; clear n0_ n1_ n2_ n3_
  (try clear hb)
  (try clear hb2)
  (try clear hk)
  (try clear hi)
  refine hK.out _ _ ⟨bc0 BK292.out, bc1 BK292.out, bc0 BK293.out, bc1 BK293.out⟩ (fun hHeld => ?_); clear hK K; refine norm_ (a' := ?_) ?_ ?_; rotate_left
  ·show Act.put _ (some 14) _ = _
   simp only [Act.put, sA1, sA2, sA3, i64_w, i32_w]; rfl
  refine one_ (i := 9) (N := some 19) #[true, true, true, true, true, true, true, true, true, true, false, false, false] rfl rfl (one_of HT_.out Z6) (by decide) (fun K hK => ?_); refine goes_ Tryz.func154 Z6 rfl #[.string a0_1, .string a1_0] (by rfl) rfl rfl Z1 ?_
  with_reducible refine (whole_Mul.calls k a0_1 a1_0 t297 _ ?side1 A6.out).mono ?_
  (case side1 => exact Z200)
  rintro e w17 ⟨rfl, hb⟩; refine ⟨_, rfl, ?_⟩; have n0_ := AS (bbl (g := gb292) (o := .cells #[.string a0_0, .string a0_1] 53 (0, 0)) Z51 hb); have n1_ := AS (bbl (g := gb293) (o := .cells #[.string a1_0, .string a1_1] 53 (0, 0)) Z71 hb); have n2_ := AS (bbl (g := gb294) (o := .cells #[.string ⟨#[]⟩, .string ⟨#[]⟩] 53 (0, 0)) Z112 hb); have n3_ := AS (bst Z20 hb); clear BK292 BK293; clear BK294 HB; have BK292 := n0_; have BK293 := n1_; have BK294 := n2_; have HB := n3_; clear n0_ n1_ n2_ n3_
  (try clear hb)
  (try clear hb2)
  (try clear hk)
  (try clear hi)
  refine hK.out _ _ ⟨bc0 BK292.out, bc1 BK292.out, bc0 BK293.out, bc1 BK293.out⟩ (fun hHeld => ?_); clear hK K; refine norm_ (a' := ?_) ?_ ?_; rotate_left
  ·show Act.put _ (some 19) _ = _
   simp only [Act.put, sA1, sA2, sA3, i64_w, i32_w]; rfl
  refine one_ (i := 10) (N := some 20) #[true, true, true, true, true, true, true, true, true, true, true, false, false] rfl rfl (one_of HT_.out Z6) (by decide) (fun K hK => ?_); refine goes_ Tryz.func89 Z6 rfl #[.string t296, .string t297] (by rfl) rfl rfl Z1 ?_
  with_reducible refine (frlo.calls k t296 t297 t298 t299 _ ?side1 A7.out).mono ?_
  (case side1 => exact Z200)
  rintro e w18 ⟨rfl, hb⟩; refine ⟨_, rfl, ?_⟩; have n0_ := AS (bbl (g := gb292) (o := .cells #[.string a0_0, .string a0_1] 53 (0, 0)) Z51 hb); have n1_ := AS (bbl (g := gb293) (o := .cells #[.string a1_0, .string a1_1] 53 (0, 0)) Z71 hb); have n2_ := AS (bbl (g := gb294) (o := .cells #[.string ⟨#[]⟩, .string ⟨#[]⟩] 53 (0, 0)) Z112 hb); have n3_ := AS (bst Z20 hb); clear BK292 BK293; clear BK294 HB; have BK292 := n0_; have BK293 := n1_; have BK294 := n2_; have HB := n3_; clear n0_ n1_ n2_ n3_
  (try clear hb)
  (try clear hb2)
  (try clear hk)
  (try clear hi)
  refine hK.out _ _ ⟨bc0 BK292.out, bc1 BK292.out, bc0 BK293.out, bc1 BK293.out⟩ (fun hHeld => ?_); clear hK K; refine norm_ (a' := ?_) ?_ ?_; rotate_left
  ·show Act.put _ (some 20) _ = _
   simp only [Act.put, sA1, sA2, sA3, i64_w, i32_w]; rfl
  refine one_ (i := 11) (N := none) #[true, true, true, true, true, true, true, true, true, true, true, true, false] rfl rfl (one_of HT_.out Z6) (by decide) (fun K hK => ?_); have hs19 : w18.cell? ⟨gb294, 0, none⟩ = some (.string ⟨#[]⟩) := bc0 BK294.out; have hfs19 := bfz BK294.out 0; have hns19_0 := NB292_294.out; have hns19_1 := NB293_294.out; have hms19_0 := NB294_292.out; have hms19_1 := NB294_293.out; have hs20 : w18.cell? ⟨gb294, 1, none⟩ = some (.string ⟨#[]⟩) := bc1 BK294.out; have hfs20 := bfz BK294.out 1; have hns20_0 := NB292_294.out; have hns20_1 := NB293_294.out; have hms20_0 := NB294_292.out; have hms20_1 := NB294_293.out; refine skip_ (w1 := ?_) (by rfl) rfl ?_ ?_; rotate_left
  ·go_simp; rfl
  refine hK.out _ _ ⟨((cell_far (p := ⟨gb294, _, none⟩) NB292_294.out _).trans (((cell_far (p := ⟨gb294, _, none⟩) NB292_294.out _).trans (hHeld.1)))), ((cell_far (p := ⟨gb294, _, none⟩) NB292_294.out _).trans (((cell_far (p := ⟨gb294, _, none⟩) NB292_294.out _).trans (hHeld.2.1)))), ((cell_far (p := ⟨gb294, _, none⟩) NB293_294.out _).trans (((cell_far (p := ⟨gb294, _, none⟩) NB293_294.out _).trans (hHeld.2.2.1)))), ((cell_far (p := ⟨gb294, _, none⟩) NB293_294.out _).trans (((cell_far (p := ⟨gb294, _, none⟩) NB293_294.out _).trans (hHeld.2.2.2))))⟩ (fun hHeld => ?_); clear hK K; refine pure_ (i := 12) (N := some 5) (v := ?_) (a' := ?_) #[true, true, true, true, true, true, true, true, true, true, true, true, true] rfl rfl (any_of HT_.out Z6) (fun _ _ _ h => h) (Or.inl ⟨by rfl, ?_⟩) ?_ ?_; rotate_left
  ·intro w'; go_simp; with_reducible rfl
  rotate_left
  ·simp only [Act.put, sA1, sA2, sA3, i64_w, i32_w]; rfl
  refine done_ (done_of HT_.out Z6) ?_; (try go_wp2); refine bodyPost_ret (results_ct rfl _ _ gb294 53 #[.string t298, .string t299] (0, 0) _ rfl (by (with_reducible repeat (first | apply bdn | apply bdr | apply bal)); refine bpt (cs := #[.string t298, .string ⟨#[]⟩]) ?_ 1 _ rfl; (with_reducible repeat (first | apply bdn | apply bdr | apply bal)); refine bpt (cs := #[.string ⟨#[]⟩, .string ⟨#[]⟩]) ?_ 0 _ rfl; (with_reducible repeat (first | apply bdn | apply bdr | apply bal)); exact BK294.out) Tryz.underlying53 rfl Z6) rfl ?_; exact ⟨Z3, Z20⟩

def fraction_little.f (a0 : ByteArray) : Option (Int × Bool) := if (a0.size : Int) > 9 then some (0, false) else (atoiOk a0).map fun v => (v, true)
theorem fraction_little.calls (a0 : ByteArray) (r1 : Int) (r2 : Bool) (w : World) (hG : GL w) (h : fraction_little.f a0 = some (r1, r2)) :
  Calls Tryz.prog 223 #[.string a0] w fun e w' => e = .returned (.tuple #[.int .i64 r1, .bool r2]) ∧ Below w.heap.size w w' := by
 unfold fraction_little.f at h
 by_cases c : (a0.size : Int) > 9
 ·rw [if_pos c] at h; have c1 : decide (9 < (a0.size : Int)) = true := dqt c; simp only [Option.some.injEq, Prod.mk.injEq] at h; obtain ⟨rfl, rfl⟩ := h; have hb := Below.refl w.heap.size w; clear c; go_enter Tryz.func223, Tryz.ntmps223; go_wp2; go_ret2; exact ⟨rfl, hb⟩
 ·rw [if_neg c] at h; have c1 : decide (9 < (a0.size : Int)) = false := decide_eq_false c; obtain ⟨v, hv, he⟩ := Option.map_eq_some_iff.mp h; simp only [Prod.mk.injEq] at he; obtain ⟨rfl, rfl⟩ := he; have hc := AS (atoi_calls hv); clear c h hv; go_enter Tryz.func223, Tryz.ntmps223; go_wp2_with (go_at_call 145; refine (hc.out _).mono ?_; rintro e w' ⟨rfl, hb⟩)
  go_quiet (fail)
  go_wp2; go_ret2; exact ⟨rfl, pbn hb _⟩

def fraction_both.f (a0_0 : ByteArray) (a0_1 : ByteArray) : Option (Int × Int × Bool) := (fraction_little.f a0_0).bind fun bt301 => ((fraction_little.f a0_1).bind fun bt303 => (if bt301.2 = true then (some (bt301.1, bt303.1, bt303.2)) else (some (bt301.1, bt303.1, false))))
theorem fraction_both.calls (a0_0 : ByteArray) (a0_1 : ByteArray) (r1 : Int) (r2 : Int) (r3 : Bool) (w : World) (hG : GL w) (h : fraction_both.f a0_0 a0_1 = some (r1, r2, r3)) :
  Calls Tryz.prog 210 #[.agg #[.string a0_0, .string a0_1]] w fun e w' => e = .returned (.tuple #[.int .i64 r1, .int .i64 r2, .bool r3]) ∧ Below w.heap.size w w' := by
 have hu53 := Tryz.underlying53; have HB := AS (blr w); have H : ((fraction_little.f a0_0).bind fun bt301 => ((fraction_little.f a0_1).bind fun bt303 => (if bt301.2 = true then (some (bt301.1, bt303.1, bt303.2)) else (some (bt301.1, bt303.1, false))))) = some (r1, r2, r3) := h; clear h; replace H := bsm H; obtain ⟨⟨t301, t302⟩, A20, H⟩ := H; replace H : ((fraction_little.f a0_1).bind fun bt303 => (if t302 = true then (some (t301, bt303.1, bt303.2)) else (some (t301, bt303.1, false)))) = some (r1, r2, r3) := H; have A2 := AS A20; clear A20; replace H := bsm H; obtain ⟨⟨t303, t304⟩, A30, H⟩ := H; replace H : (if t302 = true then (some (t301, t303, t304)) else (some (t301, t303, false))) = some (r1, r2, r3) := H; have A3 := AS A30; clear A30
 by_cases c4 : t302 = true
 ·subst c4
  rw [if_pos rfl] at H
  simp only [Option.some.injEq, Prod.mk.injEq] at H
  obtain ⟨rfl, rfl, rfl⟩ := H; go_enter Tryz.func210, Tryz.ntmps210; go_wp2_with (first | ((with_reducible refine gtd (N := 1) rfl ?_); refine bxe ?hg (N := 1) ?hd (cs := #[.string a0_0, .string a0_1]) (t := 53) ?hr ?_; (case hd => rfl); (case hg => rfl); (case hr => exact Z12); intro gb300 hg w5 hbox hb; have BK300 := AS (hbox); have GW300 := AS ((Z169 : w.heap.size ≤ gb300)); have GE300 := GW300; replace HB := AS (bst Z0 hb); clear hb hbox hg; have hcz6_0 := bc0 BK300.out; have hcz6_1 := bc1 BK300.out; have hfz6_0 := bfz BK300.out 0; have hfz6_1 := bfz BK300.out 1) | ((with_reducible refine gtc (f := 223) rfl ?_); refine gsL (some 10) rfl rfl Tryz.func223 Z6 rfl #[.string a0_0] rfl Z1 ?_; (with_reducible refine (fraction_little.calls a0_0 t301 true _ ?side1 A2.out).mono ?_); (case side1 => exact Z201); rintro e w7 ⟨rfl, hb⟩; refine ⟨_, rfl, ?_⟩; replace BK300 := AS (bbl (g := gb300) (o := .cells #[.string a0_0, .string a0_1] 53 (0, 0)) Z113 hb); replace HB := AS (bst Z27 hb); (try clear hb); have hcz8_0 := bc0 BK300.out; have hcz8_1 := bc1 BK300.out; have hfz8_0 := bfz BK300.out 0; have hfz8_1 := bfz BK300.out 1) | ((with_reducible refine gtc (f := 223) rfl ?_); refine gsL (some 16) rfl rfl Tryz.func223 Z6 rfl #[.string a0_1] rfl Z1 ?_; (with_reducible refine (fraction_little.calls a0_1 t303 t304 _ ?side1 A3.out).mono ?_); (case side1 => exact Z201); rintro e w9 ⟨rfl, hb⟩; refine ⟨_, rfl, ?_⟩; replace BK300 := AS (bbl (g := gb300) (o := .cells #[.string a0_0, .string a0_1] 53 (0, 0)) Z113 hb); replace HB := AS (bst Z27 hb); (try clear hb)))
  go_ret3
  exact ⟨Z3, Z27⟩
 ·replace c4 := Bool.eq_false_iff.mpr c4; subst c4
  rw [if_neg ffl] at H
  simp only [Option.some.injEq, Prod.mk.injEq] at H
  obtain ⟨rfl, rfl, rfl⟩ := H; go_enter Tryz.func210, Tryz.ntmps210; go_wp2_with (first | ((with_reducible refine gtd (N := 1) rfl ?_); refine bxe ?hg (N := 1) ?hd (cs := #[.string a0_0, .string a0_1]) (t := 53) ?hr ?_; (case hd => rfl); (case hg => rfl); (case hr => exact Z12); intro gb300 hg w10 hbox hb; have BK300 := AS (hbox); have GW300 := AS ((Z169 : w.heap.size ≤ gb300)); have GE300 := GW300; replace HB := AS (bst Z0 hb); clear hb hbox hg; have hcz11_0 := bc0 BK300.out; have hcz11_1 := bc1 BK300.out; have hfz11_0 := bfz BK300.out 0; have hfz11_1 := bfz BK300.out 1) | ((with_reducible refine gtc (f := 223) rfl ?_); refine gsL (some 10) rfl rfl Tryz.func223 Z6 rfl #[.string a0_0] rfl Z1 ?_; (with_reducible refine (fraction_little.calls a0_0 t301 false _ ?side1 A2.out).mono ?_); (case side1 => exact Z201); rintro e w12 ⟨rfl, hb⟩; refine ⟨_, rfl, ?_⟩; replace BK300 := AS (bbl (g := gb300) (o := .cells #[.string a0_0, .string a0_1] 53 (0, 0)) Z113 hb); replace HB := AS (bst Z27 hb); (try clear hb); have hcz13_0 := bc0 BK300.out; have hcz13_1 := bc1 BK300.out; have hfz13_0 := bfz BK300.out 0; have hfz13_1 := bfz BK300.out 1) | ((with_reducible refine gtc (f := 223) rfl ?_); refine gsL (some 16) rfl rfl Tryz.func223 Z6 rfl #[.string a0_1] rfl Z1 ?_; (with_reducible refine (fraction_little.calls a0_1 t303 t304 _ ?side1 A3.out).mono ?_); (case side1 => exact Z201); rintro e w14 ⟨rfl, hb⟩; refine ⟨_, rfl, ?_⟩; replace BK300 := AS (bbl (g := gb300) (o := .cells #[.string a0_0, .string a0_1] 53 (0, 0)) Z113 hb); replace HB := AS (bst Z27 hb); (try clear hb)))
  go_ret3
  exact ⟨Z3, Z27⟩
def fraction_of.l0 : Nat → Int → Int → Int → Int → Option (ByteArray × ByteArray)
 | 0, _, _, _, _ => none
 | k + 1, x0, x1, x5, x6 => if x6 = 0 then (if x5 < 0 then (if (wrap64 (-x5)) = 0 then (none) else ((strconv_Itoa.f (wrap64 (Int.tdiv x0 (wrap64 (-x5))))).bind fun t306 => ((strconv_Itoa.f (wrap64 (Int.tdiv x1 (wrap64 (-x5))))).bind fun t307 => (some (t306, t307))))) else (if x5 = 0 then (none) else ((strconv_Itoa.f (wrap64 (Int.tdiv x0 x5))).bind fun t308 => ((strconv_Itoa.f (wrap64 (Int.tdiv x1 x5))).bind fun t309 => (some (t308, t309)))))) else (fraction_of.l0 k x0 x1 x6 (Int.tmod x5 x6))
def fraction_of.f (k : Nat) (a0 : Int) (a1 : Int) : Option (ByteArray × ByteArray) := fraction_of.l0 k a0 a1 a0 a1
theorem fraction_of.mono_l : ∀ k, (∀ y0 y1 y2 y3, LeO (fraction_of.l0 k y0 y1 y2 y3) (fraction_of.l0 (k + 1) y0 y1 y2 y3))
 | 0 => fun _ _ _ _ r h => by simp [fraction_of.l0] at h
 | k + 1 => by
  have ih0 := fraction_of.mono_l k
  ·intro y0 y1 y2 y3; unfold fraction_of.l0
   repeat' (with_reducible first | exact ih0 _ _ _ _ | exact LeO.refl _ | exact LeO.none _ | refine LeO.ite ?_ ?_ | refine LeO.bind ?_ (fun _ => ?_))
theorem fraction_of.mono : ∀ a0 a1 k, LeO (fraction_of.f k a0 a1) (fraction_of.f (k + 1) a0 a1) := by
 intro a0 a1 k; have ih0 := fraction_of.mono_l k; unfold fraction_of.f
 repeat' (with_reducible first | exact ih0 _ _ _ _ | exact LeO.refl _ | exact LeO.none _ | refine LeO.ite ?_ ?_ | refine LeO.bind ?_ (fun _ => ?_))
def fraction_of.T6 : Bool × List (List Nat × List Nat) := (true, [([], []), ([], []), ([0, 1], [0, 1]), ([2], [2]), ([], []), ([], []), ([4, 5], [4, 5]), ([6, 3], [6]), ([3, 7], [3, 7]), ([8, 7, 0, 1, 2, 3, 4, 5, 6, 7, 8], [8])])
def fraction_of.B6 : List Nat := [0, 0, 3, 7, 0, 0, 48, 127, 255, 511]
theorem fraction_of.tab6 : rtab .any (opsOf Tryz.f211 6) = fraction_of.T6 := by kernel_rfl
theorem fraction_of.bits6 : waitsOk fraction_of.T6.2 fraction_of.B6 = true := by kernel_rfl
theorem fraction_of.calls (k : Nat) (a0 : Int) (a1 : Int) (r1 : ByteArray) (r2 : ByteArray) (w : World) (hG : GL w) (h : fraction_of.f k a0 a1 = some (r1, r2)) :
  Calls Tryz.prog 211 #[.int .i64 a0, .int .i64 a1] w fun e w' => e = .returned (.agg #[.string r1, .string r2]) ∧ Below w.heap.size w w' := by
 have hu53 := Tryz.underlying53; have HB := AS (blr w); have H : (fraction_of.l0 k a0 a1 a0 a1) = some (r1, r2) := h; clear h; have H' := AS H; clear H; go_enter Tryz.func211, Tryz.ntmps211; go_wp2_with (first | ((with_reducible refine gtd (N := 4) rfl ?_); refine bxe ?hg (N := 4) ?hd (cs := #[.string ⟨#[]⟩, .string ⟨#[]⟩]) (t := 53) ?hr ?_; (case hd => rfl); (case hg => rfl); (case hr => exact Z12); intro gb305 hg w3 hbox hb; have BK305 := AS (hbox); have GW305 := AS ((Z169 : w.heap.size ≤ gb305)); have GE305 := GW305; replace HB := AS (bst Z0 hb); clear hb hbox hg))
 go_loopg [5, 6] k (fun kq v5 v6 w' => ∃ (x5_1 : Int) (x6_1 : Int), v5 = .int .i64 x5_1 ∧ v6 = .int .i64 x6_1 ∧ Aside0 (fraction_of.l0 kq a0 a1 x5_1 x6_1 = some (r1, r2)) ∧ Aside0 (kq ≤ k) ∧ Aside0 (w'.heap[gb305]? = some (.cells #[.string ⟨#[]⟩, .string ⟨#[]⟩] 53 (0, 0))) ∧ Aside0 (Below w.heap.size w w'))
 case atStart => exact ⟨(a0), (a1), Z4, Z4, H', ⟨Nat.le_refl _⟩, ⟨Z87⟩, ⟨Z21⟩⟩
 case round =>
  clear H'; (try clear c2); (try clear p2); obtain ⟨x5_1, x6_1, rfl, rfl, HA, HK1, BK305, HB⟩ := hrel
  cases gk with
  | zero => exact absurd HA.out (by simp [fraction_of.l0])
  | succ k1 =>
   have H := HA.out; clear HA
   simp only [fraction_of.l0] at H
   by_cases c4 : x6_1 = 0
   ·rw [if_pos c4] at H
    have c4b0 : (x6_1 == 0) = true := bqt c4; have c4b1 : (x6_1 != 0) = false := bnf c4; clear c4
    by_cases c5 : x5_1 < 0
    ·rw [if_pos c5] at H
     have c5b0 : decide (x5_1 < 0) = true := dqt c5; clear c5
     by_cases c6 : (wrap64 (-x5_1)) = 0
     ·rw [if_pos c6] at H
      exact absurd H (by simp)
     ·rw [if_neg c6] at H
      have c6b0 : ((wrap64 (-x5_1)) == 0) = false := bqf c6; have c6b1 : ((wrap64 (-x5_1)) != 0) = true := bnt c6; replace H := bsm H; obtain ⟨t306, A70, H⟩ := H; replace H : ((strconv_Itoa.f (wrap64 (Int.tdiv a1 (wrap64 (-x5_1))))).bind fun t307 => (some (t306, t307))) = some (r1, r2) := H; have A7 := AS A70; clear A70; replace H := bsm H; obtain ⟨t307, A80, H⟩ := H; replace H : (some (t306, t307)) = some (r1, r2) := H; have A8 := AS A80; clear A80
      simp only [Option.some.injEq, Prod.mk.injEq] at H
      obtain ⟨rfl, rfl⟩ := H; (try go_wp2); have n0_ := AS (bdr BK305.out); have n1_ := AS (bl1 HB.out); clear BK305 HB; have BK305 := n0_; have HB := n1_; clear n0_ n1_
      refine start_ (n := 10) (S := fun w' => True) (ds := []) #[false, false, false, false, false, false, false, false, false, false] Z6 rfl rfl trivial (fun hHeld => ?_); refine with_tabW fraction_of.tab6 fraction_of.bits6 (fun HT_ HW_ => ?_)
      generalize wr.drew = w9 at BK305 HB hHeld ⊢; refine pure_ (i := 0) (N := some 19) (v := ?_) (a' := ?_) #[true, false, false, false, false, false, false, false, false, false] rfl rfl (any_of HT_.out Z6) (fun _ _ _ h => h) (Or.inl ⟨by rfl, ?_⟩) ?_ ?_; rotate_left
      ·intro w'; go_simp; with_reducible rfl
      rotate_left
      ·simp only [Act.put, sA1, sA2, sA3, i64_w, i32_w]; rfl
      refine pure_ (i := 1) (N := some 20) (v := ?_) (a' := ?_) #[true, true, false, false, false, false, false, false, false, false] rfl rfl (any_of HT_.out Z6) (fun _ _ _ h => h) (Or.inl ⟨by rfl, ?_⟩) ?_ ?_; rotate_left
      ·intro w'; go_simp; with_reducible rfl
      rotate_left
      ·simp only [Act.put, sA1, sA2, sA3, i64_w, i32_w]; rfl
      refine pure_ (i := 2) (N := some 21) (v := ?_) (a' := ?_) #[true, true, true, false, false, false, false, false, false, false] rfl rfl (any_of HT_.out Z6) (fun _ _ _ h => h) (Or.inl ⟨by rfl, ?_⟩) ?_ ?_; rotate_left
      ·intro w'; go_simp; with_reducible rfl
      rotate_left
      ·simp only [Act.put, sA1, sA2, sA3, i64_w, i32_w]; rfl
      refine pure_ (i := 4) (N := some 23) (v := ?_) (a' := ?_) #[true, true, true, false, true, false, false, false, false, false] rfl rfl (any_of HT_.out Z6) (fun _ _ _ h => h) (Or.inl ⟨by rfl, ?_⟩) ?_ ?_; rotate_left
      ·intro w'; go_simp; with_reducible rfl
      rotate_left
      ·simp only [Act.put, sA1, sA2, sA3, i64_w, i32_w]; rfl
      refine pure_ (i := 5) (N := some 24) (v := ?_) (a' := ?_) #[true, true, true, false, true, true, false, false, false, false] rfl rfl (any_of HT_.out Z6) (fun _ _ _ h => h) (Or.inl ⟨by rfl, ?_⟩) ?_ ?_; rotate_left
      ·intro w'; go_simp; with_reducible rfl
      rotate_left
      ·simp only [Act.put, sA1, sA2, sA3, i64_w, i32_w]; rfl
      refine pure_ (i := 6) (N := some 25) (v := ?_) (a' := ?_) #[true, true, true, false, true, true, true, false, false, false] rfl rfl (any_of HT_.out Z6) (fun _ _ _ h => h) (Or.inl ⟨by rfl, ?_⟩) ?_ ?_; rotate_left
      ·intro w'; go_simp; with_reducible rfl
      rotate_left
      ·simp only [Act.put, sA1, sA2, sA3, i64_w, i32_w]; rfl
      refine one_ (i := 3) (N := some 22) #[true, true, true, true, true, true, true, false, false, false] rfl rfl (one_of HT_.out Z6) (by decide) (fun K hK => ?_); refine goes_ Tryz.func90 Z6 rfl #[.int .i64 (wrap64 (Int.tdiv a0 (wrap64 (-x5_1))))] (by rfl) rfl rfl Z1 ?_
      with_reducible refine (strconv_Itoa.calls (wrap64 (Int.tdiv a0 (wrap64 (-x5_1)))) t306 _ ?side1 A7.out).mono ?_
      (case side1 => exact Z202)
      rintro e w10 ⟨rfl, hb⟩; refine ⟨_, rfl, ?_⟩; have n0_ := AS (bbl (g := gb305) (o := .cells #[.string ⟨#[]⟩, .string ⟨#[]⟩] 53 (0, 0)) Z87 hb); have n1_ := AS (bst Z21 hb); clear BK305 HB; have BK305 := n0_; have HB := n1_; clear n0_ n1_
      (try clear hb)
      (try clear hb2)
      (try clear hk)
      (try clear hi)
      refine hK.out _ _ trivial (fun hHeld => ?_); clear hK K; refine norm_ (a' := ?_) ?_ ?_; rotate_left
      ·show Act.put _ (some 22) _ = _
       simp only [Act.put, sA1, sA2, sA3, i64_w, i32_w]; rfl
      refine one_ (i := 7) (N := some 26) #[true, true, true, true, true, true, true, true, false, false] rfl rfl (one_of HT_.out Z6) (by decide) (fun K hK => ?_); refine goes_ Tryz.func90 Z6 rfl #[.int .i64 (wrap64 (Int.tdiv a1 (wrap64 (-x5_1))))] (by rfl) rfl rfl Z1 ?_
      with_reducible refine (strconv_Itoa.calls (wrap64 (Int.tdiv a1 (wrap64 (-x5_1)))) t307 _ ?side1 A8.out).mono ?_
      (case side1 => exact Z202)
      rintro e w11 ⟨rfl, hb⟩; refine ⟨_, rfl, ?_⟩; have n0_ := AS (bbl (g := gb305) (o := .cells #[.string ⟨#[]⟩, .string ⟨#[]⟩] 53 (0, 0)) Z87 hb); have n1_ := AS (bst Z21 hb); clear BK305 HB; have BK305 := n0_; have HB := n1_; clear n0_ n1_
      (try clear hb)
      (try clear hb2)
      (try clear hk)
      (try clear hi)
      refine hK.out _ _ trivial (fun hHeld => ?_); clear hK K; refine norm_ (a' := ?_) ?_ ?_; rotate_left
      ·show Act.put _ (some 26) _ = _
       simp only [Act.put, sA1, sA2, sA3, i64_w, i32_w]; rfl
      refine pure_ (i := 8) (N := some 27) (v := ?_) (a' := ?_) #[true, true, true, true, true, true, true, true, true, false] rfl rfl (any_of HT_.out Z6) (fun _ _ _ h => h) (Or.inl ⟨by rfl, ?_⟩) ?_ ?_; rotate_left
      ·intro w'; go_simp; with_reducible rfl
      rotate_left
      ·simp only [Act.put, sA1, sA2, sA3, i64_w, i32_w]; rfl
      refine one_ (i := 9) (N := none) #[true, true, true, true, true, true, true, true, true, true] rfl rfl (one_of HT_.out Z6) (by decide) (fun K hK => ?_); have hs12 : w11.cell? ⟨gb305, 0, none⟩ = some (.string ⟨#[]⟩) := bc0 BK305.out; have hfs12 := bfz BK305.out 0; have hs13 : w11.cell? ⟨gb305, 1, none⟩ = some (.string ⟨#[]⟩) := bc1 BK305.out; have hfs13 := bfz BK305.out 1; refine skip_ (w1 := ?_) (by rfl) rfl ?_ ?_; rotate_left
      ·go_simp; rfl
      refine hK.out _ _ trivial (fun hHeld => ?_); clear hK K; refine done_ (done_of HT_.out Z6) ?_; (try go_wp2); refine bodyPost_ret (results_cell_row rfl _ _ gb305 53 #[.string t306, .string t307] (0, 0) _ rfl (by (with_reducible repeat (first | apply bdn | apply bdr | apply bal)); refine bpt (cs := #[.string t306, .string ⟨#[]⟩]) ?_ 1 _ rfl; (with_reducible repeat (first | apply bdn | apply bdr | apply bal)); refine bpt (cs := #[.string ⟨#[]⟩, .string ⟨#[]⟩]) ?_ 0 _ rfl; (with_reducible repeat (first | apply bdn | apply bdr | apply bal)); exact BK305.out) Tryz.underlying53 rfl Z6) rfl ?_; exact ⟨Z3, Z21⟩
    ·rw [if_neg c5] at H
     have c5b0 : decide (x5_1 < 0) = false := decide_eq_false c5; clear c5
     by_cases c14 : x5_1 = 0
     ·rw [if_pos c14] at H
      exact absurd H (by simp)
     ·rw [if_neg c14] at H
      have c14b0 : (x5_1 == 0) = false := bqf c14; have c14b1 : (x5_1 != 0) = true := bnt c14; replace H := bsm H; obtain ⟨t308, A150, H⟩ := H; replace H : ((strconv_Itoa.f (wrap64 (Int.tdiv a1 x5_1))).bind fun t309 => (some (t308, t309))) = some (r1, r2) := H; have A15 := AS A150; clear A150; replace H := bsm H; obtain ⟨t309, A160, H⟩ := H; replace H : (some (t308, t309)) = some (r1, r2) := H; have A16 := AS A160; clear A160
      simp only [Option.some.injEq, Prod.mk.injEq] at H
      obtain ⟨rfl, rfl⟩ := H; (try go_wp2); have n0_ := AS (bdr BK305.out); have n1_ := AS (bl1 HB.out); clear BK305 HB; have BK305 := n0_; have HB := n1_; clear n0_ n1_
      refine start_ (n := 10) (S := fun w' => True) (ds := []) #[false, false, false, false, false, false, false, false, false, false] Z6 rfl rfl trivial (fun hHeld => ?_); refine with_tabW fraction_of.tab6 fraction_of.bits6 (fun HT_ HW_ => ?_)
      generalize wr.drew = w17 at BK305 HB hHeld ⊢; refine pure_ (i := 0) (N := some 19) (v := ?_) (a' := ?_) #[true, false, false, false, false, false, false, false, false, false] rfl rfl (any_of HT_.out Z6) (fun _ _ _ h => h) (Or.inl ⟨by rfl, ?_⟩) ?_ ?_; rotate_left
      ·intro w'; go_simp; with_reducible rfl
      rotate_left
      ·simp only [Act.put, sA1, sA2, sA3, i64_w, i32_w]; rfl
      refine pure_ (i := 1) (N := some 20) (v := ?_) (a' := ?_) #[true, true, false, false, false, false, false, false, false, false] rfl rfl (any_of HT_.out Z6) (fun _ _ _ h => h) (Or.inl ⟨by rfl, ?_⟩) ?_ ?_; rotate_left
      ·intro w'; go_simp; with_reducible rfl
      rotate_left
      ·simp only [Act.put, sA1, sA2, sA3, i64_w, i32_w]; rfl
      refine pure_ (i := 2) (N := some 21) (v := ?_) (a' := ?_) #[true, true, true, false, false, false, false, false, false, false] rfl rfl (any_of HT_.out Z6) (fun _ _ _ h => h) (Or.inl ⟨by rfl, ?_⟩) ?_ ?_; rotate_left
      ·intro w'; go_simp; with_reducible rfl
      rotate_left
      ·simp only [Act.put, sA1, sA2, sA3, i64_w, i32_w]; rfl
      refine pure_ (i := 4) (N := some 23) (v := ?_) (a' := ?_) #[true, true, true, false, true, false, false, false, false, false] rfl rfl (any_of HT_.out Z6) (fun _ _ _ h => h) (Or.inl ⟨by rfl, ?_⟩) ?_ ?_; rotate_left
      ·intro w'; go_simp; with_reducible rfl
      rotate_left
      ·simp only [Act.put, sA1, sA2, sA3, i64_w, i32_w]; rfl
      refine pure_ (i := 5) (N := some 24) (v := ?_) (a' := ?_) #[true, true, true, false, true, true, false, false, false, false] rfl rfl (any_of HT_.out Z6) (fun _ _ _ h => h) (Or.inl ⟨by rfl, ?_⟩) ?_ ?_; rotate_left
      ·intro w'; go_simp; with_reducible rfl
      rotate_left
      ·simp only [Act.put, sA1, sA2, sA3, i64_w, i32_w]; rfl
      refine pure_ (i := 6) (N := some 25) (v := ?_) (a' := ?_) #[true, true, true, false, true, true, true, false, false, false] rfl rfl (any_of HT_.out Z6) (fun _ _ _ h => h) (Or.inl ⟨by rfl, ?_⟩) ?_ ?_; rotate_left
      ·intro w'; go_simp; with_reducible rfl
      rotate_left
      ·simp only [Act.put, sA1, sA2, sA3, i64_w, i32_w]; rfl
      refine one_ (i := 3) (N := some 22) #[true, true, true, true, true, true, true, false, false, false] rfl rfl (one_of HT_.out Z6) (by decide) (fun K hK => ?_); refine goes_ Tryz.func90 Z6 rfl #[.int .i64 (wrap64 (Int.tdiv a0 x5_1))] (by rfl) rfl rfl Z1 ?_
      with_reducible refine (strconv_Itoa.calls (wrap64 (Int.tdiv a0 x5_1)) t308 _ ?side1 A15.out).mono ?_
      (case side1 => exact Z202)
      rintro e w18 ⟨rfl, hb⟩; refine ⟨_, rfl, ?_⟩; have n0_ := AS (bbl (g := gb305) (o := .cells #[.string ⟨#[]⟩, .string ⟨#[]⟩] 53 (0, 0)) Z87 hb); have n1_ := AS (bst Z21 hb); clear BK305 HB; have BK305 := n0_; have HB := n1_; clear n0_ n1_
      (try clear hb)
      (try clear hb2)
      (try clear hk)
      (try clear hi)
      refine hK.out _ _ trivial (fun hHeld => ?_); clear hK K; refine norm_ (a' := ?_) ?_ ?_; rotate_left
      ·show Act.put _ (some 22) _ = _
       simp only [Act.put, sA1, sA2, sA3, i64_w, i32_w]; rfl
      refine one_ (i := 7) (N := some 26) #[true, true, true, true, true, true, true, true, false, false] rfl rfl (one_of HT_.out Z6) (by decide) (fun K hK => ?_); refine goes_ Tryz.func90 Z6 rfl #[.int .i64 (wrap64 (Int.tdiv a1 x5_1))] (by rfl) rfl rfl Z1 ?_
      with_reducible refine (strconv_Itoa.calls (wrap64 (Int.tdiv a1 x5_1)) t309 _ ?side1 A16.out).mono ?_
      (case side1 => exact Z202)
      rintro e w19 ⟨rfl, hb⟩; refine ⟨_, rfl, ?_⟩; have n0_ := AS (bbl (g := gb305) (o := .cells #[.string ⟨#[]⟩, .string ⟨#[]⟩] 53 (0, 0)) Z87 hb); have n1_ := AS (bst Z21 hb); clear BK305 HB; have BK305 := n0_; have HB := n1_; clear n0_ n1_
      (try clear hb)
      (try clear hb2)
      (try clear hk)
      (try clear hi)
      refine hK.out _ _ trivial (fun hHeld => ?_); clear hK K; refine norm_ (a' := ?_) ?_ ?_; rotate_left
      ·show Act.put _ (some 26) _ = _
       simp only [Act.put, sA1, sA2, sA3, i64_w, i32_w]; rfl
      refine pure_ (i := 8) (N := some 27) (v := ?_) (a' := ?_) #[true, true, true, true, true, true, true, true, true, false] rfl rfl (any_of HT_.out Z6) (fun _ _ _ h => h) (Or.inl ⟨by rfl, ?_⟩) ?_ ?_; rotate_left
      ·intro w'; go_simp; with_reducible rfl
      rotate_left
      ·simp only [Act.put, sA1, sA2, sA3, i64_w, i32_w]; rfl
      refine one_ (i := 9) (N := none) #[true, true, true, true, true, true, true, true, true, true] rfl rfl (one_of HT_.out Z6) (by decide) (fun K hK => ?_); have hs20 : w19.cell? ⟨gb305, 0, none⟩ = some (.string ⟨#[]⟩) := bc0 BK305.out; have hfs20 := bfz BK305.out 0; have hs21 : w19.cell? ⟨gb305, 1, none⟩ = some (.string ⟨#[]⟩) := bc1 BK305.out; have hfs21 := bfz BK305.out 1; refine skip_ (w1 := ?_) (by rfl) rfl ?_ ?_; rotate_left
      ·go_simp; rfl
      refine hK.out _ _ trivial (fun hHeld => ?_); clear hK K; refine done_ (done_of HT_.out Z6) ?_; (try go_wp2); refine bodyPost_ret (results_cell_row rfl _ _ gb305 53 #[.string t308, .string t309] (0, 0) _ rfl (by (with_reducible repeat (first | apply bdn | apply bdr | apply bal)); refine bpt (cs := #[.string t308, .string ⟨#[]⟩]) ?_ 1 _ rfl; (with_reducible repeat (first | apply bdn | apply bdr | apply bal)); refine bpt (cs := #[.string ⟨#[]⟩, .string ⟨#[]⟩]) ?_ 0 _ rfl; (with_reducible repeat (first | apply bdn | apply bdr | apply bal)); exact BK305.out) Tryz.underlying53 rfl Z6) rfl ?_; exact ⟨Z3, Z21⟩
   ·rw [if_neg c4] at H
    have c4b0 : (x6_1 == 0) = false := bqf c4; have c4b1 : (x6_1 != 0) = true := bnt c4; have H' := AS H; clear H; (try go_wp2); have n0_ := AS (bdr BK305.out); have n1_ := AS (bl1 HB.out); clear BK305 HB; have BK305 := n0_; have HB := n1_; clear n0_ n1_; refine start_ (n := 6) (S := fun w' => True) (ds := []) #[false, false, false, false, false, false] Z6 rfl rfl trivial (fun hHeld => ?_); generalize wr.drew = w22 at BK305 HB hHeld ⊢; refine pure_ (i := 0) (N := some 11) (v := ?_) (a' := ?_) #[true, false, false, false, false, false] rfl rfl Z6 (fun _ _ _ h => h) (Or.inl ⟨by rfl, ?_⟩) ?_ ?_; rotate_left
    ·intro w'; go_simp; with_reducible rfl
    rotate_left
    ·simp only [Act.put, sA1, sA2, sA3, i64_w, i32_w]; rfl
    refine pure_ (i := 1) (N := some 12) (v := ?_) (a' := ?_) #[true, true, false, false, false, false] rfl rfl Z6 (fun _ _ _ h => h) (Or.inl ⟨by rfl, ?_⟩) ?_ ?_; rotate_left
    ·intro w'; go_simp; with_reducible rfl
    rotate_left
    ·simp only [Act.put, sA1, sA2, sA3, i64_w, i32_w]; rfl
    refine pure_ (i := 2) (N := some 13) (v := ?_) (a' := ?_) #[true, true, true, false, false, false] rfl rfl Z6 (fun _ _ _ h => h) (Or.inl ⟨by rfl, ?_⟩) ?_ ?_; rotate_left
    ·intro w'; go_simp; with_reducible rfl
    rotate_left
    ·simp only [Act.put, sA1, sA2, sA3, i64_w, i32_w]; rfl
    refine pure_ (i := 3) (N := some 14) (v := ?_) (a' := ?_) #[true, true, true, true, false, false] rfl rfl Z6 (fun _ _ _ h => h) (Or.inl ⟨by rfl, ?_⟩) ?_ ?_; rotate_left
    ·intro w'; go_simp; with_reducible rfl
    rotate_left
    ·simp only [Act.put, sA1, sA2, sA3, i64_w, i32_w]; rfl
    refine pure_ (i := 4) (N := some 5) (v := ?_) (a' := ?_) #[true, true, true, true, true, false] rfl rfl Z6 (fun _ _ _ h => h) (Or.inl ⟨by rfl, ?_⟩) ?_ ?_; rotate_left
    ·intro w'; go_simp; with_reducible rfl
    rotate_left
    ·simp only [Act.put, sA1, sA2, sA3, i64_w, i32_w]; rfl
    refine pure_ (i := 5) (N := some 6) (v := ?_) (a' := ?_) #[true, true, true, true, true, true] rfl rfl Z6 (fun _ _ _ h => h) (Or.inl ⟨by rfl, ?_⟩) ?_ ?_; rotate_left
    ·intro w'; go_simp; with_reducible rfl
    rotate_left
    ·simp only [Act.put, sA1, sA2, sA3, i64_w, i32_w]; rfl
    refine done_ Z6 ?_; (try go_wp2)
    go_roundg k1
    case measure => have := HK1.out; omega
    case rel => exact ⟨(x6_1), (Int.tmod x5_1 x6_1), Z4, Z4, H', ⟨Z85⟩, ⟨Z87⟩, ⟨Z21⟩⟩
def fraction_Mul.f (k : Nat) (a0_0 : ByteArray) (a0_1 : ByteArray) (a1_0 : ByteArray) (a1_1 : ByteArray) : Option (ByteArray × ByteArray) := (fraction_both.f a0_0 a0_1).bind fun bt313 => (if bt313.2.2 = true then ((fraction_both.f a1_0 a1_1).bind fun bt316 => (if bt316.2.2 = true then ((fraction_of.f k (wrap64 (bt313.1 * bt316.1)) (wrap64 (bt313.2.1 * bt316.2.1))).bind fun bt319 => (some (bt319.1, bt319.2))) else (none))) else (none))
theorem fraction_Mul.mono : ∀ a0 a1 a2 a3 k, LeO (fraction_Mul.f k a0 a1 a2 a3) (fraction_Mul.f (k + 1) a0 a1 a2 a3) := by
 intro a0 a1 a2 a3 k; unfold fraction_Mul.f
 repeat' (with_reducible first | exact fraction_of.mono _ _ _ | exact LeO.refl _ | exact LeO.none _ | refine LeO.ite ?_ ?_ | refine LeO.bind ?_ (fun _ => ?_))
theorem fraction_Mul.calls (k : Nat) (a0_0 : ByteArray) (a0_1 : ByteArray) (a1_0 : ByteArray) (a1_1 : ByteArray) (r1 : ByteArray) (r2 : ByteArray) (w : World) (hG : GL w) (h : fraction_Mul.f k a0_0 a0_1 a1_0 a1_1 = some (r1, r2)) :
  Calls Tryz.prog 184 #[.agg #[.string a0_0, .string a0_1], .agg #[.string a1_0, .string a1_1]] w fun e w' => e = .returned (.agg #[.string r1, .string r2]) ∧ Below w.heap.size w w' := by
 have hu53 := Tryz.underlying53; have HB := AS (blr w); have H : ((fraction_both.f a0_0 a0_1).bind fun bt313 => (if bt313.2.2 = true then ((fraction_both.f a1_0 a1_1).bind fun bt316 => (if bt316.2.2 = true then ((fraction_of.f k (wrap64 (bt313.1 * bt316.1)) (wrap64 (bt313.2.1 * bt316.2.1))).bind fun bt319 => (some (bt319.1, bt319.2))) else (none))) else (none))) = some (r1, r2) := h; clear h; replace H := bsm H; obtain ⟨⟨t313, t314, t315⟩, A30, H⟩ := H; replace H : (if t315 = true then ((fraction_both.f a1_0 a1_1).bind fun bt316 => (if bt316.2.2 = true then ((fraction_of.f k (wrap64 (t313 * bt316.1)) (wrap64 (t314 * bt316.2.1))).bind fun bt319 => (some (bt319.1, bt319.2))) else (none))) else (none)) = some (r1, r2) := H; have A3 := AS A30; clear A30
 by_cases c4 : t315 = true
 ·subst c4
  rw [if_pos rfl] at H
  replace H := bsm H; obtain ⟨⟨t316, t317, t318⟩, A50, H⟩ := H; replace H : (if t318 = true then ((fraction_of.f k (wrap64 (t313 * t316)) (wrap64 (t314 * t317))).bind fun bt319 => (some (bt319.1, bt319.2))) else (none)) = some (r1, r2) := H; have A5 := AS A50; clear A50
  by_cases c6 : t318 = true
  ·subst c6
   rw [if_pos rfl] at H
   replace H := bsm H; obtain ⟨⟨t319, t320⟩, A70, H⟩ := H; replace H : (some (t319, t320)) = some (r1, r2) := H; have A7 := AS A70; clear A70
   simp only [Option.some.injEq, Prod.mk.injEq] at H
   obtain ⟨rfl, rfl⟩ := H; go_enter Tryz.func184, Tryz.ntmps184; go_wp2_with (first | ((with_reducible refine gtd (N := 2) rfl ?_); refine bxe ?hg (N := 2) ?hd (cs := #[.string a0_0, .string a0_1]) (t := 53) ?hr ?_; (case hd => rfl); (case hg => rfl); (case hr => exact Z12); intro gb310 hg w8 hbox hb; have BK310 := AS (hbox); have GW310 := AS ((Z169 : w.heap.size ≤ gb310)); have GE310 := GW310; replace HB := AS (bst Z0 hb); clear hb hbox hg) | ((with_reducible refine gtd (N := 3) rfl ?_); refine bxe ?hg (N := 3) ?hd (cs := #[.string a1_0, .string a1_1]) (t := 53) ?hr ?_; (case hd => rfl); (case hg => rfl); (case hr => exact Z12); intro gb311 hg w9 hbox hb; have BK311 := AS (hbox); have GW311 := AS ((by rw [hg]; exact (bsz Z104) : w.heap.size ≤ gb311)); have GE311 := AS ((by rw [hg]; exact (bsz Z104) : w.heap.size ≤ gb311)); have NB310_311 := AS ((Z191 : gb310 ≠ gb311)); have NB311_310 := AS ((Z192 : gb311 ≠ gb310)); replace BK310 := AS (bbl (g := gb310) (o := .cells #[.string a0_0, .string a0_1] 53 (0, 0)) Z60 hb); replace HB := AS (bst Z104 hb); clear hb hbox hg) | ((with_reducible refine gtd (N := 4) rfl ?_); refine bxe ?hg (N := 4) ?hd (cs := #[.string ⟨#[]⟩, .string ⟨#[]⟩]) (t := 53) ?hr ?_; (case hd => rfl); (case hg => rfl); (case hr => exact Z12); intro gb312 hg w10 hbox hb; have BK312 := AS (hbox); have GW312 := AS ((by rw [hg]; exact (bsz Z91) : w.heap.size ≤ gb312)); have GE312 := AS ((by rw [hg]; exact (bsz Z91) : w.heap.size ≤ gb312)); have NB310_312 := AS ((Z191 : gb310 ≠ gb312)); have NB312_310 := AS ((Z192 : gb312 ≠ gb310)); have NB311_312 := AS ((by rw [hg]; exact Nat.ne_of_lt (blk_lt (g := gb311) (o := .cells #[.string a1_0, .string a1_1] 53 (0, 0)) Z88) : gb311 ≠ gb312)); have NB312_311 := AS ((by rw [hg]; exact Nat.ne_of_gt (blk_lt (g := gb311) (o := .cells #[.string a1_0, .string a1_1] 53 (0, 0)) Z88) : gb312 ≠ gb311)); replace BK310 := AS (bbl (g := gb310) (o := .cells #[.string a0_0, .string a0_1] 53 (0, 0)) Z60 hb); replace BK311 := AS (bbl (g := gb311) (o := .cells #[.string a1_0, .string a1_1] 53 (0, 0)) Z88 hb); replace HB := AS (bst Z91 hb); clear hb hbox hg; have hnb11 := NB310_311.out; have hnc11 := NB311_310.out; have hnb12 := NB310_312.out; have hnc12 := NB312_310.out; have hcz13_0 := bc0 BK310.out; have hcz13_1 := bc1 BK310.out; have hfz13_0 := bfz BK310.out 0; have hfz13_1 := bfz BK310.out 1) | ((with_reducible refine gtc (f := 210) rfl ?_); refine gsL (some 13) rfl rfl Tryz.func210 Z6 rfl #[.agg #[.string a0_0, .string a0_1]] rfl Z1 ?_; (with_reducible refine (fraction_both.calls a0_0 a0_1 t313 t314 true _ ?side1 A3.out).mono ?_); (case side1 => exact GL.below hG Z32); rintro e w14 ⟨rfl, hb⟩; refine ⟨_, rfl, ?_⟩; replace BK310 := AS (bbl (g := gb310) (o := .cells #[.string a0_0, .string a0_1] 53 (0, 0)) Z60 hb); replace BK311 := AS (bbl (g := gb311) (o := .cells #[.string a1_0, .string a1_1] 53 (0, 0)) Z88 hb); replace BK312 := AS (bbl (g := gb312) (o := .cells #[.string ⟨#[]⟩, .string ⟨#[]⟩] 53 (0, 0)) Z129 hb); replace HB := AS (bst Z32 hb); (try clear hb); have hnb15 := NB311_312.out; have hnc15 := NB312_311.out; have hcz16_0 := bc0 BK311.out; have hcz16_1 := bc1 BK311.out; have hfz16_0 := bfz BK311.out 0; have hfz16_1 := bfz BK311.out 1) | ((with_reducible refine gtc (f := 210) rfl ?_); refine gsL (some 20) rfl rfl Tryz.func210 Z6 rfl #[.agg #[.string a1_0, .string a1_1]] rfl Z1 ?_; (with_reducible refine (fraction_both.calls a1_0 a1_1 t316 t317 true _ ?side1 A5.out).mono ?_); (case side1 => exact GL.below hG Z32); rintro e w17 ⟨rfl, hb⟩; refine ⟨_, rfl, ?_⟩; replace BK310 := AS (bbl (g := gb310) (o := .cells #[.string a0_0, .string a0_1] 53 (0, 0)) Z60 hb); replace BK311 := AS (bbl (g := gb311) (o := .cells #[.string a1_0, .string a1_1] 53 (0, 0)) Z88 hb); replace BK312 := AS (bbl (g := gb312) (o := .cells #[.string ⟨#[]⟩, .string ⟨#[]⟩] 53 (0, 0)) Z129 hb); replace HB := AS (bst Z32 hb); (try clear hb)) | ((with_reducible refine gtc (f := 211) rfl ?_); refine gsL (some 31) rfl rfl Tryz.func211 Z6 rfl #[.int .i64 (wrap64 (t313 * t316)), .int .i64 (wrap64 (t314 * t317))] rfl Z1 ?_; (with_reducible refine (fraction_of.calls k (wrap64 (t313 * t316)) (wrap64 (t314 * t317)) t319 t320 _ ?side1 A7.out).mono ?_); (case side1 => exact GL.below hG Z32); rintro e w18 ⟨rfl, hb⟩; refine ⟨_, rfl, ?_⟩; replace BK310 := AS (bbl (g := gb310) (o := .cells #[.string a0_0, .string a0_1] 53 (0, 0)) Z60 hb); replace BK311 := AS (bbl (g := gb311) (o := .cells #[.string a1_0, .string a1_1] 53 (0, 0)) Z88 hb); replace BK312 := AS (bbl (g := gb312) (o := .cells #[.string ⟨#[]⟩, .string ⟨#[]⟩] 53 (0, 0)) Z129 hb); replace HB := AS (bst Z32 hb); (try clear hb); have hcz19_0 := bc0 BK312.out; have hcz19_1 := bc1 BK312.out; have hfz19_0 := bfz BK312.out 0; have hfz19_1 := bfz BK312.out 1)); refine bodyPost_ret (results_cell_row rfl _ _ gb312 53 #[.string t319, .string t320] (0, 0) _ rfl (by (with_reducible repeat (first | apply bdn | apply bdr | apply bal)); refine bpt (cs := #[.string t319, .string ⟨#[]⟩]) ?_ 1 _ rfl; (with_reducible repeat (first | apply bdn | apply bdr | apply bal)); refine bpt (cs := #[.string ⟨#[]⟩, .string ⟨#[]⟩]) ?_ 0 _ rfl; (with_reducible repeat (first | apply bdn | apply bdr | apply bal)); exact BK312.out) Tryz.underlying53 rfl Z6) rfl ?_; exact ⟨Z3, Z32⟩
  ·replace c6 := Bool.eq_false_iff.mpr c6; subst c6
   rw [if_neg ffl] at H
   exact absurd H (by simp)
 ·replace c4 := Bool.eq_false_iff.mpr c4; subst c4
  rw [if_neg ffl] at H
  exact absurd H (by simp)

end Go.Proofs.YtkgkihichdcpmaaGreatDoor.H
