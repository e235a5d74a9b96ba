import Derived.Test.YtkgkihichdcpmaaGreatDoorC2
import Derived.Lib.ConvBytes
import Derived.Lib.AtoiErrMem
import Derived.Laws.DeepStrings4
namespace Go.Proofs.YtkgkihichdcpmaaGreatDoor.H
open Go.RowKit Go.Proofs.YtkgkihichdcpmaaGreatDoorW.PrintWords Go.Proofs.YtkgkihichdcpmaaGreatDoorW.PrintLast Go.Proofs.YtkgkihichdcpmaaGreatDoorW.PrintMore
attribute [local go_sem] max2_int min2_int max_two min_two max_three min_three max_four min_four
set_option linter.unusedVariables false
set_option linter.unusedSimpArgs false
def dptr.l0 : Nat → List Int → Option (List Int)
 | 0, _ => none
 | k + 1, x0 => if (x0.length : Int) > 0 then (if 0 ≤ (wrap64 ((x0.length : Int) - 1)) then (if (wrap64 ((x0.length : Int) - 1)) < (x0.length : Int) then (if (rd x0 (wrap64 ((x0.length : Int) - 1))) = 0 then (if (wrap64 ((x0.length : Int) - 1)) ≤ (x0.length : Int) then (dptr.l0 k (x0.take ((wrap64 ((x0.length : Int) - 1)) : Int).toNat)) else (none)) else (some x0)) else (none)) else (none)) else (some x0)
def dptr.f (k : Nat) (l0 : List Int) : Option (List Int) := dptr.l0 k l0
theorem dptr.mono_l : ∀ k, (∀ y0, LeO (dptr.l0 k y0) (dptr.l0 (k + 1) y0))
 | 0 => fun _ r h => by simp [dptr.l0] at h
 | k + 1 => by
  have ih0 := dptr.mono_l k
  ·intro y0; unfold dptr.l0
   repeat' (with_reducible first | exact ih0 _ | exact LeO.refl _ | exact LeO.none _ | refine LeO.ite ?_ ?_ | refine LeO.bind ?_ (fun _ => ?_))
theorem dptr.mono : ∀ a0 k, LeO (dptr.f k a0) (dptr.f (k + 1) a0) := by
 intro a0 k; have ih0 := dptr.mono_l k; unfold dptr.f
 repeat' (with_reducible first | exact ih0 _ | exact LeO.refl _ | exact LeO.none _ | refine LeO.ite ?_ ?_ | refine LeO.bind ?_ (fun _ => ?_))
set_option maxHeartbeats 8000000 in
set_option maxRecDepth 100000 in
theorem dptr.calls (k : Nat) (P0_ : Nat → Prop) (A0 : Option Addr) (c0 : Nat) (l0 : List Int) (r : List Int) (w : World) (hs0 : Kd.V (Kd.int .u64) 109 w w.heap.size (fun k_ => P0_ k_) (.slice A0 l0.length c0) l0) (hG : GL w) (h : dptr.f k l0 = some r) :
  Calls Tryz.prog 108 #[.slice A0 l0.length c0] w fun e w' => ∃ v0_ : Value, e = .returned (v0_) ∧ Kd.V (Kd.int .u64) 109 w' w.heap.size (fun k_ => (P0_ k_ ∨ w.heap.size ≤ k_)) v0_ r ∧ Below w.heap.size w w' := by
 have HO0 := AS (show Kd.V (Kd.int .u64) 109 w w.heap.size (fun k_ => (P0_ k_ ∨ w.heap.size ≤ k_)) (.slice A0 l0.length c0) l0 from Kd.V_mono hs0 (fun k_ hk => .inl hk)); have HB := AS (Below.refl w.heap.size w); have H : (dptr.l0 k l0) = some r := h; clear h; have H' := AS H; clear H; go_enter Tryz.func108, Tryz.ntmps108; go_wp2
 go_loopg [0] k (fun kq v0 w' => ∃ (x0_1 : List Int), Aside0 (dptr.l0 kq x0_1 = some r) ∧ Aside0 (kq ≤ k) ∧ Aside0 (Kd.V (Kd.int .u64) 109 w' w.heap.size (fun k_ => (P0_ k_ ∨ w.heap.size ≤ k_)) v0 x0_1) ∧ Aside0 (Below w.heap.size w w'))
 case atStart => exact ⟨(l0), H', ⟨Nat.le_refl _⟩, ⟨by (with_reducible repeat (first | apply Kd.V_alloc | apply Kd.V_drewN | apply Kd.V_drew)); exact HO0.out⟩, ⟨Z0⟩⟩
 case round =>
  clear H'; (try clear c1); obtain ⟨x0_1, HA, HK1, HO_0, HB⟩ := hrel
  cases gk with
  | zero => exact absurd HA.out (by simp [dptr.l0])
  | succ k1 =>
   have H := HA.out; clear HA
   simp only [dptr.l0] at H
   by_cases c2 : (x0_1.length : Int) > 0
   ·rw [if_pos c2] at H
    have c2b0 : decide (0 < (x0_1.length : Int)) = true := decide_eq_true c2; have c2b1 : decide (0 < x0_1.length) = true := decide_eq_true (by omega); clear c2
    obtain ⟨ji3, hji3⟩ : ∃ j_ : Int, (wrap64 ((x0_1.length : Int) - 1)) = j_ := ⟨_, rfl⟩
    replace H : (if 0 ≤ (ji3) then (if (ji3) < (x0_1.length : Int) then (if (rd x0_1 (ji3)) = 0 then (if (ji3) ≤ (x0_1.length : Int) then (dptr.l0 k1 (x0_1.take ((ji3) : Int).toNat)) else (none)) else (some x0_1)) else (none)) else (none)) = some r := by first | (rw [hji3] at H; exact H) | (simp only [hji3] at H ⊢; exact H)
    have hji3w : (IntKind.i64.wrap ((x0_1.length : Int) - 1)) = ji3 := (i64_w _).trans hji3
    by_cases c4 : 0 ≤ (ji3)
    ·rw [if_pos c4] at H
     have c4b0 : decide (0 ≤ (ji3)) = true := decide_eq_true c4; clear c4
     by_cases c5 : (ji3) < (x0_1.length : Int)
     ·rw [if_pos c5] at H
      have c5b0 : decide ((ji3) < (x0_1.length : Int)) = true := decide_eq_true c5; clear c5
      by_cases c6 : (rd x0_1 (ji3)) = 0
      ·rw [if_pos c6] at H
       have c6b0 : ((rd x0_1 (ji3)) == 0) = true := beq_iff_eq.mpr c6; have c6b1 : ((rd x0_1 (ji3)) != 0) = false := bne_eq_false_iff_eq.mpr c6; clear c6; have c7b0 := eq_true (of_decide_eq_true Z2 : 0 ≤ (ji3))
       by_cases c8 : (ji3) ≤ (x0_1.length : Int)
       ·rw [if_pos c8] at H
        have c8b0 := eq_true c8; have c8b1 : decide ((ji3) ≤ (x0_1.length : Int)) = true := decide_eq_true c8; clear c8
        obtain ⟨y162, hy162⟩ : ∃ y_ : List Int, y_ = (x0_1.take ((ji3) : Int).toNat) := ⟨_, rfl⟩
        replace H : (dptr.l0 k1 y162) = some r := by first | (rw [hy162]; with_reducible exact H) | (have H2_ := (Option.bind_some _ _).symm.trans H; rw [hy162]; with_reducible exact H2_) | (have H2_ := (Option.bind_some _ _).symm.trans H; with_reducible exact H2_) | with_reducible exact H | (rw [hy162]; exact H) | exact H
        have Ny162 := AS hy162; clear hy162; have H' := AS H; clear H; obtain ⟨Ao9, co9, eo9⟩ := Kd.V_slice HO_0.out; subst eo9; have p161 : 0 ≤ ((ji3) : Int) := of_decide_eq_true Z2; have q161 : (ji3) < (x0_1.length : Int) := of_decide_eq_true Z2; obtain ⟨ad161, e161, hx161_0⟩ := Kd.at_int (Kd.V_reads' HO_0.out).2.2 (ji3) p161 q161; cases e161; replace p161 := eq_true p161; replace q161 := eq_true q161; have q10 : ((ji3) : Int) ≤ ((x0_1.length : Int) : Int) := of_decide_eq_true Z2; obtain ⟨i010, hi010, _, hsz10, _⟩ := info_parts info109; have hroom10 : x0_1.length ≤ co9 := (Kd.V_reads' HO_0.out).2.1; have hC10 : Kd.F (Kd.int .u64) _ _ (some ad161) x0_1.length x0_1 := (Kd.V_at (base := w.heap.size) HO_0.out).2.2; have hcut10 := cut_to (P := Tryz.prog) 113 109 .i64 Tryz.underlying113 hi010 (some ad161) x0_1.length co9 (ji3) (of_decide_eq_true Z2) q10 hroom10; have hr10 := Kd.F_take (m := ((ji3) : Int).toNat) hC10 (by omega); have hy10 : y162.length = ((ji3) : Int).toNat := (by rw [Ny162.out, List.length_take]; omega); rw [← Ny162.out] at hr10; rw [← hy10] at hcut10; have HO166 := AS (show Kd.V (Kd.int .u64) 109 _ w.heap.size _ (.slice (some ad161) y162.length co9) y162 from Kd.V_mk (by omega) hr10); have HC166 := AS (show y162.length ≤ co9 from by omega); clear hr10 hC10 hroom10 hi010 hsz10; have KY10 := AS hy10; clear hy10; replace q10 := eq_true q10; go_wp2
        go_roundg k1
        case measure => have := HK1.out; omega
        case rel => exact ⟨(y162), H', ⟨Z88⟩, ⟨by (with_reducible repeat (first | apply Kd.V_alloc | apply Kd.V_drewN | apply Kd.V_drew)); exact HO166.out⟩, ⟨Z0⟩⟩
       ·rw [if_neg c8] at H
        exact absurd H (by simp)
      ·rw [if_neg c6] at H
       have c6b0 : ((rd x0_1 (ji3)) == 0) = false := beq_eq_false_iff_ne.mpr c6; have c6b1 : ((rd x0_1 (ji3)) != 0) = true := bne_iff_ne.mpr c6; obtain rfl := Option.some.inj H; obtain ⟨Ao11, co11, eo11⟩ := Kd.V_slice HO_0.out; subst eo11; have p161 : 0 ≤ ((ji3) : Int) := of_decide_eq_true Z2; have q161 : (ji3) < (x0_1.length : Int) := of_decide_eq_true Z2; obtain ⟨ad161, e161, hx161_0⟩ := Kd.at_int (Kd.V_reads' HO_0.out).2.2 (ji3) p161 q161; cases e161; replace p161 := eq_true p161; replace q161 := eq_true q161; go_wp2; go_ret; exact ⟨_, Z130, Z157, Z0⟩
     ·rw [if_neg c5] at H
      exact absurd H (by simp)
    ·rw [if_neg c4] at H
     exact absurd H (by simp)
   ·rw [if_neg c2] at H
    have c2b0 : decide (0 < (x0_1.length : Int)) = false := decide_eq_false c2; have c2b1 : decide (0 < x0_1.length) = false := decide_eq_false (by omega); clear c2; obtain rfl := Option.some.inj H; obtain ⟨Ao12, co12, eo12⟩ := Kd.V_slice HO_0.out; subst eo12; go_wp2; go_ret; exact ⟨_, Z3, Z157, Z0⟩

def pieceVal (s : ByteArray) (lo : Nat) : Nat → Int
 | 0 => 0
 | j + 1 => 10 * pieceVal s lo j + (bt s ((lo + j : Nat) : Int) - 48)
def cutList (s : ByteArray) : Nat → Nat → List Int
 | 0, _ => []
 | f + 1, e => if e = 0 then [] else pieceVal s (e - 9) (e - (e - 9)) :: cutList s f (e - 9)
theorem cutList_fuel (s : ByteArray) : ∀ f e, e ≤ f → cutList s f e = cutList s e e := by
 intro f
 induction f using Nat.strongRecOn with
 | _ f ih =>
  intro e he
  cases f with
  | zero =>
   obtain rfl : e = 0 := by omega
   rfl
  | succ f =>
   cases e with
   | zero => simp [cutList]
   | succ e =>
    simp only [cutList]; rw [if_neg (by omega), if_neg (by omega), ih f (by omega) (e + 1 - 9) (by omega), ih e (by omega) (e + 1 - 9) (by omega)]
theorem pieceVal_bound (s : ByteArray) (h : allDig s = true) (lo : Nat) : ∀ j, lo + j ≤ s.size → 0 ≤ pieceVal s lo j ∧ pieceVal s lo j < 10 ^ j := by
 intro j
 induction j with
 | zero => intro _; simp [pieceVal]
 | succ j ih =>
  intro hj; have h1 := ih (by omega); have h2 := (allDig_iff s).mp h (lo + j) (by omega); have e : (10 : Int) ^ (j + 1) = 10 ^ j * 10 := Int.pow_succ ..; simp only [pieceVal]
  constructor
  ·omega
  ·rw [e]
   omega
theorem pieceVal_le9 (s : ByteArray) (h : allDig s = true) (lo j : Nat) (hj : j ≤ 9) (hl : lo + j ≤ s.size) : 0 ≤ pieceVal s lo j ∧ pieceVal s lo j ≤ 999999999 := by
 have h1 := pieceVal_bound s h lo j hl
 have h2 : (10 : Int) ^ j ≤ 10 ^ 9 := by
  rcases (show j = 0 ∨ j = 1 ∨ j = 2 ∨ j = 3 ∨ j = 4 ∨ j = 5 ∨ j = 6 ∨ j = 7 ∨ j = 8 ∨ j = 9 by omega) with rfl | rfl | rfl | rfl | rfl | rfl | rfl | rfl | rfl | rfl <;> decide
 omega
theorem cutList_step (s : ByteArray) (e : Nat) (he : 0 < e) : cutList s e e = pieceVal s (e - 9) (e - (e - 9)) :: cutList s (e - 9) (e - 9) := by
 obtain ⟨f, rfl⟩ : ∃ f, e = f + 1 := ⟨e - 1, by omega⟩
 simp only [cutList]; rw [if_neg (by omega), cutList_fuel s f (f + 1 - 9) (by omega)]
theorem cutList_len (s : ByteArray) : ∀ f e, (cutList s f e).length ≤ f := by
 intro f
 induction f with
 | zero => intro e; simp [cutList]
 | succ f ih =>
  intro e; simp only [cutList]
  split
  ·simp
  ·have := ih (e - 9); simp; omega
theorem bt_extract (s : ByteArray) (lo hi i : Nat) (h : hi ≤ s.size) (hi2 : lo + i < hi) : bt (s.extract lo hi) (i : Int) = bt s ((lo + i : Nat) : Int) := by
 have h1 : i < (s.extract lo hi).size := by simp; omega
 have h2 : lo + i < s.size := by omega
 have e1 : bt (s.extract lo hi) (i : Int) = (((s.extract lo hi)[i]'h1).toNat : Int) := by unfold bt; rw [dif_pos (show ((i : Nat) : Int).toNat < _ from h1)]; rfl
 have e2 : bt s ((lo + i : Nat) : Int) = ((s[lo + i]'h2).toNat : Int) := by unfold bt; rw [dif_pos (show ((lo + i : Nat) : Int).toNat < _ from h2)]; rfl
 rw [e1, e2, ByteArray.getElem_extract]
theorem info109_row : (Tryz.prog.info? 109).map (fun i => (i.zero, i.size, i.bytes)) = some (some (.int .u64 0), 1, 8) := by kernel_rfl
set_option maxHeartbeats 8000000 in
set_option maxRecDepth 100000 in
theorem cut_walk (a0 : ByteArray) (r : List Int) (w : World) (hs : a0.size ≤ 1000000) (hd : allDig a0 = true) (hG : GL w) (h : dptr.f 2000000 (cutList a0 a0.size a0.size) = some r) :
  Calls Tryz.prog 81 #[.string a0] w fun e w' => ∃ v0_ : Value, e = .returned v0_ ∧ Kd.V (Kd.int .u64) 109 w' w.heap.size (fun k_ => w.heap.size ≤ k_) v0_ r ∧ Below w.heap.size w w' := by
 have HD := AS hd; have HH := AS h; have HGL := AS hG; have hb := AS (Below.refl w.heap.size w); clear hd h hG; obtain ⟨i0, hi, hzz⟩ := Option.map_eq_some_iff.1 info109_row; simp only [Prod.mk.injEq] at hzz; obtain ⟨hz0, hz1, hz2⟩ := hzz; obtain ⟨w1, hrun, hown, hgr⟩ := run_make_own (P := Tryz.prog) w w.heap.size 113 109 i0 (.int .u64 0) 1 Tryz.underlying113 hi hz0 hz1 .i64 .i64 (a0.size / 9 + 1) (by rw [hz2]; omega) Z180 (Nat.le_refl _); have hrun' : (Instr.makeSlice 113 (.int .i64 0) (.int .i64 ((a0.size : Int) / 9 + 1))).run Tryz.prog w = .ok (.slice (some ⟨w.heap.size, 0, none⟩) 0 (a0.size / 9 + 1)) w1 := hrun; have HO : Aside0 (Kd.R (Kd.int .u64) 109 w1 w.heap.size (fun _ => True) (.slice (some ⟨w.heap.size, 0, none⟩) 0 (a0.size / 9 + 1)) ([] : List Int)) := ⟨Kd.R_of_own hown (fun _ _ => trivial)⟩; have HB1 := AS ((Below.refl w.heap.size w).grown hgr (Nat.le_refl _) (fun k e => by cases e)); clear hrun hown hgr hi hz0 hz1 hz2; go_enter Tryz.func81, Tryz.ntmps81; go_wp2
 go_loopw [3, 4] (fun v e wr => ∃ (e' : Int) (xs : List Int), e = .int .i64 e' ∧ e' ≤ a0.size ∧ -9 ≤ e' ∧ Aside0 (xs ++ cutList a0 e'.toNat e'.toNat = cutList a0 a0.size a0.size) ∧ Aside0 (Kd.R (Kd.int .u64) 109 wr w.heap.size (fun _ => True) v xs) ∧ Aside0 (Below w.heap.size w wr)) (fun _ e _ => (intOf e).toNat)
 case atStart => exact ⟨a0.size, [], rfl, by omega, by omega, ⟨rfl⟩, HO, HB1⟩
 case round =>
  obtain ⟨e', xs, rfl, he1, he2, HX, HO1, HB2⟩ := hrel
  by_cases hpos : 0 < e'
  ·obtain ⟨e, rfl⟩ := Int.eq_ofNat_of_zero_le (Int.le_of_lt hpos); have hmin : min e a0.size = e := Nat.min_eq_left (by omega)
   by_cases h9 : e ≤ 9
   ·obtain ⟨w3, hw3⟩ : ∃ w3, w3 = Lib.bytesWorld wr 5 (a0.extract 0 e) := ⟨_, rfl⟩
    have hcv := Lib.run_convert_string_bytes (P := Tryz.prog) wr 51 143 5 (a0.extract 0 e) Tryz.underlying51 Tryz.underlying143 Tryz.underlying5
    have h9' : (e : Int) - 9 ≤ 0 := by omega
    have hee : e ≤ a0.size := by omega
    rw [← hw3] at hcv
    have hsz : (a0.extract 0 (e)).size = e := by simp; omega
    have hcell : ∀ k : Nat, k < e → w3.cell? ⟨wr.heap.size, k, none⟩ = some (.int .u8 (bt a0 ((0 + k : Nat) : Int))) := fun k hk => by
     rw [hw3, Lib.bytesWorld_cell wr 5 (a0.extract 0 (e)) k Z181, ← bt_list _ k Z181, bt_extract a0 0 (e) k (by omega) (by omega)]
    have hbel := Lib.bytesWorld_below wr 5 (a0.extract 0 (e)); rw [← hw3] at hbel; have HCELL := AS hcell; have HB3 := AS (bst HB2.out hbel); have HO3 := AS (Kd.R_below HO1.out hbel)
    have HSTEP : Aside0 (xs ++ [pieceVal a0 0 e] ++ cutList a0 ((e : Int) - 9).toNat ((e : Int) - 9).toNat = cutList a0 a0.size a0.size) := ⟨by
     rw [← HX.out, show ((e : Nat) : Int).toNat = e from Int.toNat_natCast _, cutList_step a0 (e) (by omega), List.append_assoc]; rw [show ((e : Int) - 9).toNat = e - 9 from by omega, show e - 9 = 0 from by omega, show e - 0 = e from by omega]
     rfl⟩
    have HLEN : Aside0 (xs.length + 1 ≤ 1000000) := ⟨by
     have h1 := congrArg List.length HSTEP.out; have h2 := cutList_len a0 a0.size a0.size; simp only [List.length_append, List.length_cons, List.length_nil] at h1
     omega⟩
    clear hw3 hsz hcell hbel; go_wp2
    go_loop [5, 27] (fun n i => ∃ k : Nat, k ≤ e ∧ i = .int .i64 k ∧ n = .int .u64 (pieceVal a0 0 k)) (fun _ i => e - (intOf i).toNat)
    case atStart => exact ⟨0, Nat.zero_le _, rfl, rfl⟩
    case round =>
     obtain ⟨k, hk, rfl, rfl⟩ := hrel
     by_cases hlt : k < e
     ·have hck := HCELL.out k hlt; have hpb := pieceVal_le9 a0 HD.out 0 k (by omega) (by omega); have hdig := (allDig_iff a0).mp HD.out (0 + k) (by omega); have HNEXT : Aside0 (pieceVal a0 0 (k + 1) = 10 * pieceVal a0 0 k + (bt a0 ((0 + k : Nat) : Int) - 48)) := ⟨rfl⟩; generalize pieceVal a0 0 k = P at *; generalize bt a0 ((0 + k : Nat) : Int) = c at *; obtain ⟨hp0, hp1⟩ := hpb; obtain ⟨hd0, hd1⟩ := hdig; go_wp2
      go_round
      case rel => exact ⟨k + 1, by omega, by go_num, by rw [HNEXT.out]⟩
      case measure => simp [intOf]; omega
     ·obtain rfl : e = k := by omega
      clear hk; go_wp2_with (at_builtin; (refine Kd.R_append (Kd.int .u64) (w0 := w) w.heap.size rfl (.tmp 38) (.tmp 40) 113 109 (.int .u64 0) 8 rfl Tryz.underlying113 info109_row rfl (by decide) (by decide) u3 xs (pieceVal a0 0 e) [.int .u64 (pieceVal a0 0 e)] (fun _ => True) (fun _ => False) rfl rfl rfl (fun _ hk_ => hk_.elim) (fun _ _ => trivial) HO3.out HB3.out HB3.out.size (by have := HLEN.out; omega) ?_); intro v4 w4 hown4 hB4 _ _; have HO4 := AS hown4; have HB4 := AS hB4; clear hown4 hB4); go_roundw
      case rel => exact ⟨(e : Int) - 9, xs ++ [pieceVal a0 0 e], by go_num, by omega, by omega, ⟨HSTEP.out⟩, HO4, HB4⟩
      case measure => simp [intOf]; omega
   ·obtain ⟨lo, rfl⟩ : ∃ lo, e = lo + 9 := ⟨e - 9, by omega⟩
    have hlo : (0 : Int) < (lo : Int) := by omega
    have hlo2 : lo + 9 ≤ a0.size := by omega
    clear h9
    obtain ⟨w3, hw3⟩ : ∃ w3, w3 = Lib.bytesWorld wr 5 (a0.extract lo (lo + 9)) := ⟨_, rfl⟩
    have hcv := Lib.run_convert_string_bytes (P := Tryz.prog) wr 51 143 5 (a0.extract lo (lo + 9)) Tryz.underlying51 Tryz.underlying143 Tryz.underlying5; rw [← hw3] at hcv
    have hsz : (a0.extract lo (lo + 9)).size = 9 := by simp; omega
    have hcell : ∀ k : Nat, k < 9 → w3.cell? ⟨wr.heap.size, k, none⟩ = some (.int .u8 (bt a0 ((lo + k : Nat) : Int))) := fun k hk => by
     rw [hw3, Lib.bytesWorld_cell wr 5 (a0.extract lo (lo + 9)) k Z181, ← bt_list _ k Z181, bt_extract a0 lo (lo + 9) k (by omega) (by omega)]
    have hbel := Lib.bytesWorld_below wr 5 (a0.extract lo (lo + 9)); rw [← hw3] at hbel; have HCELL := AS hcell; have HB3 := AS (bst HB2.out hbel); have HO3 := AS (Kd.R_below HO1.out hbel)
    have HSTEP : Aside0 (xs ++ [pieceVal a0 lo 9] ++ cutList a0 ((lo + 9 : Int) - 9).toNat ((lo + 9 : Int) - 9).toNat = cutList a0 a0.size a0.size) := ⟨by
     rw [← HX.out, show ((lo + 9 : Nat) : Int).toNat = lo + 9 from Int.toNat_natCast _, cutList_step a0 (lo + 9) (by omega), List.append_assoc]; rw [show ((lo + 9 : Int) - 9).toNat = lo + 9 - 9 from by omega, show lo + 9 - 9 = lo from by omega, show lo + 9 - lo = 9 from by omega]
     rfl⟩
    have HLEN : Aside0 (xs.length + 1 ≤ 1000000) := ⟨by
     have h1 := congrArg List.length HSTEP.out; have h2 := cutList_len a0 a0.size a0.size; simp only [List.length_append, List.length_cons, List.length_nil] at h1
     omega⟩
    clear hw3 hsz hcell hbel; go_wp2
    go_loop [5, 27] (fun n i => ∃ k : Nat, k ≤ 9 ∧ i = .int .i64 k ∧ n = .int .u64 (pieceVal a0 lo k)) (fun _ i => 9 - (intOf i).toNat)
    case atStart => exact ⟨0, Nat.zero_le _, rfl, rfl⟩
    case round =>
     obtain ⟨k, hk, rfl, rfl⟩ := hrel
     by_cases hlt : k < 9
     ·have hck := HCELL.out k hlt; have hpb := pieceVal_le9 a0 HD.out lo k (by omega) (by omega); have hdig := (allDig_iff a0).mp HD.out (lo + k) (by omega); have HNEXT : Aside0 (pieceVal a0 lo (k + 1) = 10 * pieceVal a0 lo k + (bt a0 ((lo + k : Nat) : Int) - 48)) := ⟨rfl⟩; generalize pieceVal a0 lo k = P at *; generalize bt a0 ((lo + k : Nat) : Int) = c at *; obtain ⟨hp0, hp1⟩ := hpb; obtain ⟨hd0, hd1⟩ := hdig; go_wp2
      go_round
      case rel => exact ⟨k + 1, by omega, by go_num, by rw [HNEXT.out]⟩
      case measure => simp [intOf]; omega
     ·obtain rfl : k = 9 := by omega
      clear hk; go_wp2_with (at_builtin; (refine Kd.R_append (Kd.int .u64) (w0 := w) w.heap.size rfl (.tmp 38) (.tmp 40) 113 109 (.int .u64 0) 8 rfl Tryz.underlying113 info109_row rfl (by decide) (by decide) u3 xs (pieceVal a0 lo 9) [.int .u64 (pieceVal a0 lo 9)] (fun _ => True) (fun _ => False) rfl rfl rfl (fun _ hk_ => hk_.elim) (fun _ _ => trivial) HO3.out HB3.out HB3.out.size (by have := HLEN.out; omega) ?_); intro v4 w4 hown4 hB4 _ _; have HO4 := AS hown4; have HB4 := AS hB4; clear hown4 hB4); go_roundw
      case rel => exact ⟨(lo + 9 : Int) - 9, xs ++ [pieceVal a0 lo 9], by go_num, by omega, by omega, ⟨HSTEP.out⟩, HO4, HB4⟩
      case measure => simp [intOf]; omega
  ·have HE : Aside0 (cutList a0 a0.size a0.size = xs) := ⟨by
    rw [← HX.out, show e'.toNat = 0 from by omega]
    simp [cutList]⟩
   have HT := AS (HE.out ▸ HH.out); have HG4 := AS (HGL.out.below HB2.out); obtain ⟨A4, c4, rfl⟩ := Kd.R_slice HO1.out; have hcall := dptr.calls 2000000 (fun k_ => w.heap.size ≤ k_) A4 c4 xs r wr (Kd.V_mono (Kd.R_V (Kd.R_bound HO1.out)) (fun k_ hk_ => hk_.2.1)) HG4.out HT.out; have HC := AS hcall; clear hcall; go_wp2_with (go_at_call 108; refine HC.out.mono ?_; rintro e w5 ⟨v5, rfl, hv5, hb5⟩; have HV := AS hv5; have HB5 := AS (bst HB2.out hb5); clear hv5 hb5); go_ret; exact ⟨_, rfl, Kd.V_lower (Kd.V_mono HV.out (fun k_ hk_ => hk_.elim id (fun h => Nat.le_trans HB2.out.size h))) HB2.out.size, HB5.out⟩
def decu.f (a0 : ByteArray) : Option (List Int) := if a0.size ≤ 1000000 ∧ allDig a0 = true then dptr.f 2000000 (cutList a0 a0.size a0.size) else none
theorem decu.calls (a0 : ByteArray) (r : List Int) (w : World) (hG : GL w) (h : decu.f a0 = some r) :
  Calls Tryz.prog 81 #[.string a0] w fun e w' => ∃ v0_ : Value, e = .returned (v0_) ∧ Kd.V (Kd.int .u64) 109 w' w.heap.size (fun k_ => w.heap.size ≤ k_) v0_ r ∧ Below w.heap.size w w' := by
 unfold decu.f at h
 by_cases c : a0.size ≤ 1000000 ∧ allDig a0 = true
 ·rw [if_pos c] at h; exact cut_walk a0 r w c.1 c.2 hG h
 ·rw [if_neg c] at h; cases h

theorem info5_row : (Tryz.prog.info? 5).map (fun i => (i.zero, i.size, i.bytes)) = some (some (.int .u8 0), 1, 1) := by kernel_rfl
def emitDigs (last : Bool) : Nat → Int → List Int
 | 0, _ => []
 | f + 1, n => if last = true ∧ n ≤ 0 then [] else (48 + n % 10) :: emitDigs last f (n / 10)
def textFrom (len : Nat) : Nat → List Int → List Int
 | _, [] => []
 | i, n :: l => emitDigs (decide (i + 1 = len)) 9 n ++ textFrom len (i + 1) l
theorem C_u64_at {w : World} {A : Option Addr} {l : List Int} (h : Kd.C (Kd.int .u64) w A l.length l) (i : Nat) (hi : i < l.length) : ∃ ad, A = some ad ∧ w.cell? (ad.add i) = some (.int .u64 (l.getD i 0)) := by
 obtain ⟨ad, e, hc⟩ := h.2.2 (by omega); refine ⟨ad, e, ?_⟩; obtain ⟨c, _, hr, hcell⟩ := hc i _ (List.getElem?_eq_getElem hi); have hr' : c = [.int .u64 l[i]] := hr; have := hcell 0 (.int .u64 l[i]) (by rw [hr']; rfl); rw [show i * Kd.sz (Kd.int .u64) + 0 = i from Nat.mul_one i] at this; rw [this, List.getD_eq_getElem?_getD, List.getElem?_eq_getElem hi]; rfl
def u64s (l : List Int) : Bool := l.all fun n => decide (0 ≤ n) && decide (n ≤ 18446744073709551615)
set_option maxHeartbeats 8000000 in
set_option maxRecDepth 100000 in
theorem text_walk (A0 : Option Addr) (c0 : Nat) (l0 : List Int) (r : List Int) (w : World) (hl : l0.length ≤ 100000) (hne : l0 ≠ []) (hu : u64s l0 = true) (hr0 : Kd.C (Kd.int .u64) w A0 l0.length l0) (hc0 : l0.length ≤ c0) (hG : GL w) (h : slrv.f 2000000 (textFrom l0.length 0 l0) = some r) :
  Calls Tryz.prog 83 #[.slice A0 l0.length c0] w fun e w' => e = .returned (.string (strOfNums r)) ∧ Below w.heap.size w w' := by
 have HR := AS hr0; have HU := AS hu; have HH := AS h; have HGL := AS hG; have HL := AS hl; have hpos : 0 < l0.length := List.length_pos_iff.mpr hne
 have hz : ((l0.length : Int) == 0) = false := by rw [beq_eq_false_iff_ne]; omega
 have hz2 : (l0.length == 0) = false := by rw [beq_eq_false_iff_ne]; omega
 have hl2 : (l0.length : Int) ≤ 100000 := by omega
 clear hr0 hu h hG hne; obtain ⟨i0, hi, hzz⟩ := Option.map_eq_some_iff.1 info5_row; simp only [Prod.mk.injEq] at hzz; obtain ⟨hz0, hz1, hz3⟩ := hzz; obtain ⟨w1, hrun, hown, hgr⟩ := run_make_own (P := Tryz.prog) w w.heap.size 143 5 i0 (.int .u8 0) 1 Tryz.underlying143 hi hz0 hz1 .i64 .i64 (9 * l0.length) (by rw [hz3]; omega) Z180 (Nat.le_refl _); have hrun' : (Instr.makeSlice 143 (.int .i64 0) (.int .i64 (9 * (l0.length : Int)))).run Tryz.prog w = .ok (.slice (some ⟨w.heap.size, 0, none⟩) 0 (9 * l0.length)) w1 := hrun; have HO : Aside0 (Kd.R (Kd.int .u8) 5 w1 w.heap.size (fun _ => True) (.slice (some ⟨w.heap.size, 0, none⟩) 0 (9 * l0.length)) ([] : List Int)) := ⟨Kd.R_of_own hown (fun _ _ => trivial)⟩; have HB1 := AS ((Below.refl w.heap.size w).grown hgr (Nat.le_refl _) (fun k e => by cases e)); clear hrun hown hgr hi hz0 hz1 hz3; go_enter Tryz.func83, Tryz.ntmps83; go_wp2
 go_loopw [3, 16] (fun v i wr => ∃ (k : Nat) (xs : List Int), i = .int .i64 k ∧ k ≤ l0.length ∧ xs.length ≤ 9 * k ∧ Aside0 (xs ++ textFrom l0.length k (l0.drop k) = textFrom l0.length 0 l0) ∧ Aside0 (Kd.R (Kd.int .u8) 5 wr w.heap.size (fun _ => True) v xs) ∧ Aside0 (Below w.heap.size w wr)) (fun _ i _ => l0.length - (intOf i).toNat)
 case atStart => exact ⟨0, [], rfl, Nat.zero_le _, by simp, ⟨rfl⟩, HO, HB1⟩
 case round =>
  obtain ⟨k, xs, rfl, hk, hxl, HX, HO1, HB2⟩ := hrel
  by_cases hlt : k < l0.length
  ·obtain ⟨ad, rfl, hcell0⟩ := C_u64_at HR.out k hlt; have hcell := pcb HB2.out hcell0
   have hn : 0 ≤ l0.getD k 0 ∧ l0.getD k 0 ≤ 18446744073709551615 := by
    have h1 := List.all_eq_true.mp HU.out (l0[k]) (List.getElem_mem ..); simp only [Bool.and_eq_true, decide_eq_true_eq] at h1; rw [List.getD_eq_getElem?_getD, List.getElem?_eq_getElem hlt]; exact h1
   have HD : Aside0 (textFrom l0.length k (l0.drop k) = emitDigs (decide (k + 1 = l0.length)) 9 (l0.getD k 0) ++ textFrom l0.length (k + 1) (l0.drop (k + 1))) := ⟨by
    rw [List.drop_eq_getElem_cons hlt, textFrom, List.getD_eq_getElem?_getD, List.getElem?_eq_getElem hlt]
    rfl⟩
   have HX2 := AS (HD.out ▸ HX.out)
   obtain ⟨T, hT⟩ : ∃ T, T = textFrom l0.length (k + 1) (l0.drop (k + 1)) := ⟨_, rfl⟩
   have HTT := AS hT; rw [← hT] at HX2; clear hcell0 HD hT; generalize l0.getD k 0 = N at *; obtain ⟨hn0, hn1⟩ := hn; go_wp2
   go_loopw [3, 5, 6] (fun v n j wr => ∃ (q : Nat) (m : Int) (ys : List Int), j = .int .i64 q ∧ n = .int .u64 m ∧ 0 ≤ m ∧ m ≤ 18446744073709551615 ∧ q ≤ 9 ∧ ys.length ≤ 9 * k + q ∧ Aside0 (ys ++ (emitDigs (decide (k + 1 = l0.length)) (9 - q) m ++ T) = textFrom l0.length 0 l0) ∧ Aside0 (Kd.R (Kd.int .u8) 5 wr w.heap.size (fun _ => True) v ys) ∧ Aside0 (Below w.heap.size w wr)) (fun _ _ j _ => 9 - (intOf j).toNat)
   case atStart => exact ⟨0, N, xs, rfl, rfl, hn0, hn1, by omega, by omega, HX2, HO1, HB2⟩
   case round =>
    obtain ⟨q, m, ys, rfl, rfl, hm0, hm1, hq, hyl, HY, HO2, HB3⟩ := hrel
    by_cases hq9 : q < 9
    ·by_cases hgo : k + 1 < l0.length ∨ 0 < m
     ·have HSTEP : Aside0 ((ys ++ [48 + m % 10]) ++ (emitDigs (decide (k + 1 = l0.length)) (9 - (q + 1)) (m / 10) ++ T) = textFrom l0.length 0 l0) := ⟨by
       rw [← HY.out, show 9 - q = (9 - (q + 1)) + 1 from by omega, emitDigs, if_neg (by simp only [decide_eq_true_eq]; omega)]
       simp⟩
      rcases Nat.lt_or_ge (k + 1) l0.length with c | c
      ·go_wp2_with (at_builtin; (refine Kd.R_append (Kd.int .u8) (w0 := w) w.heap.size rfl (.tmp 36) (.tmp 41) 143 5 (.int .u8 0) 1 rfl Tryz.underlying143 info5_row rfl (by decide) (by decide) u3 ys (48 + m % 10) [.int .u8 (48 + m % 10)] (fun _ => True) (fun _ => False) rfl rfl rfl (fun _ hk_ => hk_.elim) (fun _ _ => trivial) HO2.out HB3.out HB3.out.size (by omega) ?_); intro v4 w4 hown4 hB4 _ _; have HO4 := AS hown4; have HB4 := AS hB4; clear hown4 hB4); go_roundw
       case rel => exact ⟨q + 1, m / 10, ys ++ [48 + m % 10], by go_num, by go_num, by omega, by omega, by omega, Z169, HSTEP, HO4, HB4⟩
       case measure => simp [intOf]; omega
      ·have hm2 : 0 < m := by omega
       go_wp2_with (at_builtin; (refine Kd.R_append (Kd.int .u8) (w0 := w) w.heap.size rfl (.tmp 36) (.tmp 41) 143 5 (.int .u8 0) 1 rfl Tryz.underlying143 info5_row rfl (by decide) (by decide) u3 ys (48 + m % 10) [.int .u8 (48 + m % 10)] (fun _ => True) (fun _ => False) rfl rfl rfl (fun _ hk_ => hk_.elim) (fun _ _ => trivial) HO2.out HB3.out HB3.out.size (by omega) ?_); intro v4 w4 hown4 hB4 _ _; have HO4 := AS hown4; have HB4 := AS hB4; clear hown4 hB4); go_roundw
       case rel => exact ⟨q + 1, m / 10, ys ++ [48 + m % 10], by go_num, by go_num, by omega, by omega, by omega, Z169, HSTEP, HO4, HB4⟩
       case measure => simp [intOf]; omega
     ·have hc : ¬ (k + 1 < l0.length) := by omega
      have hm2 : m = 0 := by omega
      subst hm2
      have HZ : Aside0 (ys ++ textFrom l0.length (k + 1) (l0.drop (k + 1)) = textFrom l0.length 0 l0) := ⟨by
       rw [← HY.out, ← HTT.out, show 9 - q = (9 - (q + 1)) + 1 from by omega, emitDigs, if_pos ⟨by simp only [decide_eq_true_eq]; omega, by omega⟩]
       simp⟩
      go_wp2; go_roundw
      case rel => exact ⟨k + 1, ys, by go_num, by omega, by omega, HZ, HO2, HB3⟩
      case measure => simp [intOf]; omega
    ·obtain rfl : q = 9 := by omega
     have HZ : Aside0 (ys ++ textFrom l0.length (k + 1) (l0.drop (k + 1)) = textFrom l0.length 0 l0) := ⟨by
      rw [← HY.out, ← HTT.out]
      simp [emitDigs]⟩
     go_wp2; go_roundw
     case rel => exact ⟨k + 1, ys, by go_num, by omega, by omega, HZ, HO2, HB3⟩
     case measure => simp [intOf]; omega
  ·obtain rfl : k = l0.length := by omega
   have HE : Aside0 (textFrom l0.length 0 l0 = xs) := ⟨by
    rw [← HX.out, List.drop_length]
    simp [textFrom]⟩
   have HT := AS (HE.out ▸ HH.out); have hcall := slrv.calls 2000000 (fun _ => True) u3 xs r w wr HB2.out HO1.out HGL.out HT.out; have HC := AS hcall; clear hcall; go_wp2_with fail; refine HC.out.mono ?_; rintro e w5 ⟨rfl, hown5, hb5, _⟩; have hcv := own_string (P := Tryz.prog) Tryz.underlying143 Tryz.underlying5 Tryz.underlying51 (Kd.own_of_R hown5); have HB5 := AS hb5; clear hown5 hb5; go_wp2; go_ret; exact ⟨rfl, HB5.out⟩
def dptx.f (l0 : List Int) : Option (ByteArray) := if l0 = [] then some (strOfNums [48]) else if l0.length ≤ 100000 ∧ u64s l0 = true then (slrv.f 2000000 (textFrom l0.length 0 l0)).bind fun r => some (strOfNums r) else none
set_option maxRecDepth 100000 in
theorem dptx.calls (A0 : Option Addr) (c0 : Nat) (l0 : List Int) (r : ByteArray) (w : World) (hr0 : Kd.C (Kd.int .u64) w A0 l0.length l0) (hc0 : l0.length ≤ c0) (hG : GL w) (h : dptx.f l0 = some r) :
  Calls Tryz.prog 83 #[.slice A0 l0.length c0] w fun e w' => e = .returned (.string r) ∧ Below w.heap.size w w' := by
 unfold dptx.f at h
 by_cases ce : l0 = []
 ·subst ce; rw [if_pos rfl] at h; cases h; go_enter Tryz.func83, Tryz.ntmps83; go_wp2; go_ret; exact ⟨rfl, Below.refl _ _⟩
 ·rw [if_neg ce] at h
  by_cases c : l0.length ≤ 100000 ∧ u64s l0 = true
  ·rw [if_pos c] at h; obtain ⟨q, hq, he⟩ := Option.bind_eq_some_iff.1 h; cases he; exact text_walk A0 c0 l0 q w c.1 ce c.2 hr0 hc0 hG hq
  ·rw [if_neg c] at h; cases h

def dpcm.l0 : Nat → List Int → List Int → Int → Option (Int)
 | 0, _, _, _ => none
 | k + 1, x0, x1, x5 => if x5 ≥ 0 then (if 0 ≤ x5 then (if x5 < (x0.length : Int) then (if x5 < (x1.length : Int) then (if (rd x0 x5) < (rd x1 x5) then (some (-1)) else (if (rd x0 x5) > (rd x1 x5) then (some 1) else (dpcm.l0 k x0 x1 (wrap64 (x5 - 1))))) else (none)) else (none)) else (none)) else (some 0)
def dpcm.f (k : Nat) (l0 : List Int) (l1 : List Int) : Option (Int) := if (l0.length : Int) = (l1.length : Int) then (dpcm.l0 k l0 l1 (wrap64 ((l0.length : Int) - 1))) else (some (mn 1 (mx (-1) (wrap64 ((l0.length : Int) - (l1.length : Int))))))
theorem dpcm.mono_l : ∀ k, (∀ y0 y1 y2, LeO (dpcm.l0 k y0 y1 y2) (dpcm.l0 (k + 1) y0 y1 y2))
 | 0 => fun _ _ _ r h => by simp [dpcm.l0] at h
 | k + 1 => by
  have ih0 := dpcm.mono_l k
  ·intro y0 y1 y2; unfold dpcm.l0
   repeat' (with_reducible first | exact ih0 _ _ _ | exact LeO.refl _ | exact LeO.none _ | refine LeO.ite ?_ ?_ | refine LeO.bind ?_ (fun _ => ?_))
theorem dpcm.mono : ∀ a0 a1 k, LeO (dpcm.f k a0 a1) (dpcm.f (k + 1) a0 a1) := by
 intro a0 a1 k; have ih0 := dpcm.mono_l k; unfold dpcm.f
 repeat' (with_reducible first | exact ih0 _ _ _ | exact LeO.refl _ | exact LeO.none _ | refine LeO.ite ?_ ?_ | refine LeO.bind ?_ (fun _ => ?_))
set_option maxHeartbeats 8000000 in
set_option maxRecDepth 100000 in
theorem dpcm.calls (k : Nat) (A0 : Option Addr) (c0 : Nat) (l0 : List Int) (A1 : Option Addr) (c1 : Nat) (l1 : List Int) (r : Int) (w : World) (hr0 : Kd.C (Kd.int .u64) w A0 l0.length l0) (hc0 : l0.length ≤ c0) (hr1 : Kd.C (Kd.int .u64) w A1 l1.length l1) (hc1 : l1.length ≤ c1) (hG : GL w) (h : dpcm.f k l0 l1 = some r) :
  Calls Tryz.prog 176 #[.slice A0 l0.length c0, .slice A1 l1.length c1] w fun e w' => e = .returned (.int .i64 r) ∧ Below w.heap.size w w' := by
 have HR0 := AS hr0; have HC0 := AS hc0; clear hr0 hc0; have HR1 := AS hr1; have HC1 := AS hc1; clear hr1 hc1; have HB := AS (Below.refl w.heap.size w); have H : (if (l0.length : Int) = (l1.length : Int) then (dpcm.l0 k l0 l1 (wrap64 ((l0.length : Int) - 1))) else (some (mn 1 (mx (-1) (wrap64 ((l0.length : Int) - (l1.length : Int))))))) = some r := h; clear h
 by_cases c3 : (l0.length : Int) = (l1.length : Int)
 ·rw [if_pos c3] at H
  have c3b0 : ((l0.length : Int) == (l1.length : Int)) = true := beq_iff_eq.mpr c3; have c3b1 : ((l0.length : Int) != (l1.length : Int)) = false := bne_eq_false_iff_eq.mpr c3
  have c3b2 : (l0.length == l1.length) = true := by first | simpa using c3 | (simp at c3 ⊢; omega)
  clear c3; have H' := AS H; clear H; go_enter Tryz.func176, Tryz.ntmps176; go_wp2
  repeat (go_quiet (fail); try go_wp2)
  go_loopg [5] k (fun kq v5 w' => ∃ (x5_1 : Int), v5 = .int .i64 x5_1 ∧ Aside0 (dpcm.l0 kq l0 l1 x5_1 = some r) ∧ Aside0 (kq ≤ k) ∧ Aside0 (Below w.heap.size w w'))
  case atStart => exact ⟨(wrap64 ((l0.length : Int) - 1)), Z4, H', ⟨Nat.le_refl _⟩, ⟨Z0⟩⟩
  case round =>
   clear H'; (try clear c1); (try clear p2); (try clear c3); (try clear c3b0); (try clear c3b1); (try clear c3b2); obtain ⟨x5_1, rfl, HA, HK1, HB⟩ := hrel
   cases gk with
   | zero => exact absurd HA.out (by simp [dpcm.l0])
   | succ k1 =>
    have H := HA.out; clear HA
    simp only [dpcm.l0] at H
    by_cases c4 : x5_1 ≥ 0
    ·rw [if_pos c4] at H
     have c4b0 : decide (0 ≤ x5_1) = true := decide_eq_true c4; clear c4
     by_cases c5 : 0 ≤ x5_1
     ·rw [if_pos c5] at H
      have c5b0 : decide (0 ≤ x5_1) = true := decide_eq_true c5; clear c5
      by_cases c6 : x5_1 < (l0.length : Int)
      ·rw [if_pos c6] at H
       have c6b0 : decide (x5_1 < (l0.length : Int)) = true := decide_eq_true c6; clear c6
       by_cases c7 : x5_1 < (l1.length : Int)
       ·rw [if_pos c7] at H
        have c7b0 : decide (x5_1 < (l1.length : Int)) = true := decide_eq_true c7; clear c7
        by_cases c8 : (rd l0 x5_1) < (rd l1 x5_1)
        ·rw [if_pos c8] at H
         have c8b0 : decide ((rd l0 x5_1) < (rd l1 x5_1)) = true := decide_eq_true c8; clear c8; obtain rfl := Option.some.inj H; have p157 : 0 ≤ (x5_1 : Int) := of_decide_eq_true Z2; have q157 : x5_1 < (l0.length : Int) := of_decide_eq_true Z2; obtain ⟨ad157, e157, hx157_0⟩ := Kd.at_int HR0.out x5_1 p157 q157; cases e157; replace hx157_0 := (HB.out.cell (World.block_lt_of_cell? w _ hx157_0)).trans hx157_0; replace p157 := eq_true p157; replace q157 := eq_true q157; have p158 : 0 ≤ (x5_1 : Int) := of_decide_eq_true Z2; have q158 : x5_1 < (l1.length : Int) := of_decide_eq_true Z2; obtain ⟨ad158, e158, hx158_0⟩ := Kd.at_int HR1.out x5_1 p158 q158; cases e158; replace hx158_0 := (HB.out.cell (World.block_lt_of_cell? w _ hx158_0)).trans hx158_0; replace p158 := eq_true p158; replace q158 := eq_true q158; go_wp2
         repeat (go_quiet (fail); try go_wp2)
         go_ret; exact ⟨Z3, Z0⟩
        ·rw [if_neg c8] at H
         have c8b0 : decide ((rd l0 x5_1) < (rd l1 x5_1)) = false := decide_eq_false c8; clear c8
         by_cases c9 : (rd l0 x5_1) > (rd l1 x5_1)
         ·rw [if_pos c9] at H
          have c9b0 : decide ((rd l1 x5_1) < (rd l0 x5_1)) = true := decide_eq_true c9; clear c9; obtain rfl := Option.some.inj H; have p157 : 0 ≤ (x5_1 : Int) := of_decide_eq_true Z2; have q157 : x5_1 < (l0.length : Int) := of_decide_eq_true Z2; obtain ⟨ad157, e157, hx157_0⟩ := Kd.at_int HR0.out x5_1 p157 q157; cases e157; replace hx157_0 := (HB.out.cell (World.block_lt_of_cell? w _ hx157_0)).trans hx157_0; replace p157 := eq_true p157; replace q157 := eq_true q157; have p158 : 0 ≤ (x5_1 : Int) := of_decide_eq_true Z2; have q158 : x5_1 < (l1.length : Int) := of_decide_eq_true Z2; obtain ⟨ad158, e158, hx158_0⟩ := Kd.at_int HR1.out x5_1 p158 q158; cases e158; replace hx158_0 := (HB.out.cell (World.block_lt_of_cell? w _ hx158_0)).trans hx158_0; replace p158 := eq_true p158; replace q158 := eq_true q158; have p159 : 0 ≤ (x5_1 : Int) := of_decide_eq_true Z2; have q159 : x5_1 < (l0.length : Int) := of_decide_eq_true Z2; obtain ⟨ad159, e159, hx159_0⟩ := Kd.at_int HR0.out x5_1 p159 q159; obtain rfl : ad157 = ad159 := (by injection e159); replace hx159_0 := (HB.out.cell (World.block_lt_of_cell? w _ hx159_0)).trans hx159_0; replace p159 := eq_true p159; replace q159 := eq_true q159; have p160 : 0 ≤ (x5_1 : Int) := of_decide_eq_true Z2; have q160 : x5_1 < (l1.length : Int) := of_decide_eq_true Z2; obtain ⟨ad160, e160, hx160_0⟩ := Kd.at_int HR1.out x5_1 p160 q160; obtain rfl : ad158 = ad160 := (by injection e160); replace hx160_0 := (HB.out.cell (World.block_lt_of_cell? w _ hx160_0)).trans hx160_0; replace p160 := eq_true p160; replace q160 := eq_true q160; go_wp2
          repeat (go_quiet (fail); try go_wp2)
          go_ret; exact ⟨Z3, Z0⟩
         ·rw [if_neg c9] at H
          have c9b0 : decide ((rd l1 x5_1) < (rd l0 x5_1)) = false := decide_eq_false c9; clear c9; have H' := AS H; clear H; have p157 : 0 ≤ (x5_1 : Int) := of_decide_eq_true Z2; have q157 : x5_1 < (l0.length : Int) := of_decide_eq_true Z2; obtain ⟨ad157, e157, hx157_0⟩ := Kd.at_int HR0.out x5_1 p157 q157; cases e157; replace hx157_0 := (HB.out.cell (World.block_lt_of_cell? w _ hx157_0)).trans hx157_0; replace p157 := eq_true p157; replace q157 := eq_true q157; have p158 : 0 ≤ (x5_1 : Int) := of_decide_eq_true Z2; have q158 : x5_1 < (l1.length : Int) := of_decide_eq_true Z2; obtain ⟨ad158, e158, hx158_0⟩ := Kd.at_int HR1.out x5_1 p158 q158; cases e158; replace hx158_0 := (HB.out.cell (World.block_lt_of_cell? w _ hx158_0)).trans hx158_0; replace p158 := eq_true p158; replace q158 := eq_true q158; have p159 : 0 ≤ (x5_1 : Int) := of_decide_eq_true Z2; have q159 : x5_1 < (l0.length : Int) := of_decide_eq_true Z2; obtain ⟨ad159, e159, hx159_0⟩ := Kd.at_int HR0.out x5_1 p159 q159; obtain rfl : ad157 = ad159 := (by injection e159); replace hx159_0 := (HB.out.cell (World.block_lt_of_cell? w _ hx159_0)).trans hx159_0; replace p159 := eq_true p159; replace q159 := eq_true q159; have p160 : 0 ≤ (x5_1 : Int) := of_decide_eq_true Z2; have q160 : x5_1 < (l1.length : Int) := of_decide_eq_true Z2; obtain ⟨ad160, e160, hx160_0⟩ := Kd.at_int HR1.out x5_1 p160 q160; obtain rfl : ad158 = ad160 := (by injection e160); replace hx160_0 := (HB.out.cell (World.block_lt_of_cell? w _ hx160_0)).trans hx160_0; replace p160 := eq_true p160; replace q160 := eq_true q160; go_wp2
          repeat (go_quiet (fail); try go_wp2)
          go_roundg k1
          case measure => have := HK1.out; omega
          case rel => exact ⟨(wrap64 (x5_1 - 1)), Z4, H', ⟨Z88⟩, ⟨Z0⟩⟩
       ·rw [if_neg c7] at H
        exact absurd H (by simp)
      ·rw [if_neg c6] at H
       exact absurd H (by simp)
     ·rw [if_neg c5] at H
      exact absurd H (by simp)
    ·rw [if_neg c4] at H
     have c4b0 : decide (0 ≤ x5_1) = false := decide_eq_false c4; clear c4; obtain rfl := Option.some.inj H; go_wp2
     repeat (go_quiet (fail); try go_wp2)
     go_ret; exact ⟨Z3, Z0⟩
 ·rw [if_neg c3] at H
  have c3b0 : ((l0.length : Int) == (l1.length : Int)) = false := beq_eq_false_iff_ne.mpr c3; have c3b1 : ((l0.length : Int) != (l1.length : Int)) = true := bne_iff_ne.mpr c3
  have c3b2 : (l0.length == l1.length) = false := by first | simpa using c3 | (simp at c3 ⊢; omega)
  obtain ⟨ji10, hji10⟩ : ∃ j_ : Int, (mx (-1) (wrap64 ((l0.length : Int) - (l1.length : Int)))) = j_ := ⟨_, rfl⟩
  replace H : (some (mn 1 (ji10))) = some r := by first | (rw [hji10] at H; exact H) | (simp only [hji10] at H ⊢; exact H)
  have hji10_ : (if (-1) < (wrap64 ((l0.length : Int) - (l1.length : Int))) then (wrap64 ((l0.length : Int) - (l1.length : Int))) else (-1)) = ji10 := hji10
  obtain ⟨ji11, hji11⟩ : ∃ j_ : Int, (mn 1 (ji10)) = j_ := ⟨_, rfl⟩
  replace H : (some ji11) = some r := by first | (rw [hji11] at H; exact H) | (simp only [hji11] at H ⊢; exact H)
  have hji11_ : (if (ji10) < 1 then (ji10) else 1) = ji11 := hji11; obtain rfl := Option.some.inj H; go_enter Tryz.func176, Tryz.ntmps176; go_wp2
  repeat (go_quiet (fail); try go_wp2)
  go_ret; exact ⟨by first | rfl | (simp [errW_none, errW_some] <;> rfl) | (simp only [← hji10, ← hji11]; first | rfl | (simp [errW_none, errW_some] <;> rfl)) | (simp [*, errW_none, errW_some] <;> rfl), Z0⟩
def dpsm.l0 : Nat → List Int → Int → List Int → Int → Int → Option (List Int × Int)
 | 0, _, _, _, _, _ => none
 | k + 1, x0, x1, x6, x7, x8 => if x8 ≥ 0 then (if 0 ≤ x8 then (if x8 < (x0.length : Int) then (if x1 = 0 then (none) else (if x8 < (x6.length : Int) then (dpsm.l0 k x0 x1 (x6.set (x8 : Int).toNat (IntKind.u64.wrap (Int.tdiv (IntKind.u64.wrap ((IntKind.u64.wrap (x7 * 1000000000)) + (rd x0 x8))) x1))) (Int.tmod (IntKind.u64.wrap ((IntKind.u64.wrap (x7 * 1000000000)) + (rd x0 x8))) x1) (wrap64 (x8 - 1))) else (none))) else (none)) else (none)) else ((dptr.f k x6).bind fun t172 => (some (t172, x7)))
def dpsm.f (k : Nat) (l0 : List Int) (a1 : Int) : Option (List Int × Int) := if 0 ≤ (l0.length : Int) then (if ((l0.length : Int) : Int).toNat ≤ 35184372088832 then (dpsm.l0 k l0 a1 (List.replicate ((l0.length : Int) : Int).toNat 0) 0 (wrap64 ((l0.length : Int) - 1))) else (none)) else (none)
theorem dpsm.mono_l : ∀ k, (∀ y0 y1 y2 y3 y4, LeO (dpsm.l0 k y0 y1 y2 y3 y4) (dpsm.l0 (k + 1) y0 y1 y2 y3 y4))
 | 0 => fun _ _ _ _ _ r h => by simp [dpsm.l0] at h
 | k + 1 => by
  have ih0 := dpsm.mono_l k
  ·intro y0 y1 y2 y3 y4; unfold dpsm.l0
   repeat' (with_reducible first | exact ih0 _ _ _ _ _ | exact dptr.mono _ _ | exact LeO.refl _ | exact LeO.none _ | refine LeO.ite ?_ ?_ | refine LeO.bind ?_ (fun _ => ?_))
theorem dpsm.mono : ∀ a0 a1 k, LeO (dpsm.f k a0 a1) (dpsm.f (k + 1) a0 a1) := by
 intro a0 a1 k; have ih0 := dpsm.mono_l k; unfold dpsm.f
 repeat' (with_reducible first | exact ih0 _ _ _ _ _ | exact dptr.mono _ _ | exact LeO.refl _ | exact LeO.none _ | refine LeO.ite ?_ ?_ | refine LeO.bind ?_ (fun _ => ?_))
set_option maxHeartbeats 8000000 in
set_option maxRecDepth 100000 in
theorem dpsm.calls (k : Nat) (A0 : Option Addr) (c0 : Nat) (l0 : List Int) (a1 : Int) (r1 : List Int) (r2 : Int) (w : World) (hr0 : Kd.C (Kd.int .u64) w A0 l0.length l0) (hc0 : l0.length ≤ c0) (hG : GL w) (h : dpsm.f k l0 a1 = some (r1, r2)) :
  Calls Tryz.prog 177 #[.slice A0 l0.length c0, .int .u64 a1] w fun e w' => ∃ v0_ : Value, e = .returned (.tuple #[v0_, .int .u64 r2]) ∧ Kd.V (Kd.int .u64) 109 w' w.heap.size (fun k_ => (w.heap.size ≤ k_)) v0_ r1 ∧ Below w.heap.size w w' := by
 have HR0 := AS hr0; have HC0 := AS hc0; clear hr0 hc0; have HB := AS (Below.refl w.heap.size w); have H : (if 0 ≤ (l0.length : Int) then (if ((l0.length : Int) : Int).toNat ≤ 35184372088832 then (dpsm.l0 k l0 a1 (List.replicate ((l0.length : Int) : Int).toNat 0) 0 (wrap64 ((l0.length : Int) - 1))) else (none)) else (none)) = some (r1, r2) := h; clear h
 by_cases c3 : 0 ≤ (l0.length : Int)
 ·rw [if_pos c3] at H
  have c3b0 := eq_true c3; have c3b1 : decide (0 ≤ (l0.length : Int)) = true := decide_eq_true c3; clear c3
  by_cases c4 : ((l0.length : Int) : Int).toNat ≤ 35184372088832
  ·rw [if_pos c4] at H
   have c4b0 := eq_true c4; have c4b1 : decide (((l0.length : Int) : Int).toNat ≤ 35184372088832) = true := decide_eq_true c4; clear c4
   obtain ⟨y167, hy167⟩ : ∃ y_ : List Int, y_ = (List.replicate ((l0.length : Int) : Int).toNat 0) := ⟨_, rfl⟩
   replace H : (dpsm.l0 k l0 a1 y167 0 (wrap64 ((l0.length : Int) - 1))) = some (r1, r2) := by first | (rw [hy167]; with_reducible exact H) | (have H2_ := (Option.bind_some _ _).symm.trans H; rw [hy167]; with_reducible exact H2_) | (have H2_ := (Option.bind_some _ _).symm.trans H; with_reducible exact H2_) | with_reducible exact H | (rw [hy167]; exact H) | exact H
   have Ny167 := AS hy167; clear hy167; have H' := AS H; clear H; go_enter Tryz.func177, Tryz.ntmps177; go_wp2_with (first | ((with_reducible refine gtd (N := 11) rfl ?_); refine Kd.R_make (Kd.int .u64) _ 109 rfl (N := 11) rfl 113 _ _ rfl (l0.length : Int) rfl rfl Tryz.underlying113 (.int .u64 0) 8 info109 rfl (by decide) (by omega) 0 (ok := fun _ => True) (okp := fun _ => True) rfl (fun _ hk => hk) trivial (of_decide_eq_true Z2) (Nat.le_trans (Nat.mul_le_mul_right _ (of_decide_eq_true Z2 : (l0.length : Int).toNat ≤ 35184372088832)) (by omega)) (Below.refl _ _) (Nat.le_refl _) ?_; intro v168 w5 ho6 hb hg_ hnew_; clear hg_ hnew_; (first | rw [← Ny167.out] at ho6 | (simp only [Int.reduceToNat] at ho6; rw [← Ny167.out] at ho6)); have HO169 := AS (Kd.R_lower (Kd.R_newM (M := fun k_ => (w.heap.size ≤ k_)) ho6 (bsz Z0) (fun k_ h_ => h_)) (bsz Z0)); replace HB := AS (bst Z0 hb); clear hb ho6))
   go_loopg [7, 8] k (fun kq v7 v8 w' => ∃ (x6_1 : List Int) (x7_1 : Int) (x8_1 : Int), v7 = .int .u64 x7_1 ∧ v8 = .int .i64 x8_1 ∧ Aside0 (dpsm.l0 kq l0 a1 x6_1 x7_1 x8_1 = some (r1, r2)) ∧ Aside0 (kq ≤ k) ∧ Aside0 (Kd.R (Kd.int .u64) 109 w' w.heap.size (fun k_ => (w.heap.size ≤ k_)) v168 x6_1) ∧ Aside0 (Below w.heap.size w w'))
   case atStart => exact ⟨(y167), (0), (wrap64 ((l0.length : Int) - 1)), Z4, Z4, H', ⟨Nat.le_refl _⟩, ⟨by (with_reducible repeat (first | apply Kd.R_alloc | apply Kd.R_drewN | apply Kd.R_drew)); exact Kd.R_mono HO169.out (fun _ hk => hk.1)⟩, ⟨Z0⟩⟩
   case round =>
    clear H'; (try clear c1); (try clear p2); (try clear c3); (try clear c3b0); (try clear c3b1); (try clear c4); (try clear c4b0); (try clear c4b1); (try clear p6); obtain ⟨x6_1, x7_1, x8_1, rfl, rfl, HA, HK1, HO_6, HB⟩ := hrel
    cases gk with
    | zero => exact absurd HA.out (by simp [dpsm.l0])
    | succ k1 =>
     have H := HA.out; clear HA
     simp only [dpsm.l0] at H
     by_cases c7 : x8_1 ≥ 0
     ·rw [if_pos c7] at H
      have c7b0 : decide (0 ≤ x8_1) = true := decide_eq_true c7; clear c7
      by_cases c8 : 0 ≤ x8_1
      ·rw [if_pos c8] at H
       have c8b0 : decide (0 ≤ x8_1) = true := decide_eq_true c8; clear c8
       by_cases c9 : x8_1 < (l0.length : Int)
       ·rw [if_pos c9] at H
        have c9b0 : decide (x8_1 < (l0.length : Int)) = true := decide_eq_true c9; clear c9
        by_cases c10 : a1 = 0
        ·rw [if_pos c10] at H
         exact absurd H (by simp)
        ·rw [if_neg c10] at H
         have c10b0 : (a1 == 0) = false := beq_eq_false_iff_ne.mpr c10; have c10b1 : (a1 != 0) = true := bne_iff_ne.mpr c10
         by_cases c11 : x8_1 < (x6_1.length : Int)
         ·rw [if_pos c11] at H
          have c11b0 : decide (x8_1 < (x6_1.length : Int)) = true := decide_eq_true c11; clear c11
          obtain ⟨y171, hy171⟩ : ∃ y_ : List Int, y_ = (x6_1.set (x8_1 : Int).toNat (IntKind.u64.wrap (Int.tdiv (IntKind.u64.wrap ((IntKind.u64.wrap (x7_1 * 1000000000)) + (rd l0 x8_1))) a1))) := ⟨_, rfl⟩
          replace H : (dpsm.l0 k1 l0 a1 y171 (Int.tmod (IntKind.u64.wrap ((IntKind.u64.wrap (x7_1 * 1000000000)) + (rd l0 x8_1))) a1) (wrap64 (x8_1 - 1))) = some (r1, r2) := by first | (rw [hy171]; with_reducible exact H) | (have H2_ := (Option.bind_some _ _).symm.trans H; rw [hy171]; with_reducible exact H2_) | (have H2_ := (Option.bind_some _ _).symm.trans H; with_reducible exact H2_) | with_reducible exact H | (rw [hy171]; exact H) | exact H
          have Ny171 := AS hy171; clear hy171; have H' := AS H; clear H; have p170 : 0 ≤ (x8_1 : Int) := of_decide_eq_true Z2; have q170 : x8_1 < (l0.length : Int) := of_decide_eq_true Z2; obtain ⟨ad170, e170, hx170_0⟩ := Kd.at_int HR0.out x8_1 p170 q170; cases e170; replace hx170_0 := (HB.out.cell (World.block_lt_of_cell? w _ hx170_0)).trans hx170_0; replace p170 := eq_true p170; replace q170 := eq_true q170; have p12 : 0 ≤ (x8_1 : Int) := of_decide_eq_true Z2; have q12 : (x8_1 : Int) < ((x6_1.length : Int) : Int) := of_decide_eq_true Z2; obtain ⟨go12, co12, eo12, gb12, gl12, cl12, HG12⟩ := Kd.R_form HO_6.out (by omega)
          (first | cases eo12 | (injection eo12 with ea_ en_ ec_; (first | subst ea_ | (injection ea_ with ea_; subst ea_)); subst ec_; clear en_))
          have GB12 := AS gb12; have GG12 := AS HG12; clear gb12 gl12 HG12; obtain ⟨hx12_0, hf12_0⟩ := Kd.R_celln 0 HO_6.out (x8_1 : Int) p12 q12; replace p12 := eq_true p12; replace q12 := eq_true q12; have HP13 := Kd.R_putg HO_6.out (x8_1 : Int) (IntKind.u64.wrap (Int.tdiv (IntKind.u64.wrap ((IntKind.u64.wrap (x7_1 * 1000000000)) + (rd l0 x8_1))) a1)); go_wp2_with (first | ((with_reducible refine gate_store (t := 109) (p := 31) rfl ?_); refine store_event (t := 109) (p := 31) (v := ?vo_w14) (w1 := (wr.setCell ⟨go12, (x8_1 : Int).toNat, none⟩ (.int .u64 (IntKind.u64.wrap (Int.tdiv (IntKind.u64.wrap ((IntKind.u64.wrap (x7_1 * 1000000000)) + (rd l0 x8_1))) a1))))) ?hg ?ho ?hn ?hr ?_; (case ho => rfl); (case hg => rfl); (case hn => rfl); (case hr => exact Z11); intro w14 hw; have hg : wr.grownBy w14 (some go12) := (by rw [hw]; exact HP13.2); have hp_ : Kd.R (Kd.int .u64) 109 w14 w.heap.size (fun k_ => (w.heap.size ≤ k_)) (.slice (some ⟨go12, 0, none⟩) x6_1.length co12) y171 := (by rw [hw, Ny171.out]; exact HP13.1); clear HP13; replace HO_6 := AS (hp_); replace HB := AS ((by rw [hw]; exact bls (HB.out) GB12.out : Below w.heap.size w w14)); clear hg hw hp_))
          go_roundg k1
          case measure => have := HK1.out; omega
          case rel => exact ⟨(y171), (Int.tmod (IntKind.u64.wrap ((IntKind.u64.wrap (x7_1 * 1000000000)) + (rd l0 x8_1))) a1), (wrap64 (x8_1 - 1)), Z4, Z4, H', ⟨Z88⟩, ⟨Z53⟩, ⟨Z0⟩⟩
         ·rw [if_neg c11] at H
          exact absurd H (by simp)
       ·rw [if_neg c9] at H
        exact absurd H (by simp)
      ·rw [if_neg c8] at H
       exact absurd H (by simp)
     ·rw [if_neg c7] at H
      have c7b0 : decide (0 ≤ x8_1) = false := decide_eq_false c7; clear c7; replace H := Option.bind_eq_some_iff.mp H; obtain ⟨t172, A150, H⟩ := H; replace H : (some (t172, x7_1)) = some (r1, r2) := H; have A15 := AS A150; clear A150
      simp only [Option.some.injEq, Prod.mk.injEq] at H
      obtain ⟨rfl, rfl⟩ := H; obtain ⟨Ao16, co16, eo16⟩ := Kd.R_slice HO_6.out; subst eo16; go_wp2_with (first | ((with_reducible refine gtc (f := 108) rfl ?_); refine gsL (some 36) rfl rfl Tryz.func108 Z5 rfl #[.slice Ao16 x6_1.length co16] rfl Z1 ?_; (with_reducible refine (dptr.calls k1 (fun k_ => some k_ = (.slice Ao16 x6_1.length co16 : Value).ownBlock) _ _ x6_1 t172 _ ?side1 ?side2 A15.out).mono ?_); (case side1 => exact Kd.R_V (Kd.R_tight rfl (HO_6.out))); (case side2 => exact Z182); rintro e w17 ⟨v173, rfl, ho0, hb⟩; refine ⟨_, rfl, ?_⟩; have HO174 := AS (Kd.V_lower (Kd.V_mono (ok' := fun k_ => (w.heap.size ≤ k_)) ho0 (fun k_ hk_ => Or.elim hk_ (fun hs_ => ((HO_6.out).1 k_ hs_.symm)) (fun hn_ => (Nat.le_trans (bsz Z0) hn_)))) (bsz Z0)); replace HO_6 := AS (Kd.R_below Z53 hb); replace HB := AS (bst Z0 hb); (try clear hb); (try clear hb2); (try clear hk); (try clear hi); (try clear ho0))); go_ret2; exact ⟨_, Z3, by (with_reducible repeat (first | apply Kd.V_alloc | apply Kd.V_drewN | apply Kd.V_drew)); exact HO174.out, Z0⟩
  ·rw [if_neg c4] at H
   exact absurd H (by simp)
 ·rw [if_neg c3] at H
  exact absurd H (by simp)
def deDM.f (k : Nat) (a0 : ByteArray) (a1 : ByteArray) : Option (ByteArray × ByteArray × Int) := if a1.toList = ([48] : List UInt8) then (none) else ((debo.f k a0 a1).bind fun bt175 => (if bt175.2.2 = true then (if bt175.2.1 = 0 then (none) else ((decimal_Of.f (IntKind.u64.wrap (Int.tdiv bt175.1 bt175.2.1))).bind fun t178 => ((decimal_Of.f (Int.tmod bt175.1 bt175.2.1)).bind fun t179 => (some (t178, t179, 0))))) else ((decu.f a0).bind fun t180 => ((decu.f a1).bind fun t183 => ((dpcm.f k t180 t183).bind fun t186 => (if t186 < 0 then (some ((⟨#[48]⟩ : ByteArray), a0, 0)) else (if (t183.length : Int) = 1 then (if 0 < (t183.length : Int) then ((dpsm.f k t180 (rd t183 0)).bind fun bt188 => ((dptx.f bt188.1).bind fun t192 => ((decimal_Of.f bt188.2).bind fun t193 => (some (t192, t193, 0))))) else (none)) else (none))))))))
theorem deDM.mono : ∀ a0 a1 k, LeO (deDM.f k a0 a1) (deDM.f (k + 1) a0 a1) := by
 intro a0 a1 k; unfold deDM.f
 repeat' (with_reducible first | exact debo.mono _ _ _ | exact dpcm.mono _ _ _ | exact dpsm.mono _ _ _ | exact LeO.refl _ | exact LeO.none _ | refine LeO.ite ?_ ?_ | refine LeO.bind ?_ (fun _ => ?_))
def deDM.T5 : Bool × List (List Nat × List Nat) := (true, [([], []), ([], []), ([0, 1], [0, 1]), ([2], [2]), ([], []), ([], []), ([4, 5], [4, 5]), ([6, 3], [6]), ([3, 7, 0, 1, 2, 3], [3]), ([7, 8, 0, 1, 2, 3, 4, 5, 6, 7, 8], [7]), ([9, 0, 1, 2, 3, 4, 5, 6, 7, 8, 9], [])])
def deDM.B5 : List Nat := [0, 0, 3, 7, 0, 0, 48, 127, 255, 511, 1023]
theorem deDM.tab5 : rtab .any (opsOf Tryz.f141 5) = deDM.T5 := by kernel_rfl
theorem deDM.bits5 : waitsOk deDM.T5.2 deDM.B5 = true := by kernel_rfl
set_option maxHeartbeats 8000000 in
set_option maxRecDepth 100000 in
theorem deDM.calls (k : Nat) (a0 : ByteArray) (a1 : ByteArray) (r1 : ByteArray) (r2 : ByteArray) (r3 : Int) (w : World) (hG : GL w) (h : deDM.f k a0 a1 = some (r1, r2, r3)) :
  Calls Tryz.prog 141 #[.string a0, .string a1] w fun e w' => e = .returned (.tuple #[.string r1, .string r2, .int .i64 r3]) ∧ Below w.heap.size w w' := by
 have HB := AS (Below.refl w.heap.size w); have H : (if a1.toList = ([48] : List UInt8) then (none) else ((debo.f k a0 a1).bind fun bt175 => (if bt175.2.2 = true then (if bt175.2.1 = 0 then (none) else ((decimal_Of.f (IntKind.u64.wrap (Int.tdiv bt175.1 bt175.2.1))).bind fun t178 => ((decimal_Of.f (Int.tmod bt175.1 bt175.2.1)).bind fun t179 => (some (t178, t179, 0))))) else ((decu.f a0).bind fun t180 => ((decu.f a1).bind fun t183 => ((dpcm.f k t180 t183).bind fun t186 => (if t186 < 0 then (some ((⟨#[48]⟩ : ByteArray), a0, 0)) else (if (t183.length : Int) = 1 then (if 0 < (t183.length : Int) then ((dpsm.f k t180 (rd t183 0)).bind fun bt188 => ((dptx.f bt188.1).bind fun t192 => ((decimal_Of.f bt188.2).bind fun t193 => (some (t192, t193, 0))))) else (none)) else (none))))))))) = some (r1, r2, r3) := h; clear h
 by_cases c3 : a1.toList = ([48] : List UInt8)
 ·rw [if_pos c3] at H
  exact absurd H (by simp)
 ·rw [if_neg c3] at H
  have c3b0 : (a1.toList == ([48] : List UInt8)) = false := beq_eq_false_iff_ne.mpr c3; have c3b1 : (a1.toList != ([48] : List UInt8)) = true := bne_iff_ne.mpr c3; replace H := Option.bind_eq_some_iff.mp H; obtain ⟨⟨t175, t176, t177⟩, A40, H⟩ := H; replace H : (if t177 = true then (if t176 = 0 then (none) else ((decimal_Of.f (IntKind.u64.wrap (Int.tdiv t175 t176))).bind fun t178 => ((decimal_Of.f (Int.tmod t175 t176)).bind fun t179 => (some (t178, t179, 0))))) else ((decu.f a0).bind fun t180 => ((decu.f a1).bind fun t183 => ((dpcm.f k t180 t183).bind fun t186 => (if t186 < 0 then (some ((⟨#[48]⟩ : ByteArray), a0, 0)) else (if (t183.length : Int) = 1 then (if 0 < (t183.length : Int) then ((dpsm.f k t180 (rd t183 0)).bind fun bt188 => ((dptx.f bt188.1).bind fun t192 => ((decimal_Of.f bt188.2).bind fun t193 => (some (t192, t193, 0))))) else (none)) else (none))))))) = some (r1, r2, r3) := H; have A4 := AS A40; clear A40
  by_cases c5 : t177 = true
  ·subst c5
   rw [if_pos rfl] at H
   by_cases c6 : t176 = 0
   ·rw [if_pos c6] at H
    exact absurd H (by simp)
   ·rw [if_neg c6] at H
    have c6b0 : (t176 == 0) = false := beq_eq_false_iff_ne.mpr c6; have c6b1 : (t176 != 0) = true := bne_iff_ne.mpr c6; replace H := Option.bind_eq_some_iff.mp H; obtain ⟨t178, A70, H⟩ := H; replace H : ((decimal_Of.f (Int.tmod t175 t176)).bind fun t179 => (some (t178, t179, 0))) = some (r1, r2, r3) := H; have A7 := AS A70; clear A70; replace H := Option.bind_eq_some_iff.mp H; obtain ⟨t179, A80, H⟩ := H; replace H : (some (t178, t179, 0)) = some (r1, r2, r3) := H; have A8 := AS A80; clear A80
    simp only [Option.some.injEq, Prod.mk.injEq] at H
    obtain ⟨rfl, rfl, rfl⟩ := H; go_enter Tryz.func141, Tryz.ntmps141; (try go_wp2_with (first | ((with_reducible refine gtc (f := 80) rfl ?_); refine gsL (some 21) rfl rfl Tryz.func80 Z5 rfl #[.string a0, .string a1] rfl Z1 ?_; (with_reducible refine (debo.calls k a0 a1 t175 t176 true _ ?side1 A4.out).mono ?_); (case side1 => exact Z182); rintro e w9 ⟨rfl, hb⟩; refine ⟨_, rfl, ?_⟩; replace HB := AS (bst Z0 hb); (try clear hb); (try clear hb2); (try clear hk); (try clear hi)))); have n0_ := AS (bl1 HB.out); clear HB; have HB := n0_; clear n0_
    refine start_ (n := 11) (S := fun w' => True) (ds := []) #[false, false, false, false, false, false, false, false, false, false, false] Z5 rfl rfl trivial (fun hHeld => ?_); refine with_tabW deDM.tab5 deDM.bits5 (fun HT_ HW_ => ?_)
    generalize w9.drew = w10 at HB hHeld ⊢; refine pure_ (i := 0) (N := some 26) (v := ?_) (a' := ?_) #[true, false, false, false, false, false, false, false, false, false, false] rfl rfl (any_of HT_.out Z5) (fun _ _ _ h => h) (Or.inl ⟨by rfl, ?_⟩) ?_ ?_; rotate_left
    ·intro w'; go_simp; with_reducible rfl
    rotate_left
    ·simp only [Act.put, List.setIfInBounds_toArray, List.set_cons_zero, List.set_cons_succ, i64_w, i32_w]; rfl
    refine pure_ (i := 1) (N := some 27) (v := ?_) (a' := ?_) #[true, true, false, false, false, false, false, false, false, false, false] rfl rfl (any_of HT_.out Z5) (fun _ _ _ h => h) (Or.inl ⟨by rfl, ?_⟩) ?_ ?_; rotate_left
    ·intro w'; go_simp; with_reducible rfl
    rotate_left
    ·simp only [Act.put, List.setIfInBounds_toArray, List.set_cons_zero, List.set_cons_succ, i64_w, i32_w]; rfl
    refine pure_ (i := 2) (N := some 28) (v := ?_) (a' := ?_) #[true, true, true, false, false, false, false, false, false, false, false] rfl rfl (any_of HT_.out Z5) (fun _ _ _ h => h) (Or.inl ⟨by rfl, ?_⟩) ?_ ?_; rotate_left
    ·intro w'; go_simp; with_reducible rfl
    rotate_left
    ·simp only [Act.put, List.setIfInBounds_toArray, List.set_cons_zero, List.set_cons_succ, i64_w, i32_w]; rfl
    refine pure_ (i := 4) (N := some 30) (v := ?_) (a' := ?_) #[true, true, true, false, true, false, false, false, false, false, false] rfl rfl (any_of HT_.out Z5) (fun _ _ _ h => h) (Or.inl ⟨by rfl, ?_⟩) ?_ ?_; rotate_left
    ·intro w'; go_simp; with_reducible rfl
    rotate_left
    ·simp only [Act.put, List.setIfInBounds_toArray, List.set_cons_zero, List.set_cons_succ, i64_w, i32_w]; rfl
    refine pure_ (i := 5) (N := some 31) (v := ?_) (a' := ?_) #[true, true, true, false, true, true, false, false, false, false, false] rfl rfl (any_of HT_.out Z5) (fun _ _ _ h => h) (Or.inl ⟨by rfl, ?_⟩) ?_ ?_; rotate_left
    ·intro w'; go_simp; with_reducible rfl
    rotate_left
    ·simp only [Act.put, List.setIfInBounds_toArray, List.set_cons_zero, List.set_cons_succ, i64_w, i32_w]; rfl
    refine pure_ (i := 6) (N := some 32) (v := ?_) (a' := ?_) #[true, true, true, false, true, true, true, false, false, false, false] rfl rfl (any_of HT_.out Z5) (fun _ _ _ h => h) (Or.inl ⟨by rfl, ?_⟩) ?_ ?_; rotate_left
    ·intro w'; go_simp; with_reducible rfl
    rotate_left
    ·simp only [Act.put, List.setIfInBounds_toArray, List.set_cons_zero, List.set_cons_succ, i64_w, i32_w]; rfl
    refine one_ (i := 3) (N := some 29) #[true, true, true, true, true, true, true, false, false, false, false] rfl rfl (one_of HT_.out Z5) (by decide) (fun K hK => ?_); refine goes_ Tryz.func79 Z5 rfl #[.int .u64 (IntKind.u64.wrap (Int.tdiv t175 t176))] (by rfl) rfl rfl Z1 ?_
    with_reducible refine (decimal_Of.calls (IntKind.u64.wrap (Int.tdiv t175 t176)) t178 _ ?side1 A7.out).mono ?_
    (case side1 => exact Z182)
    rintro e w11 ⟨rfl, hb⟩; refine ⟨_, rfl, ?_⟩; have n0_ := AS (bst Z0 hb); clear HB; have HB := n0_; clear n0_
    (try clear hb)
    (try clear hb2)
    (try clear hk)
    (try clear hi)
    refine hK.out _ _ trivial (fun hHeld => ?_); clear hK K; refine norm_ (a' := ?_) ?_ ?_; rotate_left
    ·show Act.put _ (some 29) _ = _
     simp only [Act.put, List.setIfInBounds_toArray, List.set_cons_zero, List.set_cons_succ, i64_w, i32_w]; rfl
    refine one_ (i := 7) (N := some 33) #[true, true, true, true, true, true, true, true, false, false, false] rfl rfl (one_of HT_.out Z5) (by decide) (fun K hK => ?_); refine goes_ Tryz.func79 Z5 rfl #[.int .u64 (Int.tmod t175 t176)] (by rfl) rfl rfl Z1 ?_
    with_reducible refine (decimal_Of.calls (Int.tmod t175 t176) t179 _ ?side1 A8.out).mono ?_
    (case side1 => exact Z182)
    rintro e w12 ⟨rfl, hb⟩; refine ⟨_, rfl, ?_⟩; have n0_ := AS (bst Z0 hb); clear HB; have HB := n0_; clear n0_
    (try clear hb)
    (try clear hb2)
    (try clear hk)
    (try clear hi)
    refine hK.out _ _ trivial (fun hHeld => ?_); clear hK K; refine norm_ (a' := ?_) ?_ ?_; rotate_left
    ·show Act.put _ (some 33) _ = _
     simp only [Act.put, List.setIfInBounds_toArray, List.set_cons_zero, List.set_cons_succ, i64_w, i32_w]; rfl
    refine pure_ (i := 8) (N := some 4) (v := ?_) (a' := ?_) #[true, true, true, true, true, true, true, true, true, false, false] rfl rfl (any_of HT_.out Z5) (fun _ _ _ h => h) (Or.inl ⟨by rfl, ?_⟩) ?_ ?_; rotate_left
    ·intro w'; go_simp; with_reducible rfl
    rotate_left
    ·simp only [Act.put, List.setIfInBounds_toArray, List.set_cons_zero, List.set_cons_succ, i64_w, i32_w]; rfl
    refine pure_ (i := 9) (N := some 5) (v := ?_) (a' := ?_) #[true, true, true, true, true, true, true, true, true, true, false] rfl rfl (any_of HT_.out Z5) (fun _ _ _ h => h) (Or.inl ⟨by rfl, ?_⟩) ?_ ?_; rotate_left
    ·intro w'; go_simp; with_reducible rfl
    rotate_left
    ·simp only [Act.put, List.setIfInBounds_toArray, List.set_cons_zero, List.set_cons_succ, i64_w, i32_w]; rfl
    refine pure_ (i := 10) (N := some 6) (v := ?_) (a' := ?_) #[true, true, true, true, true, true, true, true, true, true, true] rfl rfl (any_of HT_.out Z5) (fun _ _ _ h => h) (Or.inl ⟨by rfl, ?_⟩) ?_ ?_; rotate_left
    ·intro w'; go_simp; with_reducible rfl
    rotate_left
    ·simp only [Act.put, List.setIfInBounds_toArray, List.set_cons_zero, List.set_cons_succ, i64_w, i32_w]; rfl
    refine done_ (done_of HT_.out Z5) ?_; (try go_wp2)
    go_ret3
    exact ⟨Z3, Z0⟩
  ·replace c5 := Bool.eq_false_iff.mpr c5; subst c5
   rw [if_neg (show ¬ (false = true) by decide)] at H
   replace H := Option.bind_eq_some_iff.mp H; obtain ⟨t180, A130, H⟩ := H; replace H : ((decu.f a1).bind fun t183 => ((dpcm.f k t180 t183).bind fun t186 => (if t186 < 0 then (some ((⟨#[48]⟩ : ByteArray), a0, 0)) else (if (t183.length : Int) = 1 then (if 0 < (t183.length : Int) then ((dpsm.f k t180 (rd t183 0)).bind fun bt188 => ((dptx.f bt188.1).bind fun t192 => ((decimal_Of.f bt188.2).bind fun t193 => (some (t192, t193, 0))))) else (none)) else (none))))) = some (r1, r2, r3) := H; have A13 := AS A130; clear A130; replace H := Option.bind_eq_some_iff.mp H; obtain ⟨t183, A140, H⟩ := H; replace H : ((dpcm.f k t180 t183).bind fun t186 => (if t186 < 0 then (some ((⟨#[48]⟩ : ByteArray), a0, 0)) else (if (t183.length : Int) = 1 then (if 0 < (t183.length : Int) then ((dpsm.f k t180 (rd t183 0)).bind fun bt188 => ((dptx.f bt188.1).bind fun t192 => ((decimal_Of.f bt188.2).bind fun t193 => (some (t192, t193, 0))))) else (none)) else (none)))) = some (r1, r2, r3) := H; have A14 := AS A140; clear A140; replace H := Option.bind_eq_some_iff.mp H; obtain ⟨t186, A150, H⟩ := H; replace H : (if t186 < 0 then (some ((⟨#[48]⟩ : ByteArray), a0, 0)) else (if (t183.length : Int) = 1 then (if 0 < (t183.length : Int) then ((dpsm.f k t180 (rd t183 0)).bind fun bt188 => ((dptx.f bt188.1).bind fun t192 => ((decimal_Of.f bt188.2).bind fun t193 => (some (t192, t193, 0))))) else (none)) else (none))) = some (r1, r2, r3) := H; have A15 := AS A150; clear A150
   by_cases c16 : t186 < 0
   ·rw [if_pos c16] at H
    have c16b0 : decide (t186 < 0) = true := decide_eq_true c16; clear c16
    simp only [Option.some.injEq, Prod.mk.injEq] at H
    obtain ⟨rfl, rfl, rfl⟩ := H; go_enter Tryz.func141, Tryz.ntmps141; go_wp2_with (first | ((with_reducible refine gtc (f := 80) rfl ?_); refine gsL (some 21) rfl rfl Tryz.func80 Z5 rfl #[.string a0, .string a1] rfl Z1 ?_; (with_reducible refine (debo.calls k a0 a1 t175 t176 false _ ?side1 A4.out).mono ?_); (case side1 => exact Z182); rintro e w17 ⟨rfl, hb⟩; refine ⟨_, rfl, ?_⟩; replace HB := AS (bst Z0 hb); (try clear hb); (try clear hb2); (try clear hk); (try clear hi)) | ((with_reducible refine gtc (f := 81) rfl ?_); refine gsL (some 35) rfl rfl Tryz.func81 Z5 rfl #[.string a0] rfl Z1 ?_; (with_reducible refine (decu.calls a0 t180 _ ?side1 A13.out).mono ?_); (case side1 => exact Z182); rintro e w18 ⟨v181, rfl, ho0, hb⟩; refine ⟨_, rfl, ?_⟩; have HO182 := AS (Kd.V_lower (Kd.V_mono (ok' := fun k_ => True) ho0 (fun k_ hk_ => trivial)) (bsz Z0)); replace HB := AS (bst Z0 hb); (try clear hb); (try clear hb2); (try clear hk); (try clear hi); (try clear ho0)) | ((with_reducible refine gtc (f := 81) rfl ?_); refine gsL (some 37) rfl rfl Tryz.func81 Z5 rfl #[.string a1] rfl Z1 ?_; (with_reducible refine (decu.calls a1 t183 _ ?side1 A14.out).mono ?_); (case side1 => exact Z182); rintro e w19 ⟨v184, rfl, ho0, hb⟩; refine ⟨_, rfl, ?_⟩; have HO185 := AS (Kd.V_lower (Kd.V_mono (ok' := fun k_ => True) ho0 (fun k_ hk_ => trivial)) (bsz Z0)); replace HO182 := AS (Kd.V_below Z73 hb); replace HB := AS (bst Z0 hb); (try clear hb); (try clear hb2); (try clear hk); (try clear hi); (try clear ho0); obtain ⟨Ao20, co20, eo20⟩ := Kd.V_slice HO182.out; subst eo20; obtain ⟨Ao21, co21, eo21⟩ := Kd.V_slice HO185.out; subst eo21) | ((with_reducible refine gtc (f := 176) rfl ?_); refine gsL (some 40) rfl rfl Tryz.func176 Z5 rfl #[.slice Ao20 t180.length co20, .slice Ao21 t183.length co21] rfl Z1 ?_; (with_reducible refine (dpcm.calls k _ _ t180 _ _ t183 t186 _ ?side1 ?side2 ?side3 ?side4 ?side5 A15.out).mono ?_); (case side1 => exact Z105); (case side2 => exact Z176); (case side3 => exact Z127); (case side4 => exact (Kd.V_reads' HO185.out).2.1); (case side5 => exact Z182); rintro e w22 ⟨rfl, hb⟩; refine ⟨_, rfl, ?_⟩; replace HO182 := AS (Kd.V_below Z73 hb); replace HO185 := AS (Kd.V_below Z101 hb); replace HB := AS (bst Z0 hb); (try clear hb); (try clear hb2); (try clear hk); (try clear hi)))
    go_ret3
    exact ⟨Z3, Z0⟩
   ·rw [if_neg c16] at H
    have c16b0 : decide (t186 < 0) = false := decide_eq_false c16; clear c16
    by_cases c23 : (t183.length : Int) = 1
    ·rw [if_pos c23] at H
     have c23b0 : ((t183.length : Int) == 1) = true := beq_iff_eq.mpr c23; have c23b1 : ((t183.length : Int) != 1) = false := bne_eq_false_iff_eq.mpr c23; clear c23
     by_cases c24 : 0 < (t183.length : Int)
     ·rw [if_pos c24] at H
      have c24b0 : decide (0 < (t183.length : Int)) = true := decide_eq_true c24; have c24b1 : decide (0 < t183.length) = true := decide_eq_true (by omega); clear c24; replace H := Option.bind_eq_some_iff.mp H; obtain ⟨⟨t188, t191⟩, A250, H⟩ := H; replace H : ((dptx.f t188).bind fun t192 => ((decimal_Of.f t191).bind fun t193 => (some (t192, t193, 0)))) = some (r1, r2, r3) := H; have A25 := AS A250; clear A250; replace H := Option.bind_eq_some_iff.mp H; obtain ⟨t192, A260, H⟩ := H; replace H : ((decimal_Of.f t191).bind fun t193 => (some (t192, t193, 0))) = some (r1, r2, r3) := H; have A26 := AS A260; clear A260; replace H := Option.bind_eq_some_iff.mp H; obtain ⟨t193, A270, H⟩ := H; replace H : (some (t192, t193, 0)) = some (r1, r2, r3) := H; have A27 := AS A270; clear A270
      simp only [Option.some.injEq, Prod.mk.injEq] at H
      obtain ⟨rfl, rfl, rfl⟩ := H; go_enter Tryz.func141, Tryz.ntmps141; go_wp2_with (first | ((with_reducible refine gtc (f := 80) rfl ?_); refine gsL (some 21) rfl rfl Tryz.func80 Z5 rfl #[.string a0, .string a1] rfl Z1 ?_; (with_reducible refine (debo.calls k a0 a1 t175 t176 false _ ?side1 A4.out).mono ?_); (case side1 => exact Z182); rintro e w28 ⟨rfl, hb⟩; refine ⟨_, rfl, ?_⟩; replace HB := AS (bst Z0 hb); (try clear hb); (try clear hb2); (try clear hk); (try clear hi)) | ((with_reducible refine gtc (f := 81) rfl ?_); refine gsL (some 35) rfl rfl Tryz.func81 Z5 rfl #[.string a0] rfl Z1 ?_; (with_reducible refine (decu.calls a0 t180 _ ?side1 A13.out).mono ?_); (case side1 => exact Z182); rintro e w29 ⟨v181, rfl, ho0, hb⟩; refine ⟨_, rfl, ?_⟩; have HO182 := AS (Kd.V_lower (Kd.V_mono (ok' := fun k_ => True) ho0 (fun k_ hk_ => trivial)) (bsz Z0)); replace HB := AS (bst Z0 hb); (try clear hb); (try clear hb2); (try clear hk); (try clear hi); (try clear ho0)) | ((with_reducible refine gtc (f := 81) rfl ?_); refine gsL (some 37) rfl rfl Tryz.func81 Z5 rfl #[.string a1] rfl Z1 ?_; (with_reducible refine (decu.calls a1 t183 _ ?side1 A14.out).mono ?_); (case side1 => exact Z182); rintro e w30 ⟨v184, rfl, ho0, hb⟩; refine ⟨_, rfl, ?_⟩; have HO185 := AS (Kd.V_lower (Kd.V_mono (ok' := fun k_ => True) ho0 (fun k_ hk_ => trivial)) (bsz Z0)); replace HO182 := AS (Kd.V_below Z73 hb); replace HB := AS (bst Z0 hb); (try clear hb); (try clear hb2); (try clear hk); (try clear hi); (try clear ho0); obtain ⟨Ao31, co31, eo31⟩ := Kd.V_slice HO182.out; subst eo31; obtain ⟨Ao32, co32, eo32⟩ := Kd.V_slice HO185.out; subst eo32) | ((with_reducible refine gtc (f := 176) rfl ?_); refine gsL (some 40) rfl rfl Tryz.func176 Z5 rfl #[.slice Ao31 t180.length co31, .slice Ao32 t183.length co32] rfl Z1 ?_; (with_reducible refine (dpcm.calls k _ _ t180 _ _ t183 t186 _ ?side1 ?side2 ?side3 ?side4 ?side5 A15.out).mono ?_); (case side1 => exact Z105); (case side2 => exact Z176); (case side3 => exact Z127); (case side4 => exact (Kd.V_reads' HO185.out).2.1); (case side5 => exact Z182); rintro e w33 ⟨rfl, hb⟩; refine ⟨_, rfl, ?_⟩; replace HO182 := AS (Kd.V_below Z73 hb); replace HO185 := AS (Kd.V_below Z101 hb); replace HB := AS (bst Z0 hb); (try clear hb); (try clear hb2); (try clear hk); (try clear hi); have p187 : 0 ≤ (0 : Int) := (by omega); have q187 : 0 < (t183.length : Int) := of_decide_eq_true Z2; obtain ⟨ad187, e187, hx187_0⟩ := Kd.at_int (Kd.V_reads' HO185.out).2.2 0 p187 q187; cases e187; have qi187 : (0 < t183.length) = True := eq_true (by omega); (try rw [show ((0 : Int)).toNat = 0 from rfl] at hx187_0); (try rw [Addr.add_zero'] at hx187_0); replace p187 := eq_true p187; replace q187 := eq_true q187) | ((with_reducible refine gtc (f := 177) rfl ?_); refine gsL (some 51) rfl rfl Tryz.func177 Z5 rfl #[.slice Ao31 t180.length co31, .int .u64 (rd t183 0)] rfl Z1 ?_; (with_reducible refine (dpsm.calls k _ _ t180 (rd t183 0) t188 t191 _ ?side1 ?side2 ?side3 A25.out).mono ?_); (case side1 => exact Z105); (case side2 => exact Z176); (case side3 => exact Z182); rintro e w34 ⟨v189, rfl, ho0, hb⟩; refine ⟨_, rfl, ?_⟩; have HO190 := AS (Kd.V_lower (Kd.V_mono (ok' := fun k_ => True) ho0 (fun k_ hk_ => trivial)) (bsz Z0)); replace HO182 := AS (Kd.V_below Z73 hb); replace HO185 := AS (Kd.V_below Z101 hb); replace HB := AS (bst Z0 hb); (try clear hb); (try clear hb2); (try clear hk); (try clear hi); (try clear ho0); obtain ⟨Ao35, co35, eo35⟩ := Kd.V_slice HO190.out; subst eo35) | ((with_reducible refine gtc (f := 83) rfl ?_); refine gsL (some 55) rfl rfl Tryz.func83 Z5 rfl #[.slice Ao35 t188.length co35] rfl Z1 ?_; (with_reducible refine (dptx.calls _ _ t188 t192 _ ?side1 ?side2 ?side3 A26.out).mono ?_); (case side1 => repeat (first | exact (Kd.V_reads' HO190.out).2.2 | (with_reducible refine Kd.C_alloc ?_ _) | (with_reducible refine Kd.C_drewN ?_ _) | (with_reducible refine Kd.C_drew ?_))); (case side2 => exact (Kd.V_reads' HO190.out).2.1); (case side3 => exact Z182); rintro e w36 ⟨rfl, hb⟩; refine ⟨_, rfl, ?_⟩; replace HO182 := AS (Kd.V_below Z73 hb); replace HO185 := AS (Kd.V_below Z101 hb); replace HO190 := AS (Kd.V_below Z148 hb); replace HB := AS (bst Z0 hb); (try clear hb); (try clear hb2); (try clear hk); (try clear hi)) | ((with_reducible refine gtc (f := 79) rfl ?_); refine gsL (some 57) rfl rfl Tryz.func79 Z5 rfl #[.int .u64 t191] rfl Z1 ?_; (with_reducible refine (decimal_Of.calls t191 t193 _ ?side1 A27.out).mono ?_); (case side1 => exact Z182); rintro e w37 ⟨rfl, hb⟩; refine ⟨_, rfl, ?_⟩; replace HO182 := AS (Kd.V_below Z73 hb); replace HO185 := AS (Kd.V_below Z101 hb); replace HO190 := AS (Kd.V_below Z148 hb); replace HB := AS (bst Z0 hb); (try clear hb); (try clear hb2); (try clear hk); (try clear hi)))
      go_ret3
      exact ⟨Z3, Z0⟩
     ·rw [if_neg c24] at H
      exact absurd H (by simp)
    ·rw [if_neg c23] at H
     exact absurd H (by simp)
def deGc.l0 : Nat → ByteArray → ByteArray → Option (ByteArray)
 | 0, _, _ => none
 | k + 1, x0, x1 => if x1.toList = ([48] : List UInt8) then (some x0) else ((deDM.f k x0 x1).bind fun bt194 => (if bt194.2.2 = 0 then (deGc.l0 k x1 bt194.2.1) else (some (⟨#[]⟩ : ByteArray))))
def deGc.f (k : Nat) (a0 : ByteArray) (a1 : ByteArray) : Option (ByteArray) := deGc.l0 k a0 a1
theorem deGc.mono_l : ∀ k, (∀ y0 y1, LeO (deGc.l0 k y0 y1) (deGc.l0 (k + 1) y0 y1))
 | 0 => fun _ _ r h => by simp [deGc.l0] at h
 | k + 1 => by
  have ih0 := deGc.mono_l k
  ·intro y0 y1; unfold deGc.l0
   repeat' (with_reducible first | exact ih0 _ _ | exact deDM.mono _ _ _ | exact LeO.refl _ | exact LeO.none _ | refine LeO.ite ?_ ?_ | refine LeO.bind ?_ (fun _ => ?_))
theorem deGc.mono : ∀ a0 a1 k, LeO (deGc.f k a0 a1) (deGc.f (k + 1) a0 a1) := by
 intro a0 a1 k; have ih0 := deGc.mono_l k; unfold deGc.f
 repeat' (with_reducible first | exact ih0 _ _ | exact deDM.mono _ _ _ | exact LeO.refl _ | exact LeO.none _ | refine LeO.ite ?_ ?_ | refine LeO.bind ?_ (fun _ => ?_))
set_option maxHeartbeats 8000000 in
set_option maxRecDepth 100000 in
theorem deGc.calls (k : Nat) (a0 : ByteArray) (a1 : ByteArray) (r : ByteArray) (w : World) (hG : GL w) (h : deGc.f k a0 a1 = some r) :
  Calls Tryz.prog 125 #[.string a0, .string a1] w fun e w' => e = .returned (.string r) ∧ Below w.heap.size w w' := by
 have HB := AS (Below.refl w.heap.size w); have H : (deGc.l0 k a0 a1) = some r := h; clear h; have H' := AS H; clear H; go_enter Tryz.func125, Tryz.ntmps125; go_wp2
 go_loopg [0, 1] k (fun kq v0 v1 w' => ∃ (x0_1 : ByteArray) (x1_1 : ByteArray), v0 = .string x0_1 ∧ v1 = .string x1_1 ∧ Aside0 (deGc.l0 kq x0_1 x1_1 = some r) ∧ Aside0 (kq ≤ k) ∧ Aside0 (Below w.heap.size w w'))
 case atStart => exact ⟨(a0), (a1), Z4, Z4, H', ⟨Nat.le_refl _⟩, ⟨Z0⟩⟩
 case round =>
  clear H'; (try clear c1); (try clear p2); obtain ⟨x0_1, x1_1, rfl, rfl, HA, HK1, HB⟩ := hrel
  cases gk with
  | zero => exact absurd HA.out (by simp [deGc.l0])
  | succ k1 =>
   have H := HA.out; clear HA
   simp only [deGc.l0] at H
   by_cases c3 : x1_1.toList = ([48] : List UInt8)
   ·rw [if_pos c3] at H
    have c3b0 : (x1_1.toList == ([48] : List UInt8)) = true := beq_iff_eq.mpr c3; have c3b1 : (x1_1.toList != ([48] : List UInt8)) = false := bne_eq_false_iff_eq.mpr c3; clear c3; obtain rfl := Option.some.inj H; go_wp2; go_ret; exact ⟨Z3, Z0⟩
   ·rw [if_neg c3] at H
    have c3b0 : (x1_1.toList == ([48] : List UInt8)) = false := beq_eq_false_iff_ne.mpr c3; have c3b1 : (x1_1.toList != ([48] : List UInt8)) = true := bne_iff_ne.mpr c3; replace H := Option.bind_eq_some_iff.mp H; obtain ⟨⟨t194, t195, t196⟩, A40, H⟩ := H; replace H : (if t196 = 0 then (deGc.l0 k1 x1_1 t195) else (some (⟨#[]⟩ : ByteArray))) = some r := H; have A4 := AS A40; clear A40
    by_cases c5 : t196 = 0
    ·rw [if_pos c5] at H
     have c5b0 : (t196 == 0) = true := beq_iff_eq.mpr c5; have c5b1 : (t196 != 0) = false := bne_eq_false_iff_eq.mpr c5; clear c5; have H' := AS H; clear H; go_wp2_with (first | ((with_reducible refine gtc (f := 141) rfl ?_); refine gsL (some 13) rfl rfl Tryz.func141 Z5 rfl #[.string x0_1, .string x1_1] rfl Z1 ?_; (with_reducible refine (deDM.calls k1 x0_1 x1_1 t194 t195 t196 _ ?side1 A4.out).mono ?_); (case side1 => exact Z182); rintro e w6 ⟨rfl, hb⟩; refine ⟨_, rfl, ?_⟩; replace HB := AS (bst Z0 hb); (try clear hb); (try clear hb2); (try clear hk); (try clear hi)))
     go_roundg k1
     case measure => have := HK1.out; omega
     case rel => exact ⟨(x1_1), (t195), Z4, Z4, H', ⟨Z88⟩, ⟨Z0⟩⟩
    ·rw [if_neg c5] at H
     have c5b0 : (t196 == 0) = false := beq_eq_false_iff_ne.mpr c5; have c5b1 : (t196 != 0) = true := bne_iff_ne.mpr c5; obtain rfl := Option.some.inj H; go_wp2_with (first | ((with_reducible refine gtc (f := 141) rfl ?_); refine gsL (some 13) rfl rfl Tryz.func141 Z5 rfl #[.string x0_1, .string x1_1] rfl Z1 ?_; (with_reducible refine (deDM.calls k1 x0_1 x1_1 t194 t195 t196 _ ?side1 A4.out).mono ?_); (case side1 => exact Z182); rintro e w7 ⟨rfl, hb⟩; refine ⟨_, rfl, ?_⟩; replace HB := AS (bst Z0 hb); (try clear hb); (try clear hb2); (try clear hk); (try clear hi))); go_ret; exact ⟨Z3, Z0⟩

def whole_Gcd.f (k : Nat) (a0 : ByteArray) (a1 : ByteArray) : Option (ByteArray) := (whole_Abs.f a0).bind fun t197 => ((whole_Abs.f a1).bind fun t198 => ((whLi.f t197 18).bind fun bt199 => (if bt199.2 = true then ((whLi.f t198 18).bind fun bt201 => (if bt201.2 = true then ((whole_gcd.f k bt199.1 bt201.1).bind fun t203 => ((whOf.f t203).bind fun t204 => (some t204))) else ((deGc.f k t197 t198).bind fun t205 => (some t205)))) else ((deGc.f k t197 t198).bind fun t206 => (some t206)))))
theorem whole_Gcd.mono : ∀ a0 a1 k, LeO (whole_Gcd.f k a0 a1) (whole_Gcd.f (k + 1) a0 a1) := by
 intro a0 a1 k; unfold whole_Gcd.f
 repeat' (with_reducible first | exact deGc.mono _ _ _ | exact whole_gcd.mono _ _ _ | exact LeO.refl _ | exact LeO.none _ | refine LeO.ite ?_ ?_ | refine LeO.bind ?_ (fun _ => ?_))
set_option maxHeartbeats 8000000 in
set_option maxRecDepth 100000 in
theorem whole_Gcd.calls (k : Nat) (a0 : ByteArray) (a1 : ByteArray) (r : ByteArray) (w : World) (hG : GL w) (h : whole_Gcd.f k a0 a1 = some r) :
  Calls Tryz.prog 97 #[.string a0, .string a1] w fun e w' => e = .returned (.string r) ∧ Below w.heap.size w w' := by
 have HB := AS (Below.refl w.heap.size w); have H : ((whole_Abs.f a0).bind fun t197 => ((whole_Abs.f a1).bind fun t198 => ((whLi.f t197 18).bind fun bt199 => (if bt199.2 = true then ((whLi.f t198 18).bind fun bt201 => (if bt201.2 = true then ((whole_gcd.f k bt199.1 bt201.1).bind fun t203 => ((whOf.f t203).bind fun t204 => (some t204))) else ((deGc.f k t197 t198).bind fun t205 => (some t205)))) else ((deGc.f k t197 t198).bind fun t206 => (some t206)))))) = some r := h; clear h; replace H := Option.bind_eq_some_iff.mp H; obtain ⟨t197, A30, H⟩ := H; replace H : ((whole_Abs.f a1).bind fun t198 => ((whLi.f t197 18).bind fun bt199 => (if bt199.2 = true then ((whLi.f t198 18).bind fun bt201 => (if bt201.2 = true then ((whole_gcd.f k bt199.1 bt201.1).bind fun t203 => ((whOf.f t203).bind fun t204 => (some t204))) else ((deGc.f k t197 t198).bind fun t205 => (some t205)))) else ((deGc.f k t197 t198).bind fun t206 => (some t206))))) = some r := H; have A3 := AS A30; clear A30; replace H := Option.bind_eq_some_iff.mp H; obtain ⟨t198, A40, H⟩ := H; replace H : ((whLi.f t197 18).bind fun bt199 => (if bt199.2 = true then ((whLi.f t198 18).bind fun bt201 => (if bt201.2 = true then ((whole_gcd.f k bt199.1 bt201.1).bind fun t203 => ((whOf.f t203).bind fun t204 => (some t204))) else ((deGc.f k t197 t198).bind fun t205 => (some t205)))) else ((deGc.f k t197 t198).bind fun t206 => (some t206)))) = some r := H; have A4 := AS A40; clear A40; replace H := Option.bind_eq_some_iff.mp H; obtain ⟨⟨t199, t200⟩, A50, H⟩ := H; replace H : (if t200 = true then ((whLi.f t198 18).bind fun bt201 => (if bt201.2 = true then ((whole_gcd.f k t199 bt201.1).bind fun t203 => ((whOf.f t203).bind fun t204 => (some t204))) else ((deGc.f k t197 t198).bind fun t205 => (some t205)))) else ((deGc.f k t197 t198).bind fun t206 => (some t206))) = some r := H; have A5 := AS A50; clear A50
 by_cases c6 : t200 = true
 ·subst c6
  rw [if_pos rfl] at H
  replace H := Option.bind_eq_some_iff.mp H; obtain ⟨⟨t201, t202⟩, A70, H⟩ := H; replace H : (if t202 = true then ((whole_gcd.f k t199 t201).bind fun t203 => ((whOf.f t203).bind fun t204 => (some t204))) else ((deGc.f k t197 t198).bind fun t205 => (some t205))) = some r := H; have A7 := AS A70; clear A70
  by_cases c8 : t202 = true
  ·subst c8
   rw [if_pos rfl] at H
   replace H := Option.bind_eq_some_iff.mp H; obtain ⟨t203, A90, H⟩ := H; replace H : ((whOf.f t203).bind fun t204 => (some t204)) = some r := H; have A9 := AS A90; clear A90; replace H := Option.bind_eq_some_iff.mp H; obtain ⟨t204, A100, H⟩ := H; replace H : (some t204) = some r := H; have A10 := AS A100; clear A100; obtain rfl := Option.some.inj H; go_enter Tryz.func97, Tryz.ntmps97; go_wp2_with (first | ((with_reducible refine gtc (f := 69) rfl ?_); refine gsL (some 12) rfl rfl Tryz.func69 Z5 rfl #[.string a0] rfl Z1 ?_; (with_reducible refine (whole_Abs.calls a0 t197 _ ?side1 A3.out).mono ?_); (case side1 => exact Z182); rintro e w' ⟨rfl, ⟨nd, rfl⟩⟩; refine ⟨_, rfl, ?_⟩) | ((with_reducible refine gtc (f := 69) rfl ?_); refine gsL (some 14) rfl rfl Tryz.func69 Z5 rfl #[.string a1] rfl Z1 ?_; (with_reducible refine (whole_Abs.calls a1 t198 _ ?side1 A4.out).mono ?_); (case side1 => exact Z182); rintro e w' ⟨rfl, ⟨nd, rfl⟩⟩; refine ⟨_, rfl, ?_⟩) | ((with_reducible refine gtc (f := 123) rfl ?_); refine gsL (some 17) rfl rfl Tryz.func123 Z5 rfl #[.string t197, .int .i64 18] rfl Z1 ?_; (with_reducible refine (whLi.calls t197 18 t199 true _ ?side1 A5.out).mono ?_); (case side1 => exact Z182); rintro e w11 ⟨rfl, hb⟩; refine ⟨_, rfl, ?_⟩; replace HB := AS (bst Z0 hb); (try clear hb); (try clear hb2); (try clear hk); (try clear hi)) | ((with_reducible refine gtc (f := 123) rfl ?_); refine gsL (some 23) rfl rfl Tryz.func123 Z5 rfl #[.string t198, .int .i64 18] rfl Z1 ?_; (with_reducible refine (whLi.calls t198 18 t201 true _ ?side1 A7.out).mono ?_); (case side1 => exact Z182); rintro e w12 ⟨rfl, hb⟩; refine ⟨_, rfl, ?_⟩; replace HB := AS (bst Z0 hb); (try clear hb); (try clear hb2); (try clear hk); (try clear hi)) | ((with_reducible refine gtc (f := 124) rfl ?_); refine gsL (some 29) rfl rfl Tryz.func124 Z5 rfl #[.int .i64 t199, .int .i64 t201] rfl Z1 ?_; (with_reducible refine (whole_gcd.calls k t199 t201 t203 _ ?side1 A9.out).mono ?_); (case side1 => exact Z182); rintro e w' ⟨rfl, ⟨nd, rfl⟩⟩; refine ⟨_, rfl, ?_⟩) | ((with_reducible refine gtc (f := 59) rfl ?_); refine gsL (some 30) rfl rfl Tryz.func59 Z5 rfl #[.int .i64 t203] rfl Z1 ?_; (with_reducible refine (whOf.calls t203 t204 _ ?side1 A10.out).mono ?_); (case side1 => exact Z182); rintro e w13 ⟨rfl, hb⟩; refine ⟨_, rfl, ?_⟩; replace HB := AS (bst Z0 hb); (try clear hb); (try clear hb2); (try clear hk); (try clear hi))); go_ret; exact ⟨Z3, Z0⟩
  ·replace c8 := Bool.eq_false_iff.mpr c8; subst c8
   rw [if_neg (show ¬ (false = true) by decide)] at H
   replace H := Option.bind_eq_some_iff.mp H; obtain ⟨t205, A140, H⟩ := H; replace H : (some t205) = some r := H; have A14 := AS A140; clear A140; obtain rfl := Option.some.inj H; go_enter Tryz.func97, Tryz.ntmps97; go_wp2_with (first | ((with_reducible refine gtc (f := 69) rfl ?_); refine gsL (some 12) rfl rfl Tryz.func69 Z5 rfl #[.string a0] rfl Z1 ?_; (with_reducible refine (whole_Abs.calls a0 t197 _ ?side1 A3.out).mono ?_); (case side1 => exact Z182); rintro e w' ⟨rfl, ⟨nd, rfl⟩⟩; refine ⟨_, rfl, ?_⟩) | ((with_reducible refine gtc (f := 69) rfl ?_); refine gsL (some 14) rfl rfl Tryz.func69 Z5 rfl #[.string a1] rfl Z1 ?_; (with_reducible refine (whole_Abs.calls a1 t198 _ ?side1 A4.out).mono ?_); (case side1 => exact Z182); rintro e w' ⟨rfl, ⟨nd, rfl⟩⟩; refine ⟨_, rfl, ?_⟩) | ((with_reducible refine gtc (f := 123) rfl ?_); refine gsL (some 17) rfl rfl Tryz.func123 Z5 rfl #[.string t197, .int .i64 18] rfl Z1 ?_; (with_reducible refine (whLi.calls t197 18 t199 true _ ?side1 A5.out).mono ?_); (case side1 => exact Z182); rintro e w15 ⟨rfl, hb⟩; refine ⟨_, rfl, ?_⟩; replace HB := AS (bst Z0 hb); (try clear hb); (try clear hb2); (try clear hk); (try clear hi)) | ((with_reducible refine gtc (f := 123) rfl ?_); refine gsL (some 23) rfl rfl Tryz.func123 Z5 rfl #[.string t198, .int .i64 18] rfl Z1 ?_; (with_reducible refine (whLi.calls t198 18 t201 false _ ?side1 A7.out).mono ?_); (case side1 => exact Z182); rintro e w16 ⟨rfl, hb⟩; refine ⟨_, rfl, ?_⟩; replace HB := AS (bst Z0 hb); (try clear hb); (try clear hb2); (try clear hk); (try clear hi)) | ((with_reducible refine gtc (f := 125) rfl ?_); refine gsL (some 33) rfl rfl Tryz.func125 Z5 rfl #[.string t197, .string t198] rfl Z1 ?_; (with_reducible refine (deGc.calls k t197 t198 t205 _ ?side1 A14.out).mono ?_); (case side1 => exact Z182); rintro e w17 ⟨rfl, hb⟩; refine ⟨_, rfl, ?_⟩; replace HB := AS (bst Z0 hb); (try clear hb); (try clear hb2); (try clear hk); (try clear hi))); go_ret; exact ⟨Z3, Z0⟩
 ·replace c6 := Bool.eq_false_iff.mpr c6; subst c6
  rw [if_neg (show ¬ (false = true) by decide)] at H
  replace H := Option.bind_eq_some_iff.mp H; obtain ⟨t206, A180, H⟩ := H; replace H : (some t206) = some r := H; have A18 := AS A180; clear A180; obtain rfl := Option.some.inj H; go_enter Tryz.func97, Tryz.ntmps97; go_wp2_with (first | ((with_reducible refine gtc (f := 69) rfl ?_); refine gsL (some 12) rfl rfl Tryz.func69 Z5 rfl #[.string a0] rfl Z1 ?_; (with_reducible refine (whole_Abs.calls a0 t197 _ ?side1 A3.out).mono ?_); (case side1 => exact Z182); rintro e w' ⟨rfl, ⟨nd, rfl⟩⟩; refine ⟨_, rfl, ?_⟩) | ((with_reducible refine gtc (f := 69) rfl ?_); refine gsL (some 14) rfl rfl Tryz.func69 Z5 rfl #[.string a1] rfl Z1 ?_; (with_reducible refine (whole_Abs.calls a1 t198 _ ?side1 A4.out).mono ?_); (case side1 => exact Z182); rintro e w' ⟨rfl, ⟨nd, rfl⟩⟩; refine ⟨_, rfl, ?_⟩) | ((with_reducible refine gtc (f := 123) rfl ?_); refine gsL (some 17) rfl rfl Tryz.func123 Z5 rfl #[.string t197, .int .i64 18] rfl Z1 ?_; (with_reducible refine (whLi.calls t197 18 t199 false _ ?side1 A5.out).mono ?_); (case side1 => exact Z182); rintro e w19 ⟨rfl, hb⟩; refine ⟨_, rfl, ?_⟩; replace HB := AS (bst Z0 hb); (try clear hb); (try clear hb2); (try clear hk); (try clear hi)) | ((with_reducible refine gtc (f := 125) rfl ?_); refine gsL (some 33) rfl rfl Tryz.func125 Z5 rfl #[.string t197, .string t198] rfl Z1 ?_; (with_reducible refine (deGc.calls k t197 t198 t206 _ ?side1 A18.out).mono ?_); (case side1 => exact Z182); rintro e w20 ⟨rfl, hb⟩; refine ⟨_, rfl, ?_⟩; replace HB := AS (bst Z0 hb); (try clear hb); (try clear hb2); (try clear hk); (try clear hi))); go_ret; exact ⟨Z3, Z0⟩
def frCk.j0 : Nat → Bool → ByteArray → ByteArray → Option (Int)
 | 0, _, _, _ => none
 | k + 1, x3, x208000, x208001 => if x3 = true then (none) else ((whole_Sign.f x208001).bind fun t210 => (if t210 ≤ 0 then (none) else ((whole_Gcd.f k x208000 x208001).bind fun t211 => (if t211.toList = ([49] : List UInt8) then (some 0) else (none)))))
def frCk.f (k : Nat) (a0_0 : ByteArray) (a0_1 : ByteArray) : Option (Int) := (whole_Check.f a0_0).bind fun t208 => (if t208 = 0 then ((whole_Check.f a0_1).bind fun t209 => (frCk.j0 k (t209 != 0) a0_0 a0_1)) else (frCk.j0 k (t208 != 0) a0_0 a0_1))
theorem frCk.mono_l : ∀ k, (∀ y0 y1 y2, LeO (frCk.j0 k y0 y1 y2) (frCk.j0 (k + 1) y0 y1 y2))
 | 0 => fun _ _ _ r h => by simp [frCk.j0] at h
 | k + 1 => by
  have ih0 := frCk.mono_l k
  ·intro y0 y1 y2; unfold frCk.j0
   repeat' (with_reducible first | exact ih0 _ _ _ | exact whole_Gcd.mono _ _ _ | exact LeO.refl _ | exact LeO.none _ | refine LeO.ite ?_ ?_ | refine LeO.bind ?_ (fun _ => ?_))
theorem frCk.mono : ∀ a0 a1 k, LeO (frCk.f k a0 a1) (frCk.f (k + 1) a0 a1) := by
 intro a0 a1 k; have ih0 := frCk.mono_l k; unfold frCk.f
 repeat' (with_reducible first | exact ih0 _ _ _ | exact whole_Gcd.mono _ _ _ | exact LeO.refl _ | exact LeO.none _ | refine LeO.ite ?_ ?_ | refine LeO.bind ?_ (fun _ => ?_))
set_option maxHeartbeats 8000000 in
set_option maxRecDepth 100000 in
theorem frCk.calls (k : Nat) (a0_0 : ByteArray) (a0_1 : ByteArray) (r : Int) (w : World) (hG : GL w) (h : frCk.f k a0_0 a0_1 = some r) :
  Calls Tryz.prog 67 #[.agg #[.string a0_0, .string a0_1]] w fun e w' => e = .returned (.int .i64 r) ∧ Below w.heap.size w w' := by
 have hu53 := Tryz.underlying53; have HB := AS (Below.refl w.heap.size w); have H : ((whole_Check.f a0_0).bind fun t208 => (if t208 = 0 then ((whole_Check.f a0_1).bind fun t209 => (frCk.j0 k (t209 != 0) a0_0 a0_1)) else (frCk.j0 k (t208 != 0) a0_0 a0_1))) = some r := h; clear h; replace H := Option.bind_eq_some_iff.mp H; obtain ⟨t208, A20, H⟩ := H; replace H : (if t208 = 0 then ((whole_Check.f a0_1).bind fun t209 => (frCk.j0 k (t209 != 0) a0_0 a0_1)) else (frCk.j0 k (t208 != 0) a0_0 a0_1)) = some r := H; have A2 := AS A20; clear A20; have HC3 := AS H; clear H; go_enter Tryz.func67, Tryz.ntmps67
 go_upto_if 3 with (first | ((with_reducible refine gtd (N := 1) rfl ?_); refine bxe ?hg (N := 1) ?hd (cs := #[.string a0_0, .string a0_1]) (t := 53) ?hr ?_; (case hd => rfl); (case hg => rfl); (case hr => exact Z11); intro gb207 hg w4 hbox hb; have BK207 := AS (hbox); have GW207 := AS ((Z183 : w.heap.size ≤ gb207)); have GE207 := AS ((Z183 : w.heap.size ≤ gb207)); replace HB := AS (bst Z0 hb); clear hb hbox hg; have hcz5_0 := bc0 BK207.out; have hcz5_1 := bc1 BK207.out; have hfz5_0 := bfz BK207.out 0; have hfz5_1 := bfz BK207.out 1) | ((with_reducible refine gtc (f := 96) rfl ?_); refine gsL (some 6) rfl rfl Tryz.func96 Z5 rfl #[.string a0_0] rfl Z1 ?_; (with_reducible refine (whole_Check.calls a0_0 t208 _ ?side1 A2.out).mono ?_); (case side1 => exact Z214); rintro e w6 ⟨rfl, hb⟩; refine ⟨_, rfl, ?_⟩; replace BK207 := AS (bbl (g := gb207) (o := .cells #[.string a0_0, .string a0_1] 53 (0, 0)) Z109 hb); replace HB := AS (bst Z29 hb); (try clear hb); (try clear hb2); (try clear hk); (try clear hi)))
 (try simp only [Act.put, List.setIfInBounds_toArray, List.set_cons_zero, List.set_cons_succ])
 go_cut [3] (fun v3 wc => ∃ (kq : Nat) (x3_2 : Bool), v3 = .bool x3_2 ∧ Aside0 (frCk.j0 kq x3_2 a0_0 a0_1 = some r) ∧ Aside0 (kq ≤ k) ∧ Aside0 (wc.heap[gb207]? = some (.cells #[.string a0_0, .string a0_1] 53 (0, 0))) ∧ Aside0 (Below w.heap.size w wc))
 case first =>
  have H := HC3.out; clear HC3
  by_cases c7 : t208 = 0
  ·rw [if_pos c7] at H
   have c7b0 : (t208 == 0) = true := beq_iff_eq.mpr c7; have c7b1 : (t208 != 0) = false := bne_eq_false_iff_eq.mpr c7; clear c7
   (first | rw [c7b0] | (simp only [i64_w, i32_w]; rw [c7b0]) | skip)
   replace H := Option.bind_eq_some_iff.mp H; obtain ⟨t209, A80, H⟩ := H; replace H : (frCk.j0 k (t209 != 0) a0_0 a0_1) = some r := H; have A8 := AS A80; clear A80; have H' := AS H; clear H; have hcz9_0 := bc0 BK207.out; have hcz9_1 := bc1 BK207.out; have hfz9_0 := bfz BK207.out 0; have hfz9_1 := bfz BK207.out 1; go_wp2_with (first | ((with_reducible refine gtc (f := 96) rfl ?_); refine gsL (some 10) rfl rfl Tryz.func96 Z5 rfl #[.string a0_1] rfl Z1 ?_; (with_reducible refine (whole_Check.calls a0_1 t209 _ ?side1 A8.out).mono ?_); (case side1 => exact Z214); rintro e w10 ⟨rfl, hb⟩; refine ⟨_, rfl, ?_⟩; replace BK207 := AS (bbl (g := gb207) (o := .cells #[.string a0_0, .string a0_1] 53 (0, 0)) Z109 hb); replace HB := AS (bst Z29 hb); (try clear hb); (try clear hb2); (try clear hk); (try clear hi))); go_meet
   case rel => exact ⟨_, ((t209 != 0)), Z4, H', ⟨Z61⟩, ⟨Z109⟩, ⟨Z29⟩⟩
  ·rw [if_neg c7] at H
   have c7b0 : (t208 == 0) = false := beq_eq_false_iff_ne.mpr c7; have c7b1 : (t208 != 0) = true := bne_iff_ne.mpr c7
   (first | rw [c7b0] | (simp only [i64_w, i32_w]; rw [c7b0]) | skip)
   have H' := AS H; clear H; go_wp2; go_meet
   case rel => exact ⟨_, ((t208 != 0)), Z4, H', ⟨Z61⟩, ⟨Z109⟩, ⟨Z29⟩⟩
 case rest =>
  clear HC3; (try clear p2); (try clear c6); (try clear c7); (try clear c7b0); (try clear c7b1); (try clear c9); (try clear hcz5_0); (try clear hcz5_1); (try clear hcz9_0); (try clear hcz9_1); (try clear hfz5_0); (try clear hfz5_1); (try clear hfz9_0); (try clear hfz9_1); obtain ⟨kq, x3_2, rfl, HA, HJ2, BK207, HB⟩ := hcut
  cases kq with
  | zero => exact absurd HA.out (by simp [frCk.j0])
  | succ kj2 =>
   have H := HA.out; clear HA
   simp only [frCk.j0] at H
   by_cases c11 : x3_2 = true
   ·subst c11
    rw [if_pos rfl] at H
    exact absurd H (by simp)
   ·replace c11 := Bool.eq_false_iff.mpr c11; subst c11
    rw [if_neg (show ¬ (false = true) by decide)] at H
    replace H := Option.bind_eq_some_iff.mp H; obtain ⟨t210, A120, H⟩ := H; replace H : (if t210 ≤ 0 then (none) else ((whole_Gcd.f kj2 a0_0 a0_1).bind fun t211 => (if t211.toList = ([49] : List UInt8) then (some 0) else (none)))) = some r := H; have A12 := AS A120; clear A120
    by_cases c13 : t210 ≤ 0
    ·rw [if_pos c13] at H
     exact absurd H (by simp)
    ·rw [if_neg c13] at H
     have c13b0 : decide (t210 ≤ 0) = false := decide_eq_false c13; clear c13; replace H := Option.bind_eq_some_iff.mp H; obtain ⟨t211, A140, H⟩ := H; replace H : (if t211.toList = ([49] : List UInt8) then (some 0) else (none)) = some r := H; have A14 := AS A140; clear A140
     by_cases c15 : t211.toList = ([49] : List UInt8)
     ·rw [if_pos c15] at H
      have c15b0 : (t211.toList == ([49] : List UInt8)) = true := beq_iff_eq.mpr c15; have c15b1 : (t211.toList != ([49] : List UInt8)) = false := bne_eq_false_iff_eq.mpr c15; clear c15; obtain rfl := Option.some.inj H; have hcz16_0 := bc0 BK207.out; have hcz16_1 := bc1 BK207.out; have hfz16_0 := bfz BK207.out 0; have hfz16_1 := bfz BK207.out 1; go_wp2_with (first | ((with_reducible refine gtc (f := 88) rfl ?_); refine gsL (some 15) rfl rfl Tryz.func88 Z5 rfl #[.string a0_1] rfl Z1 ?_; (with_reducible refine (whole_Sign.calls a0_1 t210 _ ?side1 A12.out).mono ?_); (case side1 => exact Z214); rintro e w' ⟨rfl, ⟨nd, rfl⟩⟩; refine ⟨_, rfl, ?_⟩) | ((with_reducible refine gtc (f := 97) rfl ?_); refine gsL (some 21) rfl rfl Tryz.func97 Z5 rfl #[.string a0_0, .string a0_1] rfl Z1 ?_; (with_reducible refine (whole_Gcd.calls kj2 a0_0 a0_1 t211 _ ?side1 A14.out).mono ?_); (case side1 => exact Z214); rintro e w17 ⟨rfl, hb⟩; refine ⟨_, rfl, ?_⟩; replace BK207 := AS (bbl (g := gb207) (o := .cells #[.string a0_0, .string a0_1] 53 (0, 0)) Z109 hb); replace HB := AS (bst Z29 hb); (try clear hb); (try clear hb2); (try clear hk); (try clear hi))); go_ret; exact ⟨Z3, Z29⟩
     ·rw [if_neg c15] at H
      exact absurd H (by simp)
def size_short.f (a0_0 : ByteArray) (a0_1 : ByteArray) : Option (Bool) := (whole_Abs.f a0_0).bind fun t213 => (if (t213.size : Int) ≤ 30 then (some (decide ((a0_1.size : Int) ≤ 30))) else (some false))
set_option maxHeartbeats 8000000 in
set_option maxRecDepth 100000 in
theorem size_short.calls (a0_0 : ByteArray) (a0_1 : ByteArray) (r : Bool) (w : World) (hG : GL w) (h : size_short.f a0_0 a0_1 = some r) :
  Calls Tryz.prog 208 #[.agg #[.string a0_0, .string a0_1]] w fun e w' => e = .returned (.bool r) ∧ Below w.heap.size w w' := by
 have hu53 := Tryz.underlying53; have HB := AS (Below.refl w.heap.size w); have H : ((whole_Abs.f a0_0).bind fun t213 => (if (t213.size : Int) ≤ 30 then (some (decide ((a0_1.size : Int) ≤ 30))) else (some false))) = some r := h; clear h; replace H := Option.bind_eq_some_iff.mp H; obtain ⟨t213, A20, H⟩ := H; replace H : (if (t213.size : Int) ≤ 30 then (some (decide ((a0_1.size : Int) ≤ 30))) else (some false)) = some r := H; have A2 := AS A20; clear A20
 by_cases c3 : (t213.size : Int) ≤ 30
 ·rw [if_pos c3] at H
  have c3b0 : decide ((t213.size : Int) ≤ 30) = true := decide_eq_true c3; have c3b1 : decide (t213.size ≤ 30) = true := decide_eq_true (by omega); clear c3; obtain rfl := Option.some.inj H; go_enter Tryz.func208, Tryz.ntmps208; go_wp2_with (first | ((with_reducible refine gtd (N := 1) rfl ?_); (try (refine gtg (by rfl) ?_; dsimp only)); refine bxe ?hg (N := 1) ?hd (cs := #[.string a0_0, .string a0_1]) (t := 53) ?hr ?_; (case hd => rfl); (case hg => rfl); (case hr => exact Z11); intro gb212 hg w4 hbox hb; have BK212 := AS (hbox); have GW212 := AS ((Z183 : w.heap.size ≤ gb212)); have GE212 := AS ((Z183 : w.heap.size ≤ gb212)); replace HB := AS (bst Z0 hb); clear hb hbox hg; have hcz5_0 := bc0 BK212.out; have hcz5_1 := bc1 BK212.out; have hfz5_0 := bfz BK212.out 0; have hfz5_1 := bfz BK212.out 1) | ((with_reducible refine gtc (f := 69) rfl ?_); refine gsL (some 5) rfl rfl Tryz.func69 Z5 rfl #[.string a0_0] rfl Z1 ?_; (with_reducible refine (whole_Abs.calls a0_0 t213 _ ?side1 A2.out).mono ?_); (case side1 => exact GL.below hG Z89); rintro e w' ⟨rfl, ⟨nd, rfl⟩⟩; refine ⟨_, rfl, ?_⟩)); go_ret; exact ⟨Z3, Z89⟩
 ·rw [if_neg c3] at H
  have c3b0 : decide ((t213.size : Int) ≤ 30) = false := decide_eq_false c3; have c3b1 : decide (t213.size ≤ 30) = false := decide_eq_false (by omega); clear c3; obtain rfl := Option.some.inj H; go_enter Tryz.func208, Tryz.ntmps208; go_wp2_with (first | ((with_reducible refine gtd (N := 1) rfl ?_); (try (refine gtg (by rfl) ?_; dsimp only)); refine bxe ?hg (N := 1) ?hd (cs := #[.string a0_0, .string a0_1]) (t := 53) ?hr ?_; (case hd => rfl); (case hg => rfl); (case hr => exact Z11); intro gb212 hg w6 hbox hb; have BK212 := AS (hbox); have GW212 := AS ((Z183 : w.heap.size ≤ gb212)); have GE212 := AS ((Z183 : w.heap.size ≤ gb212)); replace HB := AS (bst Z0 hb); clear hb hbox hg; have hcz7_0 := bc0 BK212.out; have hcz7_1 := bc1 BK212.out; have hfz7_0 := bfz BK212.out 0; have hfz7_1 := bfz BK212.out 1) | ((with_reducible refine gtc (f := 69) rfl ?_); refine gsL (some 5) rfl rfl Tryz.func69 Z5 rfl #[.string a0_0] rfl Z1 ?_; (with_reducible refine (whole_Abs.calls a0_0 t213 _ ?side1 A2.out).mono ?_); (case side1 => exact GL.below hG Z89); rintro e w' ⟨rfl, ⟨nd, rfl⟩⟩; refine ⟨_, rfl, ?_⟩)); go_ret; exact ⟨Z3, Z89⟩
def size_check.l0 : Nat → List (S53) → Int → Int → Option (Int)
 | 0, _, _, _ => none
 | k + 1, x12, x13, x14 => if x14 < x13 then (if 0 ≤ x14 then (if x14 < (x12.length : Int) then ((frCk.f k ((rd_T53 x12 x14).f0) ((rd_T53 x12 x14).f1)).bind fun t216 => (if t216 = 0 then ((size_short.f ((rd_T53 x12 x14).f0) ((rd_T53 x12 x14).f1)).bind fun t217 => (if t217 = true then (size_check.l0 k x12 x13 (wrap64 (x14 + 1))) else (none))) else (none))) else (none)) else (none)) else (some 0)
def size_check.f (k : Nat) (l0 : List Int) (l1 : List (S53)) : Option (Int) := if (l1.length : Int) = (l0.length : Int) then (size_check.l0 k l1 (l1.length : Int) 0) else (none)
set_option maxHeartbeats 8000000 in
set_option maxRecDepth 100000 in
theorem size_check.calls (k : Nat) (A0 : Option Addr) (c0 : Nat) (l0 : List Int) (A1 : Option Addr) (c1 : Nat) (l1 : List (S53)) (r : Int) (w : World) (hr0 : Kd.C (Kd.int .i64) w A0 l0.length l0) (hc0 : l0.length ≤ c0) (hr1 : Kd.C k53 w A1 l1.length l1) (hc1 : l1.length ≤ c1) (hG : GL w) (h : size_check.f k l0 l1 = some r) :
  Calls Tryz.prog 181 #[.slice A0 l0.length c0, .slice A1 l1.length c1] w fun e w' => e = .returned (.int .i64 r) ∧ Below w.heap.size w w' := by
 have hu53 := Tryz.underlying53; have HR0 := AS hr0; have HC0 := AS hc0; clear hr0 hc0; have HR1 := AS hr1; have HC1 := AS hc1; clear hr1 hc1; have HB := AS (Below.refl w.heap.size w); have H : (if (l1.length : Int) = (l0.length : Int) then (size_check.l0 k l1 (l1.length : Int) 0) else (none)) = some r := h; clear h
 by_cases c3 : (l1.length : Int) = (l0.length : Int)
 ·rw [if_pos c3] at H
  have c3b0 : ((l1.length : Int) == (l0.length : Int)) = true := beq_iff_eq.mpr c3; have c3b1 : ((l1.length : Int) != (l0.length : Int)) = false := bne_eq_false_iff_eq.mpr c3
  have c3b2 : (l1.length == l0.length) = true := by first | simpa using c3 | (simp at c3 ⊢; omega)
  clear c3; have H' := AS H; clear H; go_enter Tryz.func181, Tryz.ntmps181; go_wp2
  go_loopg [14] k (fun kq v14 w' => ∃ (x14_1 : Int), v14 = .int .i64 x14_1 ∧ Aside0 (size_check.l0 kq l1 (l1.length : Int) x14_1 = some r) ∧ Aside0 (kq ≤ k) ∧ Aside0 (Below w.heap.size w w'))
  case atStart => exact ⟨(0), Z4, H', ⟨Nat.le_refl _⟩, ⟨Z0⟩⟩
  case round =>
   clear H'; (try clear c1); (try clear p2); (try clear c3); (try clear c3b0); (try clear c3b1); (try clear c3b2); obtain ⟨x14_1, rfl, HA, HK1, HB⟩ := hrel
   cases gk with
   | zero => exact absurd HA.out (by simp [size_check.l0])
   | succ k1 =>
    have H := HA.out; clear HA
    simp only [size_check.l0] at H
    by_cases c4 : x14_1 < (l1.length : Int)
    ·rw [if_pos c4] at H
     have c4b0 : decide (x14_1 < (l1.length : Int)) = true := decide_eq_true c4; clear c4
     by_cases c5 : 0 ≤ x14_1
     ·rw [if_pos c5] at H
      have c5b0 : decide (0 ≤ x14_1) = true := decide_eq_true c5; clear c5
      by_cases c6 : x14_1 < (l1.length : Int)
      ·rw [if_pos c6] at H
       have c6b0 : decide (x14_1 < (l1.length : Int)) = true := decide_eq_true c6; clear c6; replace H := Option.bind_eq_some_iff.mp H; obtain ⟨t216, A70, H⟩ := H; replace H : (if t216 = 0 then ((size_short.f ((rd_T53 l1 x14_1).f0) ((rd_T53 l1 x14_1).f1)).bind fun t217 => (if t217 = true then (size_check.l0 k1 l1 (l1.length : Int) (wrap64 (x14_1 + 1))) else (none))) else (none)) = some r := H; have A7 := AS A70; clear A70
       by_cases c8 : t216 = 0
       ·rw [if_pos c8] at H
        have c8b0 : (t216 == 0) = true := beq_iff_eq.mpr c8; have c8b1 : (t216 != 0) = false := bne_eq_false_iff_eq.mpr c8; clear c8; replace H := Option.bind_eq_some_iff.mp H; obtain ⟨t217, A90, H⟩ := H; replace H : (if t217 = true then (size_check.l0 k1 l1 (l1.length : Int) (wrap64 (x14_1 + 1))) else (none)) = some r := H; have A9 := AS A90; clear A90
        by_cases c10 : t217 = true
        ·subst c10
         rw [if_pos rfl] at H
         have H' := AS H; clear H; have p214 : 0 ≤ (x14_1 : Int) := of_decide_eq_true Z2; have q214 : x14_1 < (l1.length : Int) := of_decide_eq_true Z2; obtain ⟨ad214, e214, hx214_0, hx214_1⟩ := at_T53 HR1.out x14_1 p214 q214; cases e214; replace hx214_0 := (HB.out.cell (World.block_lt_of_cell? w _ hx214_0)).trans hx214_0; replace hx214_1 := (HB.out.cell (World.block_lt_of_cell? w _ hx214_1)).trans hx214_1; replace p214 := eq_true p214; replace q214 := eq_true q214; go_wp2_with (first | ((with_reducible refine gtd (N := 6) rfl ?_); refine bxe ?hg (N := 6) ?hd (cs := #[.string (⟨#[]⟩ : ByteArray), .string (⟨#[]⟩ : ByteArray)]) (t := 53) ?hr ?_; (case hd => rfl); (case hg => rfl); (case hr => exact Z11); intro gb215 hg w11 hbox hb; have BK215 := AS (hbox); have GW215 := AS ((Z183 : w.heap.size ≤ gb215)); have GE215 := AS ((Z183 : w.heap.size ≤ gb215)); replace HB := AS (bst Z0 hb); clear hb hbox hg; have hcz12_0 := bc0 BK215.out; have hcz12_1 := bc1 BK215.out; have hfz12_0 := bfz BK215.out 0; have hfz12_1 := bfz BK215.out 1) | ((with_reducible refine gtc (f := 67) rfl ?_); refine gsL (some 19) rfl rfl Tryz.func67 Z5 rfl #[.agg #[.string ((rd_T53 l1 x14_1).f0), .string ((rd_T53 l1 x14_1).f1)]] rfl Z1 ?_; (with_reducible refine (frCk.calls k1 ((rd_T53 l1 x14_1).f0) ((rd_T53 l1 x14_1).f1) t216 _ ?side1 A7.out).mono ?_); (case side1 => exact GL.below hG Z68); rintro e w13 ⟨rfl, hb⟩; refine ⟨_, rfl, ?_⟩; replace BK215 := AS (bbl (g := gb215) (o := .cells #[.string ((rd_T53 l1 x14_1).f0), .string ((rd_T53 l1 x14_1).f1)] 53 (0, 0)) (by (with_reducible repeat (first | apply bdn | apply bdr | apply bal)); refine bpt (cs := #[.string ((rd_T53 l1 x14_1).f0), .string (⟨#[]⟩ : ByteArray)]) ?_ 1 _ rfl; (with_reducible repeat (first | apply bdn | apply bdr | apply bal)); refine bpt (cs := #[.string (⟨#[]⟩ : ByteArray), .string (⟨#[]⟩ : ByteArray)]) ?_ 0 _ rfl; (with_reducible repeat (first | apply bdn | apply bdr | apply bal)); exact BK215.out) hb); replace HB := AS (bst Z68 hb); (try clear hb); (try clear hb2); (try clear hk); (try clear hi); have hcz14_0 := bc0 BK215.out; have hcz14_1 := bc1 BK215.out; have hfz14_0 := bfz BK215.out 0; have hfz14_1 := bfz BK215.out 1) | ((with_reducible refine gtc (f := 208) rfl ?_); refine gsL (some 22) rfl rfl Tryz.func208 Z5 rfl #[.agg #[.string ((rd_T53 l1 x14_1).f0), .string ((rd_T53 l1 x14_1).f1)]] rfl Z1 ?_; (with_reducible refine (size_short.calls ((rd_T53 l1 x14_1).f0) ((rd_T53 l1 x14_1).f1) true _ ?side1 A9.out).mono ?_); (case side1 => exact GL.below hG Z68); rintro e w15 ⟨rfl, hb⟩; refine ⟨_, rfl, ?_⟩; replace BK215 := AS (bbl (g := gb215) (o := .cells #[.string ((rd_T53 l1 x14_1).f0), .string ((rd_T53 l1 x14_1).f1)] 53 (0, 0)) (by (with_reducible repeat (first | apply bdn | apply bdr | apply bal)); exact BK215.out) hb); replace HB := AS (bst Z68 hb); (try clear hb); (try clear hb2); (try clear hk); (try clear hi)))
         go_roundg k1
         case measure => have := HK1.out; omega
         case rel => exact ⟨(wrap64 (x14_1 + 1)), Z4, H', ⟨Z88⟩, ⟨Z68⟩⟩
        ·replace c10 := Bool.eq_false_iff.mpr c10; subst c10
         rw [if_neg (show ¬ (false = true) by decide)] at H
         exact absurd H (by simp)
       ·rw [if_neg c8] at H
        exact absurd H (by simp)
      ·rw [if_neg c6] at H
       exact absurd H (by simp)
     ·rw [if_neg c5] at H
      exact absurd H (by simp)
    ·rw [if_neg c4] at H
     have c4b0 : decide (x14_1 < (l1.length : Int)) = false := decide_eq_false c4; clear c4; obtain rfl := Option.some.inj H; go_wp2; go_ret; exact ⟨Z3, Z0⟩
 ·rw [if_neg c3] at H
  exact absurd H (by simp)
def size_CheckAll.l0 : Nat → List Int → List (List (S53)) → Int → Int → Option (Int)
 | 0, _, _, _, _ => none
 | k + 1, x0, x14, x15, x16 => if x16 < x15 then (if 0 ≤ x16 then (if x16 < (x14.length : Int) then ((size_check.f k x0 (rd_L8 x14 x16)).bind fun t220 => (if t220 = 0 then (size_CheckAll.l0 k x0 x14 x15 (wrap64 (x16 + 1))) else (none))) else (none)) else (none)) else (some 0)
def size_CheckAll.f (k : Nat) (l0 : List Int) (l1 : List (List (S53))) : Option (Int) := (prCk.f k l0).bind fun t218 => (if t218 = 0 then (size_CheckAll.l0 k l0 l1 (l1.length : Int) 0) else (none))
set_option maxHeartbeats 8000000 in
set_option maxRecDepth 100000 in
theorem size_CheckAll.calls (k : Nat) (A0 : Option Addr) (c0 : Nat) (l0 : List Int) (A1 : Option Addr) (c1 : Nat) (l1 : List (List (S53))) (r : Int) (w : World) (hr0 : Kd.C (Kd.int .i64) w A0 l0.length l0) (hc0 : l0.length ≤ c0) (hr1 : Kd.C (Kd.slice 53 k53) w A1 l1.length l1) (hc1 : l1.length ≤ c1) (hG : GL w) (h : size_CheckAll.f k l0 l1 = some r) :
  Calls Tryz.prog 148 #[.slice A0 l0.length c0, .slice A1 l1.length c1] w fun e w' => e = .returned (.int .i64 r) ∧ Below w.heap.size w w' := by
 have HR0 := AS hr0; have HC0 := AS hc0; clear hr0 hc0; have HR1 := AS hr1; have HC1 := AS hc1; clear hr1 hc1; have HB := AS (Below.refl w.heap.size w); have H : ((prCk.f k l0).bind fun t218 => (if t218 = 0 then (size_CheckAll.l0 k l0 l1 (l1.length : Int) 0) else (none))) = some r := h; clear h; replace H := Option.bind_eq_some_iff.mp H; obtain ⟨t218, A30, H⟩ := H; replace H : (if t218 = 0 then (size_CheckAll.l0 k l0 l1 (l1.length : Int) 0) else (none)) = some r := H; have A3 := AS A30; clear A30
 by_cases c4 : t218 = 0
 ·rw [if_pos c4] at H
  have c4b0 : (t218 == 0) = true := beq_iff_eq.mpr c4; have c4b1 : (t218 != 0) = false := bne_eq_false_iff_eq.mpr c4; clear c4; have H' := AS H; clear H; go_enter Tryz.func148, Tryz.ntmps148; go_wp2_with (first | ((with_reducible refine gtc (f := 25) rfl ?_); refine gsL (some 10) rfl rfl Tryz.func25 Z5 rfl #[.slice A0 l0.length c0] rfl Z1 ?_; (with_reducible refine (prCk.calls k _ _ l0 t218 _ ?side1 ?side2 ?side3 A3.out).mono ?_); (case side1 => exact Z15); (case side2 => exact Z72); (case side3 => exact Z182); rintro e w' ⟨rfl, ⟨nd, rfl⟩⟩; refine ⟨_, rfl, ?_⟩))
  go_loopg [16] k (fun kq v16 w' => ∃ (x16_1 : Int), v16 = .int .i64 x16_1 ∧ Aside0 (size_CheckAll.l0 kq l0 l1 (l1.length : Int) x16_1 = some r) ∧ Aside0 (kq ≤ k) ∧ Aside0 (Below w.heap.size w w'))
  case atStart => exact ⟨(0), Z4, H', ⟨Nat.le_refl _⟩, ⟨Z0⟩⟩
  case round =>
   clear H'; (try clear c1); (try clear c2); (try clear p2); (try clear c4); (try clear c4b0); (try clear c4b1); obtain ⟨x16_1, rfl, HA, HK1, HB⟩ := hrel
   cases gk with
   | zero => exact absurd HA.out (by simp [size_CheckAll.l0])
   | succ k1 =>
    have H := HA.out; clear HA
    simp only [size_CheckAll.l0] at H
    by_cases c5 : x16_1 < (l1.length : Int)
    ·rw [if_pos c5] at H
     have c5b0 : decide (x16_1 < (l1.length : Int)) = true := decide_eq_true c5; clear c5
     by_cases c6 : 0 ≤ x16_1
     ·rw [if_pos c6] at H
      have c6b0 : decide (0 ≤ x16_1) = true := decide_eq_true c6; clear c6
      by_cases c7 : x16_1 < (l1.length : Int)
      ·rw [if_pos c7] at H
       have c7b0 : decide (x16_1 < (l1.length : Int)) = true := decide_eq_true c7; clear c7; replace H := Option.bind_eq_some_iff.mp H; obtain ⟨t220, A80, H⟩ := H; replace H : (if t220 = 0 then (size_CheckAll.l0 k1 l0 l1 (l1.length : Int) (wrap64 (x16_1 + 1))) else (none)) = some r := H; have A8 := AS A80; clear A80
       by_cases c9 : t220 = 0
       ·rw [if_pos c9] at H
        have c9b0 : (t220 == 0) = true := beq_iff_eq.mpr c9; have c9b1 : (t220 != 0) = false := bne_eq_false_iff_eq.mpr c9; clear c9; have H' := AS H; clear H; have p219 : 0 ≤ (x16_1 : Int) := of_decide_eq_true Z2; have q219 : x16_1 < (l1.length : Int) := of_decide_eq_true Z2; obtain ⟨ad219, A219_0, c219_0, e219, hx219_0, hl219_0, hi219_0⟩ := at_L8 HR1.out x16_1 p219 q219; cases e219; replace hx219_0 := (HB.out.cell (World.block_lt_of_cell? w _ hx219_0)).trans hx219_0; have HR219_0 := AS hi219_0; have HC219_0 := AS hl219_0; clear hi219_0 hl219_0; replace p219 := eq_true p219; replace q219 := eq_true q219; go_wp2_with (first | ((with_reducible refine gtc (f := 181) rfl ?_); refine gsL (some 22) rfl rfl Tryz.func181 Z5 rfl #[.slice A0 l0.length c0, .slice A219_0 (rd_L8 l1 x16_1).length c219_0] rfl Z1 ?_; (with_reducible refine (size_check.calls k1 _ _ l0 _ _ (rd_L8 l1 x16_1) t220 _ ?side1 ?side2 ?side3 ?side4 ?side5 A8.out).mono ?_); (case side1 => exact Z10); (case side2 => exact Z72); (case side3 => repeat (first | exact (Kd.C_below HR219_0.out HB.out) | (with_reducible refine Kd.C_alloc ?_ _) | (with_reducible refine Kd.C_drewN ?_ _) | (with_reducible refine Kd.C_drew ?_))); (case side4 => exact HC219_0.out); (case side5 => exact Z182); rintro e w10 ⟨rfl, hb⟩; refine ⟨_, rfl, ?_⟩; replace HB := AS (bst Z0 hb); (try clear hb); (try clear hb2); (try clear hk); (try clear hi)))
        go_roundg k1
        case measure => have := HK1.out; omega
        case rel => exact ⟨(wrap64 (x16_1 + 1)), Z4, H', ⟨Z88⟩, ⟨Z0⟩⟩
       ·rw [if_neg c9] at H
        exact absurd H (by simp)
      ·rw [if_neg c7] at H
       exact absurd H (by simp)
     ·rw [if_neg c6] at H
      exact absurd H (by simp)
    ·rw [if_neg c5] at H
     have c5b0 : decide (x16_1 < (l1.length : Int)) = false := decide_eq_false c5; clear c5; obtain rfl := Option.some.inj H; go_wp2; go_ret; exact ⟨Z3, Z0⟩
 ·rw [if_neg c4] at H
  exact absurd H (by simp)
def whole_join.f (a0 : Bool) (a1 : ByteArray) : Option (ByteArray) := if a0 = true then (if a1.toList = ([48] : List UInt8) then (some a1) else (if 1 + a1.size ≤ 9223372036854775807 then (some ((⟨#[45]⟩ : ByteArray) ++ a1)) else (none))) else (some a1)
set_option maxHeartbeats 8000000 in
set_option maxRecDepth 100000 in
theorem whole_join.calls (a0 : Bool) (a1 : ByteArray) (r : ByteArray) (w : World) (hG : GL w) (h : whole_join.f a0 a1 = some r) :
  Calls Tryz.prog 140 #[.bool a0, .string a1] w fun e w' => e = .returned (.string r) ∧ Drawn0 w w' := by
 have HB := AS (Below.refl w.heap.size w); have H : (if a0 = true then (if a1.toList = ([48] : List UInt8) then (some a1) else (if 1 + a1.size ≤ 9223372036854775807 then (some ((⟨#[45]⟩ : ByteArray) ++ a1)) else (none))) else (some a1)) = some r := h; clear h
 by_cases c3 : a0 = true
 ·subst c3
  rw [if_pos rfl] at H
  by_cases c4 : a1.toList = ([48] : List UInt8)
  ·rw [if_pos c4] at H
   have c4b0 : (a1.toList == ([48] : List UInt8)) = true := beq_iff_eq.mpr c4; have c4b1 : (a1.toList != ([48] : List UInt8)) = false := bne_eq_false_iff_eq.mpr c4; clear c4; obtain rfl := Option.some.inj H; go_enter Tryz.func140, Tryz.ntmps140; go_wp2; go_ret; exact ⟨Z4, Z13⟩
  ·rw [if_neg c4] at H
   have c4b0 : (a1.toList == ([48] : List UInt8)) = false := beq_eq_false_iff_ne.mpr c4; have c4b1 : (a1.toList != ([48] : List UInt8)) = true := bne_iff_ne.mpr c4
   by_cases c5 : 1 + a1.size ≤ 9223372036854775807
   ·rw [if_pos c5] at H
    have c5b0 := eq_true c5; have c5b1 : decide (1 + a1.size ≤ 9223372036854775807) = true := decide_eq_true c5; (try have c5b2 : (9223372036854775807 < 1 + a1.size) = False := eq_false (Nat.not_lt.2 c5)); obtain rfl := Option.some.inj H; go_enter Tryz.func140, Tryz.ntmps140; go_wp2; go_ret; exact ⟨Z4, Z13⟩
   ·rw [if_neg c5] at H
    exact absurd H (by simp)
 ·replace c3 := Bool.eq_false_iff.mpr c3; subst c3
  rw [if_neg (show ¬ (false = true) by decide)] at H
  obtain rfl := Option.some.inj H; go_enter Tryz.func140, Tryz.ntmps140; go_wp2; go_ret; exact ⟨Z4, Z13⟩

end Go.Proofs.YtkgkihichdcpmaaGreatDoor.H
