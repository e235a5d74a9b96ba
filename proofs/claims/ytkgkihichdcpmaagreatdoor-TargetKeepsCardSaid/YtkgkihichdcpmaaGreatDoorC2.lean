import Derived.Test.YtkgkihichdcpmaaGreatDoorC1
import Derived.Below
import Derived.Deep.Draws
import Derived.Deep.AppendLies
import Derived.Maps.AppendAt
import Derived.OwnWalk
import Derived.Laws.BytesArg
import Derived.Laws.MakeOwn
import Derived.Laws.OwnMore
import Derived.Deep.OwnRows
import Derived.Tactics
import Derived.Lib.ConvBytes
import Derived.Laws.Slices
import Derived.WalkKit
import Derived.KernelRfl
import Derived.RowKit3
import Derived.Deep.LoopGhost
import Derived.Deep.QuietTactic
import Derived.BigQuiet
import Derived.WideLaws
import Derived.Deep.DeepCutAuto
import Derived.Deep.CutBlock
import Derived.Deep.RegionHeld3
import Derived.Laws.Rows
import Derived.Lib.AppendStr
import Derived.ArgAppend
import Derived.Laws.IdiomCopy
import Derived.OrdersHeld
import Derived.Laws.BitsLemmas
import Derived.RowKit
import Derived.Lib.AtoiErrMem
import Derived.Shelf.Abstract
namespace Go.Proofs.YtkgkihichdcpmaaGreatDoor.H
open Go.RowKit Go.Proofs.YtkgkihichdcpmaaGreatDoorW.PrintWords Go.Proofs.YtkgkihichdcpmaaGreatDoorW.PrintLast Go.Proofs.YtkgkihichdcpmaaGreatDoorW.PrintMore
attribute [local go_sem] max2_int min2_int max_two min_two max_three min_three max_four min_four
set_option linter.unusedVariables false
set_option linter.unusedSimpArgs false
set_option maxHeartbeats 64000000
set_option maxRecDepth 100000
def errW : Option Int → Value
 | none => .nilIface
 | some c => .iface 0 (.int .i64 c)
theorem errW_none : errW none = .nilIface := rfl
theorem errW_some (c : Int) : errW (some c) = .iface 0 (.int .i64 c) := rfl
theorem info3 : (Tryz.prog.info? 3).map (fun i => (i.zero, i.size, i.bytes)) = some (some (.int .i64 0), 1, 8) := by kernel_rfl
theorem info51 : (Tryz.prog.info? 51).map (fun i => (i.zero, i.size, i.bytes)) = some (some (.string ⟨#[]⟩), 1, 16) := by kernel_rfl
theorem info53 : (Tryz.prog.info? 53).map (fun i => (i.zero, i.size, i.bytes)) = some (some (.agg #[(.string ⟨#[]⟩), (.string ⟨#[]⟩)]), 2, 32) := by kernel_rfl
theorem info109 : (Tryz.prog.info? 109).map (fun i => (i.zero, i.size, i.bytes)) = some (some (.int .u64 0), 1, 8) := by kernel_rfl
theorem info134 : (Tryz.prog.info? 134).map (fun i => (i.zero, i.size, i.bytes)) = some (some (.slice none 0 0), 1, 24) := by kernel_rfl
def rd_L3 (xs : List (List Int)) (i : Int) : (List Int) := xs.getD i.toNat ([] : List Int)
theorem at_L3 {w : World} {A : Option Addr} {n : Nat} {xs : List (List Int)} (h : Kd.C (Kd.slice 3 (Kd.int .i64)) w A n xs) (i : Int) (h0 : 0 ≤ i) (h1 : i < n) : ∃ ad A0 c0, A = some ad ∧ w.cell? (ad.add i.toNat) = some (.slice A0 (rd_L3 xs i).length c0) ∧ (rd_L3 xs i).length ≤ c0 ∧ (Kd.int .i64).C w A0 (rd_L3 xs i).length (rd_L3 xs i) := by
 obtain ⟨ad, c, e, _, hK, hc0⟩ := Kd.C_get h ([] : List Int) i h0 h1
 have hc : ∀ j u, c[j]? = some u → w.cell? (ad.add (i.toNat * 1 + j)) = some u := hc0
 obtain ⟨A0, c0, rfl, l0, g0⟩ := hK; exact ⟨ad, A0, c0, e, Z127, l0, g0⟩
structure S53 where
 f0 : ByteArray
 f1 : ByteArray
def z53 : S53 := ⟨(⟨#[]⟩ : ByteArray), (⟨#[]⟩ : ByteArray)⟩
def k53 : Kd S53 := Kd.iso (Kd.pair Kd.string Kd.string) (fun x : S53 => (x.f0, x.f1))
theorem k53_heap : Kd.Heap k53 := Kd.heap_iso _ (Kd.heap_pair Kd.heap_string Kd.heap_string)
theorem k53_open {w : World} {x : S53} {cs : List Value} (h : k53.K w x cs) : cs = [.string x.f0, .string x.f1] := by
 obtain ⟨_, _, rfl, rfl, rfl⟩ := h; exact rfl
theorem k53_openM {w : World} {base : Nat} {ok : Nat → Prop} {x : S53} {cs : List Value} (h : k53.M w base ok x cs) : cs = [.string x.f0, .string x.f1] := by
 obtain ⟨_, _, rfl, rfl, rfl⟩ := h; exact rfl
theorem k53_mkM (w : World) (base : Nat) (ok : Nat → Prop) (x : S53)  : k53.M w base ok x [.string x.f0, .string x.f1] := ⟨[.string x.f0], [.string x.f1], rfl, rfl, rfl⟩
def rd_T53 (xs : List S53) (i : Int) : S53 := xs.getD i.toNat z53
theorem at_T53 {w : World} {A : Option Addr} {n : Nat} {xs : List S53} (h : Kd.C k53 w A n xs) (i : Int) (h0 : 0 ≤ i) (h1 : i < n) : ∃ ad , A = some ad ∧ w.cell? (ad.add (i.toNat * 2)) = some (.string (rd_T53 xs i).f0) ∧ w.cell? ⟨(ad.add (i.toNat * 2)).block, (ad.add (i.toNat * 2)).off + 1, none⟩ = some (.string (rd_T53 xs i).f1) := by
 obtain ⟨ad, c, e, _, hK, hc0⟩ := Kd.C_get h z53 i h0 h1
 have hc : ∀ j u, c[j]? = some u → w.cell? (ad.add (i.toNat * 2 + j)) = some u := hc0
 obtain rfl := k53_open hK; exact ⟨ad, e, hc 0 _ rfl, Z162⟩
def rd_L8 (xs : List (List S53)) (i : Int) : (List S53) := xs.getD i.toNat ([] : List S53)
theorem at_L8 {w : World} {A : Option Addr} {n : Nat} {xs : List (List S53)} (h : Kd.C (Kd.slice 53 k53) w A n xs) (i : Int) (h0 : 0 ≤ i) (h1 : i < n) : ∃ ad A0 c0, A = some ad ∧ w.cell? (ad.add i.toNat) = some (.slice A0 (rd_L8 xs i).length c0) ∧ (rd_L8 xs i).length ≤ c0 ∧ k53.C w A0 (rd_L8 xs i).length (rd_L8 xs i) := by
 obtain ⟨ad, c, e, _, hK, hc0⟩ := Kd.C_get h ([] : List S53) i h0 h1
 have hc : ∀ j u, c[j]? = some u → w.cell? (ad.add (i.toNat * 1 + j)) = some u := hc0
 obtain ⟨A0, c0, rfl, l0, g0⟩ := hK; exact ⟨ad, A0, c0, e, Z127, l0, g0⟩
theorem eqA53 (d : Nat) (w : World) (x0 y0 : ByteArray) (x1 y1 : ByteArray) :
  (Op.equalIn (d + 2) 53 (.agg #[.string x0, .string x1]) (.agg #[.string y0, .string y1])).run Tryz.prog w = .ok (x0.toList == y0.toList && (x1.toList == y1.toList)) w := by
 refine eqA_of Tryz.underlying53 Z6 ?_; refine eqf_cons (by rfl) (by go_simp; rfl) (by go_simp; rfl) (by go_simp) ?_; exact eqf_last (by rfl) (by go_simp; rfl) (by go_simp; rfl) (by go_simp)

def slrv.l0 : Nat → List Int → Int → Int → Option (List Int)
 | 0, _, _, _ => none
 | k + 1, x0, x2, x3 => if x2 < x3 then (if 0 ≤ x3 then (if x3 < (x0.length : Int) then (if 0 ≤ x2 then (if x2 < (x0.length : Int) then (slrv.l0 k ((x0.set (x2 : Int).toNat (rd x0 x3)).set (x3 : Int).toNat (rd x0 x2)) (wrap64 (x2 + 1)) (wrap64 (x3 - 1))) else (none)) else (none)) else (none)) else (none)) else (some x0)
def slrv.f (k : Nat) (l0 : List Int) : Option (List Int) := slrv.l0 k l0 0 (wrap64 ((l0.length : Int) - 1))
def slrv.T3 : Bool × List (List Nat × List Nat) := (true, [([], []), ([], []), ([], []), ([], []), ([], []), ([], []), ([4, 5], [4, 5]), ([6], [6]), ([], []), ([], []), ([8, 9], [8, 9]), ([10], [10]), ([0, 1, 0, 1, 4, 5, 6, 7, 11], [0, 1]), ([12, 7, 0, 1, 4, 5, 6, 7, 11], [7, 12]), ([2, 3, 0, 1, 2, 3, 4, 5, 6, 7, 8, 9, 10, 11, 12, 13], [2, 3]), ([14, 11, 13, 0, 1, 2, 3, 4, 5, 6, 7, 8, 9, 10, 11, 12, 13], [11, 14])])
def slrv.B3 : List Nat := [0, 0, 0, 0, 0, 0, 48, 112, 0, 0, 768, 1792, 4083, 8179, 16383, 32767]
theorem slrv.tab3 : rtab .any (opsOf Tryz.f109 3) = slrv.T3 := by kernel_rfl
theorem slrv.bits3 : waitsOk slrv.T3.2 slrv.B3 = true := by kernel_rfl
theorem slrv.calls (k : Nat) (P0_ : Nat → Prop) (u9000_ : Value) (l0 : List Int) (r : List Int) (w0 w : World) (hB : Below w0.heap.size w0 w) (ho0 : Kd.R (Kd.int .u8) 5 w w0.heap.size P0_ u9000_ l0) (hG : GL w0) (h : slrv.f k l0 = some r) :
  Calls Tryz.prog 109 #[u9000_] w fun e w' => e = .returned (.tuple #[]) ∧ Kd.R (Kd.int .u8) 5 w' w0.heap.size (fun k_ => (P0_ k_ ∨ w.heap.size ≤ k_)) u9000_ r ∧ Below w0.heap.size w0 w' ∧ Kept w w' (fun k_ => P0_ k_) := by
 have HO0 := AS (show Kd.R (Kd.int .u8) 5 w w0.heap.size (fun k_ => (P0_ k_ ∨ w.heap.size ≤ k_)) u9000_ l0 from Kd.R_mono ho0 (fun k_ hk => (.inl hk))); have HK := AS (Kept.refl w (fun k_ => P0_ k_)); have HW0 := AS hB.size; have HB := AS hB; clear hB; have H : (slrv.l0 k l0 0 (wrap64 ((l0.length : Int) - 1))) = some r := h; clear h; have H' := AS H; clear H; obtain ⟨Ao2, co2, eo2⟩ := Kd.R_slice HO0.out; subst eo2; go_enter Tryz.func109, Tryz.ntmps109; go_wp2
 go_loopg [2, 3] k (fun kq v2 v3 w' => ∃ (x0_1 : List Int) (x2_1 : Int) (x3_1 : Int), v2 = .int .i64 x2_1 ∧ v3 = .int .i64 x3_1 ∧ Aside0 (slrv.l0 kq x0_1 x2_1 x3_1 = some r) ∧ Aside0 (kq ≤ k) ∧ Aside0 (Kd.R (Kd.int .u8) 5 w' w0.heap.size (fun k_ => (P0_ k_ ∨ w.heap.size ≤ k_)) (.slice Ao2 l0.length co2) x0_1) ∧ Aside0 (Kept w w' (fun k_ => P0_ k_)) ∧ Aside0 (Below w0.heap.size w0 w'))
 case atStart => exact ⟨(l0), (0), (wrap64 ((l0.length : Int) - 1)), Z4, Z4, H', ⟨Nat.le_refl _⟩, ⟨by (with_reducible repeat (first | apply Kd.R_alloc | apply Kd.R_drewN | apply Kd.R_drew)); exact HO0.out⟩, ⟨Z132⟩, ⟨Z0⟩⟩
 case round =>
  clear H'; (try clear c1); (try clear p2); obtain ⟨x0_1, x2_1, x3_1, rfl, rfl, HA, HK1, HO_0, HK, HB⟩ := hrel; have hl0_1 := (Kd.R_reads' HO_0.out).1; rw [hl0_1] at HO_0
  (try simp only [hl0_1])
  cases gk with
  | zero => exact absurd HA.out (by simp [slrv.l0])
  | succ k1 =>
   have H := HA.out; clear HA
   simp only [slrv.l0] at H
   by_cases c3 : x2_1 < x3_1
   ·rw [if_pos c3] at H
    have c3b0 : decide (x2_1 < x3_1) = true := dqt c3; clear c3
    by_cases c4 : 0 ≤ x3_1
    ·rw [if_pos c4] at H
     have c4b0 : decide (0 ≤ x3_1) = true := dqt c4; clear c4
     by_cases c5 : x3_1 < (x0_1.length : Int)
     ·rw [if_pos c5] at H
      have c5b0 : decide (x3_1 < (x0_1.length : Int)) = true := dqt c5; have c5r0 := c5b0
      (try simp only [hl0_1] at c5r0)
      clear c5
      by_cases c6 : 0 ≤ x2_1
      ·rw [if_pos c6] at H
       have c6b0 : decide (0 ≤ x2_1) = true := dqt c6; clear c6
       by_cases c7 : x2_1 < (x0_1.length : Int)
       ·rw [if_pos c7] at H
        have c7b0 : decide (x2_1 < (x0_1.length : Int)) = true := dqt c7; have c7r0 := c7b0
        (try simp only [hl0_1] at c7r0)
        clear c7
        obtain ⟨y103, hy103⟩ : ∃ y_ : List Int, y_ = (x0_1.set (x2_1 : Int).toNat (rd x0_1 x3_1)) := ⟨_, rfl⟩
        replace H : (slrv.l0 k1 (y103.set (x3_1 : Int).toNat (rd x0_1 x2_1)) (wrap64 (x2_1 + 1)) (wrap64 (x3_1 - 1))) = some r := by first | (rw [hy103]; with_reducible exact H) | (have H2_ := (Option.bind_some _ _).symm.trans H; rw [hy103]; with_reducible exact H2_) | (have H2_ := (Option.bind_some _ _).symm.trans H; with_reducible exact H2_) | with_reducible exact H | (rw [hy103]; exact H) | exact H
        have Ny103 := AS hy103; clear hy103
        obtain ⟨y104, hy104⟩ : ∃ y_ : List Int, y_ = (y103.set (x3_1 : Int).toNat (rd x0_1 x2_1)) := ⟨_, rfl⟩
        replace H : (slrv.l0 k1 y104 (wrap64 (x2_1 + 1)) (wrap64 (x3_1 - 1))) = some r := by first | (rw [hy104]; with_reducible exact H) | (have H2_ := (Option.bind_some _ _).symm.trans H; rw [hy104]; with_reducible exact H2_) | (have H2_ := (Option.bind_some _ _).symm.trans H; with_reducible exact H2_) | with_reducible exact H | (rw [hy104]; exact H) | exact H
        have Ny104 := AS hy104; clear hy104; have H' := AS H; clear H; (try go_wp2); have n0_ := AS (Kd.R_drew HO_0.out); have n1_ := AS (Kept.drew HK.out); have n2_ := AS (bl1 HB.out); clear HO_0 HK HB; have HO_0 := n0_; have HK := n1_; have HB := n2_; clear n0_ n1_ n2_; have p101 : 0 ≤ (x3_1 : Int) := odt Z2; have q101 : x3_1 < (x0_1.length : Int) := odt Z2; obtain ⟨ad101, e101, hx101_0⟩ := Kd.at_int (Kd.R_reads' HO_0.out).2.2 x3_1 p101 q101; cases e101; replace p101 := eq_true p101; replace q101 := eq_true q101; have p102 : 0 ≤ (x2_1 : Int) := odt Z2; have q102 : x2_1 < (x0_1.length : Int) := odt Z2; obtain ⟨ad102, e102, hx102_0⟩ := Kd.at_int (Kd.R_reads' HO_0.out).2.2 x2_1 p102 q102; obtain rfl : ad101 = ad102 := (by injection e102); replace p102 := eq_true p102; replace q102 := eq_true q102; have p8 : 0 ≤ (x2_1 : Int) := odt Z2; have q8 : (x2_1 : Int) < ((x0_1.length : Int) : Int) := odt Z2; obtain ⟨go8, co8, eo8, gb8, gl8, cl8, HG8⟩ := Kd.R_form HO_0.out (by omega)
        (first | cases eo8 | (injection eo8 with ea_ en_ ec_; (first | subst ea_ | (injection ea_ with ea_; subst ea_)); subst ec_; clear en_))
        have GB8 := AS gb8; have GG8 := AS HG8; clear gb8 gl8 HG8; have HMgo8 := AS (show (P0_ go8 ∨ w.heap.size ≤ go8) from (HO_0.out.1 _ rfl))
        (first | simp only [add_plain] at hx101_0 | skip)
        (first | simp only [add_plain] at hx102_0 | skip)
        obtain ⟨hx8_0, hf8_0⟩ := Kd.R_celln 0 HO_0.out (x2_1 : Int) p8 q8; replace p8 := eq_true p8; replace q8 := eq_true q8; have HP11 := Kd.R_putn HO_0.out (x2_1 : Int) (rd x0_1 x3_1); rw [← Ny103.out] at HP11; have HQ11 := AS HP11; clear HP11; have p9 : 0 ≤ (x3_1 : Int) := odt Z2; have q9 : (x3_1 : Int) < ((x0_1.length : Int) : Int) := odt Z2; obtain ⟨hx9_0, hf9_0⟩ := Kd.R_celln 0 HQ11.out (x3_1 : Int) p9 q9; replace p9 := eq_true p9; replace q9 := eq_true q9; have HP12 := Kd.R_putn HQ11.out (x3_1 : Int) (rd x0_1 x2_1); rw [← Ny104.out] at HP12; have HQ12 := AS HP12; clear HP12
        refine start_ (n := 16) (S := fun w' => w'.cell? ⟨go8, (x3_1).toNat, none⟩ = some (.int .u8 (rd x0_1 x3_1)) ∧ w'.cell? ⟨go8, (x2_1).toNat, none⟩ = some (.int .u8 (rd x0_1 x2_1))) (ds := [13, 15]) #[false, false, false, false, false, false, false, false, false, false, false, false, false, false, false, false] Z6 rfl rfl ⟨hx101_0, hx102_0⟩ (fun hHeld => ?_); refine with_tabW slrv.tab3 slrv.bits3 (fun HT_ HW_ => ?_)
        generalize wr.drew = w10 at HO_0 HK HB GG8 HQ11 HQ12 hf8_0 hf9_0 hx101_0 hx102_0 hx8_0 hx9_0 hHeld ⊢; refine pure_ (i := 0) (N := some 14) (v := ?_) (a' := ?_) #[true, false, false, false, false, false, false, false, false, false, false, false, false, false, false, false] rfl rfl (any_of HT_.out Z6) (fun _ _ _ h => h) (Or.inl ⟨by rfl, ?_⟩) ?_ ?_; rotate_left
        ·intro w'; go_simp; with_reducible rfl
        rotate_left
        ·simp only [Act.put, sA1, sA2, sA3, i64_w, i32_w]; rfl
        refine pure_ (i := 1) (N := some 15) (v := ?_) (a' := ?_) #[true, true, false, false, false, false, false, false, false, false, false, false, false, false, false, false] rfl rfl (any_of HT_.out Z6) (fun _ _ _ h => h) (Or.inl ⟨by rfl, ?_⟩) ?_ ?_; rotate_left
        ·intro w'; go_simp; with_reducible rfl
        rotate_left
        ·simp only [Act.put, sA1, sA2, sA3, i64_w, i32_w]; rfl
        refine pure_ (i := 2) (N := some 16) (v := ?_) (a' := ?_) #[true, true, true, false, false, false, false, false, false, false, false, false, false, false, false, false] rfl rfl (any_of HT_.out Z6) (fun _ _ _ h => h) (Or.inl ⟨by rfl, ?_⟩) ?_ ?_; rotate_left
        ·intro w'; go_simp; with_reducible rfl
        rotate_left
        ·simp only [Act.put, sA1, sA2, sA3, i64_w, i32_w]; rfl
        refine pure_ (i := 3) (N := some 17) (v := ?_) (a' := ?_) #[true, true, true, true, false, false, false, false, false, false, false, false, false, false, false, false] rfl rfl (any_of HT_.out Z6) (fun _ _ _ h => h) (Or.inl ⟨by rfl, ?_⟩) ?_ ?_; rotate_left
        ·intro w'; go_simp; with_reducible rfl
        rotate_left
        ·simp only [Act.put, sA1, sA2, sA3, i64_w, i32_w]; rfl
        refine pure_ (i := 4) (N := some 18) (v := ?_) (a' := ?_) #[true, true, true, true, true, false, false, false, false, false, false, false, false, false, false, false] rfl rfl (any_of HT_.out Z6) (fun _ _ _ h => h) (Or.inl ⟨by rfl, ?_⟩) ?_ ?_; rotate_left
        ·intro w'; go_simp; with_reducible rfl
        rotate_left
        ·simp only [Act.put, sA1, sA2, sA3, i64_w, i32_w]; rfl
        refine pure_ (i := 5) (N := some 19) (v := ?_) (a' := ?_) #[true, true, true, true, true, true, false, false, false, false, false, false, false, false, false, false] rfl rfl (any_of HT_.out Z6) (fun _ _ _ h => h) (Or.inl ⟨by rfl, ?_⟩) ?_ ?_; rotate_left
        ·intro w'; go_simp; with_reducible rfl
        rotate_left
        ·simp only [Act.put, sA1, sA2, sA3, i64_w, i32_w]; rfl
        refine pure_ (i := 6) (N := some 20) (v := ?_) (a' := ?_) #[true, true, true, true, true, true, true, false, false, false, false, false, false, false, false, false] rfl rfl (any_of HT_.out Z6) (fun _ _ _ h => h) (Or.inl ⟨by rfl, ?_⟩) ?_ ?_; rotate_left
        ·intro w'; go_simp; with_reducible rfl
        rotate_left
        ·simp only [Act.put, sA1, sA2, sA3, i64_w, i32_w]; rfl
        refine pure_ (i := 8) (N := some 22) (v := ?_) (a' := ?_) #[true, true, true, true, true, true, true, false, true, false, false, false, false, false, false, false] rfl rfl (any_of HT_.out Z6) (fun _ _ _ h => h) (Or.inl ⟨by rfl, ?_⟩) ?_ ?_; rotate_left
        ·intro w'; go_simp; with_reducible rfl
        rotate_left
        ·simp only [Act.put, sA1, sA2, sA3, i64_w, i32_w]; rfl
        refine pure_ (i := 9) (N := some 23) (v := ?_) (a' := ?_) #[true, true, true, true, true, true, true, false, true, true, false, false, false, false, false, false] rfl rfl (any_of HT_.out Z6) (fun _ _ _ h => h) (Or.inl ⟨by rfl, ?_⟩) ?_ ?_; rotate_left
        ·intro w'; go_simp; with_reducible rfl
        rotate_left
        ·simp only [Act.put, sA1, sA2, sA3, i64_w, i32_w]; rfl
        refine pure_ (i := 10) (N := some 24) (v := ?_) (a' := ?_) #[true, true, true, true, true, true, true, false, true, true, true, false, false, false, false, false] rfl rfl (any_of HT_.out Z6) (fun _ _ _ h => h) (Or.inl ⟨by rfl, ?_⟩) ?_ ?_; rotate_left
        ·intro w'; go_simp; with_reducible rfl
        rotate_left
        ·simp only [Act.put, sA1, sA2, sA3, i64_w, i32_w]; rfl
        refine take_ (i := 7) (N := some 21) (v := ?_) (a' := ?_) #[true, true, true, true, true, true, true, true, true, true, true, false, false, false, false, false] rfl rfl (take_ofW HT_.out HW_.out Z6) (fun _ _ _ h => h) (Or.inl ⟨by rfl, ?_⟩) hHeld ?_ ?_; rotate_left
        ·rintro w' ⟨s0, s1⟩; go_simp; with_reducible rfl
        rotate_left
        ·simp only [Act.put, sA1, sA2, sA3, i64_w, i32_w]; rfl
        refine take_ (i := 11) (N := some 25) (v := ?_) (a' := ?_) #[true, true, true, true, true, true, true, true, true, true, true, true, false, false, false, false] rfl rfl (take_ofW HT_.out HW_.out Z6) (fun _ _ _ h => h) (Or.inl ⟨by rfl, ?_⟩) hHeld ?_ ?_; rotate_left
        ·rintro w' ⟨s0, s1⟩; go_simp; with_reducible rfl
        rotate_left
        ·simp only [Act.put, sA1, sA2, sA3, i64_w, i32_w]; rfl
        refine pure_ (i := 12) (N := some 26) (v := ?_) (a' := ?_) #[true, true, true, true, true, true, true, true, true, true, true, true, true, false, false, false] rfl rfl (any_of HT_.out Z6) (fun _ _ _ h => h) (Or.inl ⟨by rfl, ?_⟩) ?_ ?_; rotate_left
        ·intro w'; go_simp; with_reducible rfl
        rotate_left
        ·simp only [Act.put, sA1, sA2, sA3, i64_w, i32_w]; rfl
        refine last_ (i := 13) (N := none) #[true, true, true, true, true, true, true, true, true, true, true, true, true, true, false, false] rfl rfl (one_of HT_.out Z6) (by decide) (fun K hK => ?_); refine skip_ (w1 := ?_) (by rfl) rfl ?_ ?_; rotate_left
        ·go_simp; rfl
        refine hK.out _ _ ?_; clear hK K; refine pure_ (i := 14) (N := some 27) (v := ?_) (a' := ?_) #[true, true, true, true, true, true, true, true, true, true, true, true, true, true, true, false] rfl rfl (any_of HT_.out Z6) (fun _ _ _ h => h) (Or.inl ⟨by rfl, ?_⟩) ?_ ?_; rotate_left
        ·intro w'; go_simp; with_reducible rfl
        rotate_left
        ·simp only [Act.put, sA1, sA2, sA3, i64_w, i32_w]; rfl
        refine last_ (i := 15) (N := none) #[true, true, true, true, true, true, true, true, true, true, true, true, true, true, true, true] rfl rfl (one_of HT_.out Z6) (by decide) (fun K hK => ?_); refine skip_ (w1 := ?_) (by rfl) rfl ?_ ?_; rotate_left
        ·go_simp; rfl
        refine hK.out _ _ ?_; clear hK K; refine done_ (done_of HT_.out Z6) ?_; (try go_wp2)
        (try simp only [← hl0_1])
        go_roundg k1
        case measure => have := HK1.out; omega
        case rel => exact ⟨(y104), (wrap64 (x2_1 + 1)), (wrap64 (x3_1 - 1)), Z4, Z4, H', ⟨Z85⟩, ⟨by (try simp only [hl0_1]); (with_reducible repeat (first | apply Kd.R_alloc | apply Kd.R_drewN | apply Kd.R_drew)); exact HQ12.out⟩, ⟨by repeat (first | (with_reducible first | exact HK.out | apply Kept.alloc | apply Kept.drewN | apply Kept.drew | refine Kept.setCell ?_ HMgo8.out _ | refine Kept.setCell ?_ HMgo8.out _) | exact HK.out)⟩, ⟨by repeat (first | (with_reducible first | exact HB.out | apply bla | apply pbn | apply bl1 | refine bls ?_ GB8.out | refine bls ?_ GB8.out) | exact HB.out)⟩⟩
       ·rw [if_neg c7] at H
        exact absurd H (by simp)
      ·rw [if_neg c6] at H
       exact absurd H (by simp)
     ·rw [if_neg c5] at H
      exact absurd H (by simp)
    ·rw [if_neg c4] at H
     exact absurd H (by simp)
   ·rw [if_neg c3] at H
    have c3b0 : decide (x2_1 < x3_1) = false := decide_eq_false c3; clear c3; obtain rfl := Option.some.inj H; go_wp2
    first | go_end0 | ((try simp only [Exit.inBlock, Exit.then]); refine bodyPost_ret (results_none rfl _ _ _) rfl ?_)
    exact ⟨Z3, (by first | exact Z142 | (simp only [hl0_1]; exact Z142)), Z0, Z132⟩

def bits_Len.f (a0 : Int) : Option (Int) := if 0 ≤ a0 ∧ a0 ≤ 18446744073709551615 then some (Lib.bitLen a0.toNat) else none
theorem bits_Len.calls (a0 : Int) (r : Int) (w : World) (hG : GL w) (h : bits_Len.f a0 = some r) :
  Calls Tryz.prog 137 #[.int .u64 a0] w fun e w' => e = .returned (.int .i64 r) ∧ Below w.heap.size w w' := by
 unfold bits_Len.f at h
 by_cases c : 0 ≤ a0 ∧ a0 ≤ 18446744073709551615
 ·rw [if_pos c] at h; obtain rfl := Option.some.inj h; refine (Tryz.bits_Len a0 w c.1 c.2).mono ?_; rintro e w' ⟨rfl, rfl⟩; exact ⟨rfl, Below.refl _ _⟩
 ·rw [if_neg c] at h; cases h

def bits_Mul64.f (a0 : Int) (a1 : Int) : Option (Int × Int) := some (IntKind.u64.wrap ((IntKind.u64.wrap ((IntKind.u64.wrap ((a0 / 4294967296) * (a1 / 4294967296))) + ((IntKind.u64.wrap ((IntKind.u64.wrap ((a0 / 4294967296) * (Go.bits .and .u64 a1 4294967295))) + ((IntKind.u64.wrap ((Go.bits .and .u64 a0 4294967295) * (Go.bits .and .u64 a1 4294967295))) / 4294967296))) / 4294967296))) + ((IntKind.u64.wrap ((Go.bits .and .u64 (IntKind.u64.wrap ((IntKind.u64.wrap ((a0 / 4294967296) * (Go.bits .and .u64 a1 4294967295))) + ((IntKind.u64.wrap ((Go.bits .and .u64 a0 4294967295) * (Go.bits .and .u64 a1 4294967295))) / 4294967296))) 4294967295) + (IntKind.u64.wrap ((Go.bits .and .u64 a0 4294967295) * (a1 / 4294967296))))) / 4294967296)), IntKind.u64.wrap (a0 * a1))
theorem bits_Mul64.calls (a0 : Int) (a1 : Int) (r1 : Int) (r2 : Int) (w : World) (hG : GL w) (h : bits_Mul64.f a0 a1 = some (r1, r2)) :
  Calls Tryz.prog 224 #[.int .u64 a0, .int .u64 a1] w fun e w' => e = .returned (.tuple #[.int .u64 r1, .int .u64 r2]) ∧ Drawn0 w w' := by
 have HB := AS (blr w); have H : (some (IntKind.u64.wrap ((IntKind.u64.wrap ((IntKind.u64.wrap ((a0 / 4294967296) * (a1 / 4294967296))) + ((IntKind.u64.wrap ((IntKind.u64.wrap ((a0 / 4294967296) * (Go.bits .and .u64 a1 4294967295))) + ((IntKind.u64.wrap ((Go.bits .and .u64 a0 4294967295) * (Go.bits .and .u64 a1 4294967295))) / 4294967296))) / 4294967296))) + ((IntKind.u64.wrap ((Go.bits .and .u64 (IntKind.u64.wrap ((IntKind.u64.wrap ((a0 / 4294967296) * (Go.bits .and .u64 a1 4294967295))) + ((IntKind.u64.wrap ((Go.bits .and .u64 a0 4294967295) * (Go.bits .and .u64 a1 4294967295))) / 4294967296))) 4294967295) + (IntKind.u64.wrap ((Go.bits .and .u64 a0 4294967295) * (a1 / 4294967296))))) / 4294967296)), IntKind.u64.wrap (a0 * a1))) = some (r1, r2) := h; clear h
 simp only [Option.some.injEq, Prod.mk.injEq] at H
 obtain ⟨rfl, rfl⟩ := H; go_enter Tryz.func224, Tryz.ntmps224; go_wp2; go_ret2; exact ⟨Z4, Z11⟩
def size_fast.l0 : Nat → Int → Int → Int → Int → Option (Int × Bool)
 | 0, _, _, _, _ => none
 | k + 1, x5, x6, x7, x21 => if x21 < 26 then ((bits_Mul64.f x5 x5).bind fun bt106 => ((bits_Mul64.f x6 x6).bind fun bt108 => (if (Go.bits .or .u64 (IntKind.u64.wrap (bt106.1 * 4)) (bt106.2 / 4611686018427387904)) ≥ 9223372036854775808 then (size_fast.l0 k ((Go.bits .or .u64 (IntKind.u64.wrap (bt106.1 * 4)) (bt106.2 / 4611686018427387904)) / 2) (IntKind.u64.wrap (((IntKind.u64.wrap ((Go.bits .or .u64 (IntKind.u64.wrap (bt108.1 * 4)) (bt108.2 / 4611686018427387904)) + 1)) / 2) + 1)) (wrap64 ((wrap64 (x7 * 2)) + 1)) (wrap64 (x21 + 1))) else (if (IntKind.u64.wrap ((Go.bits .or .u64 (IntKind.u64.wrap (bt108.1 * 4)) (bt108.2 / 4611686018427387904)) + 1)) ≥ 9223372036854775808 then (some (0, false)) else (size_fast.l0 k (Go.bits .or .u64 (IntKind.u64.wrap (bt106.1 * 4)) (bt106.2 / 4611686018427387904)) (IntKind.u64.wrap ((Go.bits .or .u64 (IntKind.u64.wrap (bt108.1 * 4)) (bt108.2 / 4611686018427387904)) + 1)) (wrap64 (x7 * 2)) (wrap64 (x21 + 1))))))) else (some (x7, true))
def size_fast.f (k : Nat) (a0 : Int) : Option (Int × Bool) := (bits_Len.f (IntKind.u64.wrap (a0))).bind fun t105 => (if 0 ≤ (wrap64 (62 - (wrap64 (t105 - 1)))) then (size_fast.l0 k (shl .u64 (IntKind.u64.wrap (a0)) (wrap64 (62 - (wrap64 (t105 - 1))))) (shl .u64 (IntKind.u64.wrap (a0)) (wrap64 (62 - (wrap64 (t105 - 1))))) (wrap64 (t105 - 1)) 0) else (none))
theorem size_fast.calls (k : Nat) (a0 : Int) (r1 : Int) (r2 : Bool) (w : World) (hG : GL w) (h : size_fast.f k a0 = some (r1, r2)) :
  Calls Tryz.prog 212 #[.int .i64 a0] w fun e w' => e = .returned (.tuple #[.int .i64 r1, .bool r2]) ∧ Below w.heap.size w w' := by
 have HB := AS (blr w); have H : ((bits_Len.f (IntKind.u64.wrap (a0))).bind fun t105 => (if 0 ≤ (wrap64 (62 - (wrap64 (t105 - 1)))) then (size_fast.l0 k (shl .u64 (IntKind.u64.wrap (a0)) (wrap64 (62 - (wrap64 (t105 - 1))))) (shl .u64 (IntKind.u64.wrap (a0)) (wrap64 (62 - (wrap64 (t105 - 1))))) (wrap64 (t105 - 1)) 0) else (none))) = some (r1, r2) := h; clear h; replace H := bsm H; obtain ⟨t105, A20, H⟩ := H; replace H : (if 0 ≤ (wrap64 (62 - (wrap64 (t105 - 1)))) then (size_fast.l0 k (shl .u64 (IntKind.u64.wrap (a0)) (wrap64 (62 - (wrap64 (t105 - 1))))) (shl .u64 (IntKind.u64.wrap (a0)) (wrap64 (62 - (wrap64 (t105 - 1))))) (wrap64 (t105 - 1)) 0) else (none)) = some (r1, r2) := H; have A2 := AS A20; clear A20
 obtain ⟨ji3, hji3⟩ : ∃ j_ : Int, (wrap64 (62 - (wrap64 (t105 - 1)))) = j_ := ⟨_, rfl⟩
 replace H : (if 0 ≤ (ji3) then (size_fast.l0 k (shl .u64 (IntKind.u64.wrap (a0)) (ji3)) (shl .u64 (IntKind.u64.wrap (a0)) (ji3)) (wrap64 (t105 - 1)) 0) else (none)) = some (r1, r2) := by first | (rw [hji3] at H; exact H) | (simp only [hji3] at H ⊢; exact H)
 (try rw [hji3] at A2)
 have hji3w : (IntKind.i64.wrap (62 - (wrap64 (t105 - 1)))) = ji3 := (i64_w _).trans hji3
 by_cases c4 : 0 ≤ (ji3)
 ·rw [if_pos c4] at H
  have c4b0 := eq_true c4; have c4b1 : decide (0 ≤ (ji3)) = true := dqt c4; clear c4
  obtain ⟨ji5, hji5⟩ : ∃ j_ : Int, (shl .u64 (IntKind.u64.wrap (a0)) (ji3)) = j_ := ⟨_, rfl⟩
  replace H : (size_fast.l0 k ji5 ji5 (wrap64 (t105 - 1)) 0) = some (r1, r2) := by first | (rw [hji5] at H; exact H) | (simp only [hji5] at H ⊢; exact H)
  (try rw [hji5] at A2)
  have hji5_ : (IntKind.u64.wrap ((IntKind.u64.wrap (a0)) * 2 ^ min (ji3).toNat 64)) = ji5 := hji5; have hji5z : (ji3) ≤ 64 → (IntKind.u64.wrap ((IntKind.u64.wrap (a0)) * 2 ^ (ji3).toNat)) = ji5 := shl_small hji5; have H' := AS H; clear H; go_enter Tryz.func212, Tryz.ntmps212; go_wp2_with (first | ((with_reducible refine gtc (f := 137) rfl ?_); refine gsL (some 12) rfl rfl Tryz.func137 Z6 rfl #[.int .u64 (IntKind.u64.wrap (a0))] rfl Z1 ?_; (with_reducible refine (bits_Len.calls (IntKind.u64.wrap (a0)) t105 _ ?side1 A2.out).mono ?_); (case side1 => exact Z168); rintro e w6 ⟨rfl, hb⟩; refine ⟨_, rfl, ?_⟩; replace HB := AS (bst Z0 hb); (try clear hb)))
  go_loopg [5, 6, 7, 21] k (fun kq v5 v6 v7 v21 w' => ∃ (x5_1 : Int) (x6_1 : Int) (x7_1 : Int) (x21_1 : Int), v5 = .int .u64 x5_1 ∧ v6 = .int .u64 x6_1 ∧ v7 = .int .i64 x7_1 ∧ v21 = .int .i64 x21_1 ∧ Aside0 (size_fast.l0 kq x5_1 x6_1 x7_1 x21_1 = some (r1, r2)) ∧ Aside0 (kq ≤ k) ∧ Aside0 (Below w.heap.size w w'))
  case atStart => exact ⟨(ji5), (ji5), (wrap64 (t105 - 1)), (0), Z150, Z150, Z4, Z4, H', ⟨Nat.le_refl _⟩, ⟨Z0⟩⟩
  case round =>
   clear H'; (try clear c1); (try clear c2); (try clear p2); (try clear c4); (try clear c4b0); (try clear c4b1); (try clear p6); obtain ⟨x5_1, x6_1, x7_1, x21_1, rfl, rfl, rfl, rfl, HA, HK1, HB⟩ := hrel
   cases gk with
   | zero => exact absurd HA.out (by simp [size_fast.l0])
   | succ k1 =>
    have H := HA.out; clear HA
    simp only [size_fast.l0] at H
    by_cases c7 : x21_1 < 26
    ·rw [if_pos c7] at H
     have c7b0 : decide (x21_1 < 26) = true := dqt c7; clear c7; replace H := bsm H; obtain ⟨⟨t106, t107⟩, A80, H⟩ := H; replace H : ((bits_Mul64.f x6_1 x6_1).bind fun bt108 => (if (Go.bits .or .u64 (IntKind.u64.wrap (t106 * 4)) (t107 / 4611686018427387904)) ≥ 9223372036854775808 then (size_fast.l0 k1 ((Go.bits .or .u64 (IntKind.u64.wrap (t106 * 4)) (t107 / 4611686018427387904)) / 2) (IntKind.u64.wrap (((IntKind.u64.wrap ((Go.bits .or .u64 (IntKind.u64.wrap (bt108.1 * 4)) (bt108.2 / 4611686018427387904)) + 1)) / 2) + 1)) (wrap64 ((wrap64 (x7_1 * 2)) + 1)) (wrap64 (x21_1 + 1))) else (if (IntKind.u64.wrap ((Go.bits .or .u64 (IntKind.u64.wrap (bt108.1 * 4)) (bt108.2 / 4611686018427387904)) + 1)) ≥ 9223372036854775808 then (some (0, false)) else (size_fast.l0 k1 (Go.bits .or .u64 (IntKind.u64.wrap (t106 * 4)) (t107 / 4611686018427387904)) (IntKind.u64.wrap ((Go.bits .or .u64 (IntKind.u64.wrap (bt108.1 * 4)) (bt108.2 / 4611686018427387904)) + 1)) (wrap64 (x7_1 * 2)) (wrap64 (x21_1 + 1)))))) = some (r1, r2) := H; have A8 := AS A80; clear A80; replace H := bsm H; obtain ⟨⟨t108, t109⟩, A90, H⟩ := H; replace H : (if (Go.bits .or .u64 (IntKind.u64.wrap (t106 * 4)) (t107 / 4611686018427387904)) ≥ 9223372036854775808 then (size_fast.l0 k1 ((Go.bits .or .u64 (IntKind.u64.wrap (t106 * 4)) (t107 / 4611686018427387904)) / 2) (IntKind.u64.wrap (((IntKind.u64.wrap ((Go.bits .or .u64 (IntKind.u64.wrap (t108 * 4)) (t109 / 4611686018427387904)) + 1)) / 2) + 1)) (wrap64 ((wrap64 (x7_1 * 2)) + 1)) (wrap64 (x21_1 + 1))) else (if (IntKind.u64.wrap ((Go.bits .or .u64 (IntKind.u64.wrap (t108 * 4)) (t109 / 4611686018427387904)) + 1)) ≥ 9223372036854775808 then (some (0, false)) else (size_fast.l0 k1 (Go.bits .or .u64 (IntKind.u64.wrap (t106 * 4)) (t107 / 4611686018427387904)) (IntKind.u64.wrap ((Go.bits .or .u64 (IntKind.u64.wrap (t108 * 4)) (t109 / 4611686018427387904)) + 1)) (wrap64 (x7_1 * 2)) (wrap64 (x21_1 + 1))))) = some (r1, r2) := H; have A9 := AS A90; clear A90
     by_cases c10 : (Go.bits .or .u64 (IntKind.u64.wrap (t106 * 4)) (t107 / 4611686018427387904)) ≥ 9223372036854775808
     ·rw [if_pos c10] at H
      have c10b0 : decide (9223372036854775808 ≤ (Go.bits .or .u64 (IntKind.u64.wrap (t106 * 4)) (t107 / 4611686018427387904))) = true := dqt c10; clear c10; have H' := AS H; clear H; go_wp2_with (first | ((with_reducible refine gtc (f := 224) rfl ?_); refine gsL (some 26) rfl rfl Tryz.func224 Z6 rfl #[.int .u64 x5_1, .int .u64 x5_1] rfl Z1 ?_; (with_reducible refine (bits_Mul64.calls x5_1 x5_1 t106 t107 _ ?side1 A8.out).mono ?_); (case side1 => exact Z168); rintro e w' ⟨rfl, ⟨nd, rfl⟩⟩; refine ⟨_, rfl, ?_⟩) | ((with_reducible refine gtc (f := 224) rfl ?_); refine gsL (some 37) rfl rfl Tryz.func224 Z6 rfl #[.int .u64 x6_1, .int .u64 x6_1] rfl Z1 ?_; (with_reducible refine (bits_Mul64.calls x6_1 x6_1 t108 t109 _ ?side1 A9.out).mono ?_); (case side1 => exact Z168); rintro e w' ⟨rfl, ⟨nd, rfl⟩⟩; refine ⟨_, rfl, ?_⟩))
      go_roundg k1
      case measure => have := HK1.out; omega
      case rel => exact ⟨((Go.bits .or .u64 (IntKind.u64.wrap (t106 * 4)) (t107 / 4611686018427387904)) / 2), (IntKind.u64.wrap (((IntKind.u64.wrap ((Go.bits .or .u64 (IntKind.u64.wrap (t108 * 4)) (t109 / 4611686018427387904)) + 1)) / 2) + 1)), (wrap64 ((wrap64 (x7_1 * 2)) + 1)), (wrap64 (x21_1 + 1)), Z4, Z4, Z4, Z4, H', ⟨Z85⟩, ⟨Z0⟩⟩
     ·rw [if_neg c10] at H
      have c10b0 : decide (9223372036854775808 ≤ (Go.bits .or .u64 (IntKind.u64.wrap (t106 * 4)) (t107 / 4611686018427387904))) = false := decide_eq_false c10; clear c10
      by_cases c11 : (IntKind.u64.wrap ((Go.bits .or .u64 (IntKind.u64.wrap (t108 * 4)) (t109 / 4611686018427387904)) + 1)) ≥ 9223372036854775808
      ·rw [if_pos c11] at H
       have c11b0 : decide (9223372036854775808 ≤ (IntKind.u64.wrap ((Go.bits .or .u64 (IntKind.u64.wrap (t108 * 4)) (t109 / 4611686018427387904)) + 1))) = true := dqt c11; clear c11
       simp only [Option.some.injEq, Prod.mk.injEq] at H
       obtain ⟨rfl, rfl⟩ := H; go_wp2_with (first | ((with_reducible refine gtc (f := 224) rfl ?_); refine gsL (some 26) rfl rfl Tryz.func224 Z6 rfl #[.int .u64 x5_1, .int .u64 x5_1] rfl Z1 ?_; (with_reducible refine (bits_Mul64.calls x5_1 x5_1 t106 t107 _ ?side1 A8.out).mono ?_); (case side1 => exact Z168); rintro e w' ⟨rfl, ⟨nd, rfl⟩⟩; refine ⟨_, rfl, ?_⟩) | ((with_reducible refine gtc (f := 224) rfl ?_); refine gsL (some 37) rfl rfl Tryz.func224 Z6 rfl #[.int .u64 x6_1, .int .u64 x6_1] rfl Z1 ?_; (with_reducible refine (bits_Mul64.calls x6_1 x6_1 t108 t109 _ ?side1 A9.out).mono ?_); (case side1 => exact Z168); rintro e w' ⟨rfl, ⟨nd, rfl⟩⟩; refine ⟨_, rfl, ?_⟩)); go_ret2; exact ⟨Z115, Z0⟩
      ·rw [if_neg c11] at H
       have c11b0 : decide (9223372036854775808 ≤ (IntKind.u64.wrap ((Go.bits .or .u64 (IntKind.u64.wrap (t108 * 4)) (t109 / 4611686018427387904)) + 1))) = false := decide_eq_false c11; clear c11; have H' := AS H; clear H; go_wp2_with (first | ((with_reducible refine gtc (f := 224) rfl ?_); refine gsL (some 26) rfl rfl Tryz.func224 Z6 rfl #[.int .u64 x5_1, .int .u64 x5_1] rfl Z1 ?_; (with_reducible refine (bits_Mul64.calls x5_1 x5_1 t106 t107 _ ?side1 A8.out).mono ?_); (case side1 => exact Z168); rintro e w' ⟨rfl, ⟨nd, rfl⟩⟩; refine ⟨_, rfl, ?_⟩) | ((with_reducible refine gtc (f := 224) rfl ?_); refine gsL (some 37) rfl rfl Tryz.func224 Z6 rfl #[.int .u64 x6_1, .int .u64 x6_1] rfl Z1 ?_; (with_reducible refine (bits_Mul64.calls x6_1 x6_1 t108 t109 _ ?side1 A9.out).mono ?_); (case side1 => exact Z168); rintro e w' ⟨rfl, ⟨nd, rfl⟩⟩; refine ⟨_, rfl, ?_⟩))
       go_roundg k1
       case measure => have := HK1.out; omega
       case rel => exact ⟨(Go.bits .or .u64 (IntKind.u64.wrap (t106 * 4)) (t107 / 4611686018427387904)), (IntKind.u64.wrap ((Go.bits .or .u64 (IntKind.u64.wrap (t108 * 4)) (t109 / 4611686018427387904)) + 1)), (wrap64 (x7_1 * 2)), (wrap64 (x21_1 + 1)), Z4, Z4, Z4, Z4, H', ⟨Z85⟩, ⟨Z0⟩⟩
    ·rw [if_neg c7] at H
     have c7b0 : decide (x21_1 < 26) = false := decide_eq_false c7; clear c7
     simp only [Option.some.injEq, Prod.mk.injEq] at H
     obtain ⟨rfl, rfl⟩ := H; go_wp2; go_ret2; exact ⟨Z115, Z0⟩
 ·rw [if_neg c4] at H
  exact absurd H (by simp)

def allDig (s : ByteArray) : Bool := s.data.toList.all fun c => decide (48 ≤ c.toNat) && decide (c.toNat ≤ 57)
theorem bt_list (s : ByteArray) (k : Nat) (h : k < s.size) : bt s k = ((s.data.toList.getD k 0).toNat : Int) := by
 have h' : k < s.data.toList.length := by simpa using h
 unfold bt; rw [dif_pos (by simpa using h), List.getD_eq_getElem?_getD, List.getElem?_eq_getElem h']; simp; rfl
theorem allDig_iff (s : ByteArray) : allDig s = true ↔ ∀ k : Nat, k < s.size → 48 ≤ bt s k ∧ bt s k ≤ 57 := by
 unfold allDig; rw [List.all_eq_true]
 constructor
 ·intro h k hk
  have hk' : k < s.data.toList.length := by simpa using hk
  have := h _ (List.getElem_mem hk'); rw [bt_list s k hk, List.getD_eq_getElem?_getD, List.getElem?_eq_getElem hk']; simp only [Bool.and_eq_true, decide_eq_true_eq] at this; simp only [Option.getD_some]
  omega
 ·intro h c hc; obtain ⟨k, hk, rfl⟩ := List.getElem_of_mem hc; have := h k (by simpa using hk); rw [bt_list s k (by simpa using hk), List.getD_eq_getElem?_getD, List.getElem?_eq_getElem hk] at this; simp only [Option.getD_some] at this; simp only [Bool.and_eq_true, decide_eq_true_eq]
  omega
theorem ret_bool {a b : Bool} (h : a = b) : Ending.returned (.bool a) = .returned (.bool b) := by rw [h]
def decimal_Canonical.f (a0 : ByteArray) : Option (Bool) := if a0.size ≤ 1000000 then some (allDig a0 && (decide (a0.size = 1) || (decide (1 < a0.size) && decide (bt a0 0 ≠ 48)))) else none
theorem canon_walk (a0 : ByteArray) (r : Bool) (HR : Aside0 (r = (allDig a0 && (decide (a0.size = 1) || (decide (1 < a0.size) && decide (bt a0 0 ≠ 48)))))) (w : World) (hs : a0.size ≤ 1000000) :
  Calls Tryz.prog 144 #[.string a0] w fun e w' => e = .returned (.bool r) ∧ Below w.heap.size w w' := by
 have hcv := Lib.run_convert_string_bytes (P := Tryz.prog) w 51 143 5 a0 Tryz.underlying51 Tryz.underlying143 Tryz.underlying5
 have hcell : ∀ k : Nat, k < a0.size → (Lib.bytesWorld w 5 a0).cell? ⟨w.heap.size, k, none⟩ = some (.int .u8 (bt a0 k)) := fun k hk => by
  rw [bt_list a0 k hk]; exact Lib.bytesWorld_cell w 5 a0 k hk
 have hbel := Lib.bytesWorld_below w 5 a0
 obtain ⟨w1, hw1⟩ : ∃ w1, w1 = Lib.bytesWorld w 5 a0 := ⟨_, rfl⟩
 rw [← hw1] at hcv hcell hbel; clear hw1; have HC := AS hcell; have HB := AS hbel; clear hcell hbel; go_enter Tryz.func144, Tryz.ntmps144; go_wp2
 go_loop [8] (fun i => ∃ k : Nat, k ≤ a0.size ∧ i = .int .i64 k ∧ ∀ j : Nat, j < k → 48 ≤ bt a0 j ∧ bt a0 j ≤ 57) (fun i => a0.size - (intOf i).toNat)
 case atStart => exact ⟨0, Nat.zero_le _, rfl, fun j hj => absurd hj (by omega)⟩
 case round =>
  obtain ⟨k, hk, rfl, hall⟩ := hrel; have HA := AS hall; clear hall
  by_cases hlt : k < a0.size
  ·have hck := HC.out k hlt; have hr := bt_range a0 k
   obtain ⟨c, hc⟩ : ∃ c, c = bt a0 k := ⟨_, rfl⟩
   rw [← hc] at hck hr; have Hc := AS hc; clear hc; obtain ⟨hr0, hr1⟩ := hr
   by_cases hd : 48 ≤ c ∧ c ≤ 57
   ·obtain ⟨hd0, hd1⟩ := hd; go_wp2
    all_goals
     go_round
     case rel => exact ⟨k + 1, by omega, by go_num, fun j hj => by
      rcases Nat.lt_or_ge j k with h | h
      ·exact HA.out j h
      ·obtain rfl : j = k := by omega
       rw [← Hc.out]
       exact ⟨hd0, hd1⟩⟩
     case measure => simp [intOf]; omega
   ·have hno : allDig a0 = false := by
     rw [Bool.eq_false_iff]; intro h; exact hd (by rw [Hc.out]; exact (allDig_iff a0).mp h k hlt)
    have Hno := AS hno; clear hno
    by_cases hd0 : c < 48
    ·clear hd; go_wp2; go_ret; exact ⟨by rw [HR.out, Hno.out]; rfl, HB.out⟩
    ·have hd1 : 57 < c := by omega
     clear hd; go_wp2; go_ret; exact ⟨by rw [HR.out, Hno.out]; rfl, HB.out⟩
  ·obtain rfl : k = a0.size := by omega
   have hyes : allDig a0 = true := (allDig_iff a0).mpr HA.out; have Hyes := AS hyes; clear hyes; clear hk HA HC; go_wp2
   ·rename_i h1 _
    go_ret; refine ⟨ret_bool ?_, HB.out⟩; rw [HR.out, Hyes.out]
    have : a0.size = 1 := by omega
    simp [this]
   ·rename_i h1 h2 _ h3
    go_ret; refine ⟨ret_bool ?_, HB.out⟩; rw [HR.out, Hyes.out]
    have e1 : ¬ a0.size = 1 := by omega
    have e2 : 1 < a0.size := by omega
    have e3 : bt a0 0 = (a0[0].toNat : Int) := by unfold bt; rw [dif_pos (show (0 : Int).toNat < a0.size from by simpa using h3)]; rfl
    rw [e3]
    have e4 : ((a0.size : Int) == 1) = false := by rw [beq_eq_false_iff_ne]; omega
    rw [e4]; simp only [e1, e2, decide_false, decide_true, Bool.false_or, Bool.true_and]
    by_cases e5 : (a0[0].toNat : Int) = 48
    ·simp [e5]
    ·simp [e5]
   ·rename_i h1 _ h2
    go_ret; refine ⟨ret_bool ?_, HB.out⟩; rw [HR.out, Hyes.out]
    have e1 : ¬ a0.size = 1 := by omega
    have e2 : ¬ 1 < a0.size := by omega
    have e4 : ((a0.size : Int) == 1) = false := by rw [beq_eq_false_iff_ne]; omega
    rw [e4]; simp [e1, e2]
theorem decimal_Canonical.calls (a0 : ByteArray) (r : Bool) (w : World) (hG : GL w) (h : decimal_Canonical.f a0 = some r) :
  Calls Tryz.prog 144 #[.string a0] w fun e w' => e = .returned (.bool r) ∧ Below w.heap.size w w' := by
 unfold decimal_Canonical.f at h
 by_cases c : a0.size ≤ 1000000
 ·rw [if_pos c] at h; obtain rfl := Option.some.inj h; exact canon_walk a0 _ ⟨rfl⟩ w c
 ·rw [if_neg c] at h; cases h

section
open Go.Shelf
def row_IsZero.f (l0 : List Int) : Option (Bool) := some (l0.all fun n => decide (n = 0))
theorem row_IsZero.calls (A0 : Option Addr) (c0 : Nat) (l0 : List Int) (r : Bool) (w : World) (hr0 : Kd.C (Kd.int .i64) w A0 l0.length l0) (hc0 : l0.length ≤ c0) (hG : GL w) (h : row_IsZero.f l0 = some r) :
  Calls Tryz.prog 40 #[.slice A0 l0.length c0] w fun e w' => e = .returned (.bool r) ∧ Below w.heap.size w w' := by
 unfold row_IsZero.f at h; obtain rfl := Option.some.inj h
 have hp : PredI 76 #[] (fun n => !decide (n = 0)) w := fun W x _ => by
  by_cases hx : x = 0
  ·subst hx; go_enter Tryz.func76, Tryz.ntmps76; go_wp2; go_ret; exact ⟨rfl, 0, rfl⟩
  ·have h1 : (x != 0) = true := bnt hx; go_enter Tryz.func76, Tryz.ntmps76; go_wp2; go_ret; exact ⟨ret_bool (by simp [hx]), 0, rfl⟩
 have hc := AS (containsFunc_row 76 #[] _ A0 c0 l0 w (enters_of Tryz.func76 Z6 rfl) hp hr0); have he : Aside0 ((!(l0.any fun n => !decide (n = 0))) = l0.all fun n => decide (n = 0)) := ⟨by rw [List.all_eq_not_any_not]⟩; clear hp hr0 h hG; go_enter Tryz.func40, Tryz.ntmps40; go_wp2_with (go_at_call 75; refine (hc.out).mono ?_; rintro e w' ⟨rfl, q, rfl⟩); go_ret; exact ⟨ret_bool he.out, below_drewN' _ _⟩
end

mutual
def prIP.j0 : Nat → Int → Bool → Option (Bool)
 | 0, _, _ => none
 | k + 1, x0, x9 => if x9 = true then (some false) else (prIP.l0 k x0 2)
def prIP.l0 : Nat → Int → Int → Option (Bool)
 | 0, _, _ => none
 | k + 1, x0, x3 => if (wrap64 (x3 * x3)) ≤ x0 then (if x3 = 0 then (none) else (if (Int.tmod x0 x3) = 0 then (some false) else (prIP.l0 k x0 (wrap64 (x3 + 1))))) else (some true)
end
def prIP.f (k : Nat) (a0 : Int) : Option (Bool) := if a0 < 2 then (prIP.j0 k a0 true) else (prIP.j0 k a0 (decide (a0 > 97)))
theorem prIP.mono_l : ∀ k, (∀ y0 y1, LeO (prIP.j0 k y0 y1) (prIP.j0 (k + 1) y0 y1)) ∧ (∀ y0 y1, LeO (prIP.l0 k y0 y1) (prIP.l0 (k + 1) y0 y1))
 | 0 => ⟨fun _ _ r h => by simp [prIP.j0] at h, fun _ _ r h => by simp [prIP.l0] at h⟩
 | k + 1 => by
  obtain ⟨ih0, ih1⟩ := prIP.mono_l k; refine ⟨?_, ?_⟩
  ·intro y0 y1; unfold prIP.j0
   repeat' (with_reducible first | exact ih0 _ _ | exact ih1 _ _ | exact LeO.refl _ | exact LeO.none _ | refine LeO.ite ?_ ?_ | refine LeO.bind ?_ (fun _ => ?_))
  ·intro y0 y1; unfold prIP.l0
   repeat' (with_reducible first | exact ih0 _ _ | exact ih1 _ _ | exact LeO.refl _ | exact LeO.none _ | refine LeO.ite ?_ ?_ | refine LeO.bind ?_ (fun _ => ?_))
theorem prIP.mono : ∀ a0 k, LeO (prIP.f k a0) (prIP.f (k + 1) a0) := by
 intro a0 k; obtain ⟨ih0, ih1⟩ := prIP.mono_l k; unfold prIP.f
 repeat' (with_reducible first | exact ih0 _ _ | exact ih1 _ _ | exact LeO.refl _ | exact LeO.none _ | refine LeO.ite ?_ ?_ | refine LeO.bind ?_ (fun _ => ?_))
theorem prIP.calls (k : Nat) (a0 : Int) (r : Bool) (w : World) (hG : GL w) (h : prIP.f k a0 = some r) :
  Calls Tryz.prog 56 #[.int .i64 a0] w fun e w' => e = .returned (.bool r) ∧ Drawn0 w w' := by
 have HB := AS (blr w); have H : (if a0 < 2 then (prIP.j0 k a0 true) else (prIP.j0 k a0 (decide (a0 > 97)))) = some r := h; clear h; have HC2 := AS H; clear H; go_enter Tryz.func56, Tryz.ntmps56
 go_upto_region 1 with (fail)
 go_cut [9] (fun v9 wc => ∃ (kq : Nat) (x9_1 : Bool), v9 = .bool x9_1 ∧ Aside0 (prIP.j0 kq a0 x9_1 = some r) ∧ Aside0 (kq ≤ k) ∧ Drawn0 w wc)
 case first =>
  have H := HC2.out; clear HC2
  by_cases c3 : a0 < 2
  ·rw [if_pos c3] at H
   have c3b0 : decide (a0 < 2) = true := dqt c3; clear c3
   (first | rw [c3b0] | (simp only [i64_w, i32_w]; rw [c3b0]) | skip)
   have H' := AS H; clear H; go_wp2; go_meet
   case rel => exact ⟨_, (true), Z4, H', ⟨Z61⟩, Z11⟩
  ·rw [if_neg c3] at H
   have c3b0 : decide (a0 < 2) = false := decide_eq_false c3; clear c3
   (first | rw [c3b0] | (simp only [i64_w, i32_w]; rw [c3b0]) | skip)
   have H' := AS H; clear H; go_wp2; go_meet
   case rel => exact ⟨_, (decide (a0 > 97)), Z4, H', ⟨Z61⟩, Z11⟩
 case rest =>
  clear HC2; (try clear p2); (try clear c3); (try clear c3b0); obtain ⟨kq, x9_1, rfl, HA, HJ1, ⟨mc1, rfl⟩⟩ := hcut
  cases kq with
  | zero => exact absurd HA.out (by simp [prIP.j0])
  | succ kj1 =>
   have H := HA.out; clear HA
   simp only [prIP.j0] at H
   by_cases c4 : x9_1 = true
   ·subst c4
    rw [if_pos rfl] at H
    obtain rfl := Option.some.inj H; go_wp2; go_ret; exact ⟨Z4, Z11⟩
   ·replace c4 := Bool.eq_false_iff.mpr c4; subst c4
    rw [if_neg ffl] at H
    have H' := AS H; clear H; go_wp2
    go_loopg [3] kj1 (fun kq v3 w' => ∃ (x3_2 : Int), v3 = .int .i64 x3_2 ∧ Aside0 (prIP.l0 kq a0 x3_2 = some r) ∧ Aside0 (kq ≤ kj1) ∧ Drawn0 w w')
    case atStart => exact ⟨(2), Z4, H', ⟨Nat.le_refl _⟩, Z11⟩
    case round =>
     clear H'; (try clear c1); (try clear p2); (try clear c3); (try clear c3b0); (try clear c4); (try clear p2); obtain ⟨x3_2, rfl, HA, HK2, ⟨m2, rfl⟩⟩ := hrel
     cases gk with
     | zero => exact absurd HA.out (by simp [prIP.l0])
     | succ k2 =>
      have H := HA.out; clear HA
      simp only [prIP.l0] at H
      by_cases c5 : (wrap64 (x3_2 * x3_2)) ≤ a0
      ·rw [if_pos c5] at H
       have c5b0 : decide ((wrap64 (x3_2 * x3_2)) ≤ a0) = true := dqt c5; clear c5
       by_cases c6 : x3_2 = 0
       ·rw [if_pos c6] at H
        exact absurd H (by simp)
       ·rw [if_neg c6] at H
        have c6b0 : (x3_2 == 0) = false := bqf c6; have c6b1 : (x3_2 != 0) = true := bnt c6
        by_cases c7 : (Int.tmod a0 x3_2) = 0
        ·rw [if_pos c7] at H
         have c7b0 : ((Int.tmod a0 x3_2) == 0) = true := bqt c7; have c7b1 : ((Int.tmod a0 x3_2) != 0) = false := bnf c7; clear c7; obtain rfl := Option.some.inj H; go_wp2; go_ret; exact ⟨Z4, Z11⟩
        ·rw [if_neg c7] at H
         have c7b0 : ((Int.tmod a0 x3_2) == 0) = false := bqf c7; have c7b1 : ((Int.tmod a0 x3_2) != 0) = true := bnt c7; have H' := AS H; clear H; go_wp2
         go_roundg k2
         case measure => have := HJ1.out; have := HK2.out; omega
         case rel => exact ⟨(wrap64 (x3_2 + 1)), Z4, H', ⟨by have := HJ1.out; have := HK2.out; omega⟩, Z11⟩
      ·rw [if_neg c5] at H
       have c5b0 : decide ((wrap64 (x3_2 * x3_2)) ≤ a0) = false := decide_eq_false c5; clear c5; obtain rfl := Option.some.inj H; go_wp2; go_ret; exact ⟨Z4, Z11⟩
def prCk.l0 : Nat → List Int → List Int → Int → Int → Option (Int)
 | 0, _, _, _, _ => none
 | k + 1, x0, x13, x14, x15 => if x15 < x14 then (if 0 ≤ x15 then (if x15 < (x13.length : Int) then ((prIP.f k (rd x13 x15)).bind fun t111 => (if t111 = true then (if x15 > 0 then (if 0 ≤ (wrap64 (x15 - 1)) then (if (wrap64 (x15 - 1)) < (x0.length : Int) then (if (rd x13 x15) ≤ (rd x0 (wrap64 (x15 - 1))) then (none) else (prCk.l0 k x0 x13 x14 (wrap64 (x15 + 1)))) else (none)) else (none)) else (prCk.l0 k x0 x13 x14 (wrap64 (x15 + 1)))) else (none))) else (none)) else (none)) else (some 0)
def prCk.f (k : Nat) (l0 : List Int) : Option (Int) := if (l0.length : Int) = 0 then (none) else (if (l0.length : Int) > 6 then (none) else (prCk.l0 k l0 l0 (l0.length : Int) 0))
theorem prCk.mono_l : ∀ k, (∀ y0 y1 y2 y3, LeO (prCk.l0 k y0 y1 y2 y3) (prCk.l0 (k + 1) y0 y1 y2 y3))
 | 0 => fun _ _ _ _ r h => by simp [prCk.l0] at h
 | k + 1 => by
  have ih0 := prCk.mono_l k
  ·intro y0 y1 y2 y3; unfold prCk.l0
   repeat' (with_reducible first | exact ih0 _ _ _ _ | exact prIP.mono _ _ | exact LeO.refl _ | exact LeO.none _ | refine LeO.ite ?_ ?_ | refine LeO.bind ?_ (fun _ => ?_))
theorem prCk.mono : ∀ a0 k, LeO (prCk.f k a0) (prCk.f (k + 1) a0) := by
 intro a0 k; have ih0 := prCk.mono_l k; unfold prCk.f
 repeat' (with_reducible first | exact ih0 _ _ _ _ | exact prIP.mono _ _ | exact LeO.refl _ | exact LeO.none _ | refine LeO.ite ?_ ?_ | refine LeO.bind ?_ (fun _ => ?_))
theorem prCk.calls (k : Nat) (A0 : Option Addr) (c0 : Nat) (l0 : List Int) (r : Int) (w : World) (hr0 : Kd.C (Kd.int .i64) w A0 l0.length l0) (hc0 : l0.length ≤ c0) (hG : GL w) (h : prCk.f k l0 = some r) :
  Calls Tryz.prog 25 #[.slice A0 l0.length c0] w fun e w' => e = .returned (.int .i64 r) ∧ Drawn0 w w' := by
 have HR0 := AS hr0; have HC0 := AS hc0; clear hr0 hc0; have HB := AS (blr w); have H : (if (l0.length : Int) = 0 then (none) else (if (l0.length : Int) > 6 then (none) else (prCk.l0 k l0 l0 (l0.length : Int) 0))) = some r := h; clear h
 by_cases c2 : (l0.length : Int) = 0
 ·rw [if_pos c2] at H
  exact absurd H (by simp)
 ·rw [if_neg c2] at H
  have c2b0 : ((l0.length : Int) == 0) = false := bqf c2; have c2b1 : ((l0.length : Int) != 0) = true := bnt c2
  have c2b2 : ¬ (l0 = []) := fun h_ => c2 (by rw [h_]; rfl)
  by_cases c3 : (l0.length : Int) > 6
  ·rw [if_pos c3] at H
   exact absurd H (by simp)
  ·rw [if_neg c3] at H
   have c3b0 : decide (6 < (l0.length : Int)) = false := decide_eq_false c3; have c3b1 : decide (6 < l0.length) = false := decide_eq_false (by omega); clear c3; have H' := AS H; clear H; go_enter Tryz.func25, Tryz.ntmps25; go_wp2
   go_loopg [15] k (fun kq v15 w' => ∃ (x15_1 : Int), v15 = .int .i64 x15_1 ∧ Aside0 (prCk.l0 kq l0 l0 (l0.length : Int) x15_1 = some r) ∧ Aside0 (kq ≤ k) ∧ Drawn0 w w')
   case atStart => exact ⟨(0), Z4, H', ⟨Nat.le_refl _⟩, Z11⟩
   case round =>
    clear H'; (try clear c2); (try clear c2b0); (try clear c2b1); (try clear c2b2); (try clear p2); (try clear c3); (try clear c3b0); (try clear c3b1); obtain ⟨x15_1, rfl, HA, HK1, ⟨m1, rfl⟩⟩ := hrel
    cases gk with
    | zero => exact absurd HA.out (by simp [prCk.l0])
    | succ k1 =>
     have H := HA.out; clear HA
     simp only [prCk.l0] at H
     by_cases c4 : x15_1 < (l0.length : Int)
     ·rw [if_pos c4] at H
      have c4b0 : decide (x15_1 < (l0.length : Int)) = true := dqt c4; clear c4
      by_cases c5 : 0 ≤ x15_1
      ·rw [if_pos c5] at H
       have c5b0 : decide (0 ≤ x15_1) = true := dqt c5; clear c5
       by_cases c6 : x15_1 < (l0.length : Int)
       ·rw [if_pos c6] at H
        have c6b0 : decide (x15_1 < (l0.length : Int)) = true := dqt c6; clear c6; replace H := bsm H; obtain ⟨t111, A70, H⟩ := H; replace H : (if t111 = true then (if x15_1 > 0 then (if 0 ≤ (wrap64 (x15_1 - 1)) then (if (wrap64 (x15_1 - 1)) < (l0.length : Int) then (if (rd l0 x15_1) ≤ (rd l0 (wrap64 (x15_1 - 1))) then (none) else (prCk.l0 k1 l0 l0 (l0.length : Int) (wrap64 (x15_1 + 1)))) else (none)) else (none)) else (prCk.l0 k1 l0 l0 (l0.length : Int) (wrap64 (x15_1 + 1)))) else (none)) = some r := H; have A7 := AS A70; clear A70
        by_cases c8 : t111 = true
        ·subst c8
         rw [if_pos rfl] at H
         by_cases c9 : x15_1 > 0
         ·rw [if_pos c9] at H
          have c9b0 : decide (0 < x15_1) = true := dqt c9; clear c9
          obtain ⟨ji10, hji10⟩ : ∃ j_ : Int, (wrap64 (x15_1 - 1)) = j_ := ⟨_, rfl⟩
          replace H : (if 0 ≤ (ji10) then (if (ji10) < (l0.length : Int) then (if (rd l0 x15_1) ≤ (rd l0 (ji10)) then (none) else (prCk.l0 k1 l0 l0 (l0.length : Int) (wrap64 (x15_1 + 1)))) else (none)) else (none)) = some r := by first | (rw [hji10] at H; exact H) | (simp only [hji10] at H ⊢; exact H)
          (try rw [hji10] at A7)
          have hji10w : (IntKind.i64.wrap (x15_1 - 1)) = ji10 := (i64_w _).trans hji10
          by_cases c11 : 0 ≤ (ji10)
          ·rw [if_pos c11] at H
           have c11b0 : decide (0 ≤ (ji10)) = true := dqt c11; clear c11
           by_cases c12 : (ji10) < (l0.length : Int)
           ·rw [if_pos c12] at H
            have c12b0 : decide ((ji10) < (l0.length : Int)) = true := dqt c12; clear c12
            by_cases c13 : (rd l0 x15_1) ≤ (rd l0 (ji10))
            ·rw [if_pos c13] at H
             exact absurd H (by simp)
            ·rw [if_neg c13] at H
             have c13b0 : decide ((rd l0 x15_1) ≤ (rd l0 (ji10))) = false := decide_eq_false c13; clear c13; have H' := AS H; clear H; have p110 : 0 ≤ (x15_1 : Int) := odt Z2; have q110 : x15_1 < (l0.length : Int) := odt Z2; obtain ⟨ad110, e110, hx110_0⟩ := Kd.at_int HR0.out x15_1 p110 q110; cases e110; replace p110 := eq_true p110; replace q110 := eq_true q110; go_wp2_with (first | ((with_reducible refine gtc (f := 56) rfl ?_); refine gsL (some 21) rfl rfl Tryz.func56 Z6 rfl #[.int .i64 (rd l0 x15_1)] rfl Z1 ?_; (with_reducible refine (prIP.calls k1 (rd l0 x15_1) true _ ?side1 A7.out).mono ?_); (case side1 => exact Z168); rintro e w' ⟨rfl, ⟨nd, rfl⟩⟩; refine ⟨_, rfl, ?_⟩; have p112 : 0 ≤ ((ji10) : Int) := odt Z2; have q112 : (ji10) < (l0.length : Int) := odt Z2; obtain ⟨ad112, e112, hx112_0⟩ := Kd.at_int HR0.out (ji10) p112 q112; obtain rfl : ad110 = ad112 := (by injection e112); replace p112 := eq_true p112; replace q112 := eq_true q112))
             go_roundg k1
             case measure => have := HK1.out; omega
             case rel => exact ⟨(wrap64 (x15_1 + 1)), Z4, H', ⟨Z85⟩, Z11⟩
           ·rw [if_neg c12] at H
            exact absurd H (by simp)
          ·rw [if_neg c11] at H
           exact absurd H (by simp)
         ·rw [if_neg c9] at H
          have c9b0 : decide (0 < x15_1) = false := decide_eq_false c9; clear c9; have H' := AS H; clear H; have p110 : 0 ≤ (x15_1 : Int) := odt Z2; have q110 : x15_1 < (l0.length : Int) := odt Z2; obtain ⟨ad110, e110, hx110_0⟩ := Kd.at_int HR0.out x15_1 p110 q110; cases e110; replace p110 := eq_true p110; replace q110 := eq_true q110; go_wp2_with (first | ((with_reducible refine gtc (f := 56) rfl ?_); refine gsL (some 21) rfl rfl Tryz.func56 Z6 rfl #[.int .i64 (rd l0 x15_1)] rfl Z1 ?_; (with_reducible refine (prIP.calls k1 (rd l0 x15_1) true _ ?side1 A7.out).mono ?_); (case side1 => exact Z168); rintro e w' ⟨rfl, ⟨nd, rfl⟩⟩; refine ⟨_, rfl, ?_⟩))
          go_roundg k1
          case measure => have := HK1.out; omega
          case rel => exact ⟨(wrap64 (x15_1 + 1)), Z4, H', ⟨Z85⟩, Z11⟩
        ·replace c8 := Bool.eq_false_iff.mpr c8; subst c8
         rw [if_neg ffl] at H
         exact absurd H (by simp)
       ·rw [if_neg c6] at H
        exact absurd H (by simp)
      ·rw [if_neg c5] at H
       exact absurd H (by simp)
     ·rw [if_neg c4] at H
      have c4b0 : decide (x15_1 < (l0.length : Int)) = false := decide_eq_false c4; clear c4; obtain rfl := Option.some.inj H; go_wp2; go_ret; exact ⟨Z4, Z11⟩
mutual
def mzCA.l0 : Nat → List Int → List (List Int) → Int → Int → Option (Int)
 | 0, _, _, _, _ => none
 | k + 1, x0, x15, x16, x17 => if x17 < x16 then (if 0 ≤ x17 then (if x17 < (x15.length : Int) then (if ((rd_L3 x15 x17).length : Int) = (x0.length : Int) then (mzCA.l1 k x0 x15 x16 x17 (rd_L3 x15 x17) ((rd_L3 x15 x17).length : Int) 0) else (none)) else (none)) else (none)) else (some 0)
def mzCA.l1 : Nat → List Int → List (List Int) → Int → Int → List Int → Int → Int → Option (Int)
 | 0, _, _, _, _, _, _, _ => none
 | k + 1, x0, x15, x16, x17, x26, x27, x28 => if x28 < x27 then (if 0 ≤ x28 then (if x28 < (x26.length : Int) then (if (rd x26 x28) > 1000 then (none) else (if (rd x26 x28) < (-1000) then (none) else (mzCA.l1 k x0 x15 x16 x17 x26 x27 (wrap64 (x28 + 1))))) else (none)) else (none)) else (mzCA.l0 k x0 x15 x16 (wrap64 (x17 + 1)))
end
def mzCA.f (k : Nat) (l0 : List Int) (l1 : List (List Int)) : Option (Int) := (prCk.f k l0).bind fun t113 => (if t113 = 0 then (mzCA.l0 k l0 l1 (l1.length : Int) 0) else (none))
theorem mzCA.calls (k : Nat) (A0 : Option Addr) (c0 : Nat) (l0 : List Int) (A1 : Option Addr) (c1 : Nat) (l1 : List (List Int)) (r : Int) (w : World) (hr0 : Kd.C (Kd.int .i64) w A0 l0.length l0) (hc0 : l0.length ≤ c0) (hr1 : Kd.C (Kd.slice 3 (Kd.int .i64)) w A1 l1.length l1) (hc1 : l1.length ≤ c1) (hG : GL w) (h : mzCA.f k l0 l1 = some r) :
  Calls Tryz.prog 32 #[.slice A0 l0.length c0, .slice A1 l1.length c1] w fun e w' => e = .returned (.int .i64 r) ∧ Drawn0 w w' := by
 have HR0 := AS hr0; have HC0 := AS hc0; clear hr0 hc0; have HR1 := AS hr1; have HC1 := AS hc1; clear hr1 hc1; have HB := AS (blr w); have H : ((prCk.f k l0).bind fun t113 => (if t113 = 0 then (mzCA.l0 k l0 l1 (l1.length : Int) 0) else (none))) = some r := h; clear h; replace H := bsm H; obtain ⟨t113, A30, H⟩ := H; replace H : (if t113 = 0 then (mzCA.l0 k l0 l1 (l1.length : Int) 0) else (none)) = some r := H; have A3 := AS A30; clear A30
 by_cases c4 : t113 = 0
 ·rw [if_pos c4] at H
  have c4b0 : (t113 == 0) = true := bqt c4; have c4b1 : (t113 != 0) = false := bnf c4; clear c4; have H' := AS H; clear H; go_enter Tryz.func32, Tryz.ntmps32; go_wp2_with (first | ((with_reducible refine gtc (f := 25) rfl ?_); refine gsL (some 11) rfl rfl Tryz.func25 Z6 rfl #[.slice A0 l0.length c0] rfl Z1 ?_; (with_reducible refine (prCk.calls k _ _ l0 t113 _ ?side1 ?side2 ?side3 A3.out).mono ?_); (case side1 => exact Z15); (case side2 => exact Z81); (case side3 => exact Z168); rintro e w' ⟨rfl, ⟨nd, rfl⟩⟩; refine ⟨_, rfl, ?_⟩))
  go_loopg [17] k (fun kq v17 w' => ∃ (x17_1 : Int), v17 = .int .i64 x17_1 ∧ Aside0 (mzCA.l0 kq l0 l1 (l1.length : Int) x17_1 = some r) ∧ Aside0 (kq ≤ k) ∧ Drawn0 w w')
  case atStart => exact ⟨(0), Z4, H', ⟨Nat.le_refl _⟩, Z11⟩
  case round =>
   clear H'; (try clear c1); (try clear c2); (try clear p2); (try clear c3); (try clear c4); (try clear c4b0); (try clear c4b1); obtain ⟨x17_1, rfl, HA, HK1, ⟨m1, rfl⟩⟩ := hrel
   cases gk with
   | zero => exact absurd HA.out (by simp [mzCA.l0])
   | succ k1 =>
    have H := HA.out; clear HA
    simp only [mzCA.l0] at H
    by_cases c5 : x17_1 < (l1.length : Int)
    ·rw [if_pos c5] at H
     have c5b0 : decide (x17_1 < (l1.length : Int)) = true := dqt c5; clear c5
     by_cases c6 : 0 ≤ x17_1
     ·rw [if_pos c6] at H
      have c6b0 : decide (0 ≤ x17_1) = true := dqt c6; clear c6
      by_cases c7 : x17_1 < (l1.length : Int)
      ·rw [if_pos c7] at H
       have c7b0 : decide (x17_1 < (l1.length : Int)) = true := dqt c7; clear c7
       by_cases c8 : ((rd_L3 l1 x17_1).length : Int) = (l0.length : Int)
       ·rw [if_pos c8] at H
        have c8b0 : (((rd_L3 l1 x17_1).length : Int) == (l0.length : Int)) = true := bqt c8; have c8b1 : (((rd_L3 l1 x17_1).length : Int) != (l0.length : Int)) = false := bnf c8
        have c8b2 : ((rd_L3 l1 x17_1).length == l0.length) = true := by first | simpa using c8 | (simp at c8 ⊢; omega)
        clear c8; have H' := AS H; clear H; have p114 : 0 ≤ (x17_1 : Int) := odt Z2; have q114 : x17_1 < (l1.length : Int) := odt Z2; obtain ⟨ad114, A114_0, c114_0, e114, hx114_0, hl114_0, hi114_0⟩ := at_L3 HR1.out x17_1 p114 q114; cases e114; have HR114_0 := AS hi114_0; have HC114_0 := AS hl114_0; clear hi114_0 hl114_0; replace p114 := eq_true p114; replace q114 := eq_true q114; go_wp2
        go_loopg [28] k1 (fun kq v28 w' => ∃ (x28_2 : Int), v28 = .int .i64 x28_2 ∧ Aside0 (mzCA.l1 kq l0 l1 (l1.length : Int) x17_1 (rd_L3 l1 x17_1) ((rd_L3 l1 x17_1).length : Int) x28_2 = some r) ∧ Aside0 (kq ≤ k1) ∧ Drawn0 w w')
        case atStart => exact ⟨(0), Z4, H', ⟨Nat.le_refl _⟩, Z11⟩
        case round =>
         clear H'; (try clear c1); (try clear p1); (try clear q1); (try clear hx1); (try clear c2); (try clear p2); (try clear c3); (try clear c4); (try clear c4b0); (try clear c4b1); (try clear c5); (try clear c5b0); (try clear c6); (try clear c6b0); (try clear c7); (try clear c7b0); (try clear c8); (try clear c8b0); (try clear c8b1); (try clear c8b2); (try clear hx114_0); (try clear p114); (try clear p2); (try clear q114); obtain ⟨x28_2, rfl, HA, HK2, ⟨m2, rfl⟩⟩ := hrel
         cases gk with
         | zero => exact absurd HA.out (by simp [mzCA.l1])
         | succ k2 =>
          have H := HA.out; clear HA
          simp only [mzCA.l1] at H
          by_cases c9 : x28_2 < ((rd_L3 l1 x17_1).length : Int)
          ·rw [if_pos c9] at H
           have c9b0 : decide (x28_2 < ((rd_L3 l1 x17_1).length : Int)) = true := dqt c9; clear c9
           by_cases c10 : 0 ≤ x28_2
           ·rw [if_pos c10] at H
            have c10b0 : decide (0 ≤ x28_2) = true := dqt c10; clear c10
            by_cases c11 : x28_2 < ((rd_L3 l1 x17_1).length : Int)
            ·rw [if_pos c11] at H
             have c11b0 : decide (x28_2 < ((rd_L3 l1 x17_1).length : Int)) = true := dqt c11; clear c11
             by_cases c12 : (rd (rd_L3 l1 x17_1) x28_2) > 1000
             ·rw [if_pos c12] at H
              exact absurd H (by simp)
             ·rw [if_neg c12] at H
              have c12b0 : decide (1000 < (rd (rd_L3 l1 x17_1) x28_2)) = false := decide_eq_false c12; clear c12
              by_cases c13 : (rd (rd_L3 l1 x17_1) x28_2) < (-1000)
              ·rw [if_pos c13] at H
               exact absurd H (by simp)
              ·rw [if_neg c13] at H
               have c13b0 : decide ((rd (rd_L3 l1 x17_1) x28_2) < (-1000)) = false := decide_eq_false c13; clear c13; have H' := AS H; clear H; have p115 : 0 ≤ (x28_2 : Int) := odt Z2; have q115 : x28_2 < ((rd_L3 l1 x17_1).length : Int) := odt Z2; obtain ⟨ad115, e115, hx115_0⟩ := Kd.at_int HR114_0.out x28_2 p115 q115; cases e115; replace p115 := eq_true p115; replace q115 := eq_true q115; go_wp2
               go_roundg k2
               case measure => have := HK1.out; have := HK2.out; omega
               case rel => exact ⟨(wrap64 (x28_2 + 1)), Z4, H', ⟨Z131⟩, Z11⟩
            ·rw [if_neg c11] at H
             exact absurd H (by simp)
           ·rw [if_neg c10] at H
            exact absurd H (by simp)
          ·rw [if_neg c9] at H
           have c9b0 : decide (x28_2 < ((rd_L3 l1 x17_1).length : Int)) = false := decide_eq_false c9; clear c9; have H' := AS H; clear H; go_wp2
           go_roundg k2
           case measure => have := HK1.out; have := HK2.out; omega
           case rel => exact ⟨(wrap64 (x17_1 + 1)), Z4, H', ⟨Z131⟩, Z11⟩
       ·rw [if_neg c8] at H
        exact absurd H (by simp)
      ·rw [if_neg c7] at H
       exact absurd H (by simp)
     ·rw [if_neg c6] at H
      exact absurd H (by simp)
    ·rw [if_neg c5] at H
     have c5b0 : decide (x17_1 < (l1.length : Int)) = false := decide_eq_false c5; clear c5; obtain rfl := Option.some.inj H; go_wp2; go_ret; exact ⟨Z4, Z11⟩
 ·rw [if_neg c4] at H
  exact absurd H (by simp)
def monzo_Check.f (k : Nat) (l0 : List Int) (l1 : List Int) : Option (Int) := (mzCA.f k l0 (([l1] : List (List Int)))).bind fun t119 => (some t119)
theorem monzo_Check.calls (k : Nat) (A0 : Option Addr) (c0 : Nat) (l0 : List Int) (P1_ : Nat → Prop) (A1 : Option Addr) (c1 : Nat) (l1 : List Int) (r : Int) (w : World) (hr0 : Kd.C (Kd.int .i64) w A0 l0.length l0) (hc0 : l0.length ≤ c0) (hs1 : Kd.V (Kd.int .i64) 3 w w.heap.size (fun k_ => P1_ k_) (.slice A1 l1.length c1) l1) (hG : GL w) (h : monzo_Check.f k l0 l1 = some r) :
  Calls Tryz.prog 66 #[.slice A0 l0.length c0, .slice A1 l1.length c1] w fun e w' => e = .returned (.int .i64 r) ∧ Below w.heap.size w w' := by
 have HR0 := AS hr0; have HC0 := AS hc0; clear hr0 hc0; have HO1 := AS (show Kd.V (Kd.int .i64) 3 w w.heap.size (fun k_ => (P1_ k_ ∨ w.heap.size ≤ k_)) (.slice A1 l1.length c1) l1 from Kd.V_mono hs1 (fun k_ hk => .inl hk)); have HB := AS (blr w); have H : ((mzCA.f k l0 (([l1] : List (List Int)))).bind fun t119 => (some t119)) = some r := h; clear h
 obtain ⟨y116, hy116⟩ : ∃ y_ : List (List Int), y_ = (([l1] : List (List Int))) := ⟨_, rfl⟩
 replace H : ((mzCA.f k l0 y116).bind fun t119 => (some t119)) = some r := by first | (rw [hy116]; with_reducible exact H) | (have H2_ := (Option.bind_some _ _).symm.trans H; rw [hy116]; with_reducible exact H2_) | (have H2_ := (Option.bind_some _ _).symm.trans H; with_reducible exact H2_) | with_reducible exact H | (rw [hy116]; exact H) | exact H
 have Ny116 := AS hy116; clear hy116; replace H := bsm H; obtain ⟨t119, A30, H⟩ := H; replace H : (some t119) = some r := H; have A3 := AS A30; clear A30; obtain rfl := Option.some.inj H; go_enter Tryz.func66, Tryz.ntmps66; go_wp2_with (first | ((with_reducible refine gtd (N := 7) rfl ?_); refine Kd.N_lit (Kd.slice 3 (Kd.int .i64)) _ 28 ?hg (N' := 7) ?hd (xs := ([l1] : List (List Int))) (inner := [.slice A1 l1.length c1]) (ok := (fun k_ => (P1_ k_ ∨ w.heap.size ≤ k_))) (okp := (fun k_ => (P1_ k_ ∨ w.heap.size ≤ k_))) ?hr ?hp (fun _ hk => hk) ((show ∀ k_, w.heap.size ≤ k_ → (fun k_ => (P1_ k_ ∨ w.heap.size ≤ k_)) k_ from fun k_ hk => (.inr (Nat.le_trans (bsz Z0) hk))) _ (Nat.le_refl _)) (Below.refl _ _) (Nat.le_refl _) (by simp) ?_; (case hd => rfl); (case hg => rfl); (case hr => exact Z12); (case hp => exact Z52); intro v117 w4 ho5 hb hg_ hnew_; clear hg_ hnew_; (first | rw [← Ny116.out] at ho5 | (simp only [Int.reduceToNat] at ho5; rw [← Ny116.out] at ho5)); have HO118 := AS (Kd.N_lower ho5 (bsz Z0)); replace HO1 := AS (Kd.V_elder' Z18 (Kd.N_base ho5) hb); replace HB := AS (bst Z0 hb); clear hb ho5; obtain ⟨Ao6, co6, eo6⟩ := Kd.N_slice HO118.out; subst eo6) | ((with_reducible refine gtc (f := 32) rfl ?_); refine gsL (some 8) rfl rfl Tryz.func32 Z6 rfl #[.slice A0 l0.length c0, .slice Ao6 y116.length co6] rfl Z1 ?_; (with_reducible refine (mzCA.calls k _ _ l0 _ _ y116 t119 _ ?side1 ?side2 ?side3 ?side4 ?side5 A3.out).mono ?_); (case side1 => exact Z9); (case side2 => exact Z81); (case side3 => repeat (first | exact (Kd.N_reads' HO118.out).2.2 | (with_reducible refine Kd.C_alloc ?_ _) | (with_reducible refine Kd.C_drewN ?_ _) | (with_reducible refine Kd.C_drew ?_))); (case side4 => exact (Kd.N_reads' HO118.out).2.1); (case side5 => exact Z168); rintro e w' ⟨rfl, ⟨nd, rfl⟩⟩; refine ⟨_, rfl, ?_⟩)); go_ret; exact ⟨Z3, Z0⟩

theorem info28_row : (Tryz.prog.info? 28).map (fun i => (i.zero, i.size, i.bytes)) = some (some (.slice none 0 0), 1, 24) := by kernel_rfl
theorem grow_nil_calls (n : Nat) (hn : n ≤ 1000000) (w : World) :
  Calls Tryz.prog 126 #[.slice none 0 0, .int .i64 (n : Int)] w fun e w' => ∃ v0_ : Value, e = .returned v0_ ∧ Kd.N (Kd.slice 3 (Kd.int .i64)) 28 w' w.heap.size (fun _ => True) v0_ [] ∧ Below w.heap.size w w' := by
 have hb := AS (blr w)
 by_cases h0 : n = 0
 ·subst h0; go_enter Tryz.func126, Tryz.ntmps126; go_wp2; go_ret; exact ⟨_, rfl, Kd.N_nil _ _ _ _ _, hb.out⟩
 ·have h1 : (0 : Int) < (n : Int) := by omega
  go_enter Tryz.func126, Tryz.ntmps126; go_wp2_with (at_builtin; (refine Kd.R_append_zeros (Kd.slice 3 (Kd.int .i64)) (w0 := w) w.heap.size rfl _ _ 27 3 28 (.slice none 0 0) 24 rfl Tryz.underlying27 Tryz.underlying3 info28_row rfl (by decide) (by decide) (.slice none 0 0) [] [] (n : Int) (fun _ => True) rfl rfl ⟨_, rfl, Kd.R_nil _ _ _ _ _⟩ (fun _ _ => trivial) (Kd.R_nil _ _ _ _ _) (by omega) hb.out (Nat.le_refl _) (by simp only [List.length_nil, Int.toNat_natCast]; omega) ?_); intro v1 w1 hown hB _ _; obtain ⟨A1, c1, rfl⟩ := Kd.R_slice hown; have HO := AS (Kd.R_take hown (Nat.zero_le _)); have HB := AS hB; clear hown hB); go_ret; exact ⟨_, rfl, Kd.R_N (by have h := HO.out; rwa [List.take_zero] at h), HB.out⟩
theorem C_slice_at {α : Type} {e : Nat} {d : Kd α} {w : World} {A : Option Addr} {l : List (List α)} (h : Kd.C (Kd.slice e d) w A l.length l) (i : Nat) (hi : i < l.length) :
  ∃ ad A1 c1, A = some ad ∧ w.cell? (ad.add i) = some (.slice A1 (l.getD i []).length c1) ∧ (l.getD i []).length ≤ c1 ∧ Kd.C d w A1 (l.getD i []).length (l.getD i []) := by
 obtain ⟨ad, e1, hc⟩ := h.2.2 (by omega); obtain ⟨cs, _, hr, hcell⟩ := hc i _ (List.getElem?_eq_getElem hi); obtain ⟨A1, c1, rfl, hl, hC⟩ := hr
 have hg : l.getD i [] = l[i] := by rw [List.getD_eq_getElem?_getD, List.getElem?_eq_getElem hi]; rfl
 have := hcell 0 _ rfl; rw [show i * Kd.sz (Kd.slice e d) + 0 = i from Nat.mul_one i] at this; exact ⟨ad, A1, c1, e1, by rw [hg]; exact this, by rw [hg]; exact hl, by rw [hg]; exact hC⟩
theorem take_flat {α : Type} (ls : List (List α)) (k : Nat) (hk : k < ls.length) : (ls.take (k + 1)).flatten = (ls.take k).flatten ++ ls.getD k [] := by
 rw [List.take_succ_eq_append_getElem hk, List.flatten_append, List.getD_eq_getElem?_getD, List.getElem?_eq_getElem hk]; simp
theorem take_flat_le {α : Type} (ls : List (List α)) (k : Nat) : (ls.take k).flatten.length ≤ ls.flatten.length := by
 conv => rhs; rw [← List.take_append_drop k ls]
 rw [List.flatten_append, List.length_append]
 omega
theorem concat_calls (A : Option Addr) (c : Nat) (ls : List (List (List Int))) (w : World) (hr : Kd.C (Kd.slice 28 (Kd.slice 3 (Kd.int .i64))) w A ls.length ls) (hn : ls.flatten.length ≤ 1000000) :
  Calls Tryz.prog 99 #[.slice A ls.length c] w fun e w' => ∃ v0_ : Value, e = .returned v0_ ∧ Kd.N (Kd.slice 3 (Kd.int .i64)) 28 w' w.heap.size (fun _ => True) v0_ ls.flatten ∧ Below w.heap.size w w' := by
 have hb := AS (blr w); have HR := AS hr; have HN := AS hn; have hm := Kd.C_max hr; clear hr hn; go_enter Tryz.func99, Tryz.ntmps99; go_wp2
 go_loop [3, 11] (fun s i => ∃ k m : Nat, k ≤ ls.length ∧ i = .int .i64 k ∧ s = .int .i64 m ∧ m ≤ 1000000 ∧ Aside0 (m = (ls.take k).flatten.length)) (fun _ i => ls.length - (intOf i).toNat)
 case atStart => exact ⟨0, 0, Nat.zero_le _, rfl, rfl, by omega, ⟨rfl⟩⟩
 case round =>
  obtain ⟨k, m, hk, rfl, rfl, hm1, HM⟩ := hrel
  by_cases hlt : k < ls.length
  ·obtain ⟨ad, A1, c1, rfl, hcell, hl1, hC1⟩ := C_slice_at HR.out k hlt; have hf := take_flat ls k hlt; have hle := take_flat_le ls (k + 1)
   obtain ⟨n1, hn1⟩ : ∃ n1, n1 = (ls.getD k []).length := ⟨_, rfl⟩
   rw [← hn1] at hcell; have HS : Aside0 (m + n1 = (ls.take (k + 1)).flatten.length) := ⟨by rw [hf, List.length_append, HM.out, hn1]⟩
   have hs2 : m + n1 ≤ 1000000 := by have := HS.out; have := HN.out; omega
   clear hl1 hC1 hf hle hn1; go_wp2
   all_goals
    go_round
    case rel => exact ⟨k + 1, m + n1, by omega, by go_num, by go_num, by omega, ⟨HS.out⟩⟩
    case measure => simp [intOf]; omega
  ·obtain rfl : k = ls.length := by omega
   clear hk; go_wp2_with (go_at_call 126; (with_reducible refine (grow_nil_calls m hm1 _).mono ?_); rintro e w1 ⟨v1, rfl, hN, hB⟩; have HNN := AS hN; have HB := AS hB; clear hN hB)
   go_loopw [6, 27] (fun v i wr => ∃ k : Nat, k ≤ ls.length ∧ i = .int .i64 k ∧ Aside0 (Kd.N (Kd.slice 3 (Kd.int .i64)) 28 wr w.heap.size (fun _ => True) v ((ls.take k).flatten)) ∧ Aside0 (Below w.heap.size w wr)) (fun _ i _ => ls.length - (intOf i).toNat)
   case atStart => exact ⟨0, Nat.zero_le _, rfl, ⟨HNN.out⟩, HB⟩
   case round =>
    obtain ⟨k, hk, rfl, HNk, HBk⟩ := hrel
    by_cases hlt : k < ls.length
    ·obtain ⟨ad, A1, c1, rfl, hcell0, hl1, hC1⟩ := C_slice_at HR.out k hlt; have hf := take_flat ls k hlt
     obtain ⟨x, hx⟩ : ∃ x, x = ls.getD k [] := ⟨_, rfl⟩
     rw [← hx] at hcell0 hl1 hC1 hf; have hcell := pcb HBk.out hcell0; have HF := AS (Kd.F_below (Kd.C_F (Kd.heap_slice 3 (Kd.heap_int .i64)) hC1) HBk.out); have HT := AS hf
     have HLEN : Aside0 (((ls.take k).flatten.length + x.length) * 24 ≤ 140737488355328) := ⟨by
      have h2 := take_flat_le ls (k + 1); have h3 := HN.out; rw [hf, List.length_append] at h2
      omega⟩
     have HSZ := AS HBk.out.size; clear hcell0 hl1 hC1 hx hf; go_wp2_with (at_builtin; (refine Kd.N_append_rows (Kd.slice 3 (Kd.int .i64)) (w0 := w) w.heap.size rfl _ _ 27 28 (.slice none 0 0) 24 rfl Tryz.underlying27 info28_row rfl (by decide) (by decide) _ ((ls.take k).flatten) x A1 x.length c1 (fun _ => True) (fun k_ => k_ < w.heap.size) rfl rfl HNk.out HF.out (fun k_ hk_ => ⟨trivial, fun e_ => by have := Kd.N_base HNk.out k_ e_.symm; omega⟩) (fun _ _ => trivial) HBk.out HSZ.out HLEN.out ?_); intro v2 w2 hown2 hB2 _ _; have HO2 := AS hown2; have HB2 := AS hB2; clear hown2 hB2); go_roundw
     case rel => exact ⟨k + 1, by omega, by go_num, ⟨by rw [HT.out]; exact HO2.out⟩, HB2⟩
     case measure => simp [intOf]; omega
    ·obtain rfl : k = ls.length := by omega
     clear hk; go_wp2; go_ret; exact ⟨_, rfl, by have h := HNk.out; rwa [List.take_length] at h, HBk.out⟩
theorem lit2_C {w W : World} {A1 A2 : Option Addr} {c1 c2 : Nat} {l1 l2 : List (List Int)} (hb : Below w.heap.size w W) (h1 : Kd.C (Kd.slice 3 (Kd.int .i64)) w A1 l1.length l1) (hc1 : l1.length ≤ c1) (h2 : Kd.C (Kd.slice 3 (Kd.int .i64)) w A2 l2.length l2) (hc2 : l2.length ≤ c2) :
  Kd.C (Kd.slice 28 (Kd.slice 3 (Kd.int .i64))) (W.alloc (.cells #[.slice A1 l1.length c1, .slice A2 l2.length c2] 27)) (some ⟨W.heap.size, 0, none⟩) [l1, l2].length [l1, l2] := by
 have hb2 := bla hb (.cells #[.slice A1 l1.length c1, .slice A2 l2.length c2] 27); refine ⟨rfl, by simp, fun _ => ⟨_, rfl, fun j p hj => ?_⟩⟩
 rcases j with _ | _ | j
 ·simp only [List.getElem?_cons_zero, Option.some.injEq] at hj; subst hj; refine ⟨[.slice A1 l1.length c1], rfl, ⟨A1, c1, rfl, hc1, Kd.C_below h1 hb2⟩, fun i u hu => ?_⟩
  rcases i with _ | i
  ·simp only [List.getElem?_cons_zero, Option.some.injEq] at hu; subst hu; rw [add_plain, World.cell?_alloc_new]; rfl
  ·simp at hu
 ·simp only [Nat.zero_add, List.getElem?_cons_succ, List.getElem?_cons_zero, Option.some.injEq] at hj; subst hj; refine ⟨[.slice A2 l2.length c2], rfl, ⟨A2, c2, rfl, hc2, Kd.C_below h2 hb2⟩, fun i u hu => ?_⟩
  rcases i with _ | i
  ·simp only [List.getElem?_cons_zero, Option.some.injEq] at hu; subst hu; rw [add_plain, World.cell?_alloc_new]; rfl
  ·simp at hu
 ·simp at hj
def interval_open.f (l0 : List Int) (l1 : List (List Int)) (l2 : List (List Int)) : Option (Int) := (prCk.f 2000 l0).bind fun e => if e = 0 then (if 600 < (l1.length : Int) then some 4 else if l2.length ≤ 1000 then mzCA.f 5000 l0 (l1 ++ l2) else none) else some e
theorem interval_open.calls (A0 : Option Addr) (c0 : Nat) (l0 : List Int) (A1 : Option Addr) (c1 : Nat) (l1 : List (List Int)) (A2 : Option Addr) (c2 : Nat) (l2 : List (List Int)) (r : Int) (w : World) (hr0 : Kd.C (Kd.int .i64) w A0 l0.length l0) (hc0 : l0.length ≤ c0) (hr1 : Kd.C (Kd.slice 3 (Kd.int .i64)) w A1 l1.length l1) (hc1 : l1.length ≤ c1) (hr2 : Kd.C (Kd.slice 3 (Kd.int .i64)) w A2 l2.length l2) (hc2 : l2.length ≤ c2) (hG : GL w) (h : interval_open.f l0 l1 l2 = some r) :
  Calls Tryz.prog 71 #[.slice A0 l0.length c0, .slice A1 l1.length c1, .slice A2 l2.length c2] w fun e w' => e = .returned (.int .i64 r) ∧ Below w.heap.size w w' := by
 unfold interval_open.f at h; obtain ⟨e0, he0, h⟩ := bsm h; have HP := AS (prCk.calls 2000 A0 c0 l0 e0 w hr0 hc0 hG he0); clear he0; have HR0 := AS hr0; have HR1 := AS hr1; have HR2 := AS hr2; have HC0 := AS hc0; have HC1 := AS hc1; have HC2 := AS hc2; have HGL := AS hG; clear hr0 hr1 hr2 hc0 hc1 hc2 hG
 by_cases c0 : e0 = 0
 ·rw [if_pos c0] at h; subst c0
  by_cases c1' : 600 < (l1.length : Int)
  ·rw [if_pos c1'] at h; obtain rfl := Option.some.inj h; have c1b : decide (600 < l1.length) = true := dqt (by omega); have c1c : decide (600 < (l1.length : Int)) = true := dqt c1'; clear h c1'; go_enter Tryz.func71, Tryz.ntmps71; go_wp2_with (go_at_call 25; refine HP.out.mono ?_; rintro e w1 ⟨rfl, hb⟩; have HB := AS hb.below; clear hb); go_ret; exact ⟨rfl, HB.out⟩
  ·rw [if_neg c1'] at h
   by_cases c2' : l2.length ≤ 1000
   ·rw [if_pos c2'] at h; have c1b : decide (600 < l1.length) = false := decide_eq_false (by omega); have c1c : decide (600 < (l1.length : Int)) = false := decide_eq_false c1'; have HH := AS h; have HF : Aside0 ([l1, l2].flatten.length ≤ 1000000) := ⟨Z154⟩; clear h c1' c2'; go_enter Tryz.func71, Tryz.ntmps71; go_wp2_with (go_at_call 25; refine HP.out.mono ?_; rintro e w1 ⟨rfl, hb⟩; have HB := AS hb.below; clear hb); have HL := AS (lit2_C HB.out HR1.out HC1.out HR2.out HC2.out); refine (concat_calls (some ⟨w1.heap.size, 0, none⟩) 2 [l1, l2] _ HL.out HF.out).mono ?_; rintro e w2 ⟨v2, rfl, hN, hb2⟩; have HB2 := AS (below_then (bla HB.out _) (bsz (bla HB.out _)) hb2); obtain ⟨A3, c3, rfl⟩ := Kd.N_slice hN; have HN := AS (Kd.N_reads' hN)
    have HFL : [l1, l2].flatten = l1 ++ l2 := by simp
    rw [HFL] at HN; clear hN hb2 HFL; have HR0' := AS (Kd.C_below HR0.out HB2.out); have HG2 := AS (HGL.out.below HB2.out); go_wp2_with fail; rw [show l1.length + l2.length = (l1 ++ l2).length from List.length_append.symm]; refine (mzCA.calls 5000 A0 c0 l0 A3 c3 (l1 ++ l2) r w2 HR0'.out HC0.out HN.out.2.2 HN.out.2.1 HG2.out HH.out).mono ?_; rintro e w3 ⟨rfl, hb3⟩; have HB3 := AS (bst HB2.out hb3.below); clear hb3; go_wp2; go_ret; exact ⟨rfl, HB3.out⟩
   ·rw [if_neg c2'] at h; cases h
 ·rw [if_neg c0] at h; obtain rfl := Option.some.inj h; have c0b : (e0 != 0) = true := bnt c0; clear h c0; go_enter Tryz.func71, Tryz.ntmps71; go_wp2_with (go_at_call 25; refine HP.out.mono ?_; rintro e w1 ⟨rfl, hb⟩; have HB := AS hb.below; clear hb); go_ret; exact ⟨rfl, HB.out⟩

def strconv_Itoa.f (a0 : Int) : Option (ByteArray) := if -9223372036854775808 ≤ a0 ∧ a0 ≤ 9223372036854775807 then some ⟨(Lib.itoa a0).toArray⟩ else none
theorem strconv_Itoa.calls (a0 : Int) (r : ByteArray) (w : World) (hG : GL w) (h : strconv_Itoa.f a0 = some r) :
  Calls Tryz.prog 90 #[.int .i64 a0] w fun e w' => e = .returned (.string r) ∧ Below w.heap.size w w' := by
 unfold strconv_Itoa.f at h
 by_cases c : -9223372036854775808 ≤ a0 ∧ a0 ≤ 9223372036854775807
 ·rw [if_pos c] at h; obtain rfl := Option.some.inj h; refine (Tryz.strconv_Itoa a0 c.1 c.2 w hG.tab).mono ?_; rintro e w' ⟨rfl, k, os, rfl⟩; exact ⟨rfl, Lib.below_grow _ _ (Nat.le_refl _) k os⟩
 ·rw [if_neg c] at h; cases h

def whOf.f (a0 : Int) : Option (ByteArray) := (strconv_Itoa.f a0).bind fun t120 => (some t120)
theorem whOf.calls (a0 : Int) (r : ByteArray) (w : World) (hG : GL w) (h : whOf.f a0 = some r) :
  Calls Tryz.prog 59 #[.int .i64 a0] w fun e w' => e = .returned (.string r) ∧ Below w.heap.size w w' := by
 have HB := AS (blr w); have H : ((strconv_Itoa.f a0).bind fun t120 => (some t120)) = some r := h; clear h; replace H := bsm H; obtain ⟨t120, A20, H⟩ := H; replace H : (some t120) = some r := H; have A2 := AS A20; clear A20; obtain rfl := Option.some.inj H; go_enter Tryz.func59, Tryz.ntmps59; go_wp2_with (first | ((with_reducible refine gtc (f := 90) rfl ?_); refine gsL (some 4) rfl rfl Tryz.func90 Z6 rfl #[.int .i64 a0] rfl Z1 ?_; (with_reducible refine (strconv_Itoa.calls a0 t120 _ ?side1 A2.out).mono ?_); (case side1 => exact Z168); rintro e w3 ⟨rfl, hb⟩; refine ⟨_, rfl, ?_⟩; replace HB := AS (bst Z0 hb); (try clear hb))); go_ret; exact ⟨Z3, Z0⟩
def size_number.f (a0 : Int) : Option (ByteArray × ByteArray) := (whOf.f a0).bind fun t122 => (some (t122, (⟨#[49]⟩ : ByteArray)))
theorem size_number.calls (a0 : Int) (r1 : ByteArray) (r2 : ByteArray) (w : World) (hG : GL w) (h : size_number.f a0 = some (r1, r2)) :
  Calls Tryz.prog 147 #[.int .i64 a0] w fun e w' => e = .returned (.agg #[.string r1, .string r2]) ∧ Below w.heap.size w w' := by
 have hu53 := Tryz.underlying53; have HB := AS (blr w); have H : ((whOf.f a0).bind fun t122 => (some (t122, (⟨#[49]⟩ : ByteArray)))) = some (r1, r2) := h; clear h; replace H := bsm H; obtain ⟨t122, A20, H⟩ := H; replace H : (some (t122, (⟨#[49]⟩ : ByteArray))) = some (r1, r2) := H; have A2 := AS A20; clear A20
 simp only [Option.some.injEq, Prod.mk.injEq] at H
 obtain ⟨rfl, rfl⟩ := H; go_enter Tryz.func147, Tryz.ntmps147; go_wp2_with (first | ((with_reducible refine gtd (N := 2) rfl ?_); refine bxe ?hg (N := 2) ?hd (cs := #[.string ⟨#[]⟩, .string ⟨#[]⟩]) (t := 53) ?hr ?_; (case hd => rfl); (case hg => rfl); (case hr => exact Z12); intro gb121 hg w3 hbox hb; have BK121 := AS (hbox); have GW121 := AS ((Z169 : w.heap.size ≤ gb121)); have GE121 := GW121; replace HB := AS (bst Z0 hb); clear hb hbox hg) | ((with_reducible refine gtc (f := 59) rfl ?_); refine gsL (some 4) rfl rfl Tryz.func59 Z6 rfl #[.int .i64 a0] rfl Z1 ?_; (with_reducible refine (whOf.calls a0 t122 _ ?side1 A2.out).mono ?_); (case side1 => exact GL.below hG Z101); rintro e w4 ⟨rfl, hb⟩; refine ⟨_, rfl, ?_⟩; replace BK121 := AS (bbl (g := gb121) (o := .cells #[.string ⟨#[]⟩, .string ⟨#[]⟩] 53 (0, 0)) (by (with_reducible repeat (first | apply bdn | apply bdr | apply bal)); exact BK121.out) hb); replace HB := AS (bst Z101 hb); (try clear hb); have hcz5_0 := bc0 BK121.out; have hcz5_1 := bc1 BK121.out; have hfz5_0 := bfz BK121.out 0; have hfz5_1 := bfz BK121.out 1)); refine bodyPost_ret (results_cell_row rfl _ _ gb121 53 #[.string t122, .string (⟨#[49]⟩ : ByteArray)] (0, 0) _ rfl (by (with_reducible repeat (first | apply bdn | apply bdr | apply bal)); refine bpt (cs := #[.string t122, .string ⟨#[]⟩]) ?_ 1 _ rfl; (with_reducible repeat (first | apply bdn | apply bdr | apply bal)); refine bpt (cs := #[.string ⟨#[]⟩, .string ⟨#[]⟩]) ?_ 0 _ rfl; (with_reducible repeat (first | apply bdn | apply bdr | apply bal)); exact BK121.out) Tryz.underlying53 rfl Z6) rfl ?_; exact ⟨Z3, Z101⟩
def size_zero.l0 : Nat → List (S53) → Int → Int → Option ((List (S53)))
 | 0, _, _, _ => none
 | k + 1, x3, x8, x9 => if x9 < x8 then ((size_number.f 0).bind fun bt126 => (if 0 ≤ x9 then (if x9 < (x3.length : Int) then (size_zero.l0 k (x3.set (x9 : Int).toNat (⟨bt126.1, bt126.2⟩ : S53)) x8 (wrap64 (x9 + 1))) else (none)) else (none))) else (some x3)
def size_zero.f (k : Nat) (a0 : Int) : Option ((List (S53))) := if 0 ≤ a0 then (if (a0 : Int).toNat ≤ 8796093022208 then ((some (List.replicate (a0 : Int).toNat z53 : List (S53))).bind fun y123 => (size_zero.l0 k y123 (y123.length : Int) 0)) else (none)) else (none)
theorem size_zero.calls (k : Nat) (a0 : Int) (r : List (S53)) (w : World) (hG : GL w) (h : size_zero.f k a0 = some r) :
  Calls Tryz.prog 146 #[.int .i64 a0] w fun e w' => ∃ v0_ : Value, e = .returned (v0_) ∧ Kd.R k53 53 w' w.heap.size (fun _ => True) v0_ r ∧ Below w.heap.size w w' := by
 have hu53 := Tryz.underlying53; have HB := AS (blr w); have H : (if 0 ≤ a0 then (if (a0 : Int).toNat ≤ 8796093022208 then ((some (List.replicate (a0 : Int).toNat z53 : List (S53))).bind fun y123 => (size_zero.l0 k y123 (y123.length : Int) 0)) else (none)) else (none)) = some r := h; clear h
 by_cases c2 : 0 ≤ a0
 ·rw [if_pos c2] at H
  have c2b0 := eq_true c2; have c2b1 : decide (0 ≤ a0) = true := dqt c2; clear c2
  by_cases c3 : (a0 : Int).toNat ≤ 8796093022208
  ·rw [if_pos c3] at H
   have c3b0 := eq_true c3; have c3b1 : decide ((a0 : Int).toNat ≤ 8796093022208) = true := dqt c3; clear c3
   obtain ⟨y123, hy123⟩ : ∃ y_ : List (S53), y_ = (List.replicate (a0 : Int).toNat z53) := ⟨_, rfl⟩
   replace H : (size_zero.l0 k y123 (y123.length : Int) 0) = some r := by first | (rw [hy123]; with_reducible exact H) | (have H2_ := (Option.bind_some _ _).symm.trans H; rw [hy123]; with_reducible exact H2_) | (have H2_ := (Option.bind_some _ _).symm.trans H; with_reducible exact H2_) | with_reducible exact H | (rw [hy123]; exact H) | exact H
   have Ny123 := AS hy123; clear hy123; have H' := AS H; clear H; go_enter Tryz.func146, Tryz.ntmps146; go_wp2_with (first | ((with_reducible refine gtd (N := 6) rfl ?_); refine Kd.R_make k53 _ 53 rfl (N := 6) rfl 134 _ _ rfl a0 rfl rfl Tryz.underlying134 (.agg #[(.string ⟨#[]⟩), (.string ⟨#[]⟩)]) 32 info53 rfl (by decide) (by omega) z53 (ok := fun _ => True) (okp := fun _ => True) (k53_mkM _ _ _ z53 ) (fun _ hk => hk) trivial (odt Z2) (Nat.le_trans (Nat.mul_le_mul_right _ (odt Z2 : a0.toNat ≤ 8796093022208)) (by omega)) (Below.refl _ _) (Nat.le_refl _) ?_; intro v124 w4 ho5 hb hg_ hnew_; clear hg_ hnew_; (first | rw [← Ny123.out] at ho5 | (simp only [Int.reduceToNat] at ho5; rw [← Ny123.out] at ho5)); have HO125 := AS (Kd.R_lower ho5 (bsz Z0)); replace HB := AS (bst Z0 hb); clear hb ho5; obtain ⟨Ao6, co6, eo6⟩ := Kd.R_slice HO125.out; subst eo6))
   go_loopg [9] k (fun kq v9 w' => ∃ (x3_1 : List (S53)) (x9_1 : Int), v9 = .int .i64 x9_1 ∧ Aside0 (size_zero.l0 kq x3_1 (y123.length : Int) x9_1 = some r) ∧ Aside0 (kq ≤ k) ∧ Aside0 (Kd.R k53 53 w' w.heap.size (fun _ => True) (.slice Ao6 y123.length co6) x3_1) ∧ Aside0 (Below w.heap.size w w'))
   case atStart => exact ⟨(y123), (0), Z4, H', ⟨Nat.le_refl _⟩, ⟨by (with_reducible repeat (first | apply Kd.R_alloc | apply Kd.R_drewN | apply Kd.R_drew)); exact HO125.out⟩, ⟨Z0⟩⟩
   case round =>
    clear H'; (try clear c1); (try clear c2); (try clear c2b0); (try clear c2b1); (try clear p2); (try clear c3); (try clear c3b0); (try clear c3b1); obtain ⟨x3_1, x9_1, rfl, HA, HK1, HO_3, HB⟩ := hrel; have hl3_1 := (Kd.R_reads' HO_3.out).1; rw [hl3_1] at HO_3
    (try simp only [hl3_1])
    cases gk with
    | zero => exact absurd HA.out (by simp [size_zero.l0])
    | succ k1 =>
     have H := HA.out; clear HA
     simp only [size_zero.l0] at H
     by_cases c7 : x9_1 < (y123.length : Int)
     ·rw [if_pos c7] at H
      have c7b0 : decide (x9_1 < (y123.length : Int)) = true := dqt c7; have c7r0 := c7b0
      (try simp only [hl3_1] at c7r0)
      clear c7; replace H := bsm H; obtain ⟨⟨t126, t127⟩, A80, H⟩ := H; replace H : (if 0 ≤ x9_1 then (if x9_1 < (x3_1.length : Int) then (size_zero.l0 k1 (x3_1.set (x9_1 : Int).toNat (⟨t126, t127⟩ : S53)) (y123.length : Int) (wrap64 (x9_1 + 1))) else (none)) else (none)) = some r := H; have A8 := AS A80; clear A80
      by_cases c9 : 0 ≤ x9_1
      ·rw [if_pos c9] at H
       have c9b0 : decide (0 ≤ x9_1) = true := dqt c9; clear c9
       by_cases c10 : x9_1 < (x3_1.length : Int)
       ·rw [if_pos c10] at H
        have c10b0 : decide (x9_1 < (x3_1.length : Int)) = true := dqt c10; have c10r0 := c10b0
        (try simp only [hl3_1] at c10r0)
        clear c10
        obtain ⟨y128, hy128⟩ : ∃ y_ : List (S53), y_ = (x3_1.set (x9_1 : Int).toNat (⟨t126, t127⟩ : S53)) := ⟨_, rfl⟩
        replace H : (size_zero.l0 k1 y128 (y123.length : Int) (wrap64 (x9_1 + 1))) = some r := by first | (rw [hy128]; with_reducible exact H) | (have H2_ := (Option.bind_some _ _).symm.trans H; rw [hy128]; with_reducible exact H2_) | (have H2_ := (Option.bind_some _ _).symm.trans H; with_reducible exact H2_) | with_reducible exact H | (rw [hy128]; exact H) | exact H
        have Ny128 := AS hy128; clear hy128; have H' := AS H; clear H; go_wp2_with (first | ((with_reducible refine gtc (f := 147) rfl ?_); refine gsL (some 14) rfl rfl Tryz.func147 Z6 rfl #[.int .i64 0] rfl Z1 ?_; (with_reducible refine (size_number.calls 0 t126 t127 _ ?side1 A8.out).mono ?_); (case side1 => exact Z168); rintro e w12 ⟨rfl, hb⟩; refine ⟨_, rfl, ?_⟩; replace HO_3 := AS (Kd.R_below Z126 hb); replace HB := AS (bst Z0 hb); (try clear hb); have p11 : 0 ≤ (x9_1 : Int) := odt Z2; have q11 : (x9_1 : Int) < ((x3_1.length : Int) : Int) := odt Z2; obtain ⟨go11, co11, eo11, gb11, gl11, cl11, HG11⟩ := Kd.R_form HO_3.out (by omega); (first | cases eo11 | (injection eo11 with ea_ en_ ec_; (first | subst ea_ | (injection ea_ with ea_; subst ea_)); subst ec_; clear en_)); have GB11 := AS gb11; have GG11 := AS HG11; clear gb11 gl11 HG11; obtain ⟨ce11, hcl11, hM11, hcc11, hfr11⟩ := Kd.R_elem HO_3.out z53 (x9_1 : Int) p11 q11; obtain rfl := k53_openM hM11; have hx11_0 : w12.cell? ⟨go11, (x9_1 : Int).toNat * 2, none⟩ = some (.string ((rd_T53 x3_1 x9_1).f0)) := hcc11 0 _ rfl; have hx11_1 : w12.cell? ⟨go11, (x9_1 : Int).toNat * 2 + 1, none⟩ = some (.string ((rd_T53 x3_1 x9_1).f1)) := hcc11 1 _ rfl; have hf11_0 : w12.frozen? ⟨go11, (x9_1 : Int).toNat * 2, none⟩ = false := hfr11 0; have hf11_1 : w12.frozen? ⟨go11, (x9_1 : Int).toNat * 2 + 1, none⟩ = false := hfr11 1; clear hcl11 hcc11 hfr11 hM11; replace p11 := eq_true p11; replace q11 := eq_true q11; have HX13 := AS (show Kd.R k53 53 w12 w.heap.size (fun _ => True) (.slice (some ⟨go11, 0, none⟩) x3_1.length co6) x3_1 from Z126); obtain ⟨ce13, hcl13, hM13, hcc13, hfr13⟩ := Kd.R_elem HX13.out z53 (x9_1 : Int) (odt Z2) (by have h_ : (x9_1 : Int) < ((x3_1.length : Int) : Int) := odt Z2; first | exact h_ | (have e_ := (Kd.R_reads' HO_3.out).1; omega) | simpa using h_); obtain rfl := k53_openM hM13; have HP13 := Kd.R_seg HX13.out (x9_1 : Int) (odt Z2) (by have h_ : (x9_1 : Int) < ((x3_1.length : Int) : Int) := odt Z2; first | exact h_ | (have e_ := (Kd.R_reads' HO_3.out).1; omega) | simpa using h_) (seg := [.string t126, .string t127]) (j := 0) hcl13 hcc13 (show 2 ≤ 2 from by decide) (x' := (⟨t126, t127⟩ : S53)) (k53_mkM _ _ _ (⟨t126, t127⟩ : S53) ) (fun _ hk => hk); have hx13_0 := hcc13 0 _ rfl; (try simp only [show (k53).sz = 2 from rfl, Nat.mul_one, Nat.add_zero] at hx13_0); have hf13_0 := hfr13 0; (try simp only [show (k53).sz = 2 from rfl, Nat.mul_one, Nat.add_zero] at hf13_0); have hx13_1 := hcc13 1 _ rfl; (try simp only [show (k53).sz = 2 from rfl, Nat.mul_one, Nat.add_zero] at hx13_1); have hf13_1 := hfr13 1; (try simp only [show (k53).sz = 2 from rfl, Nat.mul_one, Nat.add_zero] at hf13_1); clear hcl13 hcc13 hfr13 hM13) | ((with_reducible refine gate_store (t := 53) (p := 15) rfl ?_); refine store_event (t := 53) (p := 15) (v := ?vo_w14) (w1 := ((w12.setCell ⟨go11, (x9_1 : Int).toNat * 2, none⟩ (.string t126)).setCell ⟨go11, (x9_1 : Int).toNat * 2 + 1, none⟩ (.string t127))) ?hg ?ho ?hn ?hr ?_; (case ho => rfl); (case hg => rfl); (case hn => rfl); (case hr => exact Z12); intro w14 hw; have hg : w12.grownBy w14 (some go11) := (by rw [hw]; exact HP13.2); have hp_ : Kd.R k53 53 w14 w.heap.size (fun _ => True) (.slice (some ⟨go11, 0, none⟩) x3_1.length co6) y128 := (by rw [hw, Ny128.out]; exact HP13.1); clear HP13; replace HO_3 := AS (hp_); replace HB := AS ((by rw [hw]; exact bls (bls (HB.out) GB11.out) GB11.out : Below w.heap.size w w14)); clear hg hw hp_))
        (try simp only [← hl3_1])
        go_roundg k1
        case measure => have := HK1.out; omega
        case rel => exact ⟨(y128), (wrap64 (x9_1 + 1)), Z4, H', ⟨Z85⟩, ⟨by (try simp only [hl3_1]); (with_reducible repeat (first | apply Kd.R_alloc | apply Kd.R_drewN | apply Kd.R_drew)); exact HO_3.out⟩, ⟨Z0⟩⟩
       ·rw [if_neg c10] at H
        exact absurd H (by simp)
      ·rw [if_neg c9] at H
       exact absurd H (by simp)
     ·rw [if_neg c7] at H
      have c7b0 : decide (x9_1 < (y123.length : Int)) = false := decide_eq_false c7; have c7r0 := c7b0
      (try simp only [hl3_1] at c7r0)
      clear c7; obtain rfl := Option.some.inj H; go_wp2; go_ret; exact ⟨_, Z3, Z126, Z0⟩
  ·rw [if_neg c3] at H
   exact absurd H (by simp)
 ·rw [if_neg c2] at H
  exact absurd H (by simp)
def size_Of.l0 : Nat → List (S53) → List Int → Int → Int → Option ((List (S53)) × Int)
 | 0, _, _, _, _ => none
 | k + 1, x7, x19, x20, x21 => if x21 < x20 then (if 0 ≤ x21 then (if x21 < (x19.length : Int) then ((size_number.f (rd x19 x21)).bind fun bt134 => (if x21 < (x7.length : Int) then (size_Of.l0 k (x7.set (x21 : Int).toNat (⟨bt134.1, bt134.2⟩ : S53)) x19 x20 (wrap64 (x21 + 1))) else (none))) else (none)) else (none)) else (some (x7, 0))
def size_Of.f (k : Nat) (l0 : List Int) (l1 : List Int) : Option ((List (S53)) × Int) := (monzo_Check.f k l0 l1).bind fun t129 => (if t129 = 0 then ((size_zero.f k (l0.length : Int)).bind fun t130 => (size_Of.l0 k t130 l1 (l1.length : Int) 0)) else (none))
theorem size_Of.calls (k : Nat) (A0 : Option Addr) (c0 : Nat) (l0 : List Int) (A1 : Option Addr) (c1 : Nat) (l1 : List Int) (r1 : List (S53)) (r2 : Int) (w : World) (hr0 : Kd.C (Kd.int .i64) w A0 l0.length l0) (hc0 : l0.length ≤ c0) (hr1 : Kd.C (Kd.int .i64) w A1 l1.length l1) (hc1 : l1.length ≤ c1) (hG : GL w) (h : size_Of.f k l0 l1 = some (r1, r2)) :
  Calls Tryz.prog 127 #[.slice A0 l0.length c0, .slice A1 l1.length c1] w fun e w' => ∃ v0_ : Value, e = .returned (.tuple #[v0_, .int .i64 r2]) ∧ Kd.R k53 53 w' w.heap.size (fun _ => True) v0_ r1 ∧ Below w.heap.size w w' := by
 have hu53 := Tryz.underlying53; have HR0 := AS hr0; have HC0 := AS hc0; clear hr0 hc0; have HR1 := AS hr1; have HC1 := AS hc1; clear hr1 hc1; have HB := AS (blr w); have H : ((monzo_Check.f k l0 l1).bind fun t129 => (if t129 = 0 then ((size_zero.f k (l0.length : Int)).bind fun t130 => (size_Of.l0 k t130 l1 (l1.length : Int) 0)) else (none))) = some (r1, r2) := h; clear h; replace H := bsm H; obtain ⟨t129, A30, H⟩ := H; replace H : (if t129 = 0 then ((size_zero.f k (l0.length : Int)).bind fun t130 => (size_Of.l0 k t130 l1 (l1.length : Int) 0)) else (none)) = some (r1, r2) := H; have A3 := AS A30; clear A30
 by_cases c4 : t129 = 0
 ·rw [if_pos c4] at H
  have c4b0 : (t129 == 0) = true := bqt c4; have c4b1 : (t129 != 0) = false := bnf c4; clear c4; replace H := bsm H; obtain ⟨t130, A50, H⟩ := H; replace H : (size_Of.l0 k t130 l1 (l1.length : Int) 0) = some (r1, r2) := H; have A5 := AS A50; clear A50; have H' := AS H; clear H; go_enter Tryz.func127, Tryz.ntmps127; go_wp2_with (first | ((with_reducible refine gtc (f := 66) rfl ?_); refine gsL (some 12) rfl rfl Tryz.func66 Z6 rfl #[.slice A0 l0.length c0, .slice A1 l1.length c1] rfl Z1 ?_; (with_reducible refine (monzo_Check.calls k _ _ l0 (fun k_ => k_ < w.heap.size) _ _ l1 t129 _ ?side1 ?side2 ?side3 ?side4 A3.out).mono ?_); (case side1 => exact Z15); (case side2 => exact Z81); (case side3 => exact Z180); (case side4 => exact Z168); rintro e w6 ⟨rfl, hb⟩; refine ⟨_, rfl, ?_⟩; replace HB := AS (bst Z0 hb); (try clear hb)) | ((with_reducible refine gtc (f := 146) rfl ?_); refine gsL (some 18) rfl rfl Tryz.func146 Z6 rfl #[.int .i64 (l0.length : Int)] rfl Z1 ?_; (with_reducible refine (size_zero.calls k (l0.length : Int) t130 _ ?side1 A5.out).mono ?_); (case side1 => exact Z168); rintro e w7 ⟨v131, rfl, ho0, hb⟩; refine ⟨_, rfl, ?_⟩; have HO132 := AS (Kd.R_lower ho0 (bsz Z0)); replace HB := AS (bst Z0 hb); (try clear hb); (try clear ho0)))
  go_loopg [21] k (fun kq v21 w' => ∃ (x7_1 : List (S53)) (x21_1 : Int), v21 = .int .i64 x21_1 ∧ Aside0 (size_Of.l0 kq x7_1 l1 (l1.length : Int) x21_1 = some (r1, r2)) ∧ Aside0 (kq ≤ k) ∧ Aside0 (Kd.R k53 53 w' w.heap.size (fun _ => True) v131 x7_1) ∧ Aside0 (Below w.heap.size w w'))
  case atStart => exact ⟨(t130), (0), Z4, H', ⟨Nat.le_refl _⟩, ⟨by (with_reducible repeat (first | apply Kd.R_alloc | apply Kd.R_drewN | apply Kd.R_drew)); exact HO132.out⟩, ⟨Z0⟩⟩
  case round =>
   clear H'; (try clear c1); (try clear p2); (try clear c4); (try clear c4b0); (try clear c4b1); (try clear c6); obtain ⟨x7_1, x21_1, rfl, HA, HK1, HO_7, HB⟩ := hrel
   cases gk with
   | zero => exact absurd HA.out (by simp [size_Of.l0])
   | succ k1 =>
    have H := HA.out; clear HA
    simp only [size_Of.l0] at H
    by_cases c8 : x21_1 < (l1.length : Int)
    ·rw [if_pos c8] at H
     have c8b0 : decide (x21_1 < (l1.length : Int)) = true := dqt c8; clear c8
     by_cases c9 : 0 ≤ x21_1
     ·rw [if_pos c9] at H
      have c9b0 : decide (0 ≤ x21_1) = true := dqt c9; clear c9
      by_cases c10 : x21_1 < (l1.length : Int)
      ·rw [if_pos c10] at H
       have c10b0 : decide (x21_1 < (l1.length : Int)) = true := dqt c10; clear c10; replace H := bsm H; obtain ⟨⟨t134, t135⟩, A110, H⟩ := H; replace H : (if x21_1 < (x7_1.length : Int) then (size_Of.l0 k1 (x7_1.set (x21_1 : Int).toNat (⟨t134, t135⟩ : S53)) l1 (l1.length : Int) (wrap64 (x21_1 + 1))) else (none)) = some (r1, r2) := H; have A11 := AS A110; clear A110
       by_cases c12 : x21_1 < (x7_1.length : Int)
       ·rw [if_pos c12] at H
        have c12b0 : decide (x21_1 < (x7_1.length : Int)) = true := dqt c12; clear c12
        obtain ⟨y136, hy136⟩ : ∃ y_ : List (S53), y_ = (x7_1.set (x21_1 : Int).toNat (⟨t134, t135⟩ : S53)) := ⟨_, rfl⟩
        replace H : (size_Of.l0 k1 y136 l1 (l1.length : Int) (wrap64 (x21_1 + 1))) = some (r1, r2) := by first | (rw [hy136]; with_reducible exact H) | (have H2_ := (Option.bind_some _ _).symm.trans H; rw [hy136]; with_reducible exact H2_) | (have H2_ := (Option.bind_some _ _).symm.trans H; with_reducible exact H2_) | with_reducible exact H | (rw [hy136]; exact H) | exact H
        have Ny136 := AS hy136; clear hy136; have H' := AS H; clear H; have p133 : 0 ≤ (x21_1 : Int) := odt Z2; have q133 : x21_1 < (l1.length : Int) := odt Z2; obtain ⟨ad133, e133, hx133_0⟩ := Kd.at_int HR1.out x21_1 p133 q133; cases e133; replace hx133_0 := (HB.out.cell (wbl w _ hx133_0)).trans hx133_0; replace p133 := eq_true p133; replace q133 := eq_true q133; go_wp2_with (first | ((with_reducible refine gtc (f := 147) rfl ?_); refine gsL (some 29) rfl rfl Tryz.func147 Z6 rfl #[.int .i64 (rd l1 x21_1)] rfl Z1 ?_; (with_reducible refine (size_number.calls (rd l1 x21_1) t134 t135 _ ?side1 A11.out).mono ?_); (case side1 => exact Z168); rintro e w14 ⟨rfl, hb⟩; refine ⟨_, rfl, ?_⟩; replace HO_7 := AS (Kd.R_below Z110 hb); replace HB := AS (bst Z0 hb); (try clear hb); have p13 : 0 ≤ (x21_1 : Int) := odt Z2; have q13 : (x21_1 : Int) < ((x7_1.length : Int) : Int) := odt Z2; obtain ⟨go13, co13, eo13, gb13, gl13, cl13, HG13⟩ := Kd.R_form HO_7.out (by omega); (first | cases eo13 | (injection eo13 with ea_ en_ ec_; (first | subst ea_ | (injection ea_ with ea_; subst ea_)); subst ec_; clear en_)); have GB13 := AS gb13; have GG13 := AS HG13; clear gb13 gl13 HG13; obtain ⟨ce13, hcl13, hM13, hcc13, hfr13⟩ := Kd.R_elem HO_7.out z53 (x21_1 : Int) p13 q13; obtain rfl := k53_openM hM13; have hx13_0 : w14.cell? ⟨go13, (x21_1 : Int).toNat * 2, none⟩ = some (.string ((rd_T53 x7_1 x21_1).f0)) := hcc13 0 _ rfl; have hx13_1 : w14.cell? ⟨go13, (x21_1 : Int).toNat * 2 + 1, none⟩ = some (.string ((rd_T53 x7_1 x21_1).f1)) := hcc13 1 _ rfl; have hf13_0 : w14.frozen? ⟨go13, (x21_1 : Int).toNat * 2, none⟩ = false := hfr13 0; have hf13_1 : w14.frozen? ⟨go13, (x21_1 : Int).toNat * 2 + 1, none⟩ = false := hfr13 1; clear hcl13 hcc13 hfr13 hM13; replace p13 := eq_true p13; replace q13 := eq_true q13; have HX15 := AS (show Kd.R k53 53 w14 w.heap.size (fun _ => True) (.slice (some ⟨go13, 0, none⟩) x7_1.length co13) x7_1 from Z110); obtain ⟨ce15, hcl15, hM15, hcc15, hfr15⟩ := Kd.R_elem HX15.out z53 (x21_1 : Int) (odt Z2) (by have h_ : (x21_1 : Int) < ((x7_1.length : Int) : Int) := odt Z2; first | exact h_ | (have e_ := (Kd.R_reads' HO_7.out).1; omega) | simpa using h_); obtain rfl := k53_openM hM15; have HP15 := Kd.R_seg HX15.out (x21_1 : Int) (odt Z2) (by have h_ : (x21_1 : Int) < ((x7_1.length : Int) : Int) := odt Z2; first | exact h_ | (have e_ := (Kd.R_reads' HO_7.out).1; omega) | simpa using h_) (seg := [.string t134, .string t135]) (j := 0) hcl15 hcc15 (show 2 ≤ 2 from by decide) (x' := (⟨t134, t135⟩ : S53)) (k53_mkM _ _ _ (⟨t134, t135⟩ : S53) ) (fun _ hk => hk); have hx15_0 := hcc15 0 _ rfl; (try simp only [show (k53).sz = 2 from rfl, Nat.mul_one, Nat.add_zero] at hx15_0); have hf15_0 := hfr15 0; (try simp only [show (k53).sz = 2 from rfl, Nat.mul_one, Nat.add_zero] at hf15_0); have hx15_1 := hcc15 1 _ rfl; (try simp only [show (k53).sz = 2 from rfl, Nat.mul_one, Nat.add_zero] at hx15_1); have hf15_1 := hfr15 1; (try simp only [show (k53).sz = 2 from rfl, Nat.mul_one, Nat.add_zero] at hf15_1); clear hcl15 hcc15 hfr15 hM15) | ((with_reducible refine gate_store (t := 53) (p := 30) rfl ?_); refine store_event (t := 53) (p := 30) (v := ?vo_w16) (w1 := ((w14.setCell ⟨go13, (x21_1 : Int).toNat * 2, none⟩ (.string t134)).setCell ⟨go13, (x21_1 : Int).toNat * 2 + 1, none⟩ (.string t135))) ?hg ?ho ?hn ?hr ?_; (case ho => rfl); (case hg => rfl); (case hn => rfl); (case hr => exact Z12); intro w16 hw; have hg : w14.grownBy w16 (some go13) := (by rw [hw]; exact HP15.2); have hp_ : Kd.R k53 53 w16 w.heap.size (fun _ => True) (.slice (some ⟨go13, 0, none⟩) x7_1.length co13) y136 := (by rw [hw, Ny136.out]; exact HP15.1); clear HP15; replace HO_7 := AS (hp_); replace HB := AS ((by rw [hw]; exact bls (bls (HB.out) GB13.out) GB13.out : Below w.heap.size w w16)); clear hg hw hp_))
        go_roundg k1
        case measure => have := HK1.out; omega
        case rel => exact ⟨(y136), (wrap64 (x21_1 + 1)), Z4, H', ⟨Z85⟩, ⟨Z110⟩, ⟨Z0⟩⟩
       ·rw [if_neg c12] at H
        exact absurd H (by simp)
      ·rw [if_neg c10] at H
       exact absurd H (by simp)
     ·rw [if_neg c9] at H
      exact absurd H (by simp)
    ·rw [if_neg c8] at H
     have c8b0 : decide (x21_1 < (l1.length : Int)) = false := decide_eq_false c8; clear c8
     simp only [Option.some.injEq, Prod.mk.injEq] at H
     obtain ⟨rfl, rfl⟩ := H; go_wp2; go_ret2; exact ⟨_, Z3, Z110, Z0⟩
 ·rw [if_neg c4] at H
  exact absurd H (by simp)
def interval_sizes.l0 : Nat → List Int → List (List (S53)) → List (List Int) → Int → Int → Option ((List (List (S53))))
 | 0, _, _, _, _, _ => none
 | k + 1, x0, x5, x10, x11, x12 => if x12 < x11 then (if 0 ≤ x12 then (if x12 < (x10.length : Int) then ((size_Of.f k x0 (rd_L3 x10 x12)).bind fun bt138 => (if x5.length < 5864062014805 then (interval_sizes.l0 k x0 (x5 ++ [bt138.1]) x10 x11 (wrap64 (x12 + 1))) else (none))) else (none)) else (none)) else (some x5)
def interval_sizes.f (k : Nat) (l0 : List Int) (l1 : List (List Int)) : Option ((List (List (S53)))) := interval_sizes.l0 k l0 ([] : List (List (S53))) l1 (l1.length : Int) 0
theorem interval_sizes.calls (k : Nat) (A0 : Option Addr) (c0 : Nat) (l0 : List Int) (A1 : Option Addr) (c1 : Nat) (l1 : List (List Int)) (r : List (List (S53))) (w : World) (hr0 : Kd.C (Kd.int .i64) w A0 l0.length l0) (hc0 : l0.length ≤ c0) (hr1 : Kd.C (Kd.slice 3 (Kd.int .i64)) w A1 l1.length l1) (hc1 : l1.length ≤ c1) (hG : GL w) (h : interval_sizes.f k l0 l1 = some r) :
  Calls Tryz.prog 100 #[.slice A0 l0.length c0, .slice A1 l1.length c1] w fun e w' => ∃ v0_ : Value, e = .returned (v0_) ∧ Kd.S (Kd.slice 53 k53) 134 w' w.heap.size (fun _ => True) v0_ r ∧ Below w.heap.size w w' := by
 have HR0 := AS hr0; have HC0 := AS hc0; clear hr0 hc0; have HR1 := AS hr1; have HC1 := AS hc1; clear hr1 hc1; have HB := AS (blr w); have H : (interval_sizes.l0 k l0 ([] : List (List (S53))) l1 (l1.length : Int) 0) = some r := h; clear h; have H' := AS H; clear H; go_enter Tryz.func100, Tryz.ntmps100; go_wp2
 go_loopg [5, 12] k (fun kq v5 v12 w' => ∃ (x5_1 : List (List (S53))) (x12_1 : Int), v12 = .int .i64 x12_1 ∧ Aside0 (interval_sizes.l0 kq l0 x5_1 l1 (l1.length : Int) x12_1 = some r) ∧ Aside0 (kq ≤ k) ∧ Aside0 (Kd.S (Kd.slice 53 k53) 134 w' w.heap.size (fun _ => True) v5 x5_1) ∧ Aside0 (Below w.heap.size w w'))
 case atStart => exact ⟨(([] : List (List (S53)))), (0), Z4, H', ⟨Nat.le_refl _⟩, ⟨by first | exact Kd.S_nil _ _ _ _ _ | exact Kd.N_nil _ _ _ _ _ | exact Kd.V_nil _ _ _ _ _ | exact Kd.Q_nil _ _ _ _ _ | exact Kd.R_nil _ _ _ _ _⟩, ⟨Z0⟩⟩
 case round =>
  clear H'; (try clear c1); (try clear p2); obtain ⟨x5_1, x12_1, rfl, HA, HK1, HO_5, HB⟩ := hrel
  cases gk with
  | zero => exact absurd HA.out (by simp [interval_sizes.l0])
  | succ k1 =>
   have H := HA.out; clear HA
   simp only [interval_sizes.l0] at H
   by_cases c3 : x12_1 < (l1.length : Int)
   ·rw [if_pos c3] at H
    have c3b0 : decide (x12_1 < (l1.length : Int)) = true := dqt c3; clear c3
    by_cases c4 : 0 ≤ x12_1
    ·rw [if_pos c4] at H
     have c4b0 : decide (0 ≤ x12_1) = true := dqt c4; clear c4
     by_cases c5 : x12_1 < (l1.length : Int)
     ·rw [if_pos c5] at H
      have c5b0 : decide (x12_1 < (l1.length : Int)) = true := dqt c5; clear c5; replace H := bsm H; obtain ⟨⟨t138, t139⟩, A60, H⟩ := H; replace H : (if x5_1.length < 5864062014805 then (interval_sizes.l0 k1 l0 (x5_1 ++ [t138]) l1 (l1.length : Int) (wrap64 (x12_1 + 1))) else (none)) = some r := H; have A6 := AS A60; clear A60
      by_cases c7 : x5_1.length < 5864062014805
      ·rw [if_pos c7] at H
       have LMc7 := AS c7; clear c7
       obtain ⟨y142, hy142⟩ : ∃ y_ : List (List (S53)), y_ = (x5_1 ++ [t138]) := ⟨_, rfl⟩
       replace H : (interval_sizes.l0 k1 l0 y142 l1 (l1.length : Int) (wrap64 (x12_1 + 1))) = some r := by first | (rw [hy142]; with_reducible exact H) | (have H2_ := (Option.bind_some _ _).symm.trans H; rw [hy142]; with_reducible exact H2_) | (have H2_ := (Option.bind_some _ _).symm.trans H; with_reducible exact H2_) | with_reducible exact H | (rw [hy142]; exact H) | exact H
       have Ny142 := AS hy142; clear hy142; have H' := AS H; clear H; have p137 : 0 ≤ (x12_1 : Int) := odt Z2; have q137 : x12_1 < (l1.length : Int) := odt Z2; obtain ⟨ad137, A137_0, c137_0, e137, hx137_0, hl137_0, hi137_0⟩ := at_L3 HR1.out x12_1 p137 q137; cases e137; replace hx137_0 := (HB.out.cell (wbl w _ hx137_0)).trans hx137_0; have HR137_0 := AS hi137_0; have HC137_0 := AS hl137_0; clear hi137_0 hl137_0; replace p137 := eq_true p137; replace q137 := eq_true q137; go_wp2_with (first | ((with_reducible refine gtc (f := 127) rfl ?_); refine gsL (some 19) rfl rfl Tryz.func127 Z6 rfl #[.slice A0 l0.length c0, .slice A137_0 (rd_L3 l1 x12_1).length c137_0] rfl Z1 ?_; (with_reducible refine (size_Of.calls k1 _ _ l0 _ _ (rd_L3 l1 x12_1) t138 t139 _ ?side1 ?side2 ?side3 ?side4 ?side5 A6.out).mono ?_); (case side1 => exact Z9); (case side2 => exact Z81); (case side3 => repeat (first | exact (Kd.C_below HR137_0.out HB.out) | (with_reducible refine Kd.C_alloc ?_ _) | (with_reducible refine Kd.C_drewN ?_ _) | (with_reducible refine Kd.C_drew ?_))); (case side4 => exact HC137_0.out); (case side5 => exact Z168); rintro e w8 ⟨v140, rfl, ho0, hb⟩; refine ⟨_, rfl, ?_⟩; have HO141 := AS (Kd.R_lower ho0 (bsz Z0)); replace HO_5 := AS (Kd.S_elder' Z143 (Kd.R_base ho0) hb); replace HB := AS (bst Z0 hb); (try clear hb); (try clear ho0); obtain ⟨Ao10, co10, eo10⟩ := Kd.R_slice HO141.out; subst eo10) | ((with_reducible refine gate_builtin (b := .append) (xs := #[.tmp 22, .tmp 24]) rfl ?_); at_builtin; refine Kd.S_append (Kd.slice 53 k53) (w0 := w) w.heap.size rfl (.tmp 22) (.tmp 24) 130 134 (.slice none 0 0) 24 rfl Tryz.underlying130 info134 rfl (by decide) (by omega) u5 x5_1 t138 [.slice Ao10 t138.length co10] (fun _ => True) (fun k_ => some k_ = (.slice Ao10 t138.length co10 : Value).ownBlock) rfl rfl ?aP (fun k_ hk_ => ((Kd.R_mono (ok' := fun k_ => ((fun _ => True)) k_ ∧ some k_ ≠ (u5 : Value).ownBlock) (Kd.R_apart' (HO141.out) (Kd.S_typed HO_5.out) (by decide)) (fun k_ hk => ⟨trivial, hk.2⟩))).1 k_ hk_.symm) ?aF ?aO ?aB ?aS ?aL ?_; (case aP => exact Kd.M_row (Kd.R_mono (Kd.R_tight rfl (Kd.R_mono (ok' := fun k_ => ((fun _ => True)) k_ ∧ some k_ ≠ (u5 : Value).ownBlock) (Kd.R_apart' (HO141.out) (Kd.S_typed HO_5.out) (by decide)) (fun k_ hk => ⟨trivial, hk.2⟩))) (fun _ h_ => h_))); (case aB => exact Z0); (case aF => exact (fun _ _ => trivial)); (case aO => exact (by (with_reducible repeat (first | apply Kd.S_alloc | apply Kd.S_drewN | apply Kd.S_drew)); exact Kd.S_mono HO_5.out (fun k_ hk => ⟨trivial, fun e_ => hk.2 e_⟩))); (case aS => exact (bsz Z0)); (case aL => have := LMc7.out; omega); intro v143 w9 ho hb hg hat; rw [← Ny142.out] at ho; have HO144 := AS (ho); replace HB := AS (hb); clear HO_5 HO141; clear ho hb hg hat))
       go_roundg k1
       case measure => have := HK1.out; omega
       case rel => exact ⟨(y142), (wrap64 (x12_1 + 1)), Z4, H', ⟨Z85⟩, ⟨by (with_reducible repeat (first | apply Kd.S_alloc | apply Kd.S_drewN | apply Kd.S_drew)); exact HO144.out⟩, ⟨Z0⟩⟩
      ·rw [if_neg c7] at H
       exact absurd H (by simp)
     ·rw [if_neg c5] at H
      exact absurd H (by simp)
    ·rw [if_neg c4] at H
     exact absurd H (by simp)
   ·rw [if_neg c3] at H
    have c3b0 : decide (x12_1 < (l1.length : Int)) = false := decide_eq_false c3; clear c3; obtain rfl := Option.some.inj H; go_wp2; go_ret; exact ⟨_, Z3, Z143, Z0⟩
def whole_Sign.f (a0 : ByteArray) : Option (Int) := if a0.toList = ([48] : List UInt8) then (some 0) else (if 0 < (a0.size : Int) then (if (bt a0 0) = 45 then (some (-1)) else (some 1)) else (none))
theorem whole_Sign.calls (a0 : ByteArray) (r : Int) (w : World) (hG : GL w) (h : whole_Sign.f a0 = some r) :
  Calls Tryz.prog 88 #[.string a0] w fun e w' => e = .returned (.int .i64 r) ∧ Drawn0 w w' := by
 have HB := AS (blr w); have H : (if a0.toList = ([48] : List UInt8) then (some 0) else (if 0 < (a0.size : Int) then (if (bt a0 0) = 45 then (some (-1)) else (some 1)) else (none))) = some r := h; clear h
 by_cases c2 : a0.toList = ([48] : List UInt8)
 ·rw [if_pos c2] at H
  have c2b0 : (a0.toList == ([48] : List UInt8)) = true := bqt c2; have c2b1 : (a0.toList != ([48] : List UInt8)) = false := bnf c2; clear c2; obtain rfl := Option.some.inj H; go_enter Tryz.func88, Tryz.ntmps88; go_wp2; go_ret; exact ⟨Z4, Z11⟩
 ·rw [if_neg c2] at H
  have c2b0 : (a0.toList == ([48] : List UInt8)) = false := bqf c2; have c2b1 : (a0.toList != ([48] : List UInt8)) = true := bnt c2
  by_cases c3 : 0 < (a0.size : Int)
  ·rw [if_pos c3] at H
   have c3b0 : decide (0 < (a0.size : Int)) = true := dqt c3; have c3b1 : decide (0 < a0.size) = true := dqt (by omega); clear c3
   by_cases c5 : (bt a0 0) = 45
   ·rw [if_pos c5] at H
    have c5b0 : ((bt a0 0) == 45) = true := bqt c5; have c5b1 : ((bt a0 0) != 45) = false := bnf c5; clear c5; obtain rfl := Option.some.inj H; have p4 : 0 ≤ (0 : Int) := (by omega); have q4 : 0 < a0.size := (by have : (0 : Int) < (a0.size : Int) := odt Z2; omega)
    have hx4 : ∀ h : 0 < a0.size, ((a0[0]'h).toNat : Int) = bt a0 0 := bt_at a0 0
    clear p4; have qi4 : (0 < (a0.size : Int)) = True := eq_true (odt Z2); replace q4 := eq_true q4; go_enter Tryz.func88, Tryz.ntmps88; go_wp2; go_ret; exact ⟨Z4, Z11⟩
   ·rw [if_neg c5] at H
    have c5b0 : ((bt a0 0) == 45) = false := bqf c5; have c5b1 : ((bt a0 0) != 45) = true := bnt c5; obtain rfl := Option.some.inj H; have p4 : 0 ≤ (0 : Int) := (by omega); have q4 : 0 < a0.size := (by have : (0 : Int) < (a0.size : Int) := odt Z2; omega)
    have hx4 : ∀ h : 0 < a0.size, ((a0[0]'h).toNat : Int) = bt a0 0 := bt_at a0 0
    clear p4; have qi4 : (0 < (a0.size : Int)) = True := eq_true (odt Z2); replace q4 := eq_true q4; go_enter Tryz.func88, Tryz.ntmps88; go_wp2; go_ret; exact ⟨Z4, Z11⟩
  ·rw [if_neg c3] at H
   exact absurd H (by simp)
def whole_split.f (a0 : ByteArray) : Option (Bool × ByteArray) := if (a0.size : Int) > 0 then (if 0 < (a0.size : Int) then (if (bt a0 0) = 45 then (if 1 ≤ (a0.size : Int) then (some (true, a0.extract 1 a0.size)) else (none)) else (some (false, a0))) else (none)) else (some (false, a0))
theorem whole_split.calls (a0 : ByteArray) (r1 : Bool) (r2 : ByteArray) (w : World) (hG : GL w) (h : whole_split.f a0 = some (r1, r2)) :
  Calls Tryz.prog 98 #[.string a0] w fun e w' => e = .returned (.tuple #[.bool r1, .string r2]) ∧ Drawn0 w w' := by
 have HB := AS (blr w); have H : (if (a0.size : Int) > 0 then (if 0 < (a0.size : Int) then (if (bt a0 0) = 45 then (if 1 ≤ (a0.size : Int) then (some (true, a0.extract 1 a0.size)) else (none)) else (some (false, a0))) else (none)) else (some (false, a0))) = some (r1, r2) := h; clear h
 by_cases c2 : (a0.size : Int) > 0
 ·rw [if_pos c2] at H
  have c2b0 : decide (0 < (a0.size : Int)) = true := dqt c2; have c2b1 : decide (0 < a0.size) = true := dqt (by omega); clear c2
  by_cases c3 : 0 < (a0.size : Int)
  ·rw [if_pos c3] at H
   have c3b0 : decide (0 < (a0.size : Int)) = true := dqt c3; have c3b1 : decide (0 < a0.size) = true := dqt (by omega); clear c3
   by_cases c5 : (bt a0 0) = 45
   ·rw [if_pos c5] at H
    have c5b0 : ((bt a0 0) == 45) = true := bqt c5; have c5b1 : ((bt a0 0) != 45) = false := bnf c5; clear c5
    by_cases c6 : 1 ≤ (a0.size : Int)
    ·rw [if_pos c6] at H
     have c6b0 := eq_true c6; have c6b1 : decide (1 ≤ (a0.size : Int)) = true := dqt c6; clear c6
     simp only [Option.some.injEq, Prod.mk.injEq] at H
     obtain ⟨rfl, rfl⟩ := H; have p4 : 0 ≤ (0 : Int) := (by omega); have q4 : 0 < a0.size := (by have : (0 : Int) < (a0.size : Int) := odt Z2; omega)
     have hx4 : ∀ h : 0 < a0.size, ((a0[0]'h).toNat : Int) = bt a0 0 := bt_at a0 0
     clear p4; have qi4 : (0 < (a0.size : Int)) = True := eq_true (odt Z2); replace q4 := eq_true q4; go_enter Tryz.func98, Tryz.ntmps98; go_wp2
     repeat (go_quiet (fail); try go_wp2)
     go_ret2; exact ⟨Z4, Z11⟩
    ·rw [if_neg c6] at H
     exact absurd H (by simp)
   ·rw [if_neg c5] at H
    have c5b0 : ((bt a0 0) == 45) = false := bqf c5; have c5b1 : ((bt a0 0) != 45) = true := bnt c5
    simp only [Option.some.injEq, Prod.mk.injEq] at H
    obtain ⟨rfl, rfl⟩ := H; have p4 : 0 ≤ (0 : Int) := (by omega); have q4 : 0 < a0.size := (by have : (0 : Int) < (a0.size : Int) := odt Z2; omega)
    have hx4 : ∀ h : 0 < a0.size, ((a0[0]'h).toNat : Int) = bt a0 0 := bt_at a0 0
    clear p4; have qi4 : (0 < (a0.size : Int)) = True := eq_true (odt Z2); replace q4 := eq_true q4; go_enter Tryz.func98, Tryz.ntmps98; go_wp2
    repeat (go_quiet (fail); try go_wp2)
    go_ret2; exact ⟨Z4, Z11⟩
  ·rw [if_neg c3] at H
   exact absurd H (by simp)
 ·rw [if_neg c2] at H
  have c2b0 : decide (0 < (a0.size : Int)) = false := decide_eq_false c2; have c2b1 : decide (0 < a0.size) = false := decide_eq_false (by omega); clear c2
  simp only [Option.some.injEq, Prod.mk.injEq] at H
  obtain ⟨rfl, rfl⟩ := H; go_enter Tryz.func98, Tryz.ntmps98; go_wp2
  repeat (go_quiet (fail); try go_wp2)
  go_ret2; exact ⟨Z4, Z11⟩

def decimal_Check.f (a0 : ByteArray) : Option (Int) := (decimal_Canonical.f a0).bind fun t145 => (if t145 = true then (if (a0.size : Int) > 400 then (none) else (some 0)) else (none))
theorem decimal_Check.calls (a0 : ByteArray) (r : Int) (w : World) (hG : GL w) (h : decimal_Check.f a0 = some r) :
  Calls Tryz.prog 122 #[.string a0] w fun e w' => e = .returned (.int .i64 r) ∧ Below w.heap.size w w' := by
 have HB := AS (blr w); have H : ((decimal_Canonical.f a0).bind fun t145 => (if t145 = true then (if (a0.size : Int) > 400 then (none) else (some 0)) else (none))) = some r := h; clear h; replace H := bsm H; obtain ⟨t145, A20, H⟩ := H; replace H : (if t145 = true then (if (a0.size : Int) > 400 then (none) else (some 0)) else (none)) = some r := H; have A2 := AS A20; clear A20
 by_cases c3 : t145 = true
 ·subst c3
  rw [if_pos rfl] at H
  by_cases c4 : (a0.size : Int) > 400
  ·rw [if_pos c4] at H
   exact absurd H (by simp)
  ·rw [if_neg c4] at H
   have c4b0 : decide (400 < (a0.size : Int)) = false := decide_eq_false c4; have c4b1 : decide (400 < a0.size) = false := decide_eq_false (by omega); clear c4; obtain rfl := Option.some.inj H; go_enter Tryz.func122, Tryz.ntmps122; go_wp2_with (first | ((with_reducible refine gtc (f := 144) rfl ?_); refine gsL (some 4) rfl rfl Tryz.func144 Z6 rfl #[.string a0] rfl Z1 ?_; (with_reducible refine (decimal_Canonical.calls a0 true _ ?side1 A2.out).mono ?_); (case side1 => exact Z168); rintro e w5 ⟨rfl, hb⟩; refine ⟨_, rfl, ?_⟩; replace HB := AS (bst Z0 hb); (try clear hb))); go_ret; exact ⟨Z3, Z0⟩
 ·replace c3 := Bool.eq_false_iff.mpr c3; subst c3
  rw [if_neg ffl] at H
  exact absurd H (by simp)
def whole_Check.f (a0 : ByteArray) : Option (Int) := (whole_split.f a0).bind fun bt146 => (if bt146.1 = true then (if bt146.2.toList = ([48] : List UInt8) then (none) else ((decimal_Check.f bt146.2).bind fun t148 => (if t148 = 0 then (some 0) else (none)))) else ((decimal_Check.f bt146.2).bind fun t149 => (if t149 = 0 then (some 0) else (none))))
theorem whole_Check.calls (a0 : ByteArray) (r : Int) (w : World) (hG : GL w) (h : whole_Check.f a0 = some r) :
  Calls Tryz.prog 96 #[.string a0] w fun e w' => e = .returned (.int .i64 r) ∧ Below w.heap.size w w' := by
 have HB := AS (blr w); have H : ((whole_split.f a0).bind fun bt146 => (if bt146.1 = true then (if bt146.2.toList = ([48] : List UInt8) then (none) else ((decimal_Check.f bt146.2).bind fun t148 => (if t148 = 0 then (some 0) else (none)))) else ((decimal_Check.f bt146.2).bind fun t149 => (if t149 = 0 then (some 0) else (none))))) = some r := h; clear h; replace H := bsm H; obtain ⟨⟨t146, t147⟩, A20, H⟩ := H; replace H : (if t146 = true then (if t147.toList = ([48] : List UInt8) then (none) else ((decimal_Check.f t147).bind fun t148 => (if t148 = 0 then (some 0) else (none)))) else ((decimal_Check.f t147).bind fun t149 => (if t149 = 0 then (some 0) else (none)))) = some r := H; have A2 := AS A20; clear A20
 by_cases c3 : t146 = true
 ·subst c3
  rw [if_pos rfl] at H
  by_cases c4 : t147.toList = ([48] : List UInt8)
  ·rw [if_pos c4] at H
   exact absurd H (by simp)
  ·rw [if_neg c4] at H
   have c4b0 : (t147.toList == ([48] : List UInt8)) = false := bqf c4; have c4b1 : (t147.toList != ([48] : List UInt8)) = true := bnt c4; replace H := bsm H; obtain ⟨t148, A50, H⟩ := H; replace H : (if t148 = 0 then (some 0) else (none)) = some r := H; have A5 := AS A50; clear A50
   by_cases c6 : t148 = 0
   ·rw [if_pos c6] at H
    have c6b0 : (t148 == 0) = true := bqt c6; have c6b1 : (t148 != 0) = false := bnf c6; clear c6; obtain rfl := Option.some.inj H; go_enter Tryz.func96, Tryz.ntmps96; go_wp2_with (first | ((with_reducible refine gtc (f := 98) rfl ?_); refine gsL (some 7) rfl rfl Tryz.func98 Z6 rfl #[.string a0] rfl Z1 ?_; (with_reducible refine (whole_split.calls a0 true t147 _ ?side1 A2.out).mono ?_); (case side1 => exact Z168); rintro e w' ⟨rfl, ⟨nd, rfl⟩⟩; refine ⟨_, rfl, ?_⟩) | (go_at_call 122; (with_reducible refine (decimal_Check.calls t147 t148 _ ?side1 A5.out).mono ?_); (case side1 => exact Z168); rintro e w7 ⟨rfl, hb⟩; replace HB := AS (bst Z0 hb); (try clear hb))); go_ret; exact ⟨Z3, Z0⟩
   ·rw [if_neg c6] at H
    exact absurd H (by simp)
 ·replace c3 := Bool.eq_false_iff.mpr c3; subst c3
  rw [if_neg ffl] at H
  replace H := bsm H; obtain ⟨t149, A80, H⟩ := H; replace H : (if t149 = 0 then (some 0) else (none)) = some r := H; have A8 := AS A80; clear A80
  by_cases c9 : t149 = 0
  ·rw [if_pos c9] at H
   have c9b0 : (t149 == 0) = true := bqt c9; have c9b1 : (t149 != 0) = false := bnf c9; clear c9; obtain rfl := Option.some.inj H; go_enter Tryz.func96, Tryz.ntmps96; go_wp2_with (first | ((with_reducible refine gtc (f := 98) rfl ?_); refine gsL (some 7) rfl rfl Tryz.func98 Z6 rfl #[.string a0] rfl Z1 ?_; (with_reducible refine (whole_split.calls a0 false t147 _ ?side1 A2.out).mono ?_); (case side1 => exact Z168); rintro e w' ⟨rfl, ⟨nd, rfl⟩⟩; refine ⟨_, rfl, ?_⟩) | (go_at_call 122; (with_reducible refine (decimal_Check.calls t147 t149 _ ?side1 A8.out).mono ?_); (case side1 => exact Z168); rintro e w10 ⟨rfl, hb⟩; replace HB := AS (bst Z0 hb); (try clear hb))); go_ret; exact ⟨Z3, Z0⟩
  ·rw [if_neg c9] at H
   exact absurd H (by simp)
def whole_Abs.f (a0 : ByteArray) : Option (ByteArray) := (whole_split.f a0).bind fun bt150 => (some bt150.2)
theorem whole_Abs.calls (a0 : ByteArray) (r : ByteArray) (w : World) (hG : GL w) (h : whole_Abs.f a0 = some r) :
  Calls Tryz.prog 69 #[.string a0] w fun e w' => e = .returned (.string r) ∧ Drawn0 w w' := by
 have HB := AS (blr w); have H : ((whole_split.f a0).bind fun bt150 => (some bt150.2)) = some r := h; clear h; replace H := bsm H; obtain ⟨⟨t150, t151⟩, A20, H⟩ := H; replace H : (some t151) = some r := H; have A2 := AS A20; clear A20; obtain rfl := Option.some.inj H; go_enter Tryz.func69, Tryz.ntmps69; go_wp2_with (first | ((with_reducible refine gtc (f := 98) rfl ?_); refine gsL (some 7) rfl rfl Tryz.func98 Z6 rfl #[.string a0] rfl Z1 ?_; (with_reducible refine (whole_split.calls a0 t150 t151 _ ?side1 A2.out).mono ?_); (case side1 => exact Z168); rintro e w' ⟨rfl, ⟨nd, rfl⟩⟩; refine ⟨_, rfl, ?_⟩)); go_ret; exact ⟨Z4, Z11⟩

def atoiOk (s : ByteArray) : Option Int := if s.size ≤ 1000000 then (match Lib.atoiAll s.data.toList with | .ok v => some v | _ => none) else none
theorem atoiOk_spec {s : ByteArray} {v : Int} (h : atoiOk s = some v) : s.size ≤ 1000000 ∧ Lib.atoiAll s.data.toList = .ok v := by
 unfold atoiOk at h
 by_cases c : s.size ≤ 1000000
 ·rw [if_pos c] at h; refine ⟨c, ?_⟩
  split at h
  ·rename_i x hx
   rw [hx]; cases h; rfl
  ·cases h
 ·rw [if_neg c] at h; cases h
theorem atoi_calls {s : ByteArray} {v : Int} (h : atoiOk s = some v) (w : World) :
  Calls Tryz.prog 145 #[.string s] w fun e w' => e = .returned (.tuple #[.int .i64 v, .nilIface]) ∧ Below w.heap.size w w' := by
 obtain ⟨hs, hv⟩ := atoiOk_spec h; refine (Tryz.strconv_Atoi_ok s (by omega) v hv w).mono ?_; rintro e w' ⟨rfl, rfl | ⟨t, rfl⟩⟩
 ·exact ⟨rfl, Below.refl _ _⟩
 ·exact ⟨rfl, Lib.bytesWorld_below w 5 t⟩
def whLi.f (a0 : ByteArray) (a1 : Int) : Option (Int × Bool) := if (a0.size : Int) > a1 then some (0, false) else (atoiOk a0).map fun v => (v, true)
theorem whLi.calls (a0 : ByteArray) (a1 : Int) (r1 : Int) (r2 : Bool) (w : World) (hG : GL w) (h : whLi.f a0 a1 = some (r1, r2)) :
  Calls Tryz.prog 123 #[.string a0, .int .i64 a1] w fun e w' => e = .returned (.tuple #[.int .i64 r1, .bool r2]) ∧ Below w.heap.size w w' := by
 unfold whLi.f at h
 by_cases c : (a0.size : Int) > a1
 ·rw [if_pos c] at h; have c1 : decide (a1 < (a0.size : Int)) = true := dqt c; simp only [Option.some.injEq, Prod.mk.injEq] at h; obtain ⟨rfl, rfl⟩ := h; have hb := Below.refl w.heap.size w; clear c; go_enter Tryz.func123, Tryz.ntmps123; go_wp2; go_ret2; exact ⟨rfl, hb⟩
 ·rw [if_neg c] at h; have c1 : decide (a1 < (a0.size : Int)) = false := decide_eq_false c; obtain ⟨v, hv, he⟩ := Option.map_eq_some_iff.mp h; simp only [Prod.mk.injEq] at he; obtain ⟨rfl, rfl⟩ := he; have hc := AS (atoi_calls hv); clear c h hv; go_enter Tryz.func123, Tryz.ntmps123; go_wp2_with (go_at_call 145; refine (hc.out _).mono ?_; rintro e w' ⟨rfl, hb⟩)
  go_quiet (fail)
  go_wp2; go_ret2; exact ⟨rfl, pbn hb _⟩

end Go.Proofs.YtkgkihichdcpmaaGreatDoor.H
