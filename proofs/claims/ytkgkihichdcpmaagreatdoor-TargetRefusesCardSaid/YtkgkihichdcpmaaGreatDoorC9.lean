import Derived.Test.YtkgkihichdcpmaaGreatDoorC8
namespace Go.Proofs.YtkgkihichdcpmaaGreatDoor.H
open Go.RowKit Go.Proofs.YtkgkihichdcpmaaGreatDoorW.PrintWords Go.Proofs.YtkgkihichdcpmaaGreatDoorW.PrintLast Go.Proofs.YtkgkihichdcpmaaGreatDoorW.PrintMore
attribute [local go_sem] max2_int min2_int max_two min_two max_three min_three max_four min_four
set_option linter.unusedVariables false
set_option linter.unusedSimpArgs false
theorem info9_row : (Tryz.prog.info? 9).map (fun i => (i.zero, i.size, i.bytes)) = some (some (.string ⟨#[]⟩), 1, 16) := by kernel_rfl
def itoaB (n : Int) : ByteArray := ⟨(Lib.itoa n).toArray⟩
def textL (l : List Int) : ByteArray := ⟨(Lib.join (l.map Lib.itoa) [32]).toArray⟩
theorem textL_eq (l : List Int) : textL l = ⟨(Lib.join ((l.map itoaB).map (·.data.toList)) (⟨#[32]⟩ : ByteArray).data.toList).toArray⟩ := by
 simp [textL, itoaB, Function.comp_def]
theorem join_call (xs : List ByteArray) (v : Value) (w : World) (base : Nat) (h : Kd.R Kd.string 9 w base (fun _ => True) v xs) (hb : base ≤ w.heap.size) (hl : (Lib.join (xs.map (·.data.toList)) (⟨#[32]⟩ : ByteArray).data.toList).length ≤ 100000) (hn : xs.length ≤ 64) :
  Calls Tryz.prog 135 #[v, .string ⟨#[32]⟩] w fun e w' => e = .returned (.string ⟨(Lib.join (xs.map (·.data.toList)) (⟨#[32]⟩ : ByteArray).data.toList).toArray⟩) ∧ Below w.heap.size w w' := by
 have ho := Kd.own_of_R h
 rcases ho.2 with ⟨rfl, h0⟩ | ⟨g, cap, cur, rfl, hg, hgb, hc⟩
 ·obtain rfl : xs = [] := List.eq_nil_of_length_eq_zero h0
  refine (Tryz.strings_Join_none _ _ _ _).mono ?_
  rintro e w' ⟨rfl, rfl⟩
  exact ⟨rfl, Below.refl _ _⟩
 ·obtain ⟨hc1, hc2, _⟩ := hc
  have hlt := (Array.getElem?_eq_some_iff.1 hgb).1
  refine Tryz.strings_Join g 0 cap xs ⟨#[32]⟩ w (fun j x hx => ?_) hlt (by omega) hc1 (by omega)
  have := ho.cells (g := g) rfl j (.string x) (by simp [encs, hx])
  have ha : (⟨g, 0, none⟩ : Addr).add j = ⟨g, 0 + j, none⟩ := by unfold Addr.add; split <;> simp_all
  rwa [ha] at this
set_option maxHeartbeats 8000000 in
set_option maxRecDepth 100000 in
theorem rowText_walk (A0 : Option Addr) (c0 : Nat) (l0 : List Int) (r : ByteArray) (w : World) (hr0 : Kd.C (Kd.int .i64) w A0 l0.length l0) (hc0 : l0.length ≤ c0) (hG : GL w) (h0 : row_Check.f l0 = some 0) (h1 : l0.length ≤ 64 ∧ l0.all fitsB = true) (h2 : (Lib.join ((l0.map itoaB).map (·.data.toList)) (⟨#[32]⟩ : ByteArray).data.toList).length ≤ 100000) (hr : r = textL l0) :
  Calls Tryz.prog 110 #[.slice A0 l0.length c0, .bool true] w fun e w' => e = .returned (.tuple #[.string (⟨#[91]⟩ ++ r ++ ⟨#[62]⟩), .int .i64 0]) ∧ Below w.heap.size w w' := by
 have HC := AS (row_Check.calls A0 c0 l0 0 w hr0 hc0 hG h0)
 have HR := AS hr0
 have HGL := AS hG
 have HF := AS h1.2
 have HL := AS h2
 have hn := h1.1
 have HX := AS (hr.trans (textL_eq l0))
 clear hr0 hG h0 h1 h2 hr
 go_enter Tryz.func110, Tryz.ntmps110
 go_wp2_with (go_at_call 134; refine (HC.out).mono ?_; rintro e w1 ⟨rfl, hb⟩; have HB := AS hb; clear hb)
 go_loopw [7, 18] (fun v i wr => ∃ k : Nat, i = .int .i64 k ∧ k ≤ l0.length ∧ Aside0 (Kd.R Kd.string 9 wr w.heap.size (fun _ => True) v ((l0.take k).map itoaB)) ∧ Aside0 (Below w.heap.size w wr)) (fun _ i _ => l0.length - (intOf i).toNat)
 case atStart => exact ⟨0, rfl, Nat.zero_le _, ⟨Kd.R_nil _ _ _ _ _⟩, HB⟩
 case round =>
  obtain ⟨k, rfl, hk, HO, HB2⟩ := hrel
  by_cases hlt : k < l0.length
  ·obtain ⟨ad, rfl, hcell0⟩ := C_int_at HR.out k hlt
   have hcell := pw_cell_below HB2.out hcell0
   have HT : Aside0 ((l0.take k).map itoaB ++ [itoaB (l0.getD k 0)] = (l0.take (k + 1)).map itoaB) := ⟨by
    rw [List.take_succ_eq_append_getElem hlt, List.map_append, List.getD_eq_getElem?_getD, List.getElem?_eq_getElem hlt]
    rfl⟩
   have hf : -1000000000 ≤ l0.getD k 0 ∧ l0.getD k 0 ≤ 1000000000 := by
    have := List.all_eq_true.mp HF.out (l0[k]) (List.getElem_mem ..)
    simp only [fitsB, Bool.and_eq_true, decide_eq_true_eq] at this
    rw [List.getD_eq_getElem?_getD, List.getElem?_eq_getElem hlt]
    exact this
   have hlen : ((l0.take k).map itoaB).length ≤ 64 := by simp; omega
   generalize l0.getD k 0 = x at *
   obtain ⟨hf0, hf1⟩ := hf
   have HI := AS (strconv_Itoa.calls x (itoaB x) wr (HGL.out.below HB2.out) (by unfold strconv_Itoa.f; rw [if_pos ⟨by omega, by omega⟩]; rfl))
   clear hcell0
   go_wp2_with (first | (go_at_call 90; refine (HI.out).mono ?_; rintro e w3 ⟨rfl, hbg⟩; have HB3 := AS (below_step HB2.out hbg); have HO3 := AS (Kd.R_below HO.out hbg); clear hbg) | (at_builtin; (refine Kd.R_append Kd.string (w0 := w) w.heap.size rfl (.tmp 22) (.tmp 25) 175 9 (.string ⟨#[]⟩) 16 rfl Tryz.underlying175 info9_row rfl (by decide) (by decide) u7 ((l0.take k).map itoaB) (itoaB x) [.string (itoaB x)] (fun _ => True) (fun _ => False) rfl rfl rfl (fun _ hk_ => hk_.elim) (fun _ _ => trivial) HO3.out HB3.out HB3.out.size (by omega) ?_); intro v4 w4 hown4 hB4 _ _; have HO4 := AS hown4; have HB4 := AS hB4; clear hown4 hB4))
   go_roundw
   case rel => exact ⟨k + 1, by go_num, by omega, ⟨by rw [← HT.out]; exact HO4.out⟩, HB4⟩
   case measure => simp [intOf]; omega
  ·obtain rfl : k = l0.length := by omega
   rw [List.take_length] at HO
   have hj := join_call (l0.map itoaB) u7 wr w.heap.size HO.out HB2.out.size HL.out Z165
   obtain ⟨J, hJ⟩ : ∃ J : ByteArray, J = ⟨(Lib.join ((l0.map itoaB).map (·.data.toList)) (⟨#[32]⟩ : ByteArray).data.toList).toArray⟩ := ⟨_, rfl⟩
   have hJs : J.size ≤ 100000 := by rw [hJ]; exact HL.out
   have HJE := AS hJ
   rw [← hJ] at hj
   have hJ2 : ((⟨#[91]⟩ : ByteArray) ++ J).size ≤ 100001 := by rw [ByteArray.size_append]; show 1 + J.size ≤ 100001; omega
   have HJ := AS hj
   clear hj hJ
   go_wp2_with (go_at_call 135; refine (HJ.out).mono ?_; rintro e w5 ⟨rfl, hb5⟩; have HB5 := AS (below_step HB2.out hb5); clear hb5)
   go_ret2
   exact ⟨by rw [HX.out, ← HJE.out]; rfl, HB5.out⟩
def row_Text.f (l0 : List Int) (a1 : Bool) : Option (ByteArray × Int) := if a1 = true ∧ l0.length ≤ 64 ∧ l0.all fitsB = true ∧ (Lib.join ((l0.map itoaB).map (·.data.toList)) (⟨#[32]⟩ : ByteArray).data.toList).length ≤ 100000 then some (⟨#[91]⟩ ++ textL l0 ++ ⟨#[62]⟩, 0) else none
theorem row_Text.calls (A0 : Option Addr) (c0 : Nat) (l0 : List Int) (a1 : Bool) (r1 : ByteArray) (r2 : Int) (w : World) (hr0 : Kd.C (Kd.int .i64) w A0 l0.length l0) (hc0 : l0.length ≤ c0) (hG : GL w) (h : row_Text.f l0 a1 = some (r1, r2)) :
  Calls Tryz.prog 110 #[.slice A0 l0.length c0, .bool a1] w fun e w' => e = .returned (.tuple #[.string r1, .int .i64 r2]) ∧ Below w.heap.size w w' := by
 unfold row_Text.f at h
 by_cases c : a1 = true ∧ l0.length ≤ 64 ∧ l0.all fitsB = true ∧ (Lib.join ((l0.map itoaB).map (·.data.toList)) (⟨#[32]⟩ : ByteArray).data.toList).length ≤ 100000
 ·rw [if_pos c] at h
  simp only [Option.some.injEq, Prod.mk.injEq] at h
  obtain ⟨rfl, rfl⟩ := h
  obtain ⟨rfl, c1, c2, c3⟩ := c
  exact rowText_walk A0 c0 l0 _ w hr0 hc0 hG (by unfold row_Check.f; rw [if_pos ⟨c1, c2⟩]) ⟨c1, c2⟩ c3 rfl
 ·rw [if_neg c] at h
  cases h
end Go.Proofs.YtkgkihichdcpmaaGreatDoor.H
