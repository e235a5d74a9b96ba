import Derived.Test.YtkgkihichdcpmaaGreatDoorC8
import Derived.ProofKit
import Derived.OpenShut
import Derived.ChangeOld
import Derived.SizedLaws
import Derived.Lay
import Derived.Lib.LaidU8
import Derived.Lib.LaidTab
import Derived.Deep.Matrix
import Derived.Test.YtkgkihichdcpmaaGreatDoorRows
import Derived.Laws.IdiomArrays
import Derived.Deep.Slices
section
namespace Go.Proofs.YtkgkihichdcpmaaGreatDoor.H
open Go.RowKit Go.Shelf Go.Proofs.YtkgkihichdcpmaaGreatDoorW.PrintWords Go.Proofs.YtkgkihichdcpmaaGreatDoorW.PrintLast Go.Proofs.YtkgkihichdcpmaaGreatDoorW.PrintMore
open Dec
set_option linter.unusedVariables false
def one1 : ByteArray := ⟨#[49]⟩
def r300 : List Int := (List.range 601).map fun (i : Nat) => (i : Int) - 300
theorem mem_r300 {n : Int} (h : -300 ≤ n) (h2 : n ≤ 300) : n ∈ r300 := List.mem_map.2 ⟨(n + 300).toNat, List.mem_range.2 (by omega), by omega⟩
theorem bytes_of {a : ByteArray} {l : List UInt8} (h : a.data.toList = l) : a = ⟨l.toArray⟩ := by
 cases a; simp at h; subst h; simp
def bl (a : ByteArray) : List UInt8 := a.data.toList
def t1B (n : Int) : Bool := decide ((fraction_Div.f 30 (itoaB n) one1 one1 one1).map (fun r => (bl r.1, bl r.2.1, r.2.2)) = some (Lib.itoa n, [49], 0))
def t2B (n : Int) : Bool := decide ((fraction_Mul.f 30 (itoaB n) one1 one1 one1).map (fun r => (bl r.1, bl r.2)) = some (Lib.itoa n, [49]))
def t3B (n : Int) : Bool := decide ((fraction_Mul.f 30 (itoaB n) one1 (itoaB 0) one1).map (fun r => (bl r.1, bl r.2)) = some ([48], [49]))
def t4B (n : Int) : Bool := decide ((fraction_Floor.f 30 (itoaB n) one1).map bl = some (Lib.itoa n))
def t5B (n : Int) : Bool := decide ((whole_Mul.f 30 (itoaB n) one1).map bl = some (Lib.itoa n))
def t6B (n : Int) : Bool := decide (whole_Small.f (itoaB n) = some (n, true))
def t7B (n : Int) : Bool := decide (frCk.f 30 (itoaB n) one1 = some 0)
def t8B (n : Int) : Bool := decide (size_short.f (itoaB n) one1 = some true)
theorem t1_all : r300.all t1B = true := by kernel_rfl
theorem t2_all : r300.all t2B = true := by kernel_rfl
theorem t3_all : r300.all t3B = true := by kernel_rfl
theorem t4_all : r300.all t4B = true := by kernel_rfl
theorem t5_all : r300.all t5B = true := by kernel_rfl
theorem t6_all : r300.all t6B = true := by kernel_rfl
theorem t7_all : r300.all t7B = true := by kernel_rfl
theorem t8_all : r300.all t8B = true := by kernel_rfl
def S300 (n : Int) : Prop := -300 ≤ n ∧ n ≤ 300
theorem div_num {n : Int} (h : S300 n) (k : Nat) (hk : 30 ≤ k) : fraction_Div.f k (itoaB n) one1 one1 one1 = some (itoaB n, one1, 0) := by
 refine at_rounds (g := fun k => fraction_Div.f k (itoaB n) one1 one1 one1) (fun k => fraction_Div.mono _ _ _ _ k) hk ?_; have := of_decide_eq_true (List.all_eq_true.1 t1_all n (mem_r300 h.1 h.2)); obtain ⟨⟨a, b, c⟩, hr, he⟩ := Option.map_eq_some_iff.1 this; simp only [Prod.mk.injEq] at he; obtain ⟨h1, h2, h3⟩ := he
 show fraction_Div.f 30 _ _ _ _ = _
 rw [hr, bytes_of h1, bytes_of h2, h3]; rfl
theorem mul_num {n : Int} (h : S300 n) (k : Nat) (hk : 30 ≤ k) : fraction_Mul.f k (itoaB n) one1 one1 one1 = some (itoaB n, one1) := by
 refine at_rounds (g := fun k => fraction_Mul.f k (itoaB n) one1 one1 one1) (fun k => fraction_Mul.mono _ _ _ _ k) hk ?_; have := of_decide_eq_true (List.all_eq_true.1 t2_all n (mem_r300 h.1 h.2)); obtain ⟨⟨a, b⟩, hr, he⟩ := Option.map_eq_some_iff.1 this; simp only [Prod.mk.injEq] at he; obtain ⟨h1, h2⟩ := he
 show fraction_Mul.f 30 _ _ _ _ = _
 rw [hr, bytes_of h1, bytes_of h2]; rfl
theorem mul_zero_num {n : Int} (h : S300 n) (k : Nat) (hk : 30 ≤ k) : fraction_Mul.f k (itoaB n) one1 (itoaB 0) one1 = some (itoaB 0, one1) := by
 refine at_rounds (g := fun k => fraction_Mul.f k (itoaB n) one1 (itoaB 0) one1) (fun k => fraction_Mul.mono _ _ _ _ k) hk ?_; have := of_decide_eq_true (List.all_eq_true.1 t3_all n (mem_r300 h.1 h.2)); obtain ⟨⟨a, b⟩, hr, he⟩ := Option.map_eq_some_iff.1 this; simp only [Prod.mk.injEq] at he; obtain ⟨h1, h2⟩ := he
 show fraction_Mul.f 30 _ _ _ _ = _
 rw [hr, bytes_of h1, bytes_of h2]
 kernel_rfl
theorem floor_num {n : Int} (h : S300 n) (k : Nat) (hk : 30 ≤ k) : fraction_Floor.f k (itoaB n) one1 = some (itoaB n) := by
 refine at_rounds (g := fun k => fraction_Floor.f k (itoaB n) one1) (fun k => fraction_Floor.mono _ _ k) hk ?_; have := of_decide_eq_true (List.all_eq_true.1 t4_all n (mem_r300 h.1 h.2)); obtain ⟨a, hr, he⟩ := Option.map_eq_some_iff.1 this
 show fraction_Floor.f 30 _ _ = _
 rw [hr, bytes_of he]; rfl
theorem wmul_num {n : Int} (h : S300 n) (k : Nat) (hk : 30 ≤ k) : whole_Mul.f k (itoaB n) one1 = some (itoaB n) := by
 refine at_rounds (g := fun k => whole_Mul.f k (itoaB n) one1) (fun k => whole_Mul.mono _ _ k) hk ?_; have := of_decide_eq_true (List.all_eq_true.1 t5_all n (mem_r300 h.1 h.2)); obtain ⟨a, hr, he⟩ := Option.map_eq_some_iff.1 this
 show whole_Mul.f 30 _ _ = _
 rw [hr, bytes_of he]; rfl
theorem small_num {n : Int} (h : S300 n) : whole_Small.f (itoaB n) = some (n, true) := of_decide_eq_true (List.all_eq_true.1 t6_all n (mem_r300 h.1 h.2))
theorem fcheck_num {n : Int} (h : S300 n) (k : Nat) (hk : 30 ≤ k) : frCk.f k (itoaB n) one1 = some 0 :=
 at_rounds (g := fun k => frCk.f k (itoaB n) one1) (fun k => frCk.mono _ _ k) hk (of_decide_eq_true (List.all_eq_true.1 t7_all n (mem_r300 h.1 h.2)))
theorem short_num {n : Int} (h : S300 n) : size_short.f (itoaB n) one1 = some true := of_decide_eq_true (List.all_eq_true.1 t8_all n (mem_r300 h.1 h.2))
theorem lcm_one (k : Nat) (hk : 30 ≤ k) : whole_Lcm.f k one1 one1 = some one1 := by
 refine at_rounds (g := fun k => whole_Lcm.f k one1 one1) (fun k => whole_Lcm.mono _ _ k) hk ?_
 kernel_rfl
theorem divmod_one (k : Nat) (hk : 30 ≤ k) : whDM.f k one1 one1 = some (one1, itoaB 0, 0) := by
 refine at_rounds (g := fun k => whDM.f k one1 one1) (fun k => whDM.mono _ _ k) hk ?_
 kernel_rfl
theorem small_one1 : whole_Small.f one1 = some (1, true) := by kernel_rfl
theorem itoaB_one : itoaB 1 = one1 := by kernel_rfl
theorem of_num {n : Int} (h : S300 n) : whOf.f n = some (itoaB n) := by
 unfold whOf.f strconv_Itoa.f; have := h.1; have := h.2; rw [if_pos (by omega)]; rfl
theorem number_num {n : Int} (h : S300 n) : size_number.f n = some (itoaB n, one1) := by
 unfold size_number.f; rw [of_num h]; rfl
theorem itoaB_list (n : Int) : (itoaB n).toList = Lib.itoa n := by
 rw [ByteArray.toList_eq]; unfold itoaB; simp
theorem itoa_zero : Lib.itoa 0 = [48] := by kernel_rfl
theorem itoaB_zero {n : Int} : (itoaB n).toList = ([48] : List UInt8) ↔ n = 0 := by
 rw [itoaB_list, ← itoa_zero]; exact ⟨itoa_inj, fun h => by rw [h]⟩
def fastB (x : Nat × Nat) : Bool := decide (size_fast.f 2000000 (x.1 : Int) = some ((x.2 : Int), true))
theorem fast_all : logTab.all fastB = true := by kernel_rfl
theorem fast_num {a : Int} (h : isPr a) : size_fast.f 2000000 a = some ((logA a : Int), true) := by
 obtain ⟨x, hx, hxa⟩ := List.mem_map.1 h.1; have h1 := of_decide_eq_true (List.all_eq_true.1 fast_all x hx); have h2 := of_decide_eq_true (List.all_eq_true.1 lookups x hx)
 have hA : logA a = x.2 := by unfold logA; rw [← hxa, h2]; rfl
 have h0 := h.2; rw [hA, ← h1, hxa]
 congr 1
 omega
def szN (n : Int) : S53 := ⟨itoaB n, one1⟩
def sz (x : List Int) : List S53 := x.map szN
theorem sz_len (x : List Int) : (sz x).length = x.length := by unfold sz; rw [List.length_map]
theorem rd_sz (x : List Int) (i : Nat) (h : i < x.length) : rd_T53 (sz x) (i : Int) = szN x[i] := by
 unfold rd_T53 sz; rw [Int.toNat_natCast, List.getD_eq_getElem?_getD, List.getElem?_map, List.getElem?_eq_getElem h]; rfl
theorem w_succ {i : Nat} (h : i < 1000000) : wrap64 ((i : Int) + 1) = ((i + 1 : Nat) : Int) := by unfold wrap64; omega
theorem set_mid {α : Type} (a r : List α) (b v : α) (i : Nat) (h : a.length = i) : (a ++ b :: r).set i v = a ++ v :: r := by
 subst h; simp
theorem zero_l0 (n : Nat) (hn : n ≤ 1000) (z : S53) : ∀ (m i : Nat), n - i = m → i ≤ n → ∀ k, m + 1 ≤ k → size_zero.l0 k (List.replicate i (szN 0) ++ List.replicate (n - i) z) (n : Int) (i : Int) = some (List.replicate n (szN 0))
 | m, i, hm, hi, 0, hk => by omega
 | m, i, hm, hi, k + 1, hk => by
  unfold size_zero.l0
  by_cases h : i < n
  ·obtain ⟨m', rfl⟩ : ∃ m', m = m' + 1 := ⟨m - 1, by omega⟩
   have e : List.replicate (n - i) z = z :: List.replicate (n - (i + 1)) z := by rw [show n - i = (n - (i + 1)) + 1 by omega, List.replicate_succ]
   rw [if_pos (by omega), number_num ⟨by omega, by omega⟩]; simp only [Option.bind_some]; rw [if_pos (by omega), if_pos (by simp; omega), e, Int.toNat_natCast, set_mid _ _ _ _ _ (by simp), w_succ (by omega)]; have := zero_l0 n hn z m' (i + 1) (by omega) (by omega) k (by omega); rw [List.replicate_succ', List.append_assoc] at this; exact this
  ·obtain rfl : i = n := by omega
   rw [if_neg (by omega)]; simp
theorem zero_f (n : Nat) (hn : n ≤ 1000) (k : Nat) (hk : n + 1 ≤ k) : size_zero.f k (n : Int) = some (List.replicate n (szN 0)) := by
 unfold size_zero.f; rw [if_pos (by omega), if_pos (by omega)]; simp only [Option.bind_some, Int.toNat_natCast, List.length_replicate]; have := zero_l0 n hn z53 n 0 (by omega) (by omega) k hk
 simpa using this
theorem of_l0 (x : List Int) (hl : x.length ≤ 1000) (hx : ∀ e ∈ x, S300 e) : ∀ (m i : Nat), x.length - i = m → i ≤ x.length → ∀ k, m + 1 ≤ k → size_Of.l0 k (sz (x.take i) ++ List.replicate (x.length - i) (szN 0)) x (x.length : Int) (i : Int) = some (sz x, 0)
 | m, i, hm, hi, 0, hk => by omega
 | m, i, hm, hi, k + 1, hk => by
  unfold size_Of.l0
  by_cases h : i < x.length
  ·obtain ⟨m', rfl⟩ : ∃ m', m = m' + 1 := ⟨m - 1, by omega⟩
   have e : List.replicate (x.length - i) (szN 0) = szN 0 :: List.replicate (x.length - (i + 1)) (szN 0) := by rw [show x.length - i = (x.length - (i + 1)) + 1 by omega, List.replicate_succ]
   rw [if_pos (by omega), if_pos (by omega), if_pos (by omega), rd_nat x i h, number_num (hx _ (List.getElem_mem h))]; simp only [Option.bind_some]; rw [if_pos (by simp [sz]; omega), e, Int.toNat_natCast, set_mid _ _ _ _ _ (by simp [sz]; omega), w_succ (by omega)]; have := of_l0 x hl hx m' (i + 1) (by omega) (by omega) k (by omega); rw [List.take_succ_eq_append_getElem h] at this; simp only [sz, List.map_append, List.map_cons, List.map_nil, List.append_assoc] at this ⊢; exact this
  ·obtain rfl : i = x.length := by omega
   rw [if_neg (by omega)]; simp
structure OnP (p x : List Int) : Prop where
 chk : prCk.f 300 p = some 0
 pr : ∀ a ∈ p, isPr a
 inc : Cops p
 len : x.length = p.length
 small : ∀ e ∈ x, -100 ≤ e ∧ e ≤ 100
theorem OnP.right {p x : List Int} (h : OnP p x) : RightX p.length x := ⟨h.len, fun e he => by have := h.small e he; omega⟩
theorem OnP.six {p x : List Int} (h : OnP p x) : p.length ≤ 6 := primeCheck_zero h.chk
theorem OnP.s300 {p x : List Int} (h : OnP p x) : ∀ e ∈ x, S300 e := fun e he => by have := h.small e he; unfold S300; omega
theorem OnP.two {p x : List Int} (h : OnP p x) : ∀ a ∈ p, 2 ≤ a := fun a ha => (log_bounds (h.pr a ha)).2.2.1
theorem size_of {p x : List Int} (h : OnP p x) (k : Nat) (hk : 400 ≤ k) : size_Of.f k p x = some (sz x, 0) := by
 have h6 := h.six; have hl := h.len; unfold size_Of.f; rw [mcheck_at p x h.chk h.right k (by omega)]; simp only [Option.bind_some, if_true]; rw [zero_f p.length (by omega) k (by omega)]; simp only [Option.bind_some]; have := of_l0 x (by omega) h.s300 x.length 0 (by omega) (by omega) k (by omega); rw [← hl]
 simpa [sz] using this
theorem check_l0 (x : List Int) (hl : x.length ≤ 1000) (hx : ∀ e ∈ x, S300 e) : ∀ (m i : Nat), x.length - i = m → i ≤ x.length → ∀ k, m + 31 ≤ k → size_check.l0 k (sz x) (x.length : Int) (i : Int) = some 0
 | m, i, hm, hi, 0, hk => by omega
 | m, i, hm, hi, k + 1, hk => by
  unfold size_check.l0
  by_cases h : i < x.length
  ·obtain ⟨m', rfl⟩ : ∃ m', m = m' + 1 := ⟨m - 1, by omega⟩
   have hs := hx _ (List.getElem_mem h); rw [if_pos (by omega), if_pos (by omega), if_pos (by rw [sz_len]; omega), rd_sz x i h]; simp only [szN]; rw [fcheck_num hs k (by omega)]; simp only [Option.bind_some, if_true]; rw [short_num hs]; simp only [Option.bind_some, if_true]; rw [w_succ (by omega)]; exact check_l0 x hl hx m' (i + 1) (by omega) (by omega) k (by omega)
  ·rw [if_neg (by omega)]
theorem checkAll_two {p x y : List Int} (h : OnP p x) (h' : OnP p y) (k : Nat) (hk : 400 ≤ k) : size_CheckAll.f k p [sz x, sz y] = some 0 := by
 have h6 := h.six; have hl := h.len; have hl' := h'.len
 have hc : ∀ (z : List Int), OnP p z → ∀ k, 300 ≤ k → size_check.f k p (sz z) = some 0 := fun z hz k hk => by
  have := hz.len; unfold size_check.f; rw [if_pos (by rw [sz_len]; omega), sz_len]; exact check_l0 z (by omega) hz.s300 z.length 0 (by omega) (by omega) k (by omega)
 unfold size_CheckAll.f; rw [at_rounds (g := fun k => prCk.f k p) (fun k => prCk.mono p k) (show 300 ≤ k by omega) h.chk]; simp only [Option.bind_some, if_true]
 obtain ⟨k, rfl⟩ : ∃ m, k = m + 3 := ⟨k - 3, by omega⟩
 have r0 : rd_L8 [sz x, sz y] 0 = sz x := rfl; have r1 : rd_L8 [sz x, sz y] 1 = sz y := rfl
 show size_CheckAll.l0 (k + 2 + 1) p [sz x, sz y] 2 0 = some 0
 unfold size_CheckAll.l0; rw [if_pos (by decide), if_pos (by decide), if_pos (by simp), r0, hc x h _ (by omega)]; simp only [Option.bind_some, if_true]; rw [show wrap64 (0 + 1) = 1 by unfold wrap64; omega]
 show size_CheckAll.l0 (k + 1 + 1) p [sz x, sz y] 2 1 = some 0
 unfold size_CheckAll.l0; rw [if_pos (by decide), if_pos (by decide), if_pos (by simp), r1, hc y h' _ (by omega)]; simp only [Option.bind_some, if_true]; rw [show wrap64 (1 + 1) = 2 by unfold wrap64; omega]
 show size_CheckAll.l0 (k + 1) p [sz x, sz y] 2 2 = some 0
 unfold size_CheckAll.l0; rw [if_neg (by decide)]
def unitL (n : Nat) : List Int := 1 :: List.replicate (n - 1) 0
theorem unitL_at (n i : Nat) (h : i < (unitL n).length) : (unitL n)[i] = if i = 0 then 1 else 0 := by
 unfold unitL at *
 cases i with
 | zero => rfl
 | succ i => simp
theorem ratio_l1 (x : List Int) (c : Int) (hl : x.length ≤ 1000) (hx : ∀ e ∈ x, S300 e) (hc : x.getD 0 0 = c) (h0 : 0 < x.length) : ∀ (m i : Nat), x.length - i = m → i ≤ x.length → ∀ k, m + 31 ≤ k →
  szra.l1 k (sz x) (sz (unitL x.length)) (x.length : Int) (i : Int) (itoaB c) one1 = some (itoaB c, one1, ((x.drop i).drop (1 - i)).all fun e => e == 0)
 | m, i, hm, hi, 0, hk => by omega
 | m, i, hm, hi, k + 1, hk => by
  have hul : (unitL x.length).length = x.length := by unfold unitL; simp; omega
  have hcm : c ∈ x := by rw [← hc, List.getD_eq_getElem?_getD, List.getElem?_eq_getElem h0]; exact List.getElem_mem h0
  have hcs := hx c hcm; unfold szra.l1
  by_cases h : i < x.length
  ·obtain ⟨m', rfl⟩ : ∃ m', m = m' + 1 := ⟨m - 1, by omega⟩
   have hs := hx _ (List.getElem_mem h); rw [if_pos (by omega), if_pos (by omega), if_pos (by rw [sz_len, hul]; omega), rd_sz _ i (by omega), unitL_at _ i (by omega), rd_sz x i h]; have ih := ratio_l1 x c hl hx hc h0 m' (i + 1) (by omega) (by omega) k (by omega)
   have hlt : (i : Int) < ((sz x).length : Int) := by rw [sz_len]; omega
   by_cases hi0 : i = 0
   ·subst hi0
    have hc0 : x[0] = c := by rw [← hc, List.getD_eq_getElem?_getD, List.getElem?_eq_getElem h]; rfl
    simp only [szN, if_true, itoaB_one, hc0]; rw [mul_num hcs k (by omega)]; simp only [Option.bind_some]; rw [if_pos hlt, if_neg (by simp), w_succ (by omega), ih]; simp
   ·simp only [szN, if_neg hi0]; rw [mul_zero_num hcs k (by omega)]; simp only [Option.bind_some]; rw [if_pos hlt]
    have hd : ((x.drop i).drop (1 - i)) = x[i] :: ((x.drop (i + 1)).drop (1 - (i + 1))) := by
     rw [show 1 - i = 0 by omega, show 1 - (i + 1) = 0 by omega, List.drop_zero, List.drop_zero]; exact List.drop_eq_getElem_cons h
    by_cases hz : x[i] = 0
    ·refine (if_neg (by simp [hz])).trans ?_; rw [w_succ (by omega), ih, hd, hz]; simp
    ·have : ¬ (itoaB 0).toList = (itoaB x[i]).toList := fun e => hz (by rw [itoaB_list, itoaB_list] at e; exact (itoa_inj e).symm)
     refine (if_pos (by simp [this])).trans ?_; rw [hd, List.all_cons, show (x[i] == 0) = false by simp [hz], Bool.false_and]
  ·rw [if_neg (by omega), show x.drop i = [] from List.drop_eq_nil_of_le (by omega)]; simp
theorem ratio_l0 (x : List Int) (hl : x.length ≤ 1000) (hx : ∀ e ∈ x, S300 e) (h0 : 0 < x.length) : ∀ (m i : Nat), x.length - i = m → i ≤ x.length → ∀ (c : ByteArray), (0 < i → c = itoaB (x.getD 0 0)) → ∀ k, m + x.length + 33 ≤ k →
  szra.l0 k (sz x) (sz (unitL x.length)) (sz (unitL x.length)) (x.length : Int) (i : Int) c one1 = some (itoaB (x.getD 0 0), one1, (x.drop 1).all fun e => e == 0)
 | m, i, hm, hi, c, hci, 0, hk => by omega
 | m, i, hm, hi, c, hci, k + 1, hk => by
  have hul : (unitL x.length).length = x.length := by unfold unitL; simp; omega
  unfold szra.l0
  by_cases h : i < x.length
  ·obtain ⟨m', rfl⟩ : ∃ m', m = m' + 1 := ⟨m - 1, by omega⟩
   rw [if_pos (by omega), if_pos (by omega), if_pos (by rw [sz_len, hul]; omega), rd_sz _ i (by omega), unitL_at _ i (by omega)]
   by_cases hi0 : i = 0
   ·subst hi0; have hs := hx _ (List.getElem_mem h)
    have hc0 : x.getD 0 0 = x[0] := by rw [List.getD_eq_getElem?_getD, List.getElem?_eq_getElem h]; rfl
    rw [rd_sz x 0 h]; simp only [szN, if_true]; rw [if_neg (fun e => absurd (itoaB_zero.1 e) (by decide)), if_pos (by rw [sz_len]; omega), itoaB_one, div_num hs k (by omega)]; simp only [Option.bind_some]; rw [w_succ (by omega)]; exact ratio_l0 x hl hx h0 m' 1 (by omega) (by omega) _ (fun _ => by rw [hc0]) k (by omega)
   ·simp only [szN, if_neg hi0]; rw [if_pos (itoaB_zero.2 rfl), w_succ (by omega)]; exact ratio_l0 x hl hx h0 m' (i + 1) (by omega) (by omega) c (fun _ => hci (by omega)) k (by omega)
  ·obtain rfl : i = x.length := by omega
   rw [if_neg (by omega), hci h0, sz_len, hul]; have := ratio_l1 x (x.getD 0 0) hl hx rfl h0 x.length 0 (by omega) (by omega) k (by omega); rw [List.drop_zero] at this; exact this
theorem ratio_f (x : List Int) (hl : x.length ≤ 1000) (hx : ∀ e ∈ x, S300 e) (h0 : 0 < x.length) (k : Nat) (hk : 2 * x.length + 40 ≤ k) : szra.f k (sz x) (sz (unitL x.length)) = some (itoaB (x.getD 0 0), one1, (x.drop 1).all fun e => e == 0) := by
 have hul : (unitL x.length).length = x.length := by unfold unitL; simp; omega
 unfold szra.f; rw [number_num ⟨by omega, by omega⟩]; simp only [Option.bind_some, sz_len, hul]; exact ratio_l0 x hl hx h0 x.length 0 (by omega) (by omega) (itoaB 0) (fun h => absurd h (by omega)) k (by omega)
def nzP : List Int → List Int → List Int
 | a :: p, e :: x => if e = 0 then nzP p x else a :: nzP p x
 | _, _ => []
def nzE : List Int → List Int → List Int
 | a :: p, e :: x => if e = 0 then nzE p x else e :: nzE p x
 | _, _ => []
theorem terms_l0 (p x : List Int) (hl : x.length ≤ 1000) (R : Option (List Int × List ByteArray × ByteArray)) (K : Nat) (hR : ∀ k, K ≤ k → szTO.l1 k p (sz x) (x.length : Int) 0 [] [] one1 = R) : ∀ (m i : Nat), x.length - i = m → i ≤ x.length → ∀ k, m + 31 + K ≤ k →
  szTO.l0 k p (sz x) (sz x) (x.length : Int) (i : Int) one1 = R
 | m, i, hm, hi, 0, hk => by omega
 | m, i, hm, hi, k + 1, hk => by
  unfold szTO.l0
  by_cases h : i < x.length
  ·obtain ⟨m', rfl⟩ : ∃ m', m = m' + 1 := ⟨m - 1, by omega⟩
   rw [if_pos (by omega), if_pos (by omega), if_pos (by rw [sz_len]; omega), rd_sz x i h]; simp only [szN]; rw [lcm_one k (by omega)]; simp only [Option.bind_some]; rw [w_succ (by omega)]; exact terms_l0 p x hl R K hR m' (i + 1) (by omega) (by omega) k (by omega)
  ·rw [if_neg (by omega), sz_len]; exact hR k (by omega)
theorem terms_l1 (p x : List Int) (hl : x.length ≤ 1000) (hpl : x.length = p.length) (hx : ∀ e ∈ x, S300 e) : ∀ (m i : Nat), x.length - i = m → i ≤ x.length → ∀ (P : List Int) (K : List ByteArray), P.length ≤ i → K.length ≤ i → ∀ k, m + 31 ≤ k →
  szTO.l1 k p (sz x) (x.length : Int) (i : Int) P K one1 = some (P ++ nzP (p.drop i) (x.drop i), K ++ (nzE (p.drop i) (x.drop i)).map itoaB, one1)
 | m, i, hm, hi, P, K, hP, hK, 0, hk => by omega
 | m, i, hm, hi, P, K, hP, hK, k + 1, hk => by
  unfold szTO.l1
  by_cases h : i < x.length
  ·obtain ⟨m', rfl⟩ : ∃ m', m = m' + 1 := ⟨m - 1, by omega⟩
   have hs := hx _ (List.getElem_mem h); have hdx : x.drop i = x[i] :: x.drop (i + 1) := List.drop_eq_getElem_cons h; have hdp : p.drop i = p[i] :: p.drop (i + 1) := List.drop_eq_getElem_cons (by omega); rw [if_pos (by omega), if_pos (by omega), if_pos (by rw [sz_len]; omega), rd_sz x i h, hdx, hdp]; simp only [nzP, nzE]
   by_cases hz : x[i] = 0
   ·refine (if_pos (itoaB_zero.2 hz)).trans ?_; rw [if_pos hz, if_pos hz, w_succ (by omega)]; exact terms_l1 p x hl hpl hx m' (i + 1) (by omega) (by omega) P K (by omega) (by omega) k (by omega)
   ·refine (if_neg (fun e => hz (itoaB_zero.1 e))).trans ?_; simp only [szN]; rw [if_neg hz, if_neg hz, divmod_one k (by omega)]; simp only [Option.bind_some]; rw [if_pos (by omega), if_pos (by omega), wmul_num hs k (by omega)]; simp only [Option.bind_some]; rw [if_pos (by omega), rd_nat p i (by omega), w_succ (by omega), terms_l1 p x hl hpl hx m' (i + 1) (by omega) (by omega) _ _ (by simp; omega) (by simp; omega) k (by omega)]; simp
  ·rw [if_neg (by omega), show x.drop i = [] from List.drop_eq_nil_of_le (by omega), show p.drop i = [] from List.drop_eq_nil_of_le (by omega)]; simp [nzP, nzE]
theorem terms_f (p x : List Int) (hl : x.length ≤ 1000) (hpl : x.length = p.length) (hx : ∀ e ∈ x, S300 e) (k : Nat) (hk : 2 * x.length + 70 ≤ k) : szTO.f k p (sz x) = some (nzP p x, (nzE p x).map itoaB, one1) := by
 unfold szTO.f; rw [sz_len]; refine terms_l0 p x hl _ (x.length + 31) (fun k hk => ?_) x.length 0 (by omega) (by omega) k (by omega); have := terms_l1 p x hl hpl hx x.length 0 (by omega) (by omega) [] [] (by simp) (by simp) k (by omega)
 simpa using this
theorem near_list (p : List Int) (x : List Int) (hp : ∀ a ∈ p, isPr a) (hx : ∀ e ∈ x, S300 e) : nearL 100000 (nzP p x) ((nzE p x).map itoaB) = some ((List.zip (nzP p x) (nzE p x)).map fun z => (z.1, z.2, (logA z.1 : Int))) := by
 induction p generalizing x with
 | nil => simp [nzP, nzE, nearL]
 | cons a p ih =>
  cases x with
  | nil => simp [nzP, nzE, nearL]
  | cons e x =>
   have ih' := ih x (fun b hb => hp b (List.mem_cons_of_mem _ hb)) (fun b hb => hx b (List.mem_cons_of_mem _ hb)); simp only [nzP, nzE]
   by_cases h : e = 0
   ·rw [if_pos h, if_pos h]; exact ih'
   ·rw [if_neg h, if_neg h]; have hs := hx e (List.mem_cons_self ..); simp only [List.map_cons, nearL, List.zip_cons_cons]; unfold nearStep; rw [small_num hs]; simp only [Option.bind_some]; rw [if_pos ⟨trivial, by unfold S300 at hs; omega, by unfold S300 at hs; omega⟩, fast_num (hp a (List.mem_cons_self ..))]; simp only [Option.bind_some, if_true]; rw [ih']; rfl
theorem w64s {x : Int} (h : -4000000000000000000 ≤ x) (h2 : x ≤ 4000000000000000000) : wrap64 x = x := by unfold wrap64; omega
theorem near_add (a e s t : Int) (ha : isPr a) (he : -300 ≤ e ∧ e ≤ 300) (hs : -1000000000000000000 ≤ s ∧ s ≤ 1000000000000000000) (ht : -1000000000000000000 ≤ t ∧ t ≤ 1000000000000000000) :
  nearAdd (s, t) (a, e, (logA a : Int)) = (s + (if 0 ≤ e then e * logA a else e * logB a), t + (if 0 ≤ e then e * logB a else e * logA a)) := by
 have hb := log_bounds ha
 have hA : (logA a : Int) ≤ 500000000 := by omega
 have e1 : wrap64 ((logA a : Int) + 1) = (logA a : Int) + 1 := w64s (by omega) (by omega)
 have m1 : -150000000000 ≤ e * (logA a : Int) ∧ e * (logA a : Int) ≤ 150000000000 := by
  constructor
  ·calc (-150000000000 : Int) = (-300) * 500000000 := by decide
    _ ≤ -(300 * (logA a : Int)) := by omega
    _ ≤ e * (logA a : Int) := by rw [← Int.neg_mul]; exact Int.mul_le_mul_of_nonneg_right he.1 (by omega)
  ·calc e * (logA a : Int) ≤ 300 * (logA a : Int) := Int.mul_le_mul_of_nonneg_right he.2 (by omega)
    _ ≤ 150000000000 := by omega
 have m2 : e * ((logA a : Int) + 1) = e * (logA a : Int) + e := by rw [Int.mul_add, Int.mul_one]
 unfold nearAdd
 dsimp only
 rw [e1, w64s (x := e * (logA a : Int)) (by omega) (by omega), w64s (x := e * ((logA a : Int) + 1)) (by omega) (by omega), m2]; unfold logB
 by_cases h2 : a = 2
 ·rw [if_pos h2, if_pos h2, if_neg (by omega), w64s (by omega) (by omega), w64s (by omega) (by omega)]; simp
 ·rw [if_neg h2, if_neg h2]
  have c2 : ((logA a + 1 : Nat) : Int) = (logA a : Int) + 1 := by omega
  rw [c2, m2]
  by_cases h0 : 0 ≤ e
  ·rw [if_pos h0, if_pos h0, if_neg (by omega), w64s (by omega) (by omega)]
   by_cases h3 : e = 0
   ·subst h3; rw [if_neg (by omega), w64s (by omega) (by omega)]; simp
   ·rw [if_pos (by omega), w64s (by omega) (by omega)]
  ·rw [if_neg h0, if_neg h0, if_pos (by omega), if_neg (by omega), w64s (by omega) (by omega), w64s (by omega) (by omega)]
theorem near_term {a e : Int} (ha : isPr a) (he : -300 ≤ e ∧ e ≤ 300) : (-200000000000 ≤ (if 0 ≤ e then e * logA a else e * logB a) ∧ (if 0 ≤ e then e * (logA a : Int) else e * logB a) ≤ 200000000000) ∧ (-200000000000 ≤ (if 0 ≤ e then e * logB a else e * logA a) ∧ (if 0 ≤ e then e * (logB a : Int) else e * logA a) ≤ 200000000000) := by
 have hb := log_bounds ha
 have hB : (logB a : Int) ≤ 500000001 ∧ 0 ≤ (logB a : Int) := by unfold logB; split <;> omega
 have key : ∀ L : Int, 0 ≤ L → L ≤ 500000001 → -200000000000 ≤ e * L ∧ e * L ≤ 200000000000 := fun L h0 h1 => by
  constructor
  ·have : -(300 * L) ≤ e * L := by rw [← Int.neg_mul]; exact Int.mul_le_mul_of_nonneg_right he.1 h0
   omega
  ·have : e * L ≤ 300 * L := Int.mul_le_mul_of_nonneg_right he.2 h0
   omega
 have k1 := key (logA a) (by omega) (by omega); have k2 := key (logB a) hB.2 hB.1
 split <;> exact ⟨by assumption, by assumption⟩
theorem near_fold (p x : List Int) (hp : ∀ a ∈ p, isPr a) (hx : ∀ e ∈ x, S300 e) : ∀ s t : Int, p.length ≤ 1000 → (-100000000000000000 - 200000000000 * (1000 - p.length : Int) ≤ s ∧ s ≤ 100000000000000000 + 200000000000 * (1000 - p.length : Int)) → (-100000000000000000 - 200000000000 * (1000 - p.length : Int) ≤ t ∧ t ≤ 100000000000000000 + 200000000000 * (1000 - p.length : Int)) →
  (((List.zip (nzP p x) (nzE p x)).map fun z => (z.1, z.2, (logA z.1 : Int))).foldl nearAdd (s, t)) = (s + lowS logA logB p x, t + highS logA logB p x) := by
 induction p generalizing x with
 | nil => intro s t _ _ _; simp [nzP, nzE, lowS, highS]
 | cons a p ih =>
  intro s t hlen hs ht
  cases x with
  | nil => simp [nzP, nzE, lowS, highS]
  | cons e x =>
   have ih' := ih x (fun b hb => hp b (List.mem_cons_of_mem _ hb)) (fun b hb => hx b (List.mem_cons_of_mem _ hb)); have he := hx e (List.mem_cons_self ..); have ha := hp a (List.mem_cons_self ..); obtain ⟨⟨b1, b2⟩, b3, b4⟩ := near_term ha he; simp only [List.length_cons] at hlen hs ht; simp only [nzP, nzE, lowS, highS]
   by_cases h : e = 0
   ·rw [if_pos h, if_pos h, ih' s t (by omega) (by omega) (by omega)]; subst h; simp
   ·rw [if_neg h, if_neg h]; simp only [List.zip_cons_cons, List.map_cons, List.foldl_cons]; rw [near_add a e s t ha he (by omega) (by omega), ih' _ _ (by omega) (by omega) (by omega)]; simp only [Int.add_assoc]
theorem near_f {p x : List Int} (h : OnP p x) (hl : (nzP p x).length ≤ 1000) : size_terms_near.f (nzP p x) ((nzE p x).map itoaB) one1 100000 = some (lowS logA logB p x, highS logA logB p x, true) := by
 have h6 := h.six; have := near_fold p x h.pr h.s300 0 0 (by omega) (by omega) (by omega); unfold size_terms_near.f; rw [if_pos ⟨by omega, by omega, by omega⟩, near_list p x h.pr h.s300]; simp only [Option.bind_some]; unfold nearSum; rw [this]; simp
end Go.Proofs.YtkgkihichdcpmaaGreatDoor.H
end
section
namespace Go.Proofs.YtkgkihichdcpmaaGreatDoor.H
open Go.RowKit Go.Shelf Go.Proofs.YtkgkihichdcpmaaGreatDoorW.PrintWords Go.Proofs.YtkgkihichdcpmaaGreatDoorW.PrintLast Go.Proofs.YtkgkihichdcpmaaGreatDoorW.PrintMore
open Dec
set_option linter.unusedVariables false
theorem down_f (a b : Int) (hb : 0 < b) (hb2 : b ≤ 1000000000000) (ha : -1000000000000000 ≤ a) (ha2 : a ≤ 1000000000000000) : size_downward.f a b = some (a / b) := by
 unfold size_downward.f
 by_cases h : a < 0
 ·rw [if_pos h, if_neg (by omega), w64s (x := -a) (by omega) (by omega), w64s (x := -a + b) (by omega) (by omega), w64s (x := -a + b - 1) (by omega) (by omega), Int.tdiv_eq_ediv_of_nonneg (by omega)]; have h1 := Int.mul_ediv_add_emod a b; have h2 := Int.emod_nonneg a (show b ≠ 0 by omega); have h3 := Int.emod_lt_of_pos a hb
  have h4 : -a + b - 1 = (b - 1 - a % b) + -(a / b) * b := by rw [Int.neg_mul, Int.mul_comm (a / b) b]; omega
  have h5 : (-a + b - 1) / b = -(a / b) := by
   rw [h4, Int.add_mul_ediv_right _ _ (by omega), Int.ediv_eq_zero_of_lt (by omega) (by omega)]
   omega
  have h6 : -1000000000000000 ≤ a / b := by
   have := Int.le_ediv_of_mul_le hb (show -1000000000000000 * b ≤ a by omega); exact this
  have h7 : a / b < 0 := Int.ediv_lt_of_lt_mul hb (by omega); rw [h5, w64s (x := -(a / b)) (by omega) (by omega), Int.neg_neg, w64s (by omega) (by omega)]
 ·have h6 : 0 ≤ a / b := Int.ediv_nonneg (by omega) (by omega); have h7 : a / b ≤ 1000000000000000 := Int.le_trans (Int.ediv_le_self b (by omega)) ha2; rw [if_neg h, if_neg (by omega), Int.tdiv_eq_ediv_of_nonneg (by omega), w64s (by omega) (by omega)]
theorem quot_f (k : Nat) (hk : 10 ≤ k) (P : List Int) (K : List ByteArray) (P' : List Int) (K' : List ByteArray) (xl xh : Int) (a b : Nat) (h1 : size_terms_near.f P K one1 100000 = some (xl, xh, true)) (h2 : size_terms_near.f P' K' one1 100000 = some ((a : Int), (b : Int), true)) (ha : 0 < a) (hb : 0 < b) (ha2 : a ≤ 1000000000) (hb2 : b ≤ 1000000000)
  (b1 : -100000000000000 ≤ xl) (b2 : xl ≤ 100000000000000) (b3 : -100000000000000 ≤ xh) (b4 : xh ≤ 100000000000000) : sqot.f k P K one1 P' K' one1 = some (quoL a b xl, quoL a b xl == quoH a b xh) := by
 obtain ⟨k, rfl⟩ : ∃ m, k = m + 3 := ⟨k - 3, by omega⟩
 unfold sqot.f; rw [h1, h2, small_one1]; simp only [Option.bind_some, if_true]; rw [if_neg (by decide)]; simp only [sqot.j0, sqot.j1, sqot.j2]; rw [show decide ((1 : Int) > 10000) = false by decide, if_neg (by decide), if_neg (by omega), if_neg (by omega)]
 have m1 : ∀ x : Int, -100000000000000 ≤ x → x ≤ 100000000000000 → wrap64 (x * 1) = x := fun x h1 h2 => by rw [Int.mul_one]; exact w64s (by omega) (by omega)
 have qL : ∀ c : Nat, 0 < c → c ≤ 1000000000 → size_downward.f (wrap64 (xl * 1)) (wrap64 ((c : Int) * 1)) = some (xl / c) := fun c h1 h2 => by rw [m1 _ (by omega) (by omega), m1 _ (by omega) (by omega)]; exact down_f _ _ (by omega) (by omega) (by omega) (by omega)
 have qH : ∀ c : Nat, 0 < c → c ≤ 1000000000 → size_downward.f (wrap64 (xh * 1)) (wrap64 ((c : Int) * 1)) = some (xh / c) := fun c h1 h2 => by rw [m1 _ (by omega) (by omega), m1 _ (by omega) (by omega)]; exact down_f _ _ (by omega) (by omega) (by omega) (by omega)
 unfold quoL quoH
 by_cases c1 : xl < 0
 ·rw [if_pos c1, if_pos c1]
  by_cases c2 : xh < 0
  ·rw [if_pos c2, if_pos c2, qL a ha ha2, qH b hb hb2]; rfl
  ·rw [if_neg c2, if_neg c2, qL a ha ha2, qH a ha ha2]; rfl
 ·rw [if_neg c1, if_neg c1]
  by_cases c2 : xh < 0
  ·rw [if_pos c2, if_pos c2, qL b hb hb2, qH b hb hb2]; rfl
  ·rw [if_neg c2, if_neg c2, qL b hb hb2, qH a ha ha2]; rfl
theorem nz_zeros : ∀ (p t : List Int), (∀ e ∈ t, e = 0) → nzP p t = [] ∧ nzE p t = [] ∧ lowS logA logB p t = 0 ∧ highS logA logB p t = 0
 | [], _, _ => by simp [nzP, nzE, lowS, highS]
 | _ :: _, [], _ => by simp [nzP, nzE, lowS, highS]
 | a :: p, e :: t, h => by
  have h0 := h e (List.mem_cons_self ..); subst h0
  have := nz_zeros p t fun f hf => h f (List.mem_cons_of_mem _ hf)
  simp only [nzP, nzE, lowS, highS, if_true, Int.zero_mul, ite_self, Int.zero_add]; exact this
theorem lowS_abs (p x : List Int) (hp : ∀ a ∈ p, isPr a) (hx : ∀ e ∈ x, S300 e) : -(200000000000 * (p.length : Int)) ≤ lowS logA logB p x ∧ lowS logA logB p x ≤ 200000000000 * (p.length : Int) ∧ -(200000000000 * (p.length : Int)) ≤ highS logA logB p x ∧ highS logA logB p x ≤ 200000000000 * (p.length : Int) := by
 induction p generalizing x with
 | nil => simp [lowS, highS]
 | cons a p ih =>
  cases x with
  | nil => simp only [lowS, highS, List.length_cons]; omega
  | cons e x =>
   have := ih x (fun b hb => hp b (List.mem_cons_of_mem _ hb)) (fun b hb => hx b (List.mem_cons_of_mem _ hb)); obtain ⟨⟨b1, b2⟩, b3, b4⟩ := near_term (hp a (List.mem_cons_self ..)) (hx e (List.mem_cons_self ..)); simp only [lowS, highS, List.length_cons]
   omega
def flo (p x : List Int) : Int := if (x.drop 1).all (fun e => e == 0) = true then x.getD 0 0 else quoL (logA (p.getD 0 0)) (logB (p.getD 0 0)) (lowS logA logB p x)
structure NearOk (p x : List Int) : Prop where
 on : OnP p x
 ne : 0 < p.length
 dec : (x.drop 1).all (fun e => e == 0) = false → quoL (logA (p.getD 0 0)) (logB (p.getD 0 0)) (lowS logA logB p x) = quoH (logA (p.getD 0 0)) (logB (p.getD 0 0)) (highS logA logB p x)
 bnd : -250 ≤ flo p x ∧ flo p x ≤ 250
theorem onP_unit {p x : List Int} (h : OnP p x) (hn : 0 < p.length) : OnP p (unitL p.length) := by
 refine ⟨h.chk, h.pr, h.inc, by unfold unitL; simp; omega, fun e he => ?_⟩; unfold unitL at he
 rcases List.mem_cons.1 he with rfl | h
 ·omega
 ·rw [(List.mem_replicate.1 h).2]
  omega
theorem unit_near {p x : List Int} (h : OnP p x) (hn : 0 < p.length) : nzP p (unitL p.length) = [p.getD 0 0] ∧ nzE p (unitL p.length) = [1] ∧ lowS logA logB p (unitL p.length) = (logA (p.getD 0 0) : Int) ∧ highS logA logB p (unitL p.length) = (logB (p.getD 0 0) : Int) := by
 cases p with
 | nil => simp at hn
 | cons a p =>
  have hz := nz_zeros p (List.replicate ((a :: p).length - 1) 0) (fun e he => (List.mem_replicate.1 he).2); unfold unitL; simp only [nzP, nzE, lowS, highS, hz, List.getD_cons_zero]; simp
theorem isPr_at0 {p x : List Int} (h : OnP p x) (hn : 0 < p.length) : isPr (p.getD 0 0) := by
 rw [List.getD_eq_getElem?_getD, List.getElem?_eq_getElem hn]; exact h.pr _ (List.getElem_mem hn)
theorem logB_bounds {a : Int} (h : isPr a) : 0 < logB a ∧ logB a ≤ 1000000000 := by
 have := log_bounds h; unfold logB
 split <;> omega
theorem floorS_f {p x : List Int} (h : NearOk p x) (k : Nat) (hk : 1000 ≤ k) : size_floor.f k p (sz x) (sz (unitL p.length)) = some (itoaB (flo p x)) := by
 have hon := h.on; have hl := hon.len; have h6 := hon.six; have hn := h.ne; have hu := onP_unit hon hn; have hul := hu.len; have hbd := h.bnd; unfold size_floor.f; rw [← hl, ratio_f x (by omega) hon.s300 (by omega) k (by omega)]; simp only [Option.bind_some]
 by_cases hz : (x.drop 1).all (fun e => e == 0) = true
 ·have hfl : flo p x = x.getD 0 0 := by unfold flo; rw [if_pos hz]
  rw [if_pos hz, hfl, floor_num (by unfold S300; rw [← hfl]; omega) k (by omega)]; rfl
 ·have hfl : flo p x = quoL (logA (p.getD 0 0)) (logB (p.getD 0 0)) (lowS logA logB p x) := by unfold flo; rw [if_neg hz]
  have hp0 := isPr_at0 hon hn; have hA := log_bounds hp0; have hB := logB_bounds hp0; obtain ⟨u1, u2, u3, u4⟩ := unit_near hon hn; have hs := lowS_abs p x hon.pr hon.s300
  have hnz : ∀ (p x : List Int), (nzP p x).length ≤ p.length := by
   intro p
   induction p with
   | nil => intro x; simp [nzP]
   | cons a p ih =>
    intro x
    cases x with
    | nil => simp [nzP]
    | cons e x =>
     have := ih x; simp only [nzP]
     split
     ·simp only [List.length_cons]; omega
     ·simp only [List.length_cons]; omega
  have n1 := near_f hon (by have := hnz p x; omega); have n2 := near_f hu (by have := hnz p (unitL p.length); omega); rw [u1, u2, u3, u4] at n2; rw [if_neg hz, terms_f p x (by omega) hl hon.s300 k (by omega)]; simp only [Option.bind_some]; rw [hl, terms_f p (unitL p.length) (by omega) hul hu.s300 k (by omega), u1, u2]; simp only [Option.bind_some]; rw [quot_f k (by omega) _ _ _ _ _ _ _ _ n1 n2 (by omega) hB.1 (by omega) hB.2 (by omega) (by omega) (by omega) (by omega)]; simp only [Option.bind_some]; rw [h.dec (by simpa using hz), if_pos (by simp), ← h.dec (by simpa using hz), ← hfl, of_num (by unfold S300; omega)]; rfl
theorem check_quot {p x : List Int} (h : NearOk p x) (k : Nat) (hk : 1000 ≤ k) : size_checkQuotient.f k p (sz x) (sz (unitL p.length)) = some 0 := by
 have hon := h.on; have h6 := hon.six; have hn := h.ne; have hu := onP_unit hon hn; have hul := hu.len; unfold size_checkQuotient.f; rw [checkAll_two hon hu k (by omega)]; simp only [Option.bind_some, if_true]; rw [terms_f p (unitL p.length) (by omega) hul hu.s300 k (by omega), (unit_near hon hn).1]; simp only [Option.bind_some]; rw [if_neg (by simp)]
theorem sizes_f {p x : List Int} (h : NearOk p x) (k : Nat) (hk : 1000 ≤ k) : interval_sizes.f k p [x, unitL p.length] = some [sz x, sz (unitL p.length)] := by
 have hu := onP_unit h.on h.ne
 obtain ⟨k, rfl⟩ : ∃ m, k = m + 3 := ⟨k - 3, by omega⟩
 have r0 : rd_L3 [x, unitL p.length] 0 = x := rfl; have r1 : rd_L3 [x, unitL p.length] 1 = unitL p.length := rfl; unfold interval_sizes.f
 show interval_sizes.l0 (k + 2 + 1) p [] [x, unitL p.length] 2 0 = _
 unfold interval_sizes.l0; rw [if_pos (by decide), if_pos (by decide), if_pos (by simp), r0, size_of h.on _ (by omega)]; simp only [Option.bind_some]; rw [if_pos (by simp), show wrap64 (0 + 1) = 1 by unfold wrap64; omega]
 show interval_sizes.l0 (k + 1 + 1) p _ [x, unitL p.length] 2 1 = _
 unfold interval_sizes.l0; rw [if_pos (by decide), if_pos (by decide), if_pos (by simp), r1, size_of hu _ (by omega)]; simp only [Option.bind_some]; rw [if_pos (by simp), show wrap64 (1 + 1) = 2 by unfold wrap64; omega]
 show interval_sizes.l0 (k + 1) p _ [x, unitL p.length] 2 2 = _
 unfold interval_sizes.l0; rw [if_neg (by decide)]; rfl
theorem floorI_f {p x : List Int} (h : NearOk p x) (k : Nat) (hk : 1000 ≤ k) : interval_floor.f k p x (unitL p.length) = some (flo p x, 0) := by
 have hbd := h.bnd; unfold interval_floor.f; rw [sizes_f h k hk]; simp only [Option.bind_some]; rw [if_pos (by simp), if_pos (by simp)]; have r0 : rd_L8 [sz x, sz (unitL p.length)] 0 = sz x := rfl; have r1 : rd_L8 [sz x, sz (unitL p.length)] 1 = sz (unitL p.length) := rfl; rw [r0, r1]; unfold size_Floor.f; rw [check_quot h k hk]; simp only [Option.bind_some, if_true]; rw [floorS_f h k hk]; simp only [Option.bind_some, if_true]; rw [small_num (by unfold S300; omega)]; simp only [Option.bind_some, if_true]
theorem open_f {p x : List Int} (h : OnP p x) : interval_open.f p [] [x] = some 0 := by
 have hp6 := h.six
 have ht : ∀ k, 300 ≤ k → prCk.f k p = some 0 := fun k hk => at_rounds (g := fun k => prCk.f k p) (fun k => prCk.mono p k) hk h.chk
 have h0 : mzCA.l0 5000 p [x] (([x].length : Nat) : Int) 0 = some 0 := right_l0 p hp6 [x] (by simp) (fun y hy => by rw [List.mem_singleton.1 hy]; exact h.right) 1 0 (by simp) (by simp) 5000 (by omega); unfold interval_open.f; rw [ht 2000 (by omega)]; simp only [Option.bind_some, if_true]; rw [if_neg (by simp), if_pos (by simp)]; unfold mzCA.f; rw [List.nil_append, ht 5000 (by omega)]; simp only [Option.bind_some, if_true]; exact h0
theorem unit_f (p : List Int) (hn : 0 < p.length) (h6 : p.length ≤ 6) : interval_unit.f p = some (unitL p.length) := by
 unfold interval_unit.f; rw [if_pos (by omega), if_pos (by omega)]; simp only [Option.bind_some, List.length_replicate, Int.toNat_natCast]; rw [if_pos (by omega)]
 congr 1
 unfold unitL
 obtain ⟨m, hm⟩ : ∃ m, p.length = m + 1 := ⟨p.length - 1, by omega⟩
 rw [hm, List.replicate_succ]; rfl
theorem reduce_f {p x : List Int} (h : NearOk p x) (k : Nat) (hk : 1000 ≤ k) : interval_Reduce.f k p x = some (shiftQ x (flo p x), flo p x, 0) := by
 have hon := h.on; have hn := h.ne; have hl := hon.len; have h6 := hon.six; have hbd := h.bnd; unfold interval_Reduce.f; rw [open_f hon]; simp only [Option.bind_some, if_true]; rw [unit_f p hn h6]; simp only [Option.bind_some]; rw [floorI_f h k hk]; simp only [Option.bind_some, if_true]
 have he : interval_equaves.f k p x (wrap64 (-flo p x)) = some (shiftQ x (flo p x), 0) := by
  have hw : wrap64 (-flo p x) = -flo p x := w64s (by omega) (by omega)
  have hset : x.set (0 : Int).toNat (wrap64 (rd x 0 + wrap64 (-flo p x))) = shiftQ x (flo p x) := by
   cases x with
   | nil => rfl
   | cons e t =>
    have hse := hon.small e (List.mem_cons_self ..); have : rd (e :: t) 0 = e := rfl; rw [this, hw, w64s (by omega) (by omega)]; simp only [shiftQ]; rfl
  unfold interval_equaves.f api_Row_int_103.f; rw [if_pos (by omega)]; simp only [Option.bind_some]; rw [if_pos (by omega), hset]
  have hm : monzo_Check.f k p (shiftQ x (flo p x)) = some 0 := by
   refine mcheck_at p (shiftQ x (flo p x)) hon.chk ⟨by rw [shiftQ_len]; exact hl, fun e he => ?_⟩ k (by omega)
   cases x with
   | nil => cases he
   | cons f t =>
    simp only [shiftQ] at he
    rcases List.mem_cons.1 he with rfl | h'
    ·have := hon.small f (List.mem_cons_self ..)
     omega
    ·have := hon.small e (List.mem_cons_of_mem _ h')
     omega
  show (monzo_Check.f k p (shiftQ x (flo p x))).bind _ = _
  rw [hm]; rfl
 rw [he]; simp only [Option.bind_some, if_true]
def RP (p x : List Int) : List Int := shiftQ x (flo p x)
theorem red_RP {p x : List Int} (h : NearOk p x) : Red p (RP p x) := by
 have hon := h.on; have hn := h.ne; have hl := hon.len; have hp0 := isPr_at0 hon hn; have h2 := hon.two; unfold RP
 by_cases hz : (x.drop 1).all (fun e => e == 0) = true
 ·have hfl : flo p x = x.getD 0 0 := by unfold flo; rw [if_pos hz]
  rw [hfl]
  cases x with
  | nil => simp at hl; omega
  | cons e t =>
   cases p with
   | nil => simp at hn
   | cons a p =>
    have ht : ∀ f ∈ t, f = 0 := fun f hf => by
     have := List.all_eq_true.1 hz f (by simpa using hf)
     simpa using this
    simp only [shiftQ, List.getD_cons_zero, Int.sub_self]; exact red_zeros ht (h2 a (List.mem_cons_self ..))
 ·have hfl : flo p x = quoL (logA (p.getD 0 0)) (logB (p.getD 0 0)) (lowS logA logB p x) := by unfold flo; rw [if_neg hz]
  have hdec := h.dec (by simpa using hz); have hA := log_bounds hp0; have hB := logB_bounds hp0; obtain ⟨N, hN, hlc⟩ := log_certs
  have hc : ∀ a ∈ p, Cert N a.toNat (logA a) (logB a) := fun a ha => hlc a (hon.pr a ha)
  have f1 := floor_low (p := (p.getD 0 0).toNat) hN (hlc _ hp0) (by omega) hB.1 (LB_sum p x hc); have f2 := floor_high (p := (p.getD 0 0).toNat) (hlc _ hp0) (by omega) hB.1 (numP_pos p x h2) (by omega) (UB_sum p x hc); rw [← hdec, ← hfl] at f2; rw [← hfl] at f1
  cases x with
  | nil => simp at hl; omega
  | cons e t =>
   cases p with
   | nil => simp at hn
   | cons a p =>
    rw [List.getD_cons_zero] at f1 f2; exact red_floor h2 f1 f2
theorem neg_right {p x : List Int} (h : OnP p x) : OnP p (neg x) := ⟨h.chk, h.pr, h.inc, by rw [neg_len]; exact h.len, fun e he => by
 unfold neg at he; obtain ⟨f, hf, rfl⟩ := List.mem_map.1 he; have := h.small f hf
 omega⟩
theorem power_l0 (p x : List Int) (h : OnP p x) : ∀ (m i : Nat) (acc : List Int), x.length - i = m → i ≤ x.length → acc = neg (x.take i) → ∀ k, m + 330 ≤ k → monzo_Power.l0 k p (-1) acc x (x.length : Int) (i : Int) = some (neg x, 0)
 | m, i, acc, hm, hi, ha, 0, hk => by omega
 | m, i, acc, hm, hi, ha, k + 1, hk => by
  have h6 := h.six; have hl := h.len; unfold monzo_Power.l0
  by_cases hlt : i < x.length
  ·obtain ⟨m', rfl⟩ : ∃ m', m = m' + 1 := ⟨m - 1, by omega⟩
   have hs := h.small _ (List.getElem_mem hlt)
   have hal : acc.length = i := by rw [ha, neg_len, List.length_take]; omega
   rw [if_pos (by omega), if_pos (by omega), if_pos (by omega), if_pos (by omega), rd_nat x i hlt, w_succ (by omega)]; refine power_l0 p x h m' (i + 1) _ (by omega) (by omega) ?_ k (by omega); rw [List.take_succ_eq_append_getElem hlt, ha]; unfold neg; rw [List.map_append, show wrap64 (-1 * x[i]) = -x[i] by rw [Int.neg_mul, Int.one_mul]; exact w64s (by omega) (by omega)]; rfl
  ·obtain rfl : i = x.length := by omega
   rw [if_neg (by omega), ha, List.take_length]; have hc : monzo_Check.f k p (neg x) = some 0 := mcheck_at p (neg x) h.chk (neg_right h).right k (by omega); unfold monzo_result.f; unfold monzo_Check.f at hc; obtain ⟨t, ht, hr⟩ := Option.bind_eq_some_iff.1 hc; rw [ht]; obtain rfl : t = 0 := Option.some.inj hr; rfl
theorem neg_f {p x : List Int} (h : OnP p x) (k : Nat) (hk : 1000 ≤ k) : monzo_Neg.f k p x = some (neg x, 0) := by
 have h6 := h.six; have hl := h.len; unfold monzo_Neg.f monzo_Power.f; rw [mcheck_at p x h.chk h.right k (by omega)]; simp only [Option.bind_some, if_true]; rw [show mn (mx (-1) (-1001)) 1001 = -1 by unfold mn mx; decide]; have := power_l0 p x h x.length 0 [] (by omega) (by omega) (by simp [neg]) k (by omega); have h' : monzo_Power.l0 k p (-1) [] x (x.length : Int) 0 = some (neg x, 0) := this; rw [h']; rfl
theorem inverse_f {p x : List Int} (h : OnP p x) (h' : NearOk p (neg x)) (k : Nat) (hk : 1000 ≤ k) : interval_Inverse.f k p x = some (RP p (neg x), 0) := by
 unfold interval_Inverse.f; rw [neg_f h k hk]; simp only [Option.bind_some, if_true]; rw [reduce_f h' k hk]; rfl
end Go.Proofs.YtkgkihichdcpmaaGreatDoor.H
end
section
namespace Go.Proofs.YtkgkihichdcpmaaGreatDoor.H
open Go.RowKit Go.Shelf Go.Proofs.YtkgkihichdcpmaaGreatDoorW.PrintWords Go.Proofs.YtkgkihichdcpmaaGreatDoorW.PrintLast Go.Proofs.YtkgkihichdcpmaaGreatDoorW.PrintMore
open Dec
set_option linter.unusedVariables false
theorem low_le_high (A B : Int → Nat) : ∀ (p x : List Int), (∀ a ∈ p, A a ≤ B a) → lowS A B p x ≤ highS A B p x
 | [], _, _ => by simp [lowS, highS]
 | _ :: _, [], _ => by simp [lowS, highS]
 | a :: p, e :: x, h => by
  have h1 := low_le_high A B p x fun b hb => h b (List.mem_cons_of_mem _ hb)
  have h2 := h a (List.mem_cons_self ..); simp only [lowS, highS]
  have h3 : (if 0 ≤ e then e * (A a : Int) else e * B a) ≤ (if 0 ≤ e then e * (B a : Int) else e * A a) := by
   by_cases h0 : 0 ≤ e
   ·rw [if_pos h0, if_pos h0]; exact Int.mul_le_mul_of_nonneg_left (by omega) h0
   ·rw [if_neg h0, if_neg h0]; have := Int.mul_le_mul_of_nonneg_left (show (A a : Int) ≤ B a by omega) (show 0 ≤ -e by omega); rw [Int.neg_mul, Int.neg_mul] at this
    omega
  omega
theorem log_AB (a : Int) : logA a ≤ logB a ∧ logB a ≤ logA a + 1 := by
 unfold logB
 split <;> omega
theorem margin_floor {A B : Nat} {lo hi e : Int} (hA : 100000 ≤ A) (hAB : A ≤ B) (hBA : B ≤ A + 1) (hm : Margin A lo hi) (hlh : lo ≤ hi) (he : -100 ≤ e ∧ e ≤ 100) :
  quoL A B ((if 0 ≤ e then e * A else e * B) + lo) = lo / A + e ∧ quoH A B ((if 0 ≤ e then e * B else e * A) + hi) = lo / A + e := by
 obtain ⟨m1, m2, m3, m4⟩ := hm
 obtain ⟨k, hk⟩ : ∃ k, k = lo / (A : Int) := ⟨_, rfl⟩
 rw [← hk] at m1 m2 m3 m4 ⊢
 obtain ⟨c, hc, hc1⟩ : ∃ c : Int, (B : Int) = A + c ∧ (c = 0 ∨ c = 1) := ⟨(B : Int) - A, by omega, by omega⟩
 have d1 : (k + 1) * (A : Int) = k * A + A := by rw [Int.add_mul, Int.one_mul]
 have eB : e * (B : Int) = e * A + e * c := by rw [hc, Int.mul_add]
 have ec : e * c = 0 ∨ e * c = e := by rcases hc1 with h | h <;> rw [h] <;> simp
 obtain ⟨kA, hkA⟩ : ∃ z, z = k * (A : Int) := ⟨_, rfl⟩
 obtain ⟨eA, heA⟩ : ∃ z, z = e * (A : Int) := ⟨_, rfl⟩
 obtain ⟨ecv, hecv⟩ : ∃ z, z = e * c := ⟨_, rfl⟩
 rw [eB]; rw [d1] at m2; rw [← hkA] at m1 m2; rw [← heA, ← hecv]; rw [← hecv] at ec
 have key : ∀ (X : Int) (d : Nat), (d = A ∨ d = B) → kA + eA + 800 ≤ X → X + 800 ≤ kA + eA + A → X / (d : Int) = k + e := by
  intro X d hd h1 h2
  have hdc : ∃ f : Int, (d : Int) = A + f ∧ (f = 0 ∨ f = 1) := by
   rcases hd with rfl | rfl
   ·exact ⟨0, by omega, .inl rfl⟩
   ·exact ⟨c, hc, hc1⟩
  obtain ⟨f, hf, hf1⟩ := hdc
  have q1 : (k + e) * (d : Int) = kA + eA + (k + e) * f := by rw [hf, Int.mul_add, Int.add_mul, ← hkA, ← heA]
  have q2 : (k + e) * f = 0 ∨ (k + e) * f = k + e := by rcases hf1 with h | h <;> rw [h] <;> simp
  have hX : X = (k + e) * (d : Int) + (X - (k + e) * (d : Int)) := by omega
  rw [hX, Int.add_comm, Int.add_mul_ediv_right _ _ (by omega), Int.ediv_eq_zero_of_lt (by omega) (by omega)]
  omega
 have fin : ∀ X : Int, kA + eA + 800 ≤ X → X + 800 ≤ kA + eA + A → (X / (if X < 0 then (A : Int) else B) = k + e) ∧ (X / (if X < 0 then (B : Int) else A) = k + e) := fun X h1 h2 => by
  by_cases hx : X < 0
  ·rw [if_pos hx, if_pos hx]; exact ⟨key X A (.inl rfl) h1 h2, key X B (.inr rfl) h1 h2⟩
  ·rw [if_neg hx, if_neg hx]; exact ⟨key X B (.inr rfl) h1 h2, key X A (.inl rfl) h1 h2⟩
 unfold quoL quoH; exact ⟨(fin _ (by split <;> omega) (by split <;> omega)).1, (fin _ (by split <;> omega) (by split <;> omega)).2⟩
theorem near_of_margin {p x : List Int} (h : OnP p x) (hn : 0 < p.length) (hm : (x.drop 1).all (fun e => e == 0) = false → Margin (logA (p.getD 0 0)) (lowS logA logB (p.drop 1) (x.drop 1)) (highS logA logB (p.drop 1) (x.drop 1))) : NearOk p x := by
 have hp0 := isPr_at0 h hn; have hA := log_bounds hp0; have hl := h.len
 cases x with
 | nil => simp at hl; omega
 | cons e t =>
  cases p with
  | nil => simp at hn
  | cons a p =>
   simp only [List.getD_cons_zero, List.drop_succ_cons, List.drop_zero] at *; have he := h.small e (List.mem_cons_self ..); have hAB := log_AB a
   have hlh := low_le_high logA logB p t fun b _ => (log_AB b).1
   refine ⟨h, hn, fun hz => ?_, ?_⟩
   ·simp only [List.getD_cons_zero, List.drop_succ_cons, List.drop_zero] at *; obtain ⟨f1, f2⟩ := margin_floor (by omega) hAB.1 hAB.2 (hm hz) hlh he; simp only [lowS, highS]; rw [f1, f2]
   ·unfold flo; simp only [List.getD_cons_zero, List.drop_succ_cons, List.drop_zero]
    split
    ·omega
    ·rename_i hz
     have hm' := hm (by simpa using hz); obtain ⟨f1, f2⟩ := margin_floor (by omega) hAB.1 hAB.2 hm' hlh he; simp only [lowS]; rw [f1]; obtain ⟨_, _, m3, m4⟩ := hm'
     omega
theorem flo_tail {p x : List Int} (h : OnP p x) (hn : 0 < p.length) (hz : (x.drop 1).all (fun e => e == 0) = false) (hm : Margin (logA (p.getD 0 0)) (lowS logA logB (p.drop 1) (x.drop 1)) (highS logA logB (p.drop 1) (x.drop 1))) : flo p x = lowS logA logB (p.drop 1) (x.drop 1) / logA (p.getD 0 0) + x.getD 0 0 := by
 have hp0 := isPr_at0 h hn; have hA := log_bounds hp0; have hl := h.len
 cases x with
 | nil => simp at hl; omega
 | cons e t =>
  cases p with
  | nil => simp at hn
  | cons a p =>
   simp only [List.getD_cons_zero, List.drop_succ_cons, List.drop_zero] at *; have he := h.small e (List.mem_cons_self ..); have hAB := log_AB a
   have hlh := low_le_high logA logB p t fun b _ => (log_AB b).1
   obtain ⟨f1, f2⟩ := margin_floor (by omega) hAB.1 hAB.2 hm hlh he; unfold flo; simp only [List.getD_cons_zero, List.drop_succ_cons, List.drop_zero]; rw [if_neg (by simpa using hz)]; simp only [lowS]; rw [f1]
theorem chkT_ok (a : Int) (es : List Int) : ∀ (p : List Int) (lo hi : Int) (z : Bool), chkT a es p lo hi z = true → ∀ t : List Int, t.length = p.length → (∀ e ∈ t, e ∈ es) → (z && t.all (fun e => e == 0)) = true ∨ Margin a (lo + lowS logA logB p t) (hi + highS logA logB p t)
 | [], lo, hi, z, h, t, hl, ht => by
  obtain rfl := List.eq_nil_of_length_eq_zero hl; simp only [lowS, highS, Int.add_zero, List.all_nil, Bool.and_true]; unfold chkT at h
  rcases Bool.or_eq_true_iff.1 h with h | h
  ·exact .inl h
  ·exact .inr (marginB_ok h)
 | b :: p, lo, hi, z, h, [], hl, _ => by simp at hl
 | b :: p, lo, hi, z, h, e :: t, hl, ht => by
  unfold chkT at h; have h1 := List.all_eq_true.1 h e (ht e (List.mem_cons_self ..))
  have h2 := chkT_ok a es p _ _ _ h1 t (by simpa using hl) fun f hf => ht f (List.mem_cons_of_mem _ hf)
  simp only [lowS, highS, List.all_cons]; rw [Bool.and_assoc, Int.add_assoc, Int.add_assoc] at h2; exact h2
theorem chk_all : kPrimes.all (fun p => chkT (logA (p.getD 0 0)) tens (p.drop 1) 0 0 true) = true := by kernel_rfl
theorem pr_all : ∀ p ∈ kPrimes, (∀ a ∈ p, a.toNat ∈ logTab.map (·.1) ∧ 0 ≤ a) ∧ p.Pairwise (fun a b => Nat.gcd a.toNat b.toNat = 1) ∧ 0 < p.length := by
 unfold kPrimes logTab
 decide
theorem pchk_all : kPrimes.all (fun p => decide (prCk.f 300 p = some 0)) = true := by kernel_rfl
structure Dom (p x : List Int) : Prop where
 len : x.length = p.length
 head : -100 ≤ x.getD 0 0 ∧ x.getD 0 0 ≤ 100
 tail : ∀ e ∈ x.drop 1, -9 ≤ e ∧ e ≤ 9
theorem mem_tens {e : Int} (h : -9 ≤ e) (h2 : e ≤ 9) : e ∈ tens := by
 have : e = -9 ∨ e = -8 ∨ e = -7 ∨ e = -6 ∨ e = -5 ∨ e = -4 ∨ e = -3 ∨ e = -2 ∨ e = -1 ∨ e = 0 ∨ e = 1 ∨ e = 2 ∨ e = 3 ∨ e = 4 ∨ e = 5 ∨ e = 6 ∨ e = 7 ∨ e = 8 ∨ e = 9 := by omega
 unfold tens; simp only [List.mem_cons, List.not_mem_nil, or_false]; exact this
theorem Dom.on {p x : List Int} (hp : p ∈ kPrimes) (h : Dom p x) : OnP p x := by
 obtain ⟨h1, h2, h3⟩ := pr_all p hp; refine ⟨of_decide_eq_true (List.all_eq_true.1 pchk_all p hp), fun a ha => h1 a ha, h2, h.len, fun e he => ?_⟩
 cases x with
 | nil => cases he
 | cons f t =>
  rcases List.mem_cons.1 he with rfl | h'
  ·exact h.head
  ·have := h.tail e h'
   omega
theorem Dom.margin {p x : List Int} (hp : p ∈ kPrimes) (h : Dom p x) : (x.drop 1).all (fun e => e == 0) = false → Margin (logA (p.getD 0 0)) (lowS logA logB (p.drop 1) (x.drop 1)) (highS logA logB (p.drop 1) (x.drop 1)) := by
 intro hz; have h1 := List.all_eq_true.1 chk_all p hp
 rcases chkT_ok _ _ _ _ _ _ h1 (x.drop 1) (by rw [List.length_drop, List.length_drop, h.len]) (fun e he => mem_tens (h.tail e he).1 (h.tail e he).2) with h2 | h2
 ·rw [hz] at h2; simp at h2
 ·rw [Int.zero_add, Int.zero_add] at h2; exact h2
theorem Dom.near {p x : List Int} (hp : p ∈ kPrimes) (h : Dom p x) : NearOk p x := near_of_margin (h.on hp) (pr_all p hp).2.2 (h.margin hp)
theorem dom_small {p x : List Int} (hl : x.length = p.length) (h : ∀ e ∈ x, -9 ≤ e ∧ e ≤ 9) (hn : 0 < p.length) : Dom p x := by
 refine ⟨hl, ?_, fun e he => h e (List.mem_of_mem_drop he)⟩
 cases x with
 | nil => simp at hl; omega
 | cons f t =>
  have := h f (List.mem_cons_self ..); simp only [List.getD_cons_zero]
  omega
theorem Dom.neg {p x : List Int} (h : Dom p x) : Dom p (neg x) := by
 refine ⟨by rw [neg_len]; exact h.len, ?_, fun e he => ?_⟩
 ·cases x with
  | nil => simp [Dec.neg]
  | cons f t =>
   have := h.head; simp only [Dec.neg, List.map_cons, List.getD_cons_zero] at *
   omega
 ·unfold Dec.neg at he; rw [← List.map_drop] at he; obtain ⟨f, hf, rfl⟩ := List.mem_map.1 he; have := h.tail f hf
  omega
theorem RP_head {p x : List Int} (hp : p ∈ kPrimes) (h : Dom p x) : -95 ≤ (RP p x).getD 0 0 ∧ (RP p x).getD 0 0 ≤ 95 := by
 have hon := h.on hp; have hl := h.len; have hn := (pr_all p hp).2.2
 have e0 : ∀ q, (shiftQ x q).getD 0 0 = x.getD 0 0 - q := fun q => by
  cases x with
  | nil => simp at hl; omega
  | cons f t => rfl
 unfold RP; rw [e0]
 cases hz : (x.drop 1).all (fun e => e == 0) with
 | true =>
  have : flo p x = x.getD 0 0 := by unfold flo; rw [if_pos hz]
  omega
 | false =>
  have hm := h.margin hp hz; rw [flo_tail hon hn hz hm]; obtain ⟨_, _, m3, m4⟩ := hm
  omega
theorem shiftQ_drop (x : List Int) (q : Int) : (shiftQ x q).drop 1 = x.drop 1 := by cases x <;> rfl
theorem Dom.rp {p x : List Int} (hp : p ∈ kPrimes) (h : Dom p x) : Dom p (RP p x) := by
 refine ⟨by unfold RP; rw [shiftQ_len]; exact h.len, ?_, fun e he => ?_⟩
 ·have := RP_head hp h
  omega
 ·unfold RP at he; rw [shiftQ_drop] at he; exact h.tail e he
theorem Dom.compl {p x : List Int} (hp : p ∈ kPrimes) (h : Dom p x) : Dom p (compl (RP p x)) := by
 have hr := h.rp hp; have hh := RP_head hp h; rw [compl_shift]; refine ⟨by rw [shiftQ_len, neg_len]; exact hr.len, ?_, fun e he => ?_⟩
 ·generalize RP p x = r at *
  cases r with
  | nil => simp [Dec.neg, shiftQ]
  | cons f t =>
   simp only [Dec.neg, List.map_cons, shiftQ, List.getD_cons_zero] at *
   omega
 ·rw [shiftQ_drop] at he; exact hr.neg.tail e he
end Go.Proofs.YtkgkihichdcpmaaGreatDoor.H
end
section
namespace Go.Proofs.YtkgkihichdcpmaaGreatDoor.H
open Go.RowKit Go.Shelf Go.Proofs.YtkgkihichdcpmaaGreatDoorW.PrintWords Go.Proofs.YtkgkihichdcpmaaGreatDoorW.PrintLast Go.Proofs.YtkgkihichdcpmaaGreatDoorW.PrintMore
attribute [local go_sem] max2_int min2_int max_two min_two max_three min_three max_four min_four
set_option linter.unusedVariables false
set_option linter.unusedSimpArgs false
section
variable {P : Program} {ops : Array Oper} {rest : List Oper} {o : Oper} {a : Act} {Q : Exit → Act → World → Prop}
theorem RowsOf.append2 {w0 W : World} (base : Nat) (hgd : o.guard = none) (s x : Operand) (t : TypeId) (ho : o.op = .call { callee := .builtin .append, args := #[s, x], argTypes := #[t, t] })
  (ht : P.underlying t = some (.slice 28)) (hinfo : (P.info? 28).map (fun i => (i.zero, i.size, i.bytes)) = some (some (.slice none 0 0), 1, 24))
  (v : Value) (rows : List (List Int)) (r r' : List Int) (y y' : Value) (hs : a.eval s = v) (hx : a.eval x = .slice (some ⟨W.heap.size, 0, none⟩) 2 2) (hp : RA base W r [y]) (hp' : RA base W r' [y'])
  (HO : RowsOf base W v rows) (HB : Below base w0 W) (hbase : base ≤ W.heap.size) (hl : rows.length + 2 ≤ 1000000)
  (h : ∀ v1 w1, RowsOf base w1 v1 (rows ++ [r, r']) → Below base w0 w1 → W.grownBy w1 v.ownBlock → (v1.ownBlock = v.ownBlock ∨ ∃ b, v1.ownBlock = some b ∧ W.heap.size ≤ b) → wpList P ops Q rest (a.put o.dst v1) w1) :
  wpList P ops Q (o :: rest) a (W.alloc (.cells #[y, y'] 28)) := by
 have h1 := hp.one; have h1' := hp'.one; have HO' := HO; obtain ⟨inner, HOw, hrp⟩ := HO; obtain ⟨i0, hi, hzz⟩ := Option.map_eq_some_iff.1 hinfo; simp only [Prod.mk.injEq] at hzz; obtain ⟨hz0, hz1, hz2⟩ := hzz
 refine wpList_append_own_at (W.alloc (.cells #[y, y'] 28)) hgd s x t ho base 28 i0 (.slice none 0 0) 1 24 ht hi hz0 hz1 hz2 rfl (by decide) v rows.length inner hs (HOw.alloc _) ⟨W.heap.size, 0, none⟩ 2 2 [y, y'] hx (by simp)
  (World.news_of_block (cs := #[y, y']) (t := 28) (fr := (0, 0)) (heap_alloc_new W (.cells #[y, y'] 28))) (fun u hu => by
   rcases List.mem_cons.1 hu with rfl | hu
   ·exact h1.2 _ (List.mem_singleton.2 rfl)
   ·exact h1'.2 u hu) (by simp only [maxLen]; omega) (by omega) (by simp; omega) ?_
 intro v1 w1 hown hg _ hat; have hg' : W.grownBy w1 v.ownBlock := World.grownBy.trans (World.grownBy_alloc W _ _) hg
 have hrow : ∀ (x : List Int) (cs : List Value), RA base W x cs → RA base w1 x cs := fun x cs hr => hr.grown hg' fun g hgg => RowsOf.free HO' g hgg
 refine h v1 w1 ⟨inner ++ [y, y'], by rw [List.length_append]; exact hown, ?_⟩ ((HB.alloc hbase _).grown hg (by simp; omega) (own_base HOw)) hg' ?_
 ·have e1 : rows ++ [r, r'] = (rows ++ [r]) ++ [r'] := by simp
  have e2 : inner ++ [y, y'] = (inner ++ [y]) ++ [y'] := by simp
  rw [e1, e2]; exact (((hrp.imp_ hrow).snoc (hrow _ _ hp) rfl).snoc (hrow _ _ hp') rfl)
 ·rcases hat with hat | hat
  ·exact .inl hat
  ·exact .inr ⟨_, hat, by simp⟩
end
def pairOf (R O : List Int → List Int) (Z : List Int → Bool) (x : List Int) : List (List Int) := if Z x then [] else [R x, O x]
theorem pairs_len (R O : List Int → List Int) (Z : List Int → Bool) : ∀ l : List (List Int), (l.flatMap (pairOf R O Z)).length ≤ 2 * l.length
 | [] => by simp
 | x :: l => by
  have := pairs_len R O Z l; rw [List.flatMap_cons, List.length_append, List.length_cons]
  have : (pairOf R O Z x).length ≤ 2 := by unfold pairOf; split <;> simp
  omega
set_option maxHeartbeats 4000000 in
theorem pair_chooses (Ap : Option Addr) (cp : Nat) (p x y : List Int) (W : World) (A1 : Option Addr) (c1 : Nat) (A2 : Option Addr) (c2 : Nat) :
  Calls Tryz.prog 49 #[.slice Ap p.length cp, .slice A1 x.length c1, .slice A2 y.length c2] W fun e w' => ∃ X, Below W.heap.size W X ∧ w' = X.alloc (.cells #[.slice A1 x.length c1, .slice A2 y.length c2] 28) ∧ e = .returned (.tuple #[.slice (some ⟨X.heap.size, 0, none⟩) 2 2, .int .i64 0]) := by
 obtain ⟨xn, hxn⟩ : ∃ xn, xn = x.length := ⟨_, rfl⟩
 obtain ⟨yn, hyn⟩ : ∃ yn, yn = y.length := ⟨_, rfl⟩
 go_enter Tryz.func49, Tryz.ntmps49; go_wp2; go_ret2; exact ⟨W, Below.refl _ _, rfl, rfl⟩
set_option maxHeartbeats 16000000 in
set_option maxRecDepth 100000 in
theorem reducedPair_calls (Ap : Option Addr) (cp : Nat) (p : List Int) (A : Option Addr) (c : Nat) (l s : List (List Int)) (R O : List Int → List Int) (Z : List Int → Bool) (w : World)
  (hp : Kd.C (Kd.int .i64) w Ap p.length p) (hcp : p.length ≤ cp) (hr : Kd.C (Kd.slice 3 (Kd.int .i64)) w A l.length l) (hc : l.length ≤ c) (hG : GL w) (hl : l.length ≤ 1000)
  (hR : ∀ x ∈ l, ∃ k q, interval_Reduce.f k p x = some (R x, q, 0)) (hZ : ∀ x ∈ l, row_IsZero.f (R x) = some (Z x)) (hO : ∀ x ∈ l, Z x = false → ∃ k, interval_Inverse.f k p x = some (O x, 0))
  (ok : OnceOk p (l.flatMap (pairOf R O Z)) s) :
  Calls Tryz.prog 46 #[.slice Ap p.length cp, .slice A l.length c, .func (.func 49) #[] #[]] w fun e w' => ∃ B c', e = .returned (.tuple #[.slice B s.length c', .int .i64 0]) ∧ s.length ≤ c' ∧ Kd.C (Kd.slice 3 (Kd.int .i64)) w' B s.length s ∧ Below w.heap.size w w' := by
 have HP := AS hp; have HR := AS hr; have HGL := AS hG; have HOK := AS ok; have HRE := AS hR; have HZ := AS hZ; have HO := AS hO
 have eg : ∀ args w, (callFunc 49 args).run Tryz.prog w = .ok (.enter 49 args) w := enters_of Tryz.func49 (by kernel_rfl) rfl
 clear hp hr hG ok hR hZ hO; go_enter Tryz.func46, Tryz.ntmps46; go_wp2
 go_loopw [8, 18] (fun v i wr => ∃ k : Nat, i = .int .i64 k ∧ k ≤ l.length ∧ Aside0 (Btw w ((l.take k).flatMap (pairOf R O Z)) v wr)) (fun _ i _ => l.length - (intOf i).toNat)
 case atStart => exact ⟨0, rfl, Nat.zero_le _, ⟨RowsOf.nil _ _, Below.refl _ _⟩⟩
 case round =>
  obtain ⟨k, rfl, hk, HS⟩ := hrel
  by_cases hlt : k < l.length
  ·obtain ⟨ad, B, c', rfl, hcell0, hl', hC0⟩ := C_rows_at HR.out k hlt; have hcell := pcb HS.out.below hcell0
   have hmem : l.getD k [] ∈ l := by rw [List.getD_eq_getElem?_getD, List.getElem?_eq_getElem hlt]; exact List.getElem_mem _
   have HT : Aside0 ((l.take (k + 1)).flatMap (pairOf R O Z) = (l.take k).flatMap (pairOf R O Z) ++ pairOf R O Z (l.getD k [])) := ⟨by
    rw [List.take_succ_eq_append_getElem hlt, List.flatMap_append, List.getD_eq_getElem?_getD, List.getElem?_eq_getElem hlt]
    simp⟩
   have HLN : Aside0 (((l.take k).flatMap (pairOf R O Z)).length ≤ 2000) := ⟨by have := pairs_len R O Z (l.take k); rw [List.length_take] at this; omega⟩; have HMEM := AS hmem; have HC0 := AS hC0; generalize hx : l.getD k [] = x at *; clear hcell0 hC0 hx hmem
   obtain ⟨xn, hxn⟩ : ∃ xn, xn = x.length := ⟨_, rfl⟩
   obtain ⟨k1, q, hre⟩ := HRE.out x HMEM.out; have HC1 := AS (interval_Reduce.calls k1 Ap cp p _ B c' x (R x) q 0 wr (Kd.C_below HP.out HS.out.below) hcp (V_of_C (Kd.C_below HC0.out HS.out.below) hl') (HGL.out.below HS.out.below) hre); clear hre; generalize hz : Z x = z; have HZE := AS hz; clear hz
   cases z with
   | true =>
    go_wp2_with (first | (go_at_call 39; refine (HC1.out).mono ?_; rintro e w1 ⟨v1, rfl, hR1, hb1⟩; obtain ⟨A1, c1, rfl, hl1, hC1⟩ := Kd.R_reads hR1; have HS1 := AS (HS.out.step hb1); have HI := AS (row_IsZero.calls A1 c1 (R x) true w1 hC1 hl1 (HGL.out.below HS1.out.below) (by rw [← HZE.out]; exact HZ.out x HMEM.out)); clear hR1 hC1 hb1) | (go_at_call 40; refine (HI.out).mono ?_; rintro e w2 ⟨rfl, hb2⟩; have HS2 := AS (HS1.out.step hb2); clear hb2)); go_roundw
    case rel => exact ⟨k + 1, by go_num, by omega, ⟨by rw [HT.out, show pairOf R O Z x = [] by unfold pairOf; rw [HZE.out]; rfl]; simpa using HS2.out⟩⟩
    case measure => simp [intOf]; omega
   | false =>
    obtain ⟨k2, hinv⟩ := HO.out x HMEM.out HZE.out; have HINV := AS hinv; clear hinv; go_wp2_with (first | (go_at_call 39; refine (HC1.out).mono ?_; rintro e w1 ⟨v1, rfl, hR1, hb1⟩; have HRA1 := AS (RA.of_R (base := w.heap.size) hR1); obtain ⟨A1, c1, rfl, hl1, hC1⟩ := Kd.R_reads hR1; have HS1 := AS (HS.out.step hb1); have HI := AS (row_IsZero.calls A1 c1 (R x) false w1 hC1 hl1 (HGL.out.below HS1.out.below) (by rw [← HZE.out]; exact HZ.out x HMEM.out)); have HC1' := AS hC1; clear hR1 hC1 hb1) | (go_at_call 40; refine (HI.out).mono ?_; rintro e w2 ⟨rfl, hb2⟩; have HS2 := AS (HS1.out.step hb2); have HRA2 := AS (HRA1.out.below hb2); have HC2' := AS (Kd.C_below HC1'.out hb2); have HCI := AS (interval_Inverse.calls k2 Ap cp p B c' x (O x) 0 w2 (Kd.C_below HP.out HS2.out.below) hcp (Kd.C_below HC0.out HS2.out.below) hl' (HGL.out.below HS2.out.below) HINV.out); clear hb2) | (go_at_call 15; refine (HCI.out).mono ?_; rintro e w3 ⟨v3, rfl, hR3, hb3⟩; have hR3' := hR3; have HRA3 := AS (HRA2.out.below hb3); obtain ⟨A3, c3, rfl, hl3, hC3⟩ := Kd.R_reads hR3; have HS3 := AS (HS2.out.step hb3); have HRB3 := AS (RA.of_R (base := w.heap.size) hR3'); have HCC := AS (pair_chooses Ap cp p (R x) (O x) w3 A1 c1 A3 c3); clear hR3 hR3' hC3 hb3)); refine (HCC.out).mono ?_; rintro e w4 ⟨X, hbX, rfl, rfl⟩; have HSX := AS (HS3.out.step hbX); have HRAX := AS (HRA3.out.below hbX); have HRBX := AS (HRB3.out.below hbX); clear hbX; go_wp2_with (at_builtin; refine RowsOf.append2 (w0 := w) w.heap.size rfl (.tmp 54) (.tmp 55) 27 rfl Tryz.underlying27 info28_own _ ((l.take k).flatMap (pairOf R O Z)) (R x) (O x) _ _ rfl rfl HRAX.out HRBX.out HSX.out.rows HSX.out.below HSX.out.below.size (by have := HLN.out; omega) ?_; intro v5 w5 h1 h2 h3 _; have HS5 := AS (Btw.mk h1 h2); clear h1 h2 h3); go_roundw
    case rel => exact ⟨k + 1, by go_num, by omega, ⟨by rw [HT.out, show pairOf R O Z x = [R x, O x] by unfold pairOf; rw [HZE.out]; rfl]; exact HS5.out⟩⟩
    case measure => simp [intOf]; omega
  ·obtain rfl : k = l.length := by omega
   rw [List.take_length] at HS
   obtain ⟨zs, hzs⟩ : ∃ zs, zs = l.flatMap (pairOf R O Z) := ⟨_, rfl⟩
   rw [← hzs] at HS HOK; clear hzs; obtain ⟨A', c', rfl, hcc, hC'⟩ := HS.out.rows.reads; have HOC := AS (once_calls Ap cp p A' c' zs s wr (Kd.C_below HP.out HS.out.below) hcp hC' hcc (HGL.out.below HS.out.below) HOK.out); clear hC'; go_wp2_with (go_at_call 84; refine (HOC.out).mono ?_; rintro e w7 ⟨B7, c7, rfl, hc7, hC7, hB7⟩; have HC7 := AS hC7; have HB7 := AS (bst HS.out.below hB7); clear hC7 hB7); go_ret2; exact ⟨_, _, rfl, hc7, HC7.out, HB7.out⟩
structure PairOk (p : List Int) (l s : List (List Int)) (R O : List Int → List Int) (Z : List Int → Bool) : Prop where
 red : ∀ x ∈ l, ∃ k q, interval_Reduce.f k p x = some (R x, q, 0)
 zero : ∀ x ∈ l, row_IsZero.f (R x) = some (Z x)
 inv : ∀ x ∈ l, Z x = false → ∃ k, interval_Inverse.f k p x = some (O x, 0)
 once : OnceOk p (l.flatMap (pairOf R O Z)) s
 len : l.length ≤ 1000
theorem pair_calls (Ap : Option Addr) (cp : Nat) (p : List Int) (A : Option Addr) (c : Nat) (l s : List (List Int)) (R O : List Int → List Int) (Z : List Int → Bool) (w : World)
  (hp : Kd.C (Kd.int .i64) w Ap p.length p) (hcp : p.length ≤ cp) (hr : Kd.C (Kd.slice 3 (Kd.int .i64)) w A l.length l) (hc : l.length ≤ c) (hG : GL w) (ok : PairOk p l s R O Z) :
  Calls Tryz.prog 46 #[.slice Ap p.length cp, .slice A l.length c, .func (.func 49) #[] #[]] w fun e w' => ∃ B c', e = .returned (.tuple #[.slice B s.length c', .int .i64 0]) ∧ s.length ≤ c' ∧ Kd.C (Kd.slice 3 (Kd.int .i64)) w' B s.length s ∧ Below w.heap.size w w' :=
 reducedPair_calls Ap cp p A c l s R O Z w hp hcp hr hc hG ok.len ok.red ok.zero ok.inv ok.once
set_option maxHeartbeats 4000000 in
set_option maxRecDepth 100000 in
theorem reduce_calls (Ap : Option Addr) (cp : Nat) (p : List Int) (A : Option Addr) (c : Nat) (l s : List (List Int)) (R O : List Int → List Int) (Z : List Int → Bool) (w : World)
  (hp : Kd.C (Kd.int .i64) w Ap p.length p) (hcp : p.length ≤ cp) (hr : Kd.C (Kd.slice 3 (Kd.int .i64)) w A l.length l) (hc : l.length ≤ c) (hG : GL w) (hchk : ∃ k, target_checkList.f k p l = some 0) (ok : WholeOk p l s R O Z) :
  Calls Tryz.prog 18 #[.slice Ap p.length cp, .slice A l.length c] w fun e w' => ∃ B c', e = .returned (.tuple #[.slice B s.length c', .int .i64 0]) ∧ s.length ≤ c' ∧ Kd.C (Kd.slice 3 (Kd.int .i64)) w' B s.length s ∧ Below w.heap.size w w' := by
 obtain ⟨k0, hk0⟩ := hchk; have HCK := AS (target_checkList.calls k0 Ap cp p A c l 0 w hp hcp hr hc hG hk0); have HP := AS hp; have HR := AS hr; have HGL := AS hG; have HOK := AS ok; clear hp hr hG ok hk0; go_enter Tryz.func18, Tryz.ntmps18; go_wp2_with (first | (go_at_call 45; refine (HCK.out).mono ?_; rintro e w1 ⟨rfl, hd⟩; have hb1 := hd.below; have HB1 := AS hb1; have HL := AS (whole_calls Ap cp p A c l s R O Z w1 (Kd.C_below HP.out hb1) hcp (Kd.C_below HR.out hb1) hc (HGL.out.below hb1) HOK.out); clear hd hb1) | (go_at_call 46; refine (HL.out).mono ?_; rintro e w2 ⟨B2, c2, rfl, hc2, hC2, hb2⟩; have HC2 := AS hC2; have HB2 := AS (bst HB1.out hb2); clear hC2 hb2)); go_ret2; exact ⟨_, _, rfl, hc2, HC2.out, HB2.out⟩
set_option maxHeartbeats 4000000 in
set_option maxRecDepth 100000 in
theorem closed_calls (Ap : Option Addr) (cp : Nat) (p : List Int) (A : Option Addr) (c : Nat) (l s : List (List Int)) (R O : List Int → List Int) (Z : List Int → Bool) (w : World)
  (hp : Kd.C (Kd.int .i64) w Ap p.length p) (hcp : p.length ≤ cp) (hr : Kd.C (Kd.slice 3 (Kd.int .i64)) w A l.length l) (hc : l.length ≤ c) (hG : GL w) (hchk : ∃ k, target_checkList.f k p l = some 0) (ok : PairOk p l s R O Z) :
  Calls Tryz.prog 20 #[.slice Ap p.length cp, .slice A l.length c] w fun e w' => ∃ B c', e = .returned (.tuple #[.slice B s.length c', .int .i64 0]) ∧ s.length ≤ c' ∧ Kd.C (Kd.slice 3 (Kd.int .i64)) w' B s.length s ∧ Below w.heap.size w w' := by
 obtain ⟨k0, hk0⟩ := hchk; have HCK := AS (target_checkList.calls k0 Ap cp p A c l 0 w hp hcp hr hc hG hk0); have HP := AS hp; have HR := AS hr; have HGL := AS hG; have HOK := AS ok; clear hp hr hG ok hk0; go_enter Tryz.func20, Tryz.ntmps20; go_wp2_with (first | (go_at_call 45; refine (HCK.out).mono ?_; rintro e w1 ⟨rfl, hd⟩; have hb1 := hd.below; have HB1 := AS hb1; have HL := AS (pair_calls Ap cp p A c l s R O Z w1 (Kd.C_below HP.out hb1) hcp (Kd.C_below HR.out hb1) hc (HGL.out.below hb1) HOK.out); clear hd hb1) | (go_at_call 46; refine (HL.out).mono ?_; rintro e w2 ⟨B2, c2, rfl, hc2, hC2, hb2⟩; have HC2 := AS hC2; have HB2 := AS (bst HB1.out hb2); clear hC2 hb2)); go_ret2; exact ⟨_, _, rfl, hc2, HC2.out, HB2.out⟩
end Go.Proofs.YtkgkihichdcpmaaGreatDoor.H
end
section
namespace Go.Proofs.YtkgkihichdcpmaaGreatDoor.H
open Go.RowKit Go.Shelf Go.Proofs.YtkgkihichdcpmaaGreatDoorW.PrintWords Go.Proofs.YtkgkihichdcpmaaGreatDoorW.PrintLast Go.Proofs.YtkgkihichdcpmaaGreatDoorW.PrintMore
open Dec
set_option linter.unusedVariables false
theorem primesOk_of {p : List Int} (hp : p ∈ kPrimes) : PrimesOk p := by
 obtain ⟨h1, h2, _⟩ := pr_all p hp; exact ⟨of_decide_eq_true (List.all_eq_true.1 pchk_all p hp), fun a ha => by have := log_bounds (h1 a ha); omega, h2⟩
theorem Dom.right {p x : List Int} (hp : p ∈ kPrimes) (h : Dom p x) : RightX p.length x := (h.on hp).right
def ZP (p x : List Int) : Bool := (RP p x).all fun n => decide (n = 0)
def CP (p x : List Int) : List Int := RP p (neg x)
theorem ZP_any {p x : List Int} (h : ZP p x = false) : (RP p x).any (fun e => e != 0) = true := by
 unfold ZP at h; obtain ⟨e, he, h2⟩ := List.all_eq_false.1 h; exact List.any_eq_true.2 ⟨e, he, by simpa using h2⟩
theorem RP_len (p x : List Int) : (RP p x).length = x.length := shiftQ_len _ _
theorem RP_of_red {p x : List Int} (hp : p ∈ kPrimes) (h : Dom p x) (hr : Red p x) : RP p x = x := by
 have h1 := red_RP (h.near hp)
 have h2 : Red p (shiftQ x 0) := by rw [shiftQ_zero]; exact hr
 have h3 := red_unique (primesOk_of hp).two' h.len h1 h2; unfold RP; rw [h3, shiftQ_zero]
theorem RP_RP {p x : List Int} (hp : p ∈ kPrimes) (h : Dom p x) : RP p (RP p x) = RP p x := RP_of_red hp (h.rp hp) (red_RP (h.near hp))
theorem CP_compl {p x : List Int} (hp : p ∈ kPrimes) (h : Dom p x) (hz : ZP p x = false) : CP p x = compl (RP p x) := by
 have hP := primesOk_of hp; have h1 := red_RP (h.neg.near hp); have h2 := red_compl hP.two' hP.inc (by rw [RP_len]; exact h.len) (red_RP (h.near hp)) (ZP_any hz)
 have e : compl (RP p x) = shiftQ (neg x) (-flo p x - 1) := by
  unfold RP; rw [compl_shift, neg_shiftQ, shiftQ_shiftQ]
  congr 1
 rw [e] at h2 ⊢; exact red_unique hP.two' (by rw [neg_len]; exact h.len) h1 h2
theorem CP_dom {p x : List Int} (hp : p ∈ kPrimes) (h : Dom p x) : Dom p (CP p x) := h.neg.rp hp
def gtB (p x : List Int) : Bool := decide (0 < cmpP p (RP p x) (CP p x))
def redL (p : List Int) (X : List (List Int)) : List (List Int) := X.filterMap (redOf (RP p) (CP p) (ZP p) (fun _ => false))
def lesL (p : List Int) (X : List (List Int)) : List (List Int) := X.filterMap (redOf (RP p) (CP p) (ZP p) (gtB p))
def cloL (p : List Int) (X : List (List Int)) : List (List Int) := X.flatMap (pairOf (RP p) (CP p) (ZP p))
section
variable {p : List Int} {X : List (List Int)}
theorem redL_dom (hp : p ∈ kPrimes) (hX : ∀ x ∈ X, Dom p x) : ∀ y ∈ redL p X, Dom p y := by
 intro y hy; obtain ⟨x, hx, h⟩ := List.mem_filterMap.1 hy; unfold redOf at h
 split at h
 ·cases h
 ·obtain rfl := Option.some.inj h; exact (hX x hx).rp hp
theorem lesL_dom (hp : p ∈ kPrimes) (hX : ∀ x ∈ X, Dom p x) : ∀ y ∈ lesL p X, Dom p y := by
 intro y hy; obtain ⟨x, hx, h⟩ := List.mem_filterMap.1 hy; unfold redOf at h
 split at h
 ·cases h
 ·obtain rfl := Option.some.inj h
  split
  ·exact CP_dom hp (hX x hx)
  ·exact (hX x hx).rp hp
theorem cloL_dom (hp : p ∈ kPrimes) (hX : ∀ x ∈ X, Dom p x) : ∀ y ∈ cloL p X, Dom p y := by
 intro y hy; obtain ⟨x, hx, h⟩ := List.mem_flatMap.1 hy; unfold pairOf at h
 split at h
 ·cases h
 ·rcases List.mem_cons.1 h with rfl | h
  ·exact (hX x hx).rp hp
  ·rw [List.mem_singleton.1 h]; exact CP_dom hp (hX x hx)
theorem red_is (hp : p ∈ kPrimes) (hX : ∀ x ∈ X, Dom p x) : ∀ x ∈ X, ∃ k q, interval_Reduce.f k p x = some (RP p x, q, 0) := fun x hx => ⟨1000, _, reduce_f ((hX x hx).near hp) 1000 (Nat.le_refl _)⟩
theorem zero_is : ∀ x ∈ X, row_IsZero.f (RP p x) = some (ZP p x) := fun x _ => by unfold row_IsZero.f ZP; rfl
theorem inv_is (hp : p ∈ kPrimes) (hX : ∀ x ∈ X, Dom p x) : ∀ x ∈ X, ZP p x = false → ∃ k, interval_Inverse.f k p x = some (CP p x, 0) := fun x hx _ => ⟨1000, inverse_f ((hX x hx).on hp) ((hX x hx).neg.near hp) 1000 (Nat.le_refl _)⟩
theorem sort_is (hp : p ∈ kPrimes) {l : List (List Int)} (hl : l.length ≤ 1000) (h : ∀ y ∈ l, Dom p y) : OnceOk p l (sortP p l) := onceOk_sort (primesOk_of hp) hl fun y hy => (h y hy).right hp
theorem wholeOk_of (hp : p ∈ kPrimes) (hX : ∀ x ∈ X, Dom p x) (hl : X.length ≤ 400) : WholeOk p X (sortP p (redL p X)) (RP p) (CP p) (ZP p) :=
 ⟨red_is hp hX, zero_is, inv_is hp hX, sort_is hp (l := redL p X) (Nat.le_trans (List.length_filterMap_le _ _) (by omega)) (redL_dom hp hX), by omega⟩
theorem lesserOk_of (hp : p ∈ kPrimes) (hX : ∀ x ∈ X, Dom p x) (hl : X.length ≤ 400) : LesserOk p X (sortP p (lesL p X)) (RP p) (CP p) (ZP p) (fun x => cmpP p (RP p x) (CP p x)) :=
 ⟨red_is hp hX, zero_is, inv_is hp hX, fun x hx _ => ⟨2000000000, compare_f (primesOk_of hp) (((hX x hx).rp hp).right hp) ((CP_dom hp (hX x hx)).right hp) _ (Nat.le_refl _)⟩,
  sort_is hp (l := lesL p X) (Nat.le_trans (List.length_filterMap_le _ _) (by omega)) (lesL_dom hp hX), by omega⟩
theorem pairOk_of (hp : p ∈ kPrimes) (hX : ∀ x ∈ X, Dom p x) (hl : X.length ≤ 400) : PairOk p X (sortP p (cloL p X)) (RP p) (CP p) (ZP p) :=
 ⟨red_is hp hX, zero_is, inv_is hp hX, sort_is hp (l := cloL p X) (Nat.le_trans (pairs_len _ _ _ _) (by omega)) (cloL_dom hp hX), by omega⟩
end
end Go.Proofs.YtkgkihichdcpmaaGreatDoor.H
end
section
namespace Go.Proofs.YtkgkihichdcpmaaGreatDoor.H
open Go.RowKit Go.Shelf Go.Proofs.YtkgkihichdcpmaaGreatDoorW.PrintWords Go.Proofs.YtkgkihichdcpmaaGreatDoorW.PrintLast Go.Proofs.YtkgkihichdcpmaaGreatDoorW.PrintMore
open Dec
set_option linter.unusedVariables false
theorem mem_red {p : List Int} {X : List (List Int)} {y : List Int} : y ∈ redL p X ↔ ∃ x ∈ X, ZP p x = false ∧ y = RP p x := by
 unfold redL; rw [List.mem_filterMap]
 constructor
 ·rintro ⟨x, hx, h⟩; unfold redOf at h
  by_cases hz : ZP p x = true
  ·rw [if_pos hz] at h; cases h
  ·rw [if_neg hz] at h; have h : some (RP p x) = some y := h; exact ⟨x, hx, by simpa using hz, (Option.some.inj h).symm⟩
 ·rintro ⟨x, hx, hz, rfl⟩; exact ⟨x, hx, by unfold redOf; rw [hz]; rfl⟩
theorem mem_les {p : List Int} {X : List (List Int)} {y : List Int} : y ∈ lesL p X ↔ ∃ x ∈ X, ZP p x = false ∧ y = if gtB p x = true then CP p x else RP p x := by
 unfold lesL; rw [List.mem_filterMap]
 constructor
 ·rintro ⟨x, hx, h⟩; unfold redOf at h
  by_cases hz : ZP p x = true
  ·rw [if_pos hz] at h; cases h
  ·rw [if_neg hz] at h; exact ⟨x, hx, by simpa using hz, (Option.some.inj h).symm⟩
 ·rintro ⟨x, hx, hz, rfl⟩; exact ⟨x, hx, by unfold redOf; rw [hz]; rfl⟩
theorem mem_clo {p : List Int} {X : List (List Int)} {y : List Int} : y ∈ cloL p X ↔ ∃ x ∈ X, ZP p x = false ∧ (y = RP p x ∨ y = CP p x) := by
 unfold cloL; rw [List.mem_flatMap]
 constructor
 ·rintro ⟨x, hx, h⟩; unfold pairOf at h
  by_cases hz : ZP p x = true
  ·rw [if_pos hz] at h; cases h
  ·rw [if_neg hz] at h; exact ⟨x, hx, by simpa using hz, by simpa using h⟩
 ·rintro ⟨x, hx, hz, h⟩; exact ⟨x, hx, by unfold pairOf; rw [hz]; simpa using h⟩
structure Rdc (p y : List Int) : Prop where
 dom : Dom p y
 rp : RP p y = y
 zp : ZP p y = false
section
variable {p : List Int}
theorem Rdc.of {x : List Int} (hp : p ∈ kPrimes) (h : Dom p x) (hz : ZP p x = false) : Rdc p (RP p x) := ⟨h.rp hp, RP_RP hp h, by unfold ZP at *; rw [RP_RP hp h]; exact hz⟩
theorem Rdc.cp {y : List Int} (hp : p ∈ kPrimes) (h : Rdc p y) : CP p y = compl y := by rw [CP_compl hp h.dom h.zp, h.rp]
theorem Rdc.co {y : List Int} (hp : p ∈ kPrimes) (h : Rdc p y) : Rdc p (compl y) := by
 have hP := primesOk_of hp; have e := h.cp hp
 have hr : Red p y := by have := red_RP (h.dom.near hp); rwa [h.rp] at this
 have ha : y.any (fun e => e != 0) = true := by have := ZP_any h.zp; rwa [h.rp] at this
 have h3 := compl_any y ha (red_tail hP.two' h.dom.len hr ha)
 have h2 : RP p (compl y) = compl y := by
  rw [← e]; exact RP_RP hp h.dom.neg
 refine ⟨by rw [← e]; exact CP_dom hp h.dom, h2, ?_⟩; unfold ZP; rw [h2, Bool.eq_false_iff]; intro hall; obtain ⟨a, ha, hb⟩ := List.any_eq_true.1 h3; have := of_decide_eq_true (List.all_eq_true.1 hall a ha); rw [this] at hb; simp at hb
def low (p y : List Int) : List Int := if 0 < cmpP p y (compl y) then compl y else y
theorem Rdc.ne {y : List Int} (hp : p ∈ kPrimes) (h : Rdc p y) : compl y ≠ y := compl_ne y fun e => by
 have h1 : 1 ≤ p.length := (show ∀ p ∈ kPrimes, 1 ≤ p.length by unfold kPrimes; decide) p hp; have := h.dom.len; rw [e] at this; simp at this
 omega
theorem Rdc.tri {y : List Int} (hp : p ∈ kPrimes) (h : Rdc p y) : (0 < cmpP p y (compl y) ∧ ¬ 0 < cmpP p (compl y) y) ∨ (¬ 0 < cmpP p y (compl y) ∧ 0 < cmpP p (compl y) y) := by
 have hP := primesOk_of hp; have hc := h.co hp; have hne := h.ne hp; have hz := mt (cmpP_zero hP.two' hP.inc h.dom.len hc.dom.len).1 (fun e => hne e.symm)
 by_cases h1 : 0 < cmpP p y (compl y)
 ·exact .inl ⟨h1, fun h2 => ltP_asymm (cmpP_gt.1 h1) (cmpP_gt.1 h2)⟩
 ·have h3 : cmpP p y (compl y) < 0 := by omega
  exact .inr ⟨h1, cmpP_gt.2 (cmpP_lt.1 h3)⟩
theorem low_compl {y : List Int} (hp : p ∈ kPrimes) (h : Rdc p y) : low p (compl y) = low p y := by
 unfold low; rw [compl_compl]
 rcases h.tri hp with ⟨h1, h2⟩ | ⟨h1, h2⟩
 ·rw [if_pos h1, if_neg h2]
 ·rw [if_neg h1, if_pos h2]
theorem low_or (y : List Int) : low p y = y ∨ low p y = compl y := by unfold low; split <;> simp
theorem low_pair (y : List Int) (z : List Int) : (z = low p y ∨ z = compl (low p y)) ↔ (z = y ∨ z = compl y) := by
 rcases low_or (p := p) y with h | h
 ·rw [h]
 ·rw [h, compl_compl]; exact or_comm
theorem Rdc.lo {y : List Int} (hp : p ∈ kPrimes) (h : Rdc p y) : Rdc p (low p y) := by
 rcases low_or (p := p) y with e | e
 ·rw [e]; exact h
 ·rw [e]; exact h.co hp
variable {X : List (List Int)}
theorem redL_rdc (hp : p ∈ kPrimes) (hX : ∀ x ∈ X, Dom p x) : ∀ y ∈ redL p X, Rdc p y := fun y hy => by
 obtain ⟨x, hx, hz, rfl⟩ := mem_red.1 hy; exact Rdc.of hp (hX x hx) hz
theorem les_iff (hp : p ∈ kPrimes) (hX : ∀ x ∈ X, Dom p x) {y : List Int} : y ∈ lesL p X ↔ ∃ r ∈ redL p X, y = low p r := by
 rw [mem_les]
 constructor
 ·rintro ⟨x, hx, hz, rfl⟩; refine ⟨RP p x, mem_red.2 ⟨x, hx, hz, rfl⟩, ?_⟩; unfold gtB low; rw [CP_compl hp (hX x hx) hz]; simp only [decide_eq_true_eq]
 ·rintro ⟨r, hr, rfl⟩; obtain ⟨x, hx, hz, rfl⟩ := mem_red.1 hr; refine ⟨x, hx, hz, ?_⟩; unfold gtB low; rw [CP_compl hp (hX x hx) hz]; simp only [decide_eq_true_eq]
theorem clo_iff (hp : p ∈ kPrimes) (hX : ∀ x ∈ X, Dom p x) {y : List Int} : y ∈ cloL p X ↔ ∃ r ∈ redL p X, y = r ∨ y = compl r := by
 rw [mem_clo]
 constructor
 ·rintro ⟨x, hx, hz, h⟩; exact ⟨RP p x, mem_red.2 ⟨x, hx, hz, rfl⟩, by rw [← CP_compl hp (hX x hx) hz]; exact h⟩
 ·rintro ⟨r, hr, h⟩; obtain ⟨x, hx, hz, rfl⟩ := mem_red.1 hr; exact ⟨x, hx, hz, by rw [CP_compl hp (hX x hx) hz]; exact h⟩
theorem red_iff {Y : List (List Int)} (hY : ∀ y ∈ Y, Rdc p y) {y : List Int} : y ∈ redL p Y ↔ y ∈ Y := by
 rw [mem_red]
 constructor
 ·rintro ⟨x, hx, hz, rfl⟩; rw [(hY x hx).rp]; exact hx
 ·intro hy; exact ⟨y, hy, (hY y hy).zp, (hY y hy).rp.symm⟩
theorem cloL_rdc (hp : p ∈ kPrimes) (hX : ∀ x ∈ X, Dom p x) : ∀ y ∈ cloL p X, Rdc p y := fun y hy => by
 obtain ⟨r, hr, h | h⟩ := (clo_iff hp hX).1 hy
 ·rw [h]; exact redL_rdc hp hX r hr
 ·rw [h]; exact (redL_rdc hp hX r hr).co hp
theorem lesL_rdc (hp : p ∈ kPrimes) (hX : ∀ x ∈ X, Dom p x) : ∀ y ∈ lesL p X, Rdc p y := fun y hy => by
 obtain ⟨r, hr, rfl⟩ := (les_iff hp hX).1 hy; exact (redL_rdc hp hX r hr).lo hp
theorem sort_mem (hp : p ∈ kPrimes) {l : List (List Int)} (hl : ∀ y ∈ l, Rdc p y) (y : List Int) : y ∈ sortP p l ↔ y ∈ l := (sortP_spec (primesOk_of hp).two' (primesOk_of hp).inc l fun y hy => (hl y hy).dom.len).2 y
theorem keeps_red (hp : p ∈ kPrimes) (hX : ∀ x ∈ X, Dom p x) : sortP p (redL p (sortP p (redL p X))) = sortP p (redL p X) := by
 have h0 := redL_rdc hp hX
 have h1 : ∀ y ∈ sortP p (redL p X), Rdc p y := fun y hy => h0 y ((sort_mem hp h0 y).1 hy)
 refine sortP_congr (primesOk_of hp).two' (primesOk_of hp).inc (fun y hy => (h1 y ((red_iff h1).1 hy)).dom.len) fun y => ?_
 rw [red_iff h1, sort_mem hp h0]
theorem keeps_les (hp : p ∈ kPrimes) (hX : ∀ x ∈ X, Dom p x) : sortP p (lesL p (sortP p (cloL p X))) = sortP p (lesL p X) := by
 have h0 := cloL_rdc hp hX
 have h1 : ∀ y ∈ sortP p (cloL p X), Rdc p y := fun y hy => h0 y ((sort_mem hp h0 y).1 hy)
 have hd : ∀ y ∈ sortP p (cloL p X), Dom p y := fun y hy => (h1 y hy).dom
 refine sortP_congr (primesOk_of hp).two' (primesOk_of hp).inc (fun y hy => (lesL_rdc hp hd y hy).dom.len) fun y => ?_
 rw [les_iff hp hd, les_iff hp hX]
 constructor
 ·rintro ⟨c, hc, rfl⟩; rw [red_iff h1, sort_mem hp h0] at hc; obtain ⟨r, hr, h | h⟩ := (clo_iff hp hX).1 hc
  ·exact ⟨r, hr, by rw [h]⟩
  ·exact ⟨r, hr, by rw [h, low_compl hp (redL_rdc hp hX r hr)]⟩
 ·rintro ⟨r, hr, rfl⟩; refine ⟨r, ?_, rfl⟩; rw [red_iff h1, sort_mem hp h0]; exact (clo_iff hp hX).2 ⟨r, hr, .inl rfl⟩
theorem keeps_clo (hp : p ∈ kPrimes) (hX : ∀ x ∈ X, Dom p x) : sortP p (cloL p (sortP p (lesL p X))) = sortP p (cloL p X) := by
 have h0 := lesL_rdc hp hX
 have h1 : ∀ y ∈ sortP p (lesL p X), Rdc p y := fun y hy => h0 y ((sort_mem hp h0 y).1 hy)
 have hd : ∀ y ∈ sortP p (lesL p X), Dom p y := fun y hy => (h1 y hy).dom
 refine sortP_congr (primesOk_of hp).two' (primesOk_of hp).inc (fun y hy => (cloL_rdc hp hd y hy).dom.len) fun y => ?_
 rw [clo_iff hp hd, clo_iff hp hX]
 constructor
 ·rintro ⟨c, hc, h⟩; rw [red_iff h1, sort_mem hp h0] at hc; obtain ⟨r, hr, rfl⟩ := (les_iff hp hX).1 hc; exact ⟨r, hr, (low_pair r y).1 h⟩
 ·rintro ⟨r, hr, h⟩; refine ⟨low p r, ?_, (low_pair r y).2 h⟩; rw [red_iff h1, sort_mem hp h0]; exact (les_iff hp hX).2 ⟨r, hr, rfl⟩
theorem keeps_len (hp : p ∈ kPrimes) (hX : ∀ x ∈ X, Dom p x) : (sortP p (cloL p X)).length = 2 * (sortP p (lesL p X)).length := by
 have hP := primesOk_of hp; have hc := cloL_rdc hp hX; have hl := lesL_rdc hp hX; have nc := sorted_nodup (ltP_irr p) (sortP_spec hP.two' hP.inc (cloL p X) fun y hy => (hc y hy).dom.len).1; have nl := sorted_nodup (ltP_irr p) (sortP_spec hP.two' hP.inc (lesL p X) fun y hy => (hl y hy).dom.len).1
 have hlow : ∀ y ∈ sortP p (lesL p X), low p y = y := fun y hy => by
  obtain ⟨r, hr, rfl⟩ := (les_iff hp hX).1 ((sort_mem hp hl y).1 hy)
  rcases low_or (p := p) r with e | e
  ·rw [e, e]
  ·conv => lhs; rw [e]
   rw [low_compl hp (redL_rdc hp hX r hr)]
 have hrd : ∀ y ∈ sortP p (lesL p X), Rdc p y := fun y hy => hl y ((sort_mem hp hl y).1 hy)
 have nm : ((sortP p (lesL p X)).map compl).Nodup := by
  refine List.Pairwise.map _ (fun a b h => ?_) nl; intro e; exact h (by rw [← compl_compl a, ← compl_compl b, e])
 have hperm := perm_of_mem (l := sortP p (cloL p X)) (m := sortP p (lesL p X) ++ (sortP p (lesL p X)).map compl) nc
  (List.nodup_append.2 ⟨nl, nm, fun a ha b hb e => by
   obtain ⟨b', hb', rfl⟩ := List.mem_map.1 hb; have h1 := hlow a ha; have h2 := hlow b' hb'; rw [e, low_compl hp (hrd b' hb'), h2] at h1
   exact (hrd b' hb').ne hp h1.symm⟩)
  (fun y => by
   rw [sort_mem hp hc, clo_iff hp hX, List.mem_append, List.mem_map]
   constructor
   ·rintro ⟨r, hr, h⟩; have hm : low p r ∈ sortP p (lesL p X) := (sort_mem hp hl _).2 ((les_iff hp hX).2 ⟨r, hr, rfl⟩)
    rcases (low_pair (p := p) r y).2 h with h | h
    ·exact .inl (by rw [h]; exact hm)
    ·exact .inr ⟨_, hm, h.symm⟩
   ·rintro (h | ⟨b, hb, rfl⟩)
    ·obtain ⟨r, hr, rfl⟩ := (les_iff hp hX).1 ((sort_mem hp hl y).1 h); exact ⟨r, hr, low_or r⟩
    ·obtain ⟨r, hr, rfl⟩ := (les_iff hp hX).1 ((sort_mem hp hl b).1 hb); refine ⟨r, hr, ?_⟩
     exact (low_pair (p := p) r _).1 (.inr rfl))
 rw [hperm.length_eq, List.length_append, List.length_map]
 omega
theorem keeps_order (hp : p ∈ kPrimes) (hX : ∀ x ∈ X, Dom p x) : (sortP p (cloL p X)).Pairwise (ltP p) := (sortP_spec (primesOk_of hp).two' (primesOk_of hp).inc (cloL p X) fun y hy => (cloL_rdc hp hX y hy).dom.len).1
end
end Go.Proofs.YtkgkihichdcpmaaGreatDoor.H
end
section
namespace Go.Proofs.YtkgkihichdcpmaaGreatDoor.H
open Go.ChangeShapes Go.WideShapes Go.ChangeAt Go.RowKit Go.Proofs.YtkgkihichdcpmaaGreatDoorW.PrintWords
theorem gSyntax : Tryz.prog.globalNamed "strconv.ErrSyntax" = some 1 := by kernel_rfl
theorem gRange : Tryz.prog.globalNamed "strconv.ErrRange" = some 2 := by kernel_rfl
theorem gPow : Tryz.prog.globalNamed "internal/strconv.uint64pow10" = some 0 := by kernel_rfl
theorem tSyntax : (Tryz.prog.globals[1]?).map (·.type) = some 168 := by kernel_rfl
theorem tRange : (Tryz.prog.globals[2]?).map (·.type) = some 168 := by kernel_rfl
theorem tPow : (Tryz.prog.globals[0]?).map (·.type) = some 238 := by kernel_rfl
theorem pow_data : (Rows.laid_internal_strconv_uint64pow10 : DataW Unit) = Lib.tabData .u64 Lib.pow10Tab := by kernel_rfl
theorem stays {W W' : World} {g : Nat} {n : String} {cs : Array Value} (hg : Tryz.prog.globalNamed n = some g) (h : W.var? Tryz.prog n = some cs) (hb : Below W.heap.size W W') : W'.var? Tryz.prog n = some cs := by
 unfold World.var? at h ⊢; rw [hg] at h ⊢; simp only [Option.bind_some] at h ⊢
 have hlt : g < W.heap.size := by
  rcases Nat.lt_or_ge g W.heap.size with h' | h'
  ·exact h'
  ·rw [Array.getElem?_eq_none h'] at h; cases h
 rw [hb.block g hlt]; exact h
theorem iface_cells {W : World} {fuel : Nat} {cs : List Value} {nm : String} {d : DataW Unit} {p : List MemPlace} {ms : Array (String × TypeId)} {t : TypeId} (ht : Tryz.prog.underlying t = some (.interface ms))
  (h : DataW.trod (fun _ => ()) Tryz.prog W 0 (fun _ => true) false fuel t cs = some (.iface nm d, p)) : ∃ u v, cs = [.iface u v] := by
 cases fuel with
 | zero => simp [DataW.trod] at h
 | succ fuel =>
  unfold DataW.trod at h; rw [ht] at h
  cases cs with
  | nil => simp at h
  | cons c r =>
   cases r with
   | nil => cases c <;> first | exact ⟨_, _, rfl⟩ | (simp at h)
   | cons c2 r2 => cases c <;> simp at h
theorem gl_of_laid {W : World} {laid : List (String × DataW Unit)} (h : laidMet Tryz.prog laid W) (h1 : ("internal/strconv.uint64pow10", Rows.laid_internal_strconv_uint64pow10) ∈ laid) (h2 : ("strconv.ErrRange", Rows.laid_strconv_ErrRange) ∈ laid) (h3 : ("strconv.ErrSyntax", Rows.laid_strconv_ErrSyntax) ∈ laid) : GL W := by
 intro W' hb; refine ⟨?_, ?_, ?_⟩
 ·obtain ⟨g, t, cs, fuel, p, hg, ht, hv, hd⟩ := Lib.laidMet.reads h h1; obtain rfl := Option.some.inj (gPow.symm.trans hg); obtain rfl := Option.some.inj (tPow.symm.trans ht); rw [pow_data] at hd; have hcs := Lib.cells_of_tab (k := .u64) (zs := Lib.pow10Tab) Tryz.underlying238 Tryz.underlying109 (by kernel_rfl) (by kernel_rfl) hd; have := stays gPow hv hb; unfold Lib.TabIs; rw [this, ← hcs]
 ·obtain ⟨g, t, cs, fuel, p, hg, ht, hv, hd⟩ := Lib.laidMet.reads h h3; obtain rfl := Option.some.inj (gSyntax.symm.trans hg); obtain rfl := Option.some.inj (tSyntax.symm.trans ht); obtain ⟨u, v, hcs⟩ := iface_cells Tryz.underlying168 hd; refine ⟨u, v, ?_⟩; rw [World.var?_cell gSyntax (stays gSyntax hv hb) 0, ← Array.getElem?_toList, hcs]; rfl
 ·obtain ⟨g, t, cs, fuel, p, hg, ht, hv, hd⟩ := Lib.laidMet.reads h h2; obtain rfl := Option.some.inj (gRange.symm.trans hg); obtain rfl := Option.some.inj (tRange.symm.trans ht); obtain ⟨u, v, hcs⟩ := iface_cells Tryz.underlying168 hd; refine ⟨u, v, ?_⟩; rw [World.var?_cell gRange (stays gRange hv hb) 0, ← Array.getElem?_toList, hcs]; rfl
section
variable {H : Type} {enc : TypeId × Value → H}
end
end Go.Proofs.YtkgkihichdcpmaaGreatDoor.H
end
section
namespace Go.Proofs.YtkgkihichdcpmaaGreatDoor.H
open Go.ChangeShapes Go.WideShapes Go.ChangeAt Go.RowKit Go.Proofs.YtkgkihichdcpmaaGreatDoorW.PrintWords
def Fours (W : World) (A : Option Addr) (l : List (List Int)) : Prop :=
 ∀ i, i < l.length → ∃ ad e0 e1 e2 e3, A = some ad ∧ l.getD i [] = [e0, e1, e2, e3] ∧ W.cell? (ad.add (i * 4)) = some (.int .i8 e0) ∧ W.cell? ⟨(ad.add (i * 4)).block, (ad.add (i * 4)).off + 1, none⟩ = some (.int .i8 e1) ∧ W.cell? ⟨(ad.add (i * 4)).block, (ad.add (i * 4)).off + 2, none⟩ = some (.int .i8 e2) ∧ W.cell? ⟨(ad.add (i * 4)).block, (ad.add (i * 4)).off + 3, none⟩ = some (.int .i8 e3) ∧ ∀ e ∈ [e0, e1, e2, e3], -128 ≤ e ∧ e ≤ 127
theorem Fours.below {W W' : World} {A : Option Addr} {l : List (List Int)} (h : Fours W A l) (hb : Below W.heap.size W W') : Fours W' A l := fun i hi => by
 obtain ⟨ad, e0, e1, e2, e3, h1, h2, h3, h4, h5, h6, h7⟩ := h i hi; exact ⟨ad, e0, e1, e2, e3, h1, h2, pcb hb h3, pcb hb h4, pcb hb h5, pcb hb h6, h7⟩
section
variable {H : Type} {enc : TypeId × Value → H}
theorem i8_bounds {x : Int} (h : (Lit.int .i8 x).wf = true) : -128 ≤ x ∧ x ≤ 127 := by
 simpa [Lit.wf, IntKind.min, IntKind.max, IntKind.signed, IntKind.bits] using h
theorem fours_arg {W : World} {base : Nat} {held : Bool} {t : TypeId} {a : Option Addr} {len cap : Nat} {d : DataW H} {ps : List MemPlace} (ht : Tryz.prog.underlying t = some (.slice 31)) (h : DataW.Trod enc Tryz.prog W base (fun _ => true) held t (.slice a len cap) d ps) :
  ∃ l : List (List Int), len = l.length ∧ l.length ≤ cap ∧ l.length ≤ maxLen ∧ Fours W a l := by
 obtain ⟨fuel, hf⟩ := h
 rcases Deep.open_slice ht hf with ⟨hcs, _⟩ | ⟨x, l, c, m, n, D, Pl, hcs, _, hl, hm, hmm, _, hcell⟩
 ·simp [Value.cells] at hcs; obtain ⟨rfl, rfl, rfl⟩ := hcs; exact ⟨[], rfl, Nat.zero_le _, Nat.zero_le _, fun i hi => absurd hi (by simp)⟩
 ·simp [Value.cells] at hcs; obtain ⟨rfl, rfl, rfl⟩ := hcs; simp only [if_true] at hmm
  have c31 : Tryz.prog.cellsOf 31 = 4 := by kernel_rfl
  rw [c31] at hcell
  have each : ∀ i, i < len → ∃ y : Int × Int × Int × Int, W.cell? (x.add (i * 4)) = some (.int .i8 y.1) ∧ W.cell? ⟨(x.add (i * 4)).block, (x.add (i * 4)).off + 1, none⟩ = some (.int .i8 y.2.1) ∧ W.cell? ⟨(x.add (i * 4)).block, (x.add (i * 4)).off + 2, none⟩ = some (.int .i8 y.2.2.1) ∧ W.cell? ⟨(x.add (i * 4)).block, (x.add (i * 4)).off + 3, none⟩ = some (.int .i8 y.2.2.2) ∧ ∀ e ∈ [y.1, y.2.1, y.2.2.1, y.2.2.2], -128 ≤ e ∧ e ≤ 127 := by
   intro i hi; obtain ⟨cs', hc, htr⟩ := hcell i (by omega); obtain ⟨_, hlen, hget⟩ := World.cells?_some hc
   match cs', hlen with
   | [c0, c1, c2, c3], _ =>
    obtain ⟨y0, y1, y2, y3, n', _, h0, h1, h2, h3⟩ := trod_array4 (e := 30) (by kernel_rfl) (by kernel_rfl) htr; obtain ⟨z0, e0, _, w0⟩ := DataW.trod_int (k := .i8) (by kernel_rfl) h0; obtain ⟨z1, e1, _, w1⟩ := DataW.trod_int (k := .i8) (by kernel_rfl) h1; obtain ⟨z2, e2, _, w2⟩ := DataW.trod_int (k := .i8) (by kernel_rfl) h2; obtain ⟨z3, e3, _, w3⟩ := DataW.trod_int (k := .i8) (by kernel_rfl) h3; simp at e0 e1 e2 e3; subst e0 e1 e2 e3
    have g : ∀ j (hj : j < 4), 0 < j → W.cell? ⟨(x.add (i * 4)).block, (x.add (i * 4)).off + j, none⟩ = [Value.int .i8 z0, Value.int .i8 z1, Value.int .i8 z2, Value.int .i8 z3][j]? := fun j hj h0 => by
     rw [← add_field _ _ j h0, ← Addr.add_add]; exact hget j hj
    have g0 := hget 0 (by omega); rw [Addr.add_zero'] at g0; refine ⟨(z0, z1, z2, z3), g0, g 1 (by omega) (by omega), g 2 (by omega) (by omega), g 3 (by omega) (by omega), fun e he => ?_⟩; simp only [List.mem_cons, List.not_mem_nil, or_false] at he
    rcases he with rfl | rfl | rfl | rfl
    ·exact i8_bounds w0
    ·exact i8_bounds w1
    ·exact i8_bounds w2
    ·exact i8_bounds w3
  obtain ⟨y, hy⟩ := Deep.choose_lt each
  have hlen : ((List.range len).map fun r => [(y r).1, (y r).2.1, (y r).2.2.1, (y r).2.2.2]).length = len := by simp
  refine ⟨(List.range len).map fun r => [(y r).1, (y r).2.1, (y r).2.2.1, (y r).2.2.2], hlen.symm, by omega, by omega, fun i hi => ?_⟩; rw [hlen] at hi; obtain ⟨k0, k1, k2, k3, k4⟩ := hy i hi; refine ⟨x, (y i).1, (y i).2.1, (y i).2.2.1, (y i).2.2.2, rfl, ?_, k0, k1, k2, k3, k4⟩; rw [List.getD_eq_getElem?_getD, List.getElem?_map, List.getElem?_range hi]; rfl
end
end Go.Proofs.YtkgkihichdcpmaaGreatDoor.H
end
section
namespace Go.Proofs.YtkgkihichdcpmaaGreatDoor.H
open Go.RowKit Go.Shelf Go.Proofs.YtkgkihichdcpmaaGreatDoorW.PrintWords Go.Proofs.YtkgkihichdcpmaaGreatDoorW.PrintLast Go.Proofs.YtkgkihichdcpmaaGreatDoorW.PrintMore
attribute [local go_sem] max2_int min2_int max_two min_two max_three min_three max_four min_four
open Dec
set_option linter.unusedVariables false
set_option linter.unusedSimpArgs false
def pOf (n : Int) : List Int := kPrimes.getD (n % 10).toNat []
theorem pOf_mem (n : Int) : pOf n ∈ kPrimes := by
 unfold pOf
 have : (n % 10).toNat < kPrimes.length := by
  show _ < 10
  omega
 rw [List.getD_eq_getElem?_getD, List.getElem?_eq_getElem this]; exact List.getElem_mem _
def xOf (p es : List Int) : List Int := ivl (min p.length 4) es
theorem four_len : ∀ p ∈ kPrimes, 1 ≤ p.length ∧ p.length ≤ 4 := by
 unfold kPrimes
 decide
theorem tmod_small (e : Int) : -9 ≤ Int.tmod e 10 ∧ Int.tmod e 10 ≤ 9 := by
 rcases Int.le_total 0 e with h | h
 ·rw [Int.tmod_eq_emod_of_nonneg h]
  omega
 ·have h1 : Int.tmod e 10 = -(Int.tmod (-e) 10) := by rw [Int.neg_tmod, Int.neg_neg]
  rw [h1, Int.tmod_eq_emod_of_nonneg (by omega)]
  omega
theorem xOf_dom {p es : List Int} (hp : p ∈ kPrimes) (he : es.length = 4) : Dom p (xOf p es) := by
 have h4 := four_len p hp; refine dom_small (by unfold xOf; rw [ivl_len]; omega) (fun e hx => ?_) (by omega); unfold xOf ivl at hx; obtain ⟨a, _, rfl⟩ := List.mem_map.1 hx; exact tmod_small a
theorem Fours.four {W : World} {A : Option Addr} {l : List (List Int)} (h : Fours W A l) : ∀ es ∈ l, es.length = 4 := fun es hes => by
 obtain ⟨i, hi, rfl⟩ := List.mem_iff_getElem.1 hes; obtain ⟨ad, e0, e1, e2, e3, _, h2, _⟩ := h i hi; rw [List.getD_eq_getElem?_getD, List.getElem?_eq_getElem hi] at h2; have h2' : l[i] = [e0, e1, e2, e3] := h2; rw [h2']; rfl
theorem equal_l0 (x : List Int) (hl : x.length ≤ 100000) : ∀ (m i : Nat), x.length - i = m → i ≤ x.length → ∀ k, m + 1 ≤ k → api_Row_int_70.l0 k x x (x.length : Int) (i : Int) = some true
 | m, i, hm, hi, 0, hk => by omega
 | m, i, hm, hi, k + 1, hk => by
  unfold api_Row_int_70.l0
  by_cases h : i < x.length
  ·obtain ⟨m', rfl⟩ : ∃ m', m = m' + 1 := ⟨m - 1, by omega⟩
   have hw : wrap64 ((i : Int) + 1) = ((i + 1 : Nat) : Int) := by rw [wrap_small (by omega) (by omega)]; omega
   rw [if_pos (by omega), if_pos (by omega), if_pos (by omega), if_pos (by omega), if_pos rfl, hw]; exact equal_l0 x hl m' (i + 1) (by omega) (by omega) k (by omega)
  ·rw [if_neg (by omega)]
theorem equal_self (x : List Int) (hl : x.length ≤ 100000) (k : Nat) (hk : x.length + 1 ≤ k) : row_Equal.f k x x = some true := by
 unfold row_Equal.f api_Row_int_70.f; rw [if_pos rfl]; have h := equal_l0 x hl x.length 0 (by omega) (by omega) k (by omega); have h' : api_Row_int_70.l0 k x x (x.length : Int) 0 = some true := h; rw [h']; rfl
theorem same_l0 (a : List (List Int)) (hl : a.length ≤ 100000) (hr : ∀ x ∈ a, x.length ≤ 100) : ∀ (m i : Nat), a.length - i = m → i ≤ a.length → ∀ k, m + 110 ≤ k → schismalaw29_same.l0 k a a (i : Int) = some true
 | m, i, hm, hi, 0, hk => by omega
 | m, i, hm, hi, k + 1, hk => by
  unfold schismalaw29_same.l0
  by_cases h : i < a.length
  ·obtain ⟨m', rfl⟩ : ∃ m', m = m' + 1 := ⟨m - 1, by omega⟩
   have hw : wrap64 ((i : Int) + 1) = ((i + 1 : Nat) : Int) := by rw [wrap_small (by omega) (by omega)]; omega
   have hx : rd_L3 a (i : Int) = a[i] := by
    unfold rd_L3; rw [Int.toNat_natCast, List.getD_eq_getElem?_getD, List.getElem?_eq_getElem h]; rfl
   have he := equal_self a[i] (by have := hr _ (List.getElem_mem h); omega) k (by have := hr _ (List.getElem_mem h); omega); rw [if_pos (by omega), if_pos (by omega), if_pos (by omega), hx, he, Option.bind_some, if_pos rfl, hw]; exact same_l0 a hl hr m' (i + 1) (by omega) (by omega) k (by omega)
  ·rw [if_neg (by omega)]
theorem same_self (a : List (List Int)) (hl : a.length ≤ 1000) (hr : ∀ x ∈ a, x.length ≤ 100) : schismalaw29_same.f 2000 a a = some true := by
 unfold schismalaw29_same.f; rw [if_pos rfl]; exact same_l0 a (by omega) hr a.length 0 (by omega) (by omega) 2000 (by omega)
theorem same_dom {p : List Int} {a : List (List Int)} (hp : p.length ≤ 4) (hl : a.length ≤ 1000) (hd : ∀ y ∈ a, Dom p y) : schismalaw29_same.f 2000 a a = some true := same_self a hl fun x hx => by have := (hd x hx).len; omega
theorem order_at {p : List Int} {s : List (List Int)} (hs : s.Pairwise (ltP p)) {k : Nat} (h0 : 1 ≤ k) (h : k < s.length) : cmpP p (s.getD (k - 1) []) (s.getD k []) = -1 := by
 have := cmpP_places hs ⟨k - 1, by omega⟩ ⟨k, h⟩; rw [this, if_pos (show k - 1 < k by omega)]
theorem cmp_at {p : List Int} {s : List (List Int)} (hk : p ∈ kPrimes) (hd : ∀ y ∈ s, Dom p y) (hs : s.Pairwise (ltP p)) {k : Nat} (h : k + 1 < s.length) : monzo_Compare.f 2000000000 p (s.getD k []) (s.getD (k + 1) []) = some (-1, 0) := by
 have hm : ∀ i, i < s.length → Dom p (s.getD i []) := fun i hi => hd _ (by rw [List.getD_eq_getElem?_getD, List.getElem?_eq_getElem hi]; exact List.getElem_mem _)
 have ho : cmpP p (s.getD k []) (s.getD (k + 1) []) = -1 := order_at (k := k + 1) hs (by omega) h; rw [← ho]; exact compare_f (primesOk_of hk) ((hm k (by omega)).right hk) ((hm (k + 1) h).right hk) _ (Nat.le_refl _)
set_option maxHeartbeats 16000000 in
set_option maxRecDepth 100000 in
theorem keeps_walk (n : Int) (A1 : Option Addr) (c1 : Nat) (l : List (List Int)) (w : World) (hn : 0 ≤ n) (hn2 : n ≤ 255) (hF : Fours w A1 l) (hc : l.length ≤ c1) (hG : GL w) (hl : l.length ≤ 9223372036854775807) :
  Calls Tryz.prog 5 #[.int .u8 n, .slice A1 l.length c1] w fun e w' => e = .returned (.bool true) ∧ Below w.heap.size w w' := by
 have HF := AS hF; have HGL := AS hG; have H4 := AS hF.four; clear hF hG
 by_cases h8 : l.length ≤ 8
 ·have HPR := AS (fun w => primes_calls n w hn hn2); have HK := AS (pOf_mem n); rw [show kPrimes.getD (n % 10).toNat [] = pOf n from rfl] at HPR
  obtain ⟨p, hp⟩ : ∃ p, p = pOf n := ⟨_, rfl⟩
  rw [← hp] at HK HPR; clear hp; have hpl := four_len p HK.out; go_enter Tryz.func5, Tryz.ntmps5; go_wp2_with (first | (go_at_call 11; refine Calls.mono (known_calls w HGL.out) ?_; rintro e w1 ⟨rfl, hb1⟩; have HB1 := AS hb1; clear hb1) | (go_at_call 12; refine Calls.mono (HPR.out _) ?_; rintro e w2 ⟨AP, cP, rfl, hcP, hCP, hb2⟩; have HB2 := AS (bst HB1.out hb2); have HCP := AS hCP; clear hb2 hCP))
  go_loopw [6, 7] (fun v i wr => ∃ k : Nat, i = .int .i64 k ∧ k ≤ l.length ∧ Aside0 (Btw w2 ((l.take k).map (xOf p)) v wr)) (fun _ i _ => l.length - (intOf i).toNat)
  case atStart => exact ⟨0, rfl, Nat.zero_le _, ⟨RowsOf.nil _ _, Below.refl _ _⟩⟩
  case round =>
   obtain ⟨k, rfl, hk, HS⟩ := hrel
   by_cases hlt : k < l.length
   ·obtain ⟨ad, e0, e1, e2, e3, rfl, hes, hx0, hx1, hx2, hx3, hbd⟩ := HF.out.below (bst HB2.out HS.out.below) k hlt
    have HT : Aside0 ((l.take (k + 1)).map (xOf p) = (l.take k).map (xOf p) ++ [xOf p [e0, e1, e2, e3]]) := ⟨by
     rw [List.take_succ_eq_append_getElem hlt, List.map_append, show l[k] = [e0, e1, e2, e3] by rw [← hes, List.getD_eq_getElem?_getD, List.getElem?_eq_getElem hlt]; rfl]
     rfl⟩
    have HI := AS (interval_calls AP cP p e0 e1 e2 e3 wr hbd); have HLM : Aside0 (((l.take k).map (xOf p)).length ≤ 62) := ⟨by rw [List.length_map, List.length_take]; omega⟩
    obtain ⟨y, hy⟩ : ∃ y, y = xOf p [e0, e1, e2, e3] := ⟨_, rfl⟩
    have HI' : Aside0 (Calls Tryz.prog 13 #[.slice AP p.length cP, .agg #[.int .i8 e0, .int .i8 e1, .int .i8 e2, .int .i8 e3]] wr fun e w' => ∃ v, e = .returned v ∧ Kd.R (Kd.int .i64) 3 w' wr.heap.size (fun _ => True) v y ∧ Below wr.heap.size wr w') := ⟨by rw [hy]; exact HI.out⟩; rw [← hy] at HT; clear hy HI hes hbd
    obtain ⟨pl, hpl2⟩ : ∃ pl, pl = p.length := ⟨_, rfl⟩
    go_wp2_with (first | (go_at_call 13; refine (HI'.out).mono ?_; rintro e w3 ⟨z, rfl, hR3, hb3⟩; have HRA3 := AS (RA.of_R (base := w2.heap.size) hR3); obtain ⟨A3, c3, rfl, hl3, hC3⟩ := Kd.R_reads hR3; have HS3 := AS (HS.out.step hb3); clear hR3 hC3 hb3) | (at_builtin; refine RowsOf.append (w0 := w2) w2.heap.size rfl (.tmp 39) (.tmp 46) 27 rfl Tryz.underlying27 info28_own _ ((l.take k).map (xOf p)) y _ rfl rfl HRA3.out HS3.out.rows HS3.out.below HS3.out.below.size (by have := HLM.out; omega) ?_; intro v5 w5 h1 h2 h3 _; have HS5 := AS (Btw.mk h1 h2); clear h1 h2 h3)); go_roundw
    case rel => exact ⟨k + 1, by go_num, by omega, ⟨by rw [HT.out]; exact HS5.out⟩⟩
    case measure => simp [intOf]; omega
   ·have hkl : k = l.length := by omega
    subst hkl
    have hXd : ∀ x ∈ l.map (xOf p), Dom p x := by
     intro x hx; obtain ⟨es, he, rfl⟩ := List.mem_map.1 hx; exact xOf_dom HK.out (H4.out _ he)
    have hXl : (l.map (xOf p)).length ≤ 8 := by rw [List.length_map]; omega
    rw [List.take_length] at HS
    obtain ⟨X, hX⟩ : ∃ X, X = l.map (xOf p) := ⟨_, rfl⟩
    rw [← hX] at HS hXd hXl; clear hX; have h0 := redL_rdc HK.out hXd; have h1 := lesL_rdc HK.out hXd; have h2 := cloL_rdc HK.out hXd; have l0 : (redL p X).length ≤ 8 := Nat.le_trans (List.length_filterMap_le _ _) hXl; have l1 : (lesL p X).length ≤ 8 := Nat.le_trans (List.length_filterMap_le _ _) hXl; have l2 : (cloL p X).length ≤ 16 := Nat.le_trans (pairs_len _ _ _ _) (by omega); have HL7 : Aside0 ((sortP p (redL p X)).length ≤ 20) := ⟨by have := sortP_len p (redL p X) []; unfold sortP; simp only [List.length_nil] at this; omega⟩; have HL8 : Aside0 ((sortP p (lesL p X)).length ≤ 20) := ⟨by have := sortP_len p (lesL p X) []; unfold sortP; simp only [List.length_nil] at this; omega⟩; have HL9 : Aside0 ((sortP p (cloL p X)).length ≤ 20) := ⟨by have := sortP_len p (cloL p X) []; unfold sortP; simp only [List.length_nil] at this; omega⟩; have HD7 : Aside0 (∀ y ∈ sortP p (redL p X), Dom p y) := ⟨fun y hy => (h0 y ((sort_mem HK.out h0 y).1 hy)).dom⟩; have HD8 : Aside0 (∀ y ∈ sortP p (lesL p X), Dom p y) := ⟨fun y hy => (h1 y ((sort_mem HK.out h1 y).1 hy)).dom⟩; have HD9 : Aside0 (∀ y ∈ sortP p (cloL p X), Dom p y) := ⟨fun y hy => (h2 y ((sort_mem HK.out h2 y).1 hy)).dom⟩; clear h0 h1 h2 l0 l1 l2; have HOK1 := AS (wholeOk_of HK.out hXd (by omega)); have HOK2 := AS (lesserOk_of HK.out hXd (by omega)); have HOK3 := AS (pairOk_of HK.out hXd (by omega)); have HOK4 := AS (wholeOk_of HK.out HD7.out (by have := HL7.out; omega)); have HOK5 := AS (lesserOk_of HK.out HD9.out (by have := HL9.out; omega)); have HOK6 := AS (pairOk_of HK.out HD8.out (by have := HL8.out; omega)); rw [keeps_red HK.out hXd] at HOK4; rw [keeps_les HK.out hXd] at HOK5; rw [keeps_clo HK.out hXd] at HOK6; have HLEN := AS (keeps_len HK.out hXd); have HORD := AS (keeps_order HK.out hXd); have HPC : Aside0 (∃ k, prCk.f k p = some 0) := ⟨300, by have := List.all_eq_true.1 pchk_all p HK.out; exact of_decide_eq_true this⟩; have HCHK := AS (right_list p X (by omega) HPC.out (fun x hx => (hXd x hx).right HK.out)); clear hXd
    obtain ⟨R7, hR7⟩ : ∃ R7, R7 = sortP p (redL p X) := ⟨_, rfl⟩
    obtain ⟨R8, hR8⟩ : ∃ R8, R8 = sortP p (lesL p X) := ⟨_, rfl⟩
    obtain ⟨R9, hR9⟩ : ∃ R9, R9 = sortP p (cloL p X) := ⟨_, rfl⟩
    rw [← hR7] at HOK1 HOK4 HL7 HD7; rw [← hR8] at HOK2 HOK5 HOK6 HL8 HD8 HLEN; rw [← hR9] at HOK3 HOK5 HOK6 HL9 HD9 HLEN HORD; clear hR7 hR8 hR9; have HCHK7 := AS (right_list p R7 (by have := HL7.out; omega) HPC.out (fun x hx => (HD7.out x hx).right HK.out)); have HCHK8 := AS (right_list p R8 (by have := HL8.out; omega) HPC.out (fun x hx => (HD8.out x hx).right HK.out)); have HCHK9 := AS (right_list p R9 (by have := HL9.out; omega) HPC.out (fun x hx => (HD9.out x hx).right HK.out)); have HM7 := AS (same_dom hpl.2 (by have := HL7.out; omega) HD7.out); have HM8 := AS (same_dom hpl.2 (by have := HL8.out; omega) HD8.out); have HM9 := AS (same_dom hpl.2 (by have := HL9.out; omega) HD9.out); obtain ⟨A6, c6, rfl, hc6, hC6⟩ := HS.out.rows.reads; have HC6 := AS hC6; clear hC6 hXl; have hB0 := bst HB2.out HS.out.below; have HBr := AS hB0; have HPw := AS (Kd.C_below HCP.out HS.out.below); clear hB0
    obtain ⟨xl, hxl⟩ : ∃ xl, xl = X.length := ⟨_, rfl⟩
    go_wp2_with fail; refine Calls.mono (reduce_calls AP cP p A6 c6 X R7 _ _ _ wr HPw.out hcP HC6.out hc6 (HGL.out.below HBr.out) HCHK.out HOK1.out) ?_; rintro e w4 ⟨B7, b7, rfl, hb7, hD7, hb4⟩; have HC7 := AS hD7; have HX4 := AS hb4; have HB4 := AS (bst HBr.out hb4); clear hD7 hb4; go_wp2_with fail; refine Calls.mono (reduce_calls AP cP p B7 b7 R7 R7 _ _ _ w4 (Kd.C_below HPw.out HX4.out) hcP HC7.out hb7 (HGL.out.below HB4.out) HCHK7.out HOK4.out) ?_; rintro e w5 ⟨D7, d7, rfl, hd7, hE7, hb5⟩; have HE7 := AS hE7; have HX5 := AS (bst HX4.out hb5); have HC75 := AS (Kd.C_below HC7.out hb5); have HB5 := AS (bst HB4.out hb5); clear hE7 hb5; go_wp2_with fail; refine Calls.mono (lesser_calls AP cP p A6 c6 X R8 _ _ _ _ w5 (Kd.C_below HPw.out HX5.out) hcP (Kd.C_below HC6.out HX5.out) hc6 (HGL.out.below HB5.out) HCHK.out HOK2.out) ?_; rintro e w6 ⟨B8, b8, rfl, hb8, hD8, hb6⟩; have HC8 := AS hD8; have HX6 := AS (bst HX5.out hb6); have HC76 := AS (Kd.C_below HC75.out hb6); have HE76 := AS (Kd.C_below HE7.out hb6); have HB6 := AS (bst HB5.out hb6); clear hD8 hb6; go_wp2_with fail; refine Calls.mono (closed_calls AP cP p A6 c6 X R9 _ _ _ w6 (Kd.C_below HPw.out HX6.out) hcP (Kd.C_below HC6.out HX6.out) hc6 (HGL.out.below HB6.out) HCHK.out HOK3.out) ?_; rintro e w7 ⟨B9, b9, rfl, hb9, hD9, hb7'⟩; have HC9 := AS hD9; have HX7 := AS (bst HX6.out hb7'); have HC77 := AS (Kd.C_below HC76.out hb7'); have HE77 := AS (Kd.C_below HE76.out hb7'); have HC87 := AS (Kd.C_below HC8.out hb7'); have HB7 := AS (bst HB6.out hb7'); clear hD9 hb7'; go_wp2_with fail; refine Calls.mono (lesser_calls AP cP p B9 b9 R9 R8 _ _ _ _ w7 (Kd.C_below HPw.out HX7.out) hcP HC9.out hb9 (HGL.out.below HB7.out) HCHK9.out HOK5.out) ?_; rintro e w8 ⟨D8, d8, rfl, hd8, hE8, hb8'⟩; have HE8 := AS hE8; have HY8 := AS hb8'; have HX8 := AS (bst HX7.out hb8'); have HB8 := AS (bst HB7.out hb8'); clear hE8 hb8'; go_wp2_with fail; refine Calls.mono (closed_calls AP cP p B8 b8 R8 R9 _ _ _ w8 (Kd.C_below HPw.out HX8.out) hcP (Kd.C_below HC87.out HY8.out) hb8 (HGL.out.below HB8.out) HCHK8.out HOK6.out) ?_; rintro e w9 ⟨D9, d9, rfl, hd9, hE9, hb9'⟩; have HE9 := AS hE9; have HE89 := AS (Kd.C_below HE8.out hb9'); have HY9 := AS (bst HY8.out hb9'); have HX9 := AS (bst HX8.out hb9'); have HB9 := AS (bst HB8.out hb9'); clear hE9 hb9'; go_wp2_with fail; refine Calls.mono (schismalaw29_same.calls 2000 B7 b7 R7 D7 d7 R7 true w9 (Kd.C_below HC77.out HY9.out) hb7 (Kd.C_below HE77.out HY9.out) hd7 (HGL.out.below HB9.out) HM7.out) ?_; rintro e w10 ⟨rfl, hd10⟩; have HZ10 := AS hd10.below; clear hd10; go_wp2_with fail; refine Calls.mono (schismalaw29_same.calls 2000 D8 d8 R8 B8 b8 R8 true w10 (Kd.C_below HE89.out HZ10.out) hd8 (Kd.C_below HC87.out (bst HY9.out HZ10.out)) hb8 (HGL.out.below (bst HB9.out HZ10.out)) HM8.out) ?_; rintro e w11 ⟨rfl, hd11⟩; have HZ11 := AS (bst HZ10.out hd11.below); clear hd11; go_wp2_with fail; refine Calls.mono (schismalaw29_same.calls 2000 D9 d9 R9 B9 b9 R9 true w11 (Kd.C_below HE9.out HZ11.out) hd9 (Kd.C_below HC9.out (bst HY9.out HZ11.out)) hb9 (HGL.out.below (bst HB9.out HZ11.out)) HM9.out) ?_; rintro e w12 ⟨rfl, hd12⟩; have HZ12 := AS (bst HZ11.out hd12.below); have HB12 := AS (bst HB9.out HZ12.out); clear hd12
    have hw2 : wrap64 (2 * (R8.length : Int)) = (R9.length : Int) := by
     have hlen := HLEN.out; have hr8 := HL8.out
     rw [wrap_small (by omega) (by omega)]; omega
    go_wp2_with fail; clear hw2
    go_loopw [20] (fun i wr' => ∃ k : Nat, i = .int .i64 ((k + 1 : Nat) : Int) ∧ (k + 1 ≤ R9.length ∨ k = 0) ∧ Aside0 (Below w12.heap.size w12 wr')) (fun i _ => R9.length + 2 - (intOf i).toNat)
    case atStart => exact ⟨0, rfl, .inr rfl, ⟨Below.refl _ _⟩⟩
    case round =>
     obtain ⟨k, rfl, hk2, HBx⟩ := hrel
     by_cases hlt : k + 1 < R9.length
     ·have hC9 := Kd.C_below HC9.out (bst HY9.out (bst HZ12.out HBx.out)); obtain ⟨ad, Bj, dj, rfl, hcj, hlj, hDj⟩ := C_rows_at hC9 k (by omega); obtain ⟨ad2, Bk, dk, had, hck, hlk, hDk⟩ := C_rows_at hC9 (k + 1) hlt; cases had; have HC := AS (cmp_at HK.out HD9.out HORD.out hlt)
      obtain ⟨x, hx⟩ : ∃ x, x = R9.getD k [] := ⟨_, rfl⟩
      obtain ⟨y, hy⟩ : ∃ y, y = R9.getD (k + 1) [] := ⟨_, rfl⟩
      rw [← hx, ← hy] at HC; rw [← hx] at hcj hlj hDj; rw [← hy] at hck hlk hDk; have HDJ := AS hDj; have HDK := AS hDk; have HBy := AS (bst HB12.out HBx.out); have HPx := AS (Kd.C_below HPw.out (bst HX9.out (bst HZ12.out HBx.out))); clear hx hy hDj hDk hC9
      obtain ⟨pl, hpl2⟩ : ∃ pl, pl = p.length := ⟨_, rfl⟩
      obtain ⟨xn, hxn⟩ : ∃ xn, xn = x.length := ⟨_, rfl⟩
      obtain ⟨yn, hyn⟩ : ∃ yn, yn = y.length := ⟨_, rfl⟩
      go_wp2_with fail; have h20 := HL9.out; have hs1 : ((0 : Int) ≤ (k : Int)) = True := eq_true (by omega); have hs2 : ((k : Int) < (R9.length : Int)) = True := eq_true (by omega); have hs3 : ((0 : Int) ≤ (k : Int) + 1) = True := eq_true (by omega); have hs4 : ((k : Int) + 1 < (R9.length : Int)) = True := eq_true (by omega)
      have hw1 : wrap64 (k : Int) = (k : Int) := by rw [wrap_small (by omega) (by omega)]
      refine start_ (n := 16) (S := fun w' => w'.cell? (ad.add k) = some (.slice Bj x.length dj) ∧ w'.cell? { block := ad.block, off := ad.off + (k + 1) } = some (.slice Bk y.length dk)) (ds := [10]) #[false, false, false, false, false, false, false, false, false, false, false, false, false, false, false, false] (by kernel_rfl) rfl rfl ⟨?_, ?_⟩ (fun hHeld => ?_); rotate_left; rotate_left; refine pure_ (i := 0) (N := some 139) (v := ?_) (a' := ?_) #[true, false, false, false, false, false, false, false, false, false, false, false, false, false, false, false] rfl rfl (by kernel_rfl) (fun _ _ _ h => h) (Or.inl ⟨by rfl, ?_⟩) ?_ ?_; rotate_left
      ·intro w'; go_simp; with_reducible rfl
      rotate_left
      ·simp only [Act.put, List.setIfInBounds_toArray, List.set_cons_zero, List.set_cons_succ, i64_w, i32_w]; rfl
      refine pure_ (i := 1) (N := some 140) (v := ?_) (a' := ?_) #[true, true, false, false, false, false, false, false, false, false, false, false, false, false, false, false] rfl rfl (by kernel_rfl) (fun _ _ _ h => h) (Or.inl ⟨by rfl, ?_⟩) ?_ ?_; rotate_left
      ·intro w'; go_simp; with_reducible rfl
      rotate_left
      ·simp only [Act.put, List.setIfInBounds_toArray, List.set_cons_zero, List.set_cons_succ, i64_w, i32_w]; rfl
      refine pure_ (i := 2) (N := some 141) (v := ?_) (a' := ?_) #[true, true, true, false, false, false, false, false, false, false, false, false, false, false, false, false] rfl rfl (by kernel_rfl) (fun _ _ _ h => h) (Or.inl ⟨by rfl, ?_⟩) ?_ ?_; rotate_left
      ·intro w'; go_simp; with_reducible rfl
      rotate_left
      ·simp only [Act.put, List.setIfInBounds_toArray, List.set_cons_zero, List.set_cons_succ, i64_w, i32_w]; rfl
      refine pure_ (i := 3) (N := some 142) (v := ?_) (a' := ?_) #[true, true, true, true, false, false, false, false, false, false, false, false, false, false, false, false] rfl rfl (by kernel_rfl) (fun _ _ _ h => h) (Or.inl ⟨by rfl, ?_⟩) ?_ ?_; rotate_left
      ·intro w'; go_simp; with_reducible rfl
      rotate_left
      ·simp only [Act.put, List.setIfInBounds_toArray, List.set_cons_zero, List.set_cons_succ, i64_w, i32_w]; rfl
      refine pure_ (i := 4) (N := some 143) (v := ?_) (a' := ?_) #[true, true, true, true, true, false, false, false, false, false, false, false, false, false, false, false] rfl rfl (by kernel_rfl) (fun _ _ _ h => h) (Or.inl ⟨by rfl, ?_⟩) ?_ ?_; rotate_left
      ·intro w'; go_simp; with_reducible rfl
      rotate_left
      ·simp only [Act.put, List.setIfInBounds_toArray, List.set_cons_zero, List.set_cons_succ, i64_w, i32_w]; rfl
      refine pure_ (i := 6) (N := some 145) (v := ?_) (a' := ?_) #[true, true, true, true, true, false, true, false, false, false, false, false, false, false, false, false] rfl rfl (by kernel_rfl) (fun _ _ _ h => h) (Or.inl ⟨by rfl, ?_⟩) ?_ ?_; rotate_left
      ·intro w'; go_simp; with_reducible rfl
      rotate_left
      ·simp only [Act.put, List.setIfInBounds_toArray, List.set_cons_zero, List.set_cons_succ, i64_w, i32_w]; rfl
      refine pure_ (i := 7) (N := some 146) (v := ?_) (a' := ?_) #[true, true, true, true, true, false, true, true, false, false, false, false, false, false, false, false] rfl rfl (by kernel_rfl) (fun _ _ _ h => h) (Or.inl ⟨by rfl, ?_⟩) ?_ ?_; rotate_left
      ·intro w'; go_simp; with_reducible rfl
      rotate_left
      ·simp only [Act.put, List.setIfInBounds_toArray, List.set_cons_zero, List.set_cons_succ, i64_w, i32_w]; rfl
      refine pure_ (i := 8) (N := some 147) (v := ?_) (a' := ?_) #[true, true, true, true, true, false, true, true, true, false, false, false, false, false, false, false] rfl rfl (by kernel_rfl) (fun _ _ _ h => h) (Or.inl ⟨by rfl, ?_⟩) ?_ ?_; rotate_left
      ·intro w'; go_simp; with_reducible rfl
      rotate_left
      ·simp only [Act.put, List.setIfInBounds_toArray, List.set_cons_zero, List.set_cons_succ, i64_w, i32_w]; rfl
      case refine_1 => exact hcj
      case refine_2 => exact hck
      refine take_ (i := 5) (N := some 144) (v := ?_) (a' := ?_) #[true, true, true, true, true, true, true, true, true, false, false, false, false, false, false, false] rfl rfl (by kernel_rfl) (fun _ _ _ h => h) (Or.inl ⟨by rfl, ?_⟩) hHeld ?_ ?_; rotate_left
      ·rintro w' ⟨s0, s1⟩; go_simp; with_reducible rfl
      rotate_left
      ·simp only [Act.put, List.setIfInBounds_toArray, List.set_cons_zero, List.set_cons_succ, i64_w, i32_w]; rfl
      refine take_ (i := 9) (N := some 148) (v := ?_) (a' := ?_) #[true, true, true, true, true, true, true, true, true, true, false, false, false, false, false, false] rfl rfl (by kernel_rfl) (fun _ _ _ h => h) (Or.inl ⟨by rfl, ?_⟩) hHeld ?_ ?_; rotate_left
      ·rintro w' ⟨s0, s1⟩; go_simp; with_reducible rfl
      rotate_left
      ·simp only [Act.put, List.setIfInBounds_toArray, List.set_cons_zero, List.set_cons_succ, i64_w, i32_w]; rfl
      clear hw1 hs1 hs2 hs3 hs4; refine last_ (i := 10) (N := some 149) #[true, true, true, true, true, true, true, true, true, true, true, false, false, false, false, false] rfl rfl (by kernel_rfl) (by decide) (fun K hK => ?_); refine goes_ Tryz.func17 (by kernel_rfl) rfl #[.slice AP p.length cP, .slice Bj x.length dj, .slice Bk y.length dk] (by rfl) rfl rfl (by (try simp only [List.map_toArray, List.map_cons, List.map_nil]); first | done | rfl) ?_; refine (monzo_Compare.calls 2000000000 AP cP p _ Bj dj x _ Bk dk y (-1) 0 _ (Kd.C_drew HPx.out) hcP (V_of_C (Kd.C_drew HDJ.out) hlj) (V_of_C (Kd.C_drew HDK.out) hlk) (HGL.out.below (bl1 HBy.out)) HC.out).mono ?_; rintro e w13 ⟨rfl, hb13⟩; refine ⟨_, rfl, ?_⟩; have HB13 := AS (bst (bl1 HBx.out) hb13); clear hb13; refine hK.out _ _ ?_; clear hK K; refine norm_ (a' := ?_) ?_ ?_; rotate_left
      ·simp only [Act.put, List.setIfInBounds_toArray, List.set_cons_zero, List.set_cons_succ, i64_w, i32_w]; rfl
      refine pure_ (i := 11) (N := some 138) (v := ?_) (a' := ?_) #[true, true, true, true, true, true, true, true, true, true, true, true, false, false, false, false] rfl rfl (by kernel_rfl) (fun _ _ _ h => h) (Or.inl ⟨by rfl, ?_⟩) ?_ ?_; rotate_left
      ·intro w'; go_simp; with_reducible rfl
      rotate_left
      ·simp only [Act.put, List.setIfInBounds_toArray, List.set_cons_zero, List.set_cons_succ, i64_w, i32_w]; rfl
      refine pure_ (i := 12) (N := some 150) (v := ?_) (a' := ?_) #[true, true, true, true, true, true, true, true, true, true, true, true, true, false, false, false] rfl rfl (by kernel_rfl) (fun _ _ _ h => h) (Or.inl ⟨by rfl, ?_⟩) ?_ ?_; rotate_left
      ·intro w'; go_simp; with_reducible rfl
      rotate_left
      ·simp only [Act.put, List.setIfInBounds_toArray, List.set_cons_zero, List.set_cons_succ, i64_w, i32_w]; rfl
      refine pure_ (i := 13) (N := some 151) (v := ?_) (a' := ?_) #[true, true, true, true, true, true, true, true, true, true, true, true, true, true, false, false] rfl rfl (by kernel_rfl) (fun _ _ _ h => h) (Or.inl ⟨by rfl, ?_⟩) ?_ ?_; rotate_left
      ·intro w'; go_simp; with_reducible rfl
      rotate_left
      ·simp only [Act.put, List.setIfInBounds_toArray, List.set_cons_zero, List.set_cons_succ, i64_w, i32_w]; rfl
      refine pure_ (i := 14) (N := some 21) (v := ?_) (a' := ?_) #[true, true, true, true, true, true, true, true, true, true, true, true, true, true, true, false] rfl rfl (by kernel_rfl) (fun _ _ _ h => h) (Or.inl ⟨by rfl, ?_⟩) ?_ ?_; rotate_left
      ·intro w'; go_simp; with_reducible rfl
      rotate_left
      ·simp only [Act.put, List.setIfInBounds_toArray, List.set_cons_zero, List.set_cons_succ, i64_w, i32_w]; rfl
      refine pure_ (i := 15) (N := some 22) (v := ?_) (a' := ?_) #[true, true, true, true, true, true, true, true, true, true, true, true, true, true, true, true] rfl rfl (by kernel_rfl) (fun _ _ _ h => h) (Or.inl ⟨by rfl, ?_⟩) ?_ ?_; rotate_left
      ·intro w'; go_simp; with_reducible rfl
      rotate_left
      ·simp only [Act.put, List.setIfInBounds_toArray, List.set_cons_zero, List.set_cons_succ, i64_w, i32_w]; rfl
      refine done_ (by kernel_rfl) ?_; go_wp2; go_roundw
      case rel => exact ⟨k + 1, by go_num, .inl (by omega), ⟨HB13.out⟩⟩
      case measure => simp [intOf]; omega
     ·go_wp2; go_ret; exact ⟨rfl, bst HB12.out HBx.out⟩
 ·go_enter Tryz.func5, Tryz.ntmps5; go_wp2_with fail; refine Calls.mono (known_calls w HGL.out) ?_; rintro e w1 ⟨rfl, hb1⟩; have HB1 := AS hb1; clear hb1; go_wp2_with fail; refine Calls.mono (known_calls w1 (HGL.out.below HB1.out)) ?_; rintro e w3 ⟨rfl, hb3⟩; have HB3 := AS (bst HB1.out hb3); clear hb3; go_wp2; go_ret; exact ⟨rfl, HB3.out⟩
end Go.Proofs.YtkgkihichdcpmaaGreatDoor.H
end
