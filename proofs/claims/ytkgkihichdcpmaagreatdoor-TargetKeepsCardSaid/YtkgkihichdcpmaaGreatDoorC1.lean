import Derived.Test.YtkgkihichdcpmaaGreatDoorC0
import Derived.Lib.LaidTab
import Derived.Lib.AppendIntMem
import Derived.Shelf.Strings.Builder1
import Derived.Shelf.Strings.Builder2
import Derived.Shelf.Strings.OnBuilder
import Derived.Shelf.Small.Bits
import Derived.Shelf.Strconv.Atoi
import Derived.Shelf.Strconv.Itoa0
import Derived.Shelf.Strconv.Itoa1
import Derived.Shelf.LaysM
import Derived.Shelf.Strconv.Itoa2
import Derived.Shelf.Strconv.Itoa3
import Derived.Shelf.Strconv.AtoiErrFast
import Derived.Shelf.Strconv.ParseIntEmpty
import Derived.Shelf.Strconv.AtoiFail
import Derived.Shelf.Strconv.Clone
import Derived.Shelf.Strconv.SyntaxError
import Derived.Shelf.LaysC
import Derived.Shelf.Strconv.ToError
import Derived.Shelf.Strconv.Lower
import Derived.Shelf.Strconv.ParseUint10
import Derived.Shelf.Strconv.ParseUint10Empty
import Derived.Shelf.Strconv.ParseUint10Any
import Derived.Shelf.Strconv.ParseInt10
import Derived.Shelf.Strconv.AtoiLong
import Derived.Shelf.Strconv.AtoiInnerAll
import Derived.Shelf.Strconv.RangeError
import Derived.Shelf.Strconv.ToErrorRange
import Derived.Shelf.Strconv.AtoiAll
import Derived.Shelf.Strconv.ParseUintEmpty
import Derived.Shelf.Strconv.ParseUint10b64
import Derived.Shelf.Strconv.ParseUint10b32
import Derived.Shelf.Strconv.ParseUint10b16
import Derived.Shelf.Strconv.ParseUint10b8
import Derived.Shelf.Strconv.ParseUint10At
import Derived.Shelf.Strconv.ParseInt10At64
import Derived.Shelf.Strconv.ParseInt10At32
import Derived.Shelf.Strconv.ParseInt10At16
import Derived.Shelf.Strconv.ParseInt10At8
import Derived.Shelf.Strconv.ParseInt10All
import Derived.Shelf.Strconv.ParseIntPublic10
import Derived.Ground.MpProg
import Derived.Shelf.Pu.ParseUintPublic10
import Derived.Shelf.Bits.Mul64
import Derived.Shelf.SlGeneric
import Derived.Ground.SlgnProg
import Derived.Ground.SlgfProg
import Derived.Ground.SlsfProg
import Derived.Shelf.SlicesE.Clone
import Derived.Shelf.SlicesE.IndexFunc
import Derived.Shelf.SlSortCmp.Whole1
import Derived.RangeFuncNested
import Derived.RangeFuncBound
import Derived.RangeFuncCalls
import Derived.RangeFuncLeaves
import Derived.RangeFuncBox
import Derived.Maps.AppendAt
import Derived.Shelf.Abstract
import Derived.Shelf.RegionOpen
import Derived.WalkKit
import Derived.OwnWalkIn
import Derived.TacticsInMore
import Derived.LoopNIn
import Derived.LoopIn
import Derived.Below
import Derived.Deep.Draws
import Derived.Deep.AppendLies
import Derived.OwnWalk
import Derived.Laws.BytesArg
import Derived.Laws.MakeOwn
import Derived.Laws.OwnMore
import Derived.Deep.OwnRows
import Derived.Tactics
import Derived.Lib.ConvBytes
import Derived.Laws.Slices
import Derived.KernelRfl
import Derived.RowKit3
import Derived.Deep.LoopGhost
import Derived.Deep.QuietTactic
import Derived.BigQuiet
import Derived.WideLaws
import Derived.Deep.DeepCutAuto
import Derived.Deep.CutBlock
import Derived.Deep.RegionHeld3
import Derived.Laws.Rows
import Derived.Lib.AppendStr
import Derived.ArgAppend
import Derived.Laws.IdiomCopy
import Derived.OrdersHeld
import Derived.Laws.BitsLemmas
import Derived.RowKit
import Derived.WalkLawsBesides
section
namespace Go.Proofs.YtkgkihichdcpmaaGreatDoor
open Go.RowKit
def GBase (w : World) : Prop :=
 Lib.TabIs Tryz.prog w "internal/strconv.uint64pow10" .u64 Lib.pow10Tab ∧ (∃ te pe, w.cell? ⟨1, 0, none⟩ = some (.iface te pe)) ∧ (∃ te pe, w.cell? ⟨2, 0, none⟩ = some (.iface te pe))
def GL (w : World) : Prop := ∀ W, Below w.heap.size w W → GBase W
theorem GL.here {w : World} (h : GL w) : GBase w := h w (Below.refl _ _)
theorem GL.below {w W : World} (h : GL w) (hb : Below w.heap.size w W) : GL W := fun W' hb' =>
 h W' (Go.Proofs.YtkgkihichdcpmaaGreatDoorW.PrintWords.below_then hb hb.size hb')
theorem GL.tab {w : World} (h : GL w) : Lib.TabIs Tryz.prog w "internal/strconv.uint64pow10" .u64 Lib.pow10Tab := h.here.1
end Go.Proofs.YtkgkihichdcpmaaGreatDoor
end
section
namespace Go.Proofs
open Go.Shelf
def Tryz.lays156_ren : Go.Shelf.Ren := ⟨fun | 156 => 135 | 165 => 164 | 166 => 165 | 169 => 166 | 240 => 200 | 241 => 201 | 276 => 220 | 277 => 221 | n => n, fun | 31 => 175 | 9 => 9 | 3 => 3 | 4 => 4 | 0 => 0 | 20 => 20 | 72 => 205 | 76 => 184 | 70 => 203 | 37 => 143 | 75 => 168 | 127 => 242 | 164 => 261 | 5 => 5 | 80 => 207 | n => n, fun | n => n⟩
theorem Tryz.lays156 : Go.Proofs.Lays.n156 Tryz.prog Tryz.lays156_ren := {
 mixed := by kernel_rfl
 f156 := Tryz.func135.trans (congrArg some (by kernel_rfl))
 f165 := Tryz.func164.trans (congrArg some (by kernel_rfl))
 f166 := Tryz.func165.trans (congrArg some (by kernel_rfl))
 f169 := Tryz.func166.trans (congrArg some (by kernel_rfl))
 f240 := Tryz.func200.trans (congrArg some (by kernel_rfl))
 f241 := Tryz.func201.trans (congrArg some (by kernel_rfl))
 f276 := Tryz.func220.trans (congrArg some (by kernel_rfl))
 f277 := Tryz.func221.trans (congrArg some (by kernel_rfl))
 t0 := Tryz.underlying0
 a0 := Tryz.isAgg0
 z0 := Tryz.sizeOf0
 v0 := Tryz.zeroValue0
 t3 := Tryz.underlying3
 a3 := Tryz.isAgg3
 z3 := Tryz.sizeOf3
 v3 := Tryz.zeroValue3
 t4 := Tryz.underlying4
 a4 := Tryz.isAgg4
 z4 := Tryz.sizeOf4
 v4 := Tryz.zeroValue4
 t9 := Tryz.underlying9
 a9 := Tryz.isAgg9
 z9 := Tryz.sizeOf9
 v9 := Tryz.zeroValue9
 t20 := Tryz.underlying20
 a20 := Tryz.isAgg20
 z20 := Tryz.sizeOf20
 v20 := Tryz.zeroValue20
 t31 := Tryz.underlying175
 a31 := Tryz.isAgg175
 z31 := Tryz.sizeOf175
 v31 := Tryz.zeroValue175
 t37 := Tryz.underlying143
 a37 := Tryz.isAgg143
 z37 := Tryz.sizeOf143
 v37 := Tryz.zeroValue143
 t70 := Tryz.underlying203
 a70 := Tryz.isAgg203
 z70 := Tryz.sizeOf203
 v70 := Tryz.zeroValue203
 t72 := Tryz.underlying205
 a72 := Tryz.isAgg205
 z72 := Tryz.sizeOf205
 v72 := Tryz.zeroValue205
 t75 := Tryz.underlying168
 a75 := Tryz.isAgg168
 z75 := Tryz.sizeOf168
 v75 := Tryz.zeroValue168
 t76 := Tryz.underlying184
 a76 := Tryz.isAgg184
 z76 := Tryz.sizeOf184
 v76 := Tryz.zeroValue184
 t127 := Tryz.underlying242
 a127 := Tryz.isAgg242
 z127 := Tryz.sizeOf242
 v127 := Tryz.zeroValue242
 t164 := Tryz.underlying261
 a164 := Tryz.isAgg261
 z164 := Tryz.sizeOf261
 v164 := Tryz.zeroValue261 }
theorem Tryz.Builder_Extra_156 : Builder.Extra Tryz.prog Tryz.lays156_ren := {
 sizeBuilder := by kernel_rfl
 liesBuilder := by kernel_rfl
 t5 := Tryz.underlying5
 a5 := Tryz.isAgg5
 z5 := Tryz.sizeOf5
 v5 := Tryz.zeroValue5
 infoByte := by kernel_rfl
 cellsByte := by kernel_rfl
 sizeByte := by kernel_rfl
 neB5 := by decide }
open Go.RowKit in
theorem Tryz.strings_Join_none (a : Option Addr) (c : Nat) (sep : ByteArray) (w : World) :
  Calls Tryz.prog 135 #[.slice a 0 c, .string sep] w fun e w' => e = .returned (.string ⟨#[]⟩) ∧ w' = w := Any.strings_Join_none Tryz.lays156 Tryz.Builder_Extra_156 a c sep w
open Go.RowKit in
theorem Tryz.strings_Join (bk o c : Nat) (xs : List ByteArray) (sep : ByteArray) (w : World) (hcells : ∀ (j : Nat) x, xs[j]? = some x → w.cell? ⟨bk, o + j, none⟩ = some (.string x)) (hbk : bk < w.heap.size) (hN : xs.length ≤ 140737488355328) (hcap : xs.length ≤ c) (hlen : (Lib.join (xs.map (·.data.toList)) sep.data.toList).length ≤ 140737488355328) :
  Calls Tryz.prog 135 #[.slice (some ⟨bk, o, none⟩) xs.length c, .string sep] w fun e w' => e = .returned (.string ⟨(Lib.join (xs.map (·.data.toList)) sep.data.toList).toArray⟩) ∧ Below w.heap.size w w' := Any.strings_Join Tryz.lays156 Tryz.Builder_Extra_156 bk o c xs sep w hcells hbk hN hcap hlen
def Tryz.lays125_ren : Go.Shelf.Ren := ⟨fun | 125 => 137 | 128 => 175 | 129 => 131 | n => n, fun | 46 => 139 | 3 => 3 | 51 => 216 | 53 => 109 | 4 => 4 | 5 => 5 | 9 => 9 | n => n, fun | n => n⟩
theorem Tryz.lays125 : Go.Proofs.Lays.n125 Tryz.prog Tryz.lays125_ren := {
 mixed := by kernel_rfl
 f125 := Tryz.func137.trans (congrArg some (by kernel_rfl))
 f128 := Tryz.func175.trans (congrArg some (by kernel_rfl))
 f129 := Tryz.func131.trans (congrArg some (by kernel_rfl))
 t3 := Tryz.underlying3
 a3 := Tryz.isAgg3
 z3 := Tryz.sizeOf3
 v3 := Tryz.zeroValue3
 t4 := Tryz.underlying4
 a4 := Tryz.isAgg4
 z4 := Tryz.sizeOf4
 v4 := Tryz.zeroValue4
 t5 := Tryz.underlying5
 a5 := Tryz.isAgg5
 z5 := Tryz.sizeOf5
 v5 := Tryz.zeroValue5
 t9 := Tryz.underlying9
 a9 := Tryz.isAgg9
 z9 := Tryz.sizeOf9
 v9 := Tryz.zeroValue9
 t46 := Tryz.underlying139
 a46 := Tryz.isAgg139
 z46 := Tryz.sizeOf139
 v46 := Tryz.zeroValue139
 t51 := Tryz.underlying216
 a51 := Tryz.isAgg216
 z51 := Tryz.sizeOf216
 v51 := Tryz.zeroValue216
 t53 := Tryz.underlying109
 a53 := Tryz.isAgg109
 z53 := Tryz.sizeOf109
 v53 := Tryz.zeroValue109 }
theorem Tryz.bits_Len (x : Int) (w : World) (h0 : 0 ≤ x) (h1 : x ≤ 18446744073709551615) :
  Calls Tryz.prog 137 #[.int .u64 x] w fun e w' => e = .returned (.int .i64 (Lib.bitLen x.toNat)) ∧ w' = w := Any.bits_Len Tryz.lays125 x w h0 h1
def Tryz.lays129_ren : Go.Shelf.Ren := ⟨fun | 129 => 131 | n => n, fun | 53 => 109 | 3 => 3 | 4 => 4 | 46 => 139 | 5 => 5 | 9 => 9 | n => n, fun | n => n⟩
theorem Tryz.lays129 : Go.Proofs.Lays.n129 Tryz.prog Tryz.lays129_ren := {
 mixed := by kernel_rfl
 f129 := Tryz.func131.trans (congrArg some (by kernel_rfl))
 t3 := Tryz.underlying3
 a3 := Tryz.isAgg3
 z3 := Tryz.sizeOf3
 v3 := Tryz.zeroValue3
 t4 := Tryz.underlying4
 a4 := Tryz.isAgg4
 z4 := Tryz.sizeOf4
 v4 := Tryz.zeroValue4
 t5 := Tryz.underlying5
 a5 := Tryz.isAgg5
 z5 := Tryz.sizeOf5
 v5 := Tryz.zeroValue5
 t9 := Tryz.underlying9
 a9 := Tryz.isAgg9
 z9 := Tryz.sizeOf9
 v9 := Tryz.zeroValue9
 t46 := Tryz.underlying139
 a46 := Tryz.isAgg139
 z46 := Tryz.sizeOf139
 v46 := Tryz.zeroValue139
 t53 := Tryz.underlying109
 a53 := Tryz.isAgg109
 z53 := Tryz.sizeOf109
 v53 := Tryz.zeroValue109 }
theorem Tryz.bits_Len64 (x : Int) (w : World) (h0 : 0 ≤ x) (h1 : x ≤ 18446744073709551615) :
  Calls Tryz.prog 131 #[.int .u64 x] w fun e w' => e = .returned (.int .i64 (Lib.bitLen x.toNat)) ∧ w' = w := Any.bits_Len64 Tryz.lays129 x w h0 h1
def Tryz.lays283_ren : Go.Shelf.Ren := ⟨fun | 283 => 157 | n => n, fun | 3 => 3 | 9 => 9 | 4 => 4 | n => n, fun | n => n⟩
theorem Tryz.lays283 : Go.Proofs.Lays.n283 Tryz.prog Tryz.lays283_ren := {
 mixed := by kernel_rfl
 f283 := Tryz.func157.trans (congrArg some (by kernel_rfl))
 t3 := Tryz.underlying3
 a3 := Tryz.isAgg3
 z3 := Tryz.sizeOf3
 v3 := Tryz.zeroValue3
 t4 := Tryz.underlying4
 a4 := Tryz.isAgg4
 z4 := Tryz.sizeOf4
 v4 := Tryz.zeroValue4
 t9 := Tryz.underlying9
 a9 := Tryz.isAgg9
 z9 := Tryz.sizeOf9
 v9 := Tryz.zeroValue9 }
open Go.Lib in
theorem Tryz.internal_strconv_small (i : Nat) (h : i < 100) (w : World) :
  Calls Tryz.prog 157 #[.int .i64 i] w fun e w' => e = .returned (.string ⟨(Lib.decDigits i).toArray⟩) ∧ w' = w := Any.internal_strconv_small Tryz.lays283 i h w
def Tryz.laysM284_ren : Go.Shelf.Ren := ⟨fun | 284 => 158 | 129 => 131 | 317 => 194 | 318 => 195 | n => n, fun | 53 => 109 | 3 => 3 | 212 => 238 | 0 => 0 | 4 => 4 | 46 => 139 | 5 => 5 | 9 => 9 | n => n, fun | 17 => 0 | n => n⟩
theorem Tryz.laysM284 : Go.Proofs.LaysM.n284 Tryz.prog Tryz.laysM284_ren := {
 mixed := by kernel_rfl
 f129 := Tryz.func131.trans (congrArg some (by kernel_rfl))
 f284 := Tryz.func158.trans (congrArg some (by kernel_rfl))
 f317 := Tryz.func194.trans (congrArg some (by kernel_rfl))
 f318 := Tryz.func195.trans (congrArg some (by kernel_rfl))
 t0 := Tryz.underlying0
 a0 := Tryz.isAgg0
 z0 := Tryz.sizeOf0
 v0 := Tryz.zeroValue0
 t3 := Tryz.underlying3
 a3 := Tryz.isAgg3
 z3 := Tryz.sizeOf3
 v3 := Tryz.zeroValue3
 t4 := Tryz.underlying4
 a4 := Tryz.isAgg4
 z4 := Tryz.sizeOf4
 v4 := Tryz.zeroValue4
 t5 := Tryz.underlying5
 a5 := Tryz.isAgg5
 z5 := Tryz.sizeOf5
 v5 := Tryz.zeroValue5
 t9 := Tryz.underlying9
 a9 := Tryz.isAgg9
 z9 := Tryz.sizeOf9
 v9 := Tryz.zeroValue9
 t46 := Tryz.underlying139
 a46 := Tryz.isAgg139
 z46 := Tryz.sizeOf139
 v46 := Tryz.zeroValue139
 t53 := Tryz.underlying109
 a53 := Tryz.isAgg109
 z53 := Tryz.sizeOf109
 v53 := Tryz.zeroValue109
 t212 := Tryz.underlying238
 a212 := Tryz.isAgg238
 z212 := Tryz.sizeOf238
 v212 := Tryz.zeroValue238
 g17 := by kernel_rfl
 i0 := by kernel_rfl
 i3 := by kernel_rfl
 i4 := by kernel_rfl
 i5 := by kernel_rfl
 i9 := by kernel_rfl
 i46 := by kernel_rfl
 i53 := by kernel_rfl
 i212 := by kernel_rfl
 m17 := by kernel_rfl }
open Go.Lib in
theorem Tryz.internal_strconv_numDigits (u : Nat) (h1 : 1 ≤ u) (h2 : u < 18446744073709551616) (w : World) (htab : Lib.TabIs Tryz.prog w "internal/strconv.uint64pow10" .u64 Lib.pow10Tab) :
  Calls Tryz.prog 158 #[.int .u64 u] w fun e w' => e = .returned (.int .i64 (Lib.nDigits u)) ∧ w' = w := Any.internal_strconv_numDigits Tryz.laysM284 u h1 h2 w htab
def Tryz.lays285_ren : Go.Shelf.Ren := ⟨fun | 285 => 159 | n => n, fun | 37 => 143 | 53 => 109 | 3 => 3 | 4 => 4 | 51 => 216 | 9 => 9 | 5 => 5 | 0 => 0 | n => n, fun | n => n⟩
theorem Tryz.lays285 : Go.Proofs.Lays.n285 Tryz.prog Tryz.lays285_ren := {
 mixed := by kernel_rfl
 f285 := Tryz.func159.trans (congrArg some (by kernel_rfl))
 t0 := Tryz.underlying0
 a0 := Tryz.isAgg0
 z0 := Tryz.sizeOf0
 v0 := Tryz.zeroValue0
 t3 := Tryz.underlying3
 a3 := Tryz.isAgg3
 z3 := Tryz.sizeOf3
 v3 := Tryz.zeroValue3
 t4 := Tryz.underlying4
 a4 := Tryz.isAgg4
 z4 := Tryz.sizeOf4
 v4 := Tryz.zeroValue4
 t5 := Tryz.underlying5
 a5 := Tryz.isAgg5
 z5 := Tryz.sizeOf5
 v5 := Tryz.zeroValue5
 t9 := Tryz.underlying9
 a9 := Tryz.isAgg9
 z9 := Tryz.sizeOf9
 v9 := Tryz.zeroValue9
 t37 := Tryz.underlying143
 a37 := Tryz.isAgg143
 z37 := Tryz.sizeOf143
 v37 := Tryz.zeroValue143
 t51 := Tryz.underlying216
 a51 := Tryz.isAgg216
 z51 := Tryz.sizeOf216
 v51 := Tryz.zeroValue216
 t53 := Tryz.underlying109
 a53 := Tryz.isAgg109
 z53 := Tryz.sizeOf109
 v53 := Tryz.zeroValue109 }
open Go.RowKit Go.Sort Go.Lib in
theorem Tryz.internal_strconv_formatBase10 (blk off cap : Nat) (u : Nat) (d : Array UInt8) (w : World) (hH : Holds (fun (b : UInt8) => Value.int .u8 (b.toNat : Int)) w blk off d) (hu : u < 10 ^ d.size) (hu64 : u < 18446744073709551616) (hsz : d.size < 4611686018427387904) :
  Calls Tryz.prog 159 #[.slice (some ⟨blk, off, none⟩) d.size cap, .int .u64 u] w fun e w' =>
   e = .returned (.tuple #[]) ∧ ∃ (n v' : Nat) (dk : Array UInt8), w' = (putRow (fun (b : UInt8) => Value.int .u8 (b.toNat : Int)) w blk off dk).drewN n ∧ FmtInv d.size u 0 v' dk := Any.internal_strconv_formatBase10 Tryz.lays285 blk off cap u d w hH hu hu64 hsz
def Tryz.laysM171_ren : Go.Shelf.Ren := ⟨fun | 171 => 90 | 243 => 119 | 246 => 143 | 283 => 157 | 284 => 158 | 285 => 159 | 286 => 160 | 129 => 131 | 317 => 194 | 318 => 195 | 319 => 196 | 320 => 197 | 337 => 218 | 338 => 219 | n => n, fun | 3 => 3 | 9 => 9 | 2 => 2 | 4 => 4 | 171 => 199 | 0 => 0 | 53 => 109 | 37 => 143 | 5 => 5 | 173 => 201 | 212 => 238 | 51 => 216 | 20 => 20 | 213 => 239 | 46 => 139 | 232 => 272 | 233 => 273 | n => n, fun | 17 => 0 | 18 => 3 | 19 => 4 | n => n⟩
theorem Tryz.laysM171 : Go.Proofs.LaysM.n171 Tryz.prog Tryz.laysM171_ren := {
 mixed := by kernel_rfl
 f129 := Tryz.func131.trans (congrArg some (by kernel_rfl))
 f171 := Tryz.func90.trans (congrArg some (by kernel_rfl))
 f243 := Tryz.func119.trans (congrArg some (by kernel_rfl))
 f246 := Tryz.func143.trans (congrArg some (by kernel_rfl))
 f283 := Tryz.func157.trans (congrArg some (by kernel_rfl))
 f284 := Tryz.func158.trans (congrArg some (by kernel_rfl))
 f285 := Tryz.func159.trans (congrArg some (by kernel_rfl))
 f286 := Tryz.func160.trans (congrArg some (by kernel_rfl))
 f317 := Tryz.func194.trans (congrArg some (by kernel_rfl))
 f318 := Tryz.func195.trans (congrArg some (by kernel_rfl))
 f319 := Tryz.func196.trans (congrArg some (by kernel_rfl))
 f320 := Tryz.func197.trans (congrArg some (by kernel_rfl))
 f337 := Tryz.func218.trans (congrArg some (by kernel_rfl))
 f338 := Tryz.func219.trans (congrArg some (by kernel_rfl))
 t0 := Tryz.underlying0
 a0 := Tryz.isAgg0
 z0 := Tryz.sizeOf0
 v0 := Tryz.zeroValue0
 t2 := Tryz.underlying2
 a2 := Tryz.isAgg2
 z2 := Tryz.sizeOf2
 v2 := Tryz.zeroValue2
 t3 := Tryz.underlying3
 a3 := Tryz.isAgg3
 z3 := Tryz.sizeOf3
 v3 := Tryz.zeroValue3
 t4 := Tryz.underlying4
 a4 := Tryz.isAgg4
 z4 := Tryz.sizeOf4
 v4 := Tryz.zeroValue4
 t5 := Tryz.underlying5
 a5 := Tryz.isAgg5
 z5 := Tryz.sizeOf5
 v5 := Tryz.zeroValue5
 t9 := Tryz.underlying9
 a9 := Tryz.isAgg9
 z9 := Tryz.sizeOf9
 v9 := Tryz.zeroValue9
 t20 := Tryz.underlying20
 a20 := Tryz.isAgg20
 z20 := Tryz.sizeOf20
 v20 := Tryz.zeroValue20
 t37 := Tryz.underlying143
 a37 := Tryz.isAgg143
 z37 := Tryz.sizeOf143
 v37 := Tryz.zeroValue143
 t46 := Tryz.underlying139
 a46 := Tryz.isAgg139
 z46 := Tryz.sizeOf139
 v46 := Tryz.zeroValue139
 t51 := Tryz.underlying216
 a51 := Tryz.isAgg216
 z51 := Tryz.sizeOf216
 v51 := Tryz.zeroValue216
 t53 := Tryz.underlying109
 a53 := Tryz.isAgg109
 z53 := Tryz.sizeOf109
 v53 := Tryz.zeroValue109
 t171 := Tryz.underlying199
 a171 := Tryz.isAgg199
 z171 := Tryz.sizeOf199
 v171 := Tryz.zeroValue199
 t173 := Tryz.underlying201
 a173 := Tryz.isAgg201
 z173 := Tryz.sizeOf201
 v173 := Tryz.zeroValue201
 t212 := Tryz.underlying238
 a212 := Tryz.isAgg238
 z212 := Tryz.sizeOf238
 v212 := Tryz.zeroValue238
 t213 := Tryz.underlying239
 a213 := Tryz.isAgg239
 z213 := Tryz.sizeOf239
 t232 := Tryz.underlying272
 a232 := Tryz.isAgg272
 z232 := Tryz.sizeOf272
 v232 := Tryz.zeroValue272
 t233 := Tryz.underlying273
 a233 := Tryz.isAgg273
 z233 := Tryz.sizeOf273
 v233 := Tryz.zeroValue273
 g17 := by kernel_rfl
 g18 := by kernel_rfl
 g19 := by kernel_rfl
 i0 := by kernel_rfl
 i2 := by kernel_rfl
 i3 := by kernel_rfl
 i4 := by kernel_rfl
 i5 := by kernel_rfl
 i9 := by kernel_rfl
 i20 := by kernel_rfl
 i37 := by kernel_rfl
 i46 := by kernel_rfl
 i51 := by kernel_rfl
 i53 := by kernel_rfl
 i171 := by kernel_rfl
 i173 := by kernel_rfl
 i212 := by kernel_rfl
 i232 := by kernel_rfl
 i233 := by kernel_rfl
 m17 := by kernel_rfl
 m18 := by kernel_rfl
 m19 := by kernel_rfl }
open Go.RowKit Go.Sort Go.Lib in
theorem Tryz.strconv_Itoa (n : Int) (h0 : -9223372036854775808 ≤ n) (h1 : n ≤ 9223372036854775807) (w : World) (htab : Lib.TabIs Tryz.prog w "internal/strconv.uint64pow10" .u64 Lib.pow10Tab) :
  Calls Tryz.prog 90 #[.int .i64 n] w fun e w' => e = .returned (.string ⟨(Lib.itoa n).toArray⟩) ∧ ∃ k os, w' = grow (w.drewN k) os := Any.strconv_Itoa Tryz.laysM171 n h0 h1 w htab
def Tryz.laysC172_ren : Go.Shelf.Ren := ⟨fun | 172 => 145 | 244 => 180 | 245 => 156 | 247 => 155 | 279 => 190 | 280 => 191 | 281 => 192 | 282 => 193 | 287 => 161 | 316 => 216 | 171 => 90 | 205 => 217 | 321 => 198 | 322 => 199 | 243 => 119 | 246 => 143 | 283 => 157 | 284 => 158 | 285 => 159 | 286 => 160 | 129 => 131 | 317 => 194 | 318 => 195 | 319 => 196 | 320 => 197 | 337 => 218 | 338 => 219 | n => n, fun | 9 => 9 | 3 => 3 | 75 => 168 | 76 => 184 | 4 => 4 | 5 => 5 | 167 => 232 | 37 => 143 | 0 => 0 | 85 => 169 | 2 => 2 | 168 => 233 | 53 => 109 | 175 => 172 | 46 => 139 | 210 => 259 | 127 => 242 | 145 => 271 | 143 => 269 | 21 => 21 | 171 => 199 | 173 => 201 | 212 => 238 | 51 => 216 | 20 => 20 | 213 => 239 | 232 => 272 | 233 => 273 | 80 => 207 | n => n, fun | 15 => 1 | 16 => 2 | 17 => 0 | 18 => 3 | 19 => 4 | n => n⟩
theorem Tryz.laysC172 : Go.Proofs.LaysC.n172 Tryz.prog Tryz.laysC172_ren := {
 mixed := by kernel_rfl
 f129 := Tryz.func131.trans (congrArg some (by kernel_rfl))
 f171 := Tryz.func90.trans (congrArg some (by kernel_rfl))
 f172 := Tryz.func145.trans (congrArg some (by kernel_rfl))
 f205 := Tryz.func217.trans (congrArg some (by kernel_rfl))
 f243 := Tryz.func119.trans (congrArg some (by kernel_rfl))
 f244 := Tryz.func180.trans (congrArg some (by kernel_rfl))
 f245 := Tryz.func156.trans (congrArg some (by kernel_rfl))
 f246 := Tryz.func143.trans (congrArg some (by kernel_rfl))
 f247 := Tryz.func155.trans (congrArg some (by kernel_rfl))
 f279 := Tryz.func190.trans (congrArg some (by kernel_rfl))
 f280 := Tryz.func191.trans (congrArg some (by kernel_rfl))
 f281 := Tryz.func192.trans (congrArg some (by kernel_rfl))
 f282 := Tryz.func193.trans (congrArg some (by kernel_rfl))
 f283 := Tryz.func157.trans (congrArg some (by kernel_rfl))
 f284 := Tryz.func158.trans (congrArg some (by kernel_rfl))
 f285 := Tryz.func159.trans (congrArg some (by kernel_rfl))
 f286 := Tryz.func160.trans (congrArg some (by kernel_rfl))
 f287 := Tryz.func161.trans (congrArg some (by kernel_rfl))
 f316 := Tryz.func216.trans (congrArg some (by kernel_rfl))
 f317 := Tryz.func194.trans (congrArg some (by kernel_rfl))
 f318 := Tryz.func195.trans (congrArg some (by kernel_rfl))
 f319 := Tryz.func196.trans (congrArg some (by kernel_rfl))
 f320 := Tryz.func197.trans (congrArg some (by kernel_rfl))
 f321 := Tryz.func198.trans (congrArg some (by kernel_rfl))
 f322 := Tryz.func199.trans (congrArg some (by kernel_rfl))
 f337 := Tryz.func218.trans (congrArg some (by kernel_rfl))
 f338 := Tryz.func219.trans (congrArg some (by kernel_rfl))
 t0 := Tryz.underlying0
 a0 := Tryz.isAgg0
 z0 := Tryz.sizeOf0
 v0 := Tryz.zeroValue0
 t2 := Tryz.underlying2
 a2 := Tryz.isAgg2
 z2 := Tryz.sizeOf2
 v2 := Tryz.zeroValue2
 t3 := Tryz.underlying3
 a3 := Tryz.isAgg3
 z3 := Tryz.sizeOf3
 v3 := Tryz.zeroValue3
 t4 := Tryz.underlying4
 a4 := Tryz.isAgg4
 z4 := Tryz.sizeOf4
 v4 := Tryz.zeroValue4
 t5 := Tryz.underlying5
 a5 := Tryz.isAgg5
 z5 := Tryz.sizeOf5
 v5 := Tryz.zeroValue5
 t9 := Tryz.underlying9
 a9 := Tryz.isAgg9
 z9 := Tryz.sizeOf9
 v9 := Tryz.zeroValue9
 t20 := Tryz.underlying20
 a20 := Tryz.isAgg20
 z20 := Tryz.sizeOf20
 v20 := Tryz.zeroValue20
 t21 := Tryz.underlying21
 a21 := Tryz.isAgg21
 z21 := Tryz.sizeOf21
 v21 := Tryz.zeroValue21
 t37 := Tryz.underlying143
 a37 := Tryz.isAgg143
 z37 := Tryz.sizeOf143
 v37 := Tryz.zeroValue143
 t46 := Tryz.underlying139
 a46 := Tryz.isAgg139
 z46 := Tryz.sizeOf139
 v46 := Tryz.zeroValue139
 t51 := Tryz.underlying216
 a51 := Tryz.isAgg216
 z51 := Tryz.sizeOf216
 v51 := Tryz.zeroValue216
 t53 := Tryz.underlying109
 a53 := Tryz.isAgg109
 z53 := Tryz.sizeOf109
 v53 := Tryz.zeroValue109
 t75 := Tryz.underlying168
 a75 := Tryz.isAgg168
 z75 := Tryz.sizeOf168
 v75 := Tryz.zeroValue168
 t76 := Tryz.underlying184
 a76 := Tryz.isAgg184
 z76 := Tryz.sizeOf184
 v76 := Tryz.zeroValue184
 t85 := Tryz.underlying169
 a85 := Tryz.isAgg169
 z85 := Tryz.sizeOf169
 v85 := Tryz.zeroValue169
 t127 := Tryz.underlying242
 a127 := Tryz.isAgg242
 z127 := Tryz.sizeOf242
 v127 := Tryz.zeroValue242
 t143 := Tryz.underlying269
 a143 := Tryz.isAgg269
 z143 := Tryz.sizeOf269
 v143 := Tryz.zeroValue269
 t145 := Tryz.underlying271
 a145 := Tryz.isAgg271
 z145 := Tryz.sizeOf271
 v145 := Tryz.zeroValue271
 t167 := Tryz.underlying232
 a167 := Tryz.isAgg232
 z167 := Tryz.sizeOf232
 v167 := Tryz.zeroValue232
 t168 := Tryz.underlying233
 a168 := Tryz.isAgg233
 z168 := Tryz.sizeOf233
 v168 := Tryz.zeroValue233
 t171 := Tryz.underlying199
 a171 := Tryz.isAgg199
 z171 := Tryz.sizeOf199
 v171 := Tryz.zeroValue199
 t173 := Tryz.underlying201
 a173 := Tryz.isAgg201
 z173 := Tryz.sizeOf201
 v173 := Tryz.zeroValue201
 t175 := Tryz.underlying172
 a175 := Tryz.isAgg172
 z175 := Tryz.sizeOf172
 v175 := Tryz.zeroValue172
 t210 := Tryz.underlying259
 a210 := Tryz.isAgg259
 z210 := Tryz.sizeOf259
 v210 := Tryz.zeroValue259
 t212 := Tryz.underlying238
 a212 := Tryz.isAgg238
 z212 := Tryz.sizeOf238
 v212 := Tryz.zeroValue238
 t213 := Tryz.underlying239
 a213 := Tryz.isAgg239
 z213 := Tryz.sizeOf239
 t232 := Tryz.underlying272
 a232 := Tryz.isAgg272
 z232 := Tryz.sizeOf272
 v232 := Tryz.zeroValue272
 t233 := Tryz.underlying273
 a233 := Tryz.isAgg273
 z233 := Tryz.sizeOf273
 v233 := Tryz.zeroValue273
 g15 := by kernel_rfl
 g16 := by kernel_rfl
 g17 := by kernel_rfl
 g18 := by kernel_rfl
 g19 := by kernel_rfl
 t80 := Tryz.underlying207
 a80 := Tryz.isAgg207
 z80 := Tryz.sizeOf207
 v80 := Tryz.zeroValue207
 i0 := by kernel_rfl
 i2 := by kernel_rfl
 i3 := by kernel_rfl
 i4 := by kernel_rfl
 i5 := by kernel_rfl
 i9 := by kernel_rfl
 i20 := by kernel_rfl
 i21 := by kernel_rfl
 i37 := by kernel_rfl
 i46 := by kernel_rfl
 i51 := by kernel_rfl
 i53 := by kernel_rfl
 i75 := by kernel_rfl
 i76 := by kernel_rfl
 i80 := by kernel_rfl
 i85 := by kernel_rfl
 i127 := by kernel_rfl
 i143 := by kernel_rfl
 i145 := by kernel_rfl
 i167 := by kernel_rfl
 i168 := by kernel_rfl
 i171 := by kernel_rfl
 i173 := by kernel_rfl
 i175 := by kernel_rfl
 i210 := by kernel_rfl
 i212 := by kernel_rfl
 i232 := by kernel_rfl
 i233 := by kernel_rfl
 m15 := by kernel_rfl
 m16 := by kernel_rfl
 m17 := by kernel_rfl
 m18 := by kernel_rfl
 m19 := by kernel_rfl
 c0 := by kernel_rfl
 c2 := by kernel_rfl
 c3 := by kernel_rfl
 c4 := by kernel_rfl
 c5 := by kernel_rfl
 c9 := by kernel_rfl
 c20 := by kernel_rfl
 c21 := by kernel_rfl
 c37 := by kernel_rfl
 c46 := by kernel_rfl
 c51 := by kernel_rfl
 c53 := by kernel_rfl
 c75 := by kernel_rfl
 c76 := by kernel_rfl
 c80 := by kernel_rfl
 c85 := by kernel_rfl
 c127 := by kernel_rfl
 c143 := by kernel_rfl
 c145 := by kernel_rfl
 c167 := by kernel_rfl
 c168 := by kernel_rfl
 c171 := by kernel_rfl
 c173 := by kernel_rfl
 c175 := by kernel_rfl
 c210 := by kernel_rfl
 c212 := by kernel_rfl
 c213 := by kernel_rfl
 c232 := by kernel_rfl
 c233 := by kernel_rfl }
open Go.RowKit in
theorem Tryz.strconv_Atoi_ok (s : ByteArray) (hmax : s.size ≤ 9223372036854775806) (v : Int) (h : Lib.atoiAll s.data.toList = .ok v) (w : World) :
  Calls Tryz.prog 145 #[.string s] w fun e w' => e = .returned (.tuple #[.int .i64 v, .nilIface]) ∧ (w' = w ∨ ∃ t, w' = Lib.bytesWorld w 5 t) := Any.strconv_Atoi_ok Tryz.laysC172 s hmax v h w
def Tryz.laysC174_ren : Go.Shelf.Ren := ⟨fun | 174 => 130 | 247 => 155 | 245 => 156 | 287 => 161 | 279 => 190 | 280 => 191 | 281 => 192 | 282 => 193 | 321 => 198 | 322 => 199 | 316 => 216 | 171 => 90 | 205 => 217 | 243 => 119 | 246 => 143 | 283 => 157 | 284 => 158 | 285 => 159 | 286 => 160 | 129 => 131 | 317 => 194 | 318 => 195 | 319 => 196 | 320 => 197 | 337 => 218 | 338 => 219 | n => n, fun | 9 => 9 | 3 => 3 | 2 => 2 | 75 => 168 | 85 => 169 | 4 => 4 | 167 => 232 | 5 => 5 | 53 => 109 | 175 => 172 | 46 => 139 | 168 => 233 | 37 => 143 | 0 => 0 | 210 => 259 | 21 => 21 | 127 => 242 | 145 => 271 | 143 => 269 | 171 => 199 | 173 => 201 | 212 => 238 | 51 => 216 | 20 => 20 | 213 => 239 | 232 => 272 | 233 => 273 | 80 => 207 | n => n, fun | 15 => 1 | 16 => 2 | 17 => 0 | 18 => 3 | 19 => 4 | n => n⟩
theorem Tryz.laysC174 : Go.Proofs.LaysC.n174 Tryz.prog Tryz.laysC174_ren := {
 mixed := by kernel_rfl
 f129 := Tryz.func131.trans (congrArg some (by kernel_rfl))
 f171 := Tryz.func90.trans (congrArg some (by kernel_rfl))
 f174 := Tryz.func130.trans (congrArg some (by kernel_rfl))
 f205 := Tryz.func217.trans (congrArg some (by kernel_rfl))
 f243 := Tryz.func119.trans (congrArg some (by kernel_rfl))
 f245 := Tryz.func156.trans (congrArg some (by kernel_rfl))
 f246 := Tryz.func143.trans (congrArg some (by kernel_rfl))
 f247 := Tryz.func155.trans (congrArg some (by kernel_rfl))
 f279 := Tryz.func190.trans (congrArg some (by kernel_rfl))
 f280 := Tryz.func191.trans (congrArg some (by kernel_rfl))
 f281 := Tryz.func192.trans (congrArg some (by kernel_rfl))
 f282 := Tryz.func193.trans (congrArg some (by kernel_rfl))
 f283 := Tryz.func157.trans (congrArg some (by kernel_rfl))
 f284 := Tryz.func158.trans (congrArg some (by kernel_rfl))
 f285 := Tryz.func159.trans (congrArg some (by kernel_rfl))
 f286 := Tryz.func160.trans (congrArg some (by kernel_rfl))
 f287 := Tryz.func161.trans (congrArg some (by kernel_rfl))
 f316 := Tryz.func216.trans (congrArg some (by kernel_rfl))
 f317 := Tryz.func194.trans (congrArg some (by kernel_rfl))
 f318 := Tryz.func195.trans (congrArg some (by kernel_rfl))
 f319 := Tryz.func196.trans (congrArg some (by kernel_rfl))
 f320 := Tryz.func197.trans (congrArg some (by kernel_rfl))
 f321 := Tryz.func198.trans (congrArg some (by kernel_rfl))
 f322 := Tryz.func199.trans (congrArg some (by kernel_rfl))
 f337 := Tryz.func218.trans (congrArg some (by kernel_rfl))
 f338 := Tryz.func219.trans (congrArg some (by kernel_rfl))
 t0 := Tryz.underlying0
 a0 := Tryz.isAgg0
 z0 := Tryz.sizeOf0
 v0 := Tryz.zeroValue0
 t2 := Tryz.underlying2
 a2 := Tryz.isAgg2
 z2 := Tryz.sizeOf2
 v2 := Tryz.zeroValue2
 t3 := Tryz.underlying3
 a3 := Tryz.isAgg3
 z3 := Tryz.sizeOf3
 v3 := Tryz.zeroValue3
 t4 := Tryz.underlying4
 a4 := Tryz.isAgg4
 z4 := Tryz.sizeOf4
 v4 := Tryz.zeroValue4
 t5 := Tryz.underlying5
 a5 := Tryz.isAgg5
 z5 := Tryz.sizeOf5
 v5 := Tryz.zeroValue5
 t9 := Tryz.underlying9
 a9 := Tryz.isAgg9
 z9 := Tryz.sizeOf9
 v9 := Tryz.zeroValue9
 t20 := Tryz.underlying20
 a20 := Tryz.isAgg20
 z20 := Tryz.sizeOf20
 v20 := Tryz.zeroValue20
 t21 := Tryz.underlying21
 a21 := Tryz.isAgg21
 z21 := Tryz.sizeOf21
 v21 := Tryz.zeroValue21
 t37 := Tryz.underlying143
 a37 := Tryz.isAgg143
 z37 := Tryz.sizeOf143
 v37 := Tryz.zeroValue143
 t46 := Tryz.underlying139
 a46 := Tryz.isAgg139
 z46 := Tryz.sizeOf139
 v46 := Tryz.zeroValue139
 t51 := Tryz.underlying216
 a51 := Tryz.isAgg216
 z51 := Tryz.sizeOf216
 v51 := Tryz.zeroValue216
 t53 := Tryz.underlying109
 a53 := Tryz.isAgg109
 z53 := Tryz.sizeOf109
 v53 := Tryz.zeroValue109
 t75 := Tryz.underlying168
 a75 := Tryz.isAgg168
 z75 := Tryz.sizeOf168
 v75 := Tryz.zeroValue168
 t85 := Tryz.underlying169
 a85 := Tryz.isAgg169
 z85 := Tryz.sizeOf169
 v85 := Tryz.zeroValue169
 t127 := Tryz.underlying242
 a127 := Tryz.isAgg242
 z127 := Tryz.sizeOf242
 v127 := Tryz.zeroValue242
 t143 := Tryz.underlying269
 a143 := Tryz.isAgg269
 z143 := Tryz.sizeOf269
 v143 := Tryz.zeroValue269
 t145 := Tryz.underlying271
 a145 := Tryz.isAgg271
 z145 := Tryz.sizeOf271
 v145 := Tryz.zeroValue271
 t167 := Tryz.underlying232
 a167 := Tryz.isAgg232
 z167 := Tryz.sizeOf232
 v167 := Tryz.zeroValue232
 t168 := Tryz.underlying233
 a168 := Tryz.isAgg233
 z168 := Tryz.sizeOf233
 v168 := Tryz.zeroValue233
 t171 := Tryz.underlying199
 a171 := Tryz.isAgg199
 z171 := Tryz.sizeOf199
 v171 := Tryz.zeroValue199
 t173 := Tryz.underlying201
 a173 := Tryz.isAgg201
 z173 := Tryz.sizeOf201
 v173 := Tryz.zeroValue201
 t175 := Tryz.underlying172
 a175 := Tryz.isAgg172
 z175 := Tryz.sizeOf172
 v175 := Tryz.zeroValue172
 t210 := Tryz.underlying259
 a210 := Tryz.isAgg259
 z210 := Tryz.sizeOf259
 v210 := Tryz.zeroValue259
 t212 := Tryz.underlying238
 a212 := Tryz.isAgg238
 z212 := Tryz.sizeOf238
 v212 := Tryz.zeroValue238
 t213 := Tryz.underlying239
 a213 := Tryz.isAgg239
 z213 := Tryz.sizeOf239
 t232 := Tryz.underlying272
 a232 := Tryz.isAgg272
 z232 := Tryz.sizeOf272
 v232 := Tryz.zeroValue272
 t233 := Tryz.underlying273
 a233 := Tryz.isAgg273
 z233 := Tryz.sizeOf273
 v233 := Tryz.zeroValue273
 g15 := by kernel_rfl
 g16 := by kernel_rfl
 g17 := by kernel_rfl
 g18 := by kernel_rfl
 g19 := by kernel_rfl
 t80 := Tryz.underlying207
 a80 := Tryz.isAgg207
 z80 := Tryz.sizeOf207
 v80 := Tryz.zeroValue207
 i0 := by kernel_rfl
 i2 := by kernel_rfl
 i3 := by kernel_rfl
 i4 := by kernel_rfl
 i5 := by kernel_rfl
 i9 := by kernel_rfl
 i20 := by kernel_rfl
 i21 := by kernel_rfl
 i37 := by kernel_rfl
 i46 := by kernel_rfl
 i51 := by kernel_rfl
 i53 := by kernel_rfl
 i75 := by kernel_rfl
 i80 := by kernel_rfl
 i85 := by kernel_rfl
 i127 := by kernel_rfl
 i143 := by kernel_rfl
 i145 := by kernel_rfl
 i167 := by kernel_rfl
 i168 := by kernel_rfl
 i171 := by kernel_rfl
 i173 := by kernel_rfl
 i175 := by kernel_rfl
 i210 := by kernel_rfl
 i212 := by kernel_rfl
 i232 := by kernel_rfl
 i233 := by kernel_rfl
 m15 := by kernel_rfl
 m16 := by kernel_rfl
 m17 := by kernel_rfl
 m18 := by kernel_rfl
 m19 := by kernel_rfl
 c0 := by kernel_rfl
 c2 := by kernel_rfl
 c3 := by kernel_rfl
 c4 := by kernel_rfl
 c5 := by kernel_rfl
 c9 := by kernel_rfl
 c20 := by kernel_rfl
 c21 := by kernel_rfl
 c37 := by kernel_rfl
 c46 := by kernel_rfl
 c51 := by kernel_rfl
 c53 := by kernel_rfl
 c75 := by kernel_rfl
 c80 := by kernel_rfl
 c85 := by kernel_rfl
 c127 := by kernel_rfl
 c143 := by kernel_rfl
 c145 := by kernel_rfl
 c167 := by kernel_rfl
 c168 := by kernel_rfl
 c171 := by kernel_rfl
 c173 := by kernel_rfl
 c175 := by kernel_rfl
 c210 := by kernel_rfl
 c212 := by kernel_rfl
 c213 := by kernel_rfl
 c232 := by kernel_rfl
 c233 := by kernel_rfl }
open Go.RowKit in
theorem Tryz.strconv_ParseInt_10_at64_ok (s : ByteArray) (hmax : s.size ≤ 9223372036854775806) (v : Int) (h : Lib.parseIntB 64 s.data.toList = .ok v) (w : World) :
  Calls Tryz.prog 130 #[.string s, .int .i64 10, .int .i64 64] w fun e w' => e = .returned (.tuple #[.int .i64 v, .nilIface]) ∧ (w' = w ∨ ∃ t, w' = Lib.bytesWorld w 5 t) := Any.strconv_ParseInt_10_at64_ok Tryz.laysC174 s hmax v h w
def Tryz.laysPu14_ren : Go.Shelf.Ren := ⟨fun | 14 => 133 | 16 => 161 | 17 => 156 | 19 => 198 | 20 => 199 | 21 => 190 | 22 => 191 | 23 => 192 | 24 => 193 | 25 => 216 | 27 => 90 | 26 => 217 | 28 => 119 | 29 => 143 | 30 => 157 | 31 => 158 | 32 => 159 | 33 => 160 | 35 => 131 | 34 => 194 | 36 => 195 | 37 => 196 | 38 => 197 | 39 => 218 | 40 => 219 | n => n, fun | 9 => 9 | 3 => 3 | 22 => 109 | 24 => 168 | 25 => 172 | 4 => 4 | 34 => 232 | 5 => 5 | 36 => 139 | 37 => 143 | 0 => 0 | 39 => 233 | 21 => 21 | 44 => 259 | 47 => 242 | 50 => 271 | 48 => 269 | 2 => 2 | 52 => 199 | 55 => 201 | 59 => 238 | 60 => 216 | 20 => 20 | 61 => 239 | 65 => 272 | 66 => 273 | 67 => 207 | n => n, fun | 0 => 1 | 1 => 2 | 2 => 0 | 3 => 3 | 4 => 4 | n => n⟩
theorem Tryz.laysPu14 : Go.Proofs.LaysPu.n14 Tryz.prog Tryz.laysPu14_ren := {
 mixed := by kernel_rfl
 f14 := Tryz.func133.trans (congrArg some (by kernel_rfl))
 f16 := Tryz.func161.trans (congrArg some (by kernel_rfl))
 f17 := Tryz.func156.trans (congrArg some (by kernel_rfl))
 f19 := Tryz.func198.trans (congrArg some (by kernel_rfl))
 f20 := Tryz.func199.trans (congrArg some (by kernel_rfl))
 f21 := Tryz.func190.trans (congrArg some (by kernel_rfl))
 f22 := Tryz.func191.trans (congrArg some (by kernel_rfl))
 f23 := Tryz.func192.trans (congrArg some (by kernel_rfl))
 f24 := Tryz.func193.trans (congrArg some (by kernel_rfl))
 f25 := Tryz.func216.trans (congrArg some (by kernel_rfl))
 f26 := Tryz.func217.trans (congrArg some (by kernel_rfl))
 f27 := Tryz.func90.trans (congrArg some (by kernel_rfl))
 f28 := Tryz.func119.trans (congrArg some (by kernel_rfl))
 f29 := Tryz.func143.trans (congrArg some (by kernel_rfl))
 f30 := Tryz.func157.trans (congrArg some (by kernel_rfl))
 f31 := Tryz.func158.trans (congrArg some (by kernel_rfl))
 f32 := Tryz.func159.trans (congrArg some (by kernel_rfl))
 f33 := Tryz.func160.trans (congrArg some (by kernel_rfl))
 f34 := Tryz.func194.trans (congrArg some (by kernel_rfl))
 f35 := Tryz.func131.trans (congrArg some (by kernel_rfl))
 f36 := Tryz.func195.trans (congrArg some (by kernel_rfl))
 f37 := Tryz.func196.trans (congrArg some (by kernel_rfl))
 f38 := Tryz.func197.trans (congrArg some (by kernel_rfl))
 f39 := Tryz.func218.trans (congrArg some (by kernel_rfl))
 f40 := Tryz.func219.trans (congrArg some (by kernel_rfl))
 t0 := Tryz.underlying0
 a0 := Tryz.isAgg0
 z0 := Tryz.sizeOf0
 v0 := Tryz.zeroValue0
 i0 := by kernel_rfl
 t2 := Tryz.underlying2
 a2 := Tryz.isAgg2
 z2 := Tryz.sizeOf2
 v2 := Tryz.zeroValue2
 i2 := by kernel_rfl
 t3 := Tryz.underlying3
 a3 := Tryz.isAgg3
 z3 := Tryz.sizeOf3
 v3 := Tryz.zeroValue3
 i3 := by kernel_rfl
 t4 := Tryz.underlying4
 a4 := Tryz.isAgg4
 z4 := Tryz.sizeOf4
 v4 := Tryz.zeroValue4
 i4 := by kernel_rfl
 t5 := Tryz.underlying5
 a5 := Tryz.isAgg5
 z5 := Tryz.sizeOf5
 v5 := Tryz.zeroValue5
 i5 := by kernel_rfl
 t9 := Tryz.underlying9
 a9 := Tryz.isAgg9
 z9 := Tryz.sizeOf9
 v9 := Tryz.zeroValue9
 i9 := by kernel_rfl
 t20 := Tryz.underlying20
 a20 := Tryz.isAgg20
 z20 := Tryz.sizeOf20
 v20 := Tryz.zeroValue20
 i20 := by kernel_rfl
 t21 := Tryz.underlying21
 a21 := Tryz.isAgg21
 z21 := Tryz.sizeOf21
 v21 := Tryz.zeroValue21
 i21 := by kernel_rfl
 t22 := Tryz.underlying109
 a22 := Tryz.isAgg109
 z22 := Tryz.sizeOf109
 v22 := Tryz.zeroValue109
 i22 := by kernel_rfl
 t24 := Tryz.underlying168
 a24 := Tryz.isAgg168
 z24 := Tryz.sizeOf168
 v24 := Tryz.zeroValue168
 i24 := by kernel_rfl
 t25 := Tryz.underlying172
 a25 := Tryz.isAgg172
 z25 := Tryz.sizeOf172
 v25 := Tryz.zeroValue172
 i25 := by kernel_rfl
 t34 := Tryz.underlying232
 a34 := Tryz.isAgg232
 z34 := Tryz.sizeOf232
 v34 := Tryz.zeroValue232
 i34 := by kernel_rfl
 c34 := by kernel_rfl
 t36 := Tryz.underlying139
 a36 := Tryz.isAgg139
 z36 := Tryz.sizeOf139
 v36 := Tryz.zeroValue139
 i36 := by kernel_rfl
 t37 := Tryz.underlying143
 a37 := Tryz.isAgg143
 z37 := Tryz.sizeOf143
 v37 := Tryz.zeroValue143
 i37 := by kernel_rfl
 t39 := Tryz.underlying233
 a39 := Tryz.isAgg233
 z39 := Tryz.sizeOf233
 v39 := Tryz.zeroValue233
 i39 := by kernel_rfl
 t44 := Tryz.underlying259
 a44 := Tryz.isAgg259
 z44 := Tryz.sizeOf259
 v44 := Tryz.zeroValue259
 i44 := by kernel_rfl
 t47 := Tryz.underlying242
 a47 := Tryz.isAgg242
 z47 := Tryz.sizeOf242
 v47 := Tryz.zeroValue242
 i47 := by kernel_rfl
 t48 := Tryz.underlying269
 a48 := Tryz.isAgg269
 z48 := Tryz.sizeOf269
 v48 := Tryz.zeroValue269
 i48 := by kernel_rfl
 t50 := Tryz.underlying271
 a50 := Tryz.isAgg271
 z50 := Tryz.sizeOf271
 v50 := Tryz.zeroValue271
 i50 := by kernel_rfl
 t52 := Tryz.underlying199
 a52 := Tryz.isAgg199
 z52 := Tryz.sizeOf199
 v52 := Tryz.zeroValue199
 i52 := by kernel_rfl
 t55 := Tryz.underlying201
 a55 := Tryz.isAgg201
 z55 := Tryz.sizeOf201
 v55 := Tryz.zeroValue201
 i55 := by kernel_rfl
 t59 := Tryz.underlying238
 a59 := Tryz.isAgg238
 z59 := Tryz.sizeOf238
 v59 := Tryz.zeroValue238
 i59 := by kernel_rfl
 t60 := Tryz.underlying216
 a60 := Tryz.isAgg216
 z60 := Tryz.sizeOf216
 v60 := Tryz.zeroValue216
 i60 := by kernel_rfl
 t61 := Tryz.underlying239
 a61 := Tryz.isAgg239
 z61 := Tryz.sizeOf239
 t65 := Tryz.underlying272
 a65 := Tryz.isAgg272
 z65 := Tryz.sizeOf272
 v65 := Tryz.zeroValue272
 i65 := by kernel_rfl
 t66 := Tryz.underlying273
 a66 := Tryz.isAgg273
 z66 := Tryz.sizeOf273
 v66 := Tryz.zeroValue273
 i66 := by kernel_rfl
 t67 := Tryz.underlying207
 a67 := Tryz.isAgg207
 z67 := Tryz.sizeOf207
 v67 := Tryz.zeroValue207
 i67 := by kernel_rfl
 g0 := by kernel_rfl
 m0 := by kernel_rfl
 g1 := by kernel_rfl
 m1 := by kernel_rfl
 g2 := by kernel_rfl
 m2 := by kernel_rfl
 g3 := by kernel_rfl
 m3 := by kernel_rfl
 g4 := by kernel_rfl
 m4 := by kernel_rfl }
open Go.RowKit in
theorem Tryz.strconv_ParseUint_10_at64_ok (s : ByteArray) (hmax : s.size ≤ 9223372036854775806) (u : Nat) (h : Lib.parseUintB 64 s.data.toList = .ok u) (w : World) :
  Calls Tryz.prog 133 #[.string s, .int .i64 10, .int .i64 64] w fun e w' => e = .returned (.tuple #[.int .u64 u, .nilIface]) ∧ (w' = w ∨ w' = Lib.bytesWorld w 5 s) := Any.strconv_ParseUint_10_at64_ok Tryz.laysPu14 s hmax u h w
def Tryz.lays264_ren : Go.Shelf.Ren := ⟨fun | 264 => 224 | n => n, fun | 53 => 109 | 46 => 139 | n => n, fun | n => n⟩
theorem Tryz.lays264 : Go.Proofs.Lays.n264 Tryz.prog Tryz.lays264_ren := {
 mixed := by kernel_rfl
 f264 := Tryz.func224.trans (congrArg some (by kernel_rfl))
 t46 := Tryz.underlying139
 a46 := Tryz.isAgg139
 z46 := Tryz.sizeOf139
 v46 := Tryz.zeroValue139
 t53 := Tryz.underlying109
 a53 := Tryz.isAgg109
 z53 := Tryz.sizeOf109
 v53 := Tryz.zeroValue109 }
open Go.RowKit Go.Lib in
theorem Tryz.bits_Mul64 (x y : Nat) (hx : x < 18446744073709551616) (hy : y < 18446744073709551616) (w : World) :
  Calls Tryz.prog 224 #[.int .u64 x, .int .u64 y] w fun e w' => e = .returned (.tuple #[.int .u64 ((x * y / 18446744073709551616 : Nat) : Int), .int .u64 ((x * y % 18446744073709551616 : Nat) : Int)]) ∧ w' = w := Any.bits_Mul64 Tryz.lays264 x y hx hy w
def Tryz.laysSort_ren : Go.Shelf.Ren := ⟨fun | 6 => 111 | 15 => 137 | 14 => 136 | 28 => 175 | 29 => 131 | 20 => 167 | 21 => 168 | 22 => 169 | 23 => 170 | 24 => 171 | 25 => 172 | 26 => 173 | 27 => 174 | 46 => 202 | 47 => 203 | 48 => 204 | 49 => 205 | 50 => 206 | 57 => 222 | n => n, fun | 22 => 27 | 24 => 28 | 25 => 150 | 3 => 3 | 39 => 139 | 0 => 0 | 53 => 216 | 55 => 109 | 4 => 4 | 46 => 210 | 45 => 209 | 50 => 135 | 5 => 5 | 9 => 9 | 66 => 243 | 70 => 247 | 76 => 264 | 77 => 265 | n => n, fun | n => n⟩
theorem Tryz.laysSort : Go.Proofs.SlLaysF.n6 Tryz.prog Tryz.laysSort_ren := {
 mixed := by kernel_rfl
 f6 := ⟨Tryz.f111.name, by decide, Tryz.func111.trans (congrArg some (by kernel_rfl))⟩
 f14 := ⟨Tryz.f136.name, by decide, Tryz.func136.trans (congrArg some (by kernel_rfl))⟩
 f15 := Tryz.func137.trans (congrArg some (by kernel_rfl))
 f20 := ⟨Tryz.f167.name, by decide, Tryz.func167.trans (congrArg some (by kernel_rfl))⟩
 f21 := ⟨Tryz.f168.name, by decide, Tryz.func168.trans (congrArg some (by kernel_rfl))⟩
 f22 := ⟨Tryz.f169.name, by decide, Tryz.func169.trans (congrArg some (by kernel_rfl))⟩
 f23 := ⟨Tryz.f170.name, by decide, Tryz.func170.trans (congrArg some (by kernel_rfl))⟩
 f24 := ⟨Tryz.f171.name, by decide, Tryz.func171.trans (congrArg some (by kernel_rfl))⟩
 f25 := ⟨Tryz.f172.name, by decide, Tryz.func172.trans (congrArg some (by kernel_rfl))⟩
 f26 := ⟨Tryz.f173.name, by decide, Tryz.func173.trans (congrArg some (by kernel_rfl))⟩
 f27 := ⟨Tryz.f174.name, by decide, Tryz.func174.trans (congrArg some (by kernel_rfl))⟩
 f28 := Tryz.func175.trans (congrArg some (by kernel_rfl))
 f29 := Tryz.func131.trans (congrArg some (by kernel_rfl))
 f46 := ⟨Tryz.f202.name, by decide, Tryz.func202.trans (congrArg some (by kernel_rfl))⟩
 f47 := Tryz.func203.trans (congrArg some (by kernel_rfl))
 f48 := Tryz.func204.trans (congrArg some (by kernel_rfl))
 f49 := ⟨Tryz.f205.name, by decide, Tryz.func205.trans (congrArg some (by kernel_rfl))⟩
 f50 := ⟨Tryz.f206.name, by decide, Tryz.func206.trans (congrArg some (by kernel_rfl))⟩
 f57 := ⟨Tryz.f222.name, by decide, Tryz.func222.trans (congrArg some (by kernel_rfl))⟩
 t0 := Tryz.underlying0
 a0 := Tryz.isAgg0
 z0 := Tryz.sizeOf0
 v0 := Tryz.zeroValue0
 t3 := Tryz.underlying3
 a3 := Tryz.isAgg3
 z3 := Tryz.sizeOf3
 v3 := Tryz.zeroValue3
 t4 := Tryz.underlying4
 a4 := Tryz.isAgg4
 z4 := Tryz.sizeOf4
 v4 := Tryz.zeroValue4
 t5 := Tryz.underlying5
 a5 := Tryz.isAgg5
 z5 := Tryz.sizeOf5
 v5 := Tryz.zeroValue5
 t9 := Tryz.underlying9
 a9 := Tryz.isAgg9
 z9 := Tryz.sizeOf9
 v9 := Tryz.zeroValue9
 t22 := Tryz.underlying27
 a22 := Tryz.isAgg27
 z22 := Tryz.sizeOf27
 v22 := Tryz.zeroValue27
 a24 := Tryz.isAgg28
 z24 := Tryz.sizeOf28
 t25 := Tryz.underlying150
 a25 := Tryz.isAgg150
 z25 := Tryz.sizeOf150
 v25 := Tryz.zeroValue150
 t39 := Tryz.underlying139
 a39 := Tryz.isAgg139
 z39 := Tryz.sizeOf139
 v39 := Tryz.zeroValue139
 t45 := Tryz.underlying209
 a45 := Tryz.isAgg209
 z45 := Tryz.sizeOf209
 v45 := Tryz.zeroValue209
 t46 := Tryz.underlying210
 a46 := Tryz.isAgg210
 z46 := Tryz.sizeOf210
 v46 := Tryz.zeroValue210
 t50 := Tryz.underlying135
 a50 := Tryz.isAgg135
 z50 := Tryz.sizeOf135
 v50 := Tryz.zeroValue135
 t53 := Tryz.underlying216
 a53 := Tryz.isAgg216
 z53 := Tryz.sizeOf216
 v53 := Tryz.zeroValue216
 t55 := Tryz.underlying109
 a55 := Tryz.isAgg109
 z55 := Tryz.sizeOf109
 v55 := Tryz.zeroValue109
 t66 := Tryz.underlying243
 a66 := Tryz.isAgg243
 z66 := Tryz.sizeOf243
 v66 := Tryz.zeroValue243
 t70 := Tryz.underlying247
 a70 := Tryz.isAgg247
 z70 := Tryz.sizeOf247
 v70 := Tryz.zeroValue247
 t76 := Tryz.underlying264
 a76 := Tryz.isAgg264
 z76 := Tryz.sizeOf264
 v76 := Tryz.zeroValue264
 t77 := Tryz.underlying265
 a77 := Tryz.isAgg265
 z77 := Tryz.sizeOf265
 v77 := Tryz.zeroValue265 }
end Go.Proofs
end
section
namespace Go.Proofs.YtkgkihichdcpmaaGreatDoor.H
open Go.RowKit Go.Shelf Go.Proofs.YtkgkihichdcpmaaGreatDoorW.PrintWords Go.Proofs.YtkgkihichdcpmaaGreatDoorW.PrintLast Go.Proofs.YtkgkihichdcpmaaGreatDoorW.PrintMore
attribute [local go_sem] Oper.semAt_some
def HoldsI {α : Type} (n₀ : Nat) (W : World) (A : Option Addr) (zs : List α) (f : α → Value) : Prop :=
 ∀ (j : Nat) (hj : j < zs.length), ∃ ad, A = some ad ∧ ad.block < n₀ ∧ W.cell? (ad.add j) = some (f zs[j])
theorem HoldsI.below {α : Type} {n₀ : Nat} {V W : World} (h : Below n₀ V W) {A : Option Addr} {zs : List α} {f : α → Value} (hh : HoldsI n₀ V A zs f) : HoldsI n₀ W A zs f := fun j hj => by
 obtain ⟨ad, e, hb, hc⟩ := hh j hj
 have hb' : (ad.add j).block < n₀ := by unfold Addr.add; split <;> exact hb
 exact ⟨ad, e, hb, (h.cell hb').trans hc⟩
theorem HoldsI.mono {α : Type} {n₀ n₁ : Nat} {W : World} {A : Option Addr} {zs : List α} {f : α → Value} (hh : HoldsI n₀ W A zs f) (h : n₀ ≤ n₁) : HoldsI n₁ W A zs f := fun j hj => by
 obtain ⟨ad, e, hb, hc⟩ := hh j hj; exact ⟨ad, e, Nat.lt_of_lt_of_le hb h, hc⟩
theorem _root_.Go.Boxed.below {W W' : World} {B n₀ : Nat} {t : TypeId} {v : Value} (h : Boxed W B t v) (hb : Below n₀ W W') (hB : B < n₀) : Boxed W' B t v := (hb.block B hB).trans h
def KeepsB (n₀ lo hi : Nat) (A B : World) : Prop := Below n₀ A B ∧ ∀ k, lo ≤ k → k < hi → B.heap[k]? = A.heap[k]?
theorem KeepsB.refl (n₀ lo hi : Nat) (A : World) : KeepsB n₀ lo hi A A := ⟨Below.refl _ _, fun _ _ _ => rfl⟩
theorem KeepsB.trans {n₀ lo hi : Nat} {A B C : World} (h : KeepsB n₀ lo hi A B) (k : KeepsB n₀ lo hi B C) : KeepsB n₀ lo hi A C := ⟨h.1.trans k.1, fun i h1 h2 => (k.2 i h1 h2).trans (h.2 i h1 h2)⟩
theorem KeepsB.cell {n₀ lo hi : Nat} {A B : World} (h : KeepsB n₀ lo hi A B) {p : Addr} (h1 : lo ≤ p.block) (h2 : p.block < hi) : B.cell? p = A.cell? p := by simp only [World.cell?, h.2 p.block h1 h2]
theorem keepsB_b {n₀ lo hi : Nat} {w : World} (h : n₀ ≤ w.heap.size) (h2 : hi ≤ w.heap.size) (W : World) (l : Nat) (o o' : Obj) (hl : w.heap.size ≤ l) (ho : W.heap[l]? = some o) (h3 : o.isCells = false) (h4 : o.isWalk = false) : KeepsB n₀ lo hi W (W.putObj l o') :=
 ⟨belowK_b h W l o o' hl ho h3 h4, fun k _ hk => (grownBy_putObj' W l o').block k (by have := (Array.getElem?_eq_some_iff.1 ho).1; omega) (fun e => by cases e; omega)⟩
set_option maxRecDepth 100000 in
set_option maxHeartbeats 4000000 in
theorem pairs1_in {α : Type} (e1 : α → Int) (e2 : α → Int) (zs : List α) (F : Fence) (n : Nat) (hfn : F.fn 138) (hro : F.round = none) (hn : 1 ≤ n) (l B1 B2 n₀ lo hi : Nat) (A1 A2 : Option Addr) (c1 c2 : Nat) (hreach : zs.length * 16 ≤ 140737488351232) (hB2 : lo ≤ B2) (hB2' : B2 < hi) (J Jx : List α → World → Prop)
  (hY : ∀ pre x W, J pre W → pre.length < zs.length → YieldAt F (n - 1) Tryz.prog l #[.int .i64 (e1 x), .int .i64 (e2 x)] W fun e W' =>
   (e = .returned (.bool true) ∧ J (pre ++ [x]) W' ∧ KeepsB n₀ lo hi W W') ∨ (e = .returned (.bool false) ∧ Jx (pre ++ [x]) W'))
  (W : World) (hc1 : W.cell? ⟨B1, 0, none⟩ = some (.slice A1 zs.length c1)) (hc2 : W.cell? ⟨B2, 0, none⟩ = some (.slice A2 zs.length c2))
  (h1 : HoldsI n₀ W A1 zs fun x => .int .i64 (e1 x)) (h2 : HoldsI n₀ W A2 zs fun x => .int .i64 (e2 x)) (h0 : J [] W) :
  CallsIn F n Tryz.prog 138 #[.func (.yield l) #[] #[], .pointer (some ⟨B1, 0, none⟩), .pointer (some ⟨B2, 0, none⟩)] W fun e W' => (∃ v, e = .returned v) ∧
   ((∃ ys, ys = zs ∧ J ys W') ∨ (∃ pre, (∃ k, k ≤ zs.length ∧ pre = zs.take k) ∧ Jx pre W')) := by
 refine callsIn_of_wp Tryz.func138 rfl hfn ?_ hro; simp only [Tryz.ntmps138, List.size_toArray, List.length_cons, List.length_nil, Nat.reduceAdd, Nat.reduceSub, Array.replicate_succ, Array.replicate_zero, List.push_toArray, List.append_toArray, List.nil_append, List.cons_append]
 gi_wp2
 gi_loopw [8] (fun i wr => ∃ k : Nat, k ≤ zs.length ∧ i = .int .i64 k ∧ J (zs.take k) wr ∧ KeepsB n₀ lo hi W wr)
  (fun i _ => zs.length - (intOf i).toNat)
 case atStart => exact ⟨0, Nat.zero_le _, rfl, h0, KeepsB.refl _ _ _ _⟩
 case round =>
  obtain ⟨k, hk, rfl, hJs, hnx⟩ := hrel
  by_cases hlt : k < zs.length
  ·obtain ⟨fn, tmps, assign, body, hy, hR⟩ := hY _ zs[k] wr hJs (by rw [List.length_take]; omega); obtain ⟨a1, rfl, hb1, hx1⟩ := h1.below hnx.1 k hlt; obtain ⟨a2, rfl, hb2, hx2⟩ := h2.below hnx.1 k hlt; have hc2' := (hnx.cell (p := ⟨B2, 0, none⟩) hB2 hB2').trans hc2
   gi_wp2
   refine hR.mono ?_; rintro e W3 (⟨rfl, hJ3, hk3⟩ | ⟨rfl, hJx3⟩)
   ·gi_wp2
    go_roundw
    case rel => exact ⟨k + 1, by omega, by simp, by rw [List.take_succ_eq_append_getElem hlt]; exact hJ3, hnx.trans hk3⟩
    case measure => simp [intOf]; omega
   ·gi_wp2
    refine bodyPost_ret (results_none rfl _ _ _) rfl ?_; exact ⟨⟨_, rfl⟩, .inr ⟨_, ⟨k + 1, by omega, by rw [List.take_succ_eq_append_getElem hlt]⟩, hJx3⟩⟩
  ·obtain rfl : k = zs.length := by omega
   gi_wp2
   go_end0
   exact ⟨⟨_, rfl⟩, .inl ⟨_, rfl, by rw [List.take_length] at hJs; exact hJs⟩⟩
set_option maxHeartbeats 1000000 in
theorem pairs_in (F : Fence) (n : Nat) (h114 : F.fn 114) (hro : F.round = none) (A1 A2 : Option Addr) (l1 c1 l2 c2 : Nat) (w : World) :
  CallsIn F n Tryz.prog 114 #[.slice A1 l1 c1, .slice A2 l2 c2] w fun e w' => e = .returned (.func (.func 138) #[] #[.pointer (some ⟨w.heap.size, 0, none⟩), .pointer (some ⟨w.heap.size + 1, 0, none⟩)]) ∧ w' = (w.alloc (.cells #[.slice A1 l1 c1] 28)).alloc (.cells #[.slice A2 l2 c2] 28) := by
 refine callsIn_of_wp Tryz.func114 rfl h114 ?_ hro; simp only [Tryz.ntmps114, List.size_toArray, List.length_cons, List.length_nil, Nat.reduceAdd, Nat.reduceSub, Array.replicate_succ, Array.replicate_zero, List.push_toArray, List.append_toArray, List.nil_append, List.cons_append]
 gi_wp2
 go_ret; exact ⟨rfl, rfl⟩
theorem pairs_stops {α : Type} (e1 : α → Int) (e2 : α → Int) (zs : List α) (F : Fence) (n : Nat) (hfn : F.fn 138) (hro : F.round = none) (hn : 1 ≤ n) (B1 B2 n₀ lo hi : Nat) (A1 A2 : Option Addr) (c1 c2 : Nat) (hreach : zs.length * 16 ≤ 140737488351232) (w : World) (hB1 : B1 < w.heap.size) (hB2 : lo ≤ B2) (hB2' : B2 < hi) (hB2w : B2 < w.heap.size) (hn₀ : n₀ ≤ w.heap.size)
  (hc1 : w.cell? ⟨B1, 0, none⟩ = some (.slice A1 zs.length c1)) (hc2 : w.cell? ⟨B2, 0, none⟩ = some (.slice A2 zs.length c2))
  (h1 : HoldsI n₀ w A1 zs fun x => .int .i64 (e1 x)) (h2 : HoldsI n₀ w A2 zs fun x => .int .i64 (e2 x)) :
  SeqStopsK F n Tryz.prog 138 #[.pointer (some ⟨B1, 0, none⟩), .pointer (some ⟨B2, 0, none⟩)] (fun x : α => #[Value.int .i64 (e1 x), Value.int .i64 (e2 x)]) (KeepsB n₀ lo hi) (fun ys => ys = zs)
   (fun pre => ∃ k, k ≤ zs.length ∧ pre = zs.take k) zs.length w := fun l J Jx W hW _ _ hY h0 => by
 have hc1' := (hW.cell (p := ⟨B1, 0, none⟩) hB1).trans hc1; have hc2' := (hW.cell (p := ⟨B2, 0, none⟩) hB2w).trans hc2; exact pairs1_in e1 e2 zs F n hfn hro hn l B1 B2 n₀ lo hi A1 A2 c1 c2 hreach hB2 hB2' J Jx hY W hc1' hc2' (h1.below (hW.mono hn₀)) (h2.below (hW.mono hn₀)) h0
set_option maxRecDepth 100000 in
set_option maxHeartbeats 4000000 in
theorem all1_in {α : Type} (e1 : α → Int) (e2 : α → ByteArray) (zs : List α) (F : Fence) (n : Nat) (hfn : F.fn 213) (hro : F.round = none) (hn : 1 ≤ n) (l B1 n₀ lo hi : Nat) (A1 A2 : Option Addr) (c1 c2 : Nat) (hreach : zs.length * 16 ≤ 140737488351232) (hB1 : lo ≤ B1) (hB1' : B1 < hi) (J Jx : List α → World → Prop)
  (hY : ∀ pre x W, J pre W → pre.length < zs.length → YieldAt F (n - 1) Tryz.prog l #[.int .i64 (e1 x), .string (e2 x)] W fun e W' =>
   (e = .returned (.bool true) ∧ J (pre ++ [x]) W' ∧ KeepsB n₀ lo hi W W') ∨ (e = .returned (.bool false) ∧ Jx (pre ++ [x]) W'))
  (W : World) (hc1 : W.cell? ⟨B1, 0, none⟩ = some (.slice A1 zs.length c1)) (hc2 : W.cell? ⟨B1, 1, none⟩ = some (.slice A2 zs.length c2))
  (h1 : HoldsI n₀ W A1 zs fun x => .int .i64 (e1 x)) (h2 : HoldsI n₀ W A2 zs fun x => .string (e2 x)) (h0 : J [] W) :
  CallsIn F n Tryz.prog 213 #[.func (.yield l) #[] #[], .pointer (some ⟨B1, 0, none⟩)] W fun e W' => (∃ v, e = .returned v) ∧
   ((∃ ys, ys = zs ∧ J ys W') ∨ (∃ pre, (∃ k, k ≤ zs.length ∧ pre = zs.take k) ∧ Jx pre W')) := by
 refine callsIn_of_wp Tryz.func213 rfl hfn ?_ hro; simp only [Tryz.ntmps213, List.size_toArray, List.length_cons, List.length_nil, Nat.reduceAdd, Nat.reduceSub, Array.replicate_succ, Array.replicate_zero, List.push_toArray, List.append_toArray, List.nil_append, List.cons_append]
 gi_wp2
 gi_loopw [8] (fun i wr => ∃ k : Nat, k ≤ zs.length ∧ i = .int .i64 k ∧ J (zs.take k) wr ∧ KeepsB n₀ lo hi W wr)
  (fun i _ => zs.length - (intOf i).toNat)
 case atStart => exact ⟨0, Nat.zero_le _, rfl, h0, KeepsB.refl _ _ _ _⟩
 case round =>
  obtain ⟨k, hk, rfl, hJs, hnx⟩ := hrel
  by_cases hlt : k < zs.length
  ·obtain ⟨fn, tmps, assign, body, hy, hR⟩ := hY _ zs[k] wr hJs (by rw [List.length_take]; omega); obtain ⟨a1, rfl, hb1, hx1⟩ := h1.below hnx.1 k hlt; obtain ⟨a2, rfl, hb2, hx2⟩ := h2.below hnx.1 k hlt; have hc2' := (hnx.cell (p := ⟨B1, 1, none⟩) hB1 hB1').trans hc2
   gi_wp2
   refine hR.mono ?_; rintro e W3 (⟨rfl, hJ3, hk3⟩ | ⟨rfl, hJx3⟩)
   ·gi_wp2
    go_roundw
    case rel => exact ⟨k + 1, by omega, by simp, by rw [List.take_succ_eq_append_getElem hlt]; exact hJ3, hnx.trans hk3⟩
    case measure => simp [intOf]; omega
   ·gi_wp2
    refine bodyPost_ret (results_none rfl _ _ _) rfl ?_; exact ⟨⟨_, rfl⟩, .inr ⟨_, ⟨k + 1, by omega, by rw [List.take_succ_eq_append_getElem hlt]⟩, hJx3⟩⟩
  ·obtain rfl : k = zs.length := by omega
   gi_wp2
   go_end0
   exact ⟨⟨_, rfl⟩, .inl ⟨_, rfl, by rw [List.take_length] at hJs; exact hJs⟩⟩
set_option maxHeartbeats 1000000 in
theorem all_in (F : Fence) (n : Nat) (h187 : F.fn 187) (hro : F.round = none) (A1 A2 : Option Addr) (l1 c1 l2 c2 : Nat) (d : ByteArray) (w : World) :
  CallsIn F n Tryz.prog 187 #[.agg #[.slice A1 l1 c1, .slice A2 l2 c2, .string d]] w fun e w' => e = .returned (.func (.func 213) #[] #[.pointer (some ⟨w.heap.size, 0, none⟩)]) ∧ w' = w.alloc (.cells #[.slice A1 l1 c1, .slice A2 l2 c2, .string d] 191) := by
 refine callsIn_of_wp Tryz.func187 rfl h187 ?_ hro; simp only [Tryz.ntmps187, List.size_toArray, List.length_cons, List.length_nil, Nat.reduceAdd, Nat.reduceSub, Array.replicate_succ, Array.replicate_zero, List.push_toArray, List.append_toArray, List.nil_append, List.cons_append]
 gi_wp2
 go_ret; exact ⟨rfl, rfl⟩
theorem all_stops {α : Type} (e1 : α → Int) (e2 : α → ByteArray) (zs : List α) (F : Fence) (n : Nat) (hfn : F.fn 213) (hro : F.round = none) (hn : 1 ≤ n) (B1 n₀ lo hi : Nat) (A1 A2 : Option Addr) (c1 c2 : Nat) (hreach : zs.length * 16 ≤ 140737488351232) (w : World) (hB1 : lo ≤ B1) (hB1' : B1 < hi) (hB1w : B1 < w.heap.size) (hn₀ : n₀ ≤ w.heap.size)
  (hc1 : w.cell? ⟨B1, 0, none⟩ = some (.slice A1 zs.length c1)) (hc2 : w.cell? ⟨B1, 1, none⟩ = some (.slice A2 zs.length c2))
  (h1 : HoldsI n₀ w A1 zs fun x => .int .i64 (e1 x)) (h2 : HoldsI n₀ w A2 zs fun x => .string (e2 x)) :
  SeqStopsK F n Tryz.prog 213 #[.pointer (some ⟨B1, 0, none⟩)] (fun x : α => #[Value.int .i64 (e1 x), Value.string (e2 x)]) (KeepsB n₀ lo hi) (fun ys => ys = zs)
   (fun pre => ∃ k, k ≤ zs.length ∧ pre = zs.take k) zs.length w := fun l J Jx W hW _ _ hY h0 => by
 have hc1' := (hW.cell (p := ⟨B1, 0, none⟩) hB1w).trans hc1; have hc2' := (hW.cell (p := ⟨B1, 1, none⟩) hB1w).trans hc2; exact all1_in e1 e2 zs F n hfn hro hn l B1 n₀ lo hi A1 A2 c1 c2 hreach hB1 hB1' J Jx hY W hc1' hc2' (h1.below (hW.mono hn₀)) (h2.below (hW.mono hn₀)) h0
theorem C_int_holds {w : World} {A : Option Addr} {l : List Int} (h : Kd.C (Kd.int .i64) w A l.length l) (j : Nat) (hj : j < l.length) : ∃ ad, A = some ad ∧ ad.block < w.heap.size ∧ w.cell? (ad.add j) = some (.int .i64 l[j]) := by
 obtain ⟨ad, e, hc⟩ := h.2.2 (by omega); obtain ⟨c, _, hr, hcell⟩ := hc j _ (List.getElem?_eq_getElem hj); have hr' : c = [.int .i64 l[j]] := hr; have := hcell 0 (.int .i64 l[j]) (by rw [hr']; rfl); rw [show j * Kd.sz (Kd.int .i64) + 0 = j from Nat.mul_one j] at this; refine ⟨ad, e, ?_, this⟩; have hb := World.block_lt_of_cell? _ _ this
 have : (ad.add j).block = ad.block := by unfold Addr.add; split <;> rfl
 omega
theorem C_str_holds {w : World} {A : Option Addr} {l : List ByteArray} (h : Kd.C Kd.string w A l.length l) (j : Nat) (hj : j < l.length) : ∃ ad, A = some ad ∧ ad.block < w.heap.size ∧ w.cell? (ad.add j) = some (.string l[j]) := by
 obtain ⟨ad, e, hc⟩ := h.2.2 (by omega); obtain ⟨c, _, hr, hcell⟩ := hc j _ (List.getElem?_eq_getElem hj); have hr' : c = [.string l[j]] := hr; have := hcell 0 (.string l[j]) (by rw [hr']; rfl); rw [show j * Kd.sz Kd.string + 0 = j from Nat.mul_one j] at this; refine ⟨ad, e, ?_, this⟩; have hb := World.block_lt_of_cell? _ _ this
 have : (ad.add j).block = ad.block := by unfold Addr.add; split <;> rfl
 omega
theorem keepsFrom_below {B : Nat} {V W : World} (h : Below V.heap.size V W) : KeepsFrom B V W := by
 exact ⟨h.size, fun k o _ hk _ => (h.block k (Array.getElem?_eq_some_iff.1 hk).1).trans hk⟩
theorem wpAnyIn_inRound {F : Fence} {n : Nat} {P : Program} {md : Region.Mode} {ops : Array Oper} {Q : Exit → Act → World → Prop} (l : Nat) (hnd : ops.all (fun o => match o.op with | .defer _ => false | _ => true) = true) :
  ∀ (fuel : Nat) (listed : Array Bool) (a : Act) (w : World), wpAnyIn F n P md ops Q fuel listed a w → wpAnyIn (F.inRound l) n P md ops Q fuel listed a w := by
 have hnd' : ∀ (i : Nat) (o : Oper), ops[i]? = some o → ∀ c, o.op ≠ .defer c := by
  intro i o ho c e; have h1 := Array.all_eq_true.1 hnd i (Array.getElem?_eq_some_iff.1 ho).1; rw [(Array.getElem?_eq_some_iff.1 ho).2, e] at h1; cases h1
 intro fuel
 induction fuel with
 | zero => intro listed a w h; exact h
 | succ fuel ih =>
  intro listed a w h; refine ⟨h.1, fun i hi => ?_⟩; have h2 := h.2 i hi; have h3 := wpOpIn_mono (fun a w => ih _ a w) h2; unfold wpOpIn at h3 ⊢
  cases ho : ops[i]? with
  | none => rw [ho] at h3; exact h3
  | some o =>
   rw [ho] at h3; simp only at h3 ⊢
   split
   ·rename_i hw
    rw [if_pos hw] at h3; unfold Oper.wpIn at h3 ⊢; rw [Oper.semAt_eq _ _ _ (hnd' i o ho)] at h3 ⊢; exact h3
   ·rename_i hw
    rw [if_neg hw] at h3; exact h3
end Go.Proofs.YtkgkihichdcpmaaGreatDoor.H
end
section
namespace Go.Proofs.YtkgkihichdcpmaaGreatDoor.H
open Go.RowKit Go.Shelf Go.Proofs.YtkgkihichdcpmaaGreatDoorW.PrintWords Go.Proofs.YtkgkihichdcpmaaGreatDoorW.PrintLast Go.Proofs.YtkgkihichdcpmaaGreatDoorW.PrintMore
attribute [local go_sem] max2_int min2_int max_two min_two max_three min_three max_four min_four
set_option linter.unusedVariables false
set_option linter.unusedSimpArgs false
def PredI (g : Nat) (lb : Array Value) (p : Int → Bool) (w : World) : Prop :=
 ∀ (W : World) (x : Int), Below w.heap.size w W → Calls Tryz.prog g (#[.int .i64 x] ++ lb) W fun e w' => e = .returned (.bool (p x)) ∧ ∃ q, w' = W.drewN q
theorem below_drewN' (w : World) (n : Nat) : Below w.heap.size w (w.drewN n) := pbn (Below.refl _ _) n
theorem C_int_at {w : World} {A : Option Addr} {l : List Int} (h : Kd.C (Kd.int .i64) w A l.length l) (i : Nat) (hi : i < l.length) : ∃ ad, A = some ad ∧ w.cell? (ad.add i) = some (.int .i64 (l.getD i 0)) := by
 obtain ⟨ad, e, hc⟩ := h.2.2 (by omega); refine ⟨ad, e, ?_⟩; obtain ⟨c, _, hr, hcell⟩ := hc i _ (List.getElem?_eq_getElem hi); have hr' : c = [.int .i64 l[i]] := hr; have := hcell 0 (.int .i64 l[i]) (by rw [hr']; rfl); rw [show i * Kd.sz (Kd.int .i64) + 0 = i from Nat.mul_one i] at this; rw [this, List.getD_eq_getElem?_getD, List.getElem?_eq_getElem hi]; rfl
set_option maxHeartbeats 4000000 in
theorem indexFunc_row (g : Nat) (lb : Array Value) (p : Int → Bool) (A : Option Addr) (c : Nat) (l : List Int) (w : World)
  (eg : ∀ args w, (callFunc g args).run Tryz.prog w = .ok (.enter g args) w) (hp : PredI g lb p w) (hr : Kd.C (Kd.int .i64) w A l.length l) :
  Calls Tryz.prog 104 #[.slice A l.length c, .func (.func g) #[] lb] w fun e w' => ∃ i : Int, e = .returned (.int .i64 i) ∧ (decide (0 ≤ i) = l.any p) ∧ ∃ q, w' = w.drewN q := by
 have hm := Kd.C_max hr; have HR := Aside0.mk hr; have HP := Aside0.mk hp; clear hr hp; go_enter Tryz.func104, Tryz.ntmps104; go_wp2
 go_loopw [8] (fun i wr => ∃ k m : Nat, k ≤ l.length ∧ i = .int .i64 k ∧ wr = w.drewN m ∧ Aside0 (∀ j : Nat, j < k → p (l.getD j 0) = false)) (fun i _ => l.length - (intOf i).toNat)
 case atStart => exact ⟨0, 0, Nat.zero_le _, rfl, rfl, ⟨fun j hj => absurd hj (by omega)⟩⟩
 case round =>
  obtain ⟨k, m, hk, rfl, rfl, HA⟩ := hrel
  by_cases hlt : k < l.length
  ·obtain ⟨ad, rfl, hcell⟩ := C_int_at HR.out k hlt
   have hcell' : (w.drewN m).cell? (ad.add k) = some (.int .i64 (l.getD k 0)) := by rw [World.cell?_drewN]; exact hcell
   clear hcell
   obtain ⟨x, hx⟩ : ∃ x, x = l.getD k 0 := ⟨_, rfl⟩
   rw [← hx] at hcell'; have Hx := Aside0.mk hx; clear hx; have hcall := HP.out (w.drewN m) x (below_drewN' _ _)
   cases hpx : p x with
   | true =>
    rw [hpx] at hcall; have HPX := Aside0.mk hpx; clear hpx; have HC := Aside0.mk hcall; clear hcall; go_wp2_with fail; refine (HC.out).mono ?_; rintro e w' ⟨rfl, q, rfl⟩; go_wp2; go_ret; refine ⟨_, rfl, ?_, m + q, rfl⟩; rw [show decide ((0 : Int) ≤ (k : Int)) = true from decide_eq_true (by omega)]
    symm
    rw [List.any_eq_true]; refine ⟨l.getD k 0, ?_, by rw [← Hx.out]; exact HPX.out⟩; rw [List.getD_eq_getElem?_getD, List.getElem?_eq_getElem hlt]; exact List.getElem_mem hlt
   | false =>
    rw [hpx] at hcall; have HPX := Aside0.mk hpx; clear hpx; have HC := Aside0.mk hcall; clear hcall; go_wp2_with fail; refine (HC.out).mono ?_; rintro e w' ⟨rfl, q, rfl⟩; go_wp2; go_roundw
    case rel => exact ⟨k + 1, m + q, by omega, by go_num, rfl, ⟨fun j hj => by
     rcases Nat.lt_or_ge j k with h | h
     ·exact HA.out j h
     ·obtain rfl : j = k := by omega
      rw [← Hx.out]
      exact HPX.out⟩⟩
    case measure => simp [intOf]; omega
  ·obtain rfl : k = l.length := by omega
   clear hk; go_wp2; go_ret; refine ⟨_, rfl, ?_, m, rfl⟩
   symm
   rw [show decide ((0 : Int) ≤ -1) = false from rfl, List.any_eq_false]; intro x hx; obtain ⟨j, hj, rfl⟩ := List.getElem_of_mem hx; have := HA.out j hj; rw [List.getD_eq_getElem?_getD, List.getElem?_eq_getElem hj] at this
   simpa using this
set_option maxHeartbeats 4000000 in
theorem containsFunc_row (g : Nat) (lb : Array Value) (p : Int → Bool) (A : Option Addr) (c : Nat) (l : List Int) (w : World)
  (eg : ∀ args w, (callFunc g args).run Tryz.prog w = .ok (.enter g args) w) (hp : PredI g lb p w) (hr : Kd.C (Kd.int .i64) w A l.length l) :
  Calls Tryz.prog 75 #[.slice A l.length c, .func (.func g) #[] lb] w fun e w' => e = .returned (.bool (l.any p)) ∧ ∃ q, w' = w.drewN q := by
 have hc := Aside0.mk (indexFunc_row g lb p A c l w eg hp hr); clear hp hr eg; go_enter Tryz.func75, Tryz.ntmps75; go_wp2_with (go_at_call 104; refine (hc.out).mono ?_; rintro e w' ⟨i, rfl, hi, q, rfl⟩); go_ret; exact ⟨rfl, q, rfl⟩
theorem info3_row : (Tryz.prog.info? 3).map (fun i => (i.zero, i.size, i.bytes)) = some (some (.int .i64 0), 1, 8) := by kernel_rfl
end Go.Proofs.YtkgkihichdcpmaaGreatDoor.H
end
namespace Go.Proofs.YtkgkihichdcpmaaGreatDoor.H
open Go.RowKit Go.Proofs.YtkgkihichdcpmaaGreatDoorW.PrintWords Go.Proofs.YtkgkihichdcpmaaGreatDoorW.PrintLast Go.Proofs.YtkgkihichdcpmaaGreatDoorW.PrintMore
attribute [local go_sem] max2_int min2_int max_two min_two max_three min_three max_four min_four
set_option linter.unusedVariables false
set_option linter.unusedSimpArgs false
set_option maxHeartbeats 64000000
set_option maxRecDepth 100000
theorem AS {p : Prop} (h : p) : Aside0 p := ⟨h⟩
theorem sA1 {α : Type _} (l : List α) (i : Nat) (a : α) : l.toArray.setIfInBounds i a = (l.set i a).toArray := List.setIfInBounds_toArray ..
theorem sA2 {α : Type _} {x : α} {l : List α} {a : α} : (x :: l).set 0 a = a :: l := rfl
theorem sA3 {α : Type _} {x : α} {l : List α} {n : Nat} {a : α} : (x :: l).set (n + 1) a = x :: l.set n a := rfl
theorem bsm {α β : Type _} {x : Option α} {f : α → Option β} {b : β} (h : x.bind f = some b) : ∃ a, x = some a ∧ f a = some b := Option.bind_eq_some_iff.mp h
theorem dqt {p : Prop} [Decidable p] (h : p) : decide p = true := decide_eq_true h
theorem odt {p : Prop} [Decidable p] (h : decide p = true) : p := of_decide_eq_true h
theorem bqt {α : Type _} [BEq α] [LawfulBEq α] {a b : α} (h : a = b) : (a == b) = true := beq_iff_eq.mpr h
theorem bnt {α : Type _} [BEq α] [LawfulBEq α] {a b : α} (h : a ≠ b) : (a != b) = true := bne_iff_ne.mpr h
theorem bnf {α : Type _} [BEq α] [LawfulBEq α] {a b : α} (h : a = b) : (a != b) = false := bne_eq_false_iff_eq.mpr h
theorem bqf {α : Type _} [BEq α] [LawfulBEq α] {a b : α} (h : a ≠ b) : (a == b) = false := beq_eq_false_iff_ne.mpr h
theorem wbl (w : World) (a : Addr) {v : Value} (h : w.cell? a = some v) : a.block < w.heap.size := World.block_lt_of_cell? w a h
theorem blr (w : World) : Below w.heap.size w w := Below.refl _ _
theorem ffl : ¬ (false = true) := by decide
theorem bc0 {w : World} {g : Nat} {t : TypeId} {a : Value} {r : List Value} (h : w.heap[g]? = some (.cells (List.toArray (a :: r)) t (0, 0))) : w.cell? ⟨g, 0, none⟩ = some a := (bce h 0).trans rfl
theorem bc1 {w : World} {g : Nat} {t : TypeId} {a b : Value} {r : List Value} (h : w.heap[g]? = some (.cells (List.toArray (a :: b :: r)) t (0, 0))) : w.cell? ⟨g, 1, none⟩ = some b := (bce h 1).trans rfl
theorem bc2 {w : World} {g : Nat} {t : TypeId} {a b c : Value} {r : List Value} (h : w.heap[g]? = some (.cells (List.toArray (a :: b :: c :: r)) t (0, 0))) : w.cell? ⟨g, 2, none⟩ = some c := (bce h 2).trans rfl
theorem bc3 {w : World} {g : Nat} {t : TypeId} {a b c d : Value} {r : List Value} (h : w.heap[g]? = some (.cells (List.toArray (a :: b :: c :: d :: r)) t (0, 0))) : w.cell? ⟨g, 3, none⟩ = some d := (bce h 3).trans rfl
theorem Z0 {p : Prop} (h : p := by repeat (first | (with_reducible first | exact HB.out | apply bla | apply pbn | apply bl1) | exact HB.out)) : p := h
theorem Z1 {p : Prop} (h : p := by (try simp only [List.map_toArray, List.map_cons, List.map_nil]); first | done | rfl | (simp only [List.length_drop, List.length_take]; rfl)) : p := h
theorem Z2 {p : Prop} (h : p := by first | (with_reducible assumption) | assumption) : p := h
theorem Z3 {p : Prop} (h : p := by first | rfl | (simp [errW_none, errW_some] <;> rfl) | (simp [*, errW_none, errW_some] <;> rfl)) : p := h
theorem Z4 {p : Prop} (h : p := by first | rfl | (simp; done) | (simp [*]; done)) : p := h
theorem Z5 {p : Prop} (h : p := by repeat (first | (with_reducible first | exact HB.out | apply bla | apply pbn | apply bl1 | refine bls ?_ GE502.out) | exact HB.out)) : p := h
theorem Z6 {p : Prop} (h : p := by kernel_rfl) : p := h
theorem Z7 {p : Prop} (h : p := by repeat (first | (with_reducible first | exact HB.out | apply bla | apply pbn | apply bl1 | refine bls ?_ GE340.out | refine bls ?_ GE341.out) | exact HB.out)) : p := h
theorem Z8 {p : Prop} (h : p := by repeat (first | (with_reducible first | exact HB.out | apply bla | apply pbn | apply bl1 | refine bls ?_ GE359.out) | exact HB.out)) : p := h
theorem Z9 {p : Prop} (h : p := by repeat (first | exact (Kd.C_below HR0.out HB.out) | (with_reducible refine Kd.C_alloc ?_ _) | (with_reducible refine Kd.C_drewN ?_ _) | (with_reducible refine Kd.C_drew ?_))) : p := h
theorem Z10 {p : Prop} (h : p := by repeat (first | (with_reducible first | exact HB.out | apply bla | apply pbn | apply bl1 | refine bls ?_ GE321.out | refine bls ?_ GE324.out) | exact HB.out)) : p := h
theorem Z11 {p : Prop} (h : p := by repeat (first | exact Drawn0.refl _ | apply Drawn0.step)) : p := h
theorem Z12 {p : Prop} (h : p := by first | (go_simp; done) | (go_simp; rfl)) : p := h
theorem Z13 {p : Prop} (h : p := by repeat (first | (with_reducible first | exact HB.out | apply bla | apply pbn | apply bl1 | refine bls ?_ GE281.out) | exact HB.out)) : p := h
theorem Z14 {p : Prop} (h : p := by repeat (first | (with_reducible first | exact HB.out | apply bla | apply pbn | apply bl1 | refine bls ?_ GE247.out | refine bls ?_ GE248.out) | exact HB.out)) : p := h
theorem Z15 {p : Prop} (h : p := by repeat (first | exact HR0.out | (with_reducible refine Kd.C_alloc ?_ _) | (with_reducible refine Kd.C_drewN ?_ _) | (with_reducible refine Kd.C_drew ?_))) : p := h
theorem Z16 {p : Prop} (h : p := by repeat (first | (with_reducible first | exact HB.out | apply bla | apply pbn | apply bl1 | refine bls ?_ GE247.out | refine bls ?_ GE248.out | refine bls ?_ GE253.out) | exact HB.out)) : p := h
theorem Z17 {p : Prop} (h : p := by (with_reducible repeat (first | apply bdn | apply bdr | apply bal)); exact BK321.out) : p := h
theorem Z18 {p : Prop} (h : p := by (with_reducible repeat (first | apply Kd.V_alloc | apply Kd.V_drewN | apply Kd.V_drew)); exact HO1.out) : p := h
theorem Z19 {p : Prop} (h : p := by (with_reducible repeat (first | apply bdn | apply bdr | apply bal)); exact BK502.out) : p := h
theorem Z20 {p : Prop} (h : p := by repeat (first | (with_reducible first | exact HB.out | apply bla | apply pbn | apply bl1 | refine bls ?_ GE292.out | refine bls ?_ GE293.out | refine bls ?_ GE294.out) | exact HB.out)) : p := h
theorem Z21 {p : Prop} (h : p := by repeat (first | (with_reducible first | exact HB.out | apply bla | apply pbn | apply bl1 | refine bls ?_ GE305.out) | exact HB.out)) : p := h
theorem Z22 {p : Prop} (h : p := by repeat (first | (with_reducible first | exact HB.out | apply bla | apply pbn | apply bl1 | refine bls ?_ GE321.out | refine bls ?_ GE324.out | refine bls ?_ GE332.out) | exact HB.out)) : p := h
theorem Z23 {p : Prop} (h : p := by repeat (first | (with_reducible first | exact HB.out | apply bla | apply pbn | apply bl1 | refine bls ?_ GE359.out | refine bls ?_ GE375.out | refine bls ?_ GE376.out) | exact HB.out)) : p := h
theorem Z24 {p : Prop} (h : p := by (with_reducible repeat (first | apply bdn | apply bdr | apply bal)); exact BK324.out) : p := h
theorem Z25 {p : Prop} (h : p := by (with_reducible repeat (first | apply bdn | apply bdr | apply bal)); exact BK340.out) : p := h
theorem Z26 {p : Prop} (h : p := by repeat (first | (with_reducible first | exact HB.out | apply bla | apply pbn | apply bl1 | refine bls ?_ GE160.out) | exact HB.out)) : p := h
theorem Z27 {p : Prop} (h : p := by repeat (first | (with_reducible first | exact HB.out | apply bla | apply pbn | apply bl1 | refine bls ?_ GE300.out) | exact HB.out)) : p := h
theorem Z28 {p : Prop} (h : p := by repeat (first | (with_reducible first | exact HB.out | apply bla | apply pbn | apply bl1 | refine bls ?_ GE513.out) | exact HB.out)) : p := h
theorem Z29 {p : Prop} (h : p := by (with_reducible repeat (first | apply bdn | apply bdr | apply bal)); exact BK247.out) : p := h
theorem Z30 {p : Prop} (h : p := by (with_reducible repeat (first | apply bdn | apply bdr | apply bal)); exact BK359.out) : p := h
theorem Z31 {p : Prop} (h : p := by (with_reducible repeat (first | apply bdn | apply bdr | apply bal)); refine blk_far ?_ NB359_376.out _; (with_reducible repeat (first | apply bdn | apply bdr | apply bal)); refine blk_far ?_ NB359_376.out _; (with_reducible repeat (first | apply bdn | apply bdr | apply bal)); refine blk_far ?_ NB359_376.out _; (with_reducible repeat (first | apply bdn | apply bdr | apply bal)); refine blk_far ?_ NB359_375.out _; (with_reducible repeat (first | apply bdn | apply bdr | apply bal)); refine blk_far ?_ NB359_375.out _; (with_reducible repeat (first | apply bdn | apply bdr | apply bal)); refine blk_far ?_ NB359_375.out _; (with_reducible repeat (first | apply bdn | apply bdr | apply bal)); exact BK359.out) : p := h
theorem Z32 {p : Prop} (h : p := by repeat (first | (with_reducible first | exact HB.out | apply bla | apply pbn | apply bl1 | refine bls ?_ GE310.out | refine bls ?_ GE311.out | refine bls ?_ GE312.out) | exact HB.out)) : p := h
theorem Z33 {p : Prop} (h : p := by (with_reducible repeat (first | apply bdn | apply bdr | apply bal)); exact BK341.out) : p := h
theorem Z34 {p : Prop} (h : p := by (with_reducible repeat (first | apply Kd.R_alloc | apply Kd.R_drewN | apply Kd.R_drew)); exact (Kd.R_mono (Kd.R_mono (Kd.R_far (p := ⟨gb376, 2, none⟩) (Kd.R_far (p := ⟨gb376, 1, none⟩) (Kd.R_far (p := ⟨gb376, 0, none⟩) (Kd.R_far (p := ⟨gb375, 2, none⟩) (Kd.R_far (p := ⟨gb375, 1, none⟩) (Kd.R_far (p := ⟨gb375, 0, none⟩) (Kd.R_types (Kd.R_types HO363.out BK375.out (by decide)) BK376.out (by decide)) (fun _ hk => hk.1.2) (.slice Ao23 t361.length co23)) (fun _ hk => hk.1.2) (.slice Ao27 t364.length co27)) (fun _ hk => hk.1.2) (.string t367)) (fun _ hk => hk.2) (.slice Ao28 t368.length co28)) (fun _ hk => hk.2) (.slice Ao31 t371.length co31)) (fun _ hk => hk.2) (.string t374)) (fun _ h_ => h_.1)) (fun _ h_ => h_.1))) : p := h
theorem Z35 {p : Prop} (h : p := by (with_reducible repeat (first | apply Kd.R_alloc | apply Kd.R_drewN | apply Kd.R_drew)); exact (Kd.R_mono (Kd.R_mono (Kd.R_far (p := ⟨gb376, 2, none⟩) (Kd.R_far (p := ⟨gb376, 1, none⟩) (Kd.R_far (p := ⟨gb376, 0, none⟩) (Kd.R_far (p := ⟨gb375, 2, none⟩) (Kd.R_far (p := ⟨gb375, 1, none⟩) (Kd.R_far (p := ⟨gb375, 0, none⟩) (Kd.R_types (Kd.R_types HO366.out BK375.out (by decide)) BK376.out (by decide)) (fun _ hk => hk.1.2) (.slice Ao23 t361.length co23)) (fun _ hk => hk.1.2) (.slice Ao27 t364.length co27)) (fun _ hk => hk.1.2) (.string t367)) (fun _ hk => hk.2) (.slice Ao28 t368.length co28)) (fun _ hk => hk.2) (.slice Ao31 t371.length co31)) (fun _ hk => hk.2) (.string t374)) (fun _ h_ => h_.1)) (fun _ h_ => h_.1))) : p := h
theorem Z36 {p : Prop} (h : p := by (with_reducible repeat (first | apply Kd.R_alloc | apply Kd.R_drewN | apply Kd.R_drew)); exact (Kd.R_mono (Kd.R_mono (Kd.R_far (p := ⟨gb376, 2, none⟩) (Kd.R_far (p := ⟨gb376, 1, none⟩) (Kd.R_far (p := ⟨gb376, 0, none⟩) (Kd.R_far (p := ⟨gb375, 2, none⟩) (Kd.R_far (p := ⟨gb375, 1, none⟩) (Kd.R_far (p := ⟨gb375, 0, none⟩) (Kd.R_types (Kd.R_types HO370.out BK375.out (by decide)) BK376.out (by decide)) (fun _ hk => hk.1.2) (.slice Ao23 t361.length co23)) (fun _ hk => hk.1.2) (.slice Ao27 t364.length co27)) (fun _ hk => hk.1.2) (.string t367)) (fun _ hk => hk.2) (.slice Ao28 t368.length co28)) (fun _ hk => hk.2) (.slice Ao31 t371.length co31)) (fun _ hk => hk.2) (.string t374)) (fun _ h_ => h_.1)) (fun _ h_ => h_.1))) : p := h
theorem Z37 {p : Prop} (h : p := by (with_reducible repeat (first | apply Kd.R_alloc | apply Kd.R_drewN | apply Kd.R_drew)); exact (Kd.R_mono (Kd.R_mono (Kd.R_far (p := ⟨gb376, 2, none⟩) (Kd.R_far (p := ⟨gb376, 1, none⟩) (Kd.R_far (p := ⟨gb376, 0, none⟩) (Kd.R_far (p := ⟨gb375, 2, none⟩) (Kd.R_far (p := ⟨gb375, 1, none⟩) (Kd.R_far (p := ⟨gb375, 0, none⟩) (Kd.R_types (Kd.R_types HO373.out BK375.out (by decide)) BK376.out (by decide)) (fun _ hk => hk.1.2) (.slice Ao23 t361.length co23)) (fun _ hk => hk.1.2) (.slice Ao27 t364.length co27)) (fun _ hk => hk.1.2) (.string t367)) (fun _ hk => hk.2) (.slice Ao28 t368.length co28)) (fun _ hk => hk.2) (.slice Ao31 t371.length co31)) (fun _ hk => hk.2) (.string t374)) (fun _ h_ => h_.1)) (fun _ h_ => h_.1))) : p := h
theorem Z38 {p : Prop} (h : p := by (with_reducible repeat (first | apply Kd.R_alloc | apply Kd.R_drewN | apply Kd.R_drew)); exact (Kd.R_mono (Kd.R_mono (Kd.R_far (p := ⟨gb376, 2, none⟩) (Kd.R_far (p := ⟨gb376, 1, none⟩) (Kd.R_far (p := ⟨gb376, 0, none⟩) (Kd.R_far (p := ⟨gb375, 2, none⟩) (Kd.R_far (p := ⟨gb375, 1, none⟩) (Kd.R_far (p := ⟨gb375, 0, none⟩) (Kd.R_types (Kd.R_types HO363.out BK375.out (by decide)) BK376.out (by decide)) (fun _ hk => hk.1.2) (.slice Ao41 t361.length co41)) (fun _ hk => hk.1.2) (.slice Ao45 t364.length co45)) (fun _ hk => hk.1.2) (.string t367)) (fun _ hk => hk.2) (.slice Ao46 t368.length co46)) (fun _ hk => hk.2) (.slice Ao49 t371.length co49)) (fun _ hk => hk.2) (.string t374)) (fun _ h_ => h_.1)) (fun _ h_ => h_.1))) : p := h
theorem Z39 {p : Prop} (h : p := by (with_reducible repeat (first | apply Kd.R_alloc | apply Kd.R_drewN | apply Kd.R_drew)); exact (Kd.R_mono (Kd.R_mono (Kd.R_far (p := ⟨gb376, 2, none⟩) (Kd.R_far (p := ⟨gb376, 1, none⟩) (Kd.R_far (p := ⟨gb376, 0, none⟩) (Kd.R_far (p := ⟨gb375, 2, none⟩) (Kd.R_far (p := ⟨gb375, 1, none⟩) (Kd.R_far (p := ⟨gb375, 0, none⟩) (Kd.R_types (Kd.R_types HO366.out BK375.out (by decide)) BK376.out (by decide)) (fun _ hk => hk.1.2) (.slice Ao41 t361.length co41)) (fun _ hk => hk.1.2) (.slice Ao45 t364.length co45)) (fun _ hk => hk.1.2) (.string t367)) (fun _ hk => hk.2) (.slice Ao46 t368.length co46)) (fun _ hk => hk.2) (.slice Ao49 t371.length co49)) (fun _ hk => hk.2) (.string t374)) (fun _ h_ => h_.1)) (fun _ h_ => h_.1))) : p := h
theorem Z40 {p : Prop} (h : p := by (with_reducible repeat (first | apply Kd.R_alloc | apply Kd.R_drewN | apply Kd.R_drew)); exact (Kd.R_mono (Kd.R_mono (Kd.R_far (p := ⟨gb376, 2, none⟩) (Kd.R_far (p := ⟨gb376, 1, none⟩) (Kd.R_far (p := ⟨gb376, 0, none⟩) (Kd.R_far (p := ⟨gb375, 2, none⟩) (Kd.R_far (p := ⟨gb375, 1, none⟩) (Kd.R_far (p := ⟨gb375, 0, none⟩) (Kd.R_types (Kd.R_types HO370.out BK375.out (by decide)) BK376.out (by decide)) (fun _ hk => hk.1.2) (.slice Ao41 t361.length co41)) (fun _ hk => hk.1.2) (.slice Ao45 t364.length co45)) (fun _ hk => hk.1.2) (.string t367)) (fun _ hk => hk.2) (.slice Ao46 t368.length co46)) (fun _ hk => hk.2) (.slice Ao49 t371.length co49)) (fun _ hk => hk.2) (.string t374)) (fun _ h_ => h_.1)) (fun _ h_ => h_.1))) : p := h
theorem Z41 {p : Prop} (h : p := by (with_reducible repeat (first | apply Kd.R_alloc | apply Kd.R_drewN | apply Kd.R_drew)); exact (Kd.R_mono (Kd.R_mono (Kd.R_far (p := ⟨gb376, 2, none⟩) (Kd.R_far (p := ⟨gb376, 1, none⟩) (Kd.R_far (p := ⟨gb376, 0, none⟩) (Kd.R_far (p := ⟨gb375, 2, none⟩) (Kd.R_far (p := ⟨gb375, 1, none⟩) (Kd.R_far (p := ⟨gb375, 0, none⟩) (Kd.R_types (Kd.R_types HO373.out BK375.out (by decide)) BK376.out (by decide)) (fun _ hk => hk.1.2) (.slice Ao41 t361.length co41)) (fun _ hk => hk.1.2) (.slice Ao45 t364.length co45)) (fun _ hk => hk.1.2) (.string t367)) (fun _ hk => hk.2) (.slice Ao46 t368.length co46)) (fun _ hk => hk.2) (.slice Ao49 t371.length co49)) (fun _ hk => hk.2) (.string t374)) (fun _ h_ => h_.1)) (fun _ h_ => h_.1))) : p := h
theorem Z42 {p : Prop} (h : p := by repeat (first | exact HR1.out | (with_reducible refine Kd.C_alloc ?_ _) | (with_reducible refine Kd.C_drewN ?_ _) | (with_reducible refine Kd.C_drew ?_))) : p := h
theorem Z43 {p : Prop} (h : p := by exact (Reps.one (show Kd.FK (Kd.slice 3 (Kd.int .i64)) _ _ l1 [.slice A1 l1.length c1] from (Kd.FK_slice_mk (Kd.V_reads' (Kd.V_mono (ok' := (fun k_ => ((P1_ k_ ∨ P2_ k_) ∨ w.heap.size ≤ k_))) (HO1.out) (fun k_ hk => hk))).2.1 (Kd.V_F (Kd.V_mono (ok' := (fun k_ => ((P1_ k_ ∨ P2_ k_) ∨ w.heap.size ≤ k_))) (HO1.out) (fun k_ hk => hk))))) (Reps.one (show Kd.FK (Kd.slice 3 (Kd.int .i64)) _ _ l2 [.slice A2 l2.length c2] from (Kd.FK_slice_mk (Kd.V_reads' (Kd.V_mono (ok' := (fun k_ => ((P1_ k_ ∨ P2_ k_) ∨ w.heap.size ≤ k_))) (HO2.out) (fun k_ hk => hk))).2.1 (Kd.V_F (Kd.V_mono (ok' := (fun k_ => ((P1_ k_ ∨ P2_ k_) ∨ w.heap.size ≤ k_))) (HO2.out) (fun k_ hk => hk))))) (Reps.none _ _)))) : p := h
theorem Z44 {p : Prop} (h : p := by (with_reducible repeat (first | apply Kd.V_alloc | apply Kd.V_drewN | apply Kd.V_drew)); exact HO2.out) : p := h
theorem Z45 {p : Prop} (h : p := by (with_reducible repeat (first | apply bdn | apply bdr | apply bal)); refine bpt (cs := #[.string t356, .string ⟨#[]⟩]) ?_ 1 _ rfl; (with_reducible repeat (first | apply bdn | apply bdr | apply bal)); refine bpt (cs := #[.string ⟨#[]⟩, .string ⟨#[]⟩]) ?_ 0 _ rfl; (with_reducible repeat (first | apply bdn | apply bdr | apply bal)); exact BK359.out) : p := h
theorem Z46 {p : Prop} (h : p := by (with_reducible repeat (first | apply bdn | apply bdr | apply bal)); exact BK248.out) : p := h
theorem Z47 {p : Prop} (h : p := by repeat (first | (with_reducible first | exact HB.out | apply bla | apply pbn | apply bl1 | refine bls ?_ GE359.out | refine bls ?_ GE375.out) | exact HB.out)) : p := h
theorem Z48 {p : Prop} (h : p := by repeat (first | (with_reducible first | exact HB.out | apply bla | apply pbn | apply bl1 | refine bls ?_ GE489.out) | exact HB.out)) : p := h
theorem Z49 {p : Prop} (h : p := by repeat (first | (with_reducible first | exact HB.out | apply bla | apply pbn | apply bl1 | refine bls ?_ GE321.out | refine bls ?_ GE324.out | refine bls ?_ GE326.out) | exact HB.out)) : p := h
theorem Z50 {p : Prop} (h : p := by repeat (first | exact (Kd.V_reads' HO_8.out).2.2 | (with_reducible refine Kd.C_alloc ?_ _) | (with_reducible refine Kd.C_drewN ?_ _) | (with_reducible refine Kd.C_drew ?_))) : p := h
theorem Z51 {p : Prop} (h : p := by (with_reducible repeat (first | apply bdn | apply bdr | apply bal)); exact BK292.out) : p := h
theorem Z52 {p : Prop} (h : p := by exact (Reps.one (show Kd.FK (Kd.slice 3 (Kd.int .i64)) _ _ l1 [.slice A1 l1.length c1] from (Kd.FK_slice_mk (Kd.V_reads' (Kd.V_mono (ok' := (fun k_ => (P1_ k_ ∨ w.heap.size ≤ k_))) (HO1.out) (fun k_ hk => hk))).2.1 (Kd.V_F (Kd.V_mono (ok' := (fun k_ => (P1_ k_ ∨ w.heap.size ≤ k_))) (HO1.out) (fun k_ hk => hk))))) (Reps.none _ _))) : p := h
theorem Z53 {p : Prop} (h : p := by repeat (first | (with_reducible first | exact HB.out | apply bla | apply pbn | apply bl1 | refine bls ?_ GE524.out) | exact HB.out)) : p := h
theorem Z54 {p : Prop} (h : p := by (with_reducible repeat (first | apply Kd.R_alloc | apply Kd.R_drewN | apply Kd.R_drew)); exact HO363.out) : p := h
theorem Z55 {p : Prop} (h : p := by (with_reducible repeat (first | apply Kd.R_alloc | apply Kd.R_drewN | apply Kd.R_drew)); exact HO366.out) : p := h
theorem Z56 {p : Prop} (h : p := by repeat (first | exact HR544_0.out | (with_reducible refine Kd.C_alloc ?_ _) | (with_reducible refine Kd.C_drewN ?_ _) | (with_reducible refine Kd.C_drew ?_))) : p := h
theorem Z57 {p : Prop} (h : p := by repeat (first | exact HR545_0.out | (with_reducible refine Kd.C_alloc ?_ _) | (with_reducible refine Kd.C_drewN ?_ _) | (with_reducible refine Kd.C_drew ?_))) : p := h
theorem Z58 {p : Prop} (h : p := by (with_reducible repeat (first | apply Kd.R_alloc | apply Kd.R_drewN | apply Kd.R_drew)); exact HO_6.out) : p := h
theorem Z59 {p : Prop} (h : p := by (with_reducible repeat (first | apply bdn | apply bdr | apply bal)); refine bpt (cs := #[.string ((rd_T53 l1 x34_2).f0), .string ⟨#[]⟩]) ?_ 1 _ rfl; (with_reducible repeat (first | apply bdn | apply bdr | apply bal)); refine bpt (cs := #[.string ⟨#[]⟩, .string ⟨#[]⟩]) ?_ 0 _ rfl; (with_reducible repeat (first | apply bdn | apply bdr | apply bal)); exact BK332.out) : p := h
theorem Z60 {p : Prop} (h : p := by (with_reducible repeat (first | apply bdn | apply bdr | apply bal)); exact BK310.out) : p := h
theorem Z61 {p : Prop} (h : p := by first | omega | exact Nat.le_refl _) : p := h
theorem Z62 {p : Prop} (h : p := by (with_reducible repeat (first | apply bdn | apply bdr | apply bal)); refine bpt (cs := #[.string x325000_1, .string x322001_2]) ?_ 1 _ rfl; (with_reducible repeat (first | apply bdn | apply bdr | apply bal)); refine bpt (cs := #[.string x322000_2, .string x322001_2]) ?_ 0 _ rfl; (with_reducible repeat (first | apply bdn | apply bdr | apply bal)); exact BK321.out) : p := h
theorem Z63 {p : Prop} (h : p := by repeat (first | (with_reducible first | exact HB.out | apply bla | apply pbn | apply bl1 | refine bls ?_ GE168.out) | exact HB.out)) : p := h
theorem Z64 {p : Prop} (h : p := by repeat (first | (with_reducible first | exact HB.out | apply bla | apply pbn | apply bl1 | refine bls ?_ GE321.out) | exact HB.out)) : p := h
theorem Z65 {p : Prop} (h : p := by repeat (first | (with_reducible first | exact HB.out | apply bla | apply pbn | apply bl1 | refine bls ?_ GE485.out) | exact HB.out)) : p := h
theorem Z66 {p : Prop} (h : p := by (with_reducible repeat (first | apply bdn | apply bdr | apply bal)); exact BK375.out) : p := h
theorem Z67 {p : Prop} (h : p := by (with_reducible repeat (first | apply Kd.V_alloc | apply Kd.V_drewN | apply Kd.V_drew)); exact HO_7.out) : p := h
theorem Z68 {p : Prop} (h : p := by (with_reducible repeat (first | apply Kd.V_alloc | apply Kd.V_drewN | apply Kd.V_drew)); exact HO_8.out) : p := h
theorem Z69 {p : Prop} (h : p := by have := wbl _ _ hw327_0; first | rwa [add_block] at this | exact this) : p := h
theorem Z70 {p : Prop} (h : p := by have := wbl _ _ hw327_1; first | rwa [add_block] at this | exact this) : p := h
theorem Z71 {p : Prop} (h : p := by (with_reducible repeat (first | apply bdn | apply bdr | apply bal)); exact BK293.out) : p := h
theorem Z72 {p : Prop} (h : p := by first | exact Kd.R_nil _ _ _ _ _ | exact Kd.N_nil _ _ _ _ _ | exact Kd.V_nil _ _ _ _ _ | exact Kd.Q_nil _ _ _ _ _ | exact Kd.S_nil _ _ _ _ _) : p := h
theorem Z73 {p : Prop} (h : p := by repeat (first | (with_reducible first | exact HB.out | apply bla | apply pbn | apply bl1 | refine bls ?_ GE247.out | refine bls ?_ GE248.out | refine bls ?_ GE250.out) | exact HB.out)) : p := h
theorem Z74 {p : Prop} (h : p := by (with_reducible repeat (first | apply bdn | apply bdr | apply bal)); refine blk_far ?_ NB247_253.out _; (with_reducible repeat (first | apply bdn | apply bdr | apply bal)); refine blk_far ?_ NB247_253.out _; (with_reducible repeat (first | apply bdn | apply bdr | apply bal)); exact BK247.out) : p := h
theorem Z75 {p : Prop} (h : p := by (with_reducible repeat (first | apply bdn | apply bdr | apply bal)); refine blk_far ?_ NB248_253.out _; (with_reducible repeat (first | apply bdn | apply bdr | apply bal)); refine blk_far ?_ NB248_253.out _; (with_reducible repeat (first | apply bdn | apply bdr | apply bal)); exact BK248.out) : p := h
theorem Z76 {p : Prop} (h : p := by (with_reducible repeat (first | apply bdn | apply bdr | apply bal)); refine blk_far ?_ NB321_324.out _; (with_reducible repeat (first | apply bdn | apply bdr | apply bal)); refine blk_far ?_ NB321_324.out _; (with_reducible repeat (first | apply bdn | apply bdr | apply bal)); exact BK321.out) : p := h
theorem Z77 {p : Prop} (h : p := by (with_reducible repeat (first | apply bdn | apply bdr | apply bal)); refine blk_far ?_ NB321_326.out _; (with_reducible repeat (first | apply bdn | apply bdr | apply bal)); refine blk_far ?_ NB321_326.out _; (with_reducible repeat (first | apply bdn | apply bdr | apply bal)); exact BK321.out) : p := h
theorem Z78 {p : Prop} (h : p := by (with_reducible repeat (first | apply bdn | apply bdr | apply bal)); refine blk_far ?_ NB324_326.out _; (with_reducible repeat (first | apply bdn | apply bdr | apply bal)); refine blk_far ?_ NB324_326.out _; (with_reducible repeat (first | apply bdn | apply bdr | apply bal)); exact BK324.out) : p := h
theorem Z79 {p : Prop} (h : p := by (with_reducible repeat (first | apply bdn | apply bdr | apply bal)); refine blk_far ?_ NB321_332.out _; (with_reducible repeat (first | apply bdn | apply bdr | apply bal)); refine blk_far ?_ NB321_332.out _; (with_reducible repeat (first | apply bdn | apply bdr | apply bal)); exact BK321.out) : p := h
theorem Z80 {p : Prop} (h : p := by (with_reducible repeat (first | apply bdn | apply bdr | apply bal)); refine blk_far ?_ NB324_332.out _; (with_reducible repeat (first | apply bdn | apply bdr | apply bal)); refine blk_far ?_ NB324_332.out _; (with_reducible repeat (first | apply bdn | apply bdr | apply bal)); exact BK324.out) : p := h
theorem Z81 {p : Prop} (h : p := by exact HC0.out) : p := h
theorem Z82 {p : Prop} (h : p := by repeat (first | (with_reducible first | exact HB.out | apply bla | apply pbn | apply bl1 | refine bls ?_ GE165.out) | exact HB.out)) : p := h
theorem Z83 {p : Prop} (h : p := by repeat (first | (with_reducible first | exact HB.out | apply bla | apply pbn | apply bl1 | refine bls ?_ GE495.out) | exact HB.out)) : p := h
theorem Z84 {p : Prop} (h : p := by (with_reducible repeat (first | apply Kd.R_alloc | apply Kd.R_drewN | apply Kd.R_drew)); exact HO_249001.out) : p := h
theorem Z85 {p : Prop} (h : p := by have := HK1.out; omega) : p := h
theorem Z86 {p : Prop} (h : p := by (with_reducible repeat (first | apply bdn | apply bdr | apply bal)); exact BK281.out) : p := h
theorem Z87 {p : Prop} (h : p := by (with_reducible repeat (first | apply bdn | apply bdr | apply bal)); exact BK305.out) : p := h
theorem Z88 {p : Prop} (h : p := by (with_reducible repeat (first | apply bdn | apply bdr | apply bal)); exact BK311.out) : p := h
theorem Z89 {p : Prop} (h : p := by repeat (first | exact HR2.out | (with_reducible refine Kd.C_alloc ?_ _) | (with_reducible refine Kd.C_drewN ?_ _) | (with_reducible refine Kd.C_drew ?_))) : p := h
theorem Z90 {p : Prop} (h : p := by repeat (first | (with_reducible first | exact HB.out | apply bla | apply pbn | apply bl1 | refine bls ?_ GE292.out | refine bls ?_ GE293.out) | exact HB.out)) : p := h
theorem Z91 {p : Prop} (h : p := by repeat (first | (with_reducible first | exact HB.out | apply bla | apply pbn | apply bl1 | refine bls ?_ GE310.out | refine bls ?_ GE311.out) | exact HB.out)) : p := h
theorem Z92 {p : Prop} (h : p := by repeat (first | (with_reducible exact HR388_0.out) | (with_reducible refine Kd.C_alloc ?_ _) | (with_reducible refine Kd.C_drewN ?_ _) | (with_reducible refine Kd.C_drew ?_) | exact HR388_0.out)) : p := h
theorem Z93 {p : Prop} (h : p := by repeat (first | (with_reducible exact HR389_0.out) | (with_reducible refine Kd.C_alloc ?_ _) | (with_reducible refine Kd.C_drewN ?_ _) | (with_reducible refine Kd.C_drew ?_) | exact HR389_0.out)) : p := h
theorem Z94 {p : Prop} (h : p := by (with_reducible repeat (first | apply Kd.R_alloc | apply Kd.R_drewN | apply Kd.R_drew)); exact HO370.out) : p := h
theorem Z95 {p : Prop} (h : p := by (with_reducible repeat (first | apply Kd.R_alloc | apply Kd.R_drewN | apply Kd.R_drew)); exact HO373.out) : p := h
theorem Z96 {p : Prop} (h : p := by (with_reducible repeat (first | apply Kd.N_alloc | apply Kd.N_drewN | apply Kd.N_drew)); exact HO472.out) : p := h
theorem Z97 {p : Prop} (h : p := by repeat (first | exact (Kd.C_below HR2.out HB.out) | (with_reducible refine Kd.C_alloc ?_ _) | (with_reducible refine Kd.C_drewN ?_ _) | (with_reducible refine Kd.C_drew ?_))) : p := h
theorem Z98 {p : Prop} (h : p := by repeat (first | exact (Kd.C_below HR1.out HB.out) | (with_reducible refine Kd.C_alloc ?_ _) | (with_reducible refine Kd.C_drewN ?_ _) | (with_reducible refine Kd.C_drew ?_))) : p := h
theorem Z99 {p : Prop} (h : p := by repeat (first | exact (Kd.V_reads' HO_7.out).2.2 | (with_reducible refine Kd.C_alloc ?_ _) | (with_reducible refine Kd.C_drewN ?_ _) | (with_reducible refine Kd.C_drew ?_))) : p := h
theorem Z100 {p : Prop} (h : p := by (with_reducible repeat (first | apply bdn | apply bdr | apply bal)); exact BK160.out) : p := h
theorem Z101 {p : Prop} (h : p := by repeat (first | (with_reducible first | exact HB.out | apply bla | apply pbn | apply bl1 | refine bls ?_ GE121.out) | exact HB.out)) : p := h
theorem Z102 {p : Prop} (h : p := by repeat (first | (with_reducible first | exact HB.out | apply bla | apply pbn | apply bl1 | refine bls ?_ GE247.out) | exact HB.out)) : p := h
theorem Z103 {p : Prop} (h : p := by repeat (first | (with_reducible first | exact HB.out | apply bla | apply pbn | apply bl1 | refine bls ?_ GE292.out) | exact HB.out)) : p := h
theorem Z104 {p : Prop} (h : p := by repeat (first | (with_reducible first | exact HB.out | apply bla | apply pbn | apply bl1 | refine bls ?_ GE310.out) | exact HB.out)) : p := h
theorem Z105 {p : Prop} (h : p := by repeat (first | (with_reducible first | exact HB.out | apply bla | apply pbn | apply bl1 | refine bls ?_ GE336.out) | exact HB.out)) : p := h
theorem Z106 {p : Prop} (h : p := by repeat (first | (with_reducible first | exact HB.out | apply bla | apply pbn | apply bl1 | refine bls ?_ GE340.out) | exact HB.out)) : p := h
theorem Z107 {p : Prop} (h : p := by (with_reducible repeat (first | apply Kd.R_alloc | apply Kd.R_drewN | apply Kd.R_drew)); exact HO_249000.out) : p := h
theorem Z108 {p : Prop} (h : p := by (with_reducible repeat (first | apply Kd.N_alloc | apply Kd.N_drewN | apply Kd.N_drew)); exact HO384.out) : p := h
theorem Z109 {p : Prop} (h : p := by (with_reducible repeat (first | apply Kd.N_alloc | apply Kd.N_drewN | apply Kd.N_drew)); exact HO406.out) : p := h
theorem Z110 {p : Prop} (h : p := by (with_reducible repeat (first | apply Kd.R_alloc | apply Kd.R_drewN | apply Kd.R_drew)); exact HO_7.out) : p := h
theorem Z111 {p : Prop} (h : p := by (with_reducible repeat (first | apply Kd.R_alloc | apply Kd.R_drewN | apply Kd.R_drew)); exact HO_5.out) : p := h
theorem Z112 {p : Prop} (h : p := by (with_reducible repeat (first | apply bdn | apply bdr | apply bal)); exact BK294.out) : p := h
theorem Z113 {p : Prop} (h : p := by (with_reducible repeat (first | apply bdn | apply bdr | apply bal)); exact BK300.out) : p := h
theorem Z114 {p : Prop} (h : p := by (with_reducible repeat (first | apply bdn | apply bdr | apply bal)); exact BK513.out) : p := h
theorem Z115 {p : Prop} (h : p := by first | rfl | (simp [errW_none, errW_some] <;> rfl) | (simp only [← hji3, ← hji5]; first | rfl | (simp [errW_none, errW_some] <;> rfl)) | (simp [*, errW_none, errW_some] <;> rfl)) : p := h
theorem Z116 {p : Prop} (h : p := by repeat (first | exact (Kd.V_reads' HO2.out).2.2 | (with_reducible refine Kd.C_alloc ?_ _) | (with_reducible refine Kd.C_drewN ?_ _) | (with_reducible refine Kd.C_drew ?_))) : p := h
theorem Z117 {p : Prop} (h : p := by repeat (first | exact (Kd.V_reads' HO1.out).2.2 | (with_reducible refine Kd.C_alloc ?_ _) | (with_reducible refine Kd.C_drewN ?_ _) | (with_reducible refine Kd.C_drew ?_))) : p := h
theorem Z118 {p : Prop} (h : p := by first | rfl | (simp [errW_none, errW_some] <;> rfl) | (simp only [← hji3]; first | rfl | (simp [errW_none, errW_some] <;> rfl)) | (simp [*, errW_none, errW_some] <;> rfl)) : p := h
theorem Z119 {p : Prop} (h : p := by (try simp only [List.map_toArray, List.map_cons, List.map_nil]); first | done | (simp only [hji8]; rfl) | rfl | (simp only [List.length_drop, List.length_take]; rfl)) : p := h
theorem Z120 {p : Prop} (h : p := by repeat (first | (with_reducible first | exact HB.out | apply bla | apply pbn | apply bl1 | refine bls ?_ GE279.out) | exact HB.out)) : p := h
theorem Z121 {p : Prop} (h : p := by (with_reducible repeat (first | apply Kd.V_alloc | apply Kd.V_drewN | apply Kd.V_drew)); exact HO223.out) : p := h
theorem Z122 {p : Prop} (h : p := by (with_reducible repeat (first | apply Kd.R_alloc | apply Kd.R_drewN | apply Kd.R_drew)); exact HO410.out) : p := h
theorem Z123 {p : Prop} (h : p := by (with_reducible repeat (first | apply Kd.R_alloc | apply Kd.R_drewN | apply Kd.R_drew)); exact HO449.out) : p := h
theorem Z124 {p : Prop} (h : p := by (with_reducible repeat (first | apply Kd.V_alloc | apply Kd.V_drewN | apply Kd.V_drew)); exact HO456.out) : p := h
theorem Z126 {p : Prop} (h : p := by (with_reducible repeat (first | apply Kd.R_alloc | apply Kd.R_drewN | apply Kd.R_drew)); exact HO_3.out) : p := h
theorem Z127 {p : Prop} (h : p := by have hq := hc 0 _ rfl; rwa [Nat.mul_one, Nat.add_zero] at hq) : p := h
theorem Z128 {p : Prop} (h : p := by (with_reducible repeat (first | apply bdn | apply bdr | apply bal)); exact BK253.out) : p := h
theorem Z129 {p : Prop} (h : p := by (with_reducible repeat (first | apply bdn | apply bdr | apply bal)); exact BK312.out) : p := h
theorem Z130 {p : Prop} (h : p := by (with_reducible repeat (first | apply bdn | apply bdr | apply bal)); exact BK489.out) : p := h
theorem Z131 {p : Prop} (h : p := by have := HK1.out; have := HK2.out; omega) : p := h
theorem Z132 {p : Prop} (h : p := by repeat (first | (with_reducible first | exact HK.out | apply Kept.alloc | apply Kept.drewN | apply Kept.drew) | exact HK.out)) : p := h
theorem Z133 {p : Prop} (h : p := by exact HC1.out) : p := h
theorem Z134 {p : Prop} (h : p := by (with_reducible repeat (first | apply Kd.V_alloc | apply Kd.V_drewN | apply Kd.V_drew)); exact HL388_0.out) : p := h
theorem Z135 {p : Prop} (h : p := by (with_reducible repeat (first | apply Kd.V_alloc | apply Kd.V_drewN | apply Kd.V_drew)); exact HL389_0.out) : p := h
theorem Z136 {p : Prop} (h : p := by (with_reducible repeat (first | apply Kd.V_alloc | apply Kd.V_drewN | apply Kd.V_drew)); exact HO226.out) : p := h
theorem Z137 {p : Prop} (h : p := by (with_reducible repeat (first | apply Kd.R_alloc | apply Kd.R_drewN | apply Kd.R_drew)); exact HO260.out) : p := h
theorem Z138 {p : Prop} (h : p := by (with_reducible repeat (first | apply Kd.N_alloc | apply Kd.N_drewN | apply Kd.N_drew)); exact HO267.out) : p := h
theorem Z139 {p : Prop} (h : p := by (with_reducible repeat (first | apply Kd.N_alloc | apply Kd.N_drewN | apply Kd.N_drew)); exact HO387.out) : p := h
theorem Z140 {p : Prop} (h : p := by (with_reducible repeat (first | apply Kd.R_alloc | apply Kd.R_drewN | apply Kd.R_drew)); exact HO400.out) : p := h
theorem Z141 {p : Prop} (h : p := by (with_reducible repeat (first | apply Kd.R_alloc | apply Kd.R_drewN | apply Kd.R_drew)); exact HO518.out) : p := h
theorem Z142 {p : Prop} (h : p := by (with_reducible repeat (first | apply Kd.R_alloc | apply Kd.R_drewN | apply Kd.R_drew)); exact HO_0.out) : p := h
theorem Z143 {p : Prop} (h : p := by (with_reducible repeat (first | apply Kd.S_alloc | apply Kd.S_drewN | apply Kd.S_drew)); exact HO_5.out) : p := h
theorem Z144 {p : Prop} (h : p := by (with_reducible repeat (first | apply Kd.V_alloc | apply Kd.V_drewN | apply Kd.V_drew)); exact HO_0.out) : p := h
theorem Z145 {p : Prop} (h : p := by (with_reducible repeat (first | apply Kd.R_alloc | apply Kd.R_drewN | apply Kd.R_drew)); exact HO_9.out) : p := h
theorem Z146 {p : Prop} (h : p := by exact (Kd.V_reads' HO_8.out).2.1) : p := h
theorem Z147 {p : Prop} (h : p := by (with_reducible repeat (first | apply bdn | apply bdr | apply bal)); exact BK332.out) : p := h
theorem Z148 {p : Prop} (h : p := by (with_reducible repeat (first | apply bdn | apply bdr | apply bal)); exact BK376.out) : p := h
theorem Z149 {p : Prop} (h : p := by (with_reducible repeat (first | apply bdn | apply bdr | apply bal)); exact BK485.out) : p := h
theorem Z150 {p : Prop} (h : p := by first | rfl | (simp; done) | (simp only [← hji5] <;> (first | rfl | simp)) | (simp [*]; done)) : p := h
theorem Z151 {p : Prop} (h : p := by have := HJ3.out; have := HK2.out; omega) : p := h
theorem Z152 {p : Prop} (h : p := by assumption) : p := h
theorem Z153 {p : Prop} (h : p := by have := HJ6.out; have := HJ24.out; first | omega | exact Nat.le_refl _) : p := h
theorem Z154 {p : Prop} (h : p := by simp; omega) : p := h
theorem Z155 {p : Prop} (h : p := by rw [hw]; exact bls (HB.out) GB22.out) : p := h
theorem Z156 {p : Prop} (h : p := by show w.heap.size ≤ w.heap.size + 2; omega) : p := h
theorem Z157 {p : Prop} (h : p := by show w.heap.size ≤ w.heap.size + 3; omega) : p := h
theorem Z158 {p : Prop} (h : p := by exact HC544_0.out) : p := h
theorem Z159 {p : Prop} (h : p := by exact HC545_0.out) : p := h
theorem Z160 {p : Prop} (h : p := by exact HC2.out) : p := h
theorem Z161 {p : Prop} (h : p := by have := HJ6.out; first | omega | exact Nat.le_refl _) : p := h
theorem Z162 {p : Prop} (h : p := by rw [← add_field _ _ 1 (by omega)]; exact hc 1 _ rfl) : p := h
theorem Z163 {p : Prop} (h : p := by exact (Kd.V_reads' HO_7.out).2.1) : p := h
theorem Z164 {p : Prop} (h : p := by rw [hw, Ny512.out]; exact HP25.1) : p := h
theorem Z165 {p : Prop} (h : p := by rw [hw]; exact HP25.2) : p := h
theorem Z166 {p : Prop} (h : p := by unfold maxLen; omega) : p := h
theorem Z167 {p : Prop} (h : p := by rw [hsz]; exact hk) : p := h
theorem Z168 {p : Prop} (h : p := by exact GL.below hG Z0) : p := h
theorem Z169 {p : Prop} (h : p := by rw [hg]; exact (bsz Z0)) : p := h
theorem Z170 {p : Prop} (h : p := by first | exact Nat.ne_of_lt (Nat.lt_of_lt_of_le Z69 GW324.out) | (rw [add_block]; exact Nat.ne_of_lt (Nat.lt_of_lt_of_le Z69 GW324.out)) | (show (Addr.add _ _).block ≠ _; rw [add_block]; exact Nat.ne_of_lt (Nat.lt_of_lt_of_le Z69 GW324.out)) | (dsimp only; exact Nat.ne_of_lt (Nat.lt_of_lt_of_le Z69 GW324.out))) : p := h
theorem Z171 {p : Prop} (h : p := by first | exact Nat.ne_of_lt (Nat.lt_of_lt_of_le Z70 GW324.out) | (rw [add_block]; exact Nat.ne_of_lt (Nat.lt_of_lt_of_le Z70 GW324.out)) | (show (Addr.add _ _).block ≠ _; rw [add_block]; exact Nat.ne_of_lt (Nat.lt_of_lt_of_le Z70 GW324.out)) | (dsimp only; exact Nat.ne_of_lt (Nat.lt_of_lt_of_le Z70 GW324.out))) : p := h
theorem Z172 {p : Prop} (h : p := by rw [hg]; exact Nat.ne_of_lt (blk_lt (g := gb247) (o := .cells #[.slice none 0 0, .slice none 0 0, .string ⟨#[]⟩] 191 (0, 0)) Z29)) : p := h
theorem Z173 {p : Prop} (h : p := by rw [hg]; exact Nat.ne_of_gt (blk_lt (g := gb247) (o := .cells #[.slice none 0 0, .slice none 0 0, .string ⟨#[]⟩] 191 (0, 0)) Z29)) : p := h
theorem Z174 {p : Prop} (h : p := by rw [hg]; exact Nat.ne_of_lt (blk_lt (g := gb324) (o := .cells #[.string x325000_1, .string x325001_1] 53 (0, 0)) Z24)) : p := h
theorem Z175 {p : Prop} (h : p := by rw [hg]; exact Nat.ne_of_gt (blk_lt (g := gb324) (o := .cells #[.string x325000_1, .string x325001_1] 53 (0, 0)) Z24)) : p := h
theorem Z176 {p : Prop} (h : p := by rw [hg]; exact Nat.ne_of_lt (blk_lt (g := gb359) (o := .cells #[.string t356, .string t357] 53 (0, 0)) Z30)) : p := h
theorem Z177 {p : Prop} (h : p := by rw [hg]; exact Nat.ne_of_gt (blk_lt (g := gb359) (o := .cells #[.string t356, .string t357] 53 (0, 0)) Z30)) : p := h
theorem Z178 {p : Prop} (h : p := by rw [hg]; exact Nat.ne_of_lt (blk_lt (g := gb321) (o := .cells #[.string ⟨#[]⟩, .string ⟨#[]⟩] 53 (0, 0)) Z17)) : p := h
theorem Z179 {p : Prop} (h : p := by rw [hg]; exact Nat.ne_of_gt (blk_lt (g := gb321) (o := .cells #[.string ⟨#[]⟩, .string ⟨#[]⟩] 53 (0, 0)) Z17)) : p := h
theorem Z180 {p : Prop} (h : p := by exact Kd.V_mk HC1.out (Kd.F_below (Kd.C_F (Kd.heap_int .i64) HR1.out) Z0)) : p := h
theorem Z181 {p : Prop} (h : p := by rw [hg]; exact Nat.ne_of_lt (blk_lt (g := gb375) (o := .cells #[.slice none 0 0, .slice none 0 0, .string ⟨#[]⟩] 191 (0, 0)) Z66)) : p := h
theorem Z182 {p : Prop} (h : p := by rw [hg]; exact Nat.ne_of_gt (blk_lt (g := gb375) (o := .cells #[.slice none 0 0, .slice none 0 0, .string ⟨#[]⟩] 191 (0, 0)) Z66)) : p := h
theorem Z183 {p : Prop} (h : p := by exact GL.below hG Z5) : p := h
theorem Z184 {p : Prop} (h : p := by rw [hg]; exact (bsz Z10)) : p := h
theorem Z185 {p : Prop} (h : p := by rw [hg]; exact Nat.ne_of_lt (blk_lt (g := gb248) (o := .cells #[u249000, u249001, .string x249002_1] 191 (0, 0)) Z46)) : p := h
theorem Z186 {p : Prop} (h : p := by rw [hg]; exact Nat.ne_of_gt (blk_lt (g := gb248) (o := .cells #[u249000, u249001, .string x249002_1] 191 (0, 0)) Z46)) : p := h
theorem Z187 {p : Prop} (h : p := by rw [hg]; exact Nat.ne_of_lt (blk_lt (g := gb321) (o := .cells #[.string x322000_2, .string x322001_2] 53 (0, 0)) Z17)) : p := h
theorem Z188 {p : Prop} (h : p := by rw [hg]; exact Nat.ne_of_gt (blk_lt (g := gb321) (o := .cells #[.string x322000_2, .string x322001_2] 53 (0, 0)) Z17)) : p := h
theorem Z189 {p : Prop} (h : p := by rw [hg]; exact Nat.ne_of_lt (blk_lt (g := gb292) (o := .cells #[.string a0_0, .string a0_1] 53 (0, 0)) Z51)) : p := h
theorem Z190 {p : Prop} (h : p := by rw [hg]; exact Nat.ne_of_gt (blk_lt (g := gb292) (o := .cells #[.string a0_0, .string a0_1] 53 (0, 0)) Z51)) : p := h
theorem Z191 {p : Prop} (h : p := by rw [hg]; exact Nat.ne_of_lt (blk_lt (g := gb310) (o := .cells #[.string a0_0, .string a0_1] 53 (0, 0)) Z60)) : p := h
theorem Z192 {p : Prop} (h : p := by rw [hg]; exact Nat.ne_of_gt (blk_lt (g := gb310) (o := .cells #[.string a0_0, .string a0_1] 53 (0, 0)) Z60)) : p := h
theorem Z193 {p : Prop} (h : p := by rw [hg]; exact (bsz Z14)) : p := h
theorem Z194 {p : Prop} (h : p := by exact GL.below hG Z7) : p := h
theorem Z195 {p : Prop} (h : p := by exact GL.below hG Z13) : p := h
theorem Z196 {p : Prop} (h : p := by rw [hg]; exact (bsz Z47)) : p := h
theorem Z197 {p : Prop} (h : p := by rw [hg]; exact (bsz Z8)) : p := h
theorem Z198 {p : Prop} (h : p := by exact GL.below hG Z8) : p := h
theorem Z199 {p : Prop} (h : p := by exact GL.below hG Z26) : p := h
theorem Z200 {p : Prop} (h : p := by exact GL.below hG Z20) : p := h
theorem Z201 {p : Prop} (h : p := by exact GL.below hG Z27) : p := h
theorem Z202 {p : Prop} (h : p := by exact GL.below hG Z21) : p := h
theorem Z203 {p : Prop} (h : p := by exact GL.below hG Z28) : p := h
end Go.Proofs.YtkgkihichdcpmaaGreatDoor.H
